import Derived.Test.YtobamahlipiakaaGreatT1
import Derived.Test.YtobamahlipiakaaGreatEU
import Derived.Test.YtobamahlipiakaaGreatA1
import Derived.Test.YtobamahlipiakaaGreatA2
set_option linter.unusedVariables false
set_option linter.unusedSimpArgs false
set_option maxRecDepth 100000
set_option maxHeartbeats 40000000
namespace Go.Proofs.YtobamahlipiakaaGreat
open Go.RowKit
theorem Yk {client server r} (G:Jq client server=some r):Fn Tryz.prog 77 0 [.agg (Ac.dv client),.agg (Ac.dv server)] [] (fun d' b'=>d'=.val (.bool r)/\b'=[]):=by
 unfold Jq at G
 refine Ea 0 13 Tryz.func77 fun _ _ _=>?_
 exact Cj
instance aY4:Wk 77:=⟨_,@Yk⟩
theorem Nz {t r} (G:Kz t=some r):Fn Tryz.prog 79 0 [.agg (Cl.dv t)] [] (fun d' b'=>d'=.sl 1 (Ai eI r)/\b'=[]):=by
 unfold Kz at G
 refine Ea 0 6 Tryz.func79 fun _ _ _=>?_
 exact Cj
instance aZl:Wk 79:=⟨_,@Nz⟩
theorem Nx {x' c0 r} (G:Hd x' c0=some r):Fn Tryz.prog 116 0 [.agg (Al.dv x'),.elt (((Az.ec c0):List C).drop 0)] [] (fun d' b'=>d'=.val (.bool r)/\b'=[]):=by
 unfold Hd at G
 refine Ea 0 17 Tryz.func116 fun _ _ _=>?_
 refine Br 2 fun B G=>?_
 refine F0 rfl rfl (Jy tW aKw (by decide) (aEi rfl)) rfl rfl ?_
 refine F0 rfl rfl (Jy tY jA (by decide) (aEi rfl)) rfl rfl ?_
 refine F0 rfl rfl (Gq jA (c:=.int .i64 c0.Sign.Alg) rfl) rfl rfl ?_
 refine Jf (.l 0 (.e 0)) fun h2 B G=>?_
 refine F0 (Mt rfl rfl h2) rfl (Jy tW aKw (by decide) (aEi rfl)) rfl rfl ?_
 refine F0 (Mt rfl rfl h2) rfl (Jy tY jA (by decide) (aEi rfl)) rfl rfl ?_
 refine F0 (Mt rfl rfl h2) rfl (Gq jA (c:=.int .i64 c0.Sign.Alg) rfl) rfl rfl ?_
 exact Cj
instance aWl:Wk 116:=⟨_,@Nx⟩
theorem Je {s:(List Al)} {f:Al->Option (Bool)} {f_c0:Az} (hf_f:∀ (x0:Al) (y:Bool),f x0=some y->Fn Tryz.prog 116 0 [.agg (Al.dv x0),.elt (((Az.ec f_c0):List C).drop 0)] [] (fun d' b'=>d'=.val (.bool y)/\b'=[])) {r:Int} (G:Bv s f=some r):Fn Tryz.prog 115 0 [.sl 4 (Ai Al.enc s),.clo 116 0 [.elt (((Az.ec f_c0):List C).drop 0)]] [] (fun d' b'=>d'=vj r/\b'=[]):=by
 unfold Bv at G
 refine Ea 0 19 Tryz.func115 fun _ _ _=>?_
 refine Br 4 fun B G=>?_
 refine He (fun (x8_1:Int)=>mk [(0,.sl 4 (Ai Al.enc s)),(1,.clo 116 0 [.elt (((Az.ec f_c0):List C).drop 0)]),(7,.val (.int .i64 (s.length:Int))),(8,vj x8_1)] [] 0) G (Cd []) ?_
 rintro x8_1 m1 o1 G hn1
 unfold Bv.l1 at G
 refine Dx (.r 2 (.e 7)) fun _ e _ B G=>?_
 obtain⟨y,hy,G⟩:=An G
 refine E1 (rd:=[]) (ps:=[]) (gs:=[]) false rfl rfl (hf_f e _ hy) rfl rfl (.cons (.agg (.cons .val (.cons .val (.cons .val (.cons .sl .nil))))) (.cons .elt .nil)) rfl rfl (by intro h; cases h) rfl rfl rfl rfl ?_
 exact Cj
theorem U7 {server suite r} (G:Fg server suite=some r):Fn Tryz.prog 82 0 [.agg (Ac.dv server),vj suite] [] (fun d' b'=>d'=.tup [vj r.1,.val (.bool r.2)]/\b'=[]):=by
 unfold Fg at G
 refine Ea 0 23 Tryz.func82 fun _ _ _=>?_
 refine Jf (.l 5 (.e 1)) fun y _ _ B G=>?_
 refine Ay <| Hg (σ':=mk [(2,.ptr 0 0),(6,.elt (((Az.ec y.1):List C).drop 0))] [(0,.box (Ac.dv server) 29)] 1) ((by exact Rr.lists [(0,0)] rfl rfl ⟨⟨_,rfl,.ptr rfl⟩,⟨_,rfl,.frzb (ks:=[none,none,none,none,none,none,none,none,none,none,none,none]) rfl (.cons .int (.cons .str (.cons .int (.cons .int (.cons .int (.cons .int (.cons .int (.cons .int (.cons .int (.cons .int (.cons .int (.cons .int .nil)))))))))))) (H3 rfl)⟩,trivial⟩ ⟨.inl ⟨0,_,rfl,rfl,⟨rfl,.cons (.val _) (.cons (.val _) (.cons (.val _) (.cons (.sl _ _) (.cons (.val _) (.cons (.sl _ _) (.cons (.sl _ _) (.cons (.sl _ _) (.cons (.val _) .nil))))))))⟩⟩,trivial⟩)) ?_
 refine Br 1 fun B G=>?_
 obtain⟨y_2,hy_2,G⟩:=An G
 refine L9 (@Je server.Identities (fun x0=>Hd x0 y.1) y.1 (fun x0 yy hh=>@Nx x0 y.1 yy hh) _ hy_2) ?_
 exact Cj
instance aX7:Wk 82:=⟨_,@U7⟩
theorem Jh {t suite r} (G:B2 t suite=some r):Fn Tryz.prog 81 0 [.agg (Cl.dv t),vj suite] [] (fun d' b'=>d'=.val (.bool r)/\b'=[]):=by
 unfold B2 at G
 refine Ea 0 53 Tryz.func81 fun _ _ _=>?_
 refine Br 3 fun _ _ B G=>?_
 refine Ay <| A4 (ι:=Bool) (fun (x44_1:Bool)=>mk [(1,vj suite),(2,.ptr 0 0),(44,.val (.bool x44_1))] [(0,.box (Cl.dv t) 134)] 1) (fun (x44_1:Bool)=>B2.j1 t suite x44_1=some r) ?_ ?_
 exact Cj
 rintro x44_1 G
 unfold B2.j1 at G
 exact Gn
instance aZb:Wk 81:=⟨_,@Jh⟩
theorem H1 {s:(List Int)} {f:Int->Option (Bool)} {f_c0:Cl} (hf_f:∀ (x0:Int) (y:Bool),f x0=some y->Fn Tryz.prog 81 0 [.agg (Cl.dv f_c0),vj x0] [] (fun d' b'=>d'=.val (.bool y)/\b'=[])) {r:Int} (G:Bi s f=some r):Fn Tryz.prog 80 0 [.sl 1 (Ai eI s),.clo 81 1 [.agg (Cl.dv f_c0)]] [] (fun d' b'=>d'=vj r/\b'=[]):=by
 unfold Bi at G
 refine Ea 0 19 Tryz.func80 fun _ _ _=>?_
 refine Br 4 fun B G=>?_
 refine He (fun (x8_1:Int)=>mk [(0,.sl 1 (Ai eI s)),(1,.clo 81 1 [.agg (Cl.dv f_c0)]),(7,.val (.int .i64 (s.length:Int))),(8,vj x8_1)] [] 0) G (Cd []) ?_
 rintro x8_1 m1 o1 G hn1
 unfold Bi.l1 at G
 refine Dx (.r 2 (.e 7)) fun _ e _ B G=>?_
 obtain⟨y,hy,G⟩:=An G
 refine E1 (rd:=[]) (ps:=[]) (gs:=[]) false rfl rfl (hf_f e _ hy) rfl rfl (.cons (.agg (.cons .val (.cons .val (.cons .val (.cons .sl (.cons .val (.cons .sl (.cons .sl (.cons .sl (.cons .val (.cons .val (.cons .sl .nil)))))))))))) (.cons .val .nil)) rfl rfl (by intro h; cases h) rfl rfl rfl rfl ?_
 exact Cj
theorem S2 {c r} (G:Mv c=some r):Fn Tryz.prog 118 0 [.agg (Ae.dv c)] [] (fun d' b'=>d'=.val (.bool r)/\b'=[]):=by
 unfold Mv at G
 refine Ea 0 6 Tryz.func118 fun _ _ _=>?_
 exact Cj
instance aUr:Wk 118:=⟨_,@S2⟩
theorem Kl {s:(List Ae)} {f:Ae->Option (Bool)} (hf_f:∀ (x0:Ae) (y:Bool),f x0=some y->Fn Tryz.prog 118 0 [.agg (Ae.dv x0)] [] (fun d' b'=>d'=.val (.bool y)/\b'=[])) {r:Int} (G:Bh s f=some r):Fn Tryz.prog 165 0 [.sl 15 (Ai Ae.enc s),.clo 118 0 []] [] (fun d' b'=>d'=vj r/\b'=[]):=by
 unfold Bh at G
 refine Ea 0 19 Tryz.func165 fun _ _ _=>?_
 refine Br 4 fun B G=>?_
 refine He (fun (x8_1:Int)=>mk [(0,.sl 15 (Ai Ae.enc s)),(1,.clo 118 0 []),(7,.val (.int .i64 (s.length:Int))),(8,vj x8_1)] [] 0) G (Cd []) ?_
 rintro x8_1 m1 o1 G hn1
 unfold Bh.l1 at G
 refine Dx (.r 2 (.e 7)) fun _ e _ B G=>?_
 obtain⟨y,hy,G⟩:=An G
 refine E1 (rd:=[]) (ps:=[]) (gs:=[]) false rfl rfl (hf_f e _ hy) rfl rfl (.cons (.agg (.cons .val (.cons .val (.cons .val (.cons .val (.cons .val (.cons .val (.cons .val (.cons .val (.cons .val (.cons .val (.cons .val (.cons .val (.cons .sl (.cons .val (.cons .val .nil)))))))))))))))) .nil) rfl rfl (by intro h; cases h) rfl rfl rfl rfl ?_
 exact Cj
theorem Ji {s:(List Ae)} {f:Ae->Option (Bool)} (hf_f:∀ (x0:Ae) (y:Bool),f x0=some y->Fn Tryz.prog 118 0 [.agg (Ae.dv x0)] [] (fun d' b'=>d'=.val (.bool y)/\b'=[])) {r:Bool} (G:C7 s f=some r):Fn Tryz.prog 117 0 [.sl 15 (Ai Ae.enc s),.clo 118 0 []] [] (fun d' b'=>d'=.val (.bool r)/\b'=[]):=by
 unfold C7 at G
 refine Ea 0 9 Tryz.func117 fun _ _ _=>?_
 refine Br 2 fun B G=>?_
 obtain⟨y,hy,G⟩:=An G
 refine L9 (@Kl s f hf_f _ hy) ?_
 exact Cj
theorem Us {s v r} (G:E4 s v=some r):Fn Tryz.prog 166 0 [.sl 1 (Ai eS s),vk v] [] (fun d' b'=>d'=vj r/\b'=[]):=by
 unfold E4 at G
 refine Ea 0 19 Tryz.func166 fun _ _ _=>?_
 refine Br 4 fun B G=>?_
 refine He (fun (x8_1:Int)=>mk [(0,.sl 1 (Ai eS s)),(1,vk v),(7,.val (.int .i64 (s.length:Int))),(8,vj x8_1)] [] 0) G (Cd []) ?_
 rintro x8_1 m1 o1 G hn1
 unfold E4.l1 at G
 exact Gn
instance aW3:Wk 166:=⟨_,@Us⟩
theorem R8 {s v r} (G:G1 s v=some r):Fn Tryz.prog 119 0 [.sl 1 (Ai eS s),vk v] [] (fun d' b'=>d'=.val (.bool r)/\b'=[]):=by
 unfold G1 at G
 refine Ea 0 9 Tryz.func119 fun _ _ _=>?_
 exact Cj
instance aVu:Wk 119:=⟨_,@R8⟩
theorem nG {c hashes day e r} (G:Lf c hashes day e=some r):Fn Tryz.prog 121 0 [.agg (Ae.dv c),.sl 1 (Ai eI hashes),vj day,vj e] [] (fun d' b'=>d'=.val (.bool r)/\b'=[]):=by
 unfold Lf at G
 refine Ea 0 27 Tryz.func121 fun _ _ _=>?_
 exact Cj
instance aV4:Wk 121:=⟨_,@nG⟩
theorem S3 {c c0 c1 c2 r} (G:My c c0 c1 c2=some r):Fn Tryz.prog 120 0 [.agg (Ae.dv c),.elt (([.sl 1 (Ai eI c0)]:List C).drop 0),.elt (([.int .i64 c1]:List C).drop 0),.elt (([.int .i64 c2]:List C).drop 0)] [] (fun d' b'=>d'=.val (.bool r)/\b'=[]):=by
 unfold My at G
 refine Ea 0 11 Tryz.func120 fun _ _ _=>?_
 refine Br 2 fun B G=>?_
 refine F0 rfl rfl (Gq qS (c:=.sl 1 (Ai eI c0)) rfl) rfl rfl ?_
 refine F0 rfl rfl (Gq jA (c:=.int .i64 c1) rfl) rfl rfl ?_
 refine F0 rfl rfl (Gq aCi (c:=.int .i64 c2) rfl) rfl rfl ?_
 exact Cj
instance aWd:Wk 120:=⟨_,@S3⟩
theorem Hi {s:(List Ae)} {f:Ae->Option (Bool)} {f_c0:(List Int)} {f_c1:Int} {f_c2:Int} (hf_f:∀ (x0:Ae) (y:Bool),f x0=some y->Fn Tryz.prog 120 0 [.agg (Ae.dv x0),.elt (([.sl 1 (Ai eI f_c0)]:List C).drop 0),.elt (([.int .i64 f_c1]:List C).drop 0),.elt (([.int .i64 f_c2]:List C).drop 0)] [] (fun d' b'=>d'=.val (.bool y)/\b'=[])) {r:Int} (G:Bh s f=some r):Fn Tryz.prog 165 0 [.sl 15 (Ai Ae.enc s),.clo 120 0 [.elt (([.sl 1 (Ai eI f_c0)]:List C).drop 0),.elt (([.int .i64 f_c1]:List C).drop 0),.elt (([.int .i64 f_c2]:List C).drop 0)]] [] (fun d' b'=>d'=vj r/\b'=[]):=by
 unfold Bh at G
 refine Ea 0 19 Tryz.func165 fun _ _ _=>?_
 refine Br 4 fun B G=>?_
 refine He (fun (x8_1:Int)=>mk [(0,.sl 15 (Ai Ae.enc s)),(1,.clo 120 0 [.elt (([.sl 1 (Ai eI f_c0)]:List C).drop 0),.elt (([.int .i64 f_c1]:List C).drop 0),.elt (([.int .i64 f_c2]:List C).drop 0)]),(7,.val (.int .i64 (s.length:Int))),(8,vj x8_1)] [] 0) G (Cd []) ?_
 rintro x8_1 m1 o1 G hn1
 unfold Bh.l1 at G
 refine Dx (.r 2 (.e 7)) fun _ e _ B G=>?_
 obtain⟨y,hy,G⟩:=An G
 refine E1 (rd:=[]) (ps:=[]) (gs:=[]) false rfl rfl (hf_f e _ hy) rfl rfl (.cons (.agg (.cons .val (.cons .val (.cons .val (.cons .val (.cons .val (.cons .val (.cons .val (.cons .val (.cons .val (.cons .val (.cons .val (.cons .val (.cons .sl (.cons .val (.cons .val .nil)))))))))))))))) (.cons .elt (.cons .elt (.cons .elt .nil)))) rfl rfl (by intro h; cases h) rfl rfl rfl rfl ?_
 exact Cj
theorem G6 {s:(List Ae)} {f:Ae->Option (Bool)} {f_c0:(List Int)} {f_c1:Int} {f_c2:Int} (hf_f:∀ (x0:Ae) (y:Bool),f x0=some y->Fn Tryz.prog 120 0 [.agg (Ae.dv x0),.elt (([.sl 1 (Ai eI f_c0)]:List C).drop 0),.elt (([.int .i64 f_c1]:List C).drop 0),.elt (([.int .i64 f_c2]:List C).drop 0)] [] (fun d' b'=>d'=.val (.bool y)/\b'=[])) {r:Bool} (G:C7 s f=some r):Fn Tryz.prog 117 0 [.sl 15 (Ai Ae.enc s),.clo 120 0 [.elt (([.sl 1 (Ai eI f_c0)]:List C).drop 0),.elt (([.int .i64 f_c1]:List C).drop 0),.elt (([.int .i64 f_c2]:List C).drop 0)]] [] (fun d' b'=>d'=.val (.bool r)/\b'=[]):=by
 unfold C7 at G
 refine Ea 0 9 Tryz.func117 fun _ _ _=>?_
 refine Br 2 fun B G=>?_
 obtain⟨y,hy,G⟩:=An G
 refine L9 (@Hi s f f_c0 f_c1 f_c2 hf_f _ hy) ?_
 exact Cj
theorem oO {l at' r} (G:Hp l at'=some r):Fn Tryz.prog 167 0 [.sl 15 (Ai Ae.enc l),vj at'] [] (fun d' b'=>d'=.val (.bool r)/\b'=[]):=by
 unfold Hp at G
 refine Ea 0 32 Tryz.func167 fun _ _ _=>?_
 refine Br 1 fun B G=>?_
 refine Ay <| A4 (ι:=Bool) (fun (x12_1:Bool)=>mk [(0,.sl 15 (Ai Ae.enc l)),(1,vj at'),(12,.val (.bool x12_1))] [] 0) (fun (x12_1:Bool)=>Hp.j1 l at' x12_1=some r) ?_ ?_
 exact Cj
 rintro x12_1 G
 unfold Hp.j1 at G
 exact Gn
instance aU8:Wk 167:=⟨_,@oO⟩
theorem iS {l at' r} (G:Od l at'=some r):Fn Tryz.prog 169 0 [.sl 15 (Ai Ae.enc l),vj at'] [] (fun d' b'=>d'=vj r/\b'=[]):=by
 unfold Od at G
 refine Ea 0 22 Tryz.func169 fun _ _ _=>?_
 exact Cj
instance aWz:Wk 169:=⟨_,@iS⟩
theorem vQ {s r} (G:Lh s=some r):Fn Tryz.prog 208 0 [vk s] [] (fun d' b'=>d'=.agg (Ab.dv r)/\b'=[]):=by
 unfold Lh at G
 refine Ea 0 6 Tryz.func208 fun _ _ _=>?_
 refine Br 3 fun B G=>?_
 refine M6 Ol Xc Sd ?_
 exact Cj
instance aXa:Wk 208:=⟨_,@vQ⟩
theorem yO {n r} (G:Di n=some r):Fn Tryz.prog 207 0 [vj n] [] (fun d' b'=>d'=.agg (Ab.dv r)/\b'=[]):=by
 unfold Di at G
 refine Ea 0 48 Tryz.func207 fun _ _ _=>?_
 refine Br 5 fun B G=>?_
 refine He (fun ((i_1,b_1):Int×List UInt8)=>mk [(0,vj n),(2,.ptr 0 0),(3,.row 1),(4,vj i_1)] [(0,.box [.val (.int .i64 0),.val (.slice none 0 0),.val (.bool false),.val (.slice none 0 0)] 203),(1,.row 5 1 (Ai e8 b_1))] 2) G (Cd [(0,0)]) ?_
 rintro⟨i_1,b_1⟩ m1 o1 G hn1
 unfold Di.l1 at G
 refine Lg 2 fun B G=>?_
 refine Kd rfl G (fun _ G=>?_) fun _ G=>?_
 refine Br 7 fun q _ B G=>?_
 refine Iz Nu z5 qA ([(u8 q)]:List UInt8) e8 ?_
 exact Cj
 refine Br 3 fun B G=>?_
 refine He (fun (b_2:List UInt8)=>mk [(2,.ptr 0 0),(3,.sl 1 (Ai e8 b_2))] [(0,.box [.val (.int .i64 0),.val (.slice none 0 0),.val (.bool false),.val (.slice none 0 0)] 203)] 1) G (Cd [(0,0)]) ?_
 rintro b_2 m2 o2 G hn2
 unfold Di.l2 at G
 try dsimp only at G
 refine Rp rfl ?_
 refine Ay <| A4 (ι:=Bool) (fun (x43_3:Bool)=>mk [(2,.ptr 0 0),(3,.sl 1 (Ai e8 b_2)),(43,.val (.bool x43_3))] [(0,.box [.val (.int .i64 0),.val (.slice none 0 0),.val (.bool false),.val (.slice none 0 0)] 203)] 1) (fun (x43_3:Bool)=>Di.j3 b_2 x43_3=some o2) ?_ ?_
 exact Cj
 rintro x43_3 G
 unfold Di.j3 at G
 refine Dx (.l 0 (.e 2)) fun _ B G=>?_
 refine M6 Ol Xc Sd ?_
 exact Cj
instance aT8:Wk 207:=⟨_,@yO⟩
theorem kN {b r} (G:G2 b=some r):Fn Tryz.prog 231 0 [.sl 1 (Ai e8 b)] [] (fun d' b'=>d'=.sl 1 (Ai e8 r)/\b'=[]):=by
 unfold G2 at G
 refine Ea 0 8 Tryz.func231 fun _ _ _=>?_
 refine Br 1 fun B G=>?_
 refine Ay <| A4 (ι:=Bool) (fun (x4_1:Bool)=>mk [(0,.sl 1 (Ai e8 b)),(4,.val (.bool x4_1))] [] 0) (fun (x4_1:Bool)=>G2.j1 b x4_1=some r) ?_ ?_
 refine Br 1 fun B G=>?_
 refine xO rfl rfl ⟨_,aDe⟩ rfl ?_
 intro bz hz2
 rcases bz with _ | _
 replace G:=aFb G
 exact Cj
 replace G:=aFe ((iB aD8 (by decide) (hz2 rfl))) G
 exact Cj
 rintro x4_1 G
 unfold G2.j1 at G
 refine Dx (.l 0 (.e 2)) fun _ B G=>?_
 refine F0 rfl rfl (D0 Nu z5 (by decide) rfl rfl rfl rfl qA (cs:=[]) .nil rfl (l:=([]:List UInt8)) (f:=e8) rfl) rfl rfl ?_
 exact Cj
instance aWf:Wk 231:=⟨_,@kN⟩
theorem T4.F (rec:(List Ab)->Option ((List Ab))) (hrec:∀ (l:(List Ab)) (r:(List Ab)),rec l=some r->Fn Tryz.prog 222 0 [.sl 4 (Ai Ab.enc l)] [] (fun d' b'=>d'=.sl 4 (Ai Ab.enc r)/\b'=[])) {l:(List Ab)} {r:(List Ab)} (G:D6.F rec l=some r):Fn Tryz.prog 222 0 [.sl 4 (Ai Ab.enc l)] [] (fun d' b'=>d'=.sl 4 (Ai Ab.enc r)/\b'=[]):=by
 unfold D6.F at G
 refine Ea 0 26 Tryz.func222 fun _ _ _=>?_
 refine Br 5 fun B G=>?_
 refine He (fun ((x8_1,out_1):Int×List Ab)=>mk [(3,.row 0),(6,.sl 4 (Ai Ab.enc l)),(7,.val (.int .i64 (l.length:Int))),(8,vj x8_1)] [(0,.row 203 4 (Ai Ab.enc out_1))] 1) G (Cd []) ?_
 rintro⟨x8_1,out_1⟩ m1 o1 G hn1
 unfold D6.l1 at G
 refine Dx (.r 2 (.e 5)) fun _ e he B G=>?_
 refine F0 rfl rfl (I2 Zv (Jj Ab.enc_len (D5 he) (o:=0) (m:=4) (cs:=[.int .i64 e.Tag,.sl 1 (Ai e8 e.Bytes),.bool e.Nested,.sl 4 (Ai Ab.enc e.Elements)]) (by simp only [Ab.enc_eq]; rfl) (by decide) rfl) (Ga Ab.enc_len (D5 he) (o:=0) (m:=4) (by decide) rfl)) rfl rfl ?_
 refine Br 0 fun B G=>?_
 refine Ay <| Bg (D9 _ _ []) (by kernel_rfl) [0,1,3,0,8,31,31,127,255,511] 41 121 B rfl rfl (by kernel_rfl) ?_
 refine Br 1 fun y _ B G=>?_
 obtain⟨y_2,hy_2,G⟩:=An G
 refine L9 (hrec _ _ hy_2) ?_
 refine Br 1 fun B G=>?_
 refine F0 rfl rfl (D0 U5 Sd (by decide) rfl rfl rfl rfl Xb (cs:=[.int .i64 e.Tag,.sl 1 (Ai e8 y),.bool e.Nested,.sl 4 (Ai Ab.enc y_2)]) (.cons .int (.cons .sl (.cons .bool (.cons .sl .nil)))) rfl (l:=([(Ab.mk e.Tag y e.Nested y_2)]:List Ab)) (f:=Ab.enc) (by simp only [Ai,aOo,aVf,Ab.enc_eq]; rfl)) rfl rfl ?_
 exact Cj
theorem T4 {l:(List Ab)} {r:(List Ab)} (G:D6 l=some r):Fn Tryz.prog 222 0 [.sl 4 (Ai Ab.enc l)] [] (fun d' b'=>d'=.sl 4 (Ai Ab.enc r)/\b'=[]):=
 N8 (motive:=fun (x:(List Ab)) (r:(List Ab))=>Fn Tryz.prog 222 0 [.sl 4 (Ai Ab.enc x)] [] (fun d' b'=>d'=.sl 4 (Ai Ab.enc r)/\b'=[])) (fun rec hrec x r h=>@T4.F _ (fun l r h=>hrec l r h) x r h) l r G
instance aW1:Wk 222:=⟨_,@T4⟩
theorem aFv {l r} (G:Nd l=some r):Fn Tryz.prog 206 0 [.sl 4 (Ai Ab.enc l)] [] (fun d' b'=>d'=.agg (Ab.dv r)/\b'=[]):=by
 unfold Nd at G
 refine Ea 0 6 Tryz.func206 fun _ _ _=>?_
 refine Br 3 fun _ _ B G=>?_
 refine M6 Ol Xc Sd ?_
 exact Cj
instance aXb:Wk 206:=⟨_,@aFv⟩
theorem Yc {u r} (G:Ic u=some r):Fn Tryz.prog 223 0 [.agg [vj u.Alg,vj u.Bits]] [] (fun d' b'=>d'=.agg (Ab.dv r)/\b'=[]):=by
 unfold Ic at G
 refine Ea 0 11 Tryz.func223 fun _ _ _=>?_
 refine Br 1 fun B G=>?_
 refine Ay <| Bg (D9 _ _ [64]) (by kernel_rfl) [0,1,3,0,8,31,63,127,255] 16 88 B rfl rfl (by kernel_rfl) ?_
 refine Br 2 fun y _ y_2 _ B G=>?_
 refine wA (rd:=[]) rfl rfl (D0 U5 Sd (by decide) rfl rfl rfl rfl Xb (cs:=[.int .i64 y.Tag,.sl 1 (Ai e8 y.Bytes),.bool y.Nested,.sl 4 (Ai Ab.enc y.Elements),.int .i64 y_2.Tag,.sl 1 (Ai e8 y_2.Bytes),.bool y_2.Nested,.sl 4 (Ai Ab.enc y_2.Elements)]) (.cons .int (.cons .sl (.cons .bool (.cons .sl (.cons .int (.cons .sl (.cons .bool (.cons .sl .nil)))))))) rfl (l:=([y,y_2]:List Ab)) (f:=Ab.enc) (by simp only [Ai,aOo,aVf,Ab.enc_eq]; rfl)) rfl rfl rfl ?_
 exact Cj
instance aVe:Wk 223:=⟨_,@Yc⟩
theorem uP {b r} (G:Ua b=some r):Fn Tryz.prog 224 0 [.val (.bool b)] [] (fun d' b'=>d'=.agg (Ab.dv r)/\b'=[]):=by
 unfold Ua at G
 refine Ea 0 8 Tryz.func224 fun _ _ _=>?_
 refine Br 3 fun B G=>?_
 refine Kd rfl G (fun _ G=>?_) fun _ G=>?_
 refine Br 1 fun B G=>?_
 refine Iz Nu z5 qA ([(255:UInt8)]:List UInt8) e8 ?_
 refine M6 Ol Xc Sd ?_
 exact Cj
 refine Br 2 fun B G=>?_
 refine Iz Nu z5 qA ([(0:UInt8)]:List UInt8) e8 ?_
 refine M6 Ol Xc Sd ?_
 exact Cj
instance aU1:Wk 224:=⟨_,@uP⟩
theorem wH {l r} (G:Q8 l=some r):Fn Tryz.prog 225 0 [.sl 4 (Ai Ab.enc l)] [] (fun d' b'=>d'=.agg (Ab.dv r)/\b'=[]):=by
 unfold Q8 at G
 refine Ea 0 5 Tryz.func225 fun _ _ _=>?_
 exact Cj
instance aVi:Wk 225:=⟨_,@wH⟩
theorem Xe {c r} (G:Em c=some r):Fn Tryz.prog 214 0 [.agg (Ae.dv c)] [] (fun d' b'=>d'=.agg (Ab.dv r)/\b'=[]):=by
 unfold Em at G
 refine Ea 0 53 Tryz.func214 fun _ _ _=>?_
 refine Br 5 fun B G=>?_
 refine He (fun ((x9_1,names_1):Int×List Ab)=>mk [(1,.ptr 0 0),(2,.ptr 1 0),(3,.row 2),(7,.sl 1 (Ai eS c.Names)),(8,.val (.int .i64 (c.Names.length:Int))),(9,vj x9_1)] [(0,.box (Ae.dv c) 146),(1,.box [.val (.int .i64 0),.val (.slice none 0 0),.val (.bool false),.val (.slice none 0 0)] 203),(2,.row 203 4 (Ai Ab.enc names_1))] 3) G (Cd [(0,0),(1,8)]) ?_
 rintro⟨x9_1,names_1⟩ m1 o1 G hn1
 unfold Em.l1 at G
 refine Lg 2 fun B G=>?_
 refine Kd rfl G (fun _ G=>?_) fun _ G=>?_
 refine Br 8 fun _ _ y _ B G=>?_
 refine F0 rfl rfl (D0 U5 Sd (by decide) rfl rfl rfl rfl Xb (cs:=[.int .i64 y.Tag,.sl 1 (Ai e8 y.Bytes),.bool y.Nested,.sl 4 (Ai Ab.enc y.Elements)]) (.cons .int (.cons .sl (.cons .bool (.cons .sl .nil)))) rfl (l:=([y]:List Ab)) (f:=Ab.enc) (by simp only [Ai,aOo,aVf,Ab.enc_eq]; rfl)) rfl rfl ?_
 exact Cj
 refine Br 1 fun B G=>?_
 refine Ay <| Hg (σ':=mk [(1,.ptr 0 0),(2,.ptr 1 0),(3,.sl 4 (Ai Ab.enc names_1))] [(0,.box (Ae.dv c) 146),(1,.box [.val (.int .i64 0),.val (.slice none 0 0),.val (.bool false),.val (.slice none 0 0)] 203)] 2) (Cd [(0,0),(1,1)]) ?_
 refine Bg (D9 _ _ [258]) (by kernel_rfl) [0,1,3,0,8,31,0,64,255,0,512,2047,0,4096,16383,0,32768,131071,0,262144,1048575,0,2097152,8388607,0,16777216,67108863,0,134217728,536870911,0,2147483647,4294967295,8589934591,17179869183] 2 282 Ij rfl rfl (by kernel_rfl) ?_
 refine Br 11 fun y_12 _ y_13 _ y_14 _ y_15 _ y_16 _ y_17 _ y_18 _ y_19 _ y_20 _ y_21 _ y_22 _ B G=>?_
 refine wA (rd:=[]) rfl rfl (D0 U5 Sd (by decide) rfl rfl rfl rfl Xb (cs:=[.int .i64 y_12.Tag,.sl 1 (Ai e8 y_12.Bytes),.bool y_12.Nested,.sl 4 (Ai Ab.enc y_12.Elements),.int .i64 y_13.Tag,.sl 1 (Ai e8 y_13.Bytes),.bool y_13.Nested,.sl 4 (Ai Ab.enc y_13.Elements),.int .i64 y_14.Tag,.sl 1 (Ai e8 y_14.Bytes),.bool y_14.Nested,.sl 4 (Ai Ab.enc y_14.Elements),.int .i64 y_15.Tag,.sl 1 (Ai e8 y_15.Bytes),.bool y_15.Nested,.sl 4 (Ai Ab.enc y_15.Elements),.int .i64 y_16.Tag,.sl 1 (Ai e8 y_16.Bytes),.bool y_16.Nested,.sl 4 (Ai Ab.enc y_16.Elements),.int .i64 y_17.Tag,.sl 1 (Ai e8 y_17.Bytes),.bool y_17.Nested,.sl 4 (Ai Ab.enc y_17.Elements),.int .i64 y_18.Tag,.sl 1 (Ai e8 y_18.Bytes),.bool y_18.Nested,.sl 4 (Ai Ab.enc y_18.Elements),.int .i64 y_19.Tag,.sl 1 (Ai e8 y_19.Bytes),.bool y_19.Nested,.sl 4 (Ai Ab.enc y_19.Elements),.int .i64 y_20.Tag,.sl 1 (Ai e8 y_20.Bytes),.bool y_20.Nested,.sl 4 (Ai Ab.enc y_20.Elements),.int .i64 y_21.Tag,.sl 1 (Ai e8 y_21.Bytes),.bool y_21.Nested,.sl 4 (Ai Ab.enc y_21.Elements),.int .i64 y_22.Tag,.sl 1 (Ai e8 y_22.Bytes),.bool y_22.Nested,.sl 4 (Ai Ab.enc y_22.Elements)]) (.cons .int (.cons .sl (.cons .bool (.cons .sl (.cons .int (.cons .sl (.cons .bool (.cons .sl (.cons .int (.cons .sl (.cons .bool (.cons .sl (.cons .int (.cons .sl (.cons .bool (.cons .sl (.cons .int (.cons .sl (.cons .bool (.cons .sl (.cons .int (.cons .sl (.cons .bool (.cons .sl (.cons .int (.cons .sl (.cons .bool (.cons .sl (.cons .int (.cons .sl (.cons .bool (.cons .sl (.cons .int (.cons .sl (.cons .bool (.cons .sl (.cons .int (.cons .sl (.cons .bool (.cons .sl (.cons .int (.cons .sl (.cons .bool (.cons .sl .nil)))))))))))))))))))))))))))))))))))))))))))) rfl (l:=([y_12,y_13,y_14,y_15,y_16,y_17,y_18,y_19,y_20,y_21,y_22]:List Ab)) (f:=Ab.enc) (by simp only [Ai,aOo,aVf,Ab.enc_eq]; rfl)) rfl rfl rfl ?_
 exact Cj
instance aVx:Wk 214:=⟨_,@Xe⟩
end Go.Proofs.YtobamahlipiakaaGreat
