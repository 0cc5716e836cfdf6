import Derived.Test.YtobamahlipiakaaGreatT1
import Derived.Test.YtobamahlipiakaaGreatEU
import Derived.Test.YtobamahlipiakaaGreatA1
set_option linter.unusedVariables false
set_option linter.unusedSimpArgs false
set_option maxRecDepth 100000
set_option maxHeartbeats 40000000
namespace Go.Proofs.YtobamahlipiakaaGreat
open Go.RowKit
theorem Yy {bits r} (G:Eh bits=some r):Fn Tryz.prog 125 0 [vj bits] [] (fun d' b'=>d'=vj r/\b'=[]):=by
 unfold Eh at G
 refine Ea 0 21 Tryz.func125 fun _ _ _=>?_
 refine Br 3 fun B G=>?_
 refine F0 rfl rfl (.buildArr (sz:=1) (r:=[.val (.int .i64 1024),.val (.int .i64 56)]) Vb (by kernel_rfl) zG (by kernel_rfl) rfl) rfl rfl ?_
 refine F0 rfl rfl (.buildArr (sz:=1) (r:=[.val (.int .i64 2048),.val (.int .i64 80)]) Vb (by kernel_rfl) zG (by kernel_rfl) rfl) rfl rfl ?_
 refine F0 rfl rfl (.buildArr (sz:=1) (r:=[.val (.int .i64 3072),.val (.int .i64 112)]) Vb (by kernel_rfl) zG (by kernel_rfl) rfl) rfl rfl ?_
 refine F0 rfl rfl (.buildArr (sz:=1) (r:=[.val (.int .i64 7680),.val (.int .i64 128)]) Vb (by kernel_rfl) zG (by kernel_rfl) rfl) rfl rfl ?_
 refine F0 rfl rfl (.buildArr (sz:=1) (r:=[.val (.int .i64 15360),.val (.int .i64 192)]) Vb (by kernel_rfl) zG (by kernel_rfl) rfl) rfl rfl ?_
 refine F0 rfl rfl (.buildArr (sz:=2) (r:=[.val (.int .i64 1024),.val (.int .i64 56),.val (.int .i64 2048),.val (.int .i64 80),.val (.int .i64 3072),.val (.int .i64 112),.val (.int .i64 7680),.val (.int .i64 128),.val (.int .i64 15360),.val (.int .i64 192)]) uG (by kernel_rfl) aOz (by kernel_rfl) rfl) rfl rfl ?_
 refine Br 1 fun B G=>?_
 refine He (fun (x11_1:Int)=>mk [(0,vj bits),(10,.agg [.val (.int .i64 1024),.val (.int .i64 56),.val (.int .i64 2048),.val (.int .i64 80),.val (.int .i64 3072),.val (.int .i64 112),.val (.int .i64 7680),.val (.int .i64 128),.val (.int .i64 15360),.val (.int .i64 192)]),(11,vj x11_1)] [] 0) G (Cd []) ?_
 rintro x11_1 m1 o1 G hn1
 unfold Eh.l1 at G
 refine Dx (.r 2 (.e 4)) fun _ B G=>?_
 obtain⟨e,he,G⟩:=An G
 refine F0 rfl rfl (mL (f:=(eA 2 eI)) (L:=([([1024,56]:List Int),([2048,80]:List Int),([3072,112]:List Int),([7680,128]:List Int),([15360,192]:List Int)]:List (List Int))) uG aJo (aNp Mu) rfl rfl he (d2:=[.val (.int .i64 (e[0]!)),.val (.int .i64 (e[1]!))]) rfl) rfl rfl ?_
 refine Br 1 fun B G=>?_
 refine Sk (rd:=[16]) rfl rfl (.idxA (j:=0) Vb jA rfl (by decide)) rfl rfl ?_
 refine Jf (.r 0 (.e 1)) fun _ B G=>?_
 refine Sk (rd:=[16]) rfl rfl (.idxA (j:=1) Vb jA rfl (by decide)) rfl rfl ?_
 exact Cj
instance aVt:Wk 125:=⟨_,@Yy⟩
theorem Xs {u r} (G:A9 u=some r):Fn Tryz.prog 86 0 [.agg [vj u.Alg,vj u.Bits]] [] (fun d' b'=>d'=vj r/\b'=[]):=by
 unfold A9 at G
 refine Ea 0 61 Tryz.func86 fun _ _ _=>?_
 refine Jf (.l 5 (.l 5 (.e 1))) fun _ _ _ _ B G=>?_
 refine Kd rfl G (fun _ G=>?_) fun _ G=>?_
 refine A4 (ι:=Bool) (fun (x34_1:Bool)=>mk [(1,.ptr 0 0),(34,.val (.bool x34_1))] [(0,.box [vj u.Alg,vj u.Bits] 45)] 1) (fun (x34_1:Bool)=>A9.j1 u x34_1=some r) ?_ ?_
 exact Cj
 rintro x34_1 G
 unfold A9.j1 at G
 exact Gn
 refine Jf (.r 1 (.e 1)) fun _ B G=>?_
 refine Iz Er z3 Ia ([160,224,256,384,521]:List Int) eI ?_
 refine Br 0 fun B G=>?_
 obtain⟨y_3,hy_3,G⟩:=An G
 refine R9 [168] [] [] true (L3 hy_3) ?_
 exact Cj
instance aY6:Wk 86:=⟨_,@Xs⟩
theorem cF {u r} (G:Hw u=some r):Fn Tryz.prog 112 0 [.agg [vj u.Alg,vj u.Bits]] [] (fun d' b'=>d'=.val (.bool r)/\b'=[]):=by
 unfold Hw at G
 refine Ea 0 6 Tryz.func112 fun _ _ _=>?_
 exact Cj
instance aV0:Wk 112:=⟨_,@cF⟩
theorem iK {alg r} (G:I1 alg=some r):Fn Tryz.prog 113 0 [vj alg] [] (fun d' b'=>d'=vj r/\b'=[]):=by
 unfold I1 at G
 refine Ea 0 12 Tryz.func113 fun _ _ _=>?_
 exact Cj
instance aU5:Wk 113:=⟨_,@iK⟩
theorem Rw {n r} (G:Eg n=some r):Fn Tryz.prog 75 0 [vj n] [] (fun d' b'=>d'=.val (.bool r)/\b'=[]):=by
 unfold Eg at G
 refine Ea 0 9 Tryz.func75 fun _ _ _=>?_
 exact Cj
instance aZv:Wk 75:=⟨_,@Rw⟩
theorem cK {s r} (G:De s=some r):Fn Tryz.prog 148 0 [vk s] [] (fun d' b'=>d'=.val (.bool r)/\b'=[]):=by
 unfold De at G
 refine Ea 0 27 Tryz.func148 fun _ _ _=>?_
 refine Br 5 fun B G=>?_
 refine He (fun (x8_1:Int)=>mk [(0,vk s),(6,.sl 1 (Ai e8 (Oz s))),(7,.val (.int .i64 ((Oz s).length:Int))),(8,vj x8_1)] [] 0) G (Cd []) ?_
 rintro x8_1 m1 o1 G hn1
 unfold De.l1 at G
 refine Dx (.r 2 (.e 6)) fun _ e _ B G=>?_
 refine A4 (ι:=Bool) (fun (x17_2:Bool)=>mk [(0,vk s),(6,.sl 1 (Ai e8 (Oz s))),(7,.val (.int .i64 ((Oz s).length:Int))),(8,vj x8_1),(17,.val (.bool x17_2))] [] 0) (fun (x17_2:Bool)=>De.j2 x8_1 x17_2=some o1) ?_ ?_
 exact Cj
 rintro x17_2 G
 unfold De.j2 at G
 exact Gn
instance aWi:Wk 148:=⟨_,@cK⟩
theorem W2 {l r} (G:Cs l=some r):Fn Tryz.prog 192 0 [.sl 1 (Ai eS l)] [] (fun d' b'=>d'=.val (.bool r)/\b'=[]):=by
 unfold Cs at G
 refine Ea 0 32 Tryz.func192 fun _ _ _=>?_
 refine Br 4 fun B G=>?_
 refine He (fun (x7_1:Int)=>mk [(0,.sl 1 (Ai eS l)),(5,.sl 1 (Ai eS l)),(6,.val (.int .i64 (l.length:Int))),(7,vj x7_1)] [] 0) G (Cd []) ?_
 rintro x7_1 m1 o1 G hn1
 unfold Cs.l1 at G
 refine Dx (.r 2 (.e 6)) fun _ e _ B G=>?_
 refine A4 (ι:=Bool) (fun (x27_2:Bool)=>mk [(0,.sl 1 (Ai eS l)),(5,.sl 1 (Ai eS l)),(6,.val (.int .i64 (l.length:Int))),(7,vj x7_1),(27,.val (.bool x27_2))] [] 0) (fun (x27_2:Bool)=>Cs.j2 x7_1 x27_2=some o1) ?_ ?_
 exact Cj
 rintro x27_2 G
 unfold Cs.j2 at G
 exact Gn
instance aWe:Wk 192:=⟨_,@W2⟩
theorem aH {u kind r} (G:Ix u kind=some r):Fn Tryz.prog 193 0 [.agg [vj u.Alg,vj u.Bits],vj kind] [] (fun d' b'=>d'=.val (.bool r)/\b'=[]):=by
 unfold Ix at G
 refine Ea 0 14 Tryz.func193 fun _ _ _=>?_
 exact Cj
instance aWb:Wk 193:=⟨_,@aH⟩
theorem Yv {n r} (G:Jx n=some r):Fn Tryz.prog 194 0 [vj n] [] (fun d' b'=>d'=.val (.bool r)/\b'=[]):=by
 unfold Jx at G
 refine Ea 0 9 Tryz.func194 fun _ _ _=>?_
 exact Cj
instance aVp:Wk 194:=⟨_,@Yv⟩
theorem Wv {c r} (G:Bj c=some r):Fn Tryz.prog 164 0 [.agg (Ae.dv c)] [] (fun d' b'=>d'=.val (.bool r)/\b'=[]):=by
 unfold Bj at G
 refine Ea 0 91 Tryz.func164 fun _ _ _=>?_
 refine Br 1 fun B G=>?_
 refine Ay <| A4 (ι:=Bool) (fun (x28_1:Bool)=>mk [(1,.ptr 0 0),(28,.val (.bool x28_1))] [(0,.box (Ae.dv c) 146)] 1) (fun (x28_1:Bool)=>Bj.j1 c x28_1=some r) ?_ ?_
 exact Cj
 rintro x28_1 G
 unfold Bj.j1 at G
 refine Dx (.l 0 (.e 1)) fun _ B G=>?_
 refine Ay <| A4 (ι:=Bool) (fun (x58_2:Bool)=>mk [(1,.ptr 0 0),(58,.val (.bool x58_2))] [(0,.box (Ae.dv c) 146)] 1) (fun (x58_2:Bool)=>Bj.j2 c x58_2=some r) ?_ ?_
 exact Cj
 rintro x58_2 G
 unfold Bj.j2 at G
 refine Dx (.l 0 (.e 1)) fun _ B G=>?_
 refine Ay <| A4 (ι:=Bool) (fun (x73_3:Bool)=>mk [(1,.ptr 0 0),(73,.val (.bool x73_3))] [(0,.box (Ae.dv c) 146)] 1) (fun (x73_3:Bool)=>Bj.j3 c x73_3=some r) ?_ ?_
 exact Cj
 rintro x73_3 G
 unfold Bj.j3 at G
 exact Gn
instance aVy:Wk 164:=⟨_,@Wv⟩
theorem W4 {c r} (G:Gh c=some r):Fn Tryz.prog 114 0 [.agg (Ae.dv c)] [] (fun d' b'=>d'=vj r/\b'=[]):=by
 unfold Gh at G
 refine Ea 0 6 Tryz.func114 fun _ _ _=>?_
 exact Cj
instance aWw:Wk 114:=⟨_,@W4⟩
theorem Z5 {key id l r} (G:C5 key id l=some r):Fn Tryz.prog 71 0 [.agg [vj key.Alg,vj key.Bits],vj id,.sl 15 (Ai Ae.enc l)] [] (fun d' b'=>d'=.val (.bool r)/\b'=[]):=by
 unfold C5 at G
 refine Ea 0 57 Tryz.func71 fun _ _ _=>?_
 refine Br 1 fun B G=>?_
 refine Ay <| A4 (ι:=Bool) (fun (x27_1:Bool)=>mk [(1,vj id),(2,.sl 15 (Ai Ae.enc l)),(3,.ptr 0 0),(27,.val (.bool x27_1))] [(0,.box [vj key.Alg,vj key.Bits] 45)] 1) (fun (x27_1:Bool)=>C5.j1 key id l x27_1=some r) ?_ ?_
 exact Cj
 rintro x27_1 G
 unfold C5.j1 at G
 refine Dx (.l 0 (.e 4)) fun _ B G=>?_
 refine He (fun (x30_2:Int)=>mk [(1,vj id),(2,.sl 15 (Ai Ae.enc l)),(3,.ptr 0 0),(28,.sl 15 (Ai Ae.enc l)),(29,.val (.int .i64 (l.length:Int))),(30,vj x30_2)] [(0,.box [vj key.Alg,vj key.Bits] 45)] 1) G (Cd [(0,0)]) ?_
 rintro x30_2 m2 o2 G hn2
 unfold C5.l2 at G
 refine Dx (.l 2 (.e 1)) fun _ B G=>?_
 refine Ay <| Bg (D9 _ _ []) (by kernel_rfl) [0,1,3,7,15,31,63,127,15,511,1023,2047,4095,8191,16383,2047,65535,131071,262143,524287] 9 169 B rfl rfl (by kernel_rfl) ?_
 refine Jf (.l 0 (.e 3)) fun h19 e_2 he_2 B G=>?_
 refine F0 (Mt rfl rfl h19) rfl (T5 e_2.Key key) rfl rfl ?_
 exact Cj
instance aXw:Wk 71:=⟨_,@Z5⟩
theorem Sl {r} (G:Kn=some r):Fn Tryz.prog 72 0 [.val (.func (.func 75) #[] #[])] [] (fun d' b'=>d'=.clo 73 0 [.elt (([.raw (.func (.func 75) #[] #[])]:List C).drop 0)]/\b'=[]):=by
 unfold Kn at G
 refine Ea 0 4 Tryz.func72 fun _ _ _=>?_
 refine Br 1 fun B G=>?_
 refine Ay <| Hg (σ':=mk [(1,.elt (([.raw (.func (.func 75) #[] #[])]:List C).drop 0))] [] 0) ((by exact Rr.lists [] rfl rfl ⟨⟨_,rfl,.frzb (ks:=[none]) rfl (.cons .func .nil) (H3 rfl)⟩,trivial⟩ trivial)) ?_
 exact Cj
theorem Rc {n r} (G:Hq n=some r):Fn Tryz.prog 73 0 [vj n,.elt (([.raw (.func (.func 75) #[] #[])]:List C).drop 0)] [] (fun d' b'=>d'=.val (.bool r)/\b'=[]):=by
 unfold Hq at G
 refine Ea 0 8 Tryz.func73 fun _ _ _=>?_
 refine Br 2 fun B G=>?_
 refine F0 rfl rfl (Gq aDj (c:=.raw (.func (.func 75) #[] #[])) rfl) rfl rfl ?_
 refine Br 0 fun B G=>?_
 obtain⟨y,hy,G⟩:=An G
 refine So (rd:=[]) (ps:=[]) (gs:=[]) false rfl rfl (Rw hy) rfl rfl (.cons .val .nil) rfl rfl (by intro h; cases h) rfl rfl rfl rfl ?_
 exact Cj
theorem K4 {s:(List Int)} {f:Int->Option (Bool)} (hf_f:∀ (x0:Int) (y:Bool),f x0=some y->Fn Tryz.prog 73 0 [vj x0,.elt (([.raw (.func (.func 75) #[] #[])]:List C).drop 0)] [] (fun d' b'=>d'=.val (.bool y)/\b'=[])) {r:Int} (G:Bi s f=some r):Fn Tryz.prog 80 0 [.sl 1 (Ai eI s),.clo 73 0 [.elt (([.raw (.func (.func 75) #[] #[])]:List C).drop 0)]] [] (fun d' b'=>d'=vj r/\b'=[]):=by
 unfold Bi at G
 refine Ea 0 19 Tryz.func80 fun _ _ _=>?_
 refine Br 4 fun B G=>?_
 refine He (fun (x8_1:Int)=>mk [(0,.sl 1 (Ai eI s)),(1,.clo 73 0 [.elt (([.raw (.func (.func 75) #[] #[])]:List C).drop 0)]),(7,.val (.int .i64 (s.length:Int))),(8,vj x8_1)] [] 0) G (Cd []) ?_
 rintro x8_1 m1 o1 G hn1
 unfold Bi.l1 at G
 refine Dx (.r 2 (.e 7)) fun _ e _ B G=>?_
 obtain⟨y,hy,G⟩:=An G
 refine E1 (rd:=[]) (ps:=[]) (gs:=[]) false rfl rfl (hf_f e _ hy) rfl rfl (.cons .val (.cons .elt .nil)) rfl rfl (by intro h; cases h) rfl rfl rfl rfl ?_
 exact Cj
theorem Kb {s:(List Int)} {f:Int->Option (Bool)} (hf_f:∀ (x0:Int) (y:Bool),f x0=some y->Fn Tryz.prog 73 0 [vj x0,.elt (([.raw (.func (.func 75) #[] #[])]:List C).drop 0)] [] (fun d' b'=>d'=.val (.bool y)/\b'=[])) {r:Bool} (G:E8 s f=some r):Fn Tryz.prog 74 0 [.sl 1 (Ai eI s),.clo 73 0 [.elt (([.raw (.func (.func 75) #[] #[])]:List C).drop 0)]] [] (fun d' b'=>d'=.val (.bool r)/\b'=[]):=by
 unfold E8 at G
 refine Ea 0 9 Tryz.func74 fun _ _ _=>?_
 refine Br 2 fun B G=>?_
 obtain⟨y,hy,G⟩:=An G
 refine L9 (@K4 s f hf_f _ hy) ?_
 exact Cj
theorem Tb {r} (G:Kt=some r):Fn Tryz.prog 72 0 [.val (.func (.func 76) #[] #[])] [] (fun d' b'=>d'=.clo 73 0 [.elt (([.raw (.func (.func 76) #[] #[])]:List C).drop 0)]/\b'=[]):=by
 unfold Kt at G
 refine Ea 0 4 Tryz.func72 fun _ _ _=>?_
 refine Br 1 fun B G=>?_
 refine Ay <| Hg (σ':=mk [(1,.elt (([.raw (.func (.func 76) #[] #[])]:List C).drop 0))] [] 0) ((by exact Rr.lists [] rfl rfl ⟨⟨_,rfl,.frzb (ks:=[none]) rfl (.cons .func .nil) (H3 rfl)⟩,trivial⟩ trivial)) ?_
 exact Cj
theorem Uk {alg r} (G:Lm alg=some r):Fn Tryz.prog 76 0 [vj alg] [] (fun d' b'=>d'=.val (.bool r)/\b'=[]):=by
 unfold Lm at G
 refine Ea 0 6 Tryz.func76 fun _ _ _=>?_
 exact Cj
instance aZd:Wk 76:=⟨_,@Uk⟩
theorem Ra {n r} (G:Ht n=some r):Fn Tryz.prog 73 0 [vj n,.elt (([.raw (.func (.func 76) #[] #[])]:List C).drop 0)] [] (fun d' b'=>d'=.val (.bool r)/\b'=[]):=by
 unfold Ht at G
 refine Ea 0 8 Tryz.func73 fun _ _ _=>?_
 refine Br 2 fun B G=>?_
 refine F0 rfl rfl (Gq aDj (c:=.raw (.func (.func 76) #[] #[])) rfl) rfl rfl ?_
 refine Br 0 fun B G=>?_
 obtain⟨y,hy,G⟩:=An G
 refine So (rd:=[]) (ps:=[]) (gs:=[]) false rfl rfl (Uk hy) rfl rfl (.cons .val .nil) rfl rfl (by intro h; cases h) rfl rfl rfl rfl ?_
 exact Cj
theorem K5 {s:(List Int)} {f:Int->Option (Bool)} (hf_f:∀ (x0:Int) (y:Bool),f x0=some y->Fn Tryz.prog 73 0 [vj x0,.elt (([.raw (.func (.func 76) #[] #[])]:List C).drop 0)] [] (fun d' b'=>d'=.val (.bool y)/\b'=[])) {r:Int} (G:Bi s f=some r):Fn Tryz.prog 80 0 [.sl 1 (Ai eI s),.clo 73 0 [.elt (([.raw (.func (.func 76) #[] #[])]:List C).drop 0)]] [] (fun d' b'=>d'=vj r/\b'=[]):=by
 unfold Bi at G
 refine Ea 0 19 Tryz.func80 fun _ _ _=>?_
 refine Br 4 fun B G=>?_
 refine He (fun (x8_1:Int)=>mk [(0,.sl 1 (Ai eI s)),(1,.clo 73 0 [.elt (([.raw (.func (.func 76) #[] #[])]:List C).drop 0)]),(7,.val (.int .i64 (s.length:Int))),(8,vj x8_1)] [] 0) G (Cd []) ?_
 rintro x8_1 m1 o1 G hn1
 unfold Bi.l1 at G
 refine Dx (.r 2 (.e 7)) fun _ e _ B G=>?_
 obtain⟨y,hy,G⟩:=An G
 refine E1 (rd:=[]) (ps:=[]) (gs:=[]) false rfl rfl (hf_f e _ hy) rfl rfl (.cons .val (.cons .elt .nil)) rfl rfl (by intro h; cases h) rfl rfl rfl rfl ?_
 exact Cj
theorem J6 {s:(List Int)} {f:Int->Option (Bool)} (hf_f:∀ (x0:Int) (y:Bool),f x0=some y->Fn Tryz.prog 73 0 [vj x0,.elt (([.raw (.func (.func 76) #[] #[])]:List C).drop 0)] [] (fun d' b'=>d'=.val (.bool y)/\b'=[])) {r:Bool} (G:E8 s f=some r):Fn Tryz.prog 74 0 [.sl 1 (Ai eI s),.clo 73 0 [.elt (([.raw (.func (.func 76) #[] #[])]:List C).drop 0)]] [] (fun d' b'=>d'=.val (.bool r)/\b'=[]):=by
 unfold E8 at G
 refine Ea 0 9 Tryz.func74 fun _ _ _=>?_
 refine Br 2 fun B G=>?_
 obtain⟨y,hy,G⟩:=An G
 refine L9 (@K5 s f hf_f _ hy) ?_
 exact Cj
theorem bF {e r} (G:Bp e=some r):Fn Tryz.prog 36 0 [.agg (Ac.dv e)] [] (fun d' b'=>d'=vj r/\b'=[]):=by
 unfold Bp at G
 refine Ea 0 83 Tryz.func36 fun _ _ _=>?_
 refine Br 1 fun B G=>?_
 refine Ay <| A4 (ι:=Bool) (fun (x32_1:Bool)=>mk [(1,.ptr 0 0),(32,.val (.bool x32_1))] [(0,.box (Ac.dv e) 29)] 1) (fun (x32_1:Bool)=>Bp.j1 e x32_1=some r) ?_ ?_
 exact Cj
 rintro x32_1 G
 unfold Bp.j1 at G
 refine Dx (.l 0 (.e 1)) fun _ B G=>?_
 refine Ay <| A4 (ι:=Bool) (fun (x54_2:Bool)=>mk [(1,.ptr 0 0),(54,.val (.bool x54_2))] [(0,.box (Ac.dv e) 29)] 1) (fun (x54_2:Bool)=>Bp.j2 e x54_2=some r) ?_ ?_
 exact Cj
 rintro x54_2 G
 unfold Bp.j2 at G
 refine Dx (.l 0 (.e 4)) fun _ B G=>?_
 refine He (fun (x58_3:Int)=>mk [(1,.ptr 0 0),(56,.sl 4 (Ai Al.enc e.Identities)),(57,.val (.int .i64 (e.Identities.length:Int))),(58,vj x58_3)] [(0,.box (Ac.dv e) 29)] 1) G (Cd [(0,0)]) ?_
 rintro x58_3 m3 o3 G hn3
 unfold Bp.l3 at G
 refine Dx (.l 2 (.e 2)) fun _ B G=>?_
 refine Ay <| A4 (ι:=Bool) (fun (x82_4:Bool)=>mk [(82,.val (.bool x82_4))] [] 0) (fun (x82_4:Bool)=>Bp.j4 x82_4=some r) ?_ ?_
 refine Bg (D9 _ _ []) (by kernel_rfl) [0,1,0,4,15,31,63,127,63,319,1023,2047] 17 113 B rfl rfl (by kernel_rfl) ?_
 refine Br 0 fun B G=>?_
 obtain⟨y_6,hy_6,G⟩:=An G
 refine So (rd:=[]) (ps:=[]) (gs:=[]) false rfl rfl (Sl hy_6) rfl rfl (.cons .val .nil) rfl rfl (by intro h; cases h) rfl rfl rfl rfl ?_
 obtain⟨y_7,hy_7,G⟩:=An G
 refine L9 (@Kb e.Anchors (fun x0=>Hq x0) (fun x0 yy hh=>@Rc x0 yy hh) _ hy_7) ?_
 refine Jf (.l 0 (.e 0)) fun h31 B G=>?_
 obtain⟨y_8,hy_8,G⟩:=An G
 refine So (rd:=[]) (ps:=[]) (gs:=[]) false (Mt rfl rfl h31) rfl (Tb hy_8) rfl rfl (.cons .val .nil) rfl rfl (by intro h; cases h) rfl rfl rfl rfl ?_
 obtain⟨y_9,hy_9,G⟩:=An G
 refine L9 (@J6 e.Hashes (fun x0=>Ht x0) (fun x0 yy hh=>@Ra x0 yy hh) _ hy_9) ?_
 exact Cj
 rintro x82_4 G
 unfold Bp.j4 at G
 exact Gn
instance aZh:Wk 36:=⟨_,@bF⟩
end Go.Proofs.YtobamahlipiakaaGreat
