import Derived.Test.YtboglmbblmakjaaGreatDoorT1
import Derived.Test.YtboglmbblmakjaaGreatDoorEU
import Derived.Test.YtboglmbblmakjaaGreatDoorA6
import Derived.Test.YtboglmbblmakjaaGreatDoorA7
import Derived.Test.YtboglmbblmakjaaGreatDoorA11
set_option linter.unusedVariables false
set_option linter.unusedSimpArgs false
set_option maxRecDepth 100000
set_option maxHeartbeats 40000000
namespace Go.Proofs.YtboglmbblmakjaaGreatDoor
open Go.RowKit
theorem W0 {server suite r} (G:Fe server suite=some r):Fn Tryz.prog 174 0 [.agg (Ad.dv server),vk suite] [] (fun d' b'=>d'=.tup [vk r.1,.val (.bool r.2)]/\b'=[]):=by
 unfold Fe at G
 refine Ea 0 23 Tryz.func174 fun _ _ _=>?_
 refine Qg (.l 5 (.e 1)) fun y _ _ B G=>?_
 refine Ar <| Gs (σ':=mk [(2,.ptr 0 0),(6,.elt (((Am.ec y.1):List C).drop 0))] [(0,.box (Ad.dv server) 83)] 1) ((by exact Rs.lists [(0,0)] rfl rfl ⟨⟨_,rfl,.ptr rfl⟩,⟨_,rfl,.frzb (ks:=[none,none,none,none,none,none,none,none,none,none,none,none]) rfl (.cons .int (.cons .str (.cons .int (.cons .int (.cons .int (.cons .int (.cons .int (.cons .int (.cons .int (.cons .int (.cons .int (.cons .int .nil)))))))))))) (H3 rfl)⟩,trivial⟩ ⟨.inl ⟨0,_,rfl,rfl,⟨rfl,.cons (.val _) (.cons (.val _) (.cons (.val _) (.cons (.sl _ _) (.cons (.val _) (.cons (.sl _ _) (.cons (.sl _ _) (.cons (.sl _ _) (.cons (.val _) .nil))))))))⟩⟩,trivial⟩)) ?_
 refine Cb 1 fun B G=>?_
 obtain⟨y_2,hy_2,G⟩:=Af G
 refine P9 (@Ky server.Identities (fun x0=>Gh x0 y.1) y.1 (fun x0 yy hh=>@Pw x0 y.1 yy hh) _ hy_2) ?_
 exact C6
instance aZt:Wk 174:=⟨_,@W0⟩
theorem K6 {t suite r} (G:Bx t suite=some r):Fn Tryz.prog 173 0 [.agg (Cw.dv t),vk suite] [] (fun d' b'=>d'=.val (.bool r)/\b'=[]):=by
 unfold Bx at G
 refine Ea 0 53 Tryz.func173 fun _ _ _=>?_
 refine Cb 3 fun _ _ B G=>?_
 refine Ar <| Ba (ι:=Bool) (fun (x44_1:Bool)=>mk [(1,vk suite),(2,.ptr 0 0),(44,.val (.bool x44_1))] [(0,.box (Cw.dv t) 290)] 1) (fun (x44_1:Bool)=>Bx.j1 t suite x44_1=some r) ?_ ?_
 exact C6
 rintro x44_1 G
 unfold Bx.j1 at G
 exact Ik
instance aYc:Wk 173:=⟨_,@K6⟩
theorem I9 {s:(List Int)} {f:Int->Option (Bool)} {f_c0:Cw} (hf_f:∀ (x0:Int) (y:Bool),f x0=some y->Fn Tryz.prog 173 0 [.agg (Cw.dv f_c0),vk x0] [] (fun d' b'=>d'=.val (.bool y)/\b'=[])) {r:Int} (G:Az s f=some r):Fn Tryz.prog 172 0 [.sl 1 (Ac eI s),.clo 173 1 [.agg (Cw.dv f_c0)]] [] (fun d' b'=>d'=vk r/\b'=[]):=by
 unfold Az at G
 refine Ea 0 19 Tryz.func172 fun _ _ _=>?_
 refine Cb 4 fun B G=>?_
 refine Ip (fun (x8_1:Int)=>mk [(0,.sl 1 (Ac eI s)),(1,.clo 173 1 [.agg (Cw.dv f_c0)]),(7,.val (.int .i64 (s.length:Int))),(8,vk x8_1)] [] 0) G (B5 []) ?_
 rintro x8_1 m1 o1 G hn1
 unfold Az.l1 at G
 refine E6 (.r 2 (.e 7)) fun _ e _ B G=>?_
 obtain⟨y,hy,G⟩:=Af G
 refine F5 (rd:=[]) (ps:=[]) (gs:=[]) false rfl rfl (hf_f e _ hy) rfl rfl (.cons (.agg (.cons .val (.cons .val (.cons .val (.cons .sl (.cons .val (.cons .sl (.cons .sl (.cons .sl (.cons .val (.cons .val (.cons .sl .nil)))))))))))) (.cons .val .nil)) rfl rfl (by intro h; cases h) rfl rfl rfl rfl ?_
 exact C6
theorem Uw {c r} (G:Og c=some r):Fn Tryz.prog 215 0 [.agg (Ab.dv c)] [] (fun d' b'=>d'=.val (.bool r)/\b'=[]):=by
 unfold Og at G
 refine Ea 0 6 Tryz.func215 fun _ _ _=>?_
 exact C6
instance aYh:Wk 215:=⟨_,@Uw⟩
theorem Lx {s:(List Ab)} {f:Ab->Option (Bool)} (hf_f:∀ (x0:Ab) (y:Bool),f x0=some y->Fn Tryz.prog 215 0 [.agg (Ab.dv x0)] [] (fun d' b'=>d'=.val (.bool y)/\b'=[])) {r:Int} (G:Bf s f=some r):Fn Tryz.prog 237 0 [.sl 15 (Ac Ab.enc s),.clo 215 0 []] [] (fun d' b'=>d'=vk r/\b'=[]):=by
 unfold Bf at G
 refine Ea 0 19 Tryz.func237 fun _ _ _=>?_
 refine Cb 4 fun B G=>?_
 refine Ip (fun (x8_1:Int)=>mk [(0,.sl 15 (Ac Ab.enc s)),(1,.clo 215 0 []),(7,.val (.int .i64 (s.length:Int))),(8,vk x8_1)] [] 0) G (B5 []) ?_
 rintro x8_1 m1 o1 G hn1
 unfold Bf.l1 at G
 refine E6 (.r 2 (.e 7)) fun _ e _ B G=>?_
 obtain⟨y,hy,G⟩:=Af G
 refine F5 (rd:=[]) (ps:=[]) (gs:=[]) false rfl rfl (hf_f e _ hy) rfl rfl (.cons (.agg (.cons .val (.cons .val (.cons .val (.cons .val (.cons .val (.cons .val (.cons .val (.cons .val (.cons .val (.cons .val (.cons .val (.cons .val (.cons .sl (.cons .val (.cons .val .nil)))))))))))))))) .nil) rfl rfl (by intro h; cases h) rfl rfl rfl rfl ?_
 exact C6
theorem K5 {s:(List Ab)} {f:Ab->Option (Bool)} (hf_f:∀ (x0:Ab) (y:Bool),f x0=some y->Fn Tryz.prog 215 0 [.agg (Ab.dv x0)] [] (fun d' b'=>d'=.val (.bool y)/\b'=[])) {r:Bool} (G:Dl s f=some r):Fn Tryz.prog 214 0 [.sl 15 (Ac Ab.enc s),.clo 215 0 []] [] (fun d' b'=>d'=.val (.bool r)/\b'=[]):=by
 unfold Dl at G
 refine Ea 0 9 Tryz.func214 fun _ _ _=>?_
 refine Cb 2 fun B G=>?_
 obtain⟨y,hy,G⟩:=Af G
 refine P9 (@Lx s f hf_f _ hy) ?_
 exact C6
theorem Wu {s v r} (G:Fi s v=some r):Fn Tryz.prog 238 0 [.sl 1 (Ac eS s),ws v] [] (fun d' b'=>d'=vk r/\b'=[]):=by
 unfold Fi at G
 refine Ea 0 19 Tryz.func238 fun _ _ _=>?_
 refine Cb 4 fun B G=>?_
 refine Ip (fun (x8_1:Int)=>mk [(0,.sl 1 (Ac eS s)),(1,ws v),(7,.val (.int .i64 (s.length:Int))),(8,vk x8_1)] [] 0) G (B5 []) ?_
 rintro x8_1 m1 o1 G hn1
 unfold Fi.l1 at G
 exact Ik
instance aYd:Wk 238:=⟨_,@Wu⟩
theorem Uh {s v r} (G:Hy s v=some r):Fn Tryz.prog 216 0 [.sl 1 (Ac eS s),ws v] [] (fun d' b'=>d'=.val (.bool r)/\b'=[]):=by
 unfold Hy at G
 refine Ea 0 9 Tryz.func216 fun _ _ _=>?_
 exact C6
instance aYf:Wk 216:=⟨_,@Uh⟩
theorem pV {c hashes day e r} (G:Mt c hashes day e=some r):Fn Tryz.prog 218 0 [.agg (Ab.dv c),.sl 1 (Ac eI hashes),vk day,vk e] [] (fun d' b'=>d'=.val (.bool r)/\b'=[]):=by
 unfold Mt at G
 refine Ea 0 27 Tryz.func218 fun _ _ _=>?_
 exact C6
instance aZ3:Wk 218:=⟨_,@pV⟩
theorem Vb {c c0 c1 c2 r} (G:Om c c0 c1 c2=some r):Fn Tryz.prog 217 0 [.agg (Ab.dv c),.elt (([.sl 1 (Ac eI c0)]:List C).drop 0),.elt (([.int .i64 c1]:List C).drop 0),.elt (([.int .i64 c2]:List C).drop 0)] [] (fun d' b'=>d'=.val (.bool r)/\b'=[]):=by
 unfold Om at G
 refine Ea 0 11 Tryz.func217 fun _ _ _=>?_
 refine Cb 2 fun B G=>?_
 refine Ex rfl rfl (Eb iT (c:=.sl 1 (Ac eI c0)) rfl) rfl rfl ?_
 refine Ex rfl rfl (Eb Z4 (c:=.int .i64 c1) rfl) rfl rfl ?_
 refine Ex rfl rfl (Eb aDg (c:=.int .i64 c2) rfl) rfl rfl ?_
 exact C6
instance aZ9:Wk 217:=⟨_,@Vb⟩
theorem Io {s:(List Ab)} {f:Ab->Option (Bool)} {f_c0:(List Int)} {f_c1:Int} {f_c2:Int} (hf_f:∀ (x0:Ab) (y:Bool),f x0=some y->Fn Tryz.prog 217 0 [.agg (Ab.dv x0),.elt (([.sl 1 (Ac eI f_c0)]:List C).drop 0),.elt (([.int .i64 f_c1]:List C).drop 0),.elt (([.int .i64 f_c2]:List C).drop 0)] [] (fun d' b'=>d'=.val (.bool y)/\b'=[])) {r:Int} (G:Bf s f=some r):Fn Tryz.prog 237 0 [.sl 15 (Ac Ab.enc s),.clo 217 0 [.elt (([.sl 1 (Ac eI f_c0)]:List C).drop 0),.elt (([.int .i64 f_c1]:List C).drop 0),.elt (([.int .i64 f_c2]:List C).drop 0)]] [] (fun d' b'=>d'=vk r/\b'=[]):=by
 unfold Bf at G
 refine Ea 0 19 Tryz.func237 fun _ _ _=>?_
 refine Cb 4 fun B G=>?_
 refine Ip (fun (x8_1:Int)=>mk [(0,.sl 15 (Ac Ab.enc s)),(1,.clo 217 0 [.elt (([.sl 1 (Ac eI f_c0)]:List C).drop 0),.elt (([.int .i64 f_c1]:List C).drop 0),.elt (([.int .i64 f_c2]:List C).drop 0)]),(7,.val (.int .i64 (s.length:Int))),(8,vk x8_1)] [] 0) G (B5 []) ?_
 rintro x8_1 m1 o1 G hn1
 unfold Bf.l1 at G
 refine E6 (.r 2 (.e 7)) fun _ e _ B G=>?_
 obtain⟨y,hy,G⟩:=Af G
 refine F5 (rd:=[]) (ps:=[]) (gs:=[]) false rfl rfl (hf_f e _ hy) rfl rfl (.cons (.agg (.cons .val (.cons .val (.cons .val (.cons .val (.cons .val (.cons .val (.cons .val (.cons .val (.cons .val (.cons .val (.cons .val (.cons .val (.cons .sl (.cons .val (.cons .val .nil)))))))))))))))) (.cons .elt (.cons .elt (.cons .elt .nil)))) rfl rfl (by intro h; cases h) rfl rfl rfl rfl ?_
 exact C6
theorem H4 {s:(List Ab)} {f:Ab->Option (Bool)} {f_c0:(List Int)} {f_c1:Int} {f_c2:Int} (hf_f:∀ (x0:Ab) (y:Bool),f x0=some y->Fn Tryz.prog 217 0 [.agg (Ab.dv x0),.elt (([.sl 1 (Ac eI f_c0)]:List C).drop 0),.elt (([.int .i64 f_c1]:List C).drop 0),.elt (([.int .i64 f_c2]:List C).drop 0)] [] (fun d' b'=>d'=.val (.bool y)/\b'=[])) {r:Bool} (G:Dl s f=some r):Fn Tryz.prog 214 0 [.sl 15 (Ac Ab.enc s),.clo 217 0 [.elt (([.sl 1 (Ac eI f_c0)]:List C).drop 0),.elt (([.int .i64 f_c1]:List C).drop 0),.elt (([.int .i64 f_c2]:List C).drop 0)]] [] (fun d' b'=>d'=.val (.bool r)/\b'=[]):=by
 unfold Dl at G
 refine Ea 0 9 Tryz.func214 fun _ _ _=>?_
 refine Cb 2 fun B G=>?_
 obtain⟨y,hy,G⟩:=Af G
 refine P9 (@Io s f f_c0 f_c1 f_c2 hf_f _ hy) ?_
 exact C6
theorem oL {l at' r} (G:Iv l at'=some r):Fn Tryz.prog 239 0 [.sl 15 (Ac Ab.enc l),vk at'] [] (fun d' b'=>d'=.val (.bool r)/\b'=[]):=by
 unfold Iv at G
 refine Ea 0 32 Tryz.func239 fun _ _ _=>?_
 refine Cb 1 fun B G=>?_
 refine Ar <| Ba (ι:=Bool) (fun (x12_1:Bool)=>mk [(0,.sl 15 (Ac Ab.enc l)),(1,vk at'),(12,.val (.bool x12_1))] [] 0) (fun (x12_1:Bool)=>Iv.j1 l at' x12_1=some r) ?_ ?_
 exact C6
 rintro x12_1 G
 unfold Iv.j1 at G
 exact Ik
instance aXs:Wk 239:=⟨_,@oL⟩
theorem jH {l at' r} (G:Qc l at'=some r):Fn Tryz.prog 241 0 [.sl 15 (Ac Ab.enc l),vk at'] [] (fun d' b'=>d'=vk r/\b'=[]):=by
 unfold Qc at G
 refine Ea 0 22 Tryz.func241 fun _ _ _=>?_
 exact C6
instance aY1:Wk 241:=⟨_,@jH⟩
theorem uB {s r} (G:N1 s=some r):Fn Tryz.prog 273 0 [ws s] [] (fun d' b'=>d'=.agg (Aa.dv r)/\b'=[]):=by
 unfold N1 at G
 refine Ea 0 6 Tryz.func273 fun _ _ _=>?_
 refine Cb 3 fun B G=>?_
 refine Ox Qs Y7 Vf ?_
 exact C6
instance aYm:Wk 273:=⟨_,@uB⟩
theorem aAm {n r} (G:Dw n=some r):Fn Tryz.prog 272 0 [vk n] [] (fun d' b'=>d'=.agg (Aa.dv r)/\b'=[]):=by
 unfold Dw at G
 refine Ea 0 48 Tryz.func272 fun _ _ _=>?_
 refine Cb 5 fun B G=>?_
 refine Ip (fun ((i_1,b_1):Int×List UInt8)=>mk [(0,vk n),(2,.ptr 0 0),(3,.row 1),(4,vk i_1)] [(0,.box [.val (.int .i64 0),.val (.slice none 0 0),.val (.bool false),.val (.slice none 0 0)] 276),(1,.row 5 1 (Ac e8 b_1))] 2) G (B5 [(0,0)]) ?_
 rintro⟨i_1,b_1⟩ m1 o1 G hn1
 unfold Dw.l1 at G
 refine Q4 2 fun B G=>?_
 refine Ji rfl G (fun _ G=>?_) fun _ G=>?_
 refine Cb 7 fun q _ B G=>?_
 refine Kv Pz z5 nT ([(u8 q)]:List UInt8) e8 ?_
 exact C6
 refine Cb 3 fun B G=>?_
 refine Ip (fun (b_2:List UInt8)=>mk [(2,.ptr 0 0),(3,.sl 1 (Ac e8 b_2))] [(0,.box [.val (.int .i64 0),.val (.slice none 0 0),.val (.bool false),.val (.slice none 0 0)] 276)] 1) G (B5 [(0,0)]) ?_
 rintro b_2 m2 o2 G hn2
 unfold Dw.l2 at G
 try dsimp only at G
 refine X5 rfl ?_
 refine Ar <| Ba (ι:=Bool) (fun (x43_3:Bool)=>mk [(2,.ptr 0 0),(3,.sl 1 (Ac e8 b_2)),(43,.val (.bool x43_3))] [(0,.box [.val (.int .i64 0),.val (.slice none 0 0),.val (.bool false),.val (.slice none 0 0)] 276)] 1) (fun (x43_3:Bool)=>Dw.j3 b_2 x43_3=some o2) ?_ ?_
 exact C6
 rintro x43_3 G
 unfold Dw.j3 at G
 refine E6 (.l 0 (.e 2)) fun _ B G=>?_
 refine Ox Qs Y7 Vf ?_
 exact C6
instance aY0:Wk 272:=⟨_,@aAm⟩
theorem lA {b r} (G:Hx b=some r):Fn Tryz.prog 296 0 [.sl 1 (Ac e8 b)] [] (fun d' b'=>d'=.sl 1 (Ac e8 r)/\b'=[]):=by
 unfold Hx at G
 refine Ea 0 8 Tryz.func296 fun _ _ _=>?_
 refine Cb 1 fun B G=>?_
 refine Ar <| Ba (ι:=Bool) (fun (x4_1:Bool)=>mk [(0,.sl 1 (Ac e8 b)),(4,.val (.bool x4_1))] [] 0) (fun (x4_1:Bool)=>Hx.j1 b x4_1=some r) ?_ ?_
 refine Cb 1 fun B G=>?_
 refine Yk rfl rfl ⟨_,aCb⟩ rfl ?_
 intro bz hz2
 rcases bz with _ | _
 replace G:=cR G
 exact C6
 replace G:=eC ((Rj aEf (by decide) (hz2 rfl))) G
 exact C6
 rintro x4_1 G
 unfold Hx.j1 at G
 refine E6 (.l 0 (.e 2)) fun _ B G=>?_
 refine Ex rfl rfl (Fm Pz z5 (by decide) rfl rfl rfl rfl nT (cs:=[]) .nil rfl (l:=([]:List UInt8)) (f:=e8) rfl) rfl rfl ?_
 exact C6
instance aXi:Wk 296:=⟨_,@lA⟩
theorem Vm.F (rec:(List Aa)->Option ((List Aa))) (hrec:∀ (l:(List Aa)) (r:(List Aa)),rec l=some r->Fn Tryz.prog 285 0 [.sl 4 (Ac Aa.enc l)] [] (fun d' b'=>d'=.sl 4 (Ac Aa.enc r)/\b'=[])) {l:(List Aa)} {r:(List Aa)} (G:Er.F rec l=some r):Fn Tryz.prog 285 0 [.sl 4 (Ac Aa.enc l)] [] (fun d' b'=>d'=.sl 4 (Ac Aa.enc r)/\b'=[]):=by
 unfold Er.F at G
 refine Ea 0 26 Tryz.func285 fun _ _ _=>?_
 refine Cb 5 fun B G=>?_
 refine Ip (fun ((x8_1,out_1):Int×List Aa)=>mk [(3,.row 0),(6,.sl 4 (Ac Aa.enc l)),(7,.val (.int .i64 (l.length:Int))),(8,vk x8_1)] [(0,.row 276 4 (Ac Aa.enc out_1))] 1) G (B5 []) ?_
 rintro⟨x8_1,out_1⟩ m1 o1 G hn1
 unfold Er.l1 at G
 refine E6 (.r 2 (.e 5)) fun _ e he B G=>?_
 refine Ex rfl rfl (Kr Z7 (K9 Aa.enc_len (Cf he) (o:=0) (m:=4) (cs:=[.int .i64 e.Tag,.sl 1 (Ac e8 e.Bytes),.bool e.Nested,.sl 4 (Ac Aa.enc e.Elements)]) (by simp only [Aa.enc_eq]; rfl) (by decide) rfl) (Fh Aa.enc_len (Cf he) (o:=0) (m:=4) (by decide) rfl)) rfl rfl ?_
 refine Cb 0 fun B G=>?_
 refine Ar <| Ca (E4 _ _ []) (by kernel_rfl) [0,1,3,0,8,31,31,127,255,511] 41 121 B rfl rfl (by kernel_rfl) ?_
 refine Cb 1 fun y _ B G=>?_
 obtain⟨y_2,hy_2,G⟩:=Af G
 refine P9 (hrec _ _ hy_2) ?_
 refine Cb 1 fun B G=>?_
 refine Ex rfl rfl (Fm Y3 Vf (by decide) rfl rfl rfl rfl bO (cs:=[.int .i64 e.Tag,.sl 1 (Ac e8 y),.bool e.Nested,.sl 4 (Ac Aa.enc y_2)]) (.cons .int (.cons .sl (.cons .bool (.cons .sl .nil)))) rfl (l:=([(Aa.mk e.Tag y e.Nested y_2)]:List Aa)) (f:=Aa.enc) (by simp only [Ac,aNp,aUm,Aa.enc_eq]; rfl)) rfl rfl ?_
 exact C6
theorem Vm {l:(List Aa)} {r:(List Aa)} (G:Er l=some r):Fn Tryz.prog 285 0 [.sl 4 (Ac Aa.enc l)] [] (fun d' b'=>d'=.sl 4 (Ac Aa.enc r)/\b'=[]):=
 Ro (motive:=fun (x:(List Aa)) (r:(List Aa))=>Fn Tryz.prog 285 0 [.sl 4 (Ac Aa.enc x)] [] (fun d' b'=>d'=.sl 4 (Ac Aa.enc r)/\b'=[])) (fun rec hrec x r h=>@Vm.F _ (fun l r h=>hrec l r h) x r h) l r G
instance aZx:Wk 285:=⟨_,@Vm⟩
theorem aB7 {l r} (G:Q0 l=some r):Fn Tryz.prog 271 0 [.sl 4 (Ac Aa.enc l)] [] (fun d' b'=>d'=.agg (Aa.dv r)/\b'=[]):=by
 unfold Q0 at G
 refine Ea 0 6 Tryz.func271 fun _ _ _=>?_
 refine Cb 3 fun _ _ B G=>?_
 refine Ox Qs Y7 Vf ?_
 exact C6
instance aY8:Wk 271:=⟨_,@aB7⟩
theorem bP {u r} (G:Jx u=some r):Fn Tryz.prog 288 0 [.agg [vk u.Alg,vk u.Bits]] [] (fun d' b'=>d'=.agg (Aa.dv r)/\b'=[]):=by
 unfold Jx at G
 refine Ea 0 11 Tryz.func288 fun _ _ _=>?_
 refine Cb 1 fun B G=>?_
 refine Ar <| Ca (E4 _ _ [64]) (by kernel_rfl) [0,1,3,0,8,31,63,127,255] 16 88 B rfl rfl (by kernel_rfl) ?_
 refine Cb 2 fun y _ y_2 _ B G=>?_
 refine yT (rd:=[]) rfl rfl (Fm Y3 Vf (by decide) rfl rfl rfl rfl bO (cs:=[.int .i64 y.Tag,.sl 1 (Ac e8 y.Bytes),.bool y.Nested,.sl 4 (Ac Aa.enc y.Elements),.int .i64 y_2.Tag,.sl 1 (Ac e8 y_2.Bytes),.bool y_2.Nested,.sl 4 (Ac Aa.enc y_2.Elements)]) (.cons .int (.cons .sl (.cons .bool (.cons .sl (.cons .int (.cons .sl (.cons .bool (.cons .sl .nil)))))))) rfl (l:=([y,y_2]:List Aa)) (f:=Aa.enc) (by simp only [Ac,aNp,aUm,Aa.enc_eq]; rfl)) rfl rfl rfl ?_
 exact C6
instance aZm:Wk 288:=⟨_,@bP⟩
theorem uE {b r} (G:Vq b=some r):Fn Tryz.prog 289 0 [.val (.bool b)] [] (fun d' b'=>d'=.agg (Aa.dv r)/\b'=[]):=by
 unfold Vq at G
 refine Ea 0 8 Tryz.func289 fun _ _ _=>?_
 refine Cb 3 fun B G=>?_
 refine Ji rfl G (fun _ G=>?_) fun _ G=>?_
 refine Cb 1 fun B G=>?_
 refine Kv Pz z5 nT ([(255:UInt8)]:List UInt8) e8 ?_
 refine Ox Qs Y7 Vf ?_
 exact C6
 refine Cb 2 fun B G=>?_
 refine Kv Pz z5 nT ([(0:UInt8)]:List UInt8) e8 ?_
 refine Ox Qs Y7 Vf ?_
 exact C6
instance aYx:Wk 289:=⟨_,@uE⟩
theorem wC {l r} (G:Tm l=some r):Fn Tryz.prog 290 0 [.sl 4 (Ac Aa.enc l)] [] (fun d' b'=>d'=.agg (Aa.dv r)/\b'=[]):=by
 unfold Tm at G
 refine Ea 0 5 Tryz.func290 fun _ _ _=>?_
 exact C6
instance aZu:Wk 290:=⟨_,@wC⟩
theorem Zb {c r} (G:E2 c=some r):Fn Tryz.prog 281 0 [.agg (Ab.dv c)] [] (fun d' b'=>d'=.agg (Aa.dv r)/\b'=[]):=by
 unfold E2 at G
 refine Ea 0 53 Tryz.func281 fun _ _ _=>?_
 refine Cb 5 fun B G=>?_
 refine Ip (fun ((x9_1,names_1):Int×List Aa)=>mk [(1,.ptr 0 0),(2,.ptr 1 0),(3,.row 2),(7,.sl 1 (Ac eS c.Names)),(8,.val (.int .i64 (c.Names.length:Int))),(9,vk x9_1)] [(0,.box (Ab.dv c) 148),(1,.box [.val (.int .i64 0),.val (.slice none 0 0),.val (.bool false),.val (.slice none 0 0)] 276),(2,.row 276 4 (Ac Aa.enc names_1))] 3) G (B5 [(0,0),(1,8)]) ?_
 rintro⟨x9_1,names_1⟩ m1 o1 G hn1
 unfold E2.l1 at G
 refine Q4 2 fun B G=>?_
 refine Ji rfl G (fun _ G=>?_) fun _ G=>?_
 refine Cb 8 fun _ _ y _ B G=>?_
 refine Ex rfl rfl (Fm Y3 Vf (by decide) rfl rfl rfl rfl bO (cs:=[.int .i64 y.Tag,.sl 1 (Ac e8 y.Bytes),.bool y.Nested,.sl 4 (Ac Aa.enc y.Elements)]) (.cons .int (.cons .sl (.cons .bool (.cons .sl .nil)))) rfl (l:=([y]:List Aa)) (f:=Aa.enc) (by simp only [Ac,aNp,aUm,Aa.enc_eq]; rfl)) rfl rfl ?_
 exact C6
 refine Cb 1 fun B G=>?_
 refine Ar <| Gs (σ':=mk [(1,.ptr 0 0),(2,.ptr 1 0),(3,.sl 4 (Ac Aa.enc names_1))] [(0,.box (Ab.dv c) 148),(1,.box [.val (.int .i64 0),.val (.slice none 0 0),.val (.bool false),.val (.slice none 0 0)] 276)] 2) (B5 [(0,0),(1,1)]) ?_
 refine Ca (E4 _ _ [258]) (by kernel_rfl) [0,1,3,0,8,31,0,64,255,0,512,2047,0,4096,16383,0,32768,131071,0,262144,1048575,0,2097152,8388607,0,16777216,67108863,0,134217728,536870911,0,2147483647,4294967295,8589934591,17179869183] 2 282 Gu rfl rfl (by kernel_rfl) ?_
 refine Cb 11 fun y_12 _ y_13 _ y_14 _ y_15 _ y_16 _ y_17 _ y_18 _ y_19 _ y_20 _ y_21 _ y_22 _ B G=>?_
 refine yT (rd:=[]) rfl rfl (Fm Y3 Vf (by decide) rfl rfl rfl rfl bO (cs:=[.int .i64 y_12.Tag,.sl 1 (Ac e8 y_12.Bytes),.bool y_12.Nested,.sl 4 (Ac Aa.enc y_12.Elements),.int .i64 y_13.Tag,.sl 1 (Ac e8 y_13.Bytes),.bool y_13.Nested,.sl 4 (Ac Aa.enc y_13.Elements),.int .i64 y_14.Tag,.sl 1 (Ac e8 y_14.Bytes),.bool y_14.Nested,.sl 4 (Ac Aa.enc y_14.Elements),.int .i64 y_15.Tag,.sl 1 (Ac e8 y_15.Bytes),.bool y_15.Nested,.sl 4 (Ac Aa.enc y_15.Elements),.int .i64 y_16.Tag,.sl 1 (Ac e8 y_16.Bytes),.bool y_16.Nested,.sl 4 (Ac Aa.enc y_16.Elements),.int .i64 y_17.Tag,.sl 1 (Ac e8 y_17.Bytes),.bool y_17.Nested,.sl 4 (Ac Aa.enc y_17.Elements),.int .i64 y_18.Tag,.sl 1 (Ac e8 y_18.Bytes),.bool y_18.Nested,.sl 4 (Ac Aa.enc y_18.Elements),.int .i64 y_19.Tag,.sl 1 (Ac e8 y_19.Bytes),.bool y_19.Nested,.sl 4 (Ac Aa.enc y_19.Elements),.int .i64 y_20.Tag,.sl 1 (Ac e8 y_20.Bytes),.bool y_20.Nested,.sl 4 (Ac Aa.enc y_20.Elements),.int .i64 y_21.Tag,.sl 1 (Ac e8 y_21.Bytes),.bool y_21.Nested,.sl 4 (Ac Aa.enc y_21.Elements),.int .i64 y_22.Tag,.sl 1 (Ac e8 y_22.Bytes),.bool y_22.Nested,.sl 4 (Ac Aa.enc y_22.Elements)]) (.cons .int (.cons .sl (.cons .bool (.cons .sl (.cons .int (.cons .sl (.cons .bool (.cons .sl (.cons .int (.cons .sl (.cons .bool (.cons .sl (.cons .int (.cons .sl (.cons .bool (.cons .sl (.cons .int (.cons .sl (.cons .bool (.cons .sl (.cons .int (.cons .sl (.cons .bool (.cons .sl (.cons .int (.cons .sl (.cons .bool (.cons .sl (.cons .int (.cons .sl (.cons .bool (.cons .sl (.cons .int (.cons .sl (.cons .bool (.cons .sl (.cons .int (.cons .sl (.cons .bool (.cons .sl (.cons .int (.cons .sl (.cons .bool (.cons .sl .nil)))))))))))))))))))))))))))))))))))))))))))) rfl (l:=([y_12,y_13,y_14,y_15,y_16,y_17,y_18,y_19,y_20,y_21,y_22]:List Aa)) (f:=Aa.enc) (by simp only [Ac,aNp,aUm,Aa.enc_eq]; rfl)) rfl rfl rfl ?_
 exact C6
instance aYw:Wk 281:=⟨_,@Zb⟩
theorem zH {n r} (G:Uz n=some r):Fn Tryz.prog 291 0 [vk n] [] (fun d' b'=>d'=.val (.bool r)/\b'=[]):=by
 unfold Uz at G
 refine Ea 0 14 Tryz.func291 fun _ _ _=>?_
 exact C6
instance aX7:Wk 291:=⟨_,@zH⟩
theorem fM (rec:Aa->Option (Bool)) (hrec:∀ (v:Aa) (r:Bool),rec v=some r->Fn Tryz.prog 282 0 [.agg (Aa.dv v)] [] (fun d' b'=>d'=.val (.bool r)/\b'=[])) {x':Aa} {r:Bool} (G:H2 rec x'=some r):Fn Tryz.prog 293 0 [.agg (Aa.dv x')] [] (fun d' b'=>d'=.val (.bool r)/\b'=[]):=by
 unfold H2 at G
 refine Ea 0 6 Tryz.func293 fun _ _ _=>?_
 refine Cb 2 fun B G=>?_
 obtain⟨y,hy,G⟩:=Af G
 refine P9 (hrec _ _ hy) ?_
 exact C6
theorem Nx (rec:Aa->Option (Bool)) (hrec:∀ (v:Aa) (r:Bool),rec v=some r->Fn Tryz.prog 282 0 [.agg (Aa.dv v)] [] (fun d' b'=>d'=.val (.bool r)/\b'=[])) {s:(List Aa)} {f:Aa->Option (Bool)} (hf_f:∀ (x0:Aa) (y:Bool),f x0=some y->Fn Tryz.prog 293 0 [.agg (Aa.dv x0)] [] (fun d' b'=>d'=.val (.bool y)/\b'=[])) {r:Int} (G:Ci rec s f=some r):Fn Tryz.prog 297 0 [.sl 4 (Ac Aa.enc s),.clo 293 0 []] [] (fun d' b'=>d'=vk r/\b'=[]):=by
 unfold Ci at G
 refine Ea 0 19 Tryz.func297 fun _ _ _=>?_
 refine Cb 4 fun B G=>?_
 refine Ip (fun (x8_1:Int)=>mk [(0,.sl 4 (Ac Aa.enc s)),(1,.clo 293 0 []),(7,.val (.int .i64 (s.length:Int))),(8,vk x8_1)] [] 0) G (B5 []) ?_
 rintro x8_1 m1 o1 G hn1
 unfold Ci.l1 at G
 refine E6 (.r 2 (.e 6)) fun _ e he B G=>?_
 refine Ex rfl rfl (Kr Z7 (K9 Aa.enc_len (Cf he) (o:=0) (m:=4) (cs:=[.int .i64 e.Tag,.sl 1 (Ac e8 e.Bytes),.bool e.Nested,.sl 4 (Ac Aa.enc e.Elements)]) (by simp only [Aa.enc_eq]; rfl) (by decide) rfl) (Fh Aa.enc_len (Cf he) (o:=0) (m:=4) (by decide) rfl)) rfl rfl ?_
 obtain⟨y,hy,G⟩:=Af G
 refine F5 (rd:=[]) (ps:=[]) (gs:=[]) false rfl rfl (hf_f e _ hy) rfl rfl (.cons (.agg (.cons .val (.cons .sl (.cons .val (.cons .sl .nil))))) .nil) rfl rfl (by intro h; cases h) rfl rfl rfl rfl ?_
 exact C6
theorem Mu (rec:Aa->Option (Bool)) (hrec:∀ (v:Aa) (r:Bool),rec v=some r->Fn Tryz.prog 282 0 [.agg (Aa.dv v)] [] (fun d' b'=>d'=.val (.bool r)/\b'=[])) {s:(List Aa)} {f:Aa->Option (Bool)} (hf_f:∀ (x0:Aa) (y:Bool),f x0=some y->Fn Tryz.prog 293 0 [.agg (Aa.dv x0)] [] (fun d' b'=>d'=.val (.bool y)/\b'=[])) {r:Bool} (G:Ev rec s f=some r):Fn Tryz.prog 292 0 [.sl 4 (Ac Aa.enc s),.clo 293 0 []] [] (fun d' b'=>d'=.val (.bool r)/\b'=[]):=by
 unfold Ev at G
 refine Ea 0 9 Tryz.func292 fun _ _ _=>?_
 refine Cb 2 fun B G=>?_
 obtain⟨y,hy,G⟩:=Af G
 refine P9 (@Nx rec hrec s f hf_f _ hy) ?_
 exact C6
theorem Vp.F (rec:Aa->Option (Bool)) (hrec:∀ (v:Aa) (r:Bool),rec v=some r->Fn Tryz.prog 282 0 [.agg (Aa.dv v)] [] (fun d' b'=>d'=.val (.bool r)/\b'=[])) {v:Aa} {r:Bool} (G:Dz.F rec v=some r):Fn Tryz.prog 282 0 [.agg (Aa.dv v)] [] (fun d' b'=>d'=.val (.bool r)/\b'=[]):=by
 unfold Dz.F at G
 refine Ea 0 41 Tryz.func282 fun _ _ _=>?_
 refine Cb 1 fun B G=>?_
 refine Ar <| Ba (ι:=Bool) (fun (x36_1:Bool)=>mk [(1,.ptr 0 0),(36,.val (.bool x36_1))] [(0,.box (Aa.dv v) 276)] 1) (fun (x36_1:Bool)=>Dz.j1 rec v x36_1=some r) ?_ ?_
 exact C6
 rintro x36_1 G
 unfold Dz.j1 at G
 refine E6 (.l 0 (.e 2)) fun _ B G=>?_
 obtain⟨y_2,hy_2,G⟩:=Af G
 refine P9 (@Mu rec hrec v.Elements (fun x0=>H2 rec x0) (fun x0 yy hh=>@fM rec hrec x0 yy hh) _ hy_2) ?_
 exact C6
theorem Vp {v:Aa} {r:Bool} (G:Dz v=some r):Fn Tryz.prog 282 0 [.agg (Aa.dv v)] [] (fun d' b'=>d'=.val (.bool r)/\b'=[]):=
 Ro (motive:=fun (x:Aa) (r:Bool)=>Fn Tryz.prog 282 0 [.agg (Aa.dv x)] [] (fun d' b'=>d'=.val (.bool r)/\b'=[])) (fun rec hrec x r h=>@Vp.F _ (fun v r h=>hrec v r h) x r h) v r G
instance bAw:Wk 282:=⟨_,@Vp⟩
end Go.Proofs.YtboglmbblmakjaaGreatDoor
