import Derived.Test.YtkioneinddihlaaGreatT1
import Derived.Test.YtkioneinddihlaaGreatEU
import Derived.Test.YtkioneinddihlaaGreatA1
import Derived.Test.YtkioneinddihlaaGreatA2
set_option linter.unusedVariables false
set_option linter.unusedSimpArgs false
set_option maxRecDepth 100000
set_option maxHeartbeats 40000000
namespace Go.Proofs.YtkioneinddihlaaGreat
open Go.RowKit
theorem Jl {x':List Aa} {cmp:Aa->Aa->Option (Int)} (hf_cmp:∀ (x0:Aa) (x1:Aa) (y:Int),cmp x0 x1=some y->Fn Tryz.prog 67 0 [.agg [vk x0.First,vk x0.Then],.agg [vk x1.First,vk x1.Then]] [] (fun d' b'=>d'=vk y/\b'=[])) {r:(List Aa)} (G:D6 x' cmp=some r):Fn Tryz.prog 66 1 [.row 0,.clo 67 0 []] [.row 120 2 (Ak Aa.enc x')] (fun d' b'=>d'=.tup []/\b'=[.row 120 2 (Ak Aa.enc r)]):=by
 unfold D6 at G
 refine Ez 1 14 Tryz.func66 fun _ _ _=>?_
 refine B7 4 fun y _ B G=>?_
 obtain⟨y_2,hy_2,G⟩:=Aq G
 refine L3 [0] [0] [] false (@Dr x' 0 (x'.length:Int) y cmp hf_cmp _ hy_2) ?_
 exact C1
theorem H5 {s r} (G:Bf s=some r):Fn Tryz.prog 68 0 [.row 0] [.row 120 2 (Ak Aa.enc s)] (fun d' b'=>d'=.row 0/\b'=[.row 120 2 (Ak Aa.enc r)]):=by
 unfold Bf at G
 refine Ez 1 61 Tryz.func68 fun _ _ _=>?_
 refine Jv (.l 3 (.e 4)) fun _ B G=>?_
 refine Gc (fun (k_1:Int)=>mk [(0,.row 0),(3,vk k_1)] [(0,.row 120 2 (Ak Aa.enc s))] 1) G (B9 [(0,0)]) ?_
 rintro k_1 m1 o1 G hn1
 unfold Bf.l1 at G
 refine Dl (.r 2 (.e 3)) fun _ B G=>?_
 refine A8 <| Bn (Dx _ _ []) (by kernel_rfl) [0,0,3,7,0,0,32,112,240,511] 33 113 B rfl rfl (by kernel_rfl) ?_
 refine B7 4 fun e _ e_2 _ B G=>?_
 refine Fw rfl rfl (jJ e e_2) rfl rfl ?_
 refine Jv (.r 0 (.e 5)) fun _ _ _ B G=>?_
 refine Gc (fun ((k_2,k2_2,s_2):Int×Int×List Aa)=>mk [(0,.row 0),(3,vk k_2),(4,.part 0 (((k_1:Int).toNat) * 2) (((s.length:Int):Int).toNat - (k_1:Int).toNat)),(5,vk k2_2)] [(0,.row 120 2 (Ak Aa.enc s_2))] 1) G (B9 [(0,0)]) ?_
 rintro⟨k_2,k2_2,s_2⟩ m2 o2 G hn2
 unfold Bf.l2 at G
 refine Iw 2 fun B G=>?_
 refine Fw rfl rfl (.len Yj.elem .part) rfl rfl ?_
 refine B7 0 fun B G=>?_
 refine Ja rfl G (fun _ G=>?_) fun _ G=>?_
 refine B7 1 fun B G=>?_
 refine A6 (ι:=Int×List Aa) (fun ((k_3,s_3):Int×List Aa)=>mk [(0,.row 0),(3,vk k_3),(4,.part 0 (((k_1:Int).toNat) * 2) (((s.length:Int):Int).toNat - (k_1:Int).toNat)),(5,vk k2_2)] [(0,.row 120 2 (Ak Aa.enc s_3))] 1) (fun ((k_3,s_3):Int×List Aa)=>Bf.j3 k2_2 k_3 s_3=some o2) ?_ ?_
 refine B7 1 fun B G=>?_
 refine A8 <| Bn (Dx _ _ []) (by kernel_rfl) [0,0,3,7,0,0,32,112,240,511] 33 113 B rfl rfl (by kernel_rfl) ?_
 refine B7 0 fun B G=>?_
 obtain⟨e_3,he_3,G⟩:=Aq G
 refine Ik (rd:=[0]) rfl rfl (Yw Yj (H6 he_3) (Cc he_3)) rfl rfl ?_
 refine Ik (rd:=[0]) rfl rfl (Va mU (Iy Aa.enc_len (Ow (a:=(k_1:Int).toNat) (Cc he_3)) (o:=0) (m:=2) (cs:=[.int .i64 e_3.First,.int .i64 e_3.Then]) rfl (by decide) rfl) (Fe Aa.enc_len (Ow (a:=(k_1:Int).toNat) (Cc he_3)) (o:=0) (m:=2) (by decide) rfl)) rfl rfl ?_
 refine B7 0 fun B G=>?_
 obtain⟨e_4,he_4,G⟩:=Aq G
 refine Ik (rd:=[0]) rfl rfl (Yw Yj (H6 he_4) (Cc he_4)) rfl rfl ?_
 refine Ik (rd:=[0]) rfl rfl (Va mU (Iy Aa.enc_len (Ow (a:=(k_1:Int).toNat) (Cc he_4)) (o:=0) (m:=2) (cs:=[.int .i64 e_4.First,.int .i64 e_4.Then]) rfl (by decide) rfl) (Fe Aa.enc_len (Ow (a:=(k_1:Int).toNat) (Cc he_4)) (o:=0) (m:=2) (by decide) rfl)) rfl rfl ?_
 refine Fw rfl rfl (jA e_3 e_4) rfl rfl ?_
 refine Jv (.r 0 (.e 1)) fun _ B G=>?_
 refine Ik (rd:=[0]) rfl rfl (Yw Yj (H6 he_3) (Cc he_3)) rfl rfl ?_
 refine Ik (rd:=[0]) rfl rfl (Va mU (Iy Aa.enc_len (Ow (a:=(k_1:Int).toNat) (Cc he_3)) (o:=0) (m:=2) (cs:=[.int .i64 e_3.First,.int .i64 e_3.Then]) rfl (by decide) rfl) (Fe Aa.enc_len (Ow (a:=(k_1:Int).toNat) (Cc he_3)) (o:=0) (m:=2) (by decide) rfl)) rfl rfl ?_
 refine B7 1 fun _ he_5 B G=>?_
 refine Su Hs he_5 (x':=e_3) ?_
 exact C1
 rintro⟨k_3,s_3⟩ G
 unfold Bf.j3 at G
 exact F0
 refine B7 3 fun _ _ B G=>?_
 obtain⟨l_3,hl_3,G⟩:=Aq G
 refine Ua (rd:=[0]) rfl rfl (xN (f:=Aa.enc) (a:=(k_2:Int).toNat) (m:=(((s_2.length:Int):Int).toNat - (k_2:Int).toNat)) (z0:=(Aa.mk 0 0)) Yj Aa.enc_len (aHs (ck:=[none,none]) aA6 (.cons .int (.cons .int .nil))) (.head _) hl_3) rfl rfl (fun _=>⟨_,rfl⟩) ?_
 rintro _ rfl
 refine B7 2 fun _ hl_4 B G=>?_
 refine G3 (σ':=mk [(2,.part 0 (((0:Int).toNat) * 2) ((k_2:Int).toNat - (0:Int).toNat))] [(0,.row 120 2 (Ak Aa.enc l_3))] 1) (B9 [(0,0)]) ?_
 refine G3 (σ':=mk [(2,.row 0)] [(0,.row 120 2 (Ak Aa.enc (l_3.take ((k_2:Int).toNat - (0:Int).toNat))))] 1) (aG7 2 0 Aa.enc_len (aH4 (Nat.le_add_left _ _) (V9 hl_4)) rfl rfl rfl rfl) ?_
 exact C1
instance aNu:Wk 68:=⟨_,@H5⟩
theorem aV {l r} (G:C6 l=some r):Fn Tryz.prog 42 0 [.sl 2 (Ak Ac.enc l)] [] (fun d' b'=>d'=.sl 2 (Ak Ac.enc r)/\b'=[]):=by
 unfold C6 at G
 refine Ez 0 35 Tryz.func42 fun _ _ _=>?_
 refine B7 5 fun B G=>?_
 refine Gc (fun ((x11_1,rows_1):Int×List Aa)=>mk [(3,.row 0),(9,.sl 2 (Ak Ac.enc l)),(10,.val (.int .i64 (l.length:Int))),(11,vk x11_1)] [(0,.row 120 2 (Ak Aa.enc rows_1))] 1) G (B9 []) ?_
 rintro⟨x11_1,rows_1⟩ m1 o1 G hn1
 unfold C6.l1 at G
 refine Iw 2 fun B G=>?_
 refine Ja rfl G (fun _ G=>?_) fun _ G=>?_
 refine B7 7 fun e _ B G=>?_
 refine H0 Yj aA6 Hs ([(Aa.mk e.First e.Then)]:List Aa) Aa.enc ?_
 exact C1
 refine B7 2 fun B G=>?_
 obtain⟨y,hy,G⟩:=Aq G
 refine L3 [0] [0] [] false (@Jl rows_1 (fun x0 x1=>Eu x0 x1) (fun x0 x1 y h=>@La x0 x1 y h) _ hy) ?_
 refine B7 3 fun B G=>?_
 obtain⟨y_2,hy_2,G⟩:=Aq G
 refine R7 (rd:=[0]) (ps:=[]) (gs:=[0]) false rfl (H5 hy_2) rfl rfl (.cons (.rowK rfl) .nil) ⟨_,_,_,rfl,.head _,rfl,rfl⟩ rfl (by intro h; cases h) rfl (by intro h; first | (cases h; done) | exact⟨_,_,⟨rfl,rfl⟩,by simp,by simp⟩) ?_
 rintro _ _ ⟨rfl,rfl⟩
 refine B7 1 fun B G=>?_
 refine Gc (fun ((x25_2,out_2):Int×List Ac)=>mk [(6,.row 0),(23,.row 1),(24,.val (.int .i64 (y_2.length:Int))),(25,vk x25_2)] [(0,.row 25 2 (Ak Ac.enc out_2)),(1,.row 120 2 (Ak Aa.enc y_2))] 2) G (B9 [(1,41)]) ?_
 rintro⟨x25_2,out_2⟩ m2 o2 G hn2
 unfold C6.l2 at G
 refine Dl (.r 2 (.e 7)) fun _ e_2 _ B G=>?_
 refine H0 W9 Z9 aU ([(Ac.mk e_2.First e_2.Then)]:List Ac) Ac.enc ?_
 exact C1
instance aNj:Wk 42:=⟨_,@aV⟩
theorem eY {l r} (G:G4 l=some r):Fn Tryz.prog 27 0 [.sl 1 (Ak eI l)] [] (fun d' b'=>d'=.sl 2 (Ak Ac.enc r)/\b'=[]):=by
 unfold G4 at G
 refine Ez 0 26 Tryz.func27 fun _ _ _=>?_
 refine B7 5 fun B G=>?_
 refine Gc (fun ((i_1,out_1):Int×List Ac)=>mk [(0,.sl 1 (Ak eI l)),(3,.row 0),(4,vk i_1)] [(0,.row 25 2 (Ak Ac.enc out_1))] 1) G (B9 []) ?_
 rintro⟨i_1,out_1⟩ m1 o1 G hn1
 unfold G4.l1 at G
 refine Iw 2 fun B G=>?_
 refine Ja rfl G (fun _ G=>?_) fun _ G=>?_
 refine B7 3 fun B G=>?_
 refine Bn (Dx _ _ []) (by kernel_rfl) [0,0,0,4,14,30,0,0,192,448,1022,2046,4095,8191] 33 145 B rfl rfl (by kernel_rfl) ?_
 refine B7 4 fun e _ e_2 _ B G=>?_
 refine Kp Pb Yt Z9 ?_
 refine H0 W9 Z9 aU ([(Ac.mk e e_2)]:List Ac) Ac.enc ?_
 exact C1
 refine B7 1 fun B G=>?_
 refine A8 <| G3 (σ':=mk [(3,.sl 2 (Ak Ac.enc out_1))] [] 0) (B9 []) ?_
 exact C1
instance aM4:Wk 27:=⟨_,@eY⟩
theorem bB {r} (G:Jn=some r):Fn Tryz.prog 5 0 [] [] (fun d' b'=>d'=.val (.bool r)/\b'=[]):=by
 unfold Jn at G
 refine Ez 0 17 Tryz.func5 fun _ _ _=>?_
 refine B7 1 fun B G=>?_
 refine A8 <| Cn (Dx _ _ [96]) 8 144 B rfl rfl ?_
 refine Kp Ri xW z59 ?_
 refine Kp Ou eG jK ?_
 refine Jv (.r 1 (.e 0)) fun _ _ _ B G=>?_
 refine Kp Ri xW z59 ?_
 refine Kp Ou eG jK ?_
 refine Jv (.r 1 (.e 0)) fun _ _ _ B G=>?_
 refine Qv Es z3 I6 ([2,0,1]:List Int) eI ?_
 exact C1
instance wk5:Wk 5:=⟨_,@bB⟩
theorem W1 {l r} (G:Ov l=some r):Fn Tryz.prog 6 0 [.sl 1 (Ak eI l)] [] (fun d' b'=>d'=.ptr 0 0/\b'=[.box [.sl 1 (Ak eI r.L),vk r.At] 68]):=by
 unfold Ov at G
 refine Ez 0 6 Tryz.func6 fun _ _ _=>?_
 refine B7 2 fun B G=>?_
 refine Kp qW aJw z68 ?_
 exact C1
instance wk6:Wk 6:=⟨_,@W1⟩
theorem lB {n k r} (G:Ke n k=some r):Fn Tryz.prog 16 0 [vk n,vk k] [] (fun d' b'=>d'=vk r/\b'=[]):=by
 unfold Ke at G
 refine Ez 0 14 Tryz.func16 fun _ _ _=>?_
 exact C1
instance aMq:Wk 16:=⟨_,@lB⟩
theorem Ew {d n r} (G:A3 d n=some r):Fn Tryz.prog 28 1 [.ptr 0 0,vk n] [.box [.sl 1 (Ak eI d.L),vk d.At] 68] (fun d' b'=>d'=vk r.1/\b'=[.box [.sl 1 (Ak eI r.2.L),vk r.2.At] 68]):=by
 unfold A3 at G
 refine Ez 1 35 Tryz.func28 fun _ _ _=>?_
 refine B7 1 fun B G=>?_
 refine A8 <| A8 <| Bn (Dx _ _ []) (by kernel_rfl) [0,1,3,7,0,16,48,112,240,511] 9 89 B rfl rfl (by kernel_rfl) ?_
 refine Jv (.l 0 (.e 2)) fun _ B G=>?_
 refine A8 <| Bn (Dx _ _ []) (by kernel_rfl) [0,1,3,7,0,16,48,112,240,511,1023,0,4095,8191] 153 265 B rfl rfl (by kernel_rfl) ?_
 exact C1
instance aOb:Wk 28:=⟨_,@Ew⟩
theorem I4 {d l r} (G:Cf d l=some r):Fn Tryz.prog 29 1 [.ptr 0 0,.sl 1 (Ak eI l)] [.box [.sl 1 (Ak eI d.L),vk d.At] 68] (fun d' b'=>d'=vk r.1/\b'=[.box [.sl 1 (Ak eI r.2.L),vk r.2.At] 68]):=by
 unfold Cf at G
 refine Ez 1 12 Tryz.func29 fun _ _ _=>?_
 exact C1
instance aM1:Wk 29:=⟨_,@I4⟩
theorem Ig {d n r} (G:Ed d n=some r):Fn Tryz.prog 9 1 [.ptr 0 0,vk n] [.box [.sl 1 (Ak eI d.L),vk d.At] 68] (fun d' b'=>d'=.val (.bool r.1)/\b'=[.box [.sl 1 (Ak eI r.2.L),vk r.2.At] 68]):=by
 unfold Ed at G
 refine Ez 1 11 Tryz.func9 fun _ _ _=>?_
 exact C1
instance wk9:Wk 9:=⟨_,@Ig⟩
theorem Zs {r} (G:Jx=some r):Fn Tryz.prog 31 0 [] [] (fun d' b'=>d'=.agg [vk r.Alg,vk r.Bits]/\b'=[]):=by
 unfold Jx at G
 refine Ez 0 2 Tryz.func31 fun _ _ _=>?_
 refine B7 2 fun B G=>?_
 refine Kp Lm Q9 bN ?_
 exact C1
instance aNg:Wk 31:=⟨_,@Zs⟩
theorem dV {c r} (G:Lr c=some r):Fn Tryz.prog 73 0 [.agg (Ah.dv c)] [] (fun d' b'=>d'=.agg (Ah.dv r)/\b'=[]):=by
 unfold Lr at G
 refine Ez 0 9 Tryz.func73 fun _ _ _=>?_
 refine B7 2 fun B G=>?_
 refine Fw rfl rfl (G5 Qh z9 (by decide) rfl rfl rfl rfl vW (cs:=[]) .nil rfl (l:=([]:List ByteArray)) (f:=eS) rfl) rfl rfl ?_
 exact C1
instance aN4:Wk 73:=⟨_,@dV⟩
theorem cT {s r} (G:C2 s=some r):Fn Tryz.prog 101 0 [ws s] [] (fun d' b'=>d'=.val (.bool r)/\b'=[]):=by
 unfold C2 at G
 refine Ez 0 28 Tryz.func101 fun _ _ _=>?_
 refine B7 1 fun B G=>?_
 refine A8 <| A6 (ι:=Bool) (fun (x11_1:Bool)=>mk [(0,ws s),(11,.val (.bool x11_1))] [] 0) (fun (x11_1:Bool)=>C2.j1 s x11_1=some r) ?_ ?_
 exact C1
 rintro x11_1 G
 unfold C2.j1 at G
 refine Dl (.l 0 (.e 4)) fun _ B G=>?_
 refine Gc (fun (i_2:Int)=>mk [(0,ws s),(3,vk i_2)] [] 0) G (B9 []) ?_
 rintro i_2 m2 o2 G hn2
 unfold C2.l2 at G
 refine Dl (.r 3 (.e 3)) fun _ B G=>?_
 refine A6 (ι:=Bool) (fun (x27_3:Bool)=>mk [(0,ws s),(3,vk i_2),(27,.val (.bool x27_3))] [] 0) (fun (x27_3:Bool)=>C2.j3 i_2 x27_3=some o2) ?_ ?_
 exact C1
 rintro x27_3 G
 unfold C2.j3 at G
 exact F0
instance aLh:Wk 101:=⟨_,@cT⟩
theorem Xi {b r} (G:D1 b=some r):Fn Tryz.prog 149 0 [vk b] [] (fun d' b'=>d'=vk r/\b'=[]):=by
 unfold D1 at G
 refine Ez 0 25 Tryz.func149 fun _ _ _=>?_
 refine B7 3 fun B G=>?_
 refine A6 (ι:=Bool) (fun (x3_1:Bool)=>mk [(0,vk b),(3,.val (.bool x3_1))] [] 0) (fun (x3_1:Bool)=>D1.j1 b x3_1=some r) ?_ ?_
 exact C1
 rintro x3_1 G
 unfold D1.j1 at G
 exact F0
instance aKh:Wk 149:=⟨_,@Xi⟩
theorem Ip {b sizes strengths r} (G:Cd b sizes strengths=some r):Fn Tryz.prog 150 0 [vk b,.sl 1 (Ak eI sizes),.sl 1 (Ak eI strengths)] [] (fun d' b'=>d'=vk r/\b'=[]):=by
 unfold Cd at G
 refine Ez 0 24 Tryz.func150 fun _ _ _=>?_
 refine B7 4 fun B G=>?_
 refine Gc (fun (i_1:Int)=>mk [(0,vk b),(1,.sl 1 (Ak eI sizes)),(2,.sl 1 (Ak eI strengths)),(7,vk i_1)] [] 0) G (B9 []) ?_
 rintro i_1 m1 o1 G hn1
 unfold Cd.l1 at G
 exact F0
instance aJ9:Wk 150:=⟨_,@Ip⟩
theorem Yk {alg r} (G:Dw alg=some r):Fn Tryz.prog 151 0 [vk alg] [] (fun d' b'=>d'=vk r/\b'=[]):=by
 unfold Dw at G
 refine Ez 0 21 Tryz.func151 fun _ _ _=>?_
 refine Jv (.l 5 (.l 1 (.e 0))) fun _ _ B G=>?_
 refine A6 (ι:=Bool) (fun (x8_1:Bool)=>mk [(3,vk alg),(8,.val (.bool x8_1))] [] 0) (fun (x8_1:Bool)=>Dw.j1 alg x8_1=some r) ?_ ?_
 exact C1
 rintro x8_1 G
 unfold Dw.j1 at G
 refine Dl (.l 0 (.l 1 (.e 0))) fun _ _ B G=>?_
 refine A6 (ι:=Bool) (fun (x14_2:Bool)=>mk [(3,vk alg),(14,.val (.bool x14_2))] [] 0) (fun (x14_2:Bool)=>Dw.j2 alg x14_2=some r) ?_ ?_
 exact C1
 rintro x14_2 G
 unfold Dw.j2 at G
 exact F0
instance aLd:Wk 151:=⟨_,@Yk⟩
theorem Vt {u r} (G:Ay u=some r):Fn Tryz.prog 127 0 [.agg [vk u.Alg,vk u.Bits]] [] (fun d' b'=>d'=vk r/\b'=[]):=by
 unfold Ay at G
 refine Ez 0 76 Tryz.func127 fun _ _ _=>?_
 refine B7 5 fun B G=>?_
 refine A6 (ι:=Bool) (fun (x8_1:Bool)=>mk [(1,.ptr 0 0),(3,vk u.Bits),(7,vk u.Alg),(8,.val (.bool x8_1))] [(0,.box [vk u.Alg,vk u.Bits] 40)] 1) (fun (x8_1:Bool)=>Ay.j1 u x8_1=some r) ?_ ?_
 exact C1
 rintro x8_1 G
 unfold Ay.j1 at G
 refine Dl (.l 0 (.e 0)) fun _ B G=>?_
 refine A6 (ι:=Bool) (fun (x15_2:Bool)=>mk [(1,.ptr 0 0),(3,vk u.Bits),(7,vk u.Alg),(15,.val (.bool x15_2))] [(0,.box [vk u.Alg,vk u.Bits] 40)] 1) (fun (x15_2:Bool)=>Ay.j2 u x15_2=some r) ?_ ?_
 exact C1
 rintro x15_2 G
 unfold Ay.j2 at G
 try dsimp only at G
 refine Nl rfl ?_
 refine Ja rfl G (fun _ G=>?_) fun _ G=>?_
 refine A8 <| A6 (ι:=Bool) (fun (x35_3:Bool)=>mk [(3,vk u.Bits),(35,.val (.bool x35_3))] [] 0) (fun (x35_3:Bool)=>Ay.j3 u x35_3=some r) ?_ ?_
 exact C1
 rintro x35_3 G
 unfold Ay.j3 at G
 exact F0
 refine B7 1 fun B G=>?_
 refine Ja rfl G (fun _ G=>?_) fun _ G=>?_
 refine B7 1 fun B G=>?_
 refine H0 Es z3 I6 ([44,65,87]:List Int) eI ?_
 refine H0 Es z3 I6 ([128,192,256]:List Int) eI ?_
 obtain⟨y_2,hy_2,G⟩:=Aq G
 refine L3 [25,33] [] [] true (Ip hy_2) ?_
 exact C1
 refine B7 1 fun B G=>?_
 refine Ja rfl G (fun _ G=>?_) fun _ G=>?_
 refine B7 1 fun B G=>?_
 refine H0 Es z3 I6 ([512,768,1024]:List Int) eI ?_
 refine H0 Es z3 I6 ([128,192,256]:List Int) eI ?_
 obtain⟨y_3,hy_3,G⟩:=Aq G
 refine L3 [41,49] [] [] true (Ip hy_3) ?_
 exact C1
 refine B7 1 fun B G=>?_
 refine Ja rfl G (fun _ G=>?_) fun _ G=>?_
 refine B7 1 fun B G=>?_
 refine H0 Es z3 I6 ([40,128]:List Int) eI ?_
 refine H0 Es z3 I6 ([40,60]:List Int) eI ?_
 obtain⟨y_4,hy_4,G⟩:=Aq G
 refine L3 [57,65] [] [] true (Ip hy_4) ?_
 exact C1
 refine B7 1 fun B G=>?_
 refine Ja rfl G (fun _ G=>?_) fun _ G=>?_
 refine B7 1 fun B G=>?_
 refine H0 Es z3 I6 ([112,168]:List Int) eI ?_
 refine H0 Es z3 I6 ([80,112]:List Int) eI ?_
 obtain⟨y_5,hy_5,G⟩:=Aq G
 refine L3 [73,81] [] [] true (Ip hy_5) ?_
 exact C1
 refine A6 (ι:=Bool) (fun (x62_4:Bool)=>mk [(1,.ptr 0 0),(3,vk u.Bits),(62,.val (.bool x62_4))] [(0,.box [vk u.Alg,vk u.Bits] 40)] 1) (fun (x62_4:Bool)=>Ay.j4 u x62_4=some r) ?_ ?_
 exact C1
 rintro x62_4 G
 unfold Ay.j4 at G
 try dsimp only at G
 refine Nl rfl ?_
 refine Ja rfl G (fun _ G=>?_) fun _ G=>?_
 refine B7 1 fun B G=>?_
 refine H0 Es z3 I6 ([128,256]:List Int) eI ?_
 refine H0 Es z3 I6 ([128,256]:List Int) eI ?_
 obtain⟨y_6,hy_6,G⟩:=Aq G
 refine L3 [9,17] [] [] true (Ip hy_6) ?_
 exact C1
 refine B7 2 fun B G=>?_
 refine H0 Es z3 I6 ([0]:List Int) eI ?_
 refine B7 1 fun y_7 _ B G=>?_
 refine H0 Es z3 I6 ([y_7]:List Int) eI ?_
 obtain⟨y_8,hy_8,G⟩:=Aq G
 refine L3 [9,41] [] [] true (Ip hy_8) ?_
 exact C1
instance aKg:Wk 127:=⟨_,@Vt⟩
theorem aX {u r} (G:Iq u=some r):Fn Tryz.prog 102 0 [.agg [vk u.Alg,vk u.Bits]] [] (fun d' b'=>d'=.val (.bool r)/\b'=[]):=by
 unfold Iq at G
 refine Ez 0 6 Tryz.func102 fun _ _ _=>?_
 exact C1
instance aLn:Wk 102:=⟨_,@aX⟩
theorem cU {r} (G:P6=some r):Fn Tryz.prog 126 0 [] [] (fun d' b'=>d'=.sl 2 (Ak As.enc r)/\b'=[]):=by
 unfold P6 at G
 refine Ez 0 25 Tryz.func126 fun _ _ _=>?_
 refine B7 2 fun B G=>?_
 refine Fw rfl rfl (.build (r:=[.val (.string (⟨#[]⟩:ByteArray)),.val (.int .i64 0)]) Hm Kd Mz (by kernel_rfl) rfl) rfl rfl ?_
 refine Fw rfl rfl (.build (r:=[.val (.string (⟨#[109,100,53]⟩:ByteArray)),.val (.int .i64 1)]) Hm Kd Mz (by kernel_rfl) rfl) rfl rfl ?_
 refine Fw rfl rfl (.build (r:=[.val (.string (⟨#[115,104,97,49]⟩:ByteArray)),.val (.int .i64 1)]) Hm Kd Mz (by kernel_rfl) rfl) rfl rfl ?_
 refine Fw rfl rfl (.build (r:=[.val (.string (⟨#[115,104,97,50,53,54]⟩:ByteArray)),.val (.int .i64 1)]) Hm Kd Mz (by kernel_rfl) rfl) rfl rfl ?_
 refine Fw rfl rfl (.build (r:=[.val (.string (⟨#[115,104,97,51,56,52]⟩:ByteArray)),.val (.int .i64 1)]) Hm Kd Mz (by kernel_rfl) rfl) rfl rfl ?_
 refine Fw rfl rfl (.build (r:=[.val (.string (⟨#[114,115,97]⟩:ByteArray)),.val (.int .i64 2)]) Hm Kd Mz (by kernel_rfl) rfl) rfl rfl ?_
 refine Fw rfl rfl (.build (r:=[.val (.string (⟨#[100,115,97]⟩:ByteArray)),.val (.int .i64 2)]) Hm Kd Mz (by kernel_rfl) rfl) rfl rfl ?_
 refine Fw rfl rfl (.build (r:=[.val (.string (⟨#[101,99,100,115,97]⟩:ByteArray)),.val (.int .i64 2)]) Hm Kd Mz (by kernel_rfl) rfl) rfl rfl ?_
 refine Fw rfl rfl (.build (r:=[.val (.string (⟨#[101,100,50,53,53,49,57]⟩:ByteArray)),.val (.int .i64 2)]) Hm Kd Mz (by kernel_rfl) rfl) rfl rfl ?_
 refine Fw rfl rfl (.build (r:=[.val (.string (⟨#[109,108,100,115,97]⟩:ByteArray)),.val (.int .i64 2)]) Hm Kd Mz (by kernel_rfl) rfl) rfl rfl ?_
 refine Fw rfl rfl (.build (r:=[.val (.string (⟨#[114,115,97,107,120]⟩:ByteArray)),.val (.int .i64 3)]) Hm Kd Mz (by kernel_rfl) rfl) rfl rfl ?_
 refine Fw rfl rfl (.build (r:=[.val (.string (⟨#[100,104,101]⟩:ByteArray)),.val (.int .i64 3)]) Hm Kd Mz (by kernel_rfl) rfl) rfl rfl ?_
 refine Fw rfl rfl (.build (r:=[.val (.string (⟨#[101,99,100,104,101]⟩:ByteArray)),.val (.int .i64 3)]) Hm Kd Mz (by kernel_rfl) rfl) rfl rfl ?_
 refine Fw rfl rfl (.build (r:=[.val (.string (⟨#[109,108,107,101,109]⟩:ByteArray)),.val (.int .i64 3)]) Hm Kd Mz (by kernel_rfl) rfl) rfl rfl ?_
 refine Fw rfl rfl (.build (r:=[.val (.string (⟨#[114,99,52]⟩:ByteArray)),.val (.int .i64 4)]) Hm Kd Mz (by kernel_rfl) rfl) rfl rfl ?_
 refine Fw rfl rfl (.build (r:=[.val (.string (⟨#[100,101,115,51]⟩:ByteArray)),.val (.int .i64 4)]) Hm Kd Mz (by kernel_rfl) rfl) rfl rfl ?_
 refine Fw rfl rfl (.build (r:=[.val (.string (⟨#[97,101,115,99,98,99]⟩:ByteArray)),.val (.int .i64 4)]) Hm Kd Mz (by kernel_rfl) rfl) rfl rfl ?_
 refine Fw rfl rfl (.build (r:=[.val (.string (⟨#[97,101,115,103,99,109]⟩:ByteArray)),.val (.int .i64 4)]) Hm Kd Mz (by kernel_rfl) rfl) rfl rfl ?_
 refine Fw rfl rfl (.build (r:=[.val (.string (⟨#[99,104,97,99,104,97]⟩:ByteArray)),.val (.int .i64 4)]) Hm Kd Mz (by kernel_rfl) rfl) rfl rfl ?_
 refine Fw rfl rfl (.build (r:=[.val (.string (⟨#[104,109,97,99,109,100,53]⟩:ByteArray)),.val (.int .i64 5)]) Hm Kd Mz (by kernel_rfl) rfl) rfl rfl ?_
 refine Fw rfl rfl (.build (r:=[.val (.string (⟨#[104,109,97,99,115,104,97,49]⟩:ByteArray)),.val (.int .i64 5)]) Hm Kd Mz (by kernel_rfl) rfl) rfl rfl ?_
 refine Fw rfl rfl (.build (r:=[.val (.string (⟨#[104,109,97,99,115,104,97,50,53,54]⟩:ByteArray)),.val (.int .i64 5)]) Hm Kd Mz (by kernel_rfl) rfl) rfl rfl ?_
 refine Fw rfl rfl (.build (r:=[.val (.string (⟨#[97,101,97,100]⟩:ByteArray)),.val (.int .i64 5)]) Hm Kd Mz (by kernel_rfl) rfl) rfl rfl ?_
 refine H0 aAl Mz aHc ([(As.mk (⟨#[]⟩:ByteArray) 0),(As.mk (⟨#[109,100,53]⟩:ByteArray) 1),(As.mk (⟨#[115,104,97,49]⟩:ByteArray) 1),(As.mk (⟨#[115,104,97,50,53,54]⟩:ByteArray) 1),(As.mk (⟨#[115,104,97,51,56,52]⟩:ByteArray) 1),(As.mk (⟨#[114,115,97]⟩:ByteArray) 2),(As.mk (⟨#[100,115,97]⟩:ByteArray) 2),(As.mk (⟨#[101,99,100,115,97]⟩:ByteArray) 2),(As.mk (⟨#[101,100,50,53,53,49,57]⟩:ByteArray) 2),(As.mk (⟨#[109,108,100,115,97]⟩:ByteArray) 2),(As.mk (⟨#[114,115,97,107,120]⟩:ByteArray) 3),(As.mk (⟨#[100,104,101]⟩:ByteArray) 3),(As.mk (⟨#[101,99,100,104,101]⟩:ByteArray) 3),(As.mk (⟨#[109,108,107,101,109]⟩:ByteArray) 3),(As.mk (⟨#[114,99,52]⟩:ByteArray) 4),(As.mk (⟨#[100,101,115,51]⟩:ByteArray) 4),(As.mk (⟨#[97,101,115,99,98,99]⟩:ByteArray) 4),(As.mk (⟨#[97,101,115,103,99,109]⟩:ByteArray) 4),(As.mk (⟨#[99,104,97,99,104,97]⟩:ByteArray) 4),(As.mk (⟨#[104,109,97,99,109,100,53]⟩:ByteArray) 5),(As.mk (⟨#[104,109,97,99,115,104,97,49]⟩:ByteArray) 5),(As.mk (⟨#[104,109,97,99,115,104,97,50,53,54]⟩:ByteArray) 5),(As.mk (⟨#[97,101,97,100]⟩:ByteArray) 5)]:List As) As.enc ?_
 exact C1
instance aLo:Wk 126:=⟨_,@cU⟩
end Go.Proofs.YtkioneinddihlaaGreat
