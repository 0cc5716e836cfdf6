import Derived.Test.YtbpchmikjiinpaaGreatT1
import Derived.Test.YtbpchmikjiinpaaGreatEU
import Derived.Test.YtbpchmikjiinpaaGreatA1
set_option linter.unusedVariables false
set_option linter.unusedSimpArgs false
set_option maxRecDepth 100000
set_option maxHeartbeats 40000000
namespace Go.Proofs.YtbpchmikjiinpaaGreat
open Go.RowKit
theorem W7 {u r} (G:Fp u=some r):Fn Tryz.prog 111 0 [.agg [vk u.Alg,vk u.Bits]] [] (fun d' b'=>d'=.val (.bool r)/\b'=[]):=by
 unfold Fp at G
 refine Dx 0 11 Tryz.func111 fun _ _ _=>?_
 exact Cf
instance aN5:Wk 111:=⟨_,@W7⟩
theorem eW {c r} (G:A8 c=some r):Fn Tryz.prog 81 0 [.agg (Ah.dv c)] [] (fun d' b'=>d'=vk r/\b'=[]):=by
 unfold A8 at G
 refine Dx 0 146 Tryz.func81 fun _ _ _=>?_
 refine Bt 1 fun B G=>?_
 refine Au <| Ba (ι:=Bool) (fun (x39_1:Bool)=>mk [(1,.ptr 0 0),(39,.val (.bool x39_1))] [(0,.box (Ah.dv c) 103)] 1) (fun (x39_1:Bool)=>A8.j1 c x39_1=some r) ?_ ?_
 exact Cf
 rintro x39_1 G
 unfold A8.j1 at G
 refine D4 (.l 0 (.e 1)) fun _ B G=>?_
 refine Au <| Ba (ι:=Bool) (fun (x67_2:Bool)=>mk [(1,.ptr 0 0),(67,.val (.bool x67_2))] [(0,.box (Ah.dv c) 103)] 1) (fun (x67_2:Bool)=>A8.j2 c x67_2=some r) ?_ ?_
 exact Cf
 rintro x67_2 G
 unfold A8.j2 at G
 refine D4 (.l 0 (.e 1)) fun _ B G=>?_
 refine Au <| Ba (ι:=Bool) (fun (x91_3:Bool)=>mk [(1,.ptr 0 0),(91,.val (.bool x91_3))] [(0,.box (Ah.dv c) 103)] 1) (fun (x91_3:Bool)=>A8.j3 c x91_3=some r) ?_ ?_
 exact Cf
 rintro x91_3 G
 unfold A8.j3 at G
 refine D4 (.l 0 (.e 4)) fun _ B G=>?_
 refine G7 (fun (i_4:Int)=>mk [(1,.ptr 0 0),(3,vk i_4)] [(0,.box (Ah.dv c) 103)] 1) G (B9 [(0,0)]) ?_
 rintro i_4 m4 o4 G hn4
 unfold A8.l4 at G
 refine I9 2 fun B G=>?_
 refine Jf rfl G (fun _ G=>?_) fun _ G=>?_
 refine Bt 3 fun B G=>?_
 refine Ba (ι:=Bool) (fun (x123_5:Bool)=>mk [(1,.ptr 0 0),(3,vk i_4),(123,.val (.bool x123_5))] [(0,.box (Ah.dv c) 103)] 1) (fun (x123_5:Bool)=>A8.j5 i_4 x123_5=some o4) ?_ ?_
 refine Bb (Df _ _ []) (by kernel_rfl) [0,1,0,7,15,31,63,127,255,511,1023,2047,4095,2047,10239,32767,65535,2047,133119,2047,919551,1968127,4194303,8388607,16777215] 41 241 B rfl rfl (by kernel_rfl) ?_
 exact Cf
 rintro x123_5 G
 unfold A8.j5 at G
 exact Hf
 refine Bt 1 fun B G=>?_
 refine Au <| Ba (ι:=Bool) (fun (x145_6:Bool)=>mk [(145,.val (.bool x145_6))] [] 0) (fun (x145_6:Bool)=>A8.j6 x145_6=some r) ?_ ?_
 exact Cf
 rintro x145_6 G
 unfold A8.j6 at G
 exact Hf
instance aQi:Wk 81:=⟨_,@eW⟩
theorem gO {s r} (G:Kp s=some r):Fn Tryz.prog 148 0 [ws s] [] (fun d' b'=>d'=.agg (Ae.dv r)/\b'=[]):=by
 unfold Kp at G
 refine Dx 0 6 Tryz.func148 fun _ _ _=>?_
 refine Bt 3 fun B G=>?_
 refine L1 S4 kC dO ?_
 exact Cf
instance aNp:Wk 148:=⟨_,@gO⟩
theorem lF {n r} (G:Cr n=some r):Fn Tryz.prog 150 0 [vk n] [] (fun d' b'=>d'=.agg (Ae.dv r)/\b'=[]):=by
 unfold Cr at G
 refine Dx 0 45 Tryz.func150 fun _ _ _=>?_
 refine Bt 3 fun B G=>?_
 refine Hj T2 z5 yV ([(u8 n)]:List UInt8) e8 ?_
 refine Bt 4 fun _ _ B G=>?_
 refine G7 (fun ((x_1,b_1):Int×List UInt8)=>mk [(2,.ptr 0 0),(3,.row 1),(4,vk x_1)] [(0,.box [.val (.int .i64 0),.val (.slice none 0 0),.val (.bool false),.val (.slice none 0 0)] 159),(1,.row 5 1 (Aj e8 b_1))] 2) G (B9 [(0,0),(1,24)]) ?_
 rintro⟨x_1,b_1⟩ m1 o1 G hn1
 unfold Cr.l1 at G
 try dsimp only at G
 refine R3 rfl ?_
 refine Au <| Ba (ι:=Bool) (fun (x35_2:Bool)=>mk [(2,.ptr 0 0),(3,.row 1),(4,vk x_1),(35,.val (.bool x35_2))] [(0,.box [.val (.int .i64 0),.val (.slice none 0 0),.val (.bool false),.val (.slice none 0 0)] 159),(1,.row 5 1 (Aj e8 b_1))] 2) (fun (x35_2:Bool)=>Cr.j2 x_1 b_1 x35_2=some o1) ?_ ?_
 exact Cf
 rintro x35_2 G
 unfold Cr.j2 at G
 try dsimp only at G
 refine R3 rfl ?_
 refine Jf rfl G (fun _ G=>?_) fun _ G=>?_
 refine Bt 5 fun B G=>?_
 refine Hj T2 z5 yV ([(u8 x_1)]:List UInt8) e8 ?_
 exact Cf
 refine Bt 2 fun B G=>?_
 refine L1 S4 kC dO ?_
 exact Cf
instance aO7:Wk 150:=⟨_,@lF⟩
theorem Pu.F (rec:(List Ae)->Option ((List Ae))) (hrec:∀ (l:(List Ae)) (r:(List Ae)),rec l=some r->Fn Tryz.prog 179 0 [.sl 4 (Aj Ae.enc l)] [] (fun d' b'=>d'=.sl 4 (Aj Ae.enc r)/\b'=[])) {l:(List Ae)} {r:(List Ae)} (G:Cz.F rec l=some r):Fn Tryz.prog 179 0 [.sl 4 (Aj Ae.enc l)] [] (fun d' b'=>d'=.sl 4 (Aj Ae.enc r)/\b'=[]):=by
 unfold Cz.F at G
 refine Dx 0 30 Tryz.func179 fun _ _ _=>?_
 refine Bt 5 fun B G=>?_
 refine G7 (fun ((i_1,out_1):Int×List Ae)=>mk [(0,.sl 4 (Aj Ae.enc l)),(3,.row 0),(4,vk i_1)] [(0,.row 159 4 (Aj Ae.enc out_1))] 1) G (B9 []) ?_
 rintro⟨i_1,out_1⟩ m1 o1 G hn1
 unfold Cz.l1 at G
 refine D4 (.r 2 (.e 5)) fun _ e he B G=>?_
 refine Et rfl rfl (Ef kW (Kb Ae.enc_len (Dj he) (o:=0) (m:=4) (cs:=[.int .i64 e.Tag,.sl 1 (Aj e8 e.Bytes),.bool e.Nested,.sl 4 (Aj Ae.enc e.Elements)]) (by simp only [Ae.enc_eq]; rfl) (by decide) rfl) (Gd Ae.enc_len (Dj he) (o:=0) (m:=4) (by decide) rfl)) rfl rfl ?_
 refine Bt 1 fun B G=>?_
 refine Et rfl rfl (Fw T2 z5 (by decide) rfl rfl rfl rfl yV (cs:=[]) .nil rfl (l:=([]:List UInt8)) (f:=e8) rfl) rfl rfl ?_
 refine Bt 2 fun l_2 _ B G=>?_
 obtain⟨y,hy,G⟩:=Ak G
 refine Ni (hrec _ _ hy) ?_
 refine Bt 0 fun B G=>?_
 refine Ew (σ':=mk [(0,.sl 4 (Aj Ae.enc l)),(3,.row 0),(4,vk i_1),(5,.ptr 1 0)] [(0,.row 159 4 (Aj Ae.enc out_1)),(1,.box [vk e.Tag,.sl 1 (Aj e8 l_2),.val (.bool e.Nested),.sl 4 (Aj Ae.enc y)] 159)] 2) (B9 [(0,0),(1,65)]) ?_
 refine Bt 1 fun B G=>?_
 refine Et rfl rfl (Fw mI dO (by decide) rfl rfl rfl rfl pZ (cs:=[.int .i64 e.Tag,.sl 1 (Aj e8 l_2),.bool e.Nested,.sl 4 (Aj Ae.enc y)]) (.cons .int (.cons .sl (.cons .bool (.cons .sl .nil)))) rfl (l:=([(Ae.mk e.Tag l_2 e.Nested y)]:List Ae)) (f:=Ae.enc) (by simp only [Aj,aNs,aSz,Ae.enc_eq]; rfl)) rfl rfl ?_
 exact Cf
theorem Pu {l:(List Ae)} {r:(List Ae)} (G:Cz l=some r):Fn Tryz.prog 179 0 [.sl 4 (Aj Ae.enc l)] [] (fun d' b'=>d'=.sl 4 (Aj Ae.enc r)/\b'=[]):=
 Tu (motive:=fun (x:(List Ae)) (r:(List Ae))=>Fn Tryz.prog 179 0 [.sl 4 (Aj Ae.enc x)] [] (fun d' b'=>d'=.sl 4 (Aj Ae.enc r)/\b'=[])) (fun rec hrec x r h=>@Pu.F _ (fun l r h=>hrec l r h) x r h) l r G
instance aNw:Wk 179:=⟨_,@Pu⟩
theorem jH {l r} (G:Jk l=some r):Fn Tryz.prog 149 0 [.sl 4 (Aj Ae.enc l)] [] (fun d' b'=>d'=.agg (Ae.dv r)/\b'=[]):=by
 unfold Jk at G
 refine Dx 0 6 Tryz.func149 fun _ _ _=>?_
 refine Bt 3 fun _ _ B G=>?_
 refine L1 S4 kC dO ?_
 exact Cf
instance aOp:Wk 149:=⟨_,@jH⟩
theorem lD {u r} (G:My u=some r):Fn Tryz.prog 151 0 [.agg [vk u.Alg,vk u.Bits]] [] (fun d' b'=>d'=.agg (Ae.dv r)/\b'=[]):=by
 unfold My at G
 refine Dx 0 11 Tryz.func151 fun _ _ _=>?_
 refine Bt 1 fun B G=>?_
 refine Au <| Bb (Df _ _ [64]) (by kernel_rfl) [0,1,3,0,8,31,63,127,255] 16 88 B rfl rfl (by kernel_rfl) ?_
 refine Bt 2 fun y _ y_2 _ B G=>?_
 refine aEp (rd:=[]) rfl rfl (Fw mI dO (by decide) rfl rfl rfl rfl pZ (cs:=[.int .i64 y.Tag,.sl 1 (Aj e8 y.Bytes),.bool y.Nested,.sl 4 (Aj Ae.enc y.Elements),.int .i64 y_2.Tag,.sl 1 (Aj e8 y_2.Bytes),.bool y_2.Nested,.sl 4 (Aj Ae.enc y_2.Elements)]) (.cons .int (.cons .sl (.cons .bool (.cons .sl (.cons .int (.cons .sl (.cons .bool (.cons .sl .nil)))))))) rfl (l:=([y,y_2]:List Ae)) (f:=Ae.enc) (by simp only [Aj,aNs,aSz,Ae.enc_eq]; rfl)) rfl rfl rfl ?_
 exact Cf
instance aNf:Wk 151:=⟨_,@lD⟩
theorem iJ {b r} (G:O2 b=some r):Fn Tryz.prog 152 0 [.val (.bool b)] [] (fun d' b'=>d'=.agg (Ae.dv r)/\b'=[]):=by
 unfold O2 at G
 refine Dx 0 8 Tryz.func152 fun _ _ _=>?_
 refine Bt 3 fun B G=>?_
 refine Jf rfl G (fun _ G=>?_) fun _ G=>?_
 refine Bt 1 fun B G=>?_
 refine Hj T2 z5 yV ([(255:UInt8)]:List UInt8) e8 ?_
 refine L1 S4 kC dO ?_
 exact Cf
 refine Bt 2 fun B G=>?_
 refine Hj T2 z5 yV ([(0:UInt8)]:List UInt8) e8 ?_
 refine L1 S4 kC dO ?_
 exact Cf
instance aOg:Wk 152:=⟨_,@iJ⟩
theorem iR {c r} (G:Fs c=some r):Fn Tryz.prog 113 0 [.agg (Ah.dv c)] [] (fun d' b'=>d'=.agg (Ae.dv r)/\b'=[]):=by
 unfold Fs at G
 refine Dx 0 55 Tryz.func113 fun _ _ _=>?_
 refine Bt 5 fun B G=>?_
 refine G7 (fun ((i_1,names_1):Int×List Ae)=>mk [(1,.ptr 0 0),(2,.ptr 1 0),(3,.row 2),(4,vk i_1)] [(0,.box (Ah.dv c) 103),(1,.box [.val (.int .i64 0),.val (.slice none 0 0),.val (.bool false),.val (.slice none 0 0)] 159),(2,.row 159 4 (Aj Ae.enc names_1))] 3) G (B9 [(0,0),(1,8)]) ?_
 rintro⟨i_1,names_1⟩ m1 o1 G hn1
 unfold Fs.l1 at G
 refine I9 2 fun B G=>?_
 refine Jf rfl G (fun _ G=>?_) fun _ G=>?_
 refine Bt 7 fun _ _ y _ B G=>?_
 refine Et rfl rfl (Fw mI dO (by decide) rfl rfl rfl rfl pZ (cs:=[.int .i64 y.Tag,.sl 1 (Aj e8 y.Bytes),.bool y.Nested,.sl 4 (Aj Ae.enc y.Elements)]) (.cons .int (.cons .sl (.cons .bool (.cons .sl .nil)))) rfl (l:=([y]:List Ae)) (f:=Ae.enc) (by simp only [Aj,aNs,aSz,Ae.enc_eq]; rfl)) rfl rfl ?_
 exact Cf
 refine Bt 1 fun B G=>?_
 refine Au <| Ew (σ':=mk [(1,.ptr 0 0),(2,.ptr 1 0),(3,.sl 4 (Aj Ae.enc names_1))] [(0,.box (Ah.dv c) 103),(1,.box [.val (.int .i64 0),.val (.slice none 0 0),.val (.bool false),.val (.slice none 0 0)] 159)] 2) (B9 [(0,0),(1,1)]) ?_
 refine Bb (Df _ _ [258]) (by kernel_rfl) [0,1,3,0,8,31,0,64,255,0,512,2047,0,4096,16383,0,32768,131071,0,262144,1048575,0,2097152,8388607,0,16777216,67108863,0,134217728,536870911,0,2147483647,4294967295,8589934591,17179869183] 2 282 Ji rfl rfl (by kernel_rfl) ?_
 refine Bt 11 fun y_12 _ y_13 _ y_14 _ y_15 _ y_16 _ y_17 _ y_18 _ y_19 _ y_20 _ y_21 _ y_22 _ B G=>?_
 refine aEp (rd:=[]) rfl rfl (Fw mI dO (by decide) rfl rfl rfl rfl pZ (cs:=[.int .i64 y_12.Tag,.sl 1 (Aj e8 y_12.Bytes),.bool y_12.Nested,.sl 4 (Aj Ae.enc y_12.Elements),.int .i64 y_13.Tag,.sl 1 (Aj e8 y_13.Bytes),.bool y_13.Nested,.sl 4 (Aj Ae.enc y_13.Elements),.int .i64 y_14.Tag,.sl 1 (Aj e8 y_14.Bytes),.bool y_14.Nested,.sl 4 (Aj Ae.enc y_14.Elements),.int .i64 y_15.Tag,.sl 1 (Aj e8 y_15.Bytes),.bool y_15.Nested,.sl 4 (Aj Ae.enc y_15.Elements),.int .i64 y_16.Tag,.sl 1 (Aj e8 y_16.Bytes),.bool y_16.Nested,.sl 4 (Aj Ae.enc y_16.Elements),.int .i64 y_17.Tag,.sl 1 (Aj e8 y_17.Bytes),.bool y_17.Nested,.sl 4 (Aj Ae.enc y_17.Elements),.int .i64 y_18.Tag,.sl 1 (Aj e8 y_18.Bytes),.bool y_18.Nested,.sl 4 (Aj Ae.enc y_18.Elements),.int .i64 y_19.Tag,.sl 1 (Aj e8 y_19.Bytes),.bool y_19.Nested,.sl 4 (Aj Ae.enc y_19.Elements),.int .i64 y_20.Tag,.sl 1 (Aj e8 y_20.Bytes),.bool y_20.Nested,.sl 4 (Aj Ae.enc y_20.Elements),.int .i64 y_21.Tag,.sl 1 (Aj e8 y_21.Bytes),.bool y_21.Nested,.sl 4 (Aj Ae.enc y_21.Elements),.int .i64 y_22.Tag,.sl 1 (Aj e8 y_22.Bytes),.bool y_22.Nested,.sl 4 (Aj Ae.enc y_22.Elements)]) (.cons .int (.cons .sl (.cons .bool (.cons .sl (.cons .int (.cons .sl (.cons .bool (.cons .sl (.cons .int (.cons .sl (.cons .bool (.cons .sl (.cons .int (.cons .sl (.cons .bool (.cons .sl (.cons .int (.cons .sl (.cons .bool (.cons .sl (.cons .int (.cons .sl (.cons .bool (.cons .sl (.cons .int (.cons .sl (.cons .bool (.cons .sl (.cons .int (.cons .sl (.cons .bool (.cons .sl (.cons .int (.cons .sl (.cons .bool (.cons .sl (.cons .int (.cons .sl (.cons .bool (.cons .sl (.cons .int (.cons .sl (.cons .bool (.cons .sl .nil)))))))))))))))))))))))))))))))))))))))))))) rfl (l:=([y_12,y_13,y_14,y_15,y_16,y_17,y_18,y_19,y_20,y_21,y_22]:List Ae)) (f:=Ae.enc) (by simp only [Aj,aNs,aSz,Ae.enc_eq]; rfl)) rfl rfl rfl ?_
 exact Cf
instance aO4:Wk 113:=⟨_,@iR⟩
theorem mQ {n r} (G:Oe n=some r):Fn Tryz.prog 177 0 [vk n] [] (fun d' b'=>d'=.val (.bool r)/\b'=[]):=by
 unfold Oe at G
 refine Dx 0 14 Tryz.func177 fun _ _ _=>?_
 exact Cf
instance aNy:Wk 177:=⟨_,@mQ⟩
theorem P0.F (rec:Ae->Option (Bool)) (hrec:∀ (v:Ae) (r:Bool),rec v=some r->Fn Tryz.prog 145 0 [.agg (Ae.dv v)] [] (fun d' b'=>d'=.val (.bool r)/\b'=[])) {v:Ae} {r:Bool} (G:By.F rec v=some r):Fn Tryz.prog 145 0 [.agg (Ae.dv v)] [] (fun d' b'=>d'=.val (.bool r)/\b'=[]):=by
 unfold By.F at G
 refine Dx 0 53 Tryz.func145 fun _ _ _=>?_
 refine Bt 1 fun B G=>?_
 refine Au <| Ba (ι:=Bool) (fun (x38_1:Bool)=>mk [(1,.ptr 0 0),(38,.val (.bool x38_1))] [(0,.box (Ae.dv v) 159)] 1) (fun (x38_1:Bool)=>By.j1 rec v x38_1=some r) ?_ ?_
 exact Cf
 rintro x38_1 G
 unfold By.j1 at G
 refine D4 (.l 0 (.e 4)) fun _ B G=>?_
 refine G7 (fun (i_2:Int)=>mk [(1,.ptr 0 0),(3,vk i_2)] [(0,.box (Ae.dv v) 159)] 1) G (B9 [(0,0)]) ?_
 rintro i_2 m2 o2 G hn2
 unfold By.l2 at G
 refine D4 (.r 2 (.e 5)) fun _ e he B G=>?_
 refine Et rfl rfl (Ef kW (Kb Ae.enc_len (Dj he) (o:=0) (m:=4) (cs:=[.int .i64 e.Tag,.sl 1 (Aj e8 e.Bytes),.bool e.Nested,.sl 4 (Aj Ae.enc e.Elements)]) (by simp only [Ae.enc_eq]; rfl) (by decide) rfl) (Gd Ae.enc_len (Dj he) (o:=0) (m:=4) (by decide) rfl)) rfl rfl ?_
 obtain⟨y_2,hy_2,G⟩:=Ak G
 refine Ni (hrec _ _ hy_2) ?_
 exact Cf
theorem P0 {v:Ae} {r:Bool} (G:By v=some r):Fn Tryz.prog 145 0 [.agg (Ae.dv v)] [] (fun d' b'=>d'=.val (.bool r)/\b'=[]):=
 Tu (motive:=fun (x:Ae) (r:Bool)=>Fn Tryz.prog 145 0 [.agg (Ae.dv x)] [] (fun d' b'=>d'=.val (.bool r)/\b'=[])) (fun rec hrec x r h=>@P0.F _ (fun v r h=>hrec v r h) x r h) v r G
instance aO9:Wk 145:=⟨_,@P0⟩
theorem Rg.F (rec:Ae->Option (Int)) (hrec:∀ (v:Ae) (r:Int),rec v=some r->Fn Tryz.prog 146 0 [.agg (Ae.dv v)] [] (fun d' b'=>d'=vk r/\b'=[])) {v:Ae} {r:Int} (G:C5.F rec v=some r):Fn Tryz.prog 146 0 [.agg (Ae.dv v)] [] (fun d' b'=>d'=vk r/\b'=[]):=by
 unfold C5.F at G
 refine Dx 0 22 Tryz.func146 fun _ _ _=>?_
 refine Bt 5 fun B G=>?_
 refine G7 (fun ((d_1,i_1):Int×Int)=>mk [(1,.ptr 0 0),(3,vk d_1),(4,vk i_1)] [(0,.box (Ae.dv v) 159)] 1) G (B9 [(0,0)]) ?_
 rintro⟨d_1,i_1⟩ m1 o1 G hn1
 unfold C5.l1 at G
 refine D4 (.r 2 (.e 5)) fun _ e he B G=>?_
 refine Et rfl rfl (Ef kW (Kb Ae.enc_len (Dj he) (o:=0) (m:=4) (cs:=[.int .i64 e.Tag,.sl 1 (Aj e8 e.Bytes),.bool e.Nested,.sl 4 (Aj Ae.enc e.Elements)]) (by simp only [Ae.enc_eq]; rfl) (by decide) rfl) (Gd Ae.enc_len (Dj he) (o:=0) (m:=4) (by decide) rfl)) rfl rfl ?_
 obtain⟨y,hy,G⟩:=Ak G
 refine Ni (hrec _ _ hy) ?_
 exact Cf
theorem Rg {v:Ae} {r:Int} (G:C5 v=some r):Fn Tryz.prog 146 0 [.agg (Ae.dv v)] [] (fun d' b'=>d'=vk r/\b'=[]):=
 Tu (motive:=fun (x:Ae) (r:Int)=>Fn Tryz.prog 146 0 [.agg (Ae.dv x)] [] (fun d' b'=>d'=vk r/\b'=[])) (fun rec hrec x r h=>@Rg.F _ (fun v r h=>hrec v r h) x r h) v r G
instance aOa:Wk 146:=⟨_,@Rg⟩
theorem cX {n r} (G:E4 n=some r):Fn Tryz.prog 178 0 [vk n] [] (fun d' b'=>d'=.sl 1 (Aj e8 r)/\b'=[]):=by
 unfold E4 at G
 refine Dx 0 26 Tryz.func178 fun _ _ _=>?_
 refine Bt 3 fun B G=>?_
 refine Jf rfl G (fun _ G=>?_) fun _ G=>?_
 refine Bt 2 fun B G=>?_
 refine Hj T2 z5 yV ([(u8 n)]:List UInt8) e8 ?_
 exact Cf
 refine Bt 4 fun B G=>?_
 refine G7 (fun ((n_1,b_1):Int×List UInt8)=>mk [(0,vk n_1),(3,.row 0)] [(0,.row 5 1 (Aj e8 b_1))] 1) G (B9 []) ?_
 rintro⟨n_1,b_1⟩ m1 o1 G hn1
 unfold E4.l1 at G
 refine I9 2 fun B G=>?_
 refine Jf rfl G (fun _ G=>?_) fun _ G=>?_
 refine Bt 5 fun q _ B G=>?_
 refine Hj T2 z5 yV ([(u8 q)]:List UInt8) e8 ?_
 exact Cf
 refine Bt 3 fun B G=>?_
 refine Hj T2 z5 yV ([(u8 (W (128 + (b_1.length:Int))))]:List UInt8) e8 ?_
 exact Cf
instance aN2:Wk 178:=⟨_,@cX⟩
end Go.Proofs.YtbpchmikjiinpaaGreat
