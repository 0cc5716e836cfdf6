import Derived.Test.YtboglmbblmakjaaGreatDoorT1
import Derived.Test.YtboglmbblmakjaaGreatDoorEU
import Derived.Test.YtboglmbblmakjaaGreatDoorA3
set_option linter.unusedVariables false
set_option linter.unusedSimpArgs false
set_option maxRecDepth 100000
set_option maxHeartbeats 40000000
namespace Go.Proofs.YtboglmbblmakjaaGreatDoor
open Go.RowKit
theorem qF {alg r} (G:Hg alg=some r):Fn Tryz.prog 157 0 [vk alg] [] (fun d' b'=>d'=vk r/\b'=[]):=by
 unfold Hg at G
 refine Ea 0 14 Tryz.func157 fun _ _ _=>?_
 refine Cb 1 fun B G=>?_
 refine Ar <| Ba (ι:=Bool) (fun (x8_1:Bool)=>mk [(0,vk alg),(8,.val (.bool x8_1))] [] 0) (fun (x8_1:Bool)=>Hg.j1 alg x8_1=some r) ?_ ?_
 exact C6
 rintro x8_1 G
 unfold Hg.j1 at G
 exact Ik
instance aZb:Wk 157:=⟨_,@qF⟩
theorem bM {u r} (G:Le u=some r):Fn Tryz.prog 155 0 [.agg [vk u.Alg,vk u.Bits]] [] (fun d' b'=>d'=.val (.bool r)/\b'=[]):=by
 unfold Le at G
 refine Ea 0 11 Tryz.func155 fun _ _ _=>?_
 exact C6
instance aXg:Wk 155:=⟨_,@bM⟩
theorem lE {c r} (G:A8 c=some r):Fn Tryz.prog 97 0 [.agg (Ab.dv c)] [] (fun d' b'=>d'=vk r/\b'=[]):=by
 unfold A8 at G
 refine Ea 0 146 Tryz.func97 fun _ _ _=>?_
 refine Cb 1 fun B G=>?_
 refine Ar <| Ba (ι:=Bool) (fun (x39_1:Bool)=>mk [(1,.ptr 0 0),(39,.val (.bool x39_1))] [(0,.box (Ab.dv c) 148)] 1) (fun (x39_1:Bool)=>A8.j1 c x39_1=some r) ?_ ?_
 exact C6
 rintro x39_1 G
 unfold A8.j1 at G
 refine E6 (.l 0 (.e 1)) fun _ B G=>?_
 refine Ar <| Ba (ι:=Bool) (fun (x67_2:Bool)=>mk [(1,.ptr 0 0),(67,.val (.bool x67_2))] [(0,.box (Ab.dv c) 148)] 1) (fun (x67_2:Bool)=>A8.j2 c x67_2=some r) ?_ ?_
 exact C6
 rintro x67_2 G
 unfold A8.j2 at G
 refine E6 (.l 0 (.e 1)) fun _ B G=>?_
 refine Ar <| Ba (ι:=Bool) (fun (x91_3:Bool)=>mk [(1,.ptr 0 0),(91,.val (.bool x91_3))] [(0,.box (Ab.dv c) 148)] 1) (fun (x91_3:Bool)=>A8.j3 c x91_3=some r) ?_ ?_
 exact C6
 rintro x91_3 G
 unfold A8.j3 at G
 refine E6 (.l 0 (.e 4)) fun _ B G=>?_
 refine Ip (fun (i_4:Int)=>mk [(1,.ptr 0 0),(3,vk i_4)] [(0,.box (Ab.dv c) 148)] 1) G (B5 [(0,0)]) ?_
 rintro i_4 m4 o4 G hn4
 unfold A8.l4 at G
 refine Q4 2 fun B G=>?_
 refine Ji rfl G (fun _ G=>?_) fun _ G=>?_
 refine Cb 3 fun B G=>?_
 refine Ba (ι:=Bool) (fun (x123_5:Bool)=>mk [(1,.ptr 0 0),(3,vk i_4),(123,.val (.bool x123_5))] [(0,.box (Ab.dv c) 148)] 1) (fun (x123_5:Bool)=>A8.j5 i_4 x123_5=some o4) ?_ ?_
 refine Ca (E4 _ _ []) (by kernel_rfl) [0,1,0,7,15,31,63,127,255,511,1023,2047,4095,2047,10239,32767,65535,2047,133119,2047,919551,1968127,4194303,8388607,16777215] 41 241 B rfl rfl (by kernel_rfl) ?_
 exact C6
 rintro x123_5 G
 unfold A8.j5 at G
 exact Ik
 refine Cb 1 fun B G=>?_
 refine Ar <| Ba (ι:=Bool) (fun (x145_6:Bool)=>mk [(145,.val (.bool x145_6))] [] 0) (fun (x145_6:Bool)=>A8.j6 x145_6=some r) ?_ ?_
 exact C6
 rintro x145_6 G
 unfold A8.j6 at G
 exact Ik
instance bA9:Wk 97:=⟨_,@lE⟩
theorem pC {s r} (G:M0 s=some r):Fn Tryz.prog 204 0 [ws s] [] (fun d' b'=>d'=.agg (Aa.dv r)/\b'=[]):=by
 unfold M0 at G
 refine Ea 0 6 Tryz.func204 fun _ _ _=>?_
 refine Cb 3 fun B G=>?_
 refine Ox Qs Y7 Vf ?_
 exact C6
instance aXh:Wk 204:=⟨_,@pC⟩
theorem rY {n r} (G:Dq n=some r):Fn Tryz.prog 206 0 [vk n] [] (fun d' b'=>d'=.agg (Aa.dv r)/\b'=[]):=by
 unfold Dq at G
 refine Ea 0 45 Tryz.func206 fun _ _ _=>?_
 refine Cb 3 fun B G=>?_
 refine Kv Pz z5 nT ([(u8 n)]:List UInt8) e8 ?_
 refine Cb 4 fun _ _ B G=>?_
 refine Ip (fun ((x_1,b_1):Int×List UInt8)=>mk [(2,.ptr 0 0),(3,.row 1),(4,vk x_1)] [(0,.box [.val (.int .i64 0),.val (.slice none 0 0),.val (.bool false),.val (.slice none 0 0)] 276),(1,.row 5 1 (Ac e8 b_1))] 2) G (B5 [(0,0),(1,24)]) ?_
 rintro⟨x_1,b_1⟩ m1 o1 G hn1
 unfold Dq.l1 at G
 try dsimp only at G
 refine X5 rfl ?_
 refine Ar <| Ba (ι:=Bool) (fun (x35_2:Bool)=>mk [(2,.ptr 0 0),(3,.row 1),(4,vk x_1),(35,.val (.bool x35_2))] [(0,.box [.val (.int .i64 0),.val (.slice none 0 0),.val (.bool false),.val (.slice none 0 0)] 276),(1,.row 5 1 (Ac e8 b_1))] 2) (fun (x35_2:Bool)=>Dq.j2 x_1 b_1 x35_2=some o1) ?_ ?_
 exact C6
 rintro x35_2 G
 unfold Dq.j2 at G
 try dsimp only at G
 refine X5 rfl ?_
 refine Ji rfl G (fun _ G=>?_) fun _ G=>?_
 refine Cb 5 fun B G=>?_
 refine Kv Pz z5 nT ([(u8 x_1)]:List UInt8) e8 ?_
 exact C6
 refine Cb 2 fun B G=>?_
 refine Ox Qs Y7 Vf ?_
 exact C6
instance bAj:Wk 206:=⟨_,@rY⟩
theorem Th.F (rec:(List Aa)->Option ((List Aa))) (hrec:∀ (l:(List Aa)) (r:(List Aa)),rec l=some r->Fn Tryz.prog 235 0 [.sl 4 (Ac Aa.enc l)] [] (fun d' b'=>d'=.sl 4 (Ac Aa.enc r)/\b'=[])) {l:(List Aa)} {r:(List Aa)} (G:Dy.F rec l=some r):Fn Tryz.prog 235 0 [.sl 4 (Ac Aa.enc l)] [] (fun d' b'=>d'=.sl 4 (Ac Aa.enc r)/\b'=[]):=by
 unfold Dy.F at G
 refine Ea 0 30 Tryz.func235 fun _ _ _=>?_
 refine Cb 5 fun B G=>?_
 refine Ip (fun ((i_1,out_1):Int×List Aa)=>mk [(0,.sl 4 (Ac Aa.enc l)),(3,.row 0),(4,vk i_1)] [(0,.row 276 4 (Ac Aa.enc out_1))] 1) G (B5 []) ?_
 rintro⟨i_1,out_1⟩ m1 o1 G hn1
 unfold Dy.l1 at G
 refine E6 (.r 2 (.e 5)) fun _ e he B G=>?_
 refine Ex rfl rfl (Kr Z7 (K9 Aa.enc_len (Cf he) (o:=0) (m:=4) (cs:=[.int .i64 e.Tag,.sl 1 (Ac e8 e.Bytes),.bool e.Nested,.sl 4 (Ac Aa.enc e.Elements)]) (by simp only [Aa.enc_eq]; rfl) (by decide) rfl) (Fh Aa.enc_len (Cf he) (o:=0) (m:=4) (by decide) rfl)) rfl rfl ?_
 refine Cb 1 fun B G=>?_
 refine Ex rfl rfl (Fm Pz z5 (by decide) rfl rfl rfl rfl nT (cs:=[]) .nil rfl (l:=([]:List UInt8)) (f:=e8) rfl) rfl rfl ?_
 refine Cb 2 fun l_2 _ B G=>?_
 obtain⟨y,hy,G⟩:=Af G
 refine P9 (hrec _ _ hy) ?_
 refine Cb 0 fun B G=>?_
 refine Gs (σ':=mk [(0,.sl 4 (Ac Aa.enc l)),(3,.row 0),(4,vk i_1),(5,.ptr 1 0)] [(0,.row 276 4 (Ac Aa.enc out_1)),(1,.box [vk e.Tag,.sl 1 (Ac e8 l_2),.val (.bool e.Nested),.sl 4 (Ac Aa.enc y)] 276)] 2) (B5 [(0,0),(1,65)]) ?_
 refine Cb 1 fun B G=>?_
 refine Ex rfl rfl (Fm Y3 Vf (by decide) rfl rfl rfl rfl bO (cs:=[.int .i64 e.Tag,.sl 1 (Ac e8 l_2),.bool e.Nested,.sl 4 (Ac Aa.enc y)]) (.cons .int (.cons .sl (.cons .bool (.cons .sl .nil)))) rfl (l:=([(Aa.mk e.Tag l_2 e.Nested y)]:List Aa)) (f:=Aa.enc) (by simp only [Ac,aNp,aUm,Aa.enc_eq]; rfl)) rfl rfl ?_
 exact C6
theorem Th {l:(List Aa)} {r:(List Aa)} (G:Dy l=some r):Fn Tryz.prog 235 0 [.sl 4 (Ac Aa.enc l)] [] (fun d' b'=>d'=.sl 4 (Ac Aa.enc r)/\b'=[]):=
 Ro (motive:=fun (x:(List Aa)) (r:(List Aa))=>Fn Tryz.prog 235 0 [.sl 4 (Ac Aa.enc x)] [] (fun d' b'=>d'=.sl 4 (Ac Aa.enc r)/\b'=[])) (fun rec hrec x r h=>@Th.F _ (fun l r h=>hrec l r h) x r h) l r G
instance aZh:Wk 235:=⟨_,@Th⟩
theorem qB {l r} (G:Lb l=some r):Fn Tryz.prog 205 0 [.sl 4 (Ac Aa.enc l)] [] (fun d' b'=>d'=.agg (Aa.dv r)/\b'=[]):=by
 unfold Lb at G
 refine Ea 0 6 Tryz.func205 fun _ _ _=>?_
 refine Cb 3 fun _ _ B G=>?_
 refine Ox Qs Y7 Vf ?_
 exact C6
instance aX9:Wk 205:=⟨_,@qB⟩
theorem sP {u r} (G:P1 u=some r):Fn Tryz.prog 207 0 [.agg [vk u.Alg,vk u.Bits]] [] (fun d' b'=>d'=.agg (Aa.dv r)/\b'=[]):=by
 unfold P1 at G
 refine Ea 0 11 Tryz.func207 fun _ _ _=>?_
 refine Cb 1 fun B G=>?_
 refine Ar <| Ca (E4 _ _ [64]) (by kernel_rfl) [0,1,3,0,8,31,63,127,255] 16 88 B rfl rfl (by kernel_rfl) ?_
 refine Cb 2 fun y _ y_2 _ B G=>?_
 refine yT (rd:=[]) rfl rfl (Fm Y3 Vf (by decide) rfl rfl rfl rfl bO (cs:=[.int .i64 y.Tag,.sl 1 (Ac e8 y.Bytes),.bool y.Nested,.sl 4 (Ac Aa.enc y.Elements),.int .i64 y_2.Tag,.sl 1 (Ac e8 y_2.Bytes),.bool y_2.Nested,.sl 4 (Ac Aa.enc y_2.Elements)]) (.cons .int (.cons .sl (.cons .bool (.cons .sl (.cons .int (.cons .sl (.cons .bool (.cons .sl .nil)))))))) rfl (l:=([y,y_2]:List Aa)) (f:=Aa.enc) (by simp only [Ac,aNp,aUm,Aa.enc_eq]; rfl)) rfl rfl rfl ?_
 exact C6
instance aXb:Wk 207:=⟨_,@sP⟩
theorem qJ {b r} (G:S0 b=some r):Fn Tryz.prog 208 0 [.val (.bool b)] [] (fun d' b'=>d'=.agg (Aa.dv r)/\b'=[]):=by
 unfold S0 at G
 refine Ea 0 8 Tryz.func208 fun _ _ _=>?_
 refine Cb 3 fun B G=>?_
 refine Ji rfl G (fun _ G=>?_) fun _ G=>?_
 refine Cb 1 fun B G=>?_
 refine Kv Pz z5 nT ([(255:UInt8)]:List UInt8) e8 ?_
 refine Ox Qs Y7 Vf ?_
 exact C6
 refine Cb 2 fun B G=>?_
 refine Kv Pz z5 nT ([(0:UInt8)]:List UInt8) e8 ?_
 refine Ox Qs Y7 Vf ?_
 exact C6
instance aXw:Wk 208:=⟨_,@qJ⟩
theorem oE {c r} (G:G5 c=some r):Fn Tryz.prog 159 0 [.agg (Ab.dv c)] [] (fun d' b'=>d'=.agg (Aa.dv r)/\b'=[]):=by
 unfold G5 at G
 refine Ea 0 55 Tryz.func159 fun _ _ _=>?_
 refine Cb 5 fun B G=>?_
 refine Ip (fun ((i_1,names_1):Int×List Aa)=>mk [(1,.ptr 0 0),(2,.ptr 1 0),(3,.row 2),(4,vk i_1)] [(0,.box (Ab.dv c) 148),(1,.box [.val (.int .i64 0),.val (.slice none 0 0),.val (.bool false),.val (.slice none 0 0)] 276),(2,.row 276 4 (Ac Aa.enc names_1))] 3) G (B5 [(0,0),(1,8)]) ?_
 rintro⟨i_1,names_1⟩ m1 o1 G hn1
 unfold G5.l1 at G
 refine Q4 2 fun B G=>?_
 refine Ji rfl G (fun _ G=>?_) fun _ G=>?_
 refine Cb 7 fun _ _ y _ B G=>?_
 refine Ex rfl rfl (Fm Y3 Vf (by decide) rfl rfl rfl rfl bO (cs:=[.int .i64 y.Tag,.sl 1 (Ac e8 y.Bytes),.bool y.Nested,.sl 4 (Ac Aa.enc y.Elements)]) (.cons .int (.cons .sl (.cons .bool (.cons .sl .nil)))) rfl (l:=([y]:List Aa)) (f:=Aa.enc) (by simp only [Ac,aNp,aUm,Aa.enc_eq]; rfl)) rfl rfl ?_
 exact C6
 refine Cb 1 fun B G=>?_
 refine Ar <| Gs (σ':=mk [(1,.ptr 0 0),(2,.ptr 1 0),(3,.sl 4 (Ac Aa.enc names_1))] [(0,.box (Ab.dv c) 148),(1,.box [.val (.int .i64 0),.val (.slice none 0 0),.val (.bool false),.val (.slice none 0 0)] 276)] 2) (B5 [(0,0),(1,1)]) ?_
 refine Ca (E4 _ _ [258]) (by kernel_rfl) [0,1,3,0,8,31,0,64,255,0,512,2047,0,4096,16383,0,32768,131071,0,262144,1048575,0,2097152,8388607,0,16777216,67108863,0,134217728,536870911,0,2147483647,4294967295,8589934591,17179869183] 2 282 Gu rfl rfl (by kernel_rfl) ?_
 refine Cb 11 fun y_12 _ y_13 _ y_14 _ y_15 _ y_16 _ y_17 _ y_18 _ y_19 _ y_20 _ y_21 _ y_22 _ B G=>?_
 refine yT (rd:=[]) rfl rfl (Fm Y3 Vf (by decide) rfl rfl rfl rfl bO (cs:=[.int .i64 y_12.Tag,.sl 1 (Ac e8 y_12.Bytes),.bool y_12.Nested,.sl 4 (Ac Aa.enc y_12.Elements),.int .i64 y_13.Tag,.sl 1 (Ac e8 y_13.Bytes),.bool y_13.Nested,.sl 4 (Ac Aa.enc y_13.Elements),.int .i64 y_14.Tag,.sl 1 (Ac e8 y_14.Bytes),.bool y_14.Nested,.sl 4 (Ac Aa.enc y_14.Elements),.int .i64 y_15.Tag,.sl 1 (Ac e8 y_15.Bytes),.bool y_15.Nested,.sl 4 (Ac Aa.enc y_15.Elements),.int .i64 y_16.Tag,.sl 1 (Ac e8 y_16.Bytes),.bool y_16.Nested,.sl 4 (Ac Aa.enc y_16.Elements),.int .i64 y_17.Tag,.sl 1 (Ac e8 y_17.Bytes),.bool y_17.Nested,.sl 4 (Ac Aa.enc y_17.Elements),.int .i64 y_18.Tag,.sl 1 (Ac e8 y_18.Bytes),.bool y_18.Nested,.sl 4 (Ac Aa.enc y_18.Elements),.int .i64 y_19.Tag,.sl 1 (Ac e8 y_19.Bytes),.bool y_19.Nested,.sl 4 (Ac Aa.enc y_19.Elements),.int .i64 y_20.Tag,.sl 1 (Ac e8 y_20.Bytes),.bool y_20.Nested,.sl 4 (Ac Aa.enc y_20.Elements),.int .i64 y_21.Tag,.sl 1 (Ac e8 y_21.Bytes),.bool y_21.Nested,.sl 4 (Ac Aa.enc y_21.Elements),.int .i64 y_22.Tag,.sl 1 (Ac e8 y_22.Bytes),.bool y_22.Nested,.sl 4 (Ac Aa.enc y_22.Elements)]) (.cons .int (.cons .sl (.cons .bool (.cons .sl (.cons .int (.cons .sl (.cons .bool (.cons .sl (.cons .int (.cons .sl (.cons .bool (.cons .sl (.cons .int (.cons .sl (.cons .bool (.cons .sl (.cons .int (.cons .sl (.cons .bool (.cons .sl (.cons .int (.cons .sl (.cons .bool (.cons .sl (.cons .int (.cons .sl (.cons .bool (.cons .sl (.cons .int (.cons .sl (.cons .bool (.cons .sl (.cons .int (.cons .sl (.cons .bool (.cons .sl (.cons .int (.cons .sl (.cons .bool (.cons .sl (.cons .int (.cons .sl (.cons .bool (.cons .sl .nil)))))))))))))))))))))))))))))))))))))))))))) rfl (l:=([y_12,y_13,y_14,y_15,y_16,y_17,y_18,y_19,y_20,y_21,y_22]:List Aa)) (f:=Aa.enc) (by simp only [Ac,aNp,aUm,Aa.enc_eq]; rfl)) rfl rfl rfl ?_
 exact C6
instance aX4:Wk 159:=⟨_,@oE⟩
theorem rA {n r} (G:Rr n=some r):Fn Tryz.prog 233 0 [vk n] [] (fun d' b'=>d'=.val (.bool r)/\b'=[]):=by
 unfold Rr at G
 refine Ea 0 14 Tryz.func233 fun _ _ _=>?_
 exact C6
instance aYj:Wk 233:=⟨_,@rA⟩
theorem Tj.F (rec:Aa->Option (Bool)) (hrec:∀ (v:Aa) (r:Bool),rec v=some r->Fn Tryz.prog 201 0 [.agg (Aa.dv v)] [] (fun d' b'=>d'=.val (.bool r)/\b'=[])) {v:Aa} {r:Bool} (G:Cg.F rec v=some r):Fn Tryz.prog 201 0 [.agg (Aa.dv v)] [] (fun d' b'=>d'=.val (.bool r)/\b'=[]):=by
 unfold Cg.F at G
 refine Ea 0 53 Tryz.func201 fun _ _ _=>?_
 refine Cb 1 fun B G=>?_
 refine Ar <| Ba (ι:=Bool) (fun (x38_1:Bool)=>mk [(1,.ptr 0 0),(38,.val (.bool x38_1))] [(0,.box (Aa.dv v) 276)] 1) (fun (x38_1:Bool)=>Cg.j1 rec v x38_1=some r) ?_ ?_
 exact C6
 rintro x38_1 G
 unfold Cg.j1 at G
 refine E6 (.l 0 (.e 4)) fun _ B G=>?_
 refine Ip (fun (i_2:Int)=>mk [(1,.ptr 0 0),(3,vk i_2)] [(0,.box (Aa.dv v) 276)] 1) G (B5 [(0,0)]) ?_
 rintro i_2 m2 o2 G hn2
 unfold Cg.l2 at G
 refine E6 (.r 2 (.e 5)) fun _ e he B G=>?_
 refine Ex rfl rfl (Kr Z7 (K9 Aa.enc_len (Cf he) (o:=0) (m:=4) (cs:=[.int .i64 e.Tag,.sl 1 (Ac e8 e.Bytes),.bool e.Nested,.sl 4 (Ac Aa.enc e.Elements)]) (by simp only [Aa.enc_eq]; rfl) (by decide) rfl) (Fh Aa.enc_len (Cf he) (o:=0) (m:=4) (by decide) rfl)) rfl rfl ?_
 obtain⟨y_2,hy_2,G⟩:=Af G
 refine P9 (hrec _ _ hy_2) ?_
 exact C6
theorem Tj {v:Aa} {r:Bool} (G:Cg v=some r):Fn Tryz.prog 201 0 [.agg (Aa.dv v)] [] (fun d' b'=>d'=.val (.bool r)/\b'=[]):=
 Ro (motive:=fun (x:Aa) (r:Bool)=>Fn Tryz.prog 201 0 [.agg (Aa.dv x)] [] (fun d' b'=>d'=.val (.bool r)/\b'=[])) (fun rec hrec x r h=>@Tj.F _ (fun v r h=>hrec v r h) x r h) v r G
instance bA6:Wk 201:=⟨_,@Tj⟩
theorem Uu.F (rec:Aa->Option (Int)) (hrec:∀ (v:Aa) (r:Int),rec v=some r->Fn Tryz.prog 202 0 [.agg (Aa.dv v)] [] (fun d' b'=>d'=vk r/\b'=[])) {v:Aa} {r:Int} (G:D9.F rec v=some r):Fn Tryz.prog 202 0 [.agg (Aa.dv v)] [] (fun d' b'=>d'=vk r/\b'=[]):=by
 unfold D9.F at G
 refine Ea 0 22 Tryz.func202 fun _ _ _=>?_
 refine Cb 5 fun B G=>?_
 refine Ip (fun ((d_1,i_1):Int×Int)=>mk [(1,.ptr 0 0),(3,vk d_1),(4,vk i_1)] [(0,.box (Aa.dv v) 276)] 1) G (B5 [(0,0)]) ?_
 rintro⟨d_1,i_1⟩ m1 o1 G hn1
 unfold D9.l1 at G
 refine E6 (.r 2 (.e 5)) fun _ e he B G=>?_
 refine Ex rfl rfl (Kr Z7 (K9 Aa.enc_len (Cf he) (o:=0) (m:=4) (cs:=[.int .i64 e.Tag,.sl 1 (Ac e8 e.Bytes),.bool e.Nested,.sl 4 (Ac Aa.enc e.Elements)]) (by simp only [Aa.enc_eq]; rfl) (by decide) rfl) (Fh Aa.enc_len (Cf he) (o:=0) (m:=4) (by decide) rfl)) rfl rfl ?_
 obtain⟨y,hy,G⟩:=Af G
 refine P9 (hrec _ _ hy) ?_
 exact C6
theorem Uu {v:Aa} {r:Int} (G:D9 v=some r):Fn Tryz.prog 202 0 [.agg (Aa.dv v)] [] (fun d' b'=>d'=vk r/\b'=[]):=
 Ro (motive:=fun (x:Aa) (r:Int)=>Fn Tryz.prog 202 0 [.agg (Aa.dv x)] [] (fun d' b'=>d'=vk r/\b'=[])) (fun rec hrec x r h=>@Uu.F _ (fun v r h=>hrec v r h) x r h) v r G
instance aZs:Wk 202:=⟨_,@Uu⟩
end Go.Proofs.YtboglmbblmakjaaGreatDoor
