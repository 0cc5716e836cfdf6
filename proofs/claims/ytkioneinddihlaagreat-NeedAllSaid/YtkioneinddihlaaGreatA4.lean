import Derived.Test.YtkioneinddihlaaGreatT1
import Derived.Test.YtkioneinddihlaaGreatEU
import Derived.Test.YtkioneinddihlaaGreatA3
set_option linter.unusedVariables false
set_option linter.unusedSimpArgs false
set_option maxRecDepth 100000
set_option maxHeartbeats 40000000
namespace Go.Proofs.YtkioneinddihlaaGreat
open Go.RowKit
theorem dZ {alg r} (G:Fg alg=some r):Fn Tryz.prog 100 0 [vk alg] [] (fun d' b'=>d'=vk r/\b'=[]):=by
 unfold Fg at G
 refine Ez 0 14 Tryz.func100 fun _ _ _=>?_
 refine B7 1 fun B G=>?_
 refine A8 <| A6 (ι:=Bool) (fun (x8_1:Bool)=>mk [(0,vk alg),(8,.val (.bool x8_1))] [] 0) (fun (x8_1:Bool)=>Fg.j1 alg x8_1=some r) ?_ ?_
 exact C1
 rintro x8_1 G
 unfold Fg.j1 at G
 exact F0
instance aKv:Wk 100:=⟨_,@dZ⟩
theorem T2 {u r} (G:G7 u=some r):Fn Tryz.prog 103 0 [.agg [vk u.Alg,vk u.Bits]] [] (fun d' b'=>d'=.val (.bool r)/\b'=[]):=by
 unfold G7 at G
 refine Ez 0 11 Tryz.func103 fun _ _ _=>?_
 exact C1
instance aKo:Wk 103:=⟨_,@T2⟩
theorem aC {c r} (G:Ba c=some r):Fn Tryz.prog 74 0 [.agg (Ah.dv c)] [] (fun d' b'=>d'=vk r/\b'=[]):=by
 unfold Ba at G
 refine Ez 0 146 Tryz.func74 fun _ _ _=>?_
 refine B7 1 fun B G=>?_
 refine A8 <| A6 (ι:=Bool) (fun (x39_1:Bool)=>mk [(1,.ptr 0 0),(39,.val (.bool x39_1))] [(0,.box (Ah.dv c) 103)] 1) (fun (x39_1:Bool)=>Ba.j1 c x39_1=some r) ?_ ?_
 exact C1
 rintro x39_1 G
 unfold Ba.j1 at G
 refine Dl (.l 0 (.e 1)) fun _ B G=>?_
 refine A8 <| A6 (ι:=Bool) (fun (x67_2:Bool)=>mk [(1,.ptr 0 0),(67,.val (.bool x67_2))] [(0,.box (Ah.dv c) 103)] 1) (fun (x67_2:Bool)=>Ba.j2 c x67_2=some r) ?_ ?_
 exact C1
 rintro x67_2 G
 unfold Ba.j2 at G
 refine Dl (.l 0 (.e 1)) fun _ B G=>?_
 refine A8 <| A6 (ι:=Bool) (fun (x91_3:Bool)=>mk [(1,.ptr 0 0),(91,.val (.bool x91_3))] [(0,.box (Ah.dv c) 103)] 1) (fun (x91_3:Bool)=>Ba.j3 c x91_3=some r) ?_ ?_
 exact C1
 rintro x91_3 G
 unfold Ba.j3 at G
 refine Dl (.l 0 (.e 4)) fun _ B G=>?_
 refine Gc (fun (i_4:Int)=>mk [(1,.ptr 0 0),(3,vk i_4)] [(0,.box (Ah.dv c) 103)] 1) G (B9 [(0,0)]) ?_
 rintro i_4 m4 o4 G hn4
 unfold Ba.l4 at G
 refine Iw 2 fun B G=>?_
 refine Ja rfl G (fun _ G=>?_) fun _ G=>?_
 refine B7 3 fun B G=>?_
 refine A6 (ι:=Bool) (fun (x123_5:Bool)=>mk [(1,.ptr 0 0),(3,vk i_4),(123,.val (.bool x123_5))] [(0,.box (Ah.dv c) 103)] 1) (fun (x123_5:Bool)=>Ba.j5 i_4 x123_5=some o4) ?_ ?_
 refine Bn (Dx _ _ []) (by kernel_rfl) [0,1,0,7,15,31,63,127,255,511,1023,2047,4095,2047,10239,32767,65535,2047,133119,2047,919551,1968127,4194303,8388607,16777215] 41 241 B rfl rfl (by kernel_rfl) ?_
 exact C1
 rintro x123_5 G
 unfold Ba.j5 at G
 exact F0
 refine B7 1 fun B G=>?_
 refine A8 <| A6 (ι:=Bool) (fun (x145_6:Bool)=>mk [(145,.val (.bool x145_6))] [] 0) (fun (x145_6:Bool)=>Ba.j6 x145_6=some r) ?_ ?_
 exact C1
 rintro x145_6 G
 unfold Ba.j6 at G
 exact F0
instance aN7:Wk 74:=⟨_,@aC⟩
theorem fR {s r} (G:Jj s=some r):Fn Tryz.prog 131 0 [ws s] [] (fun d' b'=>d'=.agg (Ai.dv r)/\b'=[]):=by
 unfold Jj at G
 refine Ez 0 6 Tryz.func131 fun _ _ _=>?_
 refine B7 3 fun B G=>?_
 refine Kp Qa gY bE ?_
 exact C1
instance aLm:Wk 131:=⟨_,@fR⟩
theorem gO {n r} (G:Cz n=some r):Fn Tryz.prog 133 0 [vk n] [] (fun d' b'=>d'=.agg (Ai.dv r)/\b'=[]):=by
 unfold Cz at G
 refine Ez 0 45 Tryz.func133 fun _ _ _=>?_
 refine B7 3 fun B G=>?_
 refine H0 Rx z5 vJ ([(u8 n)]:List UInt8) e8 ?_
 refine B7 4 fun _ _ B G=>?_
 refine Gc (fun ((x_1,b_1):Int×List UInt8)=>mk [(2,.ptr 0 0),(3,.row 1),(4,vk x_1)] [(0,.box [.val (.int .i64 0),.val (.slice none 0 0),.val (.bool false),.val (.slice none 0 0)] 152),(1,.row 5 1 (Ak e8 b_1))] 2) G (B9 [(0,0),(1,24)]) ?_
 rintro⟨x_1,b_1⟩ m1 o1 G hn1
 unfold Cz.l1 at G
 try dsimp only at G
 refine Nl rfl ?_
 refine A8 <| A6 (ι:=Bool) (fun (x35_2:Bool)=>mk [(2,.ptr 0 0),(3,.row 1),(4,vk x_1),(35,.val (.bool x35_2))] [(0,.box [.val (.int .i64 0),.val (.slice none 0 0),.val (.bool false),.val (.slice none 0 0)] 152),(1,.row 5 1 (Ak e8 b_1))] 2) (fun (x35_2:Bool)=>Cz.j2 x_1 b_1 x35_2=some o1) ?_ ?_
 exact C1
 rintro x35_2 G
 unfold Cz.j2 at G
 try dsimp only at G
 refine Nl rfl ?_
 refine Ja rfl G (fun _ G=>?_) fun _ G=>?_
 refine B7 5 fun B G=>?_
 refine H0 Rx z5 vJ ([(u8 x_1)]:List UInt8) e8 ?_
 exact C1
 refine B7 2 fun B G=>?_
 refine Kp Qa gY bE ?_
 exact C1
instance aLa:Wk 133:=⟨_,@gO⟩
theorem N2.F (rec:(List Ai)->Option ((List Ai))) (hrec:∀ (l:(List Ai)) (r:(List Ai)),rec l=some r->Fn Tryz.prog 154 0 [.sl 4 (Ak Ai.enc l)] [] (fun d' b'=>d'=.sl 4 (Ak Ai.enc r)/\b'=[])) {l:(List Ai)} {r:(List Ai)} (G:C9.F rec l=some r):Fn Tryz.prog 154 0 [.sl 4 (Ak Ai.enc l)] [] (fun d' b'=>d'=.sl 4 (Ak Ai.enc r)/\b'=[]):=by
 unfold C9.F at G
 refine Ez 0 30 Tryz.func154 fun _ _ _=>?_
 refine B7 5 fun B G=>?_
 refine Gc (fun ((i_1,out_1):Int×List Ai)=>mk [(0,.sl 4 (Ak Ai.enc l)),(3,.row 0),(4,vk i_1)] [(0,.row 152 4 (Ak Ai.enc out_1))] 1) G (B9 []) ?_
 rintro⟨i_1,out_1⟩ m1 o1 G hn1
 unfold C9.l1 at G
 refine Dl (.r 2 (.e 5)) fun _ e he B G=>?_
 refine Fw rfl rfl (Mn iX (Iy Ai.enc_len (Cc he) (o:=0) (m:=4) (cs:=[.int .i64 e.Tag,.sl 1 (Ak e8 e.Bytes),.bool e.Nested,.sl 4 (Ak Ai.enc e.Elements)]) (by simp only [Ai.enc_eq]; rfl) (by decide) rfl) (Fe Ai.enc_len (Cc he) (o:=0) (m:=4) (by decide) rfl)) rfl rfl ?_
 refine B7 1 fun B G=>?_
 refine Fw rfl rfl (G5 Rx z5 (by decide) rfl rfl rfl rfl vJ (cs:=[]) .nil rfl (l:=([]:List UInt8)) (f:=e8) rfl) rfl rfl ?_
 refine B7 2 fun l_2 _ B G=>?_
 obtain⟨y,hy,G⟩:=Aq G
 refine Mb (hrec _ _ hy) ?_
 refine B7 0 fun B G=>?_
 refine G3 (σ':=mk [(0,.sl 4 (Ak Ai.enc l)),(3,.row 0),(4,vk i_1),(5,.ptr 1 0)] [(0,.row 152 4 (Ak Ai.enc out_1)),(1,.box [vk e.Tag,.sl 1 (Ak e8 l_2),.val (.bool e.Nested),.sl 4 (Ak Ai.enc y)] 152)] 2) (B9 [(0,0),(1,65)]) ?_
 refine B7 1 fun B G=>?_
 refine Fw rfl rfl (G5 gW bE (by decide) rfl rfl rfl rfl mW (cs:=[.int .i64 e.Tag,.sl 1 (Ak e8 l_2),.bool e.Nested,.sl 4 (Ak Ai.enc y)]) (.cons .int (.cons .sl (.cons .bool (.cons .sl .nil)))) rfl (l:=([(Ai.mk e.Tag l_2 e.Nested y)]:List Ai)) (f:=Ai.enc) (by simp only [Ak,aNa,aPm,Ai.enc_eq]; rfl)) rfl rfl ?_
 exact C1
theorem N2 {l:(List Ai)} {r:(List Ai)} (G:C9 l=some r):Fn Tryz.prog 154 0 [.sl 4 (Ak Ai.enc l)] [] (fun d' b'=>d'=.sl 4 (Ak Ai.enc r)/\b'=[]):=
 Rn (motive:=fun (x:(List Ai)) (r:(List Ai))=>Fn Tryz.prog 154 0 [.sl 4 (Ak Ai.enc x)] [] (fun d' b'=>d'=.sl 4 (Ak Ai.enc r)/\b'=[])) (fun rec hrec x r h=>@N2.F _ (fun l r h=>hrec l r h) x r h) l r G
instance aJ2:Wk 154:=⟨_,@N2⟩
theorem fE {l r} (G:Ii l=some r):Fn Tryz.prog 132 0 [.sl 4 (Ak Ai.enc l)] [] (fun d' b'=>d'=.agg (Ai.dv r)/\b'=[]):=by
 unfold Ii at G
 refine Ez 0 6 Tryz.func132 fun _ _ _=>?_
 refine B7 3 fun _ _ B G=>?_
 refine Kp Qa gY bE ?_
 exact C1
instance aKw:Wk 132:=⟨_,@fE⟩
theorem iO {u r} (G:Lc u=some r):Fn Tryz.prog 134 0 [.agg [vk u.Alg,vk u.Bits]] [] (fun d' b'=>d'=.agg (Ai.dv r)/\b'=[]):=by
 unfold Lc at G
 refine Ez 0 11 Tryz.func134 fun _ _ _=>?_
 refine B7 1 fun B G=>?_
 refine A8 <| Bn (Dx _ _ [64]) (by kernel_rfl) [0,1,3,0,8,31,63,127,255] 16 88 B rfl rfl (by kernel_rfl) ?_
 refine B7 2 fun y _ y_2 _ B G=>?_
 refine yP (rd:=[]) rfl rfl (G5 gW bE (by decide) rfl rfl rfl rfl mW (cs:=[.int .i64 y.Tag,.sl 1 (Ak e8 y.Bytes),.bool y.Nested,.sl 4 (Ak Ai.enc y.Elements),.int .i64 y_2.Tag,.sl 1 (Ak e8 y_2.Bytes),.bool y_2.Nested,.sl 4 (Ak Ai.enc y_2.Elements)]) (.cons .int (.cons .sl (.cons .bool (.cons .sl (.cons .int (.cons .sl (.cons .bool (.cons .sl .nil)))))))) rfl (l:=([y,y_2]:List Ai)) (f:=Ai.enc) (by simp only [Ak,aNa,aPm,Ai.enc_eq]; rfl)) rfl rfl rfl ?_
 exact C1
instance aK9:Wk 134:=⟨_,@iO⟩
theorem eP {b r} (G:M5 b=some r):Fn Tryz.prog 135 0 [.val (.bool b)] [] (fun d' b'=>d'=.agg (Ai.dv r)/\b'=[]):=by
 unfold M5 at G
 refine Ez 0 8 Tryz.func135 fun _ _ _=>?_
 refine B7 3 fun B G=>?_
 refine Ja rfl G (fun _ G=>?_) fun _ G=>?_
 refine B7 1 fun B G=>?_
 refine H0 Rx z5 vJ ([(255:UInt8)]:List UInt8) e8 ?_
 refine Kp Qa gY bE ?_
 exact C1
 refine B7 2 fun B G=>?_
 refine H0 Rx z5 vJ ([(0:UInt8)]:List UInt8) e8 ?_
 refine Kp Qa gY bE ?_
 exact C1
instance aK5:Wk 135:=⟨_,@eP⟩
theorem eU {c r} (G:Ff c=some r):Fn Tryz.prog 105 0 [.agg (Ah.dv c)] [] (fun d' b'=>d'=.agg (Ai.dv r)/\b'=[]):=by
 unfold Ff at G
 refine Ez 0 55 Tryz.func105 fun _ _ _=>?_
 refine B7 5 fun B G=>?_
 refine Gc (fun ((i_1,names_1):Int×List Ai)=>mk [(1,.ptr 0 0),(2,.ptr 1 0),(3,.row 2),(4,vk i_1)] [(0,.box (Ah.dv c) 103),(1,.box [.val (.int .i64 0),.val (.slice none 0 0),.val (.bool false),.val (.slice none 0 0)] 152),(2,.row 152 4 (Ak Ai.enc names_1))] 3) G (B9 [(0,0),(1,8)]) ?_
 rintro⟨i_1,names_1⟩ m1 o1 G hn1
 unfold Ff.l1 at G
 refine Iw 2 fun B G=>?_
 refine Ja rfl G (fun _ G=>?_) fun _ G=>?_
 refine B7 7 fun _ _ y _ B G=>?_
 refine Fw rfl rfl (G5 gW bE (by decide) rfl rfl rfl rfl mW (cs:=[.int .i64 y.Tag,.sl 1 (Ak e8 y.Bytes),.bool y.Nested,.sl 4 (Ak Ai.enc y.Elements)]) (.cons .int (.cons .sl (.cons .bool (.cons .sl .nil)))) rfl (l:=([y]:List Ai)) (f:=Ai.enc) (by simp only [Ak,aNa,aPm,Ai.enc_eq]; rfl)) rfl rfl ?_
 exact C1
 refine B7 1 fun B G=>?_
 refine A8 <| G3 (σ':=mk [(1,.ptr 0 0),(2,.ptr 1 0),(3,.sl 4 (Ak Ai.enc names_1))] [(0,.box (Ah.dv c) 103),(1,.box [.val (.int .i64 0),.val (.slice none 0 0),.val (.bool false),.val (.slice none 0 0)] 152)] 2) (B9 [(0,0),(1,1)]) ?_
 refine Bn (Dx _ _ [258]) (by kernel_rfl) [0,1,3,0,8,31,0,64,255,0,512,2047,0,4096,16383,0,32768,131071,0,262144,1048575,0,2097152,8388607,0,16777216,67108863,0,134217728,536870911,0,2147483647,4294967295,8589934591,17179869183] 2 282 Ha rfl rfl (by kernel_rfl) ?_
 refine B7 11 fun y_12 _ y_13 _ y_14 _ y_15 _ y_16 _ y_17 _ y_18 _ y_19 _ y_20 _ y_21 _ y_22 _ B G=>?_
 refine yP (rd:=[]) rfl rfl (G5 gW bE (by decide) rfl rfl rfl rfl mW (cs:=[.int .i64 y_12.Tag,.sl 1 (Ak e8 y_12.Bytes),.bool y_12.Nested,.sl 4 (Ak Ai.enc y_12.Elements),.int .i64 y_13.Tag,.sl 1 (Ak e8 y_13.Bytes),.bool y_13.Nested,.sl 4 (Ak Ai.enc y_13.Elements),.int .i64 y_14.Tag,.sl 1 (Ak e8 y_14.Bytes),.bool y_14.Nested,.sl 4 (Ak Ai.enc y_14.Elements),.int .i64 y_15.Tag,.sl 1 (Ak e8 y_15.Bytes),.bool y_15.Nested,.sl 4 (Ak Ai.enc y_15.Elements),.int .i64 y_16.Tag,.sl 1 (Ak e8 y_16.Bytes),.bool y_16.Nested,.sl 4 (Ak Ai.enc y_16.Elements),.int .i64 y_17.Tag,.sl 1 (Ak e8 y_17.Bytes),.bool y_17.Nested,.sl 4 (Ak Ai.enc y_17.Elements),.int .i64 y_18.Tag,.sl 1 (Ak e8 y_18.Bytes),.bool y_18.Nested,.sl 4 (Ak Ai.enc y_18.Elements),.int .i64 y_19.Tag,.sl 1 (Ak e8 y_19.Bytes),.bool y_19.Nested,.sl 4 (Ak Ai.enc y_19.Elements),.int .i64 y_20.Tag,.sl 1 (Ak e8 y_20.Bytes),.bool y_20.Nested,.sl 4 (Ak Ai.enc y_20.Elements),.int .i64 y_21.Tag,.sl 1 (Ak e8 y_21.Bytes),.bool y_21.Nested,.sl 4 (Ak Ai.enc y_21.Elements),.int .i64 y_22.Tag,.sl 1 (Ak e8 y_22.Bytes),.bool y_22.Nested,.sl 4 (Ak Ai.enc y_22.Elements)]) (.cons .int (.cons .sl (.cons .bool (.cons .sl (.cons .int (.cons .sl (.cons .bool (.cons .sl (.cons .int (.cons .sl (.cons .bool (.cons .sl (.cons .int (.cons .sl (.cons .bool (.cons .sl (.cons .int (.cons .sl (.cons .bool (.cons .sl (.cons .int (.cons .sl (.cons .bool (.cons .sl (.cons .int (.cons .sl (.cons .bool (.cons .sl (.cons .int (.cons .sl (.cons .bool (.cons .sl (.cons .int (.cons .sl (.cons .bool (.cons .sl (.cons .int (.cons .sl (.cons .bool (.cons .sl (.cons .int (.cons .sl (.cons .bool (.cons .sl .nil)))))))))))))))))))))))))))))))))))))))))))) rfl (l:=([y_12,y_13,y_14,y_15,y_16,y_17,y_18,y_19,y_20,y_21,y_22]:List Ai)) (f:=Ai.enc) (by simp only [Ak,aNa,aPm,Ai.enc_eq]; rfl)) rfl rfl rfl ?_
 exact C1
instance aKd:Wk 105:=⟨_,@eU⟩
theorem jD {n r} (G:Mr n=some r):Fn Tryz.prog 152 0 [vk n] [] (fun d' b'=>d'=.val (.bool r)/\b'=[]):=by
 unfold Mr at G
 refine Ez 0 14 Tryz.func152 fun _ _ _=>?_
 exact C1
instance aKc:Wk 152:=⟨_,@jD⟩
theorem Ns.F (rec:Ai->Option (Bool)) (hrec:∀ (v:Ai) (r:Bool),rec v=some r->Fn Tryz.prog 128 0 [.agg (Ai.dv v)] [] (fun d' b'=>d'=.val (.bool r)/\b'=[])) {v:Ai} {r:Bool} (G:B0.F rec v=some r):Fn Tryz.prog 128 0 [.agg (Ai.dv v)] [] (fun d' b'=>d'=.val (.bool r)/\b'=[]):=by
 unfold B0.F at G
 refine Ez 0 53 Tryz.func128 fun _ _ _=>?_
 refine B7 1 fun B G=>?_
 refine A8 <| A6 (ι:=Bool) (fun (x38_1:Bool)=>mk [(1,.ptr 0 0),(38,.val (.bool x38_1))] [(0,.box (Ai.dv v) 152)] 1) (fun (x38_1:Bool)=>B0.j1 rec v x38_1=some r) ?_ ?_
 exact C1
 rintro x38_1 G
 unfold B0.j1 at G
 refine Dl (.l 0 (.e 4)) fun _ B G=>?_
 refine Gc (fun (i_2:Int)=>mk [(1,.ptr 0 0),(3,vk i_2)] [(0,.box (Ai.dv v) 152)] 1) G (B9 [(0,0)]) ?_
 rintro i_2 m2 o2 G hn2
 unfold B0.l2 at G
 refine Dl (.r 2 (.e 5)) fun _ e he B G=>?_
 refine Fw rfl rfl (Mn iX (Iy Ai.enc_len (Cc he) (o:=0) (m:=4) (cs:=[.int .i64 e.Tag,.sl 1 (Ak e8 e.Bytes),.bool e.Nested,.sl 4 (Ak Ai.enc e.Elements)]) (by simp only [Ai.enc_eq]; rfl) (by decide) rfl) (Fe Ai.enc_len (Cc he) (o:=0) (m:=4) (by decide) rfl)) rfl rfl ?_
 obtain⟨y_2,hy_2,G⟩:=Aq G
 refine Mb (hrec _ _ hy_2) ?_
 exact C1
theorem Ns {v:Ai} {r:Bool} (G:B0 v=some r):Fn Tryz.prog 128 0 [.agg (Ai.dv v)] [] (fun d' b'=>d'=.val (.bool r)/\b'=[]):=
 Rn (motive:=fun (x:Ai) (r:Bool)=>Fn Tryz.prog 128 0 [.agg (Ai.dv x)] [] (fun d' b'=>d'=.val (.bool r)/\b'=[])) (fun rec hrec x r h=>@Ns.F _ (fun v r h=>hrec v r h) x r h) v r G
instance aK4:Wk 128:=⟨_,@Ns⟩
theorem O5.F (rec:Ai->Option (Int)) (hrec:∀ (v:Ai) (r:Int),rec v=some r->Fn Tryz.prog 129 0 [.agg (Ai.dv v)] [] (fun d' b'=>d'=vk r/\b'=[])) {v:Ai} {r:Int} (G:Dh.F rec v=some r):Fn Tryz.prog 129 0 [.agg (Ai.dv v)] [] (fun d' b'=>d'=vk r/\b'=[]):=by
 unfold Dh.F at G
 refine Ez 0 22 Tryz.func129 fun _ _ _=>?_
 refine B7 5 fun B G=>?_
 refine Gc (fun ((d_1,i_1):Int×Int)=>mk [(1,.ptr 0 0),(3,vk d_1),(4,vk i_1)] [(0,.box (Ai.dv v) 152)] 1) G (B9 [(0,0)]) ?_
 rintro⟨d_1,i_1⟩ m1 o1 G hn1
 unfold Dh.l1 at G
 refine Dl (.r 2 (.e 5)) fun _ e he B G=>?_
 refine Fw rfl rfl (Mn iX (Iy Ai.enc_len (Cc he) (o:=0) (m:=4) (cs:=[.int .i64 e.Tag,.sl 1 (Ak e8 e.Bytes),.bool e.Nested,.sl 4 (Ak Ai.enc e.Elements)]) (by simp only [Ai.enc_eq]; rfl) (by decide) rfl) (Fe Ai.enc_len (Cc he) (o:=0) (m:=4) (by decide) rfl)) rfl rfl ?_
 obtain⟨y,hy,G⟩:=Aq G
 refine Mb (hrec _ _ hy) ?_
 exact C1
theorem O5 {v:Ai} {r:Int} (G:Dh v=some r):Fn Tryz.prog 129 0 [.agg (Ai.dv v)] [] (fun d' b'=>d'=vk r/\b'=[]):=
 Rn (motive:=fun (x:Ai) (r:Int)=>Fn Tryz.prog 129 0 [.agg (Ai.dv x)] [] (fun d' b'=>d'=vk r/\b'=[])) (fun rec hrec x r h=>@O5.F _ (fun v r h=>hrec v r h) x r h) v r G
instance aKu:Wk 129:=⟨_,@O5⟩
end Go.Proofs.YtkioneinddihlaaGreat
