import Derived.Test.YtkioneinddihlaaGreatT1
import Derived.Test.YtkioneinddihlaaGreatEU
import Derived.Test.YtkioneinddihlaaGreatA3
import Derived.Test.YtkioneinddihlaaGreatA5
set_option linter.unusedVariables false
set_option linter.unusedSimpArgs false
set_option maxRecDepth 100000
set_option maxHeartbeats 40000000
namespace Go.Proofs.YtkioneinddihlaaGreat
open Go.RowKit
theorem jZ {d e r} (G:Bs d e=some r):Fn Tryz.prog 11 1 [.ptr 0 0,.agg (An.dv e)] [.box [.sl 1 (Ak eI d.L),vk d.At] 68] (fun d' b'=>d'=.agg (Ae.dv r.1)/\b'=[.box [.sl 1 (Ak eI r.2.L),vk r.2.At] 68]):=by
 unfold Bs at G
 refine Ez 1 143 Tryz.func11 fun _ _ _=>?_
 refine B7 8 fun y _ e_2 _ y_2 _ B G=>?_
 refine Kp Ou eG jK ?_
 refine B7 0 fun B G=>?_
 refine A6 (ι:=Ab×Ae) (fun ((b_7,c_7):Ab×Ae)=>mk [(4,.ptr 1 0),(7,.ptr 2 0)] [(0,.box [.sl 1 (Ak eI b_7.L),vk b_7.At] 68),(1,.box [.val (.int .i64 0),.val (.int .i64 0),.val (.int .i64 0),.val (.int .i64 0),.val (.int .i64 0),.val (.int .i64 0),.val (.int .i64 0),.val (.slice none 0 0)] 45),(2,.box (Ae.dv c_7) 45)] 3) (fun ((b_7,c_7):Ab×Ae)=>Bs.j7 b_7 c_7=some r) ?_ ?_
 refine B7 3 fun B G=>?_
 refine Ja rfl G (fun _ G=>?_) fun _ G=>?_
 refine Bn (Dx _ _ []) (by kernel_rfl) [0,1,3,0,0,16,48,112,251,7,1023,2047,4095] 209 313 B rfl rfl (by kernel_rfl) ?_
 exact C1
 refine B7 1 fun B G=>?_
 refine Ja rfl G (fun _ G=>?_) fun _ G=>?_
 refine B7 2 fun y_5 _ B G=>?_
 refine A6 (ι:=Bool×Ab) (fun ((x52_1,d_1):Bool×Ab)=>mk [(0,.ptr 0 0),(4,.ptr 1 0),(6,.ptr 2 0),(7,.ptr 3 0),(52,.val (.bool x52_1))] [(0,.box [.sl 1 (Ak eI d_1.L),vk d_1.At] 68),(1,.box [.val (.int .i64 0),.val (.int .i64 0),.val (.int .i64 0),.val (.int .i64 0),.val (.int .i64 0),.val (.int .i64 0),.val (.int .i64 0),.val (.slice none 0 0)] 45),(2,.box (Al.dv e_2) 59),(3,.box [vk y.1,.val (.int .i64 (W (1 + y_2.1))),.val (.int .i64 (W (1 + y_5.1))),.val (.int .i64 0),.val (.int .i64 0),.val (.int .i64 0),.val (.int .i64 0),.val (.slice none 0 0)] 45)] 4) (fun ((x52_1,d_1):Bool×Ab)=>Bs.j1 y e_2 y_2 y_5 x52_1 d_1=some r) ?_ ?_
 exact C1
 rintro⟨x52_1,d_1⟩ G
 unfold Bs.j1 at G
 refine Dl (.r 0 (.e 0)) fun _ B G=>?_
 refine Bn (Dx _ _ []) (by kernel_rfl) [0,1,0,0,8,24,60,127,255,511,1023] 4 92 Ha rfl rfl (by kernel_rfl) ?_
 exact C1
 refine A6 (ι:=Bool) (fun (x63_2:Bool)=>mk [(0,.ptr 0 0),(4,.ptr 1 0),(6,.ptr 2 0),(7,.ptr 3 0),(24,.val (.int .i64 (W (1 + y_2.1)))),(63,.val (.bool x63_2))] [(0,.box [.sl 1 (Ak eI y_2.2.L),vk y_2.2.At] 68),(1,.box [.val (.int .i64 0),.val (.int .i64 0),.val (.int .i64 0),.val (.int .i64 0),.val (.int .i64 0),.val (.int .i64 0),.val (.int .i64 0),.val (.slice none 0 0)] 45),(2,.box (Al.dv e_2) 59),(3,.box [vk y.1,.val (.int .i64 (W (1 + y_2.1))),.val (.int .i64 0),.val (.int .i64 0),.val (.int .i64 0),.val (.int .i64 0),.val (.int .i64 0),.val (.slice none 0 0)] 45)] 4) (fun (x63_2:Bool)=>Bs.j2 y e_2 y_2 x63_2=some r) ?_ ?_
 exact C1
 rintro x63_2 G
 unfold Bs.j2 at G
 refine Dl (.l 0 (.e 1)) fun _ B G=>?_
 refine Ja rfl G (fun _ G=>?_) fun _ G=>?_
 refine Bn (Dx _ _ []) (by kernel_rfl) [0,0,2,6,14,31,0,64,63,319,831,0,2879,7999,16191,0,39743,105279,0,367423,891711,2097151,63,8388607,16777215,33554431] 20 228 B rfl rfl (by kernel_rfl) ?_
 refine B7 3 fun y_9 _ y_10 _ y_11 _ B G=>?_
 refine H0 aDv bN aF7 ([y_10,y_11]:List Av) Av.enc ?_
 exact C1
 refine B7 1 fun B G=>?_
 refine Ja rfl G (fun _ G=>?_) fun _ G=>?_
 refine B7 2 fun y_16 _ B G=>?_
 refine A6 (ι:=Bool×Ab) (fun ((x110_3,d_3):Bool×Ab)=>mk [(0,.ptr 0 0),(4,.ptr 1 0),(6,.ptr 2 0),(7,.ptr 3 0),(110,.val (.bool x110_3))] [(0,.box [.sl 1 (Ak eI d_3.L),vk d_3.At] 68),(1,.box [.val (.int .i64 0),.val (.int .i64 0),.val (.int .i64 0),.val (.int .i64 0),.val (.int .i64 0),.val (.int .i64 0),.val (.int .i64 0),.val (.slice none 0 0)] 45),(2,.box (Al.dv e_2) 59),(3,.box [vk y.1,.val (.int .i64 (W (1 + y_2.1))),.val (.int .i64 (W (100 + y_16.1))),.val (.int .i64 0),.val (.int .i64 0),.val (.int .i64 0),.val (.int .i64 0),.val (.slice none 0 0)] 45)] 4) (fun ((x110_3,d_3):Bool×Ab)=>Bs.j3 y e_2 y_2 y_16 x110_3 d_3=some r) ?_ ?_
 exact C1
 rintro⟨x110_3,d_3⟩ G
 unfold Bs.j3 at G
 refine Dl (.r 0 (.e 0)) fun _ B G=>?_
 refine Bn (Dx _ _ []) (by kernel_rfl) [0,1,0,0,8,24,60,127,255,511,1023,2047] 4 100 Ha rfl rfl (by kernel_rfl) ?_
 exact C1
 refine A6 (ι:=Bool) (fun (x122_4:Bool)=>mk [(0,.ptr 0 0),(4,.ptr 1 0),(7,.ptr 2 0),(24,.val (.int .i64 (W (1 + y_2.1)))),(122,.val (.bool x122_4))] [(0,.box [.sl 1 (Ak eI y_2.2.L),vk y_2.2.At] 68),(1,.box [.val (.int .i64 0),.val (.int .i64 0),.val (.int .i64 0),.val (.int .i64 0),.val (.int .i64 0),.val (.int .i64 0),.val (.int .i64 0),.val (.slice none 0 0)] 45),(2,.box [vk y.1,.val (.int .i64 (W (1 + y_2.1))),.val (.int .i64 0),.val (.int .i64 0),.val (.int .i64 0),.val (.int .i64 0),.val (.int .i64 0),.val (.slice none 0 0)] 45)] 3) (fun (x122_4:Bool)=>Bs.j4 y y_2 x122_4=some r) ?_ ?_
 exact C1
 rintro x122_4 G
 unfold Bs.j4 at G
 refine Dl (.l 0 (.e 0)) fun _ B G=>?_
 refine A6 (ι:=Bool) (fun (x129_5:Bool)=>mk [(0,.ptr 0 0),(4,.ptr 1 0),(7,.ptr 2 0),(24,.val (.int .i64 (W (1 + y_2.1)))),(129,.val (.bool x129_5))] [(0,.box [.sl 1 (Ak eI y_2.2.L),vk y_2.2.At] 68),(1,.box [.val (.int .i64 0),.val (.int .i64 0),.val (.int .i64 0),.val (.int .i64 0),.val (.int .i64 0),.val (.int .i64 0),.val (.int .i64 0),.val (.slice none 0 0)] 45),(2,.box [vk y.1,.val (.int .i64 (W (1 + y_2.1))),.val (.int .i64 0),.val (.int .i64 0),.val (.int .i64 0),.val (.int .i64 0),.val (.int .i64 0),.val (.slice none 0 0)] 45)] 3) (fun (x129_5:Bool)=>Bs.j5 y y_2 x129_5=some r) ?_ ?_
 exact C1
 rintro x129_5 G
 unfold Bs.j5 at G
 refine Dl (.l 0 (.e 0)) fun _ B G=>?_
 refine A6 (ι:=Bool) (fun (x136_6:Bool)=>mk [(0,.ptr 0 0),(4,.ptr 1 0),(7,.ptr 2 0),(136,.val (.bool x136_6))] [(0,.box [.sl 1 (Ak eI y_2.2.L),vk y_2.2.At] 68),(1,.box [.val (.int .i64 0),.val (.int .i64 0),.val (.int .i64 0),.val (.int .i64 0),.val (.int .i64 0),.val (.int .i64 0),.val (.int .i64 0),.val (.slice none 0 0)] 45),(2,.box [vk y.1,.val (.int .i64 (W (1 + y_2.1))),.val (.int .i64 0),.val (.int .i64 0),.val (.int .i64 0),.val (.int .i64 0),.val (.int .i64 0),.val (.slice none 0 0)] 45)] 3) (fun (x136_6:Bool)=>Bs.j6 y y_2 x136_6=some r) ?_ ?_
 exact C1
 rintro x136_6 G
 unfold Bs.j6 at G
 exact F0
 rintro⟨b_7,c_7⟩ G
 unfold Bs.j7 at G
 exact F0
instance aMe:Wk 11:=⟨_,@jZ⟩
theorem kY {d c r} (G:F1 d c=some r):Fn Tryz.prog 10 1 [.ptr 0 0,.agg (Ae.dv c)] [.box [.sl 1 (Ak eI d.L),vk d.At] 68] (fun d' b'=>d'=.agg (Ae.dv r.1)/\b'=[.box [.sl 1 (Ak eI r.2.L),vk r.2.At] 68]):=by
 unfold F1 at G
 refine Ez 1 37 Tryz.func10 fun _ _ _=>?_
 refine B7 1 fun B G=>?_
 refine A6 (ι:=Ab×Ae) (fun ((b_1,c_1):Ab×Ae)=>mk [(3,.ptr 1 0),(4,.ptr 2 0)] [(0,.box [.sl 1 (Ak eI b_1.L),vk b_1.At] 68),(1,.box (Ae.dv c_1) 45),(2,.box [.val (.int .i64 0),.val (.int .i64 0),.val (.int .i64 0),.val (.int .i64 0),.val (.int .i64 0),.val (.int .i64 0),.val (.int .i64 0),.val (.slice none 0 0)] 45)] 3) (fun ((b_1,c_1):Ab×Ae)=>F1.j1 b_1 c_1=some r) ?_ ?_
 refine Jv (.l 4 (.e 1)) fun y _ _ B G=>?_
 refine Ja rfl G (fun _ G=>?_) fun _ G=>?_
 refine Cn (Dx _ _ [73]) 65 105 B rfl rfl ?_
 refine B7 0 fun B G=>?_
 refine Qv Es z3 I6 ([0,-1,17,70000,2]:List Int) eI ?_
 exact C1
 refine B7 1 fun B G=>?_
 refine Ja rfl G (fun _ G=>?_) fun _ G=>?_
 refine Cn (Dx _ _ [89]) 81 121 B rfl rfl ?_
 refine B7 0 fun B G=>?_
 refine Qv Es z3 I6 ([-1,1,99]:List Int) eI ?_
 exact C1
 refine Jv (.l 1 (.r 1 (.e 0))) fun _ _ B G=>?_
 refine Cn (Dx _ _ [121]) 113 153 B rfl rfl ?_
 refine B7 0 fun B G=>?_
 refine Qv Es z3 I6 ([-1,9,0]:List Int) eI ?_
 exact C1
 rintro⟨b_1,c_1⟩ G
 unfold F1.j1 at G
 exact F0
instance aMk:Wk 10:=⟨_,@kY⟩
theorem W6 {l n r} (G:F6 l n=some r):Fn Tryz.prog 77 0 [.sl 1 (Ak eI l),vk n] [] (fun d' b'=>d'=.val (.bool r)/\b'=[]):=by
 unfold F6 at G
 refine Ez 0 18 Tryz.func77 fun _ _ _=>?_
 refine B7 4 fun B G=>?_
 refine Gc (fun (i_1:Int)=>mk [(0,.sl 1 (Ak eI l)),(1,vk n),(5,vk i_1)] [] 0) G (B9 []) ?_
 rintro i_1 m1 o1 G hn1
 unfold F6.l1 at G
 exact F0
instance aM5:Wk 77:=⟨_,@W6⟩
theorem Dv {alg bits r} (G:Ds alg bits=some r):Fn Tryz.prog 147 0 [vk alg,vk bits] [] (fun d' b'=>d'=.agg [vk r.Alg,vk r.Bits]/\b'=[]):=by
 unfold Ds at G
 refine Ez 0 8 Tryz.func147 fun _ _ _=>?_
 refine B7 2 fun B G=>?_
 refine Kp Lm Q9 bN ?_
 exact C1
instance aK1:Wk 147:=⟨_,@Dv⟩
theorem Ea {code name exchange sign cipher mac least most r} (G:Dz code name exchange sign cipher mac least most=some r):Fn Tryz.prog 148 0 [vk code,ws name,.agg [vk exchange.Alg,vk exchange.Bits],.agg [vk sign.Alg,vk sign.Bits],.agg [vk cipher.Alg,vk cipher.Bits],.agg [vk mac.Alg,vk mac.Bits],vk least,vk most] [] (fun d' b'=>d'=.agg (A7.dv r)/\b'=[]):=by
 unfold Dz at G
 refine Ez 0 26 Tryz.func148 fun _ _ _=>?_
 refine B7 2 fun B G=>?_
 refine Kp Ir Lu Oi ?_
 exact C1
instance aJ6:Wk 148:=⟨_,@Ea⟩
theorem X3 {r} (G:Jy=some r):Fn Tryz.prog 125 0 [] [] (fun d' b'=>d'=.sl 12 (Ak A7.enc r)/\b'=[]):=by
 unfold Jy at G
 refine Ez 0 110 Tryz.func125 fun _ _ _=>?_
 refine eM 0 8 Ha fun B=>?_
 refine Xs 8 80 B ?_
 obtain⟨y,hy,G⟩:=Aq G
 refine Mb (Dv hy) ?_
 obtain⟨y_2,hy_2,G⟩:=Aq G
 refine Mb (Dv hy_2) ?_
 refine Kp Lm Q9 bN ?_
 refine Ni fun B=>?_
 refine Xs 80 128 B ?_
 obtain⟨y_3,hy_3,G⟩:=Aq G
 refine Mb (Dv hy_3) ?_
 obtain⟨y_4,hy_4,G⟩:=Aq G
 refine Mb (Dv hy_4) ?_
 refine Ni fun B=>?_
 refine Xs 128 200 B ?_
 obtain⟨y_5,hy_5,G⟩:=Aq G
 refine Mb (Dv hy_5) ?_
 obtain⟨y_6,hy_6,G⟩:=Aq G
 refine Mb (Dv hy_6) ?_
 obtain⟨y_7,hy_7,G⟩:=Aq G
 refine Mb (Dv hy_7) ?_
 refine Ni fun B=>?_
 refine Xs 200 296 B ?_
 obtain⟨y_8,hy_8,G⟩:=Aq G
 refine Mb (Dv hy_8) ?_
 obtain⟨y_9,hy_9,G⟩:=Aq G
 refine Mb (Dv hy_9) ?_
 obtain⟨y_10,hy_10,G⟩:=Aq G
 refine Mb (Dv hy_10) ?_
 obtain⟨y_11,hy_11,G⟩:=Aq G
 refine Mb (Dv hy_11) ?_
 refine Ni fun B=>?_
 refine Xs 296 344 B ?_
 obtain⟨y_12,hy_12,G⟩:=Aq G
 refine Mb (Dv hy_12) ?_
 obtain⟨y_13,hy_13,G⟩:=Aq G
 refine Mb (Dv hy_13) ?_
 refine Ni fun B=>?_
 refine A8 <| Bn (Dx _ _ []) (by kernel_rfl) [0,0,0,0,15,0,0,0,0,511,0,0,0,0,16383,32767,65535,0,0,524287,1048575,0,0,0,16777215,0,0,0,0,536870911,1073741823,0,0,0,17179869183,0,0,0,0,549755813887,0,1099511627775,3298534883327,0,17592186044415,0,0,0,0,562949953421311,1125899906842623,2251799813685247,0,0,18014398509481983,0,0,0,0,576460752303423487,0,0,0,0,18446744073709551615,0,0,0,0,590295810358705651711,0,0,0,0,18889465931478580854783,37778931862957161709567,0,0,0,604462909807314587353087,1208925819614629174706175,2417851639229258349412351] 344 1000 B rfl rfl (by kernel_rfl) ?_
 refine Kr ?_
 obtain⟨y_14,hy_14,G⟩:=Aq G
 refine Mb (Ea hy_14) ?_
 refine Kr ?_
 obtain⟨y_15,hy_15,G⟩:=Aq G
 refine Mb (Ea hy_15) ?_
 refine Kr ?_
 obtain⟨y_16,hy_16,G⟩:=Aq G
 refine Mb (Ea hy_16) ?_
 obtain⟨y_17,hy_17,G⟩:=Aq G
 refine Mb (Dv hy_17) ?_
 obtain⟨y_18,hy_18,G⟩:=Aq G
 refine Mb (Dv hy_18) ?_
 refine Kr ?_
 obtain⟨y_19,hy_19,G⟩:=Aq G
 refine Mb (Ea hy_19) ?_
 obtain⟨y_20,hy_20,G⟩:=Aq G
 refine Mb (Dv hy_20) ?_
 refine Kr ?_
 obtain⟨y_21,hy_21,G⟩:=Aq G
 refine Mb (Ea hy_21) ?_
 refine Kr ?_
 obtain⟨y_22,hy_22,G⟩:=Aq G
 refine Mb (Ea hy_22) ?_
 obtain⟨y_23,hy_23,G⟩:=Aq G
 refine Mb (Dv hy_23) ?_
 refine Kr ?_
 obtain⟨y_24,hy_24,G⟩:=Aq G
 refine Mb (Ea hy_24) ?_
 refine Kr ?_
 obtain⟨y_25,hy_25,G⟩:=Aq G
 refine Mb (Ea hy_25) ?_
 refine Kr ?_
 obtain⟨y_26,hy_26,G⟩:=Aq G
 refine Mb (Dv hy_26) ?_
 obtain⟨y_27,hy_27,G⟩:=Aq G
 refine Mb (Dv hy_27) ?_
 refine Kr ?_
 obtain⟨y_28,hy_28,G⟩:=Aq G
 refine Mb (Ea hy_28) ?_
 refine Kr ?_
 obtain⟨y_29,hy_29,G⟩:=Aq G
 refine Mb (Ea hy_29) ?_
 obtain⟨y_30,hy_30,G⟩:=Aq G
 refine Mb (Dv hy_30) ?_
 obtain⟨y_31,hy_31,G⟩:=Aq G
 refine Mb (Dv hy_31) ?_
 refine Kr ?_
 obtain⟨y_32,hy_32,G⟩:=Aq G
 refine Mb (Ea hy_32) ?_
 refine Kr ?_
 obtain⟨y_33,hy_33,G⟩:=Aq G
 refine Mb (Ea hy_33) ?_
 refine Kr ?_
 obtain⟨y_34,hy_34,G⟩:=Aq G
 refine Mb (Ea hy_34) ?_
 refine Kr ?_
 obtain⟨y_35,hy_35,G⟩:=Aq G
 refine Mb (Ea hy_35) ?_
 refine Kr ?_
 obtain⟨y_36,hy_36,G⟩:=Aq G
 refine Mb (Ea hy_36) ?_
 obtain⟨y_37,hy_37,G⟩:=Aq G
 refine Mb (Dv hy_37) ?_
 refine Kr ?_
 obtain⟨y_38,hy_38,G⟩:=Aq G
 refine Mb (Ea hy_38) ?_
 refine H0 qI Oi zV ([y_14,y_15,y_16,y_19,y_21,y_22,y_24,y_25,y_28,y_29,y_32,y_33,y_34,y_35,y_36,y_38]:List A7) A7.enc ?_
 exact t5_
instance aKn:Wk 125:=⟨_,@X3⟩
theorem aE {code r} (G:Fx code=some r):Fn Tryz.prog 98 0 [vk code] [] (fun d' b'=>d'=.tup [.agg (A7.dv r.1),vk r.2]/\b'=[]):=by
 unfold Fx at G
 refine Ez 0 16 Tryz.func98 fun _ _ _=>?_
 refine B7 1 fun B G=>?_
 refine A8 <| A6 (ι:=Bool) (fun (x9_1:Bool)=>mk [(0,vk code),(2,.ptr 0 0),(9,.val (.bool x9_1))] [(0,.box [.val (.int .i64 0),.val (.string (⟨#[]⟩:ByteArray)),.val (.int .i64 0),.val (.int .i64 0),.val (.int .i64 0),.val (.int .i64 0),.val (.int .i64 0),.val (.int .i64 0),.val (.int .i64 0),.val (.int .i64 0),.val (.int .i64 0),.val (.int .i64 0)] 146)] 1) (fun (x9_1:Bool)=>Fx.j1 code x9_1=some r) ?_ ?_
 exact C1
 rintro x9_1 G
 unfold Fx.j1 at G
 refine Dl (.r 0 (.e 1)) fun _ B G=>?_
 refine Kp Ir Lu Oi ?_
 exact C1
instance aNr:Wk 98:=⟨_,@aE⟩
theorem Vs {code r} (G:Hw code=some r):Fn Tryz.prog 106 0 [vk code] [] (fun d' b'=>d'=vk r/\b'=[]):=by
 unfold Hw at G
 refine Ez 0 15 Tryz.func106 fun _ _ _=>?_
 exact C1
instance aK2:Wk 106:=⟨_,@Vs⟩
theorem eF {l r} (G:Dp l=some r):Fn Tryz.prog 78 0 [.sl 1 (Ak eI l)] [] (fun d' b'=>d'=.sl 1 (Ak eI r)/\b'=[]):=by
 unfold Dp at G
 refine Ez 0 48 Tryz.func78 fun _ _ _=>?_
 refine B7 5 fun B G=>?_
 refine Gc (fun ((i_1,out_1):Int×List Int)=>mk [(0,.sl 1 (Ak eI l)),(3,.row 0),(4,vk i_1)] [(0,.row 3 1 (Ak eI out_1))] 1) G (B9 []) ?_
 rintro⟨i_1,out_1⟩ m1 o1 G hn1
 unfold Dp.l1 at G
 refine Dl (.r 2 (.e 6)) fun _ B G=>?_
 refine Gc (fun (k_2:Int)=>mk [(0,.sl 1 (Ak eI l)),(3,.row 0),(4,vk i_1),(5,vk k_2)] [(0,.row 3 1 (Ak eI out_1))] 1) G (B9 [(0,0)]) ?_
 rintro k_2 m2 o2 G hn2
 unfold Dp.l2 at G
 try dsimp only at G
 refine Nl rfl ?_
 refine A8 <| A6 (ι:=Bool) (fun (x29_3:Bool)=>mk [(0,.sl 1 (Ak eI l)),(3,.row 0),(4,vk i_1),(5,vk k_2),(29,.val (.bool x29_3))] [(0,.row 3 1 (Ak eI out_1))] 1) (fun (x29_3:Bool)=>Dp.j3 l i_1 out_1 k_2 x29_3=some o2) ?_ ?_
 refine Bn (Dx _ _ []) (by kernel_rfl) [0,1,3,7,7,23,63,127,255,7,7,1543,3591,8191,16383,32767] 1 129 Ha rfl rfl (by kernel_rfl) ?_
 exact C1
 rintro x29_3 G
 unfold Dp.j3 at G
 refine Dl (.l 0 (.e 1)) fun _ B G=>?_
 refine Bn (Dx _ _ []) (by kernel_rfl) [0,0,0,6,15,0,0,96,224,480,1023,0,0,6144,16383,32767] 1 129 Ha rfl rfl (by kernel_rfl) ?_
 refine Fw rfl rfl (G5 Es z3 (by decide) rfl rfl rfl rfl I6 (cs:=[]) .nil rfl (l:=([]:List Int)) (f:=eI) rfl) rfl rfl ?_
 refine B7 1 fun _ hl_2 B G=>?_
 obtain⟨l_3,hl_3,G⟩:=Aq G
 refine Ik (rd:=[1,0]) rfl rfl (J0 Es O4 .row rfl (.part (mT O4 (V9 hl_2))) (fX O4 _ _ _ (V9 hl_2)) hl_3 rfl) rfl rfl ?_
 refine B7 2 fun e_3 _ B G=>?_
 refine H0 Es z3 I6 ([e_3]:List Int) eI ?_
 refine B7 2 fun _ _ _ hl_5 B G=>?_
 obtain⟨l_6,hl_6,G⟩:=Aq G
 refine Ik (rd:=[81,0]) rfl rfl (J0 Es O4 .row rfl (.part (mT O4 (V9 hl_5))) (fX O4 _ _ _ (V9 hl_5)) hl_6 rfl) rfl rfl ?_
 exact C1
instance aMm:Wk 78:=⟨_,@eF⟩
theorem S3 {d r} (G:Ec d=some r):Fn Tryz.prog 55 1 [.ptr 0 0] [.box [.sl 1 (Ak eI d.L),vk d.At] 68] (fun d' b'=>d'=.sl 1 (Ak eI r.1)/\b'=[.box [.sl 1 (Ak eI r.2.L),vk r.2.At] 68]):=by
 unfold Ec at G
 refine Ez 1 29 Tryz.func55 fun _ _ _=>?_
 refine B7 6 fun _ _ B G=>?_
 refine Gc (fun ((i_1,d_1,l_1):Int×Ab×List Int)=>mk [(0,.ptr 0 0),(3,.row 1),(4,vk i_1)] [(0,.box [.sl 1 (Ak eI d_1.L),vk d_1.At] 68),(1,.row 3 1 (Ak eI l_1))] 2) G (B9 [(0,0)]) ?_
 rintro⟨i_1,d_1,l_1⟩ m1 o1 G hn1
 unfold Ec.l1 at G
 refine Iw 2 fun B G=>?_
 refine Ja rfl G (fun _ G=>?_) fun _ G=>?_
 refine B7 1 fun B G=>?_
 refine A6 (ι:=Ab×List Int) (fun ((d_2,l_2):Ab×List Int)=>mk [(0,.ptr 0 0),(3,.row 1),(4,vk i_1)] [(0,.box [.sl 1 (Ak eI d_2.L),vk d_2.At] 68),(1,.row 3 1 (Ak eI l_2))] 2) (fun ((d_2,l_2):Ab×List Int)=>Ec.j2 i_1 d_2 l_2=some o1) ?_ ?_
 refine B7 4 fun y_2 _ B G=>?_
 obtain⟨y_3,hy_3,G⟩:=Aq G
 refine L3 [1] [] [] true (W6 hy_3) ?_
 refine Jv (.r 0 (.e 1)) fun _ B G=>?_
 refine H0 Es z3 I6 ([W (1 + y_2.1)]:List Int) eI ?_
 exact C1
 rintro⟨d_2,l_2⟩ G
 unfold Ec.j2 at G
 exact F0
 refine Jv (.r 4 (.e 0)) fun y_4 _ _ B G=>?_
 refine G3 (σ':=mk [(3,.sl 1 (Ak eI l_1))] [(0,.box [.sl 1 (Ak eI y_4.2.L),vk y_4.2.At] 68)] 1) (B9 [(0,0)]) ?_
 exact C1
instance aL8:Wk 55:=⟨_,@S3⟩
theorem Wt {d a r} (G:Cy d a=some r):Fn Tryz.prog 57 1 [.ptr 0 0,vk a] [.box [.sl 1 (Ak eI d.L),vk d.At] 68] (fun d' b'=>d'=vk r.1/\b'=[.box [.sl 1 (Ak eI r.2.L),vk r.2.At] 68]):=by
 unfold Cy at G
 refine Ez 1 46 Tryz.func57 fun _ _ _=>?_
 refine B7 4 fun B G=>?_
 refine A6 (ι:=Bool) (fun (x6_1:Bool)=>mk [(0,.ptr 0 0),(5,vk a),(6,.val (.bool x6_1))] [(0,.box [.sl 1 (Ak eI d.L),vk d.At] 68)] 1) (fun (x6_1:Bool)=>Cy.j1 d a x6_1=some r) ?_ ?_
 exact C1
 rintro x6_1 G
 unfold Cy.j1 at G
 try dsimp only at G
 refine Nl rfl ?_
 refine Ja rfl G (fun _ G=>?_) fun _ G=>?_
 refine A8 <| Cn (Dx _ _ [9]) 1 33 Ha rfl rfl ?_
 refine B7 0 fun B G=>?_
 refine Qv Es z3 I6 ([2048,1024,512,3072,1023,4096,16384]:List Int) eI ?_
 exact C1
 refine A6 (ι:=Bool) (fun (x14_2:Bool)=>mk [(0,.ptr 0 0),(5,vk a),(14,.val (.bool x14_2))] [(0,.box [.sl 1 (Ak eI d.L),vk d.At] 68)] 1) (fun (x14_2:Bool)=>Cy.j2 d a x14_2=some r) ?_ ?_
 exact C1
 rintro x14_2 G
 unfold Cy.j2 at G
 try dsimp only at G
 refine Nl rfl ?_
 refine Ja rfl G (fun _ G=>?_) fun _ G=>?_
 refine A8 <| Cn (Dx _ _ [9]) 1 33 Ha rfl rfl ?_
 refine B7 0 fun B G=>?_
 refine Qv Es z3 I6 ([256,160,224,384,521]:List Int) eI ?_
 exact C1
 refine B7 1 fun B G=>?_
 refine Ja rfl G (fun _ G=>?_) fun _ G=>?_
 refine A8 <| Cn (Dx _ _ [25]) 17 49 B rfl rfl ?_
 refine B7 0 fun B G=>?_
 refine Qv Es z3 I6 ([65,44,87]:List Int) eI ?_
 exact C1
 refine B7 1 fun B G=>?_
 refine Ja rfl G (fun _ G=>?_) fun _ G=>?_
 refine A8 <| Cn (Dx _ _ [41]) 33 65 B rfl rfl ?_
 refine B7 0 fun B G=>?_
 refine Qv Es z3 I6 ([768,512,1024]:List Int) eI ?_
 exact C1
 refine B7 1 fun B G=>?_
 refine Ja rfl G (fun _ G=>?_) fun _ G=>?_
 refine A8 <| Cn (Dx _ _ [57]) 49 81 B rfl rfl ?_
 refine B7 0 fun B G=>?_
 refine Qv Es z3 I6 ([128,40]:List Int) eI ?_
 exact C1
 refine B7 1 fun B G=>?_
 refine Ja rfl G (fun _ G=>?_) fun _ G=>?_
 refine A8 <| Cn (Dx _ _ [73]) 65 97 B rfl rfl ?_
 refine B7 0 fun B G=>?_
 refine Qv Es z3 I6 ([168,112]:List Int) eI ?_
 exact C1
 refine A6 (ι:=Bool) (fun (x40_3:Bool)=>mk [(0,.ptr 0 0),(40,.val (.bool x40_3))] [(0,.box [.sl 1 (Ak eI d.L),vk d.At] 68)] 1) (fun (x40_3:Bool)=>Cy.j3 d x40_3=some r) ?_ ?_
 exact C1
 rintro x40_3 G
 unfold Cy.j3 at G
 refine Dl (.r 0 (.e 0)) fun _ B G=>?_
 refine A8 <| Cn (Dx _ _ [9]) 1 33 Ha rfl rfl ?_
 refine B7 0 fun B G=>?_
 refine Qv Es z3 I6 ([128,256]:List Int) eI ?_
 exact C1
instance aL0:Wk 57:=⟨_,@Wt⟩
end Go.Proofs.YtkioneinddihlaaGreat
