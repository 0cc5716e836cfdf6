import Derived.Test.YtobamahlipiakaaGreatT1
import Derived.Test.YtobamahlipiakaaGreatEU
import Derived.Test.YtobamahlipiakaaGreatA7
import Derived.Test.YtobamahlipiakaaGreatA8
set_option linter.unusedVariables false
set_option linter.unusedSimpArgs false
set_option maxRecDepth 100000
set_option maxHeartbeats 40000000
namespace Go.Proofs.YtobamahlipiakaaGreat
open Go.RowKit
theorem jW {r} (G:Fp=some r):Fn Tryz.prog 9 0 [] [] (fun d' b'=>d'=.val (.bool r)/\b'=[]):=by
 unfold Fp at G
 refine Ea 0 58 Tryz.func9 fun _ _ _=>?_
 refine Br 2 fun B G=>?_
 refine Iz Er z3 Ia ([10,2]:List Int) eI ?_
 refine M6 Ug aM5 z29 ?_
 refine Br 1 fun B G=>?_
 refine Iz Er z3 Ia ([2,10]:List Int) eI ?_
 refine M6 P5 Yb rV ?_
 refine M6 gT aG7 z89 ?_
 refine Iz dH z89 uO ([(Al.mk (Ao.mk 5 2048) 0 ([]:(List Ae)))]:List Al) Al.enc ?_
 refine M6 Ug aM5 z29 ?_
 refine Br 0 fun B G=>?_
 refine Ay <| Hg (σ':=mk [(1,.ptr 0 0),(2,.ptr 1 0)] [(0,.box [.val (.string (⟨#[97]⟩:ByteArray)),.val (.int .i64 1),.val (.int .i64 3),.sl 1 (Ai eI ([10,2]:List Int)),.val (.bool false),.val (.slice none 0 0),.val (.slice none 0 0),.val (.slice none 0 0),.val (.bool true)] 29),(1,.box [.val (.string (⟨#[98]⟩:ByteArray)),.val (.int .i64 1),.val (.int .i64 3),.row 2,.val (.bool false),.row 3,.val (.slice none 0 0),.val (.slice none 0 0),.val (.bool false)] 29),(2,.row 3 1 (Ai eI ([2,10]:List Int))),(3,.row 89 4 (Ai Al.enc ([(Al.mk (Ao.mk 5 2048) 0 ([]:(List Ae)))]:List Al)))] 4) (Cd [(0,24),(1,80),(2,40),(3,64)]) ?_
 refine Hg (σ':=mk [(1,.ptr 0 0),(2,.ptr 1 0)] [(0,.box [.val (.string (⟨#[97]⟩:ByteArray)),.val (.int .i64 1),.val (.int .i64 3),.sl 1 (Ai eI ([10,2]:List Int)),.val (.bool false),.val (.slice none 0 0),.val (.slice none 0 0),.val (.slice none 0 0),.val (.bool true)] 29),(1,.box [.val (.string (⟨#[98]⟩:ByteArray)),.val (.int .i64 1),.val (.int .i64 3),.sl 1 (Ai eI ([2,10]:List Int)),.val (.bool false),.row 2,.val (.slice none 0 0),.val (.slice none 0 0),.val (.bool false)] 29),(2,.row 89 4 (Ai Al.enc ([(Al.mk (Ao.mk 5 2048) 0 ([]:(List Ae)))]:List Al)))] 3) (Cd [(0,0),(1,1),(2,3)]) ?_
 refine Hg (σ':=mk [(1,.ptr 0 0),(2,.ptr 1 0)] [(0,.box [.val (.string (⟨#[97]⟩:ByteArray)),.val (.int .i64 1),.val (.int .i64 3),.sl 1 (Ai eI ([10,2]:List Int)),.val (.bool false),.val (.slice none 0 0),.val (.slice none 0 0),.val (.slice none 0 0),.val (.bool true)] 29),(1,.box [.val (.string (⟨#[98]⟩:ByteArray)),.val (.int .i64 1),.val (.int .i64 3),.sl 1 (Ai eI ([2,10]:List Int)),.val (.bool false),.sl 4 (Ai Al.enc ([(Al.mk (Ao.mk 5 2048) 0 ([]:(List Ae)))]:List Al)),.val (.slice none 0 0),.val (.slice none 0 0),.val (.bool false)] 29)] 2) (Cd [(0,0),(1,1)]) ?_
 refine Br 5 fun _ _ _ _ B G=>?_
 refine M6 Zx aOf z83 ?_
 refine Iz aHz z83 aMv ([(Aw.mk false 14 0 0 0 40001)]:List Aw) Aw.enc ?_
 refine M6 aBh aTu z67 ?_
 refine Br 1 fun B G=>?_
 refine M6 wL aRf z70 ?_
 refine Br 0 fun B G=>?_
 refine M6 M8 Tq kM ?_
 obtain⟨y_3,hy_3,G⟩:=An G
 refine R9 [138] [] [] true (O1 hy_3) ?_
 exact Cj
instance wk9:Wk 9:=⟨_,@jW⟩
theorem Nt {l r} (G:K8 l=some r):Fn Tryz.prog 10 0 [.sl 1 (Ai eI l)] [] (fun d' b'=>d'=.ptr 0 0/\b'=[.box [.sl 1 (Ai eI r.L),vj r.At] 91]):=by
 unfold K8 at G
 refine Ea 0 6 Tryz.func10 fun _ _ _=>?_
 refine Br 2 fun B G=>?_
 refine M6 aDf aTm z91 ?_
 exact Cj
instance aXj:Wk 10:=⟨_,@Nt⟩
theorem uZ {n k r} (G:Q0 n k=some r):Fn Tryz.prog 62 0 [vj n,vj k] [] (fun d' b'=>d'=vj r/\b'=[]):=by
 unfold Q0 at G
 refine Ea 0 14 Tryz.func62 fun _ _ _=>?_
 exact Cj
instance aX9:Wk 62:=⟨_,@uZ⟩
theorem Sx {d n r} (G:Cg d n=some r):Fn Tryz.prog 31 1 [.ptr 0 0,vj n] [.box [.sl 1 (Ai eI d.L),vj d.At] 91] (fun d' b'=>d'=vj r.1/\b'=[.box [.sl 1 (Ai eI r.2.L),vj r.2.At] 91]):=by
 unfold Cg at G
 refine Ea 1 35 Tryz.func31 fun _ _ _=>?_
 refine Br 1 fun B G=>?_
 refine Ay <| Ay <| Bg (D9 _ _ []) (by kernel_rfl) [0,1,3,7,0,16,48,112,240,511] 9 89 B rfl rfl (by kernel_rfl) ?_
 refine Jf (.l 0 (.e 2)) fun _ B G=>?_
 refine Ay <| Bg (D9 _ _ []) (by kernel_rfl) [0,1,3,7,0,16,48,112,240,511,1023,0,4095,8191] 153 265 B rfl rfl (by kernel_rfl) ?_
 exact Cj
instance aYt:Wk 31:=⟨_,@Sx⟩
theorem Mg {d l r} (G:Bs d l=some r):Fn Tryz.prog 12 1 [.ptr 0 0,.sl 1 (Ai eI l)] [.box [.sl 1 (Ai eI d.L),vj d.At] 91] (fun d' b'=>d'=vj r.1/\b'=[.box [.sl 1 (Ai eI r.2.L),vj r.2.At] 91]):=by
 unfold Bs at G
 refine Ea 1 12 Tryz.func12 fun _ _ _=>?_
 exact Cj
instance aZ0:Wk 12:=⟨_,@Mg⟩
theorem Va {l n r} (G:Dv l n=some r):Fn Tryz.prog 17 0 [.sl 1 (Ai eI l),vj n] [] (fun d' b'=>d'=.val (.bool r)/\b'=[]):=by
 unfold Dv at G
 refine Ea 0 18 Tryz.func17 fun _ _ _=>?_
 refine Br 4 fun B G=>?_
 refine He (fun (i_1:Int)=>mk [(0,.sl 1 (Ai eI l)),(1,vj n),(5,vj i_1)] [] 0) G (Cd []) ?_
 rintro i_1 m1 o1 G hn1
 unfold Dv.l1 at G
 exact Gn
instance aXv:Wk 17:=⟨_,@Va⟩
theorem cE {d n r} (G:E7 d n=some r):Fn Tryz.prog 55 1 [.ptr 0 0,vj n] [.box [.sl 1 (Ai eI d.L),vj d.At] 91] (fun d' b'=>d'=.val (.bool r.1)/\b'=[.box [.sl 1 (Ai eI r.2.L),vj r.2.At] 91]):=by
 unfold E7 at G
 refine Ea 1 11 Tryz.func55 fun _ _ _=>?_
 exact Cj
instance aZ7:Wk 55:=⟨_,@cE⟩
theorem Es {alg bits r} (G:Ei alg bits=some r):Fn Tryz.prog 95 0 [vj alg,vj bits] [] (fun d' b'=>d'=.agg [vj r.Alg,vj r.Bits]/\b'=[]):=by
 unfold Ei at G
 refine Ea 0 8 Tryz.func95 fun _ _ _=>?_
 refine Br 2 fun B G=>?_
 refine M6 P5 Yb rV ?_
 exact Cj
instance aXu:Wk 95:=⟨_,@Es⟩
theorem Ff {code name exchange sign cipher mac least most r} (G:E3 code name exchange sign cipher mac least most=some r):Fn Tryz.prog 96 0 [vj code,vk name,.agg [vj exchange.Alg,vj exchange.Bits],.agg [vj sign.Alg,vj sign.Bits],.agg [vj cipher.Alg,vj cipher.Bits],.agg [vj mac.Alg,vj mac.Bits],vj least,vj most] [] (fun d' b'=>d'=.agg (Az.dv r)/\b'=[]):=by
 unfold E3 at G
 refine Ea 0 26 Tryz.func96 fun _ _ _=>?_
 refine Br 2 fun B G=>?_
 refine M6 K6 Tn jB ?_
 exact Cj
instance aZj:Wk 96:=⟨_,@Ff⟩
theorem iR {r} (G:Kw=some r):Fn Tryz.prog 49 0 [] [] (fun d' b'=>d'=.sl 12 (Ai Az.enc r)/\b'=[]):=by
 unfold Kw at G
 refine Ea 0 110 Tryz.func49 fun _ _ _=>?_
 refine eE 0 8 Ij fun B=>?_
 refine jF 8 80 B ?_
 obtain⟨y,hy,G⟩:=An G
 refine L9 (Es hy) ?_
 obtain⟨y_2,hy_2,G⟩:=An G
 refine L9 (Es hy_2) ?_
 refine M6 P5 Yb rV ?_
 refine Ut fun B=>?_
 refine jF 80 128 B ?_
 obtain⟨y_3,hy_3,G⟩:=An G
 refine L9 (Es hy_3) ?_
 obtain⟨y_4,hy_4,G⟩:=An G
 refine L9 (Es hy_4) ?_
 refine Ut fun B=>?_
 refine jF 128 200 B ?_
 obtain⟨y_5,hy_5,G⟩:=An G
 refine L9 (Es hy_5) ?_
 obtain⟨y_6,hy_6,G⟩:=An G
 refine L9 (Es hy_6) ?_
 obtain⟨y_7,hy_7,G⟩:=An G
 refine L9 (Es hy_7) ?_
 refine Ut fun B=>?_
 refine jF 200 296 B ?_
 obtain⟨y_8,hy_8,G⟩:=An G
 refine L9 (Es hy_8) ?_
 obtain⟨y_9,hy_9,G⟩:=An G
 refine L9 (Es hy_9) ?_
 obtain⟨y_10,hy_10,G⟩:=An G
 refine L9 (Es hy_10) ?_
 obtain⟨y_11,hy_11,G⟩:=An G
 refine L9 (Es hy_11) ?_
 refine Ut fun B=>?_
 refine jF 296 344 B ?_
 obtain⟨y_12,hy_12,G⟩:=An G
 refine L9 (Es hy_12) ?_
 obtain⟨y_13,hy_13,G⟩:=An G
 refine L9 (Es hy_13) ?_
 refine Ut fun B=>?_
 refine Ay <| Bg (D9 _ _ []) (by kernel_rfl) [0,0,0,0,15,0,0,0,0,511,0,0,0,0,16383,32767,65535,0,0,524287,1048575,0,0,0,16777215,0,0,0,0,536870911,1073741823,0,0,0,17179869183,0,0,0,0,549755813887,0,1099511627775,3298534883327,0,17592186044415,0,0,0,0,562949953421311,1125899906842623,2251799813685247,0,0,18014398509481983,0,0,0,0,576460752303423487,0,0,0,0,18446744073709551615,0,0,0,0,590295810358705651711,0,0,0,0,18889465931478580854783,37778931862957161709567,0,0,0,604462909807314587353087,1208925819614629174706175,2417851639229258349412351] 344 1000 B rfl rfl (by kernel_rfl) ?_
 refine P9 ?_
 obtain⟨y_14,hy_14,G⟩:=An G
 refine L9 (Ff hy_14) ?_
 refine P9 ?_
 obtain⟨y_15,hy_15,G⟩:=An G
 refine L9 (Ff hy_15) ?_
 refine P9 ?_
 obtain⟨y_16,hy_16,G⟩:=An G
 refine L9 (Ff hy_16) ?_
 obtain⟨y_17,hy_17,G⟩:=An G
 refine L9 (Es hy_17) ?_
 obtain⟨y_18,hy_18,G⟩:=An G
 refine L9 (Es hy_18) ?_
 refine P9 ?_
 obtain⟨y_19,hy_19,G⟩:=An G
 refine L9 (Ff hy_19) ?_
 obtain⟨y_20,hy_20,G⟩:=An G
 refine L9 (Es hy_20) ?_
 refine P9 ?_
 obtain⟨y_21,hy_21,G⟩:=An G
 refine L9 (Ff hy_21) ?_
 refine P9 ?_
 obtain⟨y_22,hy_22,G⟩:=An G
 refine L9 (Ff hy_22) ?_
 obtain⟨y_23,hy_23,G⟩:=An G
 refine L9 (Es hy_23) ?_
 refine P9 ?_
 obtain⟨y_24,hy_24,G⟩:=An G
 refine L9 (Ff hy_24) ?_
 refine P9 ?_
 obtain⟨y_25,hy_25,G⟩:=An G
 refine L9 (Ff hy_25) ?_
 refine P9 ?_
 obtain⟨y_26,hy_26,G⟩:=An G
 refine L9 (Es hy_26) ?_
 obtain⟨y_27,hy_27,G⟩:=An G
 refine L9 (Es hy_27) ?_
 refine P9 ?_
 obtain⟨y_28,hy_28,G⟩:=An G
 refine L9 (Ff hy_28) ?_
 refine P9 ?_
 obtain⟨y_29,hy_29,G⟩:=An G
 refine L9 (Ff hy_29) ?_
 obtain⟨y_30,hy_30,G⟩:=An G
 refine L9 (Es hy_30) ?_
 obtain⟨y_31,hy_31,G⟩:=An G
 refine L9 (Es hy_31) ?_
 refine P9 ?_
 obtain⟨y_32,hy_32,G⟩:=An G
 refine L9 (Ff hy_32) ?_
 refine P9 ?_
 obtain⟨y_33,hy_33,G⟩:=An G
 refine L9 (Ff hy_33) ?_
 refine P9 ?_
 obtain⟨y_34,hy_34,G⟩:=An G
 refine L9 (Ff hy_34) ?_
 refine P9 ?_
 obtain⟨y_35,hy_35,G⟩:=An G
 refine L9 (Ff hy_35) ?_
 refine P9 ?_
 obtain⟨y_36,hy_36,G⟩:=An G
 refine L9 (Ff hy_36) ?_
 obtain⟨y_37,hy_37,G⟩:=An G
 refine L9 (Es hy_37) ?_
 refine P9 ?_
 obtain⟨y_38,hy_38,G⟩:=An G
 refine L9 (Ff hy_38) ?_
 refine Iz aD3 jB aP0 ([y_14,y_15,y_16,y_19,y_21,y_22,y_24,y_25,y_28,y_29,y_32,y_33,y_34,y_35,y_36,y_38]:List Az) Az.enc ?_
 exact t5_
instance aYn:Wk 49:=⟨_,@iR⟩
theorem jD {code r} (G:Dn code=some r):Fn Tryz.prog 16 0 [vj code] [] (fun d' b'=>d'=.tup [.agg (Az.dv r.1),vj r.2]/\b'=[]):=by
 unfold Dn at G
 refine Ea 0 16 Tryz.func16 fun _ _ _=>?_
 refine Br 1 fun B G=>?_
 refine Ay <| A4 (ι:=Bool) (fun (x9_1:Bool)=>mk [(0,vj code),(2,.ptr 0 0),(9,.val (.bool x9_1))] [(0,.box [.val (.int .i64 0),.val (.string (⟨#[]⟩:ByteArray)),.val (.int .i64 0),.val (.int .i64 0),.val (.int .i64 0),.val (.int .i64 0),.val (.int .i64 0),.val (.int .i64 0),.val (.int .i64 0),.val (.int .i64 0),.val (.int .i64 0),.val (.int .i64 0)] 47)] 1) (fun (x9_1:Bool)=>Dn.j1 code x9_1=some r) ?_ ?_
 exact Cj
 rintro x9_1 G
 unfold Dn.j1 at G
 refine Dx (.r 0 (.e 1)) fun _ B G=>?_
 refine M6 K6 Tn jB ?_
 exact Cj
instance aYb:Wk 16:=⟨_,@jD⟩
theorem cH {b r} (G:E6 b=some r):Fn Tryz.prog 50 0 [vj b] [] (fun d' b'=>d'=vj r/\b'=[]):=by
 unfold E6 at G
 refine Ea 0 25 Tryz.func50 fun _ _ _=>?_
 refine Br 3 fun B G=>?_
 refine A4 (ι:=Bool) (fun (x3_1:Bool)=>mk [(0,vj b),(3,.val (.bool x3_1))] [] 0) (fun (x3_1:Bool)=>E6.j1 b x3_1=some r) ?_ ?_
 exact Cj
 rintro x3_1 G
 unfold E6.j1 at G
 exact Gn
instance aYq:Wk 50:=⟨_,@cH⟩
theorem Kc {b sizes strengths r} (G:Ck b sizes strengths=some r):Fn Tryz.prog 51 0 [vj b,.sl 1 (Ai eI sizes),.sl 1 (Ai eI strengths)] [] (fun d' b'=>d'=vj r/\b'=[]):=by
 unfold Ck at G
 refine Ea 0 24 Tryz.func51 fun _ _ _=>?_
 refine Br 4 fun B G=>?_
 refine He (fun (i_1:Int)=>mk [(0,vj b),(1,.sl 1 (Ai eI sizes)),(2,.sl 1 (Ai eI strengths)),(7,vj i_1)] [] 0) G (Cd []) ?_
 rintro i_1 m1 o1 G hn1
 unfold Ck.l1 at G
 exact Gn
instance aYx:Wk 51:=⟨_,@Kc⟩
theorem iE {alg r} (G:Ev alg=some r):Fn Tryz.prog 52 0 [vj alg] [] (fun d' b'=>d'=vj r/\b'=[]):=by
 unfold Ev at G
 refine Ea 0 21 Tryz.func52 fun _ _ _=>?_
 refine Jf (.l 5 (.l 1 (.e 0))) fun _ _ B G=>?_
 refine A4 (ι:=Bool) (fun (x8_1:Bool)=>mk [(3,vj alg),(8,.val (.bool x8_1))] [] 0) (fun (x8_1:Bool)=>Ev.j1 alg x8_1=some r) ?_ ?_
 exact Cj
 rintro x8_1 G
 unfold Ev.j1 at G
 refine Dx (.l 0 (.l 1 (.e 0))) fun _ _ B G=>?_
 refine A4 (ι:=Bool) (fun (x14_2:Bool)=>mk [(3,vj alg),(14,.val (.bool x14_2))] [] 0) (fun (x14_2:Bool)=>Ev.j2 alg x14_2=some r) ?_ ?_
 exact Cj
 rintro x14_2 G
 unfold Ev.j2 at G
 exact Gn
instance aZz:Wk 52:=⟨_,@iE⟩
theorem bB {u r} (G:A1 u=some r):Fn Tryz.prog 18 0 [.agg [vj u.Alg,vj u.Bits]] [] (fun d' b'=>d'=vj r/\b'=[]):=by
 unfold A1 at G
 refine Ea 0 76 Tryz.func18 fun _ _ _=>?_
 refine Br 5 fun B G=>?_
 refine A4 (ι:=Bool) (fun (x8_1:Bool)=>mk [(1,.ptr 0 0),(3,vj u.Bits),(7,vj u.Alg),(8,.val (.bool x8_1))] [(0,.box [vj u.Alg,vj u.Bits] 45)] 1) (fun (x8_1:Bool)=>A1.j1 u x8_1=some r) ?_ ?_
 exact Cj
 rintro x8_1 G
 unfold A1.j1 at G
 refine Dx (.l 0 (.e 0)) fun _ B G=>?_
 refine A4 (ι:=Bool) (fun (x15_2:Bool)=>mk [(1,.ptr 0 0),(3,vj u.Bits),(7,vj u.Alg),(15,.val (.bool x15_2))] [(0,.box [vj u.Alg,vj u.Bits] 45)] 1) (fun (x15_2:Bool)=>A1.j2 u x15_2=some r) ?_ ?_
 exact Cj
 rintro x15_2 G
 unfold A1.j2 at G
 try dsimp only at G
 refine Rp rfl ?_
 refine Kd rfl G (fun _ G=>?_) fun _ G=>?_
 refine Ay <| A4 (ι:=Bool) (fun (x35_3:Bool)=>mk [(3,vj u.Bits),(35,.val (.bool x35_3))] [] 0) (fun (x35_3:Bool)=>A1.j3 u x35_3=some r) ?_ ?_
 exact Cj
 rintro x35_3 G
 unfold A1.j3 at G
 exact Gn
 refine Br 1 fun B G=>?_
 refine Kd rfl G (fun _ G=>?_) fun _ G=>?_
 refine Br 1 fun B G=>?_
 refine Iz Er z3 Ia ([44,65,87]:List Int) eI ?_
 refine Iz Er z3 Ia ([128,192,256]:List Int) eI ?_
 obtain⟨y_2,hy_2,G⟩:=An G
 refine R9 [25,33] [] [] true (Kc hy_2) ?_
 exact Cj
 refine Br 1 fun B G=>?_
 refine Kd rfl G (fun _ G=>?_) fun _ G=>?_
 refine Br 1 fun B G=>?_
 refine Iz Er z3 Ia ([512,768,1024]:List Int) eI ?_
 refine Iz Er z3 Ia ([128,192,256]:List Int) eI ?_
 obtain⟨y_3,hy_3,G⟩:=An G
 refine R9 [41,49] [] [] true (Kc hy_3) ?_
 exact Cj
 refine Br 1 fun B G=>?_
 refine Kd rfl G (fun _ G=>?_) fun _ G=>?_
 refine Br 1 fun B G=>?_
 refine Iz Er z3 Ia ([40,128]:List Int) eI ?_
 refine Iz Er z3 Ia ([40,60]:List Int) eI ?_
 obtain⟨y_4,hy_4,G⟩:=An G
 refine R9 [57,65] [] [] true (Kc hy_4) ?_
 exact Cj
 refine Br 1 fun B G=>?_
 refine Kd rfl G (fun _ G=>?_) fun _ G=>?_
 refine Br 1 fun B G=>?_
 refine Iz Er z3 Ia ([112,168]:List Int) eI ?_
 refine Iz Er z3 Ia ([80,112]:List Int) eI ?_
 obtain⟨y_5,hy_5,G⟩:=An G
 refine R9 [73,81] [] [] true (Kc hy_5) ?_
 exact Cj
 refine A4 (ι:=Bool) (fun (x62_4:Bool)=>mk [(1,.ptr 0 0),(3,vj u.Bits),(62,.val (.bool x62_4))] [(0,.box [vj u.Alg,vj u.Bits] 45)] 1) (fun (x62_4:Bool)=>A1.j4 u x62_4=some r) ?_ ?_
 exact Cj
 rintro x62_4 G
 unfold A1.j4 at G
 try dsimp only at G
 refine Rp rfl ?_
 refine Kd rfl G (fun _ G=>?_) fun _ G=>?_
 refine Br 1 fun B G=>?_
 refine Iz Er z3 Ia ([128,256]:List Int) eI ?_
 refine Iz Er z3 Ia ([128,256]:List Int) eI ?_
 obtain⟨y_6,hy_6,G⟩:=An G
 refine R9 [9,17] [] [] true (Kc hy_6) ?_
 exact Cj
 refine Br 2 fun B G=>?_
 refine Iz Er z3 Ia ([0]:List Int) eI ?_
 refine Br 1 fun y_7 _ B G=>?_
 refine Iz Er z3 Ia ([y_7]:List Int) eI ?_
 obtain⟨y_8,hy_8,G⟩:=An G
 refine R9 [9,41] [] [] true (Kc hy_8) ?_
 exact Cj
instance aYg:Wk 18:=⟨_,@bB⟩
theorem aB {code r} (G:Iw code=some r):Fn Tryz.prog 162 0 [vj code] [] (fun d' b'=>d'=vj r/\b'=[]):=by
 unfold Iw at G
 refine Ea 0 15 Tryz.func162 fun _ _ _=>?_
 exact Cj
instance aVr:Wk 162:=⟨_,@aB⟩
theorem Ta {l r} (G:Ee l=some r):Fn Tryz.prog 109 0 [.sl 1 (Ai eI l)] [] (fun d' b'=>d'=.row 0/\b'=[.row 3 1 (Ai eI r)]):=by
 unfold Ee at G
 refine Ea 0 48 Tryz.func109 fun _ _ _=>?_
 refine Br 5 fun B G=>?_
 refine He (fun ((i_1,out_1):Int×List Int)=>mk [(0,.sl 1 (Ai eI l)),(3,.row 0),(4,vj i_1)] [(0,.row 3 1 (Ai eI out_1))] 1) G (Cd []) ?_
 rintro⟨i_1,out_1⟩ m1 o1 G hn1
 unfold Ee.l1 at G
 refine Dx (.r 2 (.e 6)) fun _ B G=>?_
 refine He (fun (k_2:Int)=>mk [(0,.sl 1 (Ai eI l)),(3,.row 0),(4,vj i_1),(5,vj k_2)] [(0,.row 3 1 (Ai eI out_1))] 1) G (Cd [(0,0)]) ?_
 rintro k_2 m2 o2 G hn2
 unfold Ee.l2 at G
 try dsimp only at G
 refine Rp rfl ?_
 refine Ay <| A4 (ι:=Bool) (fun (x29_3:Bool)=>mk [(0,.sl 1 (Ai eI l)),(3,.row 0),(4,vj i_1),(5,vj k_2),(29,.val (.bool x29_3))] [(0,.row 3 1 (Ai eI out_1))] 1) (fun (x29_3:Bool)=>Ee.j3 l i_1 out_1 k_2 x29_3=some o2) ?_ ?_
 refine Bg (D9 _ _ []) (by kernel_rfl) [0,1,3,7,7,23,63,127,255,7,7,1543,3591,8191,16383,32767] 1 129 Ij rfl rfl (by kernel_rfl) ?_
 exact Cj
 rintro x29_3 G
 unfold Ee.j3 at G
 refine Dx (.l 0 (.e 1)) fun _ B G=>?_
 refine Bg (D9 _ _ []) (by kernel_rfl) [0,0,0,6,15,0,0,96,224,480,1023,0,0,6144,16383,32767] 1 129 Ij rfl rfl (by kernel_rfl) ?_
 refine F0 rfl rfl (D0 Er z3 (by decide) rfl rfl rfl rfl Ia (cs:=[]) .nil rfl (l:=([]:List Int)) (f:=eI) rfl) rfl rfl ?_
 refine Br 1 fun _ hl_2 B G=>?_
 obtain⟨l_3,hl_3,G⟩:=An G
 refine Sk (rd:=[1,0]) rfl rfl (Lw Er Mu .row rfl (.part (wT Mu (oX hl_2))) (rK Mu _ _ _ (oX hl_2)) hl_3 rfl) rfl rfl ?_
 refine Br 2 fun e_3 _ B G=>?_
 refine Iz Er z3 Ia ([e_3]:List Int) eI ?_
 refine Br 2 fun _ _ _ hl_5 B G=>?_
 obtain⟨l_6,hl_6,G⟩:=An G
 refine Sk (rd:=[81,0]) rfl rfl (Lw Er Mu .row rfl (.part (wT Mu (oX hl_5))) (rK Mu _ _ _ (oX hl_5)) hl_6 rfl) rfl rfl ?_
 exact Cj
instance aUd:Wk 109:=⟨_,@Ta⟩
end Go.Proofs.YtobamahlipiakaaGreat
