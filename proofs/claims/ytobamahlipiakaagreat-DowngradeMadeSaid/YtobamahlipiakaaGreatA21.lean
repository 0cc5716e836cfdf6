import Derived.Test.YtobamahlipiakaaGreatT1
import Derived.Test.YtobamahlipiakaaGreatEU
import Derived.Test.YtobamahlipiakaaGreatA9
import Derived.Test.YtobamahlipiakaaGreatA10
import Derived.Test.YtobamahlipiakaaGreatA11
set_option linter.unusedVariables false
set_option linter.unusedSimpArgs false
set_option maxRecDepth 100000
set_option maxHeartbeats 40000000
namespace Go.Proofs.YtobamahlipiakaaGreat
open Go.RowKit
theorem kE {x' r} (G:Ce x'=some r):Fn Tryz.prog 151 0 [.agg (Ah.dv x')] [] (fun d' b'=>d'=vj r/\b'=[]):=by
 unfold Ce at G
 refine Ea 0 98 Tryz.func151 fun _ _ _=>?_
 refine Br 1 fun B G=>?_
 refine Ay <| A4 (ι:=Bool) (fun (x51_1:Bool)=>mk [(1,.ptr 0 0),(51,.val (.bool x51_1))] [(0,.box (Ah.dv x') 78)] 1) (fun (x51_1:Bool)=>Ce.j1 x' x51_1=some r) ?_ ?_
 exact Cj
 rintro x51_1 G
 unfold Ce.j1 at G
 refine Dx (.l 0 (.e 4)) fun _ B G=>?_
 refine He (fun (i_2:Int)=>mk [(1,.ptr 0 0),(3,vj i_2)] [(0,.box (Ah.dv x') 78)] 1) G (Cd [(0,0)]) ?_
 rintro i_2 m2 o2 G hn2
 unfold Ce.l2 at G
 refine Dx (.r 2 (.e 6)) fun _ e _ B G=>?_
 refine A4 (ι:=Bool) (fun (x97_3:Bool)=>mk [(1,.ptr 0 0),(3,vj i_2),(97,.val (.bool x97_3))] [(0,.box (Ah.dv x') 78)] 1) (fun (x97_3:Bool)=>Ce.j3 i_2 x97_3=some o2) ?_ ?_
 refine Bg (D9 _ _ []) (by kernel_rfl) [0,1,3,7,15,31,63,127,255,511,1023,2047,4095,8191,16383,32767,65535,131071,262143,524287,1048575,2097151,4194303,8388607,4194303,20971519,67108863,134217727,268435455,4194303,541065215,2147483647,4294967295,8589934591] 97 369 B rfl rfl (by kernel_rfl) ?_
 exact Cj
 rintro x97_3 G
 unfold Ce.j3 at G
 exact Gn
instance aWn:Wk 151:=⟨_,@kE⟩
theorem jT {x' r} (G:Lz x'=some r):Fn Tryz.prog 103 0 [.agg (Ah.dv x')] [] (fun d' b'=>d'=.tup [.sl 1 (Ai e8 r.1),vj r.2]/\b'=[]):=by
 unfold Lz at G
 refine Ea 0 39 Tryz.func103 fun _ _ _=>?_
 refine Jf (.l 5 (.e 1)) fun _ _ _ B G=>?_
 refine Ay <| Bg (D9 _ _ []) (by kernel_rfl) [0,1,3,7,0,16,48,127,0,256,1023,0,2048,8191,0,16384,49152,131071,0,262144,786432,2097151,4194303,8388607] 64 256 B rfl rfl (by kernel_rfl) ?_
 refine Br 6 fun y_2 _ y_3 _ y_4 _ y_5 _ y_6 _ y_7 _ B G=>?_
 refine F0 rfl rfl (D0 U5 Sd (by decide) rfl rfl rfl rfl Xb (cs:=[.int .i64 y_2.Tag,.sl 1 (Ai e8 y_2.Bytes),.bool y_2.Nested,.sl 4 (Ai Ab.enc y_2.Elements),.int .i64 y_3.Tag,.sl 1 (Ai e8 y_3.Bytes),.bool y_3.Nested,.sl 4 (Ai Ab.enc y_3.Elements),.int .i64 y_4.Tag,.sl 1 (Ai e8 y_4.Bytes),.bool y_4.Nested,.sl 4 (Ai Ab.enc y_4.Elements),.int .i64 y_5.Tag,.sl 1 (Ai e8 y_5.Bytes),.bool y_5.Nested,.sl 4 (Ai Ab.enc y_5.Elements),.int .i64 y_6.Tag,.sl 1 (Ai e8 y_6.Bytes),.bool y_6.Nested,.sl 4 (Ai Ab.enc y_6.Elements),.int .i64 y_7.Tag,.sl 1 (Ai e8 y_7.Bytes),.bool y_7.Nested,.sl 4 (Ai Ab.enc y_7.Elements)]) (.cons .int (.cons .sl (.cons .bool (.cons .sl (.cons .int (.cons .sl (.cons .bool (.cons .sl (.cons .int (.cons .sl (.cons .bool (.cons .sl (.cons .int (.cons .sl (.cons .bool (.cons .sl (.cons .int (.cons .sl (.cons .bool (.cons .sl (.cons .int (.cons .sl (.cons .bool (.cons .sl .nil)))))))))))))))))))))))) rfl (l:=([y_2,y_3,y_4,y_5,y_6,y_7]:List Ab)) (f:=Ab.enc) (by simp only [Ai,aOo,aVf,Ab.enc_eq]; rfl)) rfl rfl ?_
 refine Br 0 fun B G=>?_
 refine Ay <| Hg (σ':=mk [(5,.sl 4 (Ai Ab.enc ([y_2,y_3,y_4,y_5,y_6,y_7]:List Ab)))] [] 0) (Cd []) ?_
 exact Cj
instance aWg:Wk 103:=⟨_,@jT⟩
theorem Yh {x' key r} (G:B4 x' key=some r):Fn Tryz.prog 58 0 [.agg (Ah.dv x'),vj key] [] (fun d' b'=>d'=.tup [.agg [vj r.1.Use.Alg,vj r.1.Use.Bits,vj r.1.Purpose,vk r.1.Endpoint,vj r.1.Days.From,vj r.1.Days.To,.row 0],vj r.2]/\b'=[.row 119 2 (Ai Be.enc r.1.Seals)]):=by
 unfold B4 at G
 refine Ea 0 84 Tryz.func58 fun _ _ _=>?_
 refine Br 5 fun y _ B G=>?_
 refine Kd rfl G (fun _ G=>?_) fun _ G=>?_
 refine Br 1 fun B G=>?_
 refine M6 Ya aF8 z78 ?_
 exact Cj
 refine Br 1 fun B G=>?_
 refine Ay <| A4 (ι:=Bool) (fun (x26_1:Bool)=>mk [(1,vj key),(2,.ptr 0 0),(4,.ptr 1 0),(6,.sl 1 (Ai e8 y.1)),(26,.val (.bool x26_1))] [(0,.box (Ah.dv x') 78),(1,.box [.val (.int .i64 0),.val (.int .i64 0),.val (.int .i64 0),.val (.string (⟨#[]⟩:ByteArray)),.val (.int .i64 0),.val (.int .i64 0),.val (.slice none 0 0)] 78)] 2) (fun (x26_1:Bool)=>B4.j1 x' key y x26_1=some r) ?_ ?_
 exact Cj
 rintro x26_1 G
 unfold B4.j1 at G
 try dsimp only at G
 refine Rp rfl ?_
 refine Kd rfl G (fun _ G=>?_) fun _ G=>?_
 refine Br 1 fun B G=>?_
 refine M6 Ya aF8 z78 ?_
 exact Cj
 refine Br 3 fun y_2 _ B G=>?_
 refine M6 aE xJ tZ ?_
 refine Br 3 fun B G=>?_
 refine He (fun (k_2:Int)=>mk [(1,vj key),(2,.ptr 0 0),(4,.ptr 1 0),(8,.ptr 2 0),(9,vj k_2)] [(0,.box (Ah.dv x') 78),(1,.box [.val (.int .i64 0),.val (.int .i64 0),.val (.int .i64 0),.val (.string (⟨#[]⟩:ByteArray)),.val (.int .i64 0),.val (.int .i64 0),.val (.slice none 0 0)] 78),(2,.box [vj key,vj y_2] 119)] 3) G (Cd [(0,0),(1,1),(2,34)]) ?_
 rintro k_2 m2 o2 G hn2
 unfold B4.l2 at G
 try dsimp only at G
 refine Rp rfl ?_
 refine Ay <| A4 (ι:=Bool) (fun (x46_3:Bool)=>mk [(1,vj key),(2,.ptr 0 0),(4,.ptr 1 0),(8,.ptr 2 0),(9,vj k_2),(46,.val (.bool x46_3))] [(0,.box (Ah.dv x') 78),(1,.box [.val (.int .i64 0),.val (.int .i64 0),.val (.int .i64 0),.val (.string (⟨#[]⟩:ByteArray)),.val (.int .i64 0),.val (.int .i64 0),.val (.slice none 0 0)] 78),(2,.box [vj key,vj y_2] 119)] 3) (fun (x46_3:Bool)=>B4.j3 x' key y_2 k_2 x46_3=some o2) ?_ ?_
 exact Cj
 rintro x46_3 G
 unfold B4.j3 at G
 refine Dx (.l 0 (.e 3)) fun _ l _ B G=>?_
 refine A4 (ι:=List Be) (fun (rest_5:List Be)=>mk [(2,.ptr 0 0),(4,.ptr 1 0),(8,.ptr 2 0),(9,vj k_2),(10,.sl 2 (Ai Be.enc rest_5))] [(0,.box (Ah.dv x') 78),(1,.box [.val (.int .i64 0),.val (.int .i64 0),.val (.int .i64 0),.val (.string (⟨#[]⟩:ByteArray)),.val (.int .i64 0),.val (.int .i64 0),.val (.slice none 0 0)] 78),(2,.box [vj key,vj y_2] 119)] 3) (fun (rest_5:List Be)=>B4.j5 x' key y_2 k_2 rest_5=some r) ?_ ?_
 refine A4 (ι:=Bool) (fun (x63_4:Bool)=>mk [(2,.ptr 0 0),(4,.ptr 1 0),(8,.ptr 2 0),(9,vj k_2),(10,.sl 2 (Ai Be.enc l)),(63,.val (.bool x63_4))] [(0,.box (Ah.dv x') 78),(1,.box [.val (.int .i64 0),.val (.int .i64 0),.val (.int .i64 0),.val (.string (⟨#[]⟩:ByteArray)),.val (.int .i64 0),.val (.int .i64 0),.val (.slice none 0 0)] 78),(2,.box [vj key,vj y_2] 119)] 3) (fun (x63_4:Bool)=>B4.j4 x' key y_2 k_2 l x63_4=some r) ?_ ?_
 exact Cj
 rintro x63_4 G
 unfold B4.j4 at G
 exact Gn
 rintro rest_5 G
 unfold B4.j5 at G
 try dsimp only at G
 refine Rp rfl ?_
 refine Ay <| Bg (D9 _ _ []) (by kernel_rfl) [0,0,2,0,14,31,0,64,255,0,1023,2047] 3 99 Ij rfl rfl (by kernel_rfl) ?_
 refine F0 rfl rfl (D0 aKv tZ (by decide) rfl rfl rfl rfl aJ3 (cs:=[]) .nil rfl (l:=([]:List Be)) (f:=Be.enc) rfl) rfl rfl ?_
 refine Br 2 fun _ _ _ _ B G=>?_
 refine Iz aKv tZ aJ3 ([(Be.mk key y_2)]:List Be) Be.enc ?_
 refine Jf (.r 4 (.e 1)) fun _ _ _ _ _ B G=>?_
 refine M6 Ya aF8 z78 ?_
 exact Cj
instance bAd:Wk 58:=⟨_,@Yh⟩
theorem aI {d u endpoint r} (G:Cp d u endpoint=some r):Fn Tryz.prog 27 1 [.ptr 0 0,.agg [vj u.Alg,vj u.Bits],vk endpoint] [.box [.sl 1 (Ai eI d.L),vj d.At] 91] (fun d' b'=>d'=.agg (Ah.dv r.1)/\b'=[.box [.sl 1 (Ai eI r.2.L),vj r.2.At] 91]):=by
 unfold Cp at G
 refine Ea 1 55 Tryz.func27 fun _ _ _=>?_
 refine Br 1 fun B G=>?_
 refine Ay <| Bg (D9 _ _ [33]) (by kernel_rfl) [0,0,0,6,0,31,0,127] 17 81 B rfl rfl (by kernel_rfl) ?_
 refine Br 0 fun B G=>?_
 refine Rk Er z3 Ia ([1,1,1,2,3]:List Int) eI ?_
 refine Br 1 fun _ _ B G=>?_
 refine M6 Ya aF8 z78 ?_
 refine Br 0 fun B G=>?_
 refine Ay <| Ci (D9 _ _ [89]) 81 129 B rfl rfl ?_
 refine Br 0 fun B G=>?_
 refine Rk Er z3 Ia ([0,10,30]:List Int) eI ?_
 refine Br 1 fun _ _ B G=>?_
 refine Ay <| Bg (D9 _ _ [161]) (by kernel_rfl) [0,1,3,0,0,24,63,127,255,511] 129 209 B rfl rfl (by kernel_rfl) ?_
 refine Br 0 fun B G=>?_
 refine Rk Er z3 Ia ([40,5,200]:List Int) eI ?_
 refine Br 5 fun _ _ y_4 _ B G=>?_
 refine He (fun ((i_1,x_1,x_1_2,x_1_3,x_1_4,x_1_5,x_1_6,l_1):Int×Int×Int×Int×ByteArray×Int×Int×List Be)=>mk [(0,.ptr 0 0),(6,.ptr 1 0),(7,.ptr 2 0),(8,vj i_1)] [(0,.box [.sl 1 (Ai eI y_4.2.L),vj y_4.2.At] 91),(1,.box [.val (.int .i64 0),.val (.int .i64 0),.val (.int .i64 0),.val (.string (⟨#[]⟩:ByteArray)),.val (.int .i64 0),.val (.int .i64 0),.val (.slice none 0 0)] 78),(2,.box [vj x_1,vj x_1_2,vj x_1_3,vk x_1_4,vj x_1_5,vj x_1_6,.row 3] 78),(3,.row 119 2 (Ai Be.enc l_1))] 4) G (Cd [(0,0),(1,9),(2,65)]) ?_
 rintro⟨i_1,x_1,x_1_2,x_1_3,x_1_4,x_1_5,x_1_6,l_1⟩ m1 o1 G hn1
 unfold Cp.l1 at G
 refine Lg 2 fun B G=>?_
 refine Kd rfl G (fun _ G=>?_) fun _ G=>?_
 refine Br 3 fun B G=>?_
 refine Hg (σ':=mk [(0,.ptr 0 0),(6,.ptr 1 0),(7,.ptr 2 0),(8,vj i_1)] [(0,.box [.sl 1 (Ai eI y_4.2.L),vj y_4.2.At] 91),(1,.box [.val (.int .i64 0),.val (.int .i64 0),.val (.int .i64 0),.val (.string (⟨#[]⟩:ByteArray)),.val (.int .i64 0),.val (.int .i64 0),.val (.slice none 0 0)] 78),(2,.box [vj x_1,vj x_1_2,vj x_1_3,vk x_1_4,vj x_1_5,vj x_1_6,.sl 2 (Ai Be.enc l_1)] 78)] 3) (Cd [(0,0),(1,1),(2,2)]) ?_
 refine Br 1 fun B G=>?_
 obtain⟨y_5,hy_5,G⟩:=An G
 refine Jw (rd:=[]) (ps:=[]) (gs:=[]) false rfl (Yh hy_5) rfl rfl (.cons (.agg (.cons .val (.cons .val (.cons .val (.cons .val (.cons .val (.cons .val (.cons .sl .nil)))))))) (.cons .val .nil)) rfl rfl (by intro h; cases h) rfl (by intro h; first | (cases h; done) | exact⟨_,_,⟨rfl,rfl⟩,by simp,by simp⟩) ?_
 rintro _ _ ⟨rfl,rfl⟩
 exact Cj
 refine Br 1 fun B G=>?_
 refine A4 (ι:=List Int×Int×List Be) (fun ((b_4,b_4_2,l_4):List Int×Int×List Be)=>mk [(6,.ptr 1 0),(7,.ptr 2 0)] [(0,.box [.sl 1 (Ai eI b_4),vj b_4_2] 91),(1,.box [.val (.int .i64 0),.val (.int .i64 0),.val (.int .i64 0),.val (.string (⟨#[]⟩:ByteArray)),.val (.int .i64 0),.val (.int .i64 0),.val (.slice none 0 0)] 78),(2,.box [vj x_1,vj x_1_2,vj x_1_3,vk x_1_4,vj x_1_5,vj x_1_6,.row 3] 78),(3,.row 119 2 (Ai Be.enc l_4))] 4) (fun ((b_4,b_4_2,l_4):List Int×Int×List Be)=>Cp.j4 x_1 x_1_2 x_1_3 x_1_4 x_1_5 x_1_6 b_4 b_4_2 l_4=some r) ?_ ?_
 refine A4 (ι:=Bool×List Int×Int) (fun ((x49_3,b_3,b_3_2):Bool×List Int×Int)=>mk [(6,.ptr 1 0),(7,.ptr 2 0),(49,.val (.bool x49_3))] [(0,.box [.sl 1 (Ai eI b_3),vj b_3_2] 91),(1,.box [.val (.int .i64 0),.val (.int .i64 0),.val (.int .i64 0),.val (.string (⟨#[]⟩:ByteArray)),.val (.int .i64 0),.val (.int .i64 0),.val (.slice none 0 0)] 78),(2,.box [vj x_1,vj x_1_2,vj x_1_3,vk x_1_4,vj x_1_5,vj x_1_6,.row 3] 78),(3,.row 119 2 (Ai Be.enc l_1))] 4) (fun ((x49_3,b_3,b_3_2):Bool×List Int×Int)=>Cp.j3 x_1 x_1_2 x_1_3 x_1_4 x_1_5 x_1_6 l_1 x49_3 b_3 b_3_2=some r) ?_ ?_
 exact Cj
 rintro⟨x49_3,b_3,b_3_2⟩ G
 unfold Cp.j3 at G
 refine Dx (.r 0 (.e 2)) fun _ e he B G=>?_
 refine Sk (rd:=[3]) rfl rfl (Yi jA rfl (Ga Be.enc_len (D5 he) (o:=1) (m:=1) (by decide) rfl) Ia (cs':=[.int .i64 7]) (.cons .int .nil) (T9 Be.enc_len (D5 he) (o:=1) (x':=(Be.mk e.Key 7)) (aEi rfl) rfl rfl)) rfl rfl ?_
 exact Cj
 rintro⟨b_4,b_4_2,l_4⟩ G
 unfold Cp.j4 at G
 exact Gn
instance aZ5:Wk 27:=⟨_,@aI⟩
theorem Tk {d l r} (G:Ko d l=some r):Fn Tryz.prog 59 1 [.ptr 0 0,.sl 1 (Ai eS l)] [.box [.sl 1 (Ai eI d.L),vj d.At] 91] (fun d' b'=>d'=vk r.1/\b'=[.box [.sl 1 (Ai eI r.2.L),vj r.2.At] 91]):=by
 unfold Ko at G
 refine Ea 1 12 Tryz.func59 fun _ _ _=>?_
 exact Cj
instance aXo:Wk 59:=⟨_,@Tk⟩
theorem vP {d e r} (G:F9 d e=some r):Fn Tryz.prog 28 1 [.ptr 0 0,.agg (Ac.dv e)] [.box [.sl 1 (Ai eI d.L),vj d.At] 91] (fun d' b'=>d'=.agg (Ac.dv r.1)/\b'=[.box [.sl 1 (Ai eI r.2.L),vj r.2.At] 91]):=by
 unfold F9 at G
 refine Ea 1 75 Tryz.func28 fun _ _ _=>?_
 refine eE 1 17 Ij fun B=>?_
 refine A4 (ι:=List Int×Int×ByteArray×Int×Int×List Int×List Al×List Int×List Int) (fun ((b_1,b_1_2,e_1,e_1_2,e_1_3,e_1_4,e_1_5,e_1_6,e_1_7):List Int×Int×ByteArray×Int×Int×List Int×List Al×List Int×List Int)=>mk [(3,.ptr 1 0),(4,.ptr 2 0)] [(0,.box [.sl 1 (Ai eI b_1),vj b_1_2] 91),(1,.box [vk e_1,vj e_1_2,vj e_1_3,.sl 1 (Ai eI e_1_4),.val (.bool e.OwnOrder),.sl 4 (Ai Al.enc e_1_5),.sl 1 (Ai eI e_1_6),.sl 1 (Ai eI e_1_7),.val (.bool e.Fallback)] 29),(2,.box [.val (.string (⟨#[]⟩:ByteArray)),.val (.int .i64 0),.val (.int .i64 0),.val (.slice none 0 0),.val (.bool false),.val (.slice none 0 0),.val (.slice none 0 0),.val (.slice none 0 0),.val (.bool false)] 29)] 3) (fun ((b_1,b_1_2,e_1,e_1_2,e_1_3,e_1_4,e_1_5,e_1_6,e_1_7):List Int×Int×ByteArray×Int×Int×List Int×List Al×List Int×List Int)=>F9.j1 e b_1 b_1_2 e_1 e_1_2 e_1_3 e_1_4 e_1_5 e_1_6 e_1_7=some r) ?_ ?_
 refine jF 17 33 B ?_
 refine P9 ?_
 obtain⟨y,hy,G⟩:=An G
 refine R9 [0] [0] [] false (Sx hy) ?_
 refine qK fun B=>?_
 refine Ly <| eE 33 49 B fun B=>?_
 refine Kd rfl G (fun h4 G=>?_) fun h4 G=>?_
 refine Ci (D9 _ _ [57]) 49 89 B rfl rfl ?_
 refine P9 ?_
 refine Rk lK z9 ck9 ([(⟨#[]⟩:ByteArray),(⟨#[97,32,98]⟩:ByteArray),(⟨#[120]⟩:ByteArray)]:List ByteArray) eS ?_
 obtain⟨y_2,hy_2,G⟩:=An G
 refine R9 [0] [0] [] false (Tk hy_2) ?_
 refine Ut fun B=>?_
 exact⟨(y_2.2.L,y_2.2.At,y_2.1,e.Least,e.Most,e.Suites,e.Identities,e.Anchors,e.Hashes),G,Cd [(0,0),(1,1),(2,9)]⟩
 refine eE 49 65 B fun B=>?_
 refine Kd rfl G (fun h7 G=>?_) fun h7 G=>?_
 refine Ci (D9 _ _ [97]) 65 129 B rfl rfl ?_
 refine P9 ?_
 refine Rk Er z3 Ia ([0,5,W (e.Most + 1)]:List Int) eI ?_
 obtain⟨y_3,hy_3,G⟩:=An G
 refine R9 [0] [0] [] false (Mg hy_3) ?_
 refine Ut fun B=>?_
 exact⟨(y_3.2.L,y_3.2.At,e.Name,y_3.1,e.Most,e.Suites,e.Identities,e.Anchors,e.Hashes),G,Cd [(0,0),(1,1),(2,9)]⟩
 refine eE 65 81 B fun B=>?_
 refine Kd rfl G (fun h10 G=>?_) fun h10 G=>?_
 refine Ci (D9 _ _ [89]) 81 121 B rfl rfl ?_
 refine P9 ?_
 refine Rk Er z3 Ia ([5,0]:List Int) eI ?_
 obtain⟨y_4,hy_4,G⟩:=An G
 refine R9 [0] [0] [] false (Mg hy_4) ?_
 refine Ut fun B=>?_
 exact⟨(y_4.2.L,y_4.2.At,e.Name,e.Least,y_4.1,e.Suites,e.Identities,e.Anchors,e.Hashes),G,Cd [(0,0),(1,1),(2,9)]⟩
 refine eE 81 97 B fun B=>?_
 refine Kd rfl G (fun h13 G=>?_) fun h13 G=>?_
 refine Ci (D9 _ _ [137]) 97 185 B rfl rfl ?_
 refine F0 rfl rfl (D0 Er z3 (by decide) rfl rfl rfl rfl Ia (cs:=[]) .nil rfl (l:=([]:List Int)) (f:=eI) rfl) rfl rfl ?_
 refine P9 ?_
 obtain⟨l,hl,G⟩:=An G
 refine Sk (rd:=[97]) rfl rfl (Lw Er Mu .row rfl .sl rfl hl rfl) rfl rfl ?_
 refine P9 ?_
 refine Rk Er z3 Ia ([17,0,3,3]:List Int) eI ?_
 obtain⟨y_5,hy_5,G⟩:=An G
 refine R9 [0] [0] [] false (Mg hy_5) ?_
 refine Iz Er z3 Ia ([y_5.1]:List Int) eI ?_
 obtain⟨l_2,hl_2,G⟩:=An G
 refine Sk (rd:=[121,153]) rfl rfl (Lw Er Mu .row rfl .row rfl hl_2 rfl) rfl rfl ?_
 refine Ut fun B=>?_
 exact⟨(y_5.2.L,y_5.2.At,e.Name,e.Least,e.Most,l_2,e.Identities,e.Anchors,e.Hashes),G,Cd [(0,0),(1,1),(2,9)]⟩
 refine eE 97 113 B fun B=>?_
 refine Kd rfl G (fun h16 G=>?_) fun h16 G=>?_
 refine Ci (D9 _ _ []) 113 137 B rfl rfl ?_
 refine Iz Er z3 Ia ([2,1]:List Int) eI ?_
 refine Ut fun B=>?_
 exact⟨(y.2.L,y.2.At,e.Name,e.Least,e.Most,e.Suites,e.Identities,([2,1]:List Int),e.Hashes),G,Cd [(0,0),(1,1),(2,9)]⟩
 refine eE 113 129 B fun B=>?_
 refine Kd rfl G (fun h19 G=>?_) fun h19 G=>?_
 refine Ci (D9 _ _ [137]) 129 177 B rfl rfl ?_
 refine P9 ?_
 refine Rk Er z3 Ia ([5,3,0]:List Int) eI ?_
 obtain⟨y_6,hy_6,G⟩:=An G
 refine R9 [0] [0] [] false (Mg hy_6) ?_
 refine Iz Er z3 Ia ([y_6.1]:List Int) eI ?_
 refine Ut fun B=>?_
 exact⟨(y_6.2.L,y_6.2.At,e.Name,e.Least,e.Most,e.Suites,e.Identities,e.Anchors,([y_6.1]:List Int)),G,Cd [(0,0),(1,1),(2,9)]⟩
 refine eE 129 145 B fun B=>?_
 refine Kd rfl G (fun h22 G=>?_) fun h22 G=>?_
 refine Ci (D9 _ _ []) 145 225 B rfl rfl ?_
 refine F0 rfl rfl (D0 dH z89 (by decide) rfl rfl rfl rfl uO (cs:=[]) .nil rfl (l:=([]:List Al)) (f:=Al.enc) rfl) rfl rfl ?_
 refine P9 ?_
 obtain⟨l_3,hl_3,G⟩:=An G
 refine Sk (rd:=[145]) rfl rfl (Lw dH Al.enc_len .row rfl .sl rfl hl_3 rfl) rfl rfl ?_
 refine M6 P5 Yb rV ?_
 refine M6 gT aG7 z89 ?_
 refine Iz dH z89 uO ([(Al.mk (Ao.mk 1 0) 0 ([]:(List Ae)))]:List Al) Al.enc ?_
 obtain⟨l_4,hl_4,G⟩:=An G
 refine Sk (rd:=[169,193]) rfl rfl (Lw dH Al.enc_len .row rfl .row rfl hl_4 rfl) rfl rfl ?_
 refine Ut fun B=>?_
 exact⟨(y.2.L,y.2.At,e.Name,e.Least,e.Most,e.Suites,l_4,e.Anchors,e.Hashes),G,Cd [(0,0),(1,1),(2,9)]⟩
 refine Ci (D9 _ _ []) 145 249 B rfl rfl ?_
 refine F0 rfl rfl (D0 dH z89 (by decide) rfl rfl rfl rfl uO (cs:=[]) .nil rfl (l:=([]:List Al)) (f:=Al.enc) rfl) rfl rfl ?_
 refine P9 ?_
 obtain⟨l_5,hl_5,G⟩:=An G
 refine Sk (rd:=[145]) rfl rfl (Lw dH Al.enc_len .row rfl .sl rfl hl_5 rfl) rfl rfl ?_
 refine M6 P5 Yb rV ?_
 refine P9 ?_
 refine M6 P5 Yb rV ?_
 obtain⟨y_7,hy_7,G⟩:=An G
 refine R9 [0] [0] [] false (Zc hy_7) ?_
 refine M6 gT aG7 z89 ?_
 refine Iz dH z89 uO ([(Al.mk (Ao.mk 5 2048) 7 y_7.1)]:List Al) Al.enc ?_
 obtain⟨l_6,hl_6,G⟩:=An G
 refine Sk (rd:=[169,217]) rfl rfl (Lw dH Al.enc_len .row rfl .row rfl hl_6 rfl) rfl rfl ?_
 refine Ut fun B=>?_
 exact⟨(y_7.2.L,y_7.2.At,e.Name,e.Least,e.Most,e.Suites,l_6,e.Anchors,e.Hashes),G,Cd [(0,0),(1,1),(2,9)]⟩
 rintro⟨b_1,b_1_2,e_1,e_1_2,e_1_3,e_1_4,e_1_5,e_1_6,e_1_7⟩ G
 unfold F9.j1 at G
 try dsimp only at G
 refine Rp rfl ?_
 refine eE 3 19 Ij fun B=>?_
 refine aCd ?_
 obtain rfl:=oi_ G
 exact Sb [(0,0)] ⟨rfl,rfl⟩
instance aYk:Wk 28:=⟨_,@vP⟩
theorem tF {l w r} (G:C4 l w=some r):Fn Tryz.prog 61 0 [.sl 4 (Ai Aa.enc l),.agg (Aa.dv w)] [] (fun d' b'=>d'=.sl 4 (Ai Aa.enc r)/\b'=[]):=by
 unfold C4 at G
 refine Ea 0 75 Tryz.func61 fun _ _ _=>?_
 refine Br 4 fun B G=>?_
 refine He (fun (k_1:Int)=>mk [(0,.sl 4 (Ai Aa.enc l)),(3,.ptr 0 0),(5,vj k_1)] [(0,.box (Aa.dv w) 40)] 1) G (Cd [(0,0)]) ?_
 rintro k_1 m1 o1 G hn1
 unfold C4.l1 at G
 try dsimp only at G
 refine Rp rfl ?_
 refine Ay <| A4 (ι:=Bool) (fun (x45_2:Bool)=>mk [(0,.sl 4 (Ai Aa.enc l)),(3,.ptr 0 0),(5,vj k_1),(45,.val (.bool x45_2))] [(0,.box (Aa.dv w) 40)] 1) (fun (x45_2:Bool)=>C4.j2 l w k_1 x45_2=some o1) ?_ ?_
 refine Bg (D9 _ _ []) (by kernel_rfl) [0,0,2,7,15,31,31,127,255,511,1023,31,2079,6175,16383,32767,65535,65535,262143,524287,1048575,2097151,65535,4259839,12648447,33554431,67108863,134217727,134217727,536870911,1073741823,2147483647,4294967295,134217727,8724152319,25904021503,68719476735,137438953471,274877906943,549755813887] 1 321 Ij rfl rfl (by kernel_rfl) ?_
 exact Cj
 rintro x45_2 G
 unfold C4.j2 at G
 refine Dx (.l 0 (.e 1)) fun _ B G=>?_
 refine Ay <| A4 (ι:=Bool) (fun (x61_3:Bool)=>mk [(0,.sl 4 (Ai Aa.enc l)),(3,.ptr 0 0),(5,vj k_1),(61,.val (.bool x61_3))] [(0,.box (Aa.dv w) 40)] 1) (fun (x61_3:Bool)=>C4.j3 l w k_1 x61_3=some r) ?_ ?_
 refine Bg (D9 _ _ []) (by kernel_rfl) [0,0,2,7,15,31,31,127,255,511,31,1055,4095,8191] 1 113 Ij rfl rfl (by kernel_rfl) ?_
 refine Jf (.r 0 (.e 3)) fun h12 e_2 _ B G=>?_
 refine F0 (Mt rfl rfl h12) rfl (Pb e_2.Outcome w.Outcome) rfl rfl ?_
 exact Cj
 rintro x61_3 G
 unfold C4.j3 at G
 refine Dx (.l 0 (.e 1)) fun _ B G=>?_
 refine Ay <| Bg (D9 _ _ []) (by kernel_rfl) [0,0,0,6,15,0,32,127,0,0,768,2047,4095] 1 105 Ij rfl rfl (by kernel_rfl) ?_
 refine F0 rfl rfl (D0 aAi z40 (by decide) rfl rfl rfl rfl Ms (cs:=[]) .nil rfl (l:=([]:List Aa)) (f:=Aa.enc) rfl) rfl rfl ?_
 refine Br 2 fun _ _ _ _ B G=>?_
 refine Iz aAi z40 Ms ([w]:List Aa) Aa.enc ?_
 exact Cj
instance aX1:Wk 61:=⟨_,@tF⟩
end Go.Proofs.YtobamahlipiakaaGreat
