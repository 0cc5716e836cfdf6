import Derived.Test.YtobamahlipiakaaGreatT1
import Derived.Test.YtobamahlipiakaaGreatEU
import Derived.Test.YtobamahlipiakaaGreatA9
import Derived.Test.YtobamahlipiakaaGreatA10
import Derived.Test.YtobamahlipiakaaGreatA11
set_option linter.unusedVariables false
set_option linter.unusedSimpArgs false
set_option maxRecDepth 100000
set_option maxHeartbeats 40000000
namespace Go.Proofs.YtobamahlipiakaaGreat
open Go.RowKit
theorem oJ {d r} (G:B8 d=some r):Fn Tryz.prog 11 1 [.ptr 0 0] [.box [.sl 1 (Ai eI d.L),vj d.At] 91] (fun d' b'=>d'=.tup [.agg (Ac.dv r.1),.agg (Ac.dv r.2.1)]/\b'=[.box [.sl 1 (Ai eI r.2.2.L),vj r.2.2.At] 91]):=by
 unfold B8 at G
 refine Ea 1 57 Tryz.func11 fun _ _ _=>?_
 refine eE 1 17 Ij fun B=>?_
 refine jF 17 81 B ?_
 refine P9 ?_
 obtain⟨y,hy,G⟩:=An G
 refine Jw (rd:=[0]) (ps:=[0]) (gs:=[]) false rfl (Py hy) rfl rfl (.cons (.ptr rfl) (.cons .val .nil)) ⟨_,_,_,rfl,.head _,⟨_,rfl,(by repeat' (first | exact K0.nil | apply K0.cons | exact Ag.val | exact Ag.sl | exact Ag.nils | exact Ag.ptr rfl | exact Ag.rowK rfl))⟩,rfl⟩ rfl (by intro h; cases h) rfl (by intro h; first | (cases h; done) | exact⟨_,_,⟨rfl,rfl⟩,by simp,by simp⟩) ?_
 rintro _ _ ⟨rfl,rfl⟩
 refine P9 ?_
 obtain⟨y_2,hy_2,G⟩:=An G
 refine Jw (rd:=[0]) (ps:=[0]) (gs:=[]) false rfl (Py hy_2) rfl rfl (.cons (.ptr rfl) (.cons .val .nil)) ⟨_,_,_,rfl,.head _,⟨_,rfl,(by repeat' (first | exact K0.nil | apply K0.cons | exact Ag.val | exact Ag.sl | exact Ag.nils | exact Ag.ptr rfl | exact Ag.rowK rfl))⟩,rfl⟩ rfl (by intro h; cases h) rfl (by intro h; first | (cases h; done) | exact⟨_,_,⟨rfl,rfl⟩,by simp,by simp⟩) ?_
 rintro _ _ ⟨rfl,rfl⟩
 refine Ut fun B=>?_
 refine A4 (ι:=Ad×List Int×List Int) (fun ((d_1,c_1,c_1_2):Ad×List Int×List Int)=>mk [(0,.ptr 0 0),(2,.ptr 1 0),(3,.ptr 2 0),(4,.ptr 3 0),(5,.ptr 4 0)] [(0,.box [.sl 1 (Ai eI d_1.L),vj d_1.At] 91),(1,.box [.val (.string (⟨#[]⟩:ByteArray)),.val (.int .i64 0),.val (.int .i64 0),.val (.slice none 0 0),.val (.bool false),.val (.slice none 0 0),.val (.slice none 0 0),.val (.slice none 0 0),.val (.bool false)] 29),(2,.box [.val (.string (⟨#[]⟩:ByteArray)),.val (.int .i64 0),.val (.int .i64 0),.val (.slice none 0 0),.val (.bool false),.val (.slice none 0 0),.val (.slice none 0 0),.val (.slice none 0 0),.val (.bool false)] 29),(3,.box [vk y.1.Name,vj y.1.Least,vj y.1.Most,.row 5,.val (.bool y.1.OwnOrder),.sl 4 (Ai Al.enc y.1.Identities),.sl 1 (Ai eI c_1),.sl 1 (Ai eI c_1_2),.val (.bool y.1.Fallback)] 29),(4,.box [vk y_2.1.Name,vj y_2.1.Least,vj y_2.1.Most,.row 6,.val (.bool y_2.1.OwnOrder),.sl 4 (Ai Al.enc y_2.1.Identities),.sl 1 (Ai eI y_2.1.Anchors),.sl 1 (Ai eI y_2.1.Hashes),.val (.bool y_2.1.Fallback)] 29),(5,.row 3 1 (Ai eI y.1.Suites)),(6,.row 3 1 (Ai eI y_2.1.Suites))] 7) (fun ((d_1,c_1,c_1_2):Ad×List Int×List Int)=>B8.j1 y y_2 d_1 c_1 c_1_2=some r) ?_ ?_
 refine jF 81 105 B ?_
 refine P9 ?_
 obtain⟨y_3,hy_3,G⟩:=An G
 refine R9 [0] [0] [] false (Sx hy_3) ?_
 refine Ut fun B=>?_
 refine Kd rfl G (fun h4 G=>?_) fun h4 G=>?_
 refine Ci (D9 _ _ []) 105 153 B rfl rfl ?_
 refine Iz Er z3 Ia ([1,2]:List Int) eI ?_
 refine Iz Er z3 Ia ([1,2,3,4]:List Int) eI ?_
 refine Ut fun B=>?_
 exact⟨(y_3.2,([1,2]:List Int),([1,2,3,4]:List Int)),G,Cd [(0,0),(1,1),(2,9),(3,49),(4,57),(5,25),(6,41)]⟩
 refine sk_ ?_
 exact⟨(y_3.2,y.1.Anchors,y.1.Hashes),G,Cd [(0,0),(1,1),(2,9),(3,49),(4,57),(5,25),(6,41)]⟩
 rintro⟨d_1,c_1,c_1_2⟩ G
 unfold B8.j1 at G
 try dsimp only at G
 refine Rp rfl ?_
 refine Ay <| eE 7 15 Ij fun B=>?_
 refine Ly <| He (fun ((i_2,d_2,l_2):Int×Ad×List Int)=>mk [(0,.ptr 0 0),(2,.ptr 1 0),(3,.ptr 2 0),(4,.ptr 3 0),(5,.ptr 4 0),(6,vj i_2)] [(0,.box [.sl 1 (Ai eI d_2.L),vj d_2.At] 91),(1,.box [.val (.string (⟨#[]⟩:ByteArray)),.val (.int .i64 0),.val (.int .i64 0),.val (.slice none 0 0),.val (.bool false),.val (.slice none 0 0),.val (.slice none 0 0),.val (.slice none 0 0),.val (.bool false)] 29),(2,.box [.val (.string (⟨#[]⟩:ByteArray)),.val (.int .i64 0),.val (.int .i64 0),.val (.slice none 0 0),.val (.bool false),.val (.slice none 0 0),.val (.slice none 0 0),.val (.slice none 0 0),.val (.bool false)] 29),(3,.box [vk y.1.Name,vj y.1.Least,vj y.1.Most,.row 5,.val (.bool y.1.OwnOrder),.sl 4 (Ai Al.enc y.1.Identities),.sl 1 (Ai eI c_1),.sl 1 (Ai eI c_1_2),.val (.bool y.1.Fallback)] 29),(4,.box [vk y_2.1.Name,vj y_2.1.Least,vj y_2.1.Most,.row 6,.val (.bool y_2.1.OwnOrder),.sl 4 (Ai Al.enc y_2.1.Identities),.sl 1 (Ai eI y_2.1.Anchors),.sl 1 (Ai eI y_2.1.Hashes),.val (.bool y_2.1.Fallback)] 29),(5,.row 3 1 (Ai eI y.1.Suites)),(6,.row 3 1 (Ai eI l_2))] 7) G (Cd [(0,0),(1,1),(2,2),(3,3),(4,4),(5,5),(6,6)]) ?_
 rintro⟨i_2,d_2,l_2⟩ m2 o2 G hn2
 unfold B8.l2 at G
 try dsimp only at G
 refine Rp rfl ?_
 refine Ay <| A4 (ι:=Bool) (fun (x28_3:Bool)=>mk [(0,.ptr 0 0),(2,.ptr 1 0),(3,.ptr 2 0),(4,.ptr 3 0),(5,.ptr 4 0),(6,vj i_2),(28,.val (.bool x28_3))] [(0,.box [.sl 1 (Ai eI d_2.L),vj d_2.At] 91),(1,.box [.val (.string (⟨#[]⟩:ByteArray)),.val (.int .i64 0),.val (.int .i64 0),.val (.slice none 0 0),.val (.bool false),.val (.slice none 0 0),.val (.slice none 0 0),.val (.slice none 0 0),.val (.bool false)] 29),(2,.box [.val (.string (⟨#[]⟩:ByteArray)),.val (.int .i64 0),.val (.int .i64 0),.val (.slice none 0 0),.val (.bool false),.val (.slice none 0 0),.val (.slice none 0 0),.val (.slice none 0 0),.val (.bool false)] 29),(3,.box [vk y.1.Name,vj y.1.Least,vj y.1.Most,.row 5,.val (.bool y.1.OwnOrder),.sl 4 (Ai Al.enc y.1.Identities),.sl 1 (Ai eI c_1),.sl 1 (Ai eI c_1_2),.val (.bool y.1.Fallback)] 29),(4,.box [vk y_2.1.Name,vj y_2.1.Least,vj y_2.1.Most,.row 6,.val (.bool y_2.1.OwnOrder),.sl 4 (Ai Al.enc y_2.1.Identities),.sl 1 (Ai eI y_2.1.Anchors),.sl 1 (Ai eI y_2.1.Hashes),.val (.bool y_2.1.Fallback)] 29),(5,.row 3 1 (Ai eI y.1.Suites)),(6,.row 3 1 (Ai eI l_2))] 7) (fun (x28_3:Bool)=>B8.j3 y y_2 c_1 c_1_2 i_2 d_2 l_2 x28_3=some o2) ?_ ?_
 refine Ci (D9 _ _ []) 7 95 Ij rfl rfl ?_
 refine P9 ?_
 rcases bc_ G with ⟨h7,G⟩ | ⟨h7,G⟩
 refine Ut fun B=>?_
 exact⟨decide ((l_2.length:Int) < 16),G,Cd [(0,0),(1,1),(2,2),(3,3),(4,4),(5,5),(6,6)]⟩
 refine Ut fun B=>?_
 exact⟨false,G,Cd [(0,0),(1,1),(2,2),(3,3),(4,4),(5,5),(6,6)]⟩
 rintro x28_3 G
 unfold B8.j3 at G
 try dsimp only at G
 refine Rp rfl ?_
 refine Kd rfl G (fun h10 G=>?_) fun h10 G=>?_
 refine sk_ ?_
 refine A4 (ι:=Ad×List Int) (fun ((d_5,l_5):Ad×List Int)=>mk [(0,.ptr 0 0),(2,.ptr 1 0),(3,.ptr 2 0),(4,.ptr 3 0),(5,.ptr 4 0),(6,vj i_2)] [(0,.box [.sl 1 (Ai eI d_5.L),vj d_5.At] 91),(1,.box [.val (.string (⟨#[]⟩:ByteArray)),.val (.int .i64 0),.val (.int .i64 0),.val (.slice none 0 0),.val (.bool false),.val (.slice none 0 0),.val (.slice none 0 0),.val (.slice none 0 0),.val (.bool false)] 29),(2,.box [.val (.string (⟨#[]⟩:ByteArray)),.val (.int .i64 0),.val (.int .i64 0),.val (.slice none 0 0),.val (.bool false),.val (.slice none 0 0),.val (.slice none 0 0),.val (.slice none 0 0),.val (.bool false)] 29),(3,.box [vk y.1.Name,vj y.1.Least,vj y.1.Most,.row 5,.val (.bool y.1.OwnOrder),.sl 4 (Ai Al.enc y.1.Identities),.sl 1 (Ai eI c_1),.sl 1 (Ai eI c_1_2),.val (.bool y.1.Fallback)] 29),(4,.box [vk y_2.1.Name,vj y_2.1.Least,vj y_2.1.Most,.row 6,.val (.bool y_2.1.OwnOrder),.sl 4 (Ai Al.enc y_2.1.Identities),.sl 1 (Ai eI y_2.1.Anchors),.sl 1 (Ai eI y_2.1.Hashes),.val (.bool y_2.1.Fallback)] 29),(5,.row 3 1 (Ai eI y.1.Suites)),(6,.row 3 1 (Ai eI l_5))] 7) (fun ((d_5,l_5):Ad×List Int)=>B8.j5 i_2 d_5 l_5=some o2) ?_ ?_
 refine Ly <| A4 (ι:=Bool×Ad) (fun ((x44_4,d_4):Bool×Ad)=>mk [(0,.ptr 0 0),(2,.ptr 1 0),(3,.ptr 2 0),(4,.ptr 3 0),(5,.ptr 4 0),(6,vj i_2),(44,.val (.bool x44_4))] [(0,.box [.sl 1 (Ai eI d_4.L),vj d_4.At] 91),(1,.box [.val (.string (⟨#[]⟩:ByteArray)),.val (.int .i64 0),.val (.int .i64 0),.val (.slice none 0 0),.val (.bool false),.val (.slice none 0 0),.val (.slice none 0 0),.val (.slice none 0 0),.val (.bool false)] 29),(2,.box [.val (.string (⟨#[]⟩:ByteArray)),.val (.int .i64 0),.val (.int .i64 0),.val (.slice none 0 0),.val (.bool false),.val (.slice none 0 0),.val (.slice none 0 0),.val (.slice none 0 0),.val (.bool false)] 29),(3,.box [vk y.1.Name,vj y.1.Least,vj y.1.Most,.row 5,.val (.bool y.1.OwnOrder),.sl 4 (Ai Al.enc y.1.Identities),.sl 1 (Ai eI c_1),.sl 1 (Ai eI c_1_2),.val (.bool y.1.Fallback)] 29),(4,.box [vk y_2.1.Name,vj y_2.1.Least,vj y_2.1.Most,.row 6,.val (.bool y_2.1.OwnOrder),.sl 4 (Ai Al.enc y_2.1.Identities),.sl 1 (Ai eI y_2.1.Anchors),.sl 1 (Ai eI y_2.1.Hashes),.val (.bool y_2.1.Fallback)] 29),(5,.row 3 1 (Ai eI y.1.Suites)),(6,.row 3 1 (Ai eI l_2))] 7) (fun ((x44_4,d_4):Bool×Ad)=>B8.j4 y i_2 l_2 x44_4 d_4=some o2) ?_ ?_
 refine Bg (D9 _ _ []) (by kernel_rfl) [0,1,0,4,0,28,60,127,255,511,1023,2047,4095,8191] 7 119 Ij rfl rfl (by kernel_rfl) ?_
 refine P9 ?_
 obtain⟨e,he,G⟩:=An G
 refine P9 ?_
 refine Sk (rd:=[5]) rfl rfl (.loadR1 jA (Pu Mu (D5 he) (o:=0) (c:=.int .i64 e) rfl rfl)) rfl rfl ?_
 obtain⟨y_4,hy_4,G⟩:=An G
 refine R9 [6] [] [] true (Va hy_4) ?_
 refine P9 ?_
 rcases bc_ G with ⟨h11,G⟩ | ⟨h11,G⟩
 refine P9 ?_
 obtain⟨y_5,hy_5,G⟩:=An G
 refine R9 [0] [0] [] false (Sx hy_5) ?_
 refine Ut fun B=>?_
 exact⟨(decide (0 < y_5.1),y_5.2),G,Cd [(0,0),(1,1),(2,2),(3,3),(4,4),(5,5),(6,6)]⟩
 refine Ut fun B=>?_
 exact⟨(false,d_2),G,Cd [(0,0),(1,1),(2,2),(3,3),(4,4),(5,5),(6,6)]⟩
 rintro⟨x44_4,d_4⟩ G
 unfold B8.j4 at G
 try dsimp only at G
 refine Rp rfl ?_
 refine Kd rfl G (fun h14 G=>?_) fun h14 G=>?_
 refine Bg (D9 _ _ []) (by kernel_rfl) [0,1,0,4,0,28,60,124,255,511,1023] 7 95 Ij rfl rfl (by kernel_rfl) ?_
 refine P9 ?_
 obtain⟨e_2,he_2,G⟩:=An G
 refine P9 ?_
 refine Sk (rd:=[5]) rfl rfl (.loadR1 jA (Pu Mu (D5 he_2) (o:=0) (c:=.int .i64 e_2) rfl rfl)) rfl rfl ?_
 refine Iz Er z3 Ia ([e_2]:List Int) eI ?_
 obtain⟨l,hl,G⟩:=An G
 refine Sk (rd:=[6,63]) rfl rfl (Lw Er Mu .row rfl .row rfl hl rfl) rfl rfl ?_
 refine Ut fun B=>?_
 exact⟨(d_4,l),G,Cd [(0,0),(1,1),(2,2),(3,3),(4,4),(5,5),(6,71)]⟩
 refine sk_ ?_
 exact⟨(d_4,l_2),G,Cd [(0,0),(1,1),(2,2),(3,3),(4,4),(5,5),(6,6)]⟩
 rintro⟨d_5,l_5⟩ G
 unfold B8.j5 at G
 try dsimp only at G
 refine Rp rfl ?_
 refine Ci (D9 _ _ []) 7 31 Ij rfl rfl ?_
 refine Ut fun B=>?_
 obtain rfl:=oi_ G
 exact⟨((W (i_2 + 1),d_5,l_5),m2),bAn _,hn2,Cd [(0,0),(1,1),(2,2),(3,3),(4,4),(5,5),(6,6)]⟩
 refine ex_ ?_
 replace G:=sU G hn2
 refine Ay <| Bg (D9 _ _ []) (by kernel_rfl) [0,0,1,7] 7 39 Ij rfl rfl (by kernel_rfl) ?_
 refine Ut fun B=>?_
 refine aCd ?_
 obtain rfl:=oi_ G
 exact Sb [(0,0)] ⟨rfl,rfl⟩
instance aYv:Wk 11:=⟨_,@oJ⟩
theorem oN {s r} (G:Bn s=some r):Fn Tryz.prog 91 0 [vk s] [] (fun d' b'=>d'=.val (.bool r)/\b'=[]):=by
 unfold Bn at G
 refine Ea 0 56 Tryz.func91 fun _ _ _=>?_
 refine Br 1 fun B G=>?_
 refine Ay <| A4 (ι:=Bool) (fun (x12_1:Bool)=>mk [(0,vk s),(12,.val (.bool x12_1))] [] 0) (fun (x12_1:Bool)=>Bn.j1 s x12_1=some r) ?_ ?_
 exact Cj
 rintro x12_1 G
 unfold Bn.j1 at G
 refine Dx (.l 0 (.e 4)) fun _ B G=>?_
 refine He (fun (i_2:Int)=>mk [(0,vk s),(3,vj i_2)] [] 0) G (Cd []) ?_
 rintro i_2 m2 o2 G hn2
 unfold Bn.l2 at G
 refine Dx (.r 3 (.e 5)) fun _ c _ B G=>?_
 refine A4 (ι:=Bool) (fun (x55_3:Bool)=>mk [(0,vk s),(3,vj i_2),(55,.val (.bool x55_3))] [] 0) (fun (x55_3:Bool)=>Bn.j3 i_2 x55_3=some o2) ?_ ?_
 exact Cj
 rintro x55_3 G
 unfold Bn.j3 at G
 exact Gn
instance aZx:Wk 91:=⟨_,@oN⟩
theorem jJ {key id chain r} (G:Dy key id chain=some r):Fn Tryz.prog 92 0 [.agg [vj key.Alg,vj key.Bits],vj id,.sl 15 (Ai Ae.enc chain)] [] (fun d' b'=>d'=.val (.bool r)/\b'=[]):=by
 unfold Dy at G
 refine Ea 0 55 Tryz.func92 fun _ _ _=>?_
 refine Br 1 fun B G=>?_
 refine Ay <| A4 (ι:=Bool) (fun (x23_1:Bool)=>mk [(1,vj id),(2,.sl 15 (Ai Ae.enc chain)),(3,.ptr 0 0),(23,.val (.bool x23_1))] [(0,.box [vj key.Alg,vj key.Bits] 45)] 1) (fun (x23_1:Bool)=>Dy.j1 key id chain x23_1=some r) ?_ ?_
 exact Cj
 rintro x23_1 G
 unfold Dy.j1 at G
 refine Dx (.l 0 (.e 4)) fun _ B G=>?_
 refine He (fun (i_2:Int)=>mk [(1,vj id),(2,.sl 15 (Ai Ae.enc chain)),(3,.ptr 0 0),(7,vj i_2)] [(0,.box [vj key.Alg,vj key.Bits] 45)] 1) G (Cd [(0,0)]) ?_
 rintro i_2 m2 o2 G hn2
 unfold Dy.l2 at G
 refine Dx (.l 2 (.e 1)) fun _ B G=>?_
 refine Ay <| Bg (D9 _ _ []) (by kernel_rfl) [0,1,3,7,15,31,63,127,15,511,1023,2047,4095,8191,16383,2047,65535,131071,262143,524287] 33 193 B rfl rfl (by kernel_rfl) ?_
 refine Jf (.l 0 (.e 3)) fun h18 e_2 he_2 B G=>?_
 refine F0 (Mt rfl rfl h18) rfl (T5 e_2.Key key) rfl rfl ?_
 exact Cj
instance aXs:Wk 92:=⟨_,@jJ⟩
theorem jC {e r} (G:A6 e=some r):Fn Tryz.prog 45 0 [.agg (Ac.dv e)] [] (fun d' b'=>d'=vj r/\b'=[]):=by
 unfold A6 at G
 refine Ea 0 176 Tryz.func45 fun _ _ _=>?_
 refine Br 1 fun B G=>?_
 refine Ay <| A4 (ι:=Bool) (fun (x47_1:Bool)=>mk [(1,.ptr 0 0),(47,.val (.bool x47_1))] [(0,.box (Ac.dv e) 29)] 1) (fun (x47_1:Bool)=>A6.j1 e x47_1=some r) ?_ ?_
 exact Cj
 rintro x47_1 G
 unfold A6.j1 at G
 refine Dx (.l 0 (.e 4)) fun _ B G=>?_
 refine He (fun (i_2:Int)=>mk [(1,.ptr 0 0),(3,vj i_2)] [(0,.box (Ac.dv e) 29)] 1) G (Cd [(0,0)]) ?_
 rintro i_2 m2 o2 G hn2
 unfold A6.l2 at G
 refine Lg 2 fun B G=>?_
 refine Kd rfl G (fun _ G=>?_) fun _ G=>?_
 refine Br 7 fun _ he_2 _ _ B G=>?_
 refine A4 (ι:=Bool) (fun (x77_3:Bool)=>mk [(1,.ptr 0 0),(3,vj i_2),(77,.val (.bool x77_3))] [(0,.box (Ac.dv e) 29)] 1) (fun (x77_3:Bool)=>A6.j3 i_2 x77_3=some o2) ?_ ?_
 refine Bg (D9 _ _ []) (by kernel_rfl) [0,1,3,7,15,7,63,7,135,7,903,1927,4095,8191] 137 249 B rfl rfl (by kernel_rfl) ?_
 exact Cj
 rintro x77_3 G
 unfold A6.j3 at G
 exact Gn
 refine Br 4 fun B G=>?_
 refine He (fun (i_4:Int)=>mk [(1,.ptr 0 0),(6,vj i_4)] [(0,.box (Ac.dv e) 29)] 1) G (Cd [(0,0)]) ?_
 rintro i_4 m4 o4 G hn4
 unfold A6.l4 at G
 refine Lg 2 fun B G=>?_
 refine Kd rfl G (fun _ G=>?_) fun _ G=>?_
 refine Br 3 fun B G=>?_
 refine Ay <| Bg (D9 _ _ []) (by kernel_rfl) [0,1,0,7,15,31,0,64,0,448,960,1984,0,4096,0,28672,61440,126976,262143,524287] 41 201 B rfl rfl (by kernel_rfl) ?_
 exact Cj
 refine Br 4 fun B G=>?_
 refine He (fun (i_5:Int)=>mk [(1,.ptr 0 0),(7,vj i_5)] [(0,.box (Ac.dv e) 29)] 1) G (Cd [(0,0)]) ?_
 rintro i_5 m5 o5 G hn5
 unfold A6.l5 at G
 refine Lg 2 fun B G=>?_
 refine Kd rfl G (fun _ G=>?_) fun _ G=>?_
 refine Br 3 fun B G=>?_
 refine A4 (ι:=Bool) (fun (x143_6:Bool)=>mk [(1,.ptr 0 0),(7,vj i_5),(143,.val (.bool x143_6))] [(0,.box (Ac.dv e) 29)] 1) (fun (x143_6:Bool)=>A6.j6 i_5 x143_6=some o5) ?_ ?_
 refine Bg (D9 _ _ []) (by kernel_rfl) [0,1,0,7,15,31,63,127,255,127,1023,2047,4095,8191,16383,32767,65535,131071,262143,524287,262143,1310719,4194303,8388607,262143,17039359,262143,117702655,251920383,536870911,1073741823,2147483647] 41 297 B rfl rfl (by kernel_rfl) ?_
 exact Cj
 rintro x143_6 G
 unfold A6.j6 at G
 exact Gn
 refine Br 4 fun B G=>?_
 refine He (fun (i_7:Int)=>mk [(1,.ptr 0 0),(8,vj i_7)] [(0,.box (Ac.dv e) 29)] 1) G (Cd [(0,0)]) ?_
 rintro i_7 m7 o7 G hn7
 unfold A6.l7 at G
 refine Dx (.r 2 (.e 3)) fun _ B G=>?_
 refine A4 (ι:=Bool) (fun (x175_8:Bool)=>mk [(1,.ptr 0 0),(8,vj i_7),(175,.val (.bool x175_8))] [(0,.box (Ac.dv e) 29)] 1) (fun (x175_8:Bool)=>A6.j8 i_7 x175_8=some o7) ?_ ?_
 refine Bg (D9 _ _ []) (by kernel_rfl) [0,1,0,7,15,31,63,127,255,511,1023,2047,4095,2047,10239,32767,65535,2047,133119,2047,919551,1968127,4194303,8388607,16777215] 41 241 B rfl rfl (by kernel_rfl) ?_
 exact Cj
 rintro x175_8 G
 unfold A6.j8 at G
 exact Gn
instance aXx:Wk 45:=⟨_,@jC⟩
end Go.Proofs.YtobamahlipiakaaGreat
