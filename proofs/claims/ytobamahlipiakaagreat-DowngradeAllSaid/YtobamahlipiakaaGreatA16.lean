import Derived.Test.YtobamahlipiakaaGreatT1
import Derived.Test.YtobamahlipiakaaGreatEU
import Derived.Test.YtobamahlipiakaaGreatA1
import Derived.Test.YtobamahlipiakaaGreatA9
import Derived.Test.YtobamahlipiakaaGreatA12
import Derived.Test.YtobamahlipiakaaGreatA13
import Derived.Test.YtobamahlipiakaaGreatA15
set_option linter.unusedVariables false
set_option linter.unusedSimpArgs false
set_option maxRecDepth 100000
set_option maxHeartbeats 40000000
namespace Go.Proofs.YtobamahlipiakaaGreat
open Go.RowKit
theorem Pr {l parts r} (G:A3 l parts=some r):Fn Tryz.prog 5 0 [.sl 1 (Ai eI l),.sl 1 (Ai (eK .u16) parts)] [] (fun d' b'=>d'=.val (.bool r)/\b'=[]):=by
 unfold A3 at G
 refine Ea 0 155 Tryz.func5 fun _ _ _=>?_
 refine eE 0 8 Ij fun B=>?_
 refine Ay <| A4 (ι:=Bool) (fun (x30_1:Bool)=>mk [(0,.sl 1 (Ai eI l)),(1,.sl 1 (Ai (eK .u16) parts)),(30,.val (.bool x30_1))] [] 0) (fun (x30_1:Bool)=>A3.j1 l parts x30_1=some r) ?_ ?_
 refine Ci (D9 _ _ []) 8 72 B rfl rfl ?_
 refine P9 ?_
 obtain⟨y,hy,G⟩:=An G
 refine L9 (pL hy) ?_
 refine P9 ?_
 rcases bc_ G with ⟨h2,G⟩ | ⟨h2,G⟩
 refine Ut fun B=>?_
 exact⟨true,G,Cd []⟩
 refine Ut fun B=>?_
 exact⟨decide (20 < (parts.length:Int)),G,Cd []⟩
 rintro x30_1 G
 unfold A3.j1 at G
 try dsimp only at G
 refine Rp rfl ?_
 refine Kd rfl G (fun h5 G=>?_) fun h5 G=>?_
 refine jF 0 16 Ij ?_
 obtain⟨y_2,hy_2,G⟩:=An G
 refine L9 (jW hy_2) ?_
 exact t5_
 refine sk_ ?_
 refine jF 0 24 Ij ?_
 refine P9 ?_
 obtain⟨y_3,hy_3,G⟩:=An G
 refine Jw (rd:=[]) (ps:=[]) (gs:=[]) false rfl (Nt hy_3) rfl rfl (.cons .sl .nil) rfl rfl (by intro h; cases h) rfl (by intro h; first | (cases h; done) | exact⟨_,_,⟨rfl,rfl⟩,by simp,by simp⟩) ?_
 rintro _ _ ⟨rfl,rfl⟩
 refine Ut fun B=>?_
 refine jF 24 96 B ?_
 refine P9 ?_
 obtain⟨y_4,hy_4,G⟩:=An G
 refine R9 [8] [8] [] false (oJ hy_4) ?_
 refine Ut fun B=>?_
 refine Ay <| Ci (D9 _ _ [104]) 96 128 B rfl rfl ?_
 refine P9 ?_
 refine Rk Er z3 Ia ([65,100,300]:List Int) eI ?_
 obtain⟨y_5,hy_5,G⟩:=An G
 refine R9 [8] [8] [] false (Mg hy_5) ?_
 refine Ut fun B=>?_
 refine Ay <| eE 128 136 B fun B=>?_
 refine Ly <| He (fun (i_2:Int)=>mk [(1,.sl 1 (Ai (eK .u16) parts)),(6,.ptr 0 0),(7,.ptr 1 0),(8,vj y_5.1),(9,vj i_2)] [(0,.box (Ac.dv y_4.1) 29),(1,.box (Ac.dv y_4.2.1) 29)] 2) G (Cd [(0,64),(1,72)]) ?_
 rintro i_2 m2 o2 G hn2
 unfold A3.l2 at G
 try dsimp only at G
 refine Rp rfl ?_
 refine Ay <| eE 2 34 Ij fun B=>?_
 refine Kd rfl G (fun h12 G=>?_) fun h12 G=>?_
 refine sk_ ?_
 refine A4 (ι:=Unit) (fun (_:Unit)=>mk [(1,.sl 1 (Ai (eK .u16) parts)),(6,.ptr 0 0),(7,.ptr 1 0),(8,vj y_5.1),(9,vj i_2)] [(0,.box (Ac.dv y_4.1) 29),(1,.box (Ac.dv y_4.2.1) 29)] 2) (fun (_:Unit)=>A3.j7 i_2=some o2) ?_ ?_
 refine Ly <| Ay <| Bg (D9 _ _ []) (by kernel_rfl) [0,1,0,0,12,28,60,0,128,0,512,1920,3968,8188,16383,32767] 34 162 B rfl rfl (by kernel_rfl) ?_
 refine P9 ?_
 obtain⟨e,he,G⟩:=An G
 refine P9 ?_
 refine F0 rfl rfl (Gq aMq (Pu (uM _) (D5 he) (o:=0) (c:=.int .u16 e) rfl rfl)) rfl rfl ?_
 refine F0 rfl rfl (vK aRg aNo) rfl rfl ?_
 refine P9 ?_
 obtain⟨q,hq,G⟩:=An G
 refine F0 rfl rfl (aPb hq) rfl rfl ?_
 refine Ut fun B=>?_
 refine eE 162 170 B fun B=>?_
 refine Ay <| eE 170 178 B fun B=>?_
 refine Ly <| He (fun ((k_3,part_3):Int×List Int)=>mk [(1,.sl 1 (Ai (eK .u16) parts)),(6,.ptr 0 0),(7,.ptr 1 0),(8,vj y_5.1),(9,vj i_2),(10,.val (.int .i64 (W (y_4.1.Least + q)))),(11,.row 2),(12,vj k_3)] [(0,.box (Ac.dv y_4.1) 29),(1,.box (Ac.dv y_4.2.1) 29),(2,.row 3 1 (Ai eI part_3))] 3) G (Cd [(0,0),(1,1)]) ?_
 rintro⟨k_3,part_3⟩ m3 o3 G hn3
 unfold A3.l3 at G
 try dsimp only at G
 refine Rp rfl ?_
 refine Ay <| eE 3 43 Ij fun B=>?_
 refine Kd rfl G (fun h17 G=>?_) fun h17 G=>?_
 refine sk_ ?_
 refine A4 (ι:=List Int) (fun (part_4:List Int)=>mk [(1,.sl 1 (Ai (eK .u16) parts)),(6,.ptr 0 0),(7,.ptr 1 0),(8,vj y_5.1),(9,vj i_2),(10,.val (.int .i64 (W (y_4.1.Least + q)))),(11,.row 2),(12,vj k_3)] [(0,.box (Ac.dv y_4.1) 29),(1,.box (Ac.dv y_4.2.1) 29),(2,.row 3 1 (Ai eI part_4))] 3) (fun (part_4:List Int)=>A3.j4 k_3 part_4=some o3) ?_ ?_
 refine Ly <| jF 43 139 B ?_
 refine P9 ?_
 refine F0 rfl rfl (Gq aMq (Pu (uM _) (D5 he) (o:=0) (c:=.int .u16 e) rfl rfl)) rfl rfl ?_
 refine F0 rfl rfl (vK aRg aNo) rfl rfl ?_
 refine P9 ?_
 obtain⟨q_2,hq_2,G⟩:=An G
 refine F0 rfl rfl (aPb hq_2) rfl rfl ?_
 refine P9 ?_
 refine F0 rfl rfl (aGe aNo aQ5) rfl rfl ?_
 obtain⟨q_3,hq_3,G⟩:=An G
 refine F0 rfl rfl (nF hq_3) rfl rfl ?_
 refine F0 rfl rfl aNw rfl rfl ?_
 refine Ut fun B=>?_
 refine Kd rfl G (fun h19 G=>?_) fun h19 G=>?_
 refine Ci (D9 _ _ []) 139 211 B rfl rfl ?_
 refine P9 ?_
 obtain⟨e_2,he_2,G⟩:=An G
 refine P9 ?_
 refine l1_ he_2 ?_
 refine Iz Er z3 Ia ([e_2]:List Int) eI ?_
 obtain⟨l_2,hl_2,G⟩:=An G
 refine Sk (rd:=[2,187]) rfl rfl (Lw Er Mu .row rfl .row rfl hl_2 rfl) rfl rfl ?_
 refine Ut fun B=>?_
 exact⟨l_2,G,Cd [(0,0),(1,1),(2,195)]⟩
 refine sk_ ?_
 exact⟨part_3,G,Cd [(0,0),(1,1),(2,2)]⟩
 rintro part_4 G
 unfold A3.j4 at G
 try dsimp only at G
 refine Rp rfl ?_
 refine Ci (D9 _ _ []) 3 27 Ij rfl rfl ?_
 refine Ut fun B=>?_
 obtain rfl:=oi_ G
 exact⟨((W (k_3 + 1),part_4),m3),bAn _,hn3,Cd [(0,0),(1,1),(2,2)]⟩
 refine ex_ ?_
 replace G:=sU G hn3
 refine jF 43 131 B ?_
 refine P9 ?_
 obtain⟨y_6,hy_6,G⟩:=An G
 refine R9 [2] [] [] true (T2 hy_6) ?_
 refine Ut fun B=>?_
 refine jF 131 203 B ?_
 refine P9 ?_
 obtain⟨y_7,hy_7,G⟩:=An G
 refine L9 (jD hy_7) ?_
 refine Ut fun B=>?_
 refine Ay <| A4 (ι:=Bool) (fun (x116_5:Bool)=>mk [(1,.sl 1 (Ai (eK .u16) parts)),(6,.ptr 0 0),(7,.ptr 1 0),(8,vj y_5.1),(9,vj i_2),(13,.ptr 2 0),(116,.val (.bool x116_5))] [(0,.box (Ac.dv y_4.1) 29),(1,.box (Ac.dv y_4.2.1) 29),(2,.box [vj y_6.1.Version,vj y_6.1.Suite] 38)] 3) (fun (x116_5:Bool)=>A3.j5 y_4 y_5 i_2 y_6 x116_5=some o2) ?_ ?_
 refine Ci (D9 _ _ []) 203 307 B rfl rfl ?_
 refine P9 ?_
 rcases bc_ G with ⟨h24,G⟩ | ⟨h24,G⟩
 refine Ut fun B=>?_
 exact⟨true,G,Cd [(0,0),(1,1),(2,107)]⟩
 refine P9 ?_
 rcases bc_ G with ⟨h26,G⟩ | ⟨h26,G⟩
 refine Ut fun B=>?_
 exact⟨true,G,Cd [(0,0),(1,1),(2,107)]⟩
 refine P9 ?_
 obtain⟨y_8,hy_8,G⟩:=An G
 refine L9 (bB hy_8) ?_
 refine Ut fun B=>?_
 exact⟨decide (y_5.1<=y_8),G,Cd [(0,0),(1,1),(2,107)]⟩
 rintro x116_5 G
 unfold A3.j5 at G
 try dsimp only at G
 refine Rp rfl ?_
 refine Kd rfl G (fun h29 G=>?_) fun h29 G=>?_
 refine ex_ ?_
 exact⟨(),G,Cd [(0,0),(1,1)]⟩
 refine sk_ ?_
 refine jF 3 83 Ij ?_
 refine P9 ?_
 obtain⟨y_9,hy_9,G⟩:=An G
 refine L9 (W3 hy_9) ?_
 refine Ut fun B=>?_
 refine A4 (ι:=Bool) (fun (x130_6:Bool)=>mk [(1,.sl 1 (Ai (eK .u16) parts)),(6,.ptr 0 0),(7,.ptr 1 0),(8,vj y_5.1),(9,vj i_2),(130,.val (.bool x130_6))] [(0,.box (Ac.dv y_4.1) 29),(1,.box (Ac.dv y_4.2.1) 29)] 2) (fun (x130_6:Bool)=>A3.j6 i_2 x130_6=some o2) ?_ ?_
 refine Ci (D9 _ _ []) 83 131 B rfl rfl ?_
 refine P9 ?_
 rcases bc_ G with ⟨h31,G⟩ | ⟨h31,G⟩
 refine Ut fun B=>?_
 exact⟨true,G,Cd [(0,0),(1,1)]⟩
 refine Ut fun B=>?_
 exact⟨!y_9.1,G,Cd [(0,0),(1,1)]⟩
 rintro x130_6 G
 unfold A3.j6 at G
 try dsimp only at G
 refine Rp rfl ?_
 refine Kd rfl G (fun h34 G=>?_) fun h34 G=>?_
 refine eE 2 10 Ij fun B=>?_
 refine aCd ?_
 replace G:=sU G hn2
 exact t2_
 refine sk_ ?_
 exact⟨(),G,Cd [(0,0),(1,1)]⟩
 rintro _ G
 unfold A3.j7 at G
 try dsimp only at G
 refine Rp rfl ?_
 refine Ci (D9 _ _ []) 2 26 Ij rfl rfl ?_
 refine Ut fun B=>?_
 obtain rfl:=oi_ G
 exact⟨(W (i_2 + 1),m2),bAn _,hn2,Cd [(0,0),(1,1)]⟩
 refine ex_ ?_
 replace G:=sU G hn2
 refine Ay <| jF 34 106 B ?_
 refine P9 ?_
 obtain⟨y_10,hy_10,G⟩:=An G
 refine L9 (fM hy_10) ?_
 refine Ut fun B=>?_
 refine eE 106 122 B fun B=>?_
 refine Kd rfl G (fun h39 G=>?_) fun h39 G=>?_
 refine jF 122 194 B ?_
 refine P9 ?_
 obtain⟨y_11,hy_11,G⟩:=An G
 refine L9 (W3 hy_11) ?_
 refine Ut fun B=>?_
 refine jF 194 266 B ?_
 refine P9 ?_
 rcases bc_ G with ⟨h41,G⟩ | ⟨h41,G⟩
 refine P9 ?_
 rcases bc_ G with ⟨h42,G⟩ | ⟨h42,G⟩
 obtain⟨y_12,hy_12,G⟩:=An G
 refine L9 (jW hy_12) ?_
 exact t5_
 exact t5_
 exact t5_
 refine sk_ ?_
 refine jF 122 138 B ?_
 obtain⟨y_13,hy_13,G⟩:=An G
 refine L9 (jW hy_13) ?_
 exact t5_
instance wk5:Wk 5:=⟨_,@Pr⟩
end Go.Proofs.YtobamahlipiakaaGreat
