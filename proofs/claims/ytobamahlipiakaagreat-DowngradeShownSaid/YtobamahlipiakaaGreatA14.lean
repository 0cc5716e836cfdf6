import Derived.Test.YtobamahlipiakaaGreatT1
import Derived.Test.YtobamahlipiakaaGreatEU
import Derived.Test.YtobamahlipiakaaGreatA1
import Derived.Test.YtobamahlipiakaaGreatA7
import Derived.Test.YtobamahlipiakaaGreatA9
import Derived.Test.YtobamahlipiakaaGreatA12
import Derived.Test.YtobamahlipiakaaGreatA13
set_option linter.unusedVariables false
set_option linter.unusedSimpArgs false
set_option maxRecDepth 100000
set_option maxHeartbeats 40000000
namespace Go.Proofs.YtobamahlipiakaaGreat
open Go.RowKit
theorem N7 {l day r} (G:Ax l day=some r):Fn Tryz.prog 3 0 [.sl 1 (Ai eI l),.val (.int .u8 (day.toNat:Int))] [] (fun d' b'=>d'=.val (.bool r)/\b'=[]):=by
 unfold Ax at G
 refine Ea 0 174 Tryz.func3 fun _ _ _=>?_
 refine eE 0 8 Ij fun B=>?_
 refine Ay <| jF 8 32 B ?_
 refine P9 ?_
 obtain⟨y,hy,G⟩:=An G
 refine L9 (pL hy) ?_
 refine Ut fun B=>?_
 refine Kd rfl G (fun h3 G=>?_) fun h3 G=>?_
 refine jF 32 48 B ?_
 obtain⟨y_2,hy_2,G⟩:=An G
 refine L9 (jW hy_2) ?_
 exact t5_
 refine sk_ ?_
 refine jF 32 56 B ?_
 refine P9 ?_
 obtain⟨y_3,hy_3,G⟩:=An G
 refine Jw (rd:=[]) (ps:=[]) (gs:=[]) false rfl (Nt hy_3) rfl rfl (.cons .sl .nil) rfl rfl (by intro h; cases h) rfl (by intro h; first | (cases h; done) | exact⟨_,_,⟨rfl,rfl⟩,by simp,by simp⟩) ?_
 rintro _ _ ⟨rfl,rfl⟩
 refine Ut fun B=>?_
 refine jF 56 128 B ?_
 refine P9 ?_
 obtain⟨y_4,hy_4,G⟩:=An G
 refine R9 [40] [40] [] false (oJ hy_4) ?_
 refine Ut fun B=>?_
 refine Ay <| Ci (D9 _ _ [136]) 128 160 B rfl rfl ?_
 refine P9 ?_
 refine Rk Er z3 Ia ([0,65,100,300]:List Int) eI ?_
 obtain⟨y_5,hy_5,G⟩:=An G
 refine R9 [40] [40] [] false (Mg hy_5) ?_
 refine Ut fun B=>?_
 refine jF 160 248 B ?_
 refine P9 ?_
 refine F0 rfl rfl (lG (u:=day) aKz aNo) rfl rfl ?_
 refine P9 ?_
 obtain⟨y_6,hy_6,G⟩:=An G
 refine L9 (cM hy_6) ?_
 refine Ut fun B=>?_
 refine Ay <| eE 248 264 B fun B=>?_
 refine Kd rfl G (fun h10 G=>?_) fun h10 G=>?_
 refine jF 264 272 B ?_
 exact t5_
 refine sk_ ?_
 refine Ay <| eE 264 272 B fun B=>?_
 refine Ly <| He (fun (i_1:Int)=>mk [(1,.val (.int .u8 (day.toNat:Int))),(6,.ptr 0 0),(7,.ptr 1 0),(8,vj y_5.1),(9,.sl 4 (Ai Aa.enc y_6.1)),(11,vj i_1)] [(0,.box (Ac.dv y_4.1) 29),(1,.box (Ac.dv y_4.2.1) 29)] 2) G (Cd [(0,96),(1,104)]) ?_
 rintro i_1 m1 o1 G hn1
 unfold Ax.l1 at G
 try dsimp only at G
 refine Rp rfl ?_
 refine Ay <| eE 2 34 Ij fun B=>?_
 refine Kd rfl G (fun h14 G=>?_) fun h14 G=>?_
 refine sk_ ?_
 refine A4 (ι:=Unit) (fun (_:Unit)=>mk [(1,.val (.int .u8 (day.toNat:Int))),(6,.ptr 0 0),(7,.ptr 1 0),(8,vj y_5.1),(9,.sl 4 (Ai Aa.enc y_6.1)),(11,vj i_1)] [(0,.box (Ac.dv y_4.1) 29),(1,.box (Ac.dv y_4.2.1) 29)] 2) (fun (_:Unit)=>Ax.j5 i_1=some o1) ?_ ?_
 refine Ly <| jF 34 82 B ?_
 refine P9 ?_
 obtain⟨e,he,G⟩:=An G
 refine P9 ?_
 refine lE_ he ?_
 refine Ut fun B=>?_
 refine jF 82 202 B ?_
 refine P9 ?_
 refine F0 rfl rfl (lG (u:=day) aKz aNo) rfl rfl ?_
 refine P9 ?_
 obtain⟨y_7,hy_7,G⟩:=An G
 refine L9 (T2 hy_7) ?_
 refine Ut fun B=>?_
 refine Ay <| A4 (ι:=Bool) (fun (x125_2:Bool)=>mk [(1,.val (.int .u8 (day.toNat:Int))),(6,.ptr 0 0),(7,.ptr 1 0),(8,vj y_5.1),(9,.sl 4 (Ai Aa.enc y_6.1)),(11,vj i_1),(12,.ptr 2 0),(13,.ptr 3 0),(125,.val (.bool x125_2))] [(0,.box (Ac.dv y_4.1) 29),(1,.box (Ac.dv y_4.2.1) 29),(2,.box (Aa.dv e) 40),(3,.box [vj y_7.1.Version,vj y_7.1.Suite] 38)] 4) (fun (x125_2:Bool)=>Ax.j2 y_4 y_5 i_1 e y_7 x125_2=some o1) ?_ ?_
 refine Bg (D9 _ _ []) (by kernel_rfl) [0,1,3,7,7,23,63,127,255,511,1023,511,2559,8191,16383,32767,65535,131071,65535,327679,1048575,2097151,4194303,8388607,16777215,33554431,67108863,67108863,201326591,536870911,1073741823,2147483647,4294967295,67108863,8657043455,34359738367,68719476735,137438953471,137438953471,412316860415,1099511627775,2199023255551,4398046511103,8796093022207,137438953471,17729624997887,70368744177663,140737488355327,281474976710655,281474976710655,844424930131967,2251799813685247,4503599627370495,9007199254740991,18014398509481983,281474976710655,36310271995674623,144115188075855871,288230376151711743,576460752303423487,1152921504606846975,2305843009213693951] 202 698 B rfl rfl (by kernel_rfl) ?_
 refine P9 ?_
 rcases bc_ G with ⟨h17,G⟩ | ⟨h17,G⟩
 refine Ut fun B=>?_
 exact⟨true,G,Cd [(0,0),(1,1),(2,66),(3,178)]⟩
 refine P9 ?_
 refine F0 (Mt rfl rfl h17) rfl (X4 y_7.1 e.Outcome) rfl rfl ?_
 refine P9 ?_
 rcases bc_ G with ⟨h19,G⟩ | ⟨h19,G⟩
 refine Ut fun B=>?_
 exact⟨true,G,Cd [(0,0),(1,1),(2,66),(3,178)]⟩
 refine P9 ?_
 rcases bc_ G with ⟨h21,G⟩ | ⟨h21,G⟩
 refine Ut fun B=>?_
 exact⟨true,G,Cd [(0,0),(1,1),(2,66),(3,178)]⟩
 refine P9 ?_
 rcases bc_ G with ⟨h23,G⟩ | ⟨h23,G⟩
 refine Ut fun B=>?_
 exact⟨true,G,Cd [(0,0),(1,1),(2,66),(3,178)]⟩
 refine P9 ?_
 rcases bc_ G with ⟨h25,G⟩ | ⟨h25,G⟩
 refine P9 ?_
 obtain⟨e_2,he_2,G⟩:=An G
 refine P9 ?_
 refine F0 (Mt rfl rfl h25) rfl (Jy aJ9 aHe (by decide) (aFk Aa.enc_len (D5 he_2) (o:=0) (by decide) rfl)) rfl rfl ?_
 refine F0 (Mt rfl rfl h25) rfl (Jy aOe jA (by decide) (aFk Aa.enc_len (D5 he_2) (o:=0) (by decide) rfl)) rfl rfl ?_
 refine F0 (Mt rfl rfl h25) rfl (Gq jA (Pu Aa.enc_len (D5 he_2) (o:=0) (c:=.int .i64 e_2.Outcome.Version) rfl rfl)) rfl rfl ?_
 refine P9 ?_
 rcases bc_ G with ⟨h26,G⟩ | ⟨h26,G⟩
 refine Ut fun B=>?_
 exact⟨true,G,Cd [(0,0),(1,1),(2,66),(3,178)]⟩
 refine P9 ?_
 refine F0 (Mt rfl rfl h26) rfl (Jy aJ9 aHe (by decide) (aFk Aa.enc_len (D5 he_2) (o:=0) (by decide) rfl)) rfl rfl ?_
 refine F0 (Mt rfl rfl h26) rfl (Jy aOe jA (by decide) (aFk Aa.enc_len (D5 he_2) (o:=0) (by decide) rfl)) rfl rfl ?_
 refine F0 (Mt rfl rfl h26) rfl (Gq jA (Pu Aa.enc_len (D5 he_2) (o:=0) (c:=.int .i64 e_2.Outcome.Version) rfl rfl)) rfl rfl ?_
 refine P9 ?_
 rcases bc_ G with ⟨h28,G⟩ | ⟨h28,G⟩
 refine P9 ?_
 refine F0 (Mt rfl rfl h28) rfl (Jy aJ9 aHe (by decide) (aFk Aa.enc_len (D5 he_2) (o:=0) (by decide) rfl)) rfl rfl ?_
 refine F0 (Mt rfl rfl h28) rfl (Jy aNh jA (by decide) (aFk Aa.enc_len (D5 he_2) (o:=1) (by decide) rfl)) rfl rfl ?_
 refine F0 (Mt rfl rfl h28) rfl (Gq jA (Pu Aa.enc_len (D5 he_2) (o:=1) (c:=.int .i64 e_2.Outcome.Suite) rfl rfl)) rfl rfl ?_
 refine Ut fun B=>?_
 exact⟨decide (y_7.1.Suite<=e_2.Outcome.Suite),G,Cd [(0,0),(1,1),(2,66),(3,178)]⟩
 refine Ut fun B=>?_
 exact⟨false,G,Cd [(0,0),(1,1),(2,66),(3,178)]⟩
 refine Ut fun B=>?_
 exact⟨false,G,Cd [(0,0),(1,1),(2,66),(3,178)]⟩
 rintro x125_2 G
 unfold Ax.j2 at G
 try dsimp only at G
 refine Rp rfl ?_
 refine Kd rfl G (fun h32 G=>?_) fun h32 G=>?_
 refine eE 4 12 Ij fun B=>?_
 refine aCd ?_
 replace G:=sU G hn1
 exact t2_
 refine sk_ ?_
 refine Ay <| A4 (ι:=Bool) (fun (x141_3:Bool)=>mk [(1,.val (.int .u8 (day.toNat:Int))),(6,.ptr 0 0),(7,.ptr 1 0),(8,vj y_5.1),(9,.sl 4 (Ai Aa.enc y_6.1)),(11,vj i_1),(12,.ptr 2 0),(13,.ptr 3 0),(141,.val (.bool x141_3))] [(0,.box (Ac.dv y_4.1) 29),(1,.box (Ac.dv y_4.2.1) 29),(2,.box (Aa.dv e) 40),(3,.box [vj y_7.1.Version,vj y_7.1.Suite] 38)] 4) (fun (x141_3:Bool)=>Ax.j3 y_4 y_5 i_1 e y_7 x141_3=some o1) ?_ ?_
 refine Ci (D9 _ _ []) 4 132 Ij rfl rfl ?_
 refine P9 ?_
 obtain⟨y_8,hy_8,G⟩:=An G
 refine L9 (Z9 hy_8) ?_
 refine P9 ?_
 rcases bc_ G with ⟨h34,G⟩ | ⟨h34,G⟩
 refine P9 ?_
 rcases bc_ G with ⟨h35,G⟩ | ⟨h35,G⟩
 refine Ut fun B=>?_
 exact⟨true,G,Cd [(0,0),(1,1),(2,2),(3,3)]⟩
 refine Ut fun B=>?_
 exact⟨y_4.1.Fallback,G,Cd [(0,0),(1,1),(2,2),(3,3)]⟩
 refine Ut fun B=>?_
 exact⟨false,G,Cd [(0,0),(1,1),(2,2),(3,3)]⟩
 rintro x141_3 G
 unfold Ax.j3 at G
 try dsimp only at G
 refine Rp rfl ?_
 refine Kd rfl G (fun h39 G=>?_) fun h39 G=>?_
 refine ex_ ?_
 exact⟨(),G,Cd [(0,0),(1,1)]⟩
 refine sk_ ?_
 refine jF 4 76 Ij ?_
 refine P9 ?_
 obtain⟨y_9,hy_9,G⟩:=An G
 refine L9 (jD hy_9) ?_
 refine Ut fun B=>?_
 refine A4 (ι:=Bool) (fun (x172_4:Bool)=>mk [(1,.val (.int .u8 (day.toNat:Int))),(6,.ptr 0 0),(7,.ptr 1 0),(8,vj y_5.1),(9,.sl 4 (Ai Aa.enc y_6.1)),(11,vj i_1),(172,.val (.bool x172_4))] [(0,.box (Ac.dv y_4.1) 29),(1,.box (Ac.dv y_4.2.1) 29)] 2) (fun (x172_4:Bool)=>Ax.j4 i_1 x172_4=some o1) ?_ ?_
 refine Bg (D9 _ _ []) (by kernel_rfl) [0,1,3,7,15,31,63,127,255,511,1023,511,2559,6655,14847,32767,65535,131071,262143,524287,1048575,2097151,524287,8388607,16777215] 76 276 B rfl rfl (by kernel_rfl) ?_
 refine P9 ?_
 rcases bc_ G with ⟨h41,G⟩ | ⟨h41,G⟩
 refine Ut fun B=>?_
 exact⟨true,G,Cd [(0,0),(1,1)]⟩
 refine P9 ?_
 rcases bc_ G with ⟨h43,G⟩ | ⟨h43,G⟩
 refine Ut fun B=>?_
 exact⟨true,G,Cd [(0,0),(1,1)]⟩
 refine P9 ?_
 obtain⟨e_3,he_3,G⟩:=An G
 refine P9 ?_
 refine l1_ he_3 ?_
 obtain⟨y_10,hy_10,G⟩:=An G
 refine L9 (Va hy_10) ?_
 refine P9 ?_
 rcases bc_ G with ⟨h45,G⟩ | ⟨h45,G⟩
 refine Ut fun B=>?_
 exact⟨true,G,Cd [(0,0),(1,1)]⟩
 refine P9 ?_
 obtain⟨y_11,hy_11,G⟩:=An G
 refine L9 (bB hy_11) ?_
 refine Ut fun B=>?_
 exact⟨decide (y_5.1<=y_11),G,Cd [(0,0),(1,1)]⟩
 rintro x172_4 G
 unfold Ax.j4 at G
 try dsimp only at G
 refine Rp rfl ?_
 refine Kd rfl G (fun h48 G=>?_) fun h48 G=>?_
 refine eE 2 10 Ij fun B=>?_
 refine aCd ?_
 replace G:=sU G hn1
 exact t2_
 refine sk_ ?_
 exact⟨(),G,Cd [(0,0),(1,1)]⟩
 rintro _ G
 unfold Ax.j5 at G
 try dsimp only at G
 refine Rp rfl ?_
 refine Ci (D9 _ _ []) 2 26 Ij rfl rfl ?_
 refine Ut fun B=>?_
 obtain rfl:=oi_ G
 exact⟨(W (i_1 + 1),m1),bAn _,hn1,Cd [(0,0),(1,1)]⟩
 refine ex_ ?_
 replace G:=sU G hn1
 refine jF 34 50 B ?_
 obtain⟨y_12,hy_12,G⟩:=An G
 refine L9 (jW hy_12) ?_
 exact t5_
instance wk3:Wk 3:=⟨_,@N7⟩
end Go.Proofs.YtobamahlipiakaaGreat
