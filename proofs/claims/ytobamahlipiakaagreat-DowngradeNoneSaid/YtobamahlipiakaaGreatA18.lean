import Derived.Test.YtobamahlipiakaaGreatT1
import Derived.Test.YtobamahlipiakaaGreatEU
import Derived.Test.YtobamahlipiakaaGreatA1
import Derived.Test.YtobamahlipiakaaGreatA7
import Derived.Test.YtobamahlipiakaaGreatA9
import Derived.Test.YtobamahlipiakaaGreatA12
import Derived.Test.YtobamahlipiakaaGreatA15
import Derived.Test.YtobamahlipiakaaGreatA17
set_option linter.unusedVariables false
set_option linter.unusedSimpArgs false
set_option maxRecDepth 100000
set_option maxHeartbeats 40000000
namespace Go.Proofs.YtobamahlipiakaaGreat
open Go.RowKit
theorem O5 {l a b r} (G:Aq l a b=some r):Fn Tryz.prog 4 0 [.sl 1 (Ai eI l),.val (.int .u8 (a.toNat:Int)),.val (.int .u8 (b.toNat:Int))] [] (fun d' b'=>d'=.val (.bool r)/\b'=[]):=by
 unfold Aq at G
 refine Ea 0 165 Tryz.func4 fun _ _ _=>?_
 refine eE 0 8 Ij fun B=>?_
 refine Ay <| jF 8 32 B ?_
 refine P9 ?_
 obtain⟨y,hy,G⟩:=An G
 refine L9 (pL hy) ?_
 refine Ut fun B=>?_
 refine Kd rfl G (fun h3 G=>?_) fun h3 G=>?_
 refine jF 32 48 B ?_
 obtain⟨y_2,hy_2,G⟩:=An G
 refine L9 (jW hy_2) ?_
 exact t5_
 refine sk_ ?_
 refine jF 32 56 B ?_
 refine P9 ?_
 obtain⟨y_3,hy_3,G⟩:=An G
 refine Jw (rd:=[]) (ps:=[]) (gs:=[]) false rfl (Nt hy_3) rfl rfl (.cons .sl .nil) rfl rfl (by intro h; cases h) rfl (by intro h; first | (cases h; done) | exact⟨_,_,⟨rfl,rfl⟩,by simp,by simp⟩) ?_
 rintro _ _ ⟨rfl,rfl⟩
 refine Ut fun B=>?_
 refine jF 56 128 B ?_
 refine P9 ?_
 obtain⟨y_4,hy_4,G⟩:=An G
 refine R9 [40] [40] [] false (oJ hy_4) ?_
 refine Ut fun B=>?_
 refine jF 128 200 B ?_
 refine P9 ?_
 refine F0 rfl rfl (lG (u:=a) aKz aNo) rfl rfl ?_
 refine P9 ?_
 refine F0 rfl rfl (lG (u:=a) aKz aNo) rfl rfl ?_
 refine P9 ?_
 refine F0 rfl rfl (lG (u:=b) aKz aNo) rfl rfl ?_
 refine Ut fun B=>?_
 refine jF 200 272 B ?_
 refine P9 ?_
 obtain⟨y_5,hy_5,G⟩:=An G
 refine L9 (cM hy_5) ?_
 refine Ut fun B=>?_
 refine jF 272 344 B ?_
 refine P9 ?_
 obtain⟨y_6,hy_6,G⟩:=An G
 refine L9 (cM hy_6) ?_
 refine Ut fun B=>?_
 refine jF 344 376 B ?_
 refine P9 ?_
 obtain⟨y_7,hy_7,G⟩:=An G
 refine L9 (oY hy_7) ?_
 refine Ut fun B=>?_
 refine eE 376 392 B fun B=>?_
 refine jF 392 456 B ?_
 refine P9 ?_
 obtain⟨y_8,hy_8,G⟩:=An G
 refine L9 (cM hy_8) ?_
 refine Ut fun B=>?_
 refine jF 456 528 B ?_
 refine P9 ?_
 obtain⟨y_9,hy_9,G⟩:=An G
 refine L9 (fM hy_9) ?_
 refine Ut fun B=>?_
 refine Ay <| A4 (ι:=Bool) (fun (x109_1:Bool)=>mk [(8,.ptr 0 0),(9,.ptr 1 0),(12,.sl 4 (Ai Aa.enc y_5.1)),(14,.sl 4 (Ai Aa.enc y_6.1)),(109,.val (.bool x109_1))] [(0,.box (Ac.dv y_4.1) 29),(1,.box (Ac.dv y_4.2.1) 29)] 2) (fun (x109_1:Bool)=>Aq.j1 y_4 y_5 y_6 x109_1=some r) ?_ ?_
 refine Bg (D9 _ _ []) (by kernel_rfl) [0,1,3,7,15,31,63,127,255,511,1023,2047,4095,8191,16383,32767,65535,131071,262143,65535,589823,2097151,4194303,8388607,16777215,33554431,67108863,134217727,268435455,536870911,1073741823,2147483647,268435455,8589934591,17179869183,34359738367] 528 816 B rfl rfl (by kernel_rfl) ?_
 refine P9 ?_
 rcases bc_ G with ⟨h14,G⟩ | ⟨h14,G⟩
 refine Ut fun B=>?_
 exact⟨true,G,Cd [(0,96),(1,104)]⟩
 refine P9 ?_
 rcases bc_ G with ⟨h16,G⟩ | ⟨h16,G⟩
 refine Ut fun B=>?_
 exact⟨true,G,Cd [(0,96),(1,104)]⟩
 refine P9 ?_
 rcases bc_ G with ⟨h18,G⟩ | ⟨h18,G⟩
 refine Ut fun B=>?_
 exact⟨true,G,Cd [(0,96),(1,104)]⟩
 refine P9 ?_
 rcases bc_ G with ⟨h20,G⟩ | ⟨h20,G⟩
 refine Ut fun B=>?_
 exact⟨true,G,Cd [(0,96),(1,104)]⟩
 refine P9 ?_
 refine F0 (Mt rfl rfl h20) rfl (aN9 aSl) rfl rfl ?_
 refine P9 ?_
 rcases bc_ G with ⟨h22,G⟩ | ⟨h22,G⟩
 refine Ut fun B=>?_
 exact⟨true,G,Cd [(0,96),(1,104)]⟩
 refine P9 ?_
 rcases bc_ G with ⟨h24,G⟩ | ⟨h24,G⟩
 refine P9 ?_
 obtain⟨e,he,G⟩:=An G
 refine P9 ?_
 refine F0 (Mt rfl rfl h24) rfl (Jy aJ9 aHe (by decide) (aFk Aa.enc_len (D5 he) (o:=0) (by decide) rfl)) rfl rfl ?_
 refine F0 (Mt rfl rfl h24) rfl (I2 aHe (Jj Aa.enc_len (D5 he) (o:=0) (m:=2) (cs:=[.int .i64 e.Outcome.Version,.int .i64 e.Outcome.Suite]) rfl (by decide) rfl) (Ga Aa.enc_len (D5 he) (o:=0) (m:=2) (by decide) rfl)) rfl rfl ?_
 refine P9 ?_
 refine F0 (Mt rfl rfl h24) rfl (X4 e.Outcome y_9.1) rfl rfl ?_
 refine Ut fun B=>?_
 exact⟨!decide (e.Outcome=y_9.1),G,Cd [(0,96),(1,104)]⟩
 refine Ut fun B=>?_
 exact⟨false,G,Cd [(0,96),(1,104)]⟩
 rintro x109_1 G
 unfold Aq.j1 at G
 try dsimp only at G
 refine Rp rfl ?_
 refine Kd rfl G (fun h27 G=>?_) fun h27 G=>?_
 refine jF 2 10 Ij ?_
 exact t5_
 refine sk_ ?_
 refine jF 2 34 Ij ?_
 refine P9 ?_
 obtain⟨y_10,hy_10,G⟩:=An G
 refine L9 (eW hy_10) ?_
 refine Ut fun B=>?_
 refine Ay <| eE 34 42 B fun B=>?_
 refine Ly <| He (fun (i_2:Int)=>mk [(12,.sl 4 (Ai Aa.enc y_5.1)),(14,.sl 4 (Ai Aa.enc y_6.1)),(21,.sl 2 (Ai Ap.enc y_10)),(22,vj i_2)] [] 0) G (Cd []) ?_
 rintro i_2 m2 o2 G hn2
 unfold Aq.l2 at G
 try dsimp only at G
 refine Rp rfl ?_
 refine Ay <| eE 0 32 Ij fun B=>?_
 refine Kd rfl G (fun h32 G=>?_) fun h32 G=>?_
 refine sk_ ?_
 refine Ay <| Ly <| eE 32 48 B fun B=>?_
 refine Ay <| eE 48 56 B fun B=>?_
 refine Ly <| He (fun ((found_3,k_3):Bool×Int)=>mk [(12,.sl 4 (Ai Aa.enc y_5.1)),(14,.sl 4 (Ai Aa.enc y_6.1)),(21,.sl 2 (Ai Ap.enc y_10)),(22,vj i_2),(23,.val (.bool found_3)),(24,.val (.bool false)),(25,vj k_3)] [] 0) G (Cd []) ?_
 rintro⟨found_3,k_3⟩ m3 o3 G hn3
 unfold Aq.l3 at G
 try dsimp only at G
 refine Rp rfl ?_
 refine Ay <| eE 0 32 Ij fun B=>?_
 refine Kd rfl G (fun h36 G=>?_) fun h36 G=>?_
 refine sk_ ?_
 refine A4 (ι:=Bool) (fun (found_4:Bool)=>mk [(12,.sl 4 (Ai Aa.enc y_5.1)),(14,.sl 4 (Ai Aa.enc y_6.1)),(21,.sl 2 (Ai Ap.enc y_10)),(22,vj i_2),(23,.val (.bool found_4)),(24,.val (.bool false)),(25,vj k_3)] [] 0) (fun (found_4:Bool)=>Aq.j4 k_3 found_4=some o3) ?_ ?_
 refine Ly <| Bg (D9 _ _ []) (by kernel_rfl) [0,1,3,3,15,31,63,3,3,387,899,1923,4095,8191,16383] 32 152 B rfl rfl (by kernel_rfl) ?_
 refine P9 ?_
 rcases bc_ G with ⟨h37,G⟩ | ⟨h37,G⟩
 refine Ut fun B=>?_
 exact⟨true,G,Cd []⟩
 refine P9 ?_
 obtain⟨e_2,he_2,G⟩:=An G
 refine P9 ?_
 refine F0 (Mt rfl rfl h37) rfl (Jy aJ9 aHe (by decide) (aFk Aa.enc_len (D5 he_2) (o:=0) (by decide) rfl)) rfl rfl ?_
 refine F0 (Mt rfl rfl h37) rfl (I2 aHe (Jj Aa.enc_len (D5 he_2) (o:=0) (m:=2) (cs:=[.int .i64 e_2.Outcome.Version,.int .i64 e_2.Outcome.Suite]) rfl (by decide) rfl) (Ga Aa.enc_len (D5 he_2) (o:=0) (m:=2) (by decide) rfl)) rfl rfl ?_
 refine P9 ?_
 obtain⟨e_3,he_3,G⟩:=An G
 refine P9 ?_
 refine F0 (Mt rfl rfl h37) rfl (Jy aJ9 aHe (by decide) (aFk Aa.enc_len (D5 he_3) (o:=0) (by decide) rfl)) rfl rfl ?_
 refine F0 (Mt rfl rfl h37) rfl (I2 aHe (Jj Aa.enc_len (D5 he_3) (o:=0) (m:=2) (cs:=[.int .i64 e_3.Outcome.Version,.int .i64 e_3.Outcome.Suite]) rfl (by decide) rfl) (Ga Aa.enc_len (D5 he_3) (o:=0) (m:=2) (by decide) rfl)) rfl rfl ?_
 refine F0 (Mt rfl rfl h37) rfl (Pb e_2.Outcome e_3.Outcome) rfl rfl ?_
 refine Ut fun B=>?_
 exact⟨decide (e_2.Outcome=e_3.Outcome),G,Cd []⟩
 rintro found_4 G
 unfold Aq.j4 at G
 try dsimp only at G
 refine Rp rfl ?_
 refine Ci (D9 _ _ []) 0 24 Ij rfl rfl ?_
 refine Ut fun B=>?_
 obtain rfl:=oi_ G
 exact⟨((found_4,W (k_3 + 1)),m3),bAn _,hn3,Cd []⟩
 refine ex_ ?_
 replace G:=sU G hn3
 refine Ay <| eE 32 40 B fun B=>?_
 refine Ly <| He (fun ((common_5,k_5):Bool×Int)=>mk [(12,.sl 4 (Ai Aa.enc y_5.1)),(14,.sl 4 (Ai Aa.enc y_6.1)),(21,.sl 2 (Ai Ap.enc y_10)),(22,vj i_2),(23,.val (.bool found_3)),(24,.val (.bool common_5)),(26,vj k_5)] [] 0) G (Cd []) ?_
 rintro⟨common_5,k_5⟩ m5 o5 G hn5
 unfold Aq.l5 at G
 try dsimp only at G
 refine Rp rfl ?_
 refine Ay <| eE 0 32 Ij fun B=>?_
 refine Kd rfl G (fun h43 G=>?_) fun h43 G=>?_
 refine sk_ ?_
 refine A4 (ι:=Bool) (fun (common_6:Bool)=>mk [(12,.sl 4 (Ai Aa.enc y_5.1)),(14,.sl 4 (Ai Aa.enc y_6.1)),(21,.sl 2 (Ai Ap.enc y_10)),(22,vj i_2),(23,.val (.bool found_3)),(24,.val (.bool common_6)),(26,vj k_5)] [] 0) (fun (common_6:Bool)=>Aq.j6 k_5 common_6=some o5) ?_ ?_
 refine Ly <| Bg (D9 _ _ []) (by kernel_rfl) [0,1,3,3,15,31,3,3,195,451,963,2047,4095,8191] 32 144 B rfl rfl (by kernel_rfl) ?_
 refine P9 ?_
 rcases bc_ G with ⟨h44,G⟩ | ⟨h44,G⟩
 refine Ut fun B=>?_
 exact⟨true,G,Cd []⟩
 refine P9 ?_
 obtain⟨e_4,he_4,G⟩:=An G
 refine P9 ?_
 refine lE_ he_4 ?_
 refine P9 ?_
 obtain⟨e_5,he_5,G⟩:=An G
 refine P9 ?_
 refine F0 (Mt rfl rfl h44) rfl (Jy aJ9 aHe (by decide) (aFk Aa.enc_len (D5 he_5) (o:=0) (by decide) rfl)) rfl rfl ?_
 refine F0 (Mt rfl rfl h44) rfl (I2 aHe (Jj Aa.enc_len (D5 he_5) (o:=0) (m:=2) (cs:=[.int .i64 e_5.Outcome.Version,.int .i64 e_5.Outcome.Suite]) rfl (by decide) rfl) (Ga Aa.enc_len (D5 he_5) (o:=0) (m:=2) (by decide) rfl)) rfl rfl ?_
 refine F0 (Mt rfl rfl h44) rfl (Pb e_4 e_5.Outcome) rfl rfl ?_
 refine Ut fun B=>?_
 exact⟨decide (e_4=e_5.Outcome),G,Cd []⟩
 rintro common_6 G
 unfold Aq.j6 at G
 try dsimp only at G
 refine Rp rfl ?_
 refine Ci (D9 _ _ []) 0 24 Ij rfl rfl ?_
 refine Ut fun B=>?_
 obtain rfl:=oi_ G
 exact⟨((common_6,W (k_5 + 1)),m5),bAn _,hn5,Cd []⟩
 refine ex_ ?_
 replace G:=sU G hn5
 refine A4 (ι:=Bool) (fun (x163_7:Bool)=>mk [(12,.sl 4 (Ai Aa.enc y_5.1)),(14,.sl 4 (Ai Aa.enc y_6.1)),(21,.sl 2 (Ai Ap.enc y_10)),(22,vj i_2),(163,.val (.bool x163_7))] [] 0) (fun (x163_7:Bool)=>Aq.j7 i_2 x163_7=some o2) ?_ ?_
 refine Ci (D9 _ _ []) 32 80 B rfl rfl ?_
 refine P9 ?_
 rcases bc_ G with ⟨h48,G⟩ | ⟨h48,G⟩
 refine Ut fun B=>?_
 exact⟨true,G,Cd []⟩
 refine Ut fun B=>?_
 exact⟨!common_5,G,Cd []⟩
 rintro x163_7 G
 unfold Aq.j7 at G
 try dsimp only at G
 refine Rp rfl ?_
 refine Kd rfl G (fun h51 G=>?_) fun h51 G=>?_
 refine eE 0 8 Ij fun B=>?_
 refine aCd ?_
 replace G:=sU G hn2
 exact t2_
 refine sk_ ?_
 refine Ci (D9 _ _ []) 0 24 Ij rfl rfl ?_
 refine Ut fun B=>?_
 obtain rfl:=oi_ G
 exact⟨(W (i_2 + 1),m2),bAn _,hn2,Cd []⟩
 refine ex_ ?_
 replace G:=sU G hn2
 refine jF 32 48 B ?_
 obtain⟨y_11,hy_11,G⟩:=An G
 refine L9 (jW hy_11) ?_
 exact t5_
instance wk4:Wk 4:=⟨_,@O5⟩
end Go.Proofs.YtobamahlipiakaaGreat
