import Derived.Test.YtchpcpaacenodaaGreatT1
import Derived.Test.YtchpcpaacenodaaGreatA2
import Derived.Test.YtchpcpaacenodaaGreatA3
set_option linter.unusedVariables false
set_option linter.unusedSimpArgs false
set_option maxRecDepth 100000
set_option maxHeartbeats 1600000
namespace Go.Proofs.YtchpcpaacenodaaGreat
open Go.RowKit
theorem Ic (data:List Aa) (a:Int) (b:Int) (cmp:Aa->Aa->Option (Int)) (hf_cmp:∀ (x0:Aa) (x1:Aa) (y:Int),cmp x0 x1=some y->Fn Tryz.prog 69 0 [.agg (Aa.dv x0),.agg (Aa.dv x1)] [] (fun d' b'=>d'=vk y/\b'=[])) (r:(List Aa)) (G:An data a b cmp=some r):Fn Tryz.prog 128 1 [.row 0,vk a,vk b,.clo 69 0 []] [.row 30 11 (Aq Aa.enc data)] (fun d' b'=>d'=.tup []/\b'=[.row 30 11 (Aq Aa.enc r)]):=by
 unfold An at G
 refine Fn.of Tryz.func128 rfl rfl rfl fun w0 I ρ0=>?_
 show B3 _ ⟨w0,I,ρ0,1,1,53⟩ _ _ _
 refine Bf 1 25 Ay fun B=>?_
 refine Ap <| Ji (fun ((i_1,data_1):Int×List Aa)=>mk [(0,.row 0),(1,vk a),(2,vk b),(3,.clo 69 0 []),(8,vk i_1)] [(0,.row 30 11 (Aq Aa.enc data_1))] 1) G (Ar [(0,0)]) ?_
 rintro⟨i_1,data_1⟩ m1 o1 G hn1
 replace G:An.l1 a b cmp i_1 data_1=some o1:=G
 show B3 _ _ _ _ (mk _ _ _)
 unfold An.l1 at G
 refine Aj <| Bf 1 25 Ay fun B=>?_
 refine Cp rfl G (fun h3 G=>?_) fun h3 G=>?_
 refine C8 ?_
 refine Aj <| Ap <| Bf 25 41 B fun B=>?_
 refine Ap <| Ji (fun ((j_2,data_2):Int×List Aa)=>mk [(0,.row 0),(1,vk a),(2,vk b),(3,.clo 69 0 []),(8,vk i_1),(9,vk j_2)] [(0,.row 30 11 (Aq Aa.enc data_2))] 1) G (Ar [(0,0)]) ?_
 rintro⟨j_2,data_2⟩ m2 o2 G hn2
 replace G:An.l2 a cmp i_1 j_2 data_2=some o2:=G
 show B3 _ _ _ _ (mk _ _ _)
 unfold An.l2 at G
 refine Aj <| Bo (ι:=Bool) (fun (x34_3:Bool)=>mk [(0,.row 0),(1,vk a),(2,vk b),(3,.clo 69 0 []),(8,vk i_1),(9,vk j_2),(34,.val (.bool x34_3))] [(0,.row 30 11 (Aq Aa.enc data_2))] 1) (fun (x34_3:Bool)=>An.j3 i_1 j_2 data_2 x34_3=some o2) ?_ ?_
 refine Bn (B6 _ _ []) (by kernel_rfl) [0,0,3,7,15,15,15,111,239,15,15,1039,3599,7695,16383,32767,65535] 1 137 Ay rfl rfl (by kernel_rfl) ?_
 refine As ?_
 rcases Dm G with ⟨h5,G⟩ | ⟨h5,G⟩
 refine As ?_
 obtain⟨e,he,G⟩:=Ab G
 refine As ?_
 refine Ln he ?_
 refine As ?_
 obtain⟨e_2,he_2,G⟩:=Ab G
 refine As ?_
 refine Ln he_2 ?_
 obtain⟨y,hy,G⟩:=Ab G
 refine Dg (rd:=[]) (ps:=[]) (gs:=[]) false (Eb rfl rfl h5) rfl (hf_cmp e e_2 _ hy) rfl rfl (.cons (.agg (.cons .val (.cons .val (.cons .val (.cons .val (.cons .val (.cons .val (.cons .val (.cons .val (.cons .val (.cons .val (.cons .val .nil)))))))))))) (.cons (.agg (.cons .val (.cons .val (.cons .val (.cons .val (.cons .val (.cons .val (.cons .val (.cons .val (.cons .val (.cons .val (.cons .val .nil)))))))))))) .nil)) rfl rfl (by intro h; cases h) rfl rfl rfl rfl ?_
 refine Bd fun B=>?_
 exact⟨decide (y < 0),G,Ar [(0,0)]⟩
 refine Bd fun B=>?_
 exact⟨false,G,Ar [(0,0)]⟩
 rintro x34_3 G
 replace G:An.j3 i_1 j_2 data_2 x34_3=some o2:=G
 show B3 _ _ _ _ (mk _ _ _)
 unfold An.j3 at G
 refine Cp rfl G (fun h8 G=>?_) fun h8 G=>?_
 refine C8 ?_
 refine Aj <| Ap <| Bn (B6 _ _ []) (by kernel_rfl) [0,0,0,0,8,0,0,64,224,480,0,0,3072,7168,16355,32739,65535,131071] 1 145 Ay rfl rfl (by kernel_rfl) ?_
 refine As ?_
 obtain⟨e_3,he_3,G⟩:=Ab G
 refine As ?_
 refine Ln he_3 ?_
 refine As ?_
 obtain⟨e_4,he_4,G⟩:=Ab G
 refine As ?_
 refine Ln he_4 ?_
 refine As ?_
 refine Vt I6 he_4 (x':=e_3) ?_
 obtain⟨e_5,he_5,G⟩:=Ab G
 refine As ?_
 refine Vt I6 he_5 (x':=e_4) ?_
 refine Gh fun B=>?_
 refine Ak (B6 _ _ []) 145 169 B rfl rfl ?_
 refine Bd fun B=>?_
 obtain rfl:=oi_ G
 exact⟨((W (j_2 - 1),Db (Db data_2 ((j_2).toNat) e_3) ((W (j_2 - 1)).toNat) e_4),m2),aCz _,hn2,Ar [(0,0)]⟩
 refine Je ?_
 replace G:=Cd G hn2
 refine Ak (B6 _ _ []) 1 25 Ay rfl rfl ?_
 refine Bd fun B=>?_
 obtain rfl:=oi_ G
 exact⟨((W (i_1 + 1),data_2),m1),aCz _,hn1,Ar [(0,0)]⟩
 refine Je ?_
 replace G:=Cd G hn1
 obtain rfl:=oi_ G
 exact Gg [(0,0)] ⟨rfl,rfl⟩
theorem F3 (data:List Aa) (lo:Int) (hi:Int) (first:Int) (cmp:Aa->Aa->Option (Int)) (hf_cmp:∀ (x0:Aa) (x1:Aa) (y:Int),cmp x0 x1=some y->Fn Tryz.prog 69 0 [.agg (Aa.dv x0),.agg (Aa.dv x1)] [] (fun d' b'=>d'=vk y/\b'=[])) (r:(List Aa)) (G:Ao data lo hi first cmp=some r):Fn Tryz.prog 149 1 [.row 0,vk lo,vk hi,vk first,.clo 69 0 []] [.row 30 11 (Aq Aa.enc data)] (fun d' b'=>d'=.tup []/\b'=[.row 30 11 (Aq Aa.enc r)]):=by
 unfold Ao at G
 refine Fn.of Tryz.func149 rfl rfl rfl fun w0 I ρ0=>?_
 show B3 _ ⟨w0,I,ρ0,1,1,82⟩ _ _ _
 refine Bf 1 17 Ay fun B=>?_
 refine Ap <| Ji (fun ((root_1,data_1):Int×List Aa)=>mk [(0,.row 0),(2,vk hi),(3,vk first),(4,.clo 69 0 []),(10,vk root_1)] [(0,.row 30 11 (Aq Aa.enc data_1))] 1) G (Ar [(0,0)]) ?_
 rintro⟨root_1,data_1⟩ m1 o1 G hn1
 replace G:Ao.l1 hi first cmp root_1 data_1=some o1:=G
 show B3 _ _ _ _ (mk _ _ _)
 unfold Ao.l1 at G
 refine Ap <| Bf 1 33 Ay fun B=>?_
 refine Aj <| Bf 33 57 B fun B=>?_
 refine Cp rfl G (fun h4 G=>?_) fun h4 G=>?_
 refine Je ?_
 replace G:=Cd G hn1
 obtain rfl:=oi_ G
 exact Gg [(0,0)] ⟨rfl,rfl⟩
 refine C8 ?_
 refine Bo (ι:=Int) (fun (child_3:Int)=>mk [(0,.row 0),(2,vk hi),(3,vk first),(4,.clo 69 0 []),(10,vk root_1),(11,vk child_3)] [(0,.row 30 11 (Aq Aa.enc data_1))] 1) (fun (child_3:Int)=>Ao.j3 first cmp root_1 data_1 child_3=some o1) ?_ ?_
 refine Bo (ι:=Bool) (fun (x40_2:Bool)=>mk [(0,.row 0),(2,vk hi),(3,vk first),(4,.clo 69 0 []),(10,vk root_1),(11,.val (.int .i64 (W ((W (2 * root_1)) + 1)))),(40,.val (.bool x40_2))] [(0,.row 30 11 (Aq Aa.enc data_1))] 1) (fun (x40_2:Bool)=>Ao.j2 first cmp root_1 data_1 x40_2=some o1) ?_ ?_
 refine Bn (B6 _ _ []) (by kernel_rfl) [0,1,0,7,15,31,31,31,31,415,991,2015,31,31,31,24607,57375,127007,258079,524287,1048575,2097151] 57 233 B rfl rfl (by kernel_rfl) ?_
 refine As ?_
 rcases Dm G with ⟨h5,G⟩ | ⟨h5,G⟩
 refine As ?_
 obtain⟨e,he,G⟩:=Ab G
 refine As ?_
 refine Ln he ?_
 refine As ?_
 obtain⟨e_2,he_2,G⟩:=Ab G
 refine As ?_
 refine Ln he_2 ?_
 obtain⟨y,hy,G⟩:=Ab G
 refine Dg (rd:=[]) (ps:=[]) (gs:=[]) false (Eb rfl rfl h5) rfl (hf_cmp e e_2 _ hy) rfl rfl (.cons (.agg (.cons .val (.cons .val (.cons .val (.cons .val (.cons .val (.cons .val (.cons .val (.cons .val (.cons .val (.cons .val (.cons .val .nil)))))))))))) (.cons (.agg (.cons .val (.cons .val (.cons .val (.cons .val (.cons .val (.cons .val (.cons .val (.cons .val (.cons .val (.cons .val (.cons .val .nil)))))))))))) .nil)) rfl rfl (by intro h; cases h) rfl rfl rfl rfl ?_
 refine Bd fun B=>?_
 exact⟨decide (y < 0),G,Ar [(0,0)]⟩
 refine Bd fun B=>?_
 exact⟨false,G,Ar [(0,0)]⟩
 rintro x40_2 G
 replace G:Ao.j2 first cmp root_1 data_1 x40_2=some o1:=G
 show B3 _ _ _ _ (mk _ _ _)
 unfold Ao.j2 at G
 refine Cp rfl G (fun h8 G=>?_) fun h8 G=>?_
 refine Ak (B6 _ _ []) 1 25 Ay rfl rfl ?_
 refine Bd fun B=>?_
 exact⟨W ((W ((W (2 * root_1)) + 1)) + 1),G,Ar [(0,0)]⟩
 refine C8 ?_
 exact⟨W ((W (2 * root_1)) + 1),G,Ar [(0,0)]⟩
 rintro child_3 G
 replace G:Ao.j3 first cmp root_1 data_1 child_3=some o1:=G
 show B3 _ _ _ _ (mk _ _ _)
 unfold Ao.j3 at G
 refine Aj <| Aj <| Bn (B6 _ _ []) (by kernel_rfl) [0,0,0,0,12,30,62,0,0,0,768,1920,3968,8191,16383,32767] 1 129 Ay rfl rfl (by kernel_rfl) ?_
 refine As ?_
 obtain⟨e_3,he_3,G⟩:=Ab G
 refine As ?_
 refine Ln he_3 ?_
 refine As ?_
 obtain⟨e_4,he_4,G⟩:=Ab G
 refine As ?_
 refine Ln he_4 ?_
 obtain⟨y_2,hy_2,G⟩:=Ab G
 refine Dg (rd:=[]) (ps:=[]) (gs:=[]) false rfl rfl (hf_cmp e_3 e_4 _ hy_2) rfl rfl (.cons (.agg (.cons .val (.cons .val (.cons .val (.cons .val (.cons .val (.cons .val (.cons .val (.cons .val (.cons .val (.cons .val (.cons .val .nil)))))))))))) (.cons (.agg (.cons .val (.cons .val (.cons .val (.cons .val (.cons .val (.cons .val (.cons .val (.cons .val (.cons .val (.cons .val (.cons .val .nil)))))))))))) .nil)) rfl rfl (by intro h; cases h) rfl rfl rfl rfl ?_
 refine Bd fun B=>?_
 refine Cp rfl G (fun h11 G=>?_) fun h11 G=>?_
 refine eZ ?_
 refine rp_ ?_
 replace G:=Cd G hn1
 obtain rfl:=oi_ G
 exact Gg [(0,0)] ⟨rfl,rfl⟩
 refine C8 ?_
 refine Aj <| Bn (B6 _ _ []) (by kernel_rfl) [0,0,0,6,0,0,0,96,0,0,0,1536,3840,7936,0,0,0,98304,245760,507904,1048335,2096911,4194303,8388607] 129 321 B rfl rfl (by kernel_rfl) ?_
 refine As ?_
 refine Ln he_4 ?_
 refine As ?_
 refine Ln he_3 ?_
 refine As ?_
 refine Vt I6 he_3 (x':=e_4) ?_
 obtain⟨e_5,he_5,G⟩:=Ab G
 refine As ?_
 refine Vt I6 he_5 (x':=e_3) ?_
 refine Gh fun B=>?_
 refine Ak (B6 _ _ []) 321 337 B rfl rfl ?_
 refine Bd fun B=>?_
 obtain rfl:=oi_ G
 exact⟨((child_3,Db (Db data_1 ((W (first + root_1)).toNat) e_4) ((W (first + child_3)).toNat) e_3),m1),aCz _,hn1,Ar [(0,0)]⟩
theorem Jc (data:List Aa) (a:Int) (b:Int) (cmp:Aa->Aa->Option (Int)) (hf_cmp:∀ (x0:Aa) (x1:Aa) (y:Int),cmp x0 x1=some y->Fn Tryz.prog 69 0 [.agg (Aa.dv x0),.agg (Aa.dv x1)] [] (fun d' b'=>d'=vk y/\b'=[])) (r:(List Aa)) (G:A3 data a b cmp=some r):Fn Tryz.prog 129 1 [.row 0,vk a,vk b,.clo 69 0 []] [.row 30 11 (Aq Aa.enc data)] (fun d' b'=>d'=.tup []/\b'=[.row 30 11 (Aq Aa.enc r)]):=by
 unfold A3 at G
 refine Fn.of Tryz.func129 rfl rfl rfl fun w0 I ρ0=>?_
 show B3 _ ⟨w0,I,ρ0,1,1,60⟩ _ _ _
 refine Bf 1 17 Ay fun B=>?_
 refine Bf 17 25 B fun B=>?_
 refine Bf 25 57 B fun B=>?_
 refine Aj <| Cc 57 89 B ?_
 refine As ?_
 obtain⟨q,hq,G⟩:=Ab G
 refine C0 rfl rfl (Tj hq) rfl rfl ?_
 refine Bd fun B=>?_
 refine Ap <| Ji (fun ((i_1,data_1):Int×List Aa)=>mk [(0,.row 0),(3,.clo 69 0 []),(8,vk a),(9,.val (.int .i64 0)),(10,.val (.int .i64 (W (b - a)))),(11,vk i_1)] [(0,.row 30 11 (Aq Aa.enc data_1))] 1) G (Ar [(0,0)]) ?_
 rintro⟨i_1,data_1⟩ m1 o1 G hn1
 replace G:A3.l1 a b cmp i_1 data_1=some o1:=G
 show B3 _ _ _ _ (mk _ _ _)
 unfold A3.l1 at G
 refine Aj <| Bf 1 17 Ay fun B=>?_
 refine Cp rfl G (fun h6 G=>?_) fun h6 G=>?_
 refine C8 ?_
 refine Aj <| Ap <| Ak (B6 _ _ []) 17 65 B rfl rfl ?_
 refine As ?_
 obtain⟨y,hy,G⟩:=Ab G
 refine F9 [0] [0] [] false (F3 data_1 i_1 (W (b - a)) a cmp hf_cmp _ hy) ?_
 refine Gh fun B=>?_
 refine Ak (B6 _ _ []) 65 89 B rfl rfl ?_
 refine Bd fun B=>?_
 obtain rfl:=oi_ G
 exact⟨((W (i_1 - 1),y),m1),aCz _,hn1,Ar [(0,0)]⟩
 refine Je ?_
 replace G:=Cd G hn1
 refine Bf 17 41 B fun B=>?_
 refine Ap <| Ji (fun ((i_2,data_2):Int×List Aa)=>mk [(0,.row 0),(3,.clo 69 0 []),(8,vk a),(9,.val (.int .i64 0)),(12,vk i_2)] [(0,.row 30 11 (Aq Aa.enc data_2))] 1) G (Ar [(0,0)]) ?_
 rintro⟨i_2,data_2⟩ m2 o2 G hn2
 replace G:A3.l2 a cmp i_2 data_2=some o2:=G
 show B3 _ _ _ _ (mk _ _ _)
 unfold A3.l2 at G
 refine Aj <| Bf 1 17 Ay fun B=>?_
 refine Cp rfl G (fun h11 G=>?_) fun h11 G=>?_
 refine C8 ?_
 refine Aj <| Ap <| Aj <| Bn (B6 _ _ []) (by kernel_rfl) [0,0,0,0,0,24,0,0,0,384,960,1984,0,0,12288,28672,65475,131011,262143,524287] 17 177 B rfl rfl (by kernel_rfl) ?_
 refine As ?_
 obtain⟨e,he,G⟩:=Ab G
 refine As ?_
 refine Ln he ?_
 refine As ?_
 obtain⟨e_2,he_2,G⟩:=Ab G
 refine As ?_
 refine Ln he_2 ?_
 refine As ?_
 refine Vt I6 he_2 (x':=e) ?_
 obtain⟨e_3,he_3,G⟩:=Ab G
 refine As ?_
 refine Vt I6 he_3 (x':=e_2) ?_
 refine Gh fun B=>?_
 refine Ak (B6 _ _ []) 177 225 B rfl rfl ?_
 refine As ?_
 obtain⟨y_2,hy_2,G⟩:=Ab G
 refine F9 [0] [0] [] false (F3 (Db (Db data_2 ((a).toNat) e) ((W (a + i_2)).toNat) e_2) 0 i_2 a cmp hf_cmp _ hy_2) ?_
 refine Gh fun B=>?_
 refine Ak (B6 _ _ []) 225 249 B rfl rfl ?_
 refine Bd fun B=>?_
 obtain rfl:=oi_ G
 exact⟨((W (i_2 - 1),y_2),m2),aCz _,hn2,Ar [(0,0)]⟩
 refine Je ?_
 replace G:=Cd G hn2
 obtain rfl:=oi_ G
 exact Gg [(0,0)] ⟨rfl,rfl⟩
theorem Ra (length:Int) (r:Int) (G:Gb length=some r):Fn Tryz.prog 150 0 [vk length] [] (fun d' b'=>d'=.val (.int .u64 r)/\b'=[]):=by
 unfold Gb at G
 refine Fn.of Tryz.func150 rfl rfl rfl fun w0 I ρ0=>?_
 show B3 _ ⟨w0,I,ρ0,0,0,7⟩ _ _ _
 refine Bf 0 8 Ay fun B=>?_
 refine Cc 8 48 B ?_
 refine As ?_
 refine C0 rfl rfl (Zq Ni kU) rfl rfl ?_
 obtain⟨y,hy,G⟩:=Ab G
 refine Dh (S0 _ _ hy) ?_
 obtain⟨q,hq,G⟩:=Ab G
 refine C0 rfl rfl (lT hq) rfl rfl ?_
 exact De
theorem R9 (r':Int) (r:Int×Int) (G:Gp r'=some r):Fn Tryz.prog 151 1 [.ptr 0 0] [.box [.val (.int .u64 r')] 173] (fun d' b'=>d'=.val (.int .u64 r.1)/\b'=[.box [.val (.int .u64 r.2)] 173]):=by
 unfold Gp at G
 refine Fn.of Tryz.func151 rfl rfl rfl fun w0 I ρ0=>?_
 show B3 _ ⟨w0,I,ρ0,1,1,33⟩ _ _ _
 refine Bf 1 9 Ay fun B=>?_
 refine Aj <| Bn (B6 _ _ []) (by kernel_rfl) [0,1,3,0,8,24,56,127,255,511] 9 89 B rfl rfl (by kernel_rfl) ?_
 refine As ?_
 obtain⟨q,hq,G⟩:=Ab G
 refine C0 rfl rfl (lT hq) rfl rfl ?_
 refine C0 rfl rfl fE rfl rfl ?_
 refine Bd fun B=>?_
 refine Aj <| Bn (B6 _ _ []) (by kernel_rfl) [0,1,3,0,8,24,56,127,255,511] 89 169 B rfl rfl (by kernel_rfl) ?_
 refine As ?_
 obtain⟨q_2,hq_2,G⟩:=Ab G
 refine C0 rfl rfl (Oc hq_2) rfl rfl ?_
 refine C0 rfl rfl fE rfl rfl ?_
 refine Bd fun B=>?_
 refine Aj <| Bn (B6 _ _ []) (by kernel_rfl) [0,1,3,0,8,24,56,127,255,511] 169 249 B rfl rfl (by kernel_rfl) ?_
 refine As ?_
 obtain⟨q_3,hq_3,G⟩:=Ab G
 refine C0 rfl rfl (lT hq_3) rfl rfl ?_
 refine C0 rfl rfl fE rfl rfl ?_
 refine Bd fun B=>?_
 refine Bf 249 281 B fun B=>?_
 refine E2 ?_
 obtain rfl:=oi_ G
 exact Gg [(0,0)] ⟨rfl,rfl⟩
theorem Ii (data:List Aa) (a:Int) (b:Int) (cmp:Aa->Aa->Option (Int)) (hf_cmp:∀ (x0:Aa) (x1:Aa) (y:Int),cmp x0 x1=some y->Fn Tryz.prog 69 0 [.agg (Aa.dv x0),.agg (Aa.dv x1)] [] (fun d' b'=>d'=vk y/\b'=[])) (r:(List Aa)) (G:Az data a b cmp=some r):Fn Tryz.prog 130 1 [.row 0,vk a,vk b,.clo 69 0 []] [.row 30 11 (Aq Aa.enc data)] (fun d' b'=>d'=.tup []/\b'=[.row 30 11 (Aq Aa.enc r)]):=by
 unfold Az at G
 refine Fn.of Tryz.func130 rfl rfl rfl fun w0 I ρ0=>?_
 show B3 _ ⟨w0,I,ρ0,1,1,67⟩ _ _ _
 refine Bf 1 33 Ay fun B=>?_
 refine Bf 33 49 B fun B=>?_
 refine Cp rfl G (fun h3 G=>?_) fun h3 G=>?_
 refine Cc 49 81 B ?_
 refine As ?_
 refine C0 rfl rfl (Zq Ni aA0) rfl rfl ?_
 refine Bd fun B=>?_
 refine Cc 81 105 B ?_
 refine As ?_
 obtain⟨y,hy,G⟩:=Ab G
 refine Dh (Ra _ _ hy) ?_
 refine Bd fun B=>?_
 refine Cc 105 161 B ?_
 refine As ?_
 obtain⟨q,hq,G⟩:=Ab G
 refine C0 rfl rfl (Tj hq) rfl rfl ?_
 refine Bd fun B=>?_
 refine Ap <| Ji (fun ((idx_1,data_1,random_1):Int×List Aa×Int)=>mk [(0,.row 0),(1,vk a),(8,.val (.int .i64 (W (b - a)))),(9,.ptr 1 0),(10,.val (.int .u64 y)),(11,vk idx_1)] [(0,.row 30 11 (Aq Aa.enc data_1)),(1,.box [.val (.int .u64 random_1)] 173)] 2) G (Ar [(0,0),(1,65)]) ?_
 rintro⟨idx_1,data_1,random_1⟩ m1 o1 G hn1
 replace G:Az.l1 a b y idx_1 data_1 random_1=some o1:=G
 show B3 _ _ _ _ (mk _ _ _)
 unfold Az.l1 at G
 refine Aj <| Cc 2 66 Ay ?_
 refine As ?_
 obtain⟨q_2,hq_2,G⟩:=Ab G
 refine C0 rfl rfl (Tj hq_2) rfl rfl ?_
 refine Bd fun B=>?_
 refine Cp rfl G (fun h8 G=>?_) fun h8 G=>?_
 refine C8 ?_
 refine Aj <| Ap <| Cc 66 114 B ?_
 obtain⟨y_2,hy_2,G⟩:=Ab G
 refine F9 [1] [1] [] false (R9 _ _ hy_2) ?_
 refine As ?_
 refine C0 rfl rfl aCu rfl rfl ?_
 refine C0 rfl rfl aB4 rfl rfl ?_
 refine C0 rfl rfl (bC kU Ni) rfl rfl ?_
 refine Bd fun B=>?_
 refine Bo (ι:=Int) (fun (other_2:Int)=>mk [(0,.row 0),(1,vk a),(8,.val (.int .i64 (W (b - a)))),(9,.ptr 1 0),(10,.val (.int .u64 y)),(11,vk idx_1),(12,vk other_2)] [(0,.row 30 11 (Aq Aa.enc data_1)),(1,.box [.val (.int .u64 y_2.2)] 173)] 2) (fun (other_2:Int)=>Az.j2 a idx_1 data_1 y_2 other_2=some o1) ?_ ?_
 refine Bf 114 138 B fun B=>?_
 refine Cp rfl G (fun h11 G=>?_) fun h11 G=>?_
 refine Ak (B6 _ _ []) 138 170 B rfl rfl ?_
 refine Bd fun B=>?_
 exact⟨W ((W (jI .u64 y_2.1 (IntKind.wrap .u64 (y - 1)))) - (W (b - a))),G,Ar [(0,0),(1,1)]⟩
 refine C8 ?_
 exact⟨W (jI .u64 y_2.1 (IntKind.wrap .u64 (y - 1))),G,Ar [(0,0),(1,1)]⟩
 rintro other_2 G
 replace G:Az.j2 a idx_1 data_1 y_2 other_2=some o1:=G
 show B3 _ _ _ _ (mk _ _ _)
 unfold Az.j2 at G
 refine Bn (B6 _ _ []) (by kernel_rfl) [0,0,0,0,0,24,0,0,0,384,960,1984,0,0,12288,28672,65475,131011,262143,524287] 2 162 Ay rfl rfl (by kernel_rfl) ?_
 refine As ?_
 obtain⟨e,he,G⟩:=Ab G
 refine As ?_
 refine Ln he ?_
 refine As ?_
 obtain⟨e_2,he_2,G⟩:=Ab G
 refine As ?_
 refine Ln he_2 ?_
 refine As ?_
 refine Vt I6 he_2 (x':=e) ?_
 obtain⟨e_3,he_3,G⟩:=Ab G
 refine As ?_
 refine Vt I6 he_3 (x':=e_2) ?_
 refine Gh fun B=>?_
 refine Ak (B6 _ _ []) 162 186 B rfl rfl ?_
 refine Bd fun B=>?_
 obtain rfl:=oi_ G
 exact⟨((W (idx_1 + 1),Db (Db data_1 ((idx_1).toNat) e) ((W (a + other_2)).toNat) e_2,y_2.2),m1),aCz _,hn1,Ar [(0,0),(1,1)]⟩
 refine Je ?_
 replace G:=Cd G hn1
 obtain rfl:=oi_ G
 exact Gg [(0,0)] ⟨rfl,rfl⟩
 refine C8 ?_
 obtain rfl:=oi_ G
 exact Gg [(0,0)] ⟨rfl,rfl⟩
theorem E1 (data:(List Aa)) (a:Int) (b:Int) (swaps:Int) (cmp:Aa->Aa->Option (Int)) (hf_cmp:∀ (x0:Aa) (x1:Aa) (y:Int),cmp x0 x1=some y->Fn Tryz.prog 69 0 [.agg (Aa.dv x0),.agg (Aa.dv x1)] [] (fun d' b'=>d'=vk y/\b'=[])) (r:Int×Int×Int) (G:Dp data a b swaps cmp=some r):Fn Tryz.prog 164 1 [.sl 11 (Aq Aa.enc data),vk a,vk b,.ptr 0 0,.clo 69 0 []] [.box [vk swaps] 3] (fun d' b'=>d'=.tup [vk r.1,vk r.2.1]/\b'=[.box [vk r.2.2] 3]):=by
 unfold Dp at G
 refine Fn.of Tryz.func164 rfl rfl rfl fun w0 I ρ0=>?_
 show B3 _ ⟨w0,I,ρ0,1,1,32⟩ _ _ _
 refine Bf 1 17 Ay fun B=>?_
 refine Aj <| Aj <| Bn (B6 _ _ []) (by kernel_rfl) [0,0,0,6,14,0,0,96,224,511,1023] 17 105 B rfl rfl (by kernel_rfl) ?_
 refine As ?_
 obtain⟨e,he,G⟩:=Ab G
 refine As ?_
 refine gZ he ?_
 refine As ?_
 obtain⟨e_2,he_2,G⟩:=Ab G
 refine As ?_
 refine gZ he_2 ?_
 obtain⟨y,hy,G⟩:=Ab G
 refine Dg (rd:=[]) (ps:=[]) (gs:=[]) false rfl rfl (hf_cmp e e_2 _ hy) rfl rfl (.cons (.agg (.cons .val (.cons .val (.cons .val (.cons .val (.cons .val (.cons .val (.cons .val (.cons .val (.cons .val (.cons .val (.cons .val .nil)))))))))))) (.cons (.agg (.cons .val (.cons .val (.cons .val (.cons .val (.cons .val (.cons .val (.cons .val (.cons .val (.cons .val (.cons .val (.cons .val .nil)))))))))))) .nil)) rfl rfl (by intro h; cases h) rfl rfl rfl rfl ?_
 refine Bd fun B=>?_
 refine Cp rfl G (fun h3 G=>?_) fun h3 G=>?_
 refine Bf 105 153 B fun B=>?_
 refine Bf 153 185 B fun B=>?_
 refine E2 ?_
 obtain rfl:=oi_ G
 exact Gg [(0,0)] ⟨rfl,rfl⟩
 refine C8 ?_
 refine Bf 105 137 B fun B=>?_
 refine E2 ?_
 obtain rfl:=oi_ G
 exact Gg [(0,0)] ⟨rfl,rfl⟩
theorem Ge (data:(List Aa)) (a:Int) (b:Int) (c:Int) (swaps:Int) (cmp:Aa->Aa->Option (Int)) (hf_cmp:∀ (x0:Aa) (x1:Aa) (y:Int),cmp x0 x1=some y->Fn Tryz.prog 69 0 [.agg (Aa.dv x0),.agg (Aa.dv x1)] [] (fun d' b'=>d'=vk y/\b'=[])) (r:Int×Int) (G:D1 data a b c swaps cmp=some r):Fn Tryz.prog 153 1 [.sl 11 (Aq Aa.enc data),vk a,vk b,vk c,.ptr 0 0,.clo 69 0 []] [.box [vk swaps] 3] (fun d' b'=>d'=vk r.1/\b'=[.box [vk r.2] 3]):=by
 unfold D1 at G
 refine Fn.of Tryz.func153 rfl rfl rfl fun w0 I ρ0=>?_
 show B3 _ ⟨w0,I,ρ0,1,1,41⟩ _ _ _
 refine Bf 1 9 Ay fun B=>?_
 refine Cc 9 97 B ?_
 refine As ?_
 obtain⟨y,hy,G⟩:=Ab G
 refine F9 [0] [0] [] false (E1 data a b swaps cmp hf_cmp _ hy) ?_
 refine Bd fun B=>?_
 refine Cc 97 185 B ?_
 refine As ?_
 obtain⟨y_2,hy_2,G⟩:=Ab G
 refine F9 [0] [0] [] false (E1 data y.2.1 c y.2.2 cmp hf_cmp _ hy_2) ?_
 refine Bd fun B=>?_
 refine Cc 185 273 B ?_
 refine As ?_
 obtain⟨y_3,hy_3,G⟩:=Ab G
 refine F9 [0] [0] [] false (E1 data y.1 y_2.1 y_2.2.2 cmp hf_cmp _ hy_3) ?_
 refine Bd fun B=>?_
 refine Bf 273 289 B fun B=>?_
 refine E2 ?_
 obtain rfl:=oi_ G
 exact Gg [(0,0)] ⟨rfl,rfl⟩
theorem Ef (data:(List Aa)) (a:Int) (swaps:Int) (cmp:Aa->Aa->Option (Int)) (hf_cmp:∀ (x0:Aa) (x1:Aa) (y:Int),cmp x0 x1=some y->Fn Tryz.prog 69 0 [.agg (Aa.dv x0),.agg (Aa.dv x1)] [] (fun d' b'=>d'=vk y/\b'=[])) (r:Int×Int) (G:Cu data a swaps cmp=some r):Fn Tryz.prog 152 1 [.sl 11 (Aq Aa.enc data),vk a,.ptr 0 0,.clo 69 0 []] [.box [vk swaps] 3] (fun d' b'=>d'=vk r.1/\b'=[.box [vk r.2] 3]):=by
 unfold Cu at G
 refine Fn.of Tryz.func152 rfl rfl rfl fun w0 I ρ0=>?_
 show B3 _ ⟨w0,I,ρ0,1,1,18⟩ _ _ _
 refine Bf 1 9 Ay fun B=>?_
 refine Cc 9 89 B ?_
 refine As ?_
 obtain⟨y,hy,G⟩:=Ab G
 refine F9 [0] [0] [] false (Ge data (W (a - 1)) a (W (a + 1)) swaps cmp hf_cmp _ hy) ?_
 refine Bd fun B=>?_
 refine E2 ?_
 obtain rfl:=oi_ G
 exact Gg [(0,0)] ⟨rfl,rfl⟩
theorem Iv (data:(List Aa)) (a:Int) (b:Int) (cmp:Aa->Aa->Option (Int)) (hf_cmp:∀ (x0:Aa) (x1:Aa) (y:Int),cmp x0 x1=some y->Fn Tryz.prog 69 0 [.agg (Aa.dv x0),.agg (Aa.dv x1)] [] (fun d' b'=>d'=vk y/\b'=[])) (r:Int×Int) (G:A5 data a b cmp=some r):Fn Tryz.prog 131 0 [.sl 11 (Aq Aa.enc data),vk a,vk b,.clo 69 0 []] [] (fun d' b'=>d'=.tup [vk r.1,vk r.2]/\b'=[]):=by
 unfold A5 at G
 refine Fn.of Tryz.func131 rfl rfl rfl fun w0 I ρ0=>?_
 show B3 _ ⟨w0,I,ρ0,0,0,63⟩ _ _ _
 refine Bf 0 16 Ay fun B=>?_
 refine Bf 16 48 B fun B=>?_
 refine Bf 48 56 B fun B=>?_
 refine Cc 56 104 B ?_
 refine As ?_
 obtain⟨q,hq,G⟩:=Ab G
 refine C0 rfl rfl (Tj hq) rfl rfl ?_
 refine Bd fun B=>?_
 refine Cc 104 152 B ?_
 refine As ?_
 obtain⟨q_2,hq_2,G⟩:=Ab G
 refine C0 rfl rfl (Tj hq_2) rfl rfl ?_
 refine Bd fun B=>?_
 refine Cc 152 200 B ?_
 refine As ?_
 obtain⟨q_3,hq_3,G⟩:=Ab G
 refine C0 rfl rfl (Tj hq_3) rfl rfl ?_
 refine Bd fun B=>?_
 refine Bo (ι:=Int×Int) (fun ((j_2,swaps_2):Int×Int)=>mk [(11,.ptr 0 0),(13,vk j_2)] [(0,.box [vk swaps_2] 3)] 1) (fun ((j_2,swaps_2):Int×Int)=>A5.j2 j_2 swaps_2=some r) ?_ ?_
 refine Bf 200 216 B fun B=>?_
 refine Cp rfl G (fun h8 G=>?_) fun h8 G=>?_
 refine Bo (ι:=Int×Int×Int×Int) (fun ((i_1,j_1,k_1,swaps_1):Int×Int×Int×Int)=>mk [(0,.sl 11 (Aq Aa.enc data)),(3,.clo 69 0 []),(11,.ptr 0 0),(12,vk i_1),(13,vk j_1),(14,vk k_1)] [(0,.box [vk swaps_1] 3)] 1) (fun ((i_1,j_1,k_1,swaps_1):Int×Int×Int×Int)=>A5.j1 data cmp i_1 j_1 k_1 swaps_1=some r) ?_ ?_
 refine Bf 216 232 B fun B=>?_
 refine Cp rfl G (fun h10 G=>?_) fun h10 G=>?_
 refine Cc 232 272 B ?_
 refine As ?_
 obtain⟨y,hy,G⟩:=Ab G
 refine F9 [48] [48] [] false (Ef data (W (a + (W (q * 1)))) 0 cmp hf_cmp _ hy) ?_
 refine Bd fun B=>?_
 refine Cc 272 312 B ?_
 refine As ?_
 obtain⟨y_2,hy_2,G⟩:=Ab G
 refine F9 [48] [48] [] false (Ef data (W (a + (W (q_2 * 2)))) y.2 cmp hf_cmp _ hy_2) ?_
 refine Bd fun B=>?_
 refine Ak (B6 _ _ []) 312 352 B rfl rfl ?_
 refine As ?_
 obtain⟨y_3,hy_3,G⟩:=Ab G
 refine F9 [48] [48] [] false (Ef data (W (a + (W (q_3 * 3)))) y_2.2 cmp hf_cmp _ hy_3) ?_
 refine Bd fun B=>?_
 exact⟨(y.1,y_2.1,y_3.1,y_3.2),G,Ar [(0,48)]⟩
 refine C8 ?_
 exact⟨(W (a + (W (q * 1))),W (a + (W (q_2 * 2))),W (a + (W (q_3 * 3))),0),G,Ar [(0,48)]⟩
 rintro⟨i_1,j_1,k_1,swaps_1⟩ G
 replace G:A5.j1 data cmp i_1 j_1 k_1 swaps_1=some r:=G
 show B3 _ _ _ _ (mk _ _ _)
 unfold A5.j1 at G
 refine Ak (B6 _ _ []) 1 57 Ay rfl rfl ?_
 refine As ?_
 obtain⟨y_4,hy_4,G⟩:=Ab G
 refine F9 [0] [0] [] false (Ge data i_1 j_1 k_1 swaps_1 cmp hf_cmp _ hy_4) ?_
 refine Bd fun B=>?_
 exact⟨(y_4.1,y_4.2),G,Ar [(0,0)]⟩
 refine C8 ?_
 exact⟨(W (a + (W (q_2 * 2))),0),G,Ar [(0,48)]⟩
 rintro⟨j_2,swaps_2⟩ G
 replace G:A5.j2 j_2 swaps_2=some r:=G
 show B3 _ _ _ _ (mk _ _ _)
 unfold A5.j2 at G
 refine Bf 1 9 Ay fun B=>?_
 refine Ap <| Bf 9 25 B fun B=>?_
 refine Cp rfl G (fun h17 G=>?_) fun h17 G=>?_
 refine Cc 25 49 B ?_
 exact De
 refine Bf 25 41 B fun B=>?_
 refine Cp rfl G (fun h20 G=>?_) fun h20 G=>?_
 refine Cc 41 65 B ?_
 exact De
 refine Cc 41 65 B ?_
 exact De
theorem Ik (data:List Aa) (a:Int) (b:Int) (cmp:Aa->Aa->Option (Int)) (hf_cmp:∀ (x0:Aa) (x1:Aa) (y:Int),cmp x0 x1=some y->Fn Tryz.prog 69 0 [.agg (Aa.dv x0),.agg (Aa.dv x1)] [] (fun d' b'=>d'=vk y/\b'=[])) (r:(List Aa)) (G:Bg data a b cmp=some r):Fn Tryz.prog 132 1 [.row 0,vk a,vk b,.clo 69 0 []] [.row 30 11 (Aq Aa.enc data)] (fun d' b'=>d'=.tup []/\b'=[.row 30 11 (Aq Aa.enc r)]):=by
 unfold Bg at G
 refine Fn.of Tryz.func132 rfl rfl rfl fun w0 I ρ0=>?_
 show B3 _ ⟨w0,I,ρ0,1,1,34⟩ _ _ _
 refine Bf 1 17 Ay fun B=>?_
 refine Bf 17 41 B fun B=>?_
 refine Ap <| Ji (fun ((i_1,j_1,data_1):Int×Int×List Aa)=>mk [(0,.row 0),(8,vk i_1),(9,vk j_1)] [(0,.row 30 11 (Aq Aa.enc data_1))] 1) G (Ar [(0,0)]) ?_
 rintro⟨i_1,j_1,data_1⟩ m1 o1 G hn1
 replace G:Bg.l1 i_1 j_1 data_1=some o1:=G
 show B3 _ _ _ _ (mk _ _ _)
 unfold Bg.l1 at G
 refine Aj <| Bf 1 25 Ay fun B=>?_
 refine Cp rfl G (fun h4 G=>?_) fun h4 G=>?_
 refine C8 ?_
 refine Ap <| Aj <| Bn (B6 _ _ []) (by kernel_rfl) [0,0,0,0,0,0,48,112,0,0,768,1792,4083,8179,16383,32767] 25 153 B rfl rfl (by kernel_rfl) ?_
 refine As ?_
 obtain⟨e,he,G⟩:=Ab G
 refine As ?_
 refine Ln he ?_
 refine As ?_
 obtain⟨e_2,he_2,G⟩:=Ab G
 refine As ?_
 refine Ln he_2 ?_
 refine As ?_
 refine Vt I6 he_2 (x':=e) ?_
 obtain⟨e_3,he_3,G⟩:=Ab G
 refine As ?_
 refine Vt I6 he_3 (x':=e_2) ?_
 refine Gh fun B=>?_
 refine Bf 153 177 B fun B=>?_
 refine Ak (B6 _ _ []) 177 201 B rfl rfl ?_
 refine Bd fun B=>?_
 obtain rfl:=oi_ G
 exact⟨((W (i_1 + 1),W (j_1 - 1),Db (Db data_1 ((i_1).toNat) e) ((j_1).toNat) e_2),m1),aCz _,hn1,Ar [(0,0)]⟩
 refine Je ?_
 replace G:=Cd G hn1
 obtain rfl:=oi_ G
 exact Gg [(0,0)] ⟨rfl,rfl⟩
theorem G8 (data:List Aa) (a:Int) (b:Int) (cmp:Aa->Aa->Option (Int)) (hf_cmp:∀ (x0:Aa) (x1:Aa) (y:Int),cmp x0 x1=some y->Fn Tryz.prog 69 0 [.agg (Aa.dv x0),.agg (Aa.dv x1)] [] (fun d' b'=>d'=vk y/\b'=[])) (r:Bool×(List Aa)) (G:Ad data a b cmp=some r):Fn Tryz.prog 133 1 [.row 0,vk a,vk b,.clo 69 0 []] [.row 30 11 (Aq Aa.enc data)] (fun d' b'=>d'=.val (.bool r.1)/\b'=[.row 30 11 (Aq Aa.enc r.2)]):=by
 unfold Ad at G
 refine Fn.of Tryz.func133 rfl rfl rfl fun w0 I ρ0=>?_
 show B3 _ ⟨w0,I,ρ0,1,1,141⟩ _ _ _
 refine Bf 1 9 Ay fun B=>?_
 refine Bf 9 33 B fun B=>?_
 refine Aj <| Bf 33 41 B fun B=>?_
 refine Ap <| Ji (fun ((i_1,j_1,data_1):Int×Int×List Aa)=>mk [(0,.row 0),(1,vk a),(2,vk b),(3,.clo 69 0 []),(9,vk i_1),(10,vk j_1)] [(0,.row 30 11 (Aq Aa.enc data_1))] 1) G (Ar [(0,0)]) ?_
 rintro⟨i_1,j_1,data_1⟩ m1 o1 G hn1
 replace G:Ad.l1 a b cmp i_1 j_1 data_1=some o1:=G
 show B3 _ _ _ _ (mk _ _ _)
 unfold Ad.l1 at G
 refine Aj <| Bf 1 17 Ay fun B=>?_
 refine Cp rfl G (fun h5 G=>?_) fun h5 G=>?_
 refine C8 ?_
 refine Bo (ι:=Int×List Aa) (fun ((i_7,data_7):Int×List Aa)=>mk [(0,.row 0),(1,vk a),(2,vk b),(3,.clo 69 0 []),(9,vk i_7),(10,vk j_1)] [(0,.row 30 11 (Aq Aa.enc data_7))] 1) (fun ((i_7,data_7):Int×List Aa)=>Ad.j7 j_1 i_7 data_7=some o1) ?_ ?_
 refine Ap <| Aj <| Ap <| Ji (fun (i_2:Int)=>mk [(0,.row 0),(1,vk a),(2,vk b),(3,.clo 69 0 []),(9,vk i_2),(10,vk j_1)] [(0,.row 30 11 (Aq Aa.enc data_1))] 1) G (Ar [(0,0)]) ?_
 rintro i_2 m2 o2 G hn2
 replace G:Ad.l2 a b cmp j_1 data_1 i_2=some o2:=G
 show B3 _ _ _ _ (mk _ _ _)
 unfold Ad.l2 at G
 refine Aj <| Bo (ι:=Bool) (fun (x36_3:Bool)=>mk [(0,.row 0),(1,vk a),(2,vk b),(3,.clo 69 0 []),(9,vk i_2),(10,vk j_1),(36,.val (.bool x36_3))] [(0,.row 30 11 (Aq Aa.enc data_1))] 1) (fun (x36_3:Bool)=>Ad.j3 a b cmp j_1 data_1 i_2 x36_3=some o2) ?_ ?_
 refine Bn (B6 _ _ []) (by kernel_rfl) [0,0,3,7,15,15,15,111,239,15,15,1039,3599,7695,16383,32767,65535,131071] 1 145 Ay rfl rfl (by kernel_rfl) ?_
 refine As ?_
 rcases Dm G with ⟨h6,G⟩ | ⟨h6,G⟩
 refine As ?_
 obtain⟨e,he,G⟩:=Ab G
 refine As ?_
 refine Ln he ?_
 refine As ?_
 obtain⟨e_2,he_2,G⟩:=Ab G
 refine As ?_
 refine Ln he_2 ?_
 obtain⟨y,hy,G⟩:=Ab G
 refine Dg (rd:=[]) (ps:=[]) (gs:=[]) false (Eb rfl rfl h6) rfl (hf_cmp e e_2 _ hy) rfl rfl (.cons (.agg (.cons .val (.cons .val (.cons .val (.cons .val (.cons .val (.cons .val (.cons .val (.cons .val (.cons .val (.cons .val (.cons .val .nil)))))))))))) (.cons (.agg (.cons .val (.cons .val (.cons .val (.cons .val (.cons .val (.cons .val (.cons .val (.cons .val (.cons .val (.cons .val (.cons .val .nil)))))))))))) .nil)) rfl rfl (by intro h; cases h) rfl rfl rfl rfl ?_
 refine Bd fun B=>?_
 exact⟨!(decide (y < 0)),G,Ar [(0,0)]⟩
 refine Bd fun B=>?_
 exact⟨false,G,Ar [(0,0)]⟩
 rintro x36_3 G
 replace G:Ad.j3 a b cmp j_1 data_1 i_2 x36_3=some o2:=G
 show B3 _ _ _ _ (mk _ _ _)
 unfold Ad.j3 at G
 refine Cp rfl G (fun h9 G=>?_) fun h9 G=>?_
 refine C8 ?_
 refine Ap <| Ak (B6 _ _ []) 1 25 Ay rfl rfl ?_
 refine Bd fun B=>?_
 obtain rfl:=oi_ G
 exact⟨(W (i_2 + 1),m2),aCz _,hn2,Ar [(0,0)]⟩
 refine Je ?_
 replace G:=Cd G hn2
 refine Aj <| Bf 1 25 Ay fun B=>?_
 refine Cp rfl G (fun h12 G=>?_) fun h12 G=>?_
 refine Bf 25 33 B fun B=>?_
 refine E2 ?_
 replace G:=Cd G hn1
 obtain rfl:=oi_ G
 exact Gg [(0,0)] ⟨rfl,rfl⟩
 refine C8 ?_
 refine Aj <| Bf 25 57 B fun B=>?_
 refine Cp rfl G (fun h15 G=>?_) fun h15 G=>?_
 refine Bf 57 65 B fun B=>?_
 refine E2 ?_
 replace G:=Cd G hn1
 obtain rfl:=oi_ G
 exact Gg [(0,0)] ⟨rfl,rfl⟩
 refine C8 ?_
 refine Aj <| Bn (B6 _ _ []) (by kernel_rfl) [0,0,0,0,8,0,0,64,224,480,0,0,3072,7168,16355,32739,65535,131071] 57 201 B rfl rfl (by kernel_rfl) ?_
 refine As ?_
 obtain⟨e_3,he_3,G⟩:=Ab G
 refine As ?_
 refine Ln he_3 ?_
 refine As ?_
 obtain⟨e_4,he_4,G⟩:=Ab G
 refine As ?_
 refine Ln he_4 ?_
 refine As ?_
 refine Vt I6 he_4 (x':=e_3) ?_
 obtain⟨e_5,he_5,G⟩:=Ab G
 refine As ?_
 refine Vt I6 he_5 (x':=e_4) ?_
 refine Gh fun B=>?_
 refine Bo (ι:=List Aa) (fun (data_5:List Aa)=>mk [(0,.row 0),(1,vk a),(2,vk b),(3,.clo 69 0 []),(9,vk i_2),(10,vk j_1)] [(0,.row 30 11 (Aq Aa.enc data_5))] 1) (fun (data_5:List Aa)=>Ad.j5 b cmp j_1 i_2 data_5=some o1) ?_ ?_
 refine Bf 201 233 B fun B=>?_
 refine Cp rfl G (fun h19 G=>?_) fun h19 G=>?_
 refine Bf 233 257 B fun B=>?_
 refine Ap <| Ji (fun ((j_4,data_4):Int×List Aa)=>mk [(0,.row 0),(1,vk a),(2,vk b),(3,.clo 69 0 []),(9,vk i_2),(10,vk j_1),(11,vk j_4)] [(0,.row 30 11 (Aq Aa.enc data_4))] 1) G (Ar [(0,0)]) ?_
 rintro⟨j_4,data_4⟩ m4 o4 G hn4
 replace G:Ad.l4 b cmp j_1 i_2 j_4 data_4=some o4:=G
 show B3 _ _ _ _ (mk _ _ _)
 unfold Ad.l4 at G
 refine Aj <| Bf 1 17 Ay fun B=>?_
 refine Cp rfl G (fun h22 G=>?_) fun h22 G=>?_
 refine C8 ?_
 refine Aj <| Ap <| Aj <| Aj <| Bn (B6 _ _ []) (by kernel_rfl) [0,0,0,6,14,0,0,64,224,480,1023,2047,4095] 17 121 B rfl rfl (by kernel_rfl) ?_
 refine As ?_
 obtain⟨e_6,he_6,G⟩:=Ab G
 refine As ?_
 refine Ln he_6 ?_
 refine As ?_
 obtain⟨e_7,he_7,G⟩:=Ab G
 refine As ?_
 refine Ln he_7 ?_
 obtain⟨y_2,hy_2,G⟩:=Ab G
 refine Dg (rd:=[]) (ps:=[]) (gs:=[]) false rfl rfl (hf_cmp e_6 e_7 _ hy_2) rfl rfl (.cons (.agg (.cons .val (.cons .val (.cons .val (.cons .val (.cons .val (.cons .val (.cons .val (.cons .val (.cons .val (.cons .val (.cons .val .nil)))))))))))) (.cons (.agg (.cons .val (.cons .val (.cons .val (.cons .val (.cons .val (.cons .val (.cons .val (.cons .val (.cons .val (.cons .val (.cons .val .nil)))))))))))) .nil)) rfl rfl (by intro h; cases h) rfl rfl rfl rfl ?_
 refine Bd fun B=>?_
 refine Cp rfl G (fun h24 G=>?_) fun h24 G=>?_
 refine Je ?_
 replace G:=Cd G hn4
 exact⟨data_4,G,Ar [(0,0)]⟩
 refine C8 ?_
 refine Bn (B6 _ _ []) (by kernel_rfl) [0,0,0,0,8,0,0,64,224,480,0,0,3072,7168,16355,32739,65535,131071] 121 265 B rfl rfl (by kernel_rfl) ?_
 refine As ?_
 refine Ln he_7 ?_
 refine As ?_
 refine Ln he_6 ?_
 refine As ?_
 refine Vt I6 he_6 (x':=e_7) ?_
 obtain⟨e_8,he_8,G⟩:=Ab G
 refine As ?_
 refine Vt I6 he_8 (x':=e_6) ?_
 refine Gh fun B=>?_
 refine Ak (B6 _ _ []) 265 289 B rfl rfl ?_
 refine Bd fun B=>?_
 obtain rfl:=oi_ G
 exact⟨((W (j_4 - 1),Db (Db data_4 ((j_4).toNat) e_7) ((W (j_4 - 1)).toNat) e_6),m4),aCz _,hn4,Ar [(0,0)]⟩
 refine Je ?_
 replace G:=Cd G hn4
 exact⟨data_4,G,Ar [(0,0)]⟩
 refine C8 ?_
 exact⟨Db (Db data_1 ((i_2).toNat) e_3) ((W (i_2 - 1)).toNat) e_4,G,Ar [(0,0)]⟩
 rintro data_5 G
 replace G:Ad.j5 b cmp j_1 i_2 data_5=some o1:=G
 show B3 _ _ _ _ (mk _ _ _)
 unfold Ad.j5 at G
 refine Bf 1 33 Ay fun B=>?_
 refine Cp rfl G (fun h28 G=>?_) fun h28 G=>?_
 refine Bf 33 57 B fun B=>?_
 refine Ap <| Ji (fun ((j_6,data_6):Int×List Aa)=>mk [(0,.row 0),(1,vk a),(2,vk b),(3,.clo 69 0 []),(9,vk i_2),(10,vk j_1),(12,vk j_6)] [(0,.row 30 11 (Aq Aa.enc data_6))] 1) G (Ar [(0,0)]) ?_
 rintro⟨j_6,data_6⟩ m6 o6 G hn6
 replace G:Ad.l6 b cmp j_1 i_2 j_6 data_6=some o6:=G
 show B3 _ _ _ _ (mk _ _ _)
 unfold Ad.l6 at G
 refine Aj <| Bf 1 25 Ay fun B=>?_
 refine Cp rfl G (fun h31 G=>?_) fun h31 G=>?_
 refine C8 ?_
 refine Aj <| Ap <| Aj <| Aj <| Bn (B6 _ _ []) (by kernel_rfl) [0,0,0,6,14,0,0,64,224,480,1023,2047,4095] 25 129 B rfl rfl (by kernel_rfl) ?_
 refine As ?_
 obtain⟨e_9,he_9,G⟩:=Ab G
 refine As ?_
 refine Ln he_9 ?_
 refine As ?_
 obtain⟨e_10,he_10,G⟩:=Ab G
 refine As ?_
 refine Ln he_10 ?_
 obtain⟨y_3,hy_3,G⟩:=Ab G
 refine Dg (rd:=[]) (ps:=[]) (gs:=[]) false rfl rfl (hf_cmp e_9 e_10 _ hy_3) rfl rfl (.cons (.agg (.cons .val (.cons .val (.cons .val (.cons .val (.cons .val (.cons .val (.cons .val (.cons .val (.cons .val (.cons .val (.cons .val .nil)))))))))))) (.cons (.agg (.cons .val (.cons .val (.cons .val (.cons .val (.cons .val (.cons .val (.cons .val (.cons .val (.cons .val (.cons .val (.cons .val .nil)))))))))))) .nil)) rfl rfl (by intro h; cases h) rfl rfl rfl rfl ?_
 refine Bd fun B=>?_
 refine Cp rfl G (fun h33 G=>?_) fun h33 G=>?_
 refine Je ?_
 replace G:=Cd G hn6
 exact⟨(i_2,data_6),G,Ar [(0,0)]⟩
 refine C8 ?_
 refine Bn (B6 _ _ []) (by kernel_rfl) [0,0,0,0,8,0,0,64,224,480,0,0,3072,7168,16355,32739,65535,131071] 129 273 B rfl rfl (by kernel_rfl) ?_
 refine As ?_
 refine Ln he_10 ?_
 refine As ?_
 refine Ln he_9 ?_
 refine As ?_
 refine Vt I6 he_9 (x':=e_10) ?_
 obtain⟨e_11,he_11,G⟩:=Ab G
 refine As ?_
 refine Vt I6 he_11 (x':=e_9) ?_
 refine Gh fun B=>?_
 refine Ak (B6 _ _ []) 273 297 B rfl rfl ?_
 refine Bd fun B=>?_
 obtain rfl:=oi_ G
 exact⟨((W (j_6 + 1),Db (Db data_6 ((j_6).toNat) e_10) ((W (j_6 - 1)).toNat) e_9),m6),aCz _,hn6,Ar [(0,0)]⟩
 refine Je ?_
 replace G:=Cd G hn6
 exact⟨(i_2,data_6),G,Ar [(0,0)]⟩
 refine C8 ?_
 exact⟨(i_2,data_5),G,Ar [(0,0)]⟩
 rintro⟨i_7,data_7⟩ G
 replace G:Ad.j7 j_1 i_7 data_7=some o1:=G
 show B3 _ _ _ _ (mk _ _ _)
 unfold Ad.j7 at G
 refine Ak (B6 _ _ []) 1 25 Ay rfl rfl ?_
 refine Bd fun B=>?_
 obtain rfl:=oi_ G
 exact⟨((i_7,W (j_1 + 1),data_7),m1),aCz _,hn1,Ar [(0,0)]⟩
 refine Je ?_
 replace G:=Cd G hn1
 refine Bf 17 25 B fun B=>?_
 refine E2 ?_
 obtain rfl:=oi_ G
 exact Gg [(0,0)] ⟨rfl,rfl⟩
end Go.Proofs.YtchpcpaacenodaaGreat
