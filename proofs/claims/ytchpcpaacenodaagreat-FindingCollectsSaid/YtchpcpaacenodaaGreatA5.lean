import Derived.Test.YtchpcpaacenodaaGreatT1
import Derived.Test.YtchpcpaacenodaaGreatA2
import Derived.Test.YtchpcpaacenodaaGreatA3
import Derived.Test.YtchpcpaacenodaaGreatA4
set_option linter.unusedVariables false
set_option linter.unusedSimpArgs false
set_option maxRecDepth 100000
set_option maxHeartbeats 1600000
namespace Go.Proofs.YtchpcpaacenodaaGreat
open Go.RowKit
theorem H7 (data:List Aa) (a:Int) (b:Int) (pivot:Int) (cmp:Aa->Aa->Option (Int)) (hf_cmp:∀ (x0:Aa) (x1:Aa) (y:Int),cmp x0 x1=some y->Fn Tryz.prog 69 0 [.agg (Aa.dv x0),.agg (Aa.dv x1)] [] (fun d' b'=>d'=vk y/\b'=[])) (r:Int×(List Aa)) (G:Al data a b pivot cmp=some r):Fn Tryz.prog 134 1 [.row 0,vk a,vk b,vk pivot,.clo 69 0 []] [.row 30 11 (Aq Aa.enc data)] (fun d' b'=>d'=vk r.1/\b'=[.row 30 11 (Aq Aa.enc r.2)]):=by
 unfold Al at G
 refine Fn.of Tryz.func134 rfl rfl rfl fun w0 I ρ0=>?_
 show B3 _ ⟨w0,I,ρ0,1,1,90⟩ _ _ _
 refine Bf 1 9 Ay fun B=>?_
 refine Aj <| Bn (B6 _ _ []) (by kernel_rfl) [0,0,0,0,0,0,48,112,0,0,768,1792,4083,8179,16383,32767] 9 137 B rfl rfl (by kernel_rfl) ?_
 refine As ?_
 obtain⟨e,he,G⟩:=Ab G
 refine As ?_
 refine Ln he ?_
 refine As ?_
 obtain⟨e_2,he_2,G⟩:=Ab G
 refine As ?_
 refine Ln he_2 ?_
 refine As ?_
 refine Vt I6 he_2 (x':=e) ?_
 obtain⟨e_3,he_3,G⟩:=Ab G
 refine As ?_
 refine Vt I6 he_3 (x':=e_2) ?_
 refine Gh fun B=>?_
 refine Bf 137 185 B fun B=>?_
 refine Aj <| Ap <| Ji (fun ((i_1,j_1,data_1):Int×Int×List Aa)=>mk [(0,.row 0),(1,vk a),(4,.clo 69 0 []),(11,vk i_1),(12,vk j_1)] [(0,.row 30 11 (Aq Aa.enc data_1))] 1) G (Ar [(0,0)]) ?_
 rintro⟨i_1,j_1,data_1⟩ m1 o1 G hn1
 replace G:Al.l1 a cmp i_1 j_1 data_1=some o1:=G
 show B3 _ _ _ _ (mk _ _ _)
 unfold Al.l1 at G
 refine Ap <| Aj <| Ap <| Ji (fun (i_2:Int)=>mk [(0,.row 0),(1,vk a),(4,.clo 69 0 []),(11,vk i_2),(12,vk j_1)] [(0,.row 30 11 (Aq Aa.enc data_1))] 1) G (Ar [(0,0)]) ?_
 rintro i_2 m2 o2 G hn2
 replace G:Al.l2 a cmp j_1 data_1 i_2=some o2:=G
 show B3 _ _ _ _ (mk _ _ _)
 unfold Al.l2 at G
 refine Aj <| Bo (ι:=Bool) (fun (x47_3:Bool)=>mk [(0,.row 0),(1,vk a),(4,.clo 69 0 []),(11,vk i_2),(12,vk j_1),(47,.val (.bool x47_3))] [(0,.row 30 11 (Aq Aa.enc data_1))] 1) (fun (x47_3:Bool)=>Al.j3 a cmp j_1 data_1 i_2 x47_3=some o2) ?_ ?_
 refine Bn (B6 _ _ []) (by kernel_rfl) [0,0,3,7,15,15,15,111,239,15,15,1551,3599,8191,16383,32767,65535] 1 137 Ay rfl rfl (by kernel_rfl) ?_
 refine As ?_
 rcases Dm G with ⟨h4,G⟩ | ⟨h4,G⟩
 refine As ?_
 obtain⟨e_4,he_4,G⟩:=Ab G
 refine As ?_
 refine Ln he_4 ?_
 refine As ?_
 obtain⟨e_5,he_5,G⟩:=Ab G
 refine As ?_
 refine Ln he_5 ?_
 obtain⟨y,hy,G⟩:=Ab G
 refine Dg (rd:=[]) (ps:=[]) (gs:=[]) false (Eb rfl rfl h4) rfl (hf_cmp e_4 e_5 _ hy) rfl rfl (.cons (.agg (.cons .val (.cons .val (.cons .val (.cons .val (.cons .val (.cons .val (.cons .val (.cons .val (.cons .val (.cons .val (.cons .val .nil)))))))))))) (.cons (.agg (.cons .val (.cons .val (.cons .val (.cons .val (.cons .val (.cons .val (.cons .val (.cons .val (.cons .val (.cons .val (.cons .val .nil)))))))))))) .nil)) rfl rfl (by intro h; cases h) rfl rfl rfl rfl ?_
 refine Bd fun B=>?_
 exact⟨!(decide (y < 0)),G,Ar [(0,0)]⟩
 refine Bd fun B=>?_
 exact⟨false,G,Ar [(0,0)]⟩
 rintro x47_3 G
 replace G:Al.j3 a cmp j_1 data_1 i_2 x47_3=some o2:=G
 show B3 _ _ _ _ (mk _ _ _)
 unfold Al.j3 at G
 refine Cp rfl G (fun h7 G=>?_) fun h7 G=>?_
 refine C8 ?_
 refine Ap <| Ak (B6 _ _ []) 1 25 Ay rfl rfl ?_
 refine Bd fun B=>?_
 obtain rfl:=oi_ G
 exact⟨(W (i_2 + 1),m2),aCz _,hn2,Ar [(0,0)]⟩
 refine Je ?_
 replace G:=Cd G hn2
 refine Aj <| Ap <| Ji (fun (j_4:Int)=>mk [(0,.row 0),(1,vk a),(4,.clo 69 0 []),(11,vk i_2),(12,vk j_4)] [(0,.row 30 11 (Aq Aa.enc data_1))] 1) G (Ar [(0,0)]) ?_
 rintro j_4 m4 o4 G hn4
 replace G:Al.l4 a cmp data_1 i_2 j_4=some o4:=G
 show B3 _ _ _ _ (mk _ _ _)
 unfold Al.l4 at G
 refine Aj <| Bo (ι:=Bool) (fun (x65_5:Bool)=>mk [(0,.row 0),(1,vk a),(4,.clo 69 0 []),(11,vk i_2),(12,vk j_4),(65,.val (.bool x65_5))] [(0,.row 30 11 (Aq Aa.enc data_1))] 1) (fun (x65_5:Bool)=>Al.j5 data_1 i_2 j_4 x65_5=some o4) ?_ ?_
 refine Bn (B6 _ _ []) (by kernel_rfl) [0,0,3,7,15,15,15,111,239,15,15,1551,3599,8191,16383,32767] 1 129 Ay rfl rfl (by kernel_rfl) ?_
 refine As ?_
 rcases Dm G with ⟨h9,G⟩ | ⟨h9,G⟩
 refine As ?_
 obtain⟨e_6,he_6,G⟩:=Ab G
 refine As ?_
 refine Ln he_6 ?_
 refine As ?_
 obtain⟨e_7,he_7,G⟩:=Ab G
 refine As ?_
 refine Ln he_7 ?_
 obtain⟨y_2,hy_2,G⟩:=Ab G
 refine Dg (rd:=[]) (ps:=[]) (gs:=[]) false (Eb rfl rfl h9) rfl (hf_cmp e_6 e_7 _ hy_2) rfl rfl (.cons (.agg (.cons .val (.cons .val (.cons .val (.cons .val (.cons .val (.cons .val (.cons .val (.cons .val (.cons .val (.cons .val (.cons .val .nil)))))))))))) (.cons (.agg (.cons .val (.cons .val (.cons .val (.cons .val (.cons .val (.cons .val (.cons .val (.cons .val (.cons .val (.cons .val (.cons .val .nil)))))))))))) .nil)) rfl rfl (by intro h; cases h) rfl rfl rfl rfl ?_
 refine Bd fun B=>?_
 exact⟨decide (y_2 < 0),G,Ar [(0,0)]⟩
 refine Bd fun B=>?_
 exact⟨false,G,Ar [(0,0)]⟩
 rintro x65_5 G
 replace G:Al.j5 data_1 i_2 j_4 x65_5=some o4:=G
 show B3 _ _ _ _ (mk _ _ _)
 unfold Al.j5 at G
 refine Cp rfl G (fun h12 G=>?_) fun h12 G=>?_
 refine C8 ?_
 refine Ap <| Ak (B6 _ _ []) 1 25 Ay rfl rfl ?_
 refine Bd fun B=>?_
 obtain rfl:=oi_ G
 exact⟨(W (j_4 - 1),m4),aCz _,hn4,Ar [(0,0)]⟩
 refine Je ?_
 replace G:=Cd G hn4
 refine Aj <| Bf 1 25 Ay fun B=>?_
 refine Cp rfl G (fun h15 G=>?_) fun h15 G=>?_
 refine Je ?_
 replace G:=Cd G hn1
 refine Bf 25 41 B fun B=>?_
 refine E2 ?_
 obtain rfl:=oi_ G
 exact Gg [(0,0)] ⟨rfl,rfl⟩
 refine C8 ?_
 refine Aj <| Bn (B6 _ _ []) (by kernel_rfl) [0,0,0,0,0,0,48,112,0,0,768,1792,4083,8179,16383,32767] 25 153 B rfl rfl (by kernel_rfl) ?_
 refine As ?_
 obtain⟨e_8,he_8,G⟩:=Ab G
 refine As ?_
 refine Ln he_8 ?_
 refine As ?_
 obtain⟨e_9,he_9,G⟩:=Ab G
 refine As ?_
 refine Ln he_9 ?_
 refine As ?_
 refine Vt I6 he_9 (x':=e_8) ?_
 obtain⟨e_10,he_10,G⟩:=Ab G
 refine As ?_
 refine Vt I6 he_10 (x':=e_9) ?_
 refine Gh fun B=>?_
 refine Bf 153 177 B fun B=>?_
 refine Ak (B6 _ _ []) 177 201 B rfl rfl ?_
 refine Bd fun B=>?_
 obtain rfl:=oi_ G
 exact⟨((W (i_2 + 1),W (j_4 - 1),Db (Db data_1 ((i_2).toNat) e_8) ((j_4).toNat) e_9),m1),aCz _,hn1,Ar [(0,0)]⟩
theorem I5 (data:List Aa) (a:Int) (b:Int) (pivot:Int) (cmp:Aa->Aa->Option (Int)) (hf_cmp:∀ (x0:Aa) (x1:Aa) (y:Int),cmp x0 x1=some y->Fn Tryz.prog 69 0 [.agg (Aa.dv x0),.agg (Aa.dv x1)] [] (fun d' b'=>d'=vk y/\b'=[])) (r:Int×Bool×(List Aa)) (G:Ae data a b pivot cmp=some r):Fn Tryz.prog 135 1 [.row 0,vk a,vk b,vk pivot,.clo 69 0 []] [.row 30 11 (Aq Aa.enc data)] (fun d' b'=>d'=.tup [vk r.1,.val (.bool r.2.1)]/\b'=[.row 30 11 (Aq Aa.enc r.2.2)]):=by
 unfold Ae at G
 refine Fn.of Tryz.func135 rfl rfl rfl fun w0 I ρ0=>?_
 show B3 _ ⟨w0,I,ρ0,1,1,178⟩ _ _ _
 refine Bf 1 17 Ay fun B=>?_
 refine Aj <| Bn (B6 _ _ []) (by kernel_rfl) [0,0,0,0,0,0,48,112,0,0,768,1792,4083,8179,16383,32767] 17 145 B rfl rfl (by kernel_rfl) ?_
 refine As ?_
 obtain⟨e,he,G⟩:=Ab G
 refine As ?_
 refine Ln he ?_
 refine As ?_
 obtain⟨e_2,he_2,G⟩:=Ab G
 refine As ?_
 refine Ln he_2 ?_
 refine As ?_
 refine Vt I6 he_2 (x':=e) ?_
 obtain⟨e_3,he_3,G⟩:=Ab G
 refine As ?_
 refine Vt I6 he_3 (x':=e_2) ?_
 refine Gh fun B=>?_
 refine Bf 145 193 B fun B=>?_
 refine Aj <| Ap <| Ji (fun (i_1:Int)=>mk [(0,.row 0),(1,vk a),(4,.clo 69 0 []),(12,vk i_1),(13,.val (.int .i64 (W (b - 1))))] [(0,.row 30 11 (Aq Aa.enc (Db (Db data ((a).toNat) e) ((pivot).toNat) e_2)))] 1) G (Ar [(0,0)]) ?_
 rintro i_1 m1 o1 G hn1
 replace G:Ae.l1 data a b pivot cmp e e_2 i_1=some o1:=G
 show B3 _ _ _ _ (mk _ _ _)
 unfold Ae.l1 at G
 refine Aj <| Bo (ι:=Bool) (fun (x47_2:Bool)=>mk [(0,.row 0),(1,vk a),(4,.clo 69 0 []),(12,vk i_1),(13,.val (.int .i64 (W (b - 1)))),(47,.val (.bool x47_2))] [(0,.row 30 11 (Aq Aa.enc (Db (Db data ((a).toNat) e) ((pivot).toNat) e_2)))] 1) (fun (x47_2:Bool)=>Ae.j2 data a b pivot cmp e e_2 i_1 x47_2=some o1) ?_ ?_
 refine Bn (B6 _ _ []) (by kernel_rfl) [0,0,3,7,15,15,15,111,239,15,15,1551,3599,8191,16383,32767] 1 129 Ay rfl rfl (by kernel_rfl) ?_
 refine As ?_
 rcases Dm G with ⟨h4,G⟩ | ⟨h4,G⟩
 refine As ?_
 obtain⟨e_4,he_4,G⟩:=Ab G
 refine As ?_
 refine Ln he_4 ?_
 refine As ?_
 obtain⟨e_5,he_5,G⟩:=Ab G
 refine As ?_
 refine Ln he_5 ?_
 obtain⟨y,hy,G⟩:=Ab G
 refine Dg (rd:=[]) (ps:=[]) (gs:=[]) false (Eb rfl rfl h4) rfl (hf_cmp e_4 e_5 _ hy) rfl rfl (.cons (.agg (.cons .val (.cons .val (.cons .val (.cons .val (.cons .val (.cons .val (.cons .val (.cons .val (.cons .val (.cons .val (.cons .val .nil)))))))))))) (.cons (.agg (.cons .val (.cons .val (.cons .val (.cons .val (.cons .val (.cons .val (.cons .val (.cons .val (.cons .val (.cons .val (.cons .val .nil)))))))))))) .nil)) rfl rfl (by intro h; cases h) rfl rfl rfl rfl ?_
 refine Bd fun B=>?_
 exact⟨decide (y < 0),G,Ar [(0,0)]⟩
 refine Bd fun B=>?_
 exact⟨false,G,Ar [(0,0)]⟩
 rintro x47_2 G
 replace G:Ae.j2 data a b pivot cmp e e_2 i_1 x47_2=some o1:=G
 show B3 _ _ _ _ (mk _ _ _)
 unfold Ae.j2 at G
 refine Cp rfl G (fun h7 G=>?_) fun h7 G=>?_
 refine C8 ?_
 refine Ap <| Ak (B6 _ _ []) 1 25 Ay rfl rfl ?_
 refine Bd fun B=>?_
 obtain rfl:=oi_ G
 exact⟨(W (i_1 + 1),m1),aCz _,hn1,Ar [(0,0)]⟩
 refine Je ?_
 replace G:=Cd G hn1
 refine Aj <| Ap <| Ji (fun (j_3:Int)=>mk [(0,.row 0),(1,vk a),(4,.clo 69 0 []),(12,vk i_1),(13,vk j_3)] [(0,.row 30 11 (Aq Aa.enc (Db (Db data ((a).toNat) e) ((pivot).toNat) e_2)))] 1) G (Ar [(0,0)]) ?_
 rintro j_3 m3 o3 G hn3
 replace G:Ae.l3 data a pivot cmp e e_2 i_1 j_3=some o3:=G
 show B3 _ _ _ _ (mk _ _ _)
 unfold Ae.l3 at G
 refine Aj <| Bo (ι:=Bool) (fun (x66_4:Bool)=>mk [(0,.row 0),(1,vk a),(4,.clo 69 0 []),(12,vk i_1),(13,vk j_3),(66,.val (.bool x66_4))] [(0,.row 30 11 (Aq Aa.enc (Db (Db data ((a).toNat) e) ((pivot).toNat) e_2)))] 1) (fun (x66_4:Bool)=>Ae.j4 data a pivot cmp e e_2 i_1 j_3 x66_4=some o3) ?_ ?_
 refine Bn (B6 _ _ []) (by kernel_rfl) [0,0,3,7,15,15,15,111,239,15,15,1551,3599,8191,16383,32767,65535] 1 137 Ay rfl rfl (by kernel_rfl) ?_
 refine As ?_
 rcases Dm G with ⟨h9,G⟩ | ⟨h9,G⟩
 refine As ?_
 obtain⟨e_6,he_6,G⟩:=Ab G
 refine As ?_
 refine Ln he_6 ?_
 refine As ?_
 obtain⟨e_7,he_7,G⟩:=Ab G
 refine As ?_
 refine Ln he_7 ?_
 obtain⟨y_2,hy_2,G⟩:=Ab G
 refine Dg (rd:=[]) (ps:=[]) (gs:=[]) false (Eb rfl rfl h9) rfl (hf_cmp e_6 e_7 _ hy_2) rfl rfl (.cons (.agg (.cons .val (.cons .val (.cons .val (.cons .val (.cons .val (.cons .val (.cons .val (.cons .val (.cons .val (.cons .val (.cons .val .nil)))))))))))) (.cons (.agg (.cons .val (.cons .val (.cons .val (.cons .val (.cons .val (.cons .val (.cons .val (.cons .val (.cons .val (.cons .val (.cons .val .nil)))))))))))) .nil)) rfl rfl (by intro h; cases h) rfl rfl rfl rfl ?_
 refine Bd fun B=>?_
 exact⟨!(decide (y_2 < 0)),G,Ar [(0,0)]⟩
 refine Bd fun B=>?_
 exact⟨false,G,Ar [(0,0)]⟩
 rintro x66_4 G
 replace G:Ae.j4 data a pivot cmp e e_2 i_1 j_3 x66_4=some o3:=G
 show B3 _ _ _ _ (mk _ _ _)
 unfold Ae.j4 at G
 refine Cp rfl G (fun h12 G=>?_) fun h12 G=>?_
 refine C8 ?_
 refine Ap <| Ak (B6 _ _ []) 1 25 Ay rfl rfl ?_
 refine Bd fun B=>?_
 obtain rfl:=oi_ G
 exact⟨(W (j_3 - 1),m3),aCz _,hn3,Ar [(0,0)]⟩
 refine Je ?_
 replace G:=Cd G hn3
 refine Aj <| Bf 1 25 Ay fun B=>?_
 refine Cp rfl G (fun h15 G=>?_) fun h15 G=>?_
 refine Aj <| Bn (B6 _ _ []) (by kernel_rfl) [0,0,0,0,0,0,48,112,0,0,768,1792,4083,8179,16383,32767] 25 153 B rfl rfl (by kernel_rfl) ?_
 refine As ?_
 obtain⟨e_8,he_8,G⟩:=Ab G
 refine As ?_
 refine Ln he_8 ?_
 refine As ?_
 obtain⟨e_9,he_9,G⟩:=Ab G
 refine As ?_
 refine Ln he_9 ?_
 refine As ?_
 refine Vt I6 he_9 (x':=e_8) ?_
 obtain⟨e_10,he_10,G⟩:=Ab G
 refine As ?_
 refine Vt I6 he_10 (x':=e_9) ?_
 refine Gh fun B=>?_
 refine Bf 153 177 B fun B=>?_
 refine E2 ?_
 obtain rfl:=oi_ G
 exact Gg [(0,0)] ⟨rfl,rfl⟩
 refine C8 ?_
 refine Aj <| Bn (B6 _ _ []) (by kernel_rfl) [0,0,0,0,0,0,48,112,0,0,768,1792,4083,8179,16383,32767] 25 153 B rfl rfl (by kernel_rfl) ?_
 refine As ?_
 obtain⟨e_11,he_11,G⟩:=Ab G
 refine As ?_
 refine Ln he_11 ?_
 refine As ?_
 obtain⟨e_12,he_12,G⟩:=Ab G
 refine As ?_
 refine Ln he_12 ?_
 refine As ?_
 refine Vt I6 he_12 (x':=e_11) ?_
 obtain⟨e_13,he_13,G⟩:=Ab G
 refine As ?_
 refine Vt I6 he_13 (x':=e_12) ?_
 refine Gh fun B=>?_
 refine Bf 153 177 B fun B=>?_
 refine Bf 177 201 B fun B=>?_
 refine Aj <| Ap <| Ji (fun ((i_5,j_5,data_5):Int×Int×List Aa)=>mk [(0,.row 0),(1,vk a),(4,.clo 69 0 []),(12,vk i_5),(13,vk j_5)] [(0,.row 30 11 (Aq Aa.enc data_5))] 1) G (Ar [(0,0)]) ?_
 rintro⟨i_5,j_5,data_5⟩ m5 o5 G hn5
 replace G:Ae.l5 a cmp i_5 j_5 data_5=some o5:=G
 show B3 _ _ _ _ (mk _ _ _)
 unfold Ae.l5 at G
 refine Ap <| Aj <| Ap <| Ji (fun (i_6:Int)=>mk [(0,.row 0),(1,vk a),(4,.clo 69 0 []),(12,vk i_6),(13,vk j_5)] [(0,.row 30 11 (Aq Aa.enc data_5))] 1) G (Ar [(0,0)]) ?_
 rintro i_6 m6 o6 G hn6
 replace G:Ae.l6 a cmp j_5 data_5 i_6=some o6:=G
 show B3 _ _ _ _ (mk _ _ _)
 unfold Ae.l6 at G
 refine Aj <| Bo (ι:=Bool) (fun (x120_7:Bool)=>mk [(0,.row 0),(1,vk a),(4,.clo 69 0 []),(12,vk i_6),(13,vk j_5),(120,.val (.bool x120_7))] [(0,.row 30 11 (Aq Aa.enc data_5))] 1) (fun (x120_7:Bool)=>Ae.j7 a cmp j_5 data_5 i_6 x120_7=some o6) ?_ ?_
 refine Bn (B6 _ _ []) (by kernel_rfl) [0,0,3,7,15,15,15,111,239,15,15,1551,3599,8191,16383,32767] 1 129 Ay rfl rfl (by kernel_rfl) ?_
 refine As ?_
 rcases Dm G with ⟨h21,G⟩ | ⟨h21,G⟩
 refine As ?_
 obtain⟨e_14,he_14,G⟩:=Ab G
 refine As ?_
 refine Ln he_14 ?_
 refine As ?_
 obtain⟨e_15,he_15,G⟩:=Ab G
 refine As ?_
 refine Ln he_15 ?_
 obtain⟨y_3,hy_3,G⟩:=Ab G
 refine Dg (rd:=[]) (ps:=[]) (gs:=[]) false (Eb rfl rfl h21) rfl (hf_cmp e_14 e_15 _ hy_3) rfl rfl (.cons (.agg (.cons .val (.cons .val (.cons .val (.cons .val (.cons .val (.cons .val (.cons .val (.cons .val (.cons .val (.cons .val (.cons .val .nil)))))))))))) (.cons (.agg (.cons .val (.cons .val (.cons .val (.cons .val (.cons .val (.cons .val (.cons .val (.cons .val (.cons .val (.cons .val (.cons .val .nil)))))))))))) .nil)) rfl rfl (by intro h; cases h) rfl rfl rfl rfl ?_
 refine Bd fun B=>?_
 exact⟨decide (y_3 < 0),G,Ar [(0,0)]⟩
 refine Bd fun B=>?_
 exact⟨false,G,Ar [(0,0)]⟩
 rintro x120_7 G
 replace G:Ae.j7 a cmp j_5 data_5 i_6 x120_7=some o6:=G
 show B3 _ _ _ _ (mk _ _ _)
 unfold Ae.j7 at G
 refine Cp rfl G (fun h24 G=>?_) fun h24 G=>?_
 refine C8 ?_
 refine Ap <| Ak (B6 _ _ []) 1 25 Ay rfl rfl ?_
 refine Bd fun B=>?_
 obtain rfl:=oi_ G
 exact⟨(W (i_6 + 1),m6),aCz _,hn6,Ar [(0,0)]⟩
 refine Je ?_
 replace G:=Cd G hn6
 refine Aj <| Ap <| Ji (fun (j_8:Int)=>mk [(0,.row 0),(1,vk a),(4,.clo 69 0 []),(12,vk i_6),(13,vk j_8)] [(0,.row 30 11 (Aq Aa.enc data_5))] 1) G (Ar [(0,0)]) ?_
 rintro j_8 m8 o8 G hn8
 replace G:Ae.l8 a cmp data_5 i_6 j_8=some o8:=G
 show B3 _ _ _ _ (mk _ _ _)
 unfold Ae.l8 at G
 refine Aj <| Bo (ι:=Bool) (fun (x139_9:Bool)=>mk [(0,.row 0),(1,vk a),(4,.clo 69 0 []),(12,vk i_6),(13,vk j_8),(139,.val (.bool x139_9))] [(0,.row 30 11 (Aq Aa.enc data_5))] 1) (fun (x139_9:Bool)=>Ae.j9 a data_5 i_6 j_8 x139_9=some o8) ?_ ?_
 refine Bn (B6 _ _ []) (by kernel_rfl) [0,0,3,7,15,15,15,111,239,15,15,1551,3599,8191,16383,32767,65535] 1 137 Ay rfl rfl (by kernel_rfl) ?_
 refine As ?_
 rcases Dm G with ⟨h26,G⟩ | ⟨h26,G⟩
 refine As ?_
 obtain⟨e_16,he_16,G⟩:=Ab G
 refine As ?_
 refine Ln he_16 ?_
 refine As ?_
 obtain⟨e_17,he_17,G⟩:=Ab G
 refine As ?_
 refine Ln he_17 ?_
 obtain⟨y_4,hy_4,G⟩:=Ab G
 refine Dg (rd:=[]) (ps:=[]) (gs:=[]) false (Eb rfl rfl h26) rfl (hf_cmp e_16 e_17 _ hy_4) rfl rfl (.cons (.agg (.cons .val (.cons .val (.cons .val (.cons .val (.cons .val (.cons .val (.cons .val (.cons .val (.cons .val (.cons .val (.cons .val .nil)))))))))))) (.cons (.agg (.cons .val (.cons .val (.cons .val (.cons .val (.cons .val (.cons .val (.cons .val (.cons .val (.cons .val (.cons .val (.cons .val .nil)))))))))))) .nil)) rfl rfl (by intro h; cases h) rfl rfl rfl rfl ?_
 refine Bd fun B=>?_
 exact⟨!(decide (y_4 < 0)),G,Ar [(0,0)]⟩
 refine Bd fun B=>?_
 exact⟨false,G,Ar [(0,0)]⟩
 rintro x139_9 G
 replace G:Ae.j9 a data_5 i_6 j_8 x139_9=some o8:=G
 show B3 _ _ _ _ (mk _ _ _)
 unfold Ae.j9 at G
 refine Cp rfl G (fun h29 G=>?_) fun h29 G=>?_
 refine C8 ?_
 refine Ap <| Ak (B6 _ _ []) 1 25 Ay rfl rfl ?_
 refine Bd fun B=>?_
 obtain rfl:=oi_ G
 exact⟨(W (j_8 - 1),m8),aCz _,hn8,Ar [(0,0)]⟩
 refine Je ?_
 replace G:=Cd G hn8
 refine Aj <| Bf 1 25 Ay fun B=>?_
 refine Cp rfl G (fun h32 G=>?_) fun h32 G=>?_
 refine Je ?_
 replace G:=Cd G hn5
 refine Aj <| Bn (B6 _ _ []) (by kernel_rfl) [0,0,0,0,0,0,48,112,0,0,768,1792,4083,8179,16383,32767] 25 153 B rfl rfl (by kernel_rfl) ?_
 refine As ?_
 obtain⟨e_21,he_21,G⟩:=Ab G
 refine As ?_
 refine Ln he_21 ?_
 refine As ?_
 obtain⟨e_22,he_22,G⟩:=Ab G
 refine As ?_
 refine Ln he_22 ?_
 refine As ?_
 refine Vt I6 he_22 (x':=e_21) ?_
 obtain⟨e_23,he_23,G⟩:=Ab G
 refine As ?_
 refine Vt I6 he_23 (x':=e_22) ?_
 refine Gh fun B=>?_
 refine Bf 153 177 B fun B=>?_
 refine E2 ?_
 obtain rfl:=oi_ G
 exact Gg [(0,0)] ⟨rfl,rfl⟩
 refine C8 ?_
 refine Aj <| Bn (B6 _ _ []) (by kernel_rfl) [0,0,0,0,0,0,48,112,0,0,768,1792,4083,8179,16383,32767] 25 153 B rfl rfl (by kernel_rfl) ?_
 refine As ?_
 obtain⟨e_18,he_18,G⟩:=Ab G
 refine As ?_
 refine Ln he_18 ?_
 refine As ?_
 obtain⟨e_19,he_19,G⟩:=Ab G
 refine As ?_
 refine Ln he_19 ?_
 refine As ?_
 refine Vt I6 he_19 (x':=e_18) ?_
 obtain⟨e_20,he_20,G⟩:=Ab G
 refine As ?_
 refine Vt I6 he_20 (x':=e_19) ?_
 refine Gh fun B=>?_
 refine Bf 153 177 B fun B=>?_
 refine Ak (B6 _ _ []) 177 201 B rfl rfl ?_
 refine Bd fun B=>?_
 obtain rfl:=oi_ G
 exact⟨((W (i_6 + 1),W (j_8 - 1),Db (Db data_5 ((i_6).toNat) e_18) ((j_8).toNat) e_19),m5),aCz _,hn5,Ar [(0,0)]⟩
theorem Ez.F (cmp:Aa->Aa->Option (Int)) (hf_cmp:∀ (x0:Aa) (x1:Aa) (y:Int),cmp x0 x1=some y->Fn Tryz.prog 69 0 [.agg (Aa.dv x0),.agg (Aa.dv x1)] [] (fun d' b'=>d'=vk y/\b'=[])) (rec:(List Aa)->Int->Int->Int->Option ((List Aa))) (hrec:∀ (data:List Aa) (a:Int) (b:Int) (limit:Int) (r:(List Aa)),rec data a b limit=some r->Fn Tryz.prog 90 1 [.row 0,vk a,vk b,vk limit,.clo 69 0 []] [.row 30 11 (Aq Aa.enc data)] (fun d' b'=>d'=.tup []/\b'=[.row 30 11 (Aq Aa.enc r)])) (data:List Aa) (a:Int) (b:Int) (limit:Int) (r:(List Aa)) (G:Ai.F rec data a b limit cmp=some r):Fn Tryz.prog 90 1 [.row 0,vk a,vk b,vk limit,.clo 69 0 []] [.row 30 11 (Aq Aa.enc data)] (fun d' b'=>d'=.tup []/\b'=[.row 30 11 (Aq Aa.enc r)]):=by
 unfold Ai.F at G
 refine Fn.of Tryz.func90 rfl rfl rfl fun w0 I ρ0=>?_
 show B3 _ ⟨w0,I,ρ0,1,1,148⟩ _ _ _
 refine Bf 1 9 Ay fun B=>?_
 refine Bf 9 17 B fun B=>?_
 refine Ap <| Ji (fun ((a_1,b_1,limit_1,wasBalanced_1,wasPartitioned_1,data_1):Int×Int×Int×Bool×Bool×List Aa)=>mk [(0,.row 0),(1,vk a_1),(2,vk b_1),(3,vk limit_1),(4,.clo 69 0 []),(10,.val (.bool wasBalanced_1)),(11,.val (.bool wasPartitioned_1))] [(0,.row 30 11 (Aq Aa.enc data_1))] 1) G (Ar [(0,0)]) ?_
 rintro⟨a_1,b_1,limit_1,wasBalanced_1,wasPartitioned_1,data_1⟩ m1 o1 G hn1
 replace G:Ai.l1 rec cmp a_1 b_1 limit_1 wasBalanced_1 wasPartitioned_1 data_1=some o1:=G
 show B3 _ _ _ _ (mk _ _ _)
 unfold Ai.l1 at G
 refine Ap <| Bf 1 33 Ay fun B=>?_
 refine Aj <| Bf 33 49 B fun B=>?_
 refine Cp rfl G (fun h5 G=>?_) fun h5 G=>?_
 refine Cc 49 89 B ?_
 refine As ?_
 obtain⟨y,hy,G⟩:=Ab G
 refine F9 [0] [0] [] false (Ic data_1 a_1 b_1 cmp hf_cmp _ hy) ?_
 refine Gh fun B=>?_
 refine E2 ?_
 replace G:=Cd G hn1
 obtain rfl:=oi_ G
 exact Gg [(0,0)] ⟨rfl,rfl⟩
 refine C8 ?_
 refine Aj <| Bf 49 65 B fun B=>?_
 refine Cp rfl G (fun h8 G=>?_) fun h8 G=>?_
 refine Cc 65 105 B ?_
 refine As ?_
 obtain⟨y_2,hy_2,G⟩:=Ab G
 refine F9 [0] [0] [] false (Jc data_1 a_1 b_1 cmp hf_cmp _ hy_2) ?_
 refine Gh fun B=>?_
 refine E2 ?_
 replace G:=Cd G hn1
 obtain rfl:=oi_ G
 exact Gg [(0,0)] ⟨rfl,rfl⟩
 refine C8 ?_
 refine Bo (ι:=Int×List Aa) (fun ((limit_2,data_2):Int×List Aa)=>mk [(0,.row 0),(1,vk a_1),(2,vk b_1),(3,vk limit_2),(4,.clo 69 0 []),(10,.val (.bool wasBalanced_1)),(11,.val (.bool wasPartitioned_1)),(12,.val (.int .i64 (W (b_1 - a_1))))] [(0,.row 30 11 (Aq Aa.enc data_2))] 1) (fun ((limit_2,data_2):Int×List Aa)=>Ai.j2 rec cmp a_1 b_1 wasBalanced_1 wasPartitioned_1 limit_2 data_2=some o1) ?_ ?_
 refine Bf 65 81 B fun B=>?_
 refine Cp rfl G (fun h11 G=>?_) fun h11 G=>?_
 refine Cc 81 121 B ?_
 refine As ?_
 obtain⟨y_3,hy_3,G⟩:=Ab G
 refine F9 [0] [0] [] false (Ii data_1 a_1 b_1 cmp hf_cmp _ hy_3) ?_
 refine Gh fun B=>?_
 refine Ak (B6 _ _ []) 121 145 B rfl rfl ?_
 refine Bd fun B=>?_
 exact⟨(W (limit_1 - 1),y_3),G,Ar [(0,0)]⟩
 refine C8 ?_
 exact⟨(limit_1,data_1),G,Ar [(0,0)]⟩
 rintro⟨limit_2,data_2⟩ G
 replace G:Ai.j2 rec cmp a_1 b_1 wasBalanced_1 wasPartitioned_1 limit_2 data_2=some o1:=G
 show B3 _ _ _ _ (mk _ _ _)
 unfold Ai.j2 at G
 refine Cc 1 81 Ay ?_
 refine As ?_
 obtain⟨y_4,hy_4,G⟩:=Ab G
 refine F9 [0] [] [] true (Iv data_2 a_1 b_1 cmp hf_cmp _ hy_4) ?_
 refine Bd fun B=>?_
 refine Bo (ι:=Int×Int×List Aa) (fun ((pivot_3,hint_3,data_3):Int×Int×List Aa)=>mk [(0,.row 0),(1,vk a_1),(2,vk b_1),(3,vk limit_2),(4,.clo 69 0 []),(10,.val (.bool wasBalanced_1)),(11,.val (.bool wasPartitioned_1)),(12,.val (.int .i64 (W (b_1 - a_1)))),(13,vk pivot_3),(14,vk hint_3)] [(0,.row 30 11 (Aq Aa.enc data_3))] 1) (fun ((pivot_3,hint_3,data_3):Int×Int×List Aa)=>Ai.j3 rec cmp a_1 b_1 wasBalanced_1 wasPartitioned_1 limit_2 pivot_3 hint_3 data_3=some o1) ?_ ?_
 refine Bf 81 97 B fun B=>?_
 refine Cp rfl G (fun h16 G=>?_) fun h16 G=>?_
 refine Cc 97 137 B ?_
 refine As ?_
 obtain⟨y_5,hy_5,G⟩:=Ab G
 refine F9 [0] [0] [] false (Ik data_2 a_1 b_1 cmp hf_cmp _ hy_5) ?_
 refine Gh fun B=>?_
 refine Bf 137 193 B fun B=>?_
 refine Ak (B6 _ _ []) 193 201 B rfl rfl ?_
 refine Bd fun B=>?_
 exact⟨(W ((W (b_1 - 1)) - (W (y_4.1 - a_1))),1,y_5),G,Ar [(0,0)]⟩
 refine C8 ?_
 exact⟨(y_4.1,y_4.2,data_2),G,Ar [(0,0)]⟩
 rintro⟨pivot_3,hint_3,data_3⟩ G
 replace G:Ai.j3 rec cmp a_1 b_1 wasBalanced_1 wasPartitioned_1 limit_2 pivot_3 hint_3 data_3=some o1:=G
 show B3 _ _ _ _ (mk _ _ _)
 unfold Ai.j3 at G
 refine Bo (ι:=List Aa) (fun (data_5:List Aa)=>mk [(0,.row 0),(1,vk a_1),(2,vk b_1),(3,vk limit_2),(4,.clo 69 0 []),(10,.val (.bool wasBalanced_1)),(11,.val (.bool wasPartitioned_1)),(12,.val (.int .i64 (W (b_1 - a_1)))),(13,vk pivot_3)] [(0,.row 30 11 (Aq Aa.enc data_5))] 1) (fun (data_5:List Aa)=>Ai.j5 rec cmp a_1 b_1 wasBalanced_1 wasPartitioned_1 limit_2 pivot_3 data_5=some o1) ?_ ?_
 refine Bo (ι:=Bool) (fun (x75_4:Bool)=>mk [(0,.row 0),(1,vk a_1),(2,vk b_1),(3,vk limit_2),(4,.clo 69 0 []),(10,.val (.bool wasBalanced_1)),(11,.val (.bool wasPartitioned_1)),(12,.val (.int .i64 (W (b_1 - a_1)))),(13,vk pivot_3),(75,.val (.bool x75_4))] [(0,.row 30 11 (Aq Aa.enc data_3))] 1) (fun (x75_4:Bool)=>Ai.j4 rec cmp a_1 b_1 wasBalanced_1 wasPartitioned_1 limit_2 pivot_3 data_3 x75_4=some o1) ?_ ?_
 refine Ak (B6 _ _ []) 1 65 Ay rfl rfl ?_
 refine As ?_
 rcases Dm G with ⟨h20,G⟩ | ⟨h20,G⟩
 refine As ?_
 rcases Dm G with ⟨h21,G⟩ | ⟨h21,G⟩
 refine Bd fun B=>?_
 exact⟨decide (hint_3=1),G,Ar [(0,0)]⟩
 refine Bd fun B=>?_
 exact⟨false,G,Ar [(0,0)]⟩
 refine Bd fun B=>?_
 exact⟨false,G,Ar [(0,0)]⟩
 rintro x75_4 G
 replace G:Ai.j4 rec cmp a_1 b_1 wasBalanced_1 wasPartitioned_1 limit_2 pivot_3 data_3 x75_4=some o1:=G
 show B3 _ _ _ _ (mk _ _ _)
 unfold Ai.j4 at G
 refine Cp rfl G (fun h25 G=>?_) fun h25 G=>?_
 refine Cc 1 41 Ay ?_
 refine As ?_
 obtain⟨y_6,hy_6,G⟩:=Ab G
 refine F9 [0] [0] [] false (G8 data_3 a_1 b_1 cmp hf_cmp _ hy_6) ?_
 refine Gh fun B=>?_
 refine Cp rfl G (fun h27 G=>?_) fun h27 G=>?_
 refine eZ ?_
 refine rp_ ?_
 replace G:=Cd G hn1
 obtain rfl:=oi_ G
 exact Gg [(0,0)] ⟨rfl,rfl⟩
 refine C8 ?_
 exact⟨y_6.2,G,Ar [(0,0)]⟩
 refine C8 ?_
 exact⟨data_3,G,Ar [(0,0)]⟩
 rintro data_5 G
 replace G:Ai.j5 rec cmp a_1 b_1 wasBalanced_1 wasPartitioned_1 limit_2 pivot_3 data_5=some o1:=G
 show B3 _ _ _ _ (mk _ _ _)
 unfold Ai.j5 at G
 refine Aj <| Bo (ι:=Bool) (fun (x97_6:Bool)=>mk [(0,.row 0),(1,vk a_1),(2,vk b_1),(3,vk limit_2),(4,.clo 69 0 []),(10,.val (.bool wasBalanced_1)),(11,.val (.bool wasPartitioned_1)),(12,.val (.int .i64 (W (b_1 - a_1)))),(13,vk pivot_3),(97,.val (.bool x97_6))] [(0,.row 30 11 (Aq Aa.enc data_5))] 1) (fun (x97_6:Bool)=>Ai.j6 rec cmp a_1 b_1 wasBalanced_1 wasPartitioned_1 limit_2 pivot_3 data_5 x97_6=some o1) ?_ ?_
 refine Bn (B6 _ _ []) (by kernel_rfl) [0,1,3,7,7,7,39,119,247,7,7,1543,3591,8191,16383,32767,65535] 1 137 Ay rfl rfl (by kernel_rfl) ?_
 refine As ?_
 rcases Dm G with ⟨h28,G⟩ | ⟨h28,G⟩
 refine As ?_
 obtain⟨e,he,G⟩:=Ab G
 refine As ?_
 refine Ln he ?_
 refine As ?_
 obtain⟨e_2,he_2,G⟩:=Ab G
 refine As ?_
 refine Ln he_2 ?_
 obtain⟨y_7,hy_7,G⟩:=Ab G
 refine Dg (rd:=[]) (ps:=[]) (gs:=[]) false (Eb rfl rfl h28) rfl (hf_cmp e e_2 _ hy_7) rfl rfl (.cons (.agg (.cons .val (.cons .val (.cons .val (.cons .val (.cons .val (.cons .val (.cons .val (.cons .val (.cons .val (.cons .val (.cons .val .nil)))))))))))) (.cons (.agg (.cons .val (.cons .val (.cons .val (.cons .val (.cons .val (.cons .val (.cons .val (.cons .val (.cons .val (.cons .val (.cons .val .nil)))))))))))) .nil)) rfl rfl (by intro h; cases h) rfl rfl rfl rfl ?_
 refine Bd fun B=>?_
 exact⟨!(decide (y_7 < 0)),G,Ar [(0,0)]⟩
 refine Bd fun B=>?_
 exact⟨false,G,Ar [(0,0)]⟩
 rintro x97_6 G
 replace G:Ai.j6 rec cmp a_1 b_1 wasBalanced_1 wasPartitioned_1 limit_2 pivot_3 data_5 x97_6=some o1:=G
 show B3 _ _ _ _ (mk _ _ _)
 unfold Ai.j6 at G
 refine Cp rfl G (fun h31 G=>?_) fun h31 G=>?_
 refine Cc 1 57 Ay ?_
 refine As ?_
 obtain⟨y_8,hy_8,G⟩:=Ab G
 refine F9 [0] [0] [] false (H7 data_5 a_1 b_1 pivot_3 cmp hf_cmp _ hy_8) ?_
 refine Bd fun B=>?_
 refine Bf 57 73 B fun B=>?_
 refine Je ?_
 obtain rfl:=oi_ G
 exact⟨((y_8.1,b_1,limit_2,wasBalanced_1,wasPartitioned_1,y_8.2),m1),aCz _,hn1,Ar [(0,0)]⟩
 refine C8 ?_
 refine Cc 1 89 Ay ?_
 refine As ?_
 obtain⟨y_9,hy_9,G⟩:=Ab G
 refine F9 [0] [0] [] false (I5 data_5 a_1 b_1 pivot_3 cmp hf_cmp _ hy_9) ?_
 refine Bd fun B=>?_
 refine Bf 89 105 B fun B=>?_
 refine Bf 105 169 B fun B=>?_
 refine Cc 169 193 B ?_
 refine As ?_
 obtain⟨q,hq,G⟩:=Ab G
 refine C0 rfl rfl (Tj hq) rfl rfl ?_
 refine Bd fun B=>?_
 refine Bf 193 217 B fun B=>?_
 refine Cp rfl G (fun h39 G=>?_) fun h39 G=>?_
 refine Bf 217 249 B fun B=>?_
 refine Cc 249 297 B ?_
 refine As ?_
 obtain⟨y_10,hy_10,G⟩:=Ab G
 refine F9 [0] [0] [] false (hrec y_9.2.2 a_1 y_9.1 limit_2 _ hy_10) ?_
 refine Gh fun B=>?_
 refine Ak (B6 _ _ []) 297 321 B rfl rfl ?_
 refine Bd fun B=>?_
 obtain rfl:=oi_ G
 exact⟨((W (y_9.1 + 1),b_1,limit_2,decide (q<=(W (y_9.1 - a_1))),y_9.2.1,y_10),m1),aCz _,hn1,Ar [(0,0)]⟩
 refine Bf 217 249 B fun B=>?_
 refine Cc 249 305 B ?_
 refine As ?_
 obtain⟨y_11,hy_11,G⟩:=Ab G
 refine F9 [0] [0] [] false (hrec y_9.2.2 (W (y_9.1 + 1)) b_1 limit_2 _ hy_11) ?_
 refine Gh fun B=>?_
 refine Ak (B6 _ _ []) 305 321 B rfl rfl ?_
 refine Bd fun B=>?_
 obtain rfl:=oi_ G
 exact⟨((a_1,y_9.1,limit_2,decide (q<=(W (b_1 - y_9.1))),y_9.2.1,y_11),m1),aCz _,hn1,Ar [(0,0)]⟩
theorem Ez (data:List Aa) (a:Int) (b:Int) (limit:Int) (cmp:Aa->Aa->Option (Int)) (hf_cmp:∀ (x0:Aa) (x1:Aa) (y:Int),cmp x0 x1=some y->Fn Tryz.prog 69 0 [.agg (Aa.dv x0),.agg (Aa.dv x1)] [] (fun d' b'=>d'=vk y/\b'=[])) (r:(List Aa)) (G:Ai data a b limit cmp=some r):Fn Tryz.prog 90 1 [.row 0,vk a,vk b,vk limit,.clo 69 0 []] [.row 30 11 (Aq Aa.enc data)] (fun d' b'=>d'=.tup []/\b'=[.row 30 11 (Aq Aa.enc r)]):=
 Tr (motive:=fun (x:List Aa×Int×Int×Int) (r:(List Aa))=>Fn Tryz.prog 90 1 [.row 0,vk x.2.1,vk x.2.2.1,vk x.2.2.2,.clo 69 0 []] [.row 30 11 (Aq Aa.enc x.1)] (fun d' b'=>d'=.tup []/\b'=[.row 30 11 (Aq Aa.enc r)])) (fun rec hrec x r h=>Ez.F cmp hf_cmp _ (fun data a b limit r h=>hrec (data,a,b,limit) r h) x.1 x.2.1 x.2.2.1 x.2.2.2 r h) (data,a,b,limit) r G
theorem Ko (x':List Aa) (cmp:Aa->Aa->Option (Int)) (hf_cmp:∀ (x0:Aa) (x1:Aa) (y:Int),cmp x0 x1=some y->Fn Tryz.prog 69 0 [.agg (Aa.dv x0),.agg (Aa.dv x1)] [] (fun d' b'=>d'=vk y/\b'=[])) (r:(List Aa)) (G:Er x' cmp=some r):Fn Tryz.prog 68 1 [.row 0,.clo 69 0 []] [.row 30 11 (Aq Aa.enc x')] (fun d' b'=>d'=.tup []/\b'=[.row 30 11 (Aq Aa.enc r)]):=by
 unfold Er at G
 refine Fn.of Tryz.func68 rfl rfl rfl fun w0 I ρ0=>?_
 show B3 _ ⟨w0,I,ρ0,1,1,14⟩ _ _ _
 refine Bf 1 25 Ay fun B=>?_
 refine Ak (B6 _ _ []) 25 81 B rfl rfl ?_
 refine As ?_
 refine C0 rfl rfl (Zq Ni kU) rfl rfl ?_
 obtain⟨y,hy,G⟩:=Ab G
 refine Dh (S0 _ _ hy) ?_
 refine As ?_
 obtain⟨y_2,hy_2,G⟩:=Ab G
 refine F9 [0] [0] [] false (Ez x' 0 (x'.length:Int) y cmp hf_cmp _ hy_2) ?_
 refine Gh fun B=>?_
 obtain rfl:=oi_ G
 exact Gg [(0,0)] ⟨rfl,rfl⟩
theorem L6 (s:List Aa) (r:(List Aa)) (G:Bc s=some r):Fn Tryz.prog 70 0 [.row 0] [.row 30 11 (Aq Aa.enc s)] (fun d' b'=>d'=.row 0/\b'=[.row 30 11 (Aq Aa.enc r)]):=by
 unfold Bc at G
 refine Fn.of Tryz.func70 rfl rfl rfl fun w0 I ρ0=>?_
 show B3 _ ⟨w0,I,ρ0,0,1,61⟩ _ _ _
 refine Bf 1 9 Ay fun B=>?_
 refine Aj <| Bf 9 33 B fun B=>?_
 refine Cp rfl G (fun h3 G=>?_) fun h3 G=>?_
 refine Bf 33 49 B fun B=>?_
 refine E2 ?_
 obtain rfl:=oi_ G
 exact Gg [(0,0)] ⟨rfl,rfl⟩
 refine C8 ?_
 refine Aj <| Bf 33 41 B fun B=>?_
 refine Ap <| Ji (fun (k_1:Int)=>mk [(0,.row 0),(3,vk k_1)] [(0,.row 30 11 (Aq Aa.enc s))] 1) G (Ar [(0,0)]) ?_
 rintro k_1 m1 o1 G hn1
 replace G:Bc.l1 s k_1=some o1:=G
 show B3 _ _ _ _ (mk _ _ _)
 unfold Bc.l1 at G
 refine Aj <| Bf 1 33 Ay fun B=>?_
 refine Cp rfl G (fun h7 G=>?_) fun h7 G=>?_
 refine C8 ?_
 refine Aj <| Ap <| Aj <| Bn (B6 _ _ []) (by kernel_rfl) [0,0,3,7,0,0,32,112,240,511] 33 113 B rfl rfl (by kernel_rfl) ?_
 refine As ?_
 obtain⟨e,he,G⟩:=Ab G
 refine As ?_
 refine Ln he ?_
 refine As ?_
 obtain⟨e_2,he_2,G⟩:=Ab G
 refine As ?_
 refine Ln he_2 ?_
 refine C0 rfl rfl (kZ e e_2) rfl rfl ?_
 refine Gh fun B=>?_
 refine Cp rfl G (fun h9 G=>?_) fun h9 G=>?_
 refine Cc 113 145 B ?_
 refine As ?_
 obtain⟨l,hl,G⟩:=Ab G
 refine Fi (rd:=[0]) rfl rfl (Us Kl Aa.enc_len hl) rfl rfl ?_
 refine Bd fun B=>?_
 refine Aj <| Bf 145 153 B fun B=>?_
 refine Ap <| Ji (fun ((k_2,k2_2,s_2):Int×Int×List Aa)=>mk [(0,.row 0),(3,vk k_2),(4,.part 0 (((k_1:Int).toNat) * 11) (((s.length:Int):Int).toNat - (k_1:Int).toNat)),(5,vk k2_2)] [(0,.row 30 11 (Aq Aa.enc s_2))] 1) G (Ar [(0,0)]) ?_
 rintro⟨k_2,k2_2,s_2⟩ m2 o2 G hn2
 replace G:Bc.l2 s k_1 k_2 k2_2 s_2=some o2:=G
 show B3 _ _ _ _ (mk _ _ _)
 unfold Bc.l2 at G
 refine Aj <| Cc 1 33 Ay ?_
 refine As ?_
 refine C0 rfl rfl (.len Kl.elem .part) rfl rfl ?_
 refine Bd fun B=>?_
 refine Cp rfl G (fun h13 G=>?_) fun h13 G=>?_
 refine C8 ?_
 refine Bo (ι:=Int×List Aa) (fun ((k_3,s_3):Int×List Aa)=>mk [(0,.row 0),(3,vk k_3),(4,.part 0 (((k_1:Int).toNat) * 11) (((s.length:Int):Int).toNat - (k_1:Int).toNat)),(5,vk k2_2)] [(0,.row 30 11 (Aq Aa.enc s_3))] 1) (fun ((k_3,s_3):Int×List Aa)=>Bc.j3 k2_2 k_3 s_3=some o2) ?_ ?_
 refine Ap <| Aj <| Bn (B6 _ _ []) (by kernel_rfl) [0,0,3,7,0,0,32,112,240,511] 33 113 B rfl rfl (by kernel_rfl) ?_
 refine As ?_
 obtain⟨e_3,he_3,G⟩:=Ab G
 refine Fi (rd:=[0]) rfl rfl (lR Kl (Up he_3) (Bq he_3)) rfl rfl ?_
 refine Fi (rd:=[0]) rfl rfl (W6 Nc (Gd Aa.enc_len (Uz (a:=(k_1:Int).toNat) (Bq he_3)) (o:=0) (m:=11) (cs:=(Aa.ec e_3)) rfl (by decide) rfl) (Eg Aa.enc_len (Uz (a:=(k_1:Int).toNat) (Bq he_3)) (o:=0) (m:=11) (by decide) rfl)) rfl rfl ?_
 refine As ?_
 obtain⟨e_4,he_4,G⟩:=Ab G
 refine Fi (rd:=[0]) rfl rfl (lR Kl (Up he_4) (Bq he_4)) rfl rfl ?_
 refine Fi (rd:=[0]) rfl rfl (W6 Nc (Gd Aa.enc_len (Uz (a:=(k_1:Int).toNat) (Bq he_4)) (o:=0) (m:=11) (cs:=(Aa.ec e_4)) rfl (by decide) rfl) (Eg Aa.enc_len (Uz (a:=(k_1:Int).toNat) (Bq he_4)) (o:=0) (m:=11) (by decide) rfl)) rfl rfl ?_
 refine C0 rfl rfl (Z1 e_3 e_4) rfl rfl ?_
 refine Gh fun B=>?_
 refine Cp rfl G (fun h15 G=>?_) fun h15 G=>?_
 refine Cc 113 177 B ?_
 refine As ?_
 refine Fi (rd:=[0]) rfl rfl (lR Kl (Up he_3) (Bq he_3)) rfl rfl ?_
 refine Fi (rd:=[0]) rfl rfl (W6 Nc (Gd Aa.enc_len (Uz (a:=(k_1:Int).toNat) (Bq he_3)) (o:=0) (m:=11) (cs:=(Aa.ec e_3)) rfl (by decide) rfl) (Eg Aa.enc_len (Uz (a:=(k_1:Int).toNat) (Bq he_3)) (o:=0) (m:=11) (by decide) rfl)) rfl rfl ?_
 obtain⟨e_5,he_5,G⟩:=Ab G
 refine As ?_
 refine Vt I6 he_5 (x':=e_3) ?_
 refine Gh fun B=>?_
 refine Ak (B6 _ _ []) 177 201 B rfl rfl ?_
 refine Bd fun B=>?_
 exact⟨(W (k_2 + 1),Db s_2 ((k_2).toNat) e_3),G,Ar [(0,0)]⟩
 refine C8 ?_
 exact⟨(k_2,s_2),G,Ar [(0,0)]⟩
 rintro⟨k_3,s_3⟩ G
 replace G:Bc.j3 k2_2 k_3 s_3=some o2:=G
 show B3 _ _ _ _ (mk _ _ _)
 unfold Bc.j3 at G
 refine Ak (B6 _ _ []) 1 25 Ay rfl rfl ?_
 refine Bd fun B=>?_
 obtain rfl:=oi_ G
 exact⟨((k_3,W (k2_2 + 1),s_3),m2),aCz _,hn2,Ar [(0,0)]⟩
 refine Je ?_
 replace G:=Cd G hn2
 refine Cc 33 65 B ?_
 refine As ?_
 obtain⟨l_2,hl_2,G⟩:=Ab G
 refine Fi (rd:=[0]) rfl rfl (Us Kl Aa.enc_len hl_2) rfl rfl ?_
 obtain⟨l_3,hl_3,G⟩:=Ab G
 refine Mw (rd:=[0]) rfl rfl (xX (f:=Aa.enc) (a:=(k_2:Int).toNat) (m:=(((s_2.length:Int):Int).toNat - (k_2:Int).toNat)) (z0:=(Aa.mk 0 (⟨#[]⟩:ByteArray) 0 0 0 0 (⟨#[]⟩:ByteArray) (Am.mk 0 0) 0 (⟨#[]⟩:ByteArray))) Kl Aa.enc_len (aEn (ck:=[none,none,none,none,none,none,none,none,none,none,none]) fD (.cons .int (.cons .str (.cons .int (.cons .int (.cons .int (.cons .int (.cons .str (.cons .int (.cons .int (.cons .int (.cons .str .nil)))))))))))) (.head _) hl_3) rfl rfl (fun _=>⟨_,rfl⟩) ?_
 rintro _ rfl
 refine Gh fun B=>?_
 refine Cc 65 97 B ?_
 refine As ?_
 obtain⟨l_4,hl_4,G⟩:=Ab G
 refine Fi (rd:=[0]) rfl rfl (Xk Kl Aa.enc_len hl_4) rfl rfl ?_
 refine Bd fun B=>?_
 refine Fw (σ':=mk [(2,.part 0 (((0:Int).toNat) * 11) ((k_2:Int).toNat - (0:Int).toNat))] [(0,.row 30 11 (Aq Aa.enc l_3))] 1) (Ar [(0,0)]) ?_
 refine Fw (σ':=mk [(2,.row 0)] [(0,.row 30 11 (Aq Aa.enc (l_3.take ((k_2:Int).toNat - (0:Int).toNat))))] 1) (aHp 2 0 Aa.enc_len (aHw (Nat.le_add_left _ _) (Ry hl_4)) rfl rfl rfl rfl) ?_
 refine E2 ?_
 replace G:=Cd G hn1
 obtain rfl:=oi_ G
 exact Gg [(0,0)] ⟨rfl,rfl⟩
 refine C8 ?_
 refine Ak (B6 _ _ []) 113 137 B rfl rfl ?_
 refine Bd fun B=>?_
 obtain rfl:=oi_ G
 exact⟨(W (k_1 + 1),m1),aCz _,hn1,Ar [(0,0)]⟩
 refine Je ?_
 replace G:=Cd G hn1
 refine Bf 33 49 B fun B=>?_
 refine E2 ?_
 obtain rfl:=oi_ G
 exact Gg [(0,0)] ⟨rfl,rfl⟩
end Go.Proofs.YtchpcpaacenodaaGreat
