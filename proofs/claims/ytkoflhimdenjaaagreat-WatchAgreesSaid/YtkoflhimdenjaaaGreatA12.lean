import Derived.Test.YtkoflhimdenjaaaGreatT1
import Derived.Test.YtkoflhimdenjaaaGreatA9
import Derived.Test.YtkoflhimdenjaaaGreatA10
import Derived.Test.YtkoflhimdenjaaaGreatA11
set_option linter.unusedVariables false
set_option linter.unusedSimpArgs false
set_option maxRecDepth 100000
set_option maxHeartbeats 1600000
namespace Go.Proofs.YtkoflhimdenjaaaGreat
open Go.RowKit
theorem Hy (data:List Aa) (a:Int) (b:Int) (pivot:Int) (cmp:Aa->Aa->Option (Int)) (hf_cmp:∀ (x0:Aa) (x1:Aa) (y:Int),cmp x0 x1=some y->Fn Tryz.prog 112 0 [.agg (Aa.dv x0),.agg (Aa.dv x1)] [] (fun d' b'=>d'=vk y/\b'=[])) (r:Int×(List Aa)) (G:An data a b pivot cmp=some r):Fn Tryz.prog 187 1 [.row 0,vk a,vk b,vk pivot,.clo 112 0 []] [.row 48 11 (As Aa.enc data)] (fun d' b'=>d'=vk r.1/\b'=[.row 48 11 (As Aa.enc r.2)]):=by
 unfold An at G
 refine Fn.of Tryz.func187 rfl rfl rfl fun w0 I ρ0=>?_
 show B4 _ ⟨w0,I,ρ0,1,1,90⟩ _ _ _
 refine Bk 1 9 Ay fun B=>?_
 refine Ak <| Bu (Ch _ _ []) (by kernel_rfl) [0,0,0,0,0,0,48,112,0,0,768,1792,4083,8179,16383,32767] 9 137 B rfl rfl (by kernel_rfl) ?_
 refine Aw ?_
 obtain⟨e,he,G⟩:=Ab G
 refine Aw ?_
 refine Ln he ?_
 refine Aw ?_
 obtain⟨e_2,he_2,G⟩:=Ab G
 refine Aw ?_
 refine Ln he_2 ?_
 refine Aw ?_
 refine Uk K1 he_2 (x':=e) ?_
 obtain⟨e_3,he_3,G⟩:=Ab G
 refine Aw ?_
 refine Uk K1 he_3 (x':=e_2) ?_
 refine G9 fun B=>?_
 refine Bk 137 185 B fun B=>?_
 refine Ak <| Aq <| Jp (fun ((i_1,j_1,data_1):Int×Int×List Aa)=>mk [(0,.row 0),(1,vk a),(4,.clo 112 0 []),(11,vk i_1),(12,vk j_1)] [(0,.row 48 11 (As Aa.enc data_1))] 1) G (Av [(0,0)]) ?_
 rintro⟨i_1,j_1,data_1⟩ m1 o1 G hn1
 replace G:An.l1 a cmp i_1 j_1 data_1=some o1:=G
 show B4 _ _ _ _ (mk _ _ _)
 unfold An.l1 at G
 refine Aq <| Ak <| Aq <| Jp (fun (i_2:Int)=>mk [(0,.row 0),(1,vk a),(4,.clo 112 0 []),(11,vk i_2),(12,vk j_1)] [(0,.row 48 11 (As Aa.enc data_1))] 1) G (Av [(0,0)]) ?_
 rintro i_2 m2 o2 G hn2
 replace G:An.l2 a cmp j_1 data_1 i_2=some o2:=G
 show B4 _ _ _ _ (mk _ _ _)
 unfold An.l2 at G
 refine Ak <| Bs (ι:=Bool) (fun (x47_3:Bool)=>mk [(0,.row 0),(1,vk a),(4,.clo 112 0 []),(11,vk i_2),(12,vk j_1),(47,.val (.bool x47_3))] [(0,.row 48 11 (As Aa.enc data_1))] 1) (fun (x47_3:Bool)=>An.j3 a cmp j_1 data_1 i_2 x47_3=some o2) ?_ ?_
 refine Bu (Ch _ _ []) (by kernel_rfl) [0,0,3,7,15,15,15,111,239,15,15,1551,3599,8191,16383,32767,65535] 1 137 Ay rfl rfl (by kernel_rfl) ?_
 refine Aw ?_
 rcases Dj G with ⟨h4,G⟩ | ⟨h4,G⟩
 refine Aw ?_
 obtain⟨e_4,he_4,G⟩:=Ab G
 refine Aw ?_
 refine Ln he_4 ?_
 refine Aw ?_
 obtain⟨e_5,he_5,G⟩:=Ab G
 refine Aw ?_
 refine Ln he_5 ?_
 obtain⟨y,hy,G⟩:=Ab G
 refine Cw (rd:=[]) (ps:=[]) (gs:=[]) false (Dx rfl rfl h4) rfl (hf_cmp e_4 e_5 _ hy) rfl rfl (.cons (.agg (.cons .val (.cons .val (.cons .val (.cons .val (.cons .val (.cons .val (.cons .val (.cons .val (.cons .val (.cons .val (.cons .val .nil)))))))))))) (.cons (.agg (.cons .val (.cons .val (.cons .val (.cons .val (.cons .val (.cons .val (.cons .val (.cons .val (.cons .val (.cons .val (.cons .val .nil)))))))))))) .nil)) rfl rfl (by intro h; cases h) rfl rfl rfl rfl ?_
 refine Bi fun B=>?_
 exact⟨!(decide (y < 0)),G,Av [(0,0)]⟩
 refine Bi fun B=>?_
 exact⟨false,G,Av [(0,0)]⟩
 rintro x47_3 G
 replace G:An.j3 a cmp j_1 data_1 i_2 x47_3=some o2:=G
 show B4 _ _ _ _ (mk _ _ _)
 unfold An.j3 at G
 refine Cr rfl G (fun h7 G=>?_) fun h7 G=>?_
 refine C9 ?_
 refine Aq <| Al (Ch _ _ []) 1 25 Ay rfl rfl ?_
 refine Bi fun B=>?_
 obtain rfl:=oi_ G
 exact⟨(W (i_2 + 1),m2),aBj _,hn2,Av [(0,0)]⟩
 refine Jl ?_
 replace G:=Ce G hn2
 refine Ak <| Aq <| Jp (fun (j_4:Int)=>mk [(0,.row 0),(1,vk a),(4,.clo 112 0 []),(11,vk i_2),(12,vk j_4)] [(0,.row 48 11 (As Aa.enc data_1))] 1) G (Av [(0,0)]) ?_
 rintro j_4 m4 o4 G hn4
 replace G:An.l4 a cmp data_1 i_2 j_4=some o4:=G
 show B4 _ _ _ _ (mk _ _ _)
 unfold An.l4 at G
 refine Ak <| Bs (ι:=Bool) (fun (x65_5:Bool)=>mk [(0,.row 0),(1,vk a),(4,.clo 112 0 []),(11,vk i_2),(12,vk j_4),(65,.val (.bool x65_5))] [(0,.row 48 11 (As Aa.enc data_1))] 1) (fun (x65_5:Bool)=>An.j5 data_1 i_2 j_4 x65_5=some o4) ?_ ?_
 refine Bu (Ch _ _ []) (by kernel_rfl) [0,0,3,7,15,15,15,111,239,15,15,1551,3599,8191,16383,32767] 1 129 Ay rfl rfl (by kernel_rfl) ?_
 refine Aw ?_
 rcases Dj G with ⟨h9,G⟩ | ⟨h9,G⟩
 refine Aw ?_
 obtain⟨e_6,he_6,G⟩:=Ab G
 refine Aw ?_
 refine Ln he_6 ?_
 refine Aw ?_
 obtain⟨e_7,he_7,G⟩:=Ab G
 refine Aw ?_
 refine Ln he_7 ?_
 obtain⟨y_2,hy_2,G⟩:=Ab G
 refine Cw (rd:=[]) (ps:=[]) (gs:=[]) false (Dx rfl rfl h9) rfl (hf_cmp e_6 e_7 _ hy_2) rfl rfl (.cons (.agg (.cons .val (.cons .val (.cons .val (.cons .val (.cons .val (.cons .val (.cons .val (.cons .val (.cons .val (.cons .val (.cons .val .nil)))))))))))) (.cons (.agg (.cons .val (.cons .val (.cons .val (.cons .val (.cons .val (.cons .val (.cons .val (.cons .val (.cons .val (.cons .val (.cons .val .nil)))))))))))) .nil)) rfl rfl (by intro h; cases h) rfl rfl rfl rfl ?_
 refine Bi fun B=>?_
 exact⟨decide (y_2 < 0),G,Av [(0,0)]⟩
 refine Bi fun B=>?_
 exact⟨false,G,Av [(0,0)]⟩
 rintro x65_5 G
 replace G:An.j5 data_1 i_2 j_4 x65_5=some o4:=G
 show B4 _ _ _ _ (mk _ _ _)
 unfold An.j5 at G
 refine Cr rfl G (fun h12 G=>?_) fun h12 G=>?_
 refine C9 ?_
 refine Aq <| Al (Ch _ _ []) 1 25 Ay rfl rfl ?_
 refine Bi fun B=>?_
 obtain rfl:=oi_ G
 exact⟨(W (j_4 - 1),m4),aBj _,hn4,Av [(0,0)]⟩
 refine Jl ?_
 replace G:=Ce G hn4
 refine Ak <| Bk 1 25 Ay fun B=>?_
 refine Cr rfl G (fun h15 G=>?_) fun h15 G=>?_
 refine Jl ?_
 replace G:=Ce G hn1
 refine Bk 25 41 B fun B=>?_
 refine Fj ?_
 obtain rfl:=oi_ G
 exact Ip [(0,0)] ⟨rfl,rfl⟩
 refine C9 ?_
 refine Ak <| Bu (Ch _ _ []) (by kernel_rfl) [0,0,0,0,0,0,48,112,0,0,768,1792,4083,8179,16383,32767] 25 153 B rfl rfl (by kernel_rfl) ?_
 refine Aw ?_
 obtain⟨e_8,he_8,G⟩:=Ab G
 refine Aw ?_
 refine Ln he_8 ?_
 refine Aw ?_
 obtain⟨e_9,he_9,G⟩:=Ab G
 refine Aw ?_
 refine Ln he_9 ?_
 refine Aw ?_
 refine Uk K1 he_9 (x':=e_8) ?_
 obtain⟨e_10,he_10,G⟩:=Ab G
 refine Aw ?_
 refine Uk K1 he_10 (x':=e_9) ?_
 refine G9 fun B=>?_
 refine Bk 153 177 B fun B=>?_
 refine Al (Ch _ _ []) 177 201 B rfl rfl ?_
 refine Bi fun B=>?_
 obtain rfl:=oi_ G
 exact⟨((W (i_2 + 1),W (j_4 - 1),C2 (C2 data_1 ((i_2).toNat) e_8) ((j_4).toNat) e_9),m1),aBj _,hn1,Av [(0,0)]⟩
theorem Ix (data:List Aa) (a:Int) (b:Int) (pivot:Int) (cmp:Aa->Aa->Option (Int)) (hf_cmp:∀ (x0:Aa) (x1:Aa) (y:Int),cmp x0 x1=some y->Fn Tryz.prog 112 0 [.agg (Aa.dv x0),.agg (Aa.dv x1)] [] (fun d' b'=>d'=vk y/\b'=[])) (r:Int×Bool×(List Aa)) (G:Ad data a b pivot cmp=some r):Fn Tryz.prog 188 1 [.row 0,vk a,vk b,vk pivot,.clo 112 0 []] [.row 48 11 (As Aa.enc data)] (fun d' b'=>d'=.tup [vk r.1,.val (.bool r.2.1)]/\b'=[.row 48 11 (As Aa.enc r.2.2)]):=by
 unfold Ad at G
 refine Fn.of Tryz.func188 rfl rfl rfl fun w0 I ρ0=>?_
 show B4 _ ⟨w0,I,ρ0,1,1,178⟩ _ _ _
 refine Bk 1 17 Ay fun B=>?_
 refine Ak <| Bu (Ch _ _ []) (by kernel_rfl) [0,0,0,0,0,0,48,112,0,0,768,1792,4083,8179,16383,32767] 17 145 B rfl rfl (by kernel_rfl) ?_
 refine Aw ?_
 obtain⟨e,he,G⟩:=Ab G
 refine Aw ?_
 refine Ln he ?_
 refine Aw ?_
 obtain⟨e_2,he_2,G⟩:=Ab G
 refine Aw ?_
 refine Ln he_2 ?_
 refine Aw ?_
 refine Uk K1 he_2 (x':=e) ?_
 obtain⟨e_3,he_3,G⟩:=Ab G
 refine Aw ?_
 refine Uk K1 he_3 (x':=e_2) ?_
 refine G9 fun B=>?_
 refine Bk 145 193 B fun B=>?_
 refine Ak <| Aq <| Jp (fun (i_1:Int)=>mk [(0,.row 0),(1,vk a),(4,.clo 112 0 []),(12,vk i_1),(13,.val (.int .i64 (W (b - 1))))] [(0,.row 48 11 (As Aa.enc (C2 (C2 data ((a).toNat) e) ((pivot).toNat) e_2)))] 1) G (Av [(0,0)]) ?_
 rintro i_1 m1 o1 G hn1
 replace G:Ad.l1 data a b pivot cmp e e_2 i_1=some o1:=G
 show B4 _ _ _ _ (mk _ _ _)
 unfold Ad.l1 at G
 refine Ak <| Bs (ι:=Bool) (fun (x47_2:Bool)=>mk [(0,.row 0),(1,vk a),(4,.clo 112 0 []),(12,vk i_1),(13,.val (.int .i64 (W (b - 1)))),(47,.val (.bool x47_2))] [(0,.row 48 11 (As Aa.enc (C2 (C2 data ((a).toNat) e) ((pivot).toNat) e_2)))] 1) (fun (x47_2:Bool)=>Ad.j2 data a b pivot cmp e e_2 i_1 x47_2=some o1) ?_ ?_
 refine Bu (Ch _ _ []) (by kernel_rfl) [0,0,3,7,15,15,15,111,239,15,15,1551,3599,8191,16383,32767] 1 129 Ay rfl rfl (by kernel_rfl) ?_
 refine Aw ?_
 rcases Dj G with ⟨h4,G⟩ | ⟨h4,G⟩
 refine Aw ?_
 obtain⟨e_4,he_4,G⟩:=Ab G
 refine Aw ?_
 refine Ln he_4 ?_
 refine Aw ?_
 obtain⟨e_5,he_5,G⟩:=Ab G
 refine Aw ?_
 refine Ln he_5 ?_
 obtain⟨y,hy,G⟩:=Ab G
 refine Cw (rd:=[]) (ps:=[]) (gs:=[]) false (Dx rfl rfl h4) rfl (hf_cmp e_4 e_5 _ hy) rfl rfl (.cons (.agg (.cons .val (.cons .val (.cons .val (.cons .val (.cons .val (.cons .val (.cons .val (.cons .val (.cons .val (.cons .val (.cons .val .nil)))))))))))) (.cons (.agg (.cons .val (.cons .val (.cons .val (.cons .val (.cons .val (.cons .val (.cons .val (.cons .val (.cons .val (.cons .val (.cons .val .nil)))))))))))) .nil)) rfl rfl (by intro h; cases h) rfl rfl rfl rfl ?_
 refine Bi fun B=>?_
 exact⟨decide (y < 0),G,Av [(0,0)]⟩
 refine Bi fun B=>?_
 exact⟨false,G,Av [(0,0)]⟩
 rintro x47_2 G
 replace G:Ad.j2 data a b pivot cmp e e_2 i_1 x47_2=some o1:=G
 show B4 _ _ _ _ (mk _ _ _)
 unfold Ad.j2 at G
 refine Cr rfl G (fun h7 G=>?_) fun h7 G=>?_
 refine C9 ?_
 refine Aq <| Al (Ch _ _ []) 1 25 Ay rfl rfl ?_
 refine Bi fun B=>?_
 obtain rfl:=oi_ G
 exact⟨(W (i_1 + 1),m1),aBj _,hn1,Av [(0,0)]⟩
 refine Jl ?_
 replace G:=Ce G hn1
 refine Ak <| Aq <| Jp (fun (j_3:Int)=>mk [(0,.row 0),(1,vk a),(4,.clo 112 0 []),(12,vk i_1),(13,vk j_3)] [(0,.row 48 11 (As Aa.enc (C2 (C2 data ((a).toNat) e) ((pivot).toNat) e_2)))] 1) G (Av [(0,0)]) ?_
 rintro j_3 m3 o3 G hn3
 replace G:Ad.l3 data a pivot cmp e e_2 i_1 j_3=some o3:=G
 show B4 _ _ _ _ (mk _ _ _)
 unfold Ad.l3 at G
 refine Ak <| Bs (ι:=Bool) (fun (x66_4:Bool)=>mk [(0,.row 0),(1,vk a),(4,.clo 112 0 []),(12,vk i_1),(13,vk j_3),(66,.val (.bool x66_4))] [(0,.row 48 11 (As Aa.enc (C2 (C2 data ((a).toNat) e) ((pivot).toNat) e_2)))] 1) (fun (x66_4:Bool)=>Ad.j4 data a pivot cmp e e_2 i_1 j_3 x66_4=some o3) ?_ ?_
 refine Bu (Ch _ _ []) (by kernel_rfl) [0,0,3,7,15,15,15,111,239,15,15,1551,3599,8191,16383,32767,65535] 1 137 Ay rfl rfl (by kernel_rfl) ?_
 refine Aw ?_
 rcases Dj G with ⟨h9,G⟩ | ⟨h9,G⟩
 refine Aw ?_
 obtain⟨e_6,he_6,G⟩:=Ab G
 refine Aw ?_
 refine Ln he_6 ?_
 refine Aw ?_
 obtain⟨e_7,he_7,G⟩:=Ab G
 refine Aw ?_
 refine Ln he_7 ?_
 obtain⟨y_2,hy_2,G⟩:=Ab G
 refine Cw (rd:=[]) (ps:=[]) (gs:=[]) false (Dx rfl rfl h9) rfl (hf_cmp e_6 e_7 _ hy_2) rfl rfl (.cons (.agg (.cons .val (.cons .val (.cons .val (.cons .val (.cons .val (.cons .val (.cons .val (.cons .val (.cons .val (.cons .val (.cons .val .nil)))))))))))) (.cons (.agg (.cons .val (.cons .val (.cons .val (.cons .val (.cons .val (.cons .val (.cons .val (.cons .val (.cons .val (.cons .val (.cons .val .nil)))))))))))) .nil)) rfl rfl (by intro h; cases h) rfl rfl rfl rfl ?_
 refine Bi fun B=>?_
 exact⟨!(decide (y_2 < 0)),G,Av [(0,0)]⟩
 refine Bi fun B=>?_
 exact⟨false,G,Av [(0,0)]⟩
 rintro x66_4 G
 replace G:Ad.j4 data a pivot cmp e e_2 i_1 j_3 x66_4=some o3:=G
 show B4 _ _ _ _ (mk _ _ _)
 unfold Ad.j4 at G
 refine Cr rfl G (fun h12 G=>?_) fun h12 G=>?_
 refine C9 ?_
 refine Aq <| Al (Ch _ _ []) 1 25 Ay rfl rfl ?_
 refine Bi fun B=>?_
 obtain rfl:=oi_ G
 exact⟨(W (j_3 - 1),m3),aBj _,hn3,Av [(0,0)]⟩
 refine Jl ?_
 replace G:=Ce G hn3
 refine Ak <| Bk 1 25 Ay fun B=>?_
 refine Cr rfl G (fun h15 G=>?_) fun h15 G=>?_
 refine Ak <| Bu (Ch _ _ []) (by kernel_rfl) [0,0,0,0,0,0,48,112,0,0,768,1792,4083,8179,16383,32767] 25 153 B rfl rfl (by kernel_rfl) ?_
 refine Aw ?_
 obtain⟨e_8,he_8,G⟩:=Ab G
 refine Aw ?_
 refine Ln he_8 ?_
 refine Aw ?_
 obtain⟨e_9,he_9,G⟩:=Ab G
 refine Aw ?_
 refine Ln he_9 ?_
 refine Aw ?_
 refine Uk K1 he_9 (x':=e_8) ?_
 obtain⟨e_10,he_10,G⟩:=Ab G
 refine Aw ?_
 refine Uk K1 he_10 (x':=e_9) ?_
 refine G9 fun B=>?_
 refine Bk 153 177 B fun B=>?_
 refine Fj ?_
 obtain rfl:=oi_ G
 exact Ip [(0,0)] ⟨rfl,rfl⟩
 refine C9 ?_
 refine Ak <| Bu (Ch _ _ []) (by kernel_rfl) [0,0,0,0,0,0,48,112,0,0,768,1792,4083,8179,16383,32767] 25 153 B rfl rfl (by kernel_rfl) ?_
 refine Aw ?_
 obtain⟨e_11,he_11,G⟩:=Ab G
 refine Aw ?_
 refine Ln he_11 ?_
 refine Aw ?_
 obtain⟨e_12,he_12,G⟩:=Ab G
 refine Aw ?_
 refine Ln he_12 ?_
 refine Aw ?_
 refine Uk K1 he_12 (x':=e_11) ?_
 obtain⟨e_13,he_13,G⟩:=Ab G
 refine Aw ?_
 refine Uk K1 he_13 (x':=e_12) ?_
 refine G9 fun B=>?_
 refine Bk 153 177 B fun B=>?_
 refine Bk 177 201 B fun B=>?_
 refine Ak <| Aq <| Jp (fun ((i_5,j_5,data_5):Int×Int×List Aa)=>mk [(0,.row 0),(1,vk a),(4,.clo 112 0 []),(12,vk i_5),(13,vk j_5)] [(0,.row 48 11 (As Aa.enc data_5))] 1) G (Av [(0,0)]) ?_
 rintro⟨i_5,j_5,data_5⟩ m5 o5 G hn5
 replace G:Ad.l5 a cmp i_5 j_5 data_5=some o5:=G
 show B4 _ _ _ _ (mk _ _ _)
 unfold Ad.l5 at G
 refine Aq <| Ak <| Aq <| Jp (fun (i_6:Int)=>mk [(0,.row 0),(1,vk a),(4,.clo 112 0 []),(12,vk i_6),(13,vk j_5)] [(0,.row 48 11 (As Aa.enc data_5))] 1) G (Av [(0,0)]) ?_
 rintro i_6 m6 o6 G hn6
 replace G:Ad.l6 a cmp j_5 data_5 i_6=some o6:=G
 show B4 _ _ _ _ (mk _ _ _)
 unfold Ad.l6 at G
 refine Ak <| Bs (ι:=Bool) (fun (x120_7:Bool)=>mk [(0,.row 0),(1,vk a),(4,.clo 112 0 []),(12,vk i_6),(13,vk j_5),(120,.val (.bool x120_7))] [(0,.row 48 11 (As Aa.enc data_5))] 1) (fun (x120_7:Bool)=>Ad.j7 a cmp j_5 data_5 i_6 x120_7=some o6) ?_ ?_
 refine Bu (Ch _ _ []) (by kernel_rfl) [0,0,3,7,15,15,15,111,239,15,15,1551,3599,8191,16383,32767] 1 129 Ay rfl rfl (by kernel_rfl) ?_
 refine Aw ?_
 rcases Dj G with ⟨h21,G⟩ | ⟨h21,G⟩
 refine Aw ?_
 obtain⟨e_14,he_14,G⟩:=Ab G
 refine Aw ?_
 refine Ln he_14 ?_
 refine Aw ?_
 obtain⟨e_15,he_15,G⟩:=Ab G
 refine Aw ?_
 refine Ln he_15 ?_
 obtain⟨y_3,hy_3,G⟩:=Ab G
 refine Cw (rd:=[]) (ps:=[]) (gs:=[]) false (Dx rfl rfl h21) rfl (hf_cmp e_14 e_15 _ hy_3) rfl rfl (.cons (.agg (.cons .val (.cons .val (.cons .val (.cons .val (.cons .val (.cons .val (.cons .val (.cons .val (.cons .val (.cons .val (.cons .val .nil)))))))))))) (.cons (.agg (.cons .val (.cons .val (.cons .val (.cons .val (.cons .val (.cons .val (.cons .val (.cons .val (.cons .val (.cons .val (.cons .val .nil)))))))))))) .nil)) rfl rfl (by intro h; cases h) rfl rfl rfl rfl ?_
 refine Bi fun B=>?_
 exact⟨decide (y_3 < 0),G,Av [(0,0)]⟩
 refine Bi fun B=>?_
 exact⟨false,G,Av [(0,0)]⟩
 rintro x120_7 G
 replace G:Ad.j7 a cmp j_5 data_5 i_6 x120_7=some o6:=G
 show B4 _ _ _ _ (mk _ _ _)
 unfold Ad.j7 at G
 refine Cr rfl G (fun h24 G=>?_) fun h24 G=>?_
 refine C9 ?_
 refine Aq <| Al (Ch _ _ []) 1 25 Ay rfl rfl ?_
 refine Bi fun B=>?_
 obtain rfl:=oi_ G
 exact⟨(W (i_6 + 1),m6),aBj _,hn6,Av [(0,0)]⟩
 refine Jl ?_
 replace G:=Ce G hn6
 refine Ak <| Aq <| Jp (fun (j_8:Int)=>mk [(0,.row 0),(1,vk a),(4,.clo 112 0 []),(12,vk i_6),(13,vk j_8)] [(0,.row 48 11 (As Aa.enc data_5))] 1) G (Av [(0,0)]) ?_
 rintro j_8 m8 o8 G hn8
 replace G:Ad.l8 a cmp data_5 i_6 j_8=some o8:=G
 show B4 _ _ _ _ (mk _ _ _)
 unfold Ad.l8 at G
 refine Ak <| Bs (ι:=Bool) (fun (x139_9:Bool)=>mk [(0,.row 0),(1,vk a),(4,.clo 112 0 []),(12,vk i_6),(13,vk j_8),(139,.val (.bool x139_9))] [(0,.row 48 11 (As Aa.enc data_5))] 1) (fun (x139_9:Bool)=>Ad.j9 a data_5 i_6 j_8 x139_9=some o8) ?_ ?_
 refine Bu (Ch _ _ []) (by kernel_rfl) [0,0,3,7,15,15,15,111,239,15,15,1551,3599,8191,16383,32767,65535] 1 137 Ay rfl rfl (by kernel_rfl) ?_
 refine Aw ?_
 rcases Dj G with ⟨h26,G⟩ | ⟨h26,G⟩
 refine Aw ?_
 obtain⟨e_16,he_16,G⟩:=Ab G
 refine Aw ?_
 refine Ln he_16 ?_
 refine Aw ?_
 obtain⟨e_17,he_17,G⟩:=Ab G
 refine Aw ?_
 refine Ln he_17 ?_
 obtain⟨y_4,hy_4,G⟩:=Ab G
 refine Cw (rd:=[]) (ps:=[]) (gs:=[]) false (Dx rfl rfl h26) rfl (hf_cmp e_16 e_17 _ hy_4) rfl rfl (.cons (.agg (.cons .val (.cons .val (.cons .val (.cons .val (.cons .val (.cons .val (.cons .val (.cons .val (.cons .val (.cons .val (.cons .val .nil)))))))))))) (.cons (.agg (.cons .val (.cons .val (.cons .val (.cons .val (.cons .val (.cons .val (.cons .val (.cons .val (.cons .val (.cons .val (.cons .val .nil)))))))))))) .nil)) rfl rfl (by intro h; cases h) rfl rfl rfl rfl ?_
 refine Bi fun B=>?_
 exact⟨!(decide (y_4 < 0)),G,Av [(0,0)]⟩
 refine Bi fun B=>?_
 exact⟨false,G,Av [(0,0)]⟩
 rintro x139_9 G
 replace G:Ad.j9 a data_5 i_6 j_8 x139_9=some o8:=G
 show B4 _ _ _ _ (mk _ _ _)
 unfold Ad.j9 at G
 refine Cr rfl G (fun h29 G=>?_) fun h29 G=>?_
 refine C9 ?_
 refine Aq <| Al (Ch _ _ []) 1 25 Ay rfl rfl ?_
 refine Bi fun B=>?_
 obtain rfl:=oi_ G
 exact⟨(W (j_8 - 1),m8),aBj _,hn8,Av [(0,0)]⟩
 refine Jl ?_
 replace G:=Ce G hn8
 refine Ak <| Bk 1 25 Ay fun B=>?_
 refine Cr rfl G (fun h32 G=>?_) fun h32 G=>?_
 refine Jl ?_
 replace G:=Ce G hn5
 refine Ak <| Bu (Ch _ _ []) (by kernel_rfl) [0,0,0,0,0,0,48,112,0,0,768,1792,4083,8179,16383,32767] 25 153 B rfl rfl (by kernel_rfl) ?_
 refine Aw ?_
 obtain⟨e_21,he_21,G⟩:=Ab G
 refine Aw ?_
 refine Ln he_21 ?_
 refine Aw ?_
 obtain⟨e_22,he_22,G⟩:=Ab G
 refine Aw ?_
 refine Ln he_22 ?_
 refine Aw ?_
 refine Uk K1 he_22 (x':=e_21) ?_
 obtain⟨e_23,he_23,G⟩:=Ab G
 refine Aw ?_
 refine Uk K1 he_23 (x':=e_22) ?_
 refine G9 fun B=>?_
 refine Bk 153 177 B fun B=>?_
 refine Fj ?_
 obtain rfl:=oi_ G
 exact Ip [(0,0)] ⟨rfl,rfl⟩
 refine C9 ?_
 refine Ak <| Bu (Ch _ _ []) (by kernel_rfl) [0,0,0,0,0,0,48,112,0,0,768,1792,4083,8179,16383,32767] 25 153 B rfl rfl (by kernel_rfl) ?_
 refine Aw ?_
 obtain⟨e_18,he_18,G⟩:=Ab G
 refine Aw ?_
 refine Ln he_18 ?_
 refine Aw ?_
 obtain⟨e_19,he_19,G⟩:=Ab G
 refine Aw ?_
 refine Ln he_19 ?_
 refine Aw ?_
 refine Uk K1 he_19 (x':=e_18) ?_
 obtain⟨e_20,he_20,G⟩:=Ab G
 refine Aw ?_
 refine Uk K1 he_20 (x':=e_19) ?_
 refine G9 fun B=>?_
 refine Bk 153 177 B fun B=>?_
 refine Al (Ch _ _ []) 177 201 B rfl rfl ?_
 refine Bi fun B=>?_
 obtain rfl:=oi_ G
 exact⟨((W (i_6 + 1),W (j_8 - 1),C2 (C2 data_5 ((i_6).toNat) e_18) ((j_8).toNat) e_19),m5),aBj _,hn5,Av [(0,0)]⟩
theorem Ej.F (cmp:Aa->Aa->Option (Int)) (hf_cmp:∀ (x0:Aa) (x1:Aa) (y:Int),cmp x0 x1=some y->Fn Tryz.prog 112 0 [.agg (Aa.dv x0),.agg (Aa.dv x1)] [] (fun d' b'=>d'=vk y/\b'=[])) (rec:(List Aa)->Int->Int->Int->Option ((List Aa))) (hrec:∀ (data:List Aa) (a:Int) (b:Int) (limit:Int) (r:(List Aa)),rec data a b limit=some r->Fn Tryz.prog 140 1 [.row 0,vk a,vk b,vk limit,.clo 112 0 []] [.row 48 11 (As Aa.enc data)] (fun d' b'=>d'=.tup []/\b'=[.row 48 11 (As Aa.enc r)])) (data:List Aa) (a:Int) (b:Int) (limit:Int) (r:(List Aa)) (G:Aj.F rec data a b limit cmp=some r):Fn Tryz.prog 140 1 [.row 0,vk a,vk b,vk limit,.clo 112 0 []] [.row 48 11 (As Aa.enc data)] (fun d' b'=>d'=.tup []/\b'=[.row 48 11 (As Aa.enc r)]):=by
 unfold Aj.F at G
 refine Fn.of Tryz.func140 rfl rfl rfl fun w0 I ρ0=>?_
 show B4 _ ⟨w0,I,ρ0,1,1,148⟩ _ _ _
 refine Bk 1 9 Ay fun B=>?_
 refine Bk 9 17 B fun B=>?_
 refine Aq <| Jp (fun ((a_1,b_1,limit_1,wasBalanced_1,wasPartitioned_1,data_1):Int×Int×Int×Bool×Bool×List Aa)=>mk [(0,.row 0),(1,vk a_1),(2,vk b_1),(3,vk limit_1),(4,.clo 112 0 []),(10,.val (.bool wasBalanced_1)),(11,.val (.bool wasPartitioned_1))] [(0,.row 48 11 (As Aa.enc data_1))] 1) G (Av [(0,0)]) ?_
 rintro⟨a_1,b_1,limit_1,wasBalanced_1,wasPartitioned_1,data_1⟩ m1 o1 G hn1
 replace G:Aj.l1 rec cmp a_1 b_1 limit_1 wasBalanced_1 wasPartitioned_1 data_1=some o1:=G
 show B4 _ _ _ _ (mk _ _ _)
 unfold Aj.l1 at G
 refine Aq <| Bk 1 33 Ay fun B=>?_
 refine Ak <| Bk 33 49 B fun B=>?_
 refine Cr rfl G (fun h5 G=>?_) fun h5 G=>?_
 refine Ca 49 89 B ?_
 refine Aw ?_
 obtain⟨y,hy,G⟩:=Ab G
 refine Ki [0] [0] [] false (H1 data_1 a_1 b_1 cmp hf_cmp _ hy) ?_
 refine G9 fun B=>?_
 refine Fj ?_
 replace G:=Ce G hn1
 obtain rfl:=oi_ G
 exact Ip [(0,0)] ⟨rfl,rfl⟩
 refine C9 ?_
 refine Ak <| Bk 49 65 B fun B=>?_
 refine Cr rfl G (fun h8 G=>?_) fun h8 G=>?_
 refine Ca 65 105 B ?_
 refine Aw ?_
 obtain⟨y_2,hy_2,G⟩:=Ab G
 refine Ki [0] [0] [] false (I2 data_1 a_1 b_1 cmp hf_cmp _ hy_2) ?_
 refine G9 fun B=>?_
 refine Fj ?_
 replace G:=Ce G hn1
 obtain rfl:=oi_ G
 exact Ip [(0,0)] ⟨rfl,rfl⟩
 refine C9 ?_
 refine Bs (ι:=Int×List Aa) (fun ((limit_2,data_2):Int×List Aa)=>mk [(0,.row 0),(1,vk a_1),(2,vk b_1),(3,vk limit_2),(4,.clo 112 0 []),(10,.val (.bool wasBalanced_1)),(11,.val (.bool wasPartitioned_1)),(12,.val (.int .i64 (W (b_1 - a_1))))] [(0,.row 48 11 (As Aa.enc data_2))] 1) (fun ((limit_2,data_2):Int×List Aa)=>Aj.j2 rec cmp a_1 b_1 wasBalanced_1 wasPartitioned_1 limit_2 data_2=some o1) ?_ ?_
 refine Bk 65 81 B fun B=>?_
 refine Cr rfl G (fun h11 G=>?_) fun h11 G=>?_
 refine Ca 81 121 B ?_
 refine Aw ?_
 obtain⟨y_3,hy_3,G⟩:=Ab G
 refine Ki [0] [0] [] false (H4 data_1 a_1 b_1 cmp hf_cmp _ hy_3) ?_
 refine G9 fun B=>?_
 refine Al (Ch _ _ []) 121 145 B rfl rfl ?_
 refine Bi fun B=>?_
 exact⟨(W (limit_1 - 1),y_3),G,Av [(0,0)]⟩
 refine C9 ?_
 exact⟨(limit_1,data_1),G,Av [(0,0)]⟩
 rintro⟨limit_2,data_2⟩ G
 replace G:Aj.j2 rec cmp a_1 b_1 wasBalanced_1 wasPartitioned_1 limit_2 data_2=some o1:=G
 show B4 _ _ _ _ (mk _ _ _)
 unfold Aj.j2 at G
 refine Ca 1 81 Ay ?_
 refine Aw ?_
 obtain⟨y_4,hy_4,G⟩:=Ab G
 refine Ki [0] [] [] true (Ig data_2 a_1 b_1 cmp hf_cmp _ hy_4) ?_
 refine Bi fun B=>?_
 refine Bs (ι:=Int×Int×List Aa) (fun ((pivot_3,hint_3,data_3):Int×Int×List Aa)=>mk [(0,.row 0),(1,vk a_1),(2,vk b_1),(3,vk limit_2),(4,.clo 112 0 []),(10,.val (.bool wasBalanced_1)),(11,.val (.bool wasPartitioned_1)),(12,.val (.int .i64 (W (b_1 - a_1)))),(13,vk pivot_3),(14,vk hint_3)] [(0,.row 48 11 (As Aa.enc data_3))] 1) (fun ((pivot_3,hint_3,data_3):Int×Int×List Aa)=>Aj.j3 rec cmp a_1 b_1 wasBalanced_1 wasPartitioned_1 limit_2 pivot_3 hint_3 data_3=some o1) ?_ ?_
 refine Bk 81 97 B fun B=>?_
 refine Cr rfl G (fun h16 G=>?_) fun h16 G=>?_
 refine Ca 97 137 B ?_
 refine Aw ?_
 obtain⟨y_5,hy_5,G⟩:=Ab G
 refine Ki [0] [0] [] false (Ia data_2 a_1 b_1 cmp hf_cmp _ hy_5) ?_
 refine G9 fun B=>?_
 refine Bk 137 193 B fun B=>?_
 refine Al (Ch _ _ []) 193 201 B rfl rfl ?_
 refine Bi fun B=>?_
 exact⟨(W ((W (b_1 - 1)) - (W (y_4.1 - a_1))),1,y_5),G,Av [(0,0)]⟩
 refine C9 ?_
 exact⟨(y_4.1,y_4.2,data_2),G,Av [(0,0)]⟩
 rintro⟨pivot_3,hint_3,data_3⟩ G
 replace G:Aj.j3 rec cmp a_1 b_1 wasBalanced_1 wasPartitioned_1 limit_2 pivot_3 hint_3 data_3=some o1:=G
 show B4 _ _ _ _ (mk _ _ _)
 unfold Aj.j3 at G
 refine Bs (ι:=List Aa) (fun (data_5:List Aa)=>mk [(0,.row 0),(1,vk a_1),(2,vk b_1),(3,vk limit_2),(4,.clo 112 0 []),(10,.val (.bool wasBalanced_1)),(11,.val (.bool wasPartitioned_1)),(12,.val (.int .i64 (W (b_1 - a_1)))),(13,vk pivot_3)] [(0,.row 48 11 (As Aa.enc data_5))] 1) (fun (data_5:List Aa)=>Aj.j5 rec cmp a_1 b_1 wasBalanced_1 wasPartitioned_1 limit_2 pivot_3 data_5=some o1) ?_ ?_
 refine Bs (ι:=Bool) (fun (x75_4:Bool)=>mk [(0,.row 0),(1,vk a_1),(2,vk b_1),(3,vk limit_2),(4,.clo 112 0 []),(10,.val (.bool wasBalanced_1)),(11,.val (.bool wasPartitioned_1)),(12,.val (.int .i64 (W (b_1 - a_1)))),(13,vk pivot_3),(75,.val (.bool x75_4))] [(0,.row 48 11 (As Aa.enc data_3))] 1) (fun (x75_4:Bool)=>Aj.j4 rec cmp a_1 b_1 wasBalanced_1 wasPartitioned_1 limit_2 pivot_3 data_3 x75_4=some o1) ?_ ?_
 refine Al (Ch _ _ []) 1 65 Ay rfl rfl ?_
 refine Aw ?_
 rcases Dj G with ⟨h20,G⟩ | ⟨h20,G⟩
 refine Aw ?_
 rcases Dj G with ⟨h21,G⟩ | ⟨h21,G⟩
 refine Bi fun B=>?_
 exact⟨decide (hint_3=1),G,Av [(0,0)]⟩
 refine Bi fun B=>?_
 exact⟨false,G,Av [(0,0)]⟩
 refine Bi fun B=>?_
 exact⟨false,G,Av [(0,0)]⟩
 rintro x75_4 G
 replace G:Aj.j4 rec cmp a_1 b_1 wasBalanced_1 wasPartitioned_1 limit_2 pivot_3 data_3 x75_4=some o1:=G
 show B4 _ _ _ _ (mk _ _ _)
 unfold Aj.j4 at G
 refine Cr rfl G (fun h25 G=>?_) fun h25 G=>?_
 refine Ca 1 41 Ay ?_
 refine Aw ?_
 obtain⟨y_6,hy_6,G⟩:=Ab G
 refine Ki [0] [0] [] false (Gw data_3 a_1 b_1 cmp hf_cmp _ hy_6) ?_
 refine G9 fun B=>?_
 refine Cr rfl G (fun h27 G=>?_) fun h27 G=>?_
 refine fJ ?_
 refine rp_ ?_
 replace G:=Ce G hn1
 obtain rfl:=oi_ G
 exact Ip [(0,0)] ⟨rfl,rfl⟩
 refine C9 ?_
 exact⟨y_6.2,G,Av [(0,0)]⟩
 refine C9 ?_
 exact⟨data_3,G,Av [(0,0)]⟩
 rintro data_5 G
 replace G:Aj.j5 rec cmp a_1 b_1 wasBalanced_1 wasPartitioned_1 limit_2 pivot_3 data_5=some o1:=G
 show B4 _ _ _ _ (mk _ _ _)
 unfold Aj.j5 at G
 refine Ak <| Bs (ι:=Bool) (fun (x97_6:Bool)=>mk [(0,.row 0),(1,vk a_1),(2,vk b_1),(3,vk limit_2),(4,.clo 112 0 []),(10,.val (.bool wasBalanced_1)),(11,.val (.bool wasPartitioned_1)),(12,.val (.int .i64 (W (b_1 - a_1)))),(13,vk pivot_3),(97,.val (.bool x97_6))] [(0,.row 48 11 (As Aa.enc data_5))] 1) (fun (x97_6:Bool)=>Aj.j6 rec cmp a_1 b_1 wasBalanced_1 wasPartitioned_1 limit_2 pivot_3 data_5 x97_6=some o1) ?_ ?_
 refine Bu (Ch _ _ []) (by kernel_rfl) [0,1,3,7,7,7,39,119,247,7,7,1543,3591,8191,16383,32767,65535] 1 137 Ay rfl rfl (by kernel_rfl) ?_
 refine Aw ?_
 rcases Dj G with ⟨h28,G⟩ | ⟨h28,G⟩
 refine Aw ?_
 obtain⟨e,he,G⟩:=Ab G
 refine Aw ?_
 refine Ln he ?_
 refine Aw ?_
 obtain⟨e_2,he_2,G⟩:=Ab G
 refine Aw ?_
 refine Ln he_2 ?_
 obtain⟨y_7,hy_7,G⟩:=Ab G
 refine Cw (rd:=[]) (ps:=[]) (gs:=[]) false (Dx rfl rfl h28) rfl (hf_cmp e e_2 _ hy_7) rfl rfl (.cons (.agg (.cons .val (.cons .val (.cons .val (.cons .val (.cons .val (.cons .val (.cons .val (.cons .val (.cons .val (.cons .val (.cons .val .nil)))))))))))) (.cons (.agg (.cons .val (.cons .val (.cons .val (.cons .val (.cons .val (.cons .val (.cons .val (.cons .val (.cons .val (.cons .val (.cons .val .nil)))))))))))) .nil)) rfl rfl (by intro h; cases h) rfl rfl rfl rfl ?_
 refine Bi fun B=>?_
 exact⟨!(decide (y_7 < 0)),G,Av [(0,0)]⟩
 refine Bi fun B=>?_
 exact⟨false,G,Av [(0,0)]⟩
 rintro x97_6 G
 replace G:Aj.j6 rec cmp a_1 b_1 wasBalanced_1 wasPartitioned_1 limit_2 pivot_3 data_5 x97_6=some o1:=G
 show B4 _ _ _ _ (mk _ _ _)
 unfold Aj.j6 at G
 refine Cr rfl G (fun h31 G=>?_) fun h31 G=>?_
 refine Ca 1 57 Ay ?_
 refine Aw ?_
 obtain⟨y_8,hy_8,G⟩:=Ab G
 refine Ki [0] [0] [] false (Hy data_5 a_1 b_1 pivot_3 cmp hf_cmp _ hy_8) ?_
 refine Bi fun B=>?_
 refine Bk 57 73 B fun B=>?_
 refine Jl ?_
 obtain rfl:=oi_ G
 exact⟨((y_8.1,b_1,limit_2,wasBalanced_1,wasPartitioned_1,y_8.2),m1),aBj _,hn1,Av [(0,0)]⟩
 refine C9 ?_
 refine Ca 1 89 Ay ?_
 refine Aw ?_
 obtain⟨y_9,hy_9,G⟩:=Ab G
 refine Ki [0] [0] [] false (Ix data_5 a_1 b_1 pivot_3 cmp hf_cmp _ hy_9) ?_
 refine Bi fun B=>?_
 refine Bk 89 105 B fun B=>?_
 refine Bk 105 169 B fun B=>?_
 refine Ca 169 193 B ?_
 refine Aw ?_
 obtain⟨q,hq,G⟩:=Ab G
 refine C1 rfl rfl (Sx hq) rfl rfl ?_
 refine Bi fun B=>?_
 refine Bk 193 217 B fun B=>?_
 refine Cr rfl G (fun h39 G=>?_) fun h39 G=>?_
 refine Bk 217 249 B fun B=>?_
 refine Ca 249 297 B ?_
 refine Aw ?_
 obtain⟨y_10,hy_10,G⟩:=Ab G
 refine Ki [0] [0] [] false (hrec y_9.2.2 a_1 y_9.1 limit_2 _ hy_10) ?_
 refine G9 fun B=>?_
 refine Al (Ch _ _ []) 297 321 B rfl rfl ?_
 refine Bi fun B=>?_
 obtain rfl:=oi_ G
 exact⟨((W (y_9.1 + 1),b_1,limit_2,decide (q<=(W (y_9.1 - a_1))),y_9.2.1,y_10),m1),aBj _,hn1,Av [(0,0)]⟩
 refine Bk 217 249 B fun B=>?_
 refine Ca 249 305 B ?_
 refine Aw ?_
 obtain⟨y_11,hy_11,G⟩:=Ab G
 refine Ki [0] [0] [] false (hrec y_9.2.2 (W (y_9.1 + 1)) b_1 limit_2 _ hy_11) ?_
 refine G9 fun B=>?_
 refine Al (Ch _ _ []) 305 321 B rfl rfl ?_
 refine Bi fun B=>?_
 obtain rfl:=oi_ G
 exact⟨((a_1,y_9.1,limit_2,decide (q<=(W (b_1 - y_9.1))),y_9.2.1,y_11),m1),aBj _,hn1,Av [(0,0)]⟩
theorem Ej (data:List Aa) (a:Int) (b:Int) (limit:Int) (cmp:Aa->Aa->Option (Int)) (hf_cmp:∀ (x0:Aa) (x1:Aa) (y:Int),cmp x0 x1=some y->Fn Tryz.prog 112 0 [.agg (Aa.dv x0),.agg (Aa.dv x1)] [] (fun d' b'=>d'=vk y/\b'=[])) (r:(List Aa)) (G:Aj data a b limit cmp=some r):Fn Tryz.prog 140 1 [.row 0,vk a,vk b,vk limit,.clo 112 0 []] [.row 48 11 (As Aa.enc data)] (fun d' b'=>d'=.tup []/\b'=[.row 48 11 (As Aa.enc r)]):=
 Tf (motive:=fun (x:List Aa×Int×Int×Int) (r:(List Aa))=>Fn Tryz.prog 140 1 [.row 0,vk x.2.1,vk x.2.2.1,vk x.2.2.2,.clo 112 0 []] [.row 48 11 (As Aa.enc x.1)] (fun d' b'=>d'=.tup []/\b'=[.row 48 11 (As Aa.enc r)])) (fun rec hrec x r h=>Ej.F cmp hf_cmp _ (fun data a b limit r h=>hrec (data,a,b,limit) r h) x.1 x.2.1 x.2.2.1 x.2.2.2 r h) (data,a,b,limit) r G
theorem Kc (x':List Aa) (cmp:Aa->Aa->Option (Int)) (hf_cmp:∀ (x0:Aa) (x1:Aa) (y:Int),cmp x0 x1=some y->Fn Tryz.prog 112 0 [.agg (Aa.dv x0),.agg (Aa.dv x1)] [] (fun d' b'=>d'=vk y/\b'=[])) (r:(List Aa)) (G:Ec x' cmp=some r):Fn Tryz.prog 111 1 [.row 0,.clo 112 0 []] [.row 48 11 (As Aa.enc x')] (fun d' b'=>d'=.tup []/\b'=[.row 48 11 (As Aa.enc r)]):=by
 unfold Ec at G
 refine Fn.of Tryz.func111 rfl rfl rfl fun w0 I ρ0=>?_
 show B4 _ ⟨w0,I,ρ0,1,1,14⟩ _ _ _
 refine Bk 1 25 Ay fun B=>?_
 refine Al (Ch _ _ []) 25 81 B rfl rfl ?_
 refine Aw ?_
 refine C1 rfl rfl (Y1 Ye lZ) rfl rfl ?_
 obtain⟨y,hy,G⟩:=Ab G
 refine Dl (R9 _ _ hy) ?_
 refine Aw ?_
 obtain⟨y_2,hy_2,G⟩:=Ab G
 refine Ki [0] [0] [] false (Ej x' 0 (x'.length:Int) y cmp hf_cmp _ hy_2) ?_
 refine G9 fun B=>?_
 obtain rfl:=oi_ G
 exact Ip [(0,0)] ⟨rfl,rfl⟩
theorem L5 (s:List Aa) (r:(List Aa)) (G:Bg s=some r):Fn Tryz.prog 113 0 [.row 0] [.row 48 11 (As Aa.enc s)] (fun d' b'=>d'=.row 0/\b'=[.row 48 11 (As Aa.enc r)]):=by
 unfold Bg at G
 refine Fn.of Tryz.func113 rfl rfl rfl fun w0 I ρ0=>?_
 show B4 _ ⟨w0,I,ρ0,0,1,61⟩ _ _ _
 refine Bk 1 9 Ay fun B=>?_
 refine Ak <| Bk 9 33 B fun B=>?_
 refine Cr rfl G (fun h3 G=>?_) fun h3 G=>?_
 refine Bk 33 49 B fun B=>?_
 refine Fj ?_
 obtain rfl:=oi_ G
 exact Ip [(0,0)] ⟨rfl,rfl⟩
 refine C9 ?_
 refine Ak <| Bk 33 41 B fun B=>?_
 refine Aq <| Jp (fun (k_1:Int)=>mk [(0,.row 0),(3,vk k_1)] [(0,.row 48 11 (As Aa.enc s))] 1) G (Av [(0,0)]) ?_
 rintro k_1 m1 o1 G hn1
 replace G:Bg.l1 s k_1=some o1:=G
 show B4 _ _ _ _ (mk _ _ _)
 unfold Bg.l1 at G
 refine Ak <| Bk 1 33 Ay fun B=>?_
 refine Cr rfl G (fun h7 G=>?_) fun h7 G=>?_
 refine C9 ?_
 refine Ak <| Aq <| Ak <| Bu (Ch _ _ []) (by kernel_rfl) [0,0,3,7,0,0,32,112,240,511] 33 113 B rfl rfl (by kernel_rfl) ?_
 refine Aw ?_
 obtain⟨e,he,G⟩:=Ab G
 refine Aw ?_
 refine Ln he ?_
 refine Aw ?_
 obtain⟨e_2,he_2,G⟩:=Ab G
 refine Aw ?_
 refine Ln he_2 ?_
 refine C1 rfl rfl (lD e e_2) rfl rfl ?_
 refine G9 fun B=>?_
 refine Cr rfl G (fun h9 G=>?_) fun h9 G=>?_
 refine Ca 113 145 B ?_
 refine Aw ?_
 obtain⟨l,hl,G⟩:=Ab G
 refine Gs (rd:=[0]) rfl rfl (W0 Ue Aa.enc_len hl) rfl rfl ?_
 refine Bi fun B=>?_
 refine Ak <| Bk 145 153 B fun B=>?_
 refine Aq <| Jp (fun ((k_2,k2_2,s_2):Int×Int×List Aa)=>mk [(0,.row 0),(3,vk k_2),(4,.part 0 (((k_1:Int).toNat) * 11) (((s.length:Int):Int).toNat - (k_1:Int).toNat)),(5,vk k2_2)] [(0,.row 48 11 (As Aa.enc s_2))] 1) G (Av [(0,0)]) ?_
 rintro⟨k_2,k2_2,s_2⟩ m2 o2 G hn2
 replace G:Bg.l2 s k_1 k_2 k2_2 s_2=some o2:=G
 show B4 _ _ _ _ (mk _ _ _)
 unfold Bg.l2 at G
 refine Ak <| Ca 1 33 Ay ?_
 refine Aw ?_
 refine C1 rfl rfl (.len Ue.elem .part) rfl rfl ?_
 refine Bi fun B=>?_
 refine Cr rfl G (fun h13 G=>?_) fun h13 G=>?_
 refine C9 ?_
 refine Bs (ι:=Int×List Aa) (fun ((k_3,s_3):Int×List Aa)=>mk [(0,.row 0),(3,vk k_3),(4,.part 0 (((k_1:Int).toNat) * 11) (((s.length:Int):Int).toNat - (k_1:Int).toNat)),(5,vk k2_2)] [(0,.row 48 11 (As Aa.enc s_3))] 1) (fun ((k_3,s_3):Int×List Aa)=>Bg.j3 k2_2 k_3 s_3=some o2) ?_ ?_
 refine Aq <| Ak <| Bu (Ch _ _ []) (by kernel_rfl) [0,0,3,7,0,0,32,112,240,511] 33 113 B rfl rfl (by kernel_rfl) ?_
 refine Aw ?_
 obtain⟨e_3,he_3,G⟩:=Ab G
 refine Gs (rd:=[0]) rfl rfl (dO Ue (Rn he_3) (B3 he_3)) rfl rfl ?_
 refine Gs (rd:=[0]) rfl rfl (Vq My (Hi Aa.enc_len (Rz (a:=(k_1:Int).toNat) (B3 he_3)) (o:=0) (m:=11) (cs:=(Aa.ec e_3)) rfl (by decide) rfl) (E1 Aa.enc_len (Rz (a:=(k_1:Int).toNat) (B3 he_3)) (o:=0) (m:=11) (by decide) rfl)) rfl rfl ?_
 refine Aw ?_
 obtain⟨e_4,he_4,G⟩:=Ab G
 refine Gs (rd:=[0]) rfl rfl (dO Ue (Rn he_4) (B3 he_4)) rfl rfl ?_
 refine Gs (rd:=[0]) rfl rfl (Vq My (Hi Aa.enc_len (Rz (a:=(k_1:Int).toNat) (B3 he_4)) (o:=0) (m:=11) (cs:=(Aa.ec e_4)) rfl (by decide) rfl) (E1 Aa.enc_len (Rz (a:=(k_1:Int).toNat) (B3 he_4)) (o:=0) (m:=11) (by decide) rfl)) rfl rfl ?_
 refine C1 rfl rfl (kD e_3 e_4) rfl rfl ?_
 refine G9 fun B=>?_
 refine Cr rfl G (fun h15 G=>?_) fun h15 G=>?_
 refine Ca 113 177 B ?_
 refine Aw ?_
 refine Gs (rd:=[0]) rfl rfl (dO Ue (Rn he_3) (B3 he_3)) rfl rfl ?_
 refine Gs (rd:=[0]) rfl rfl (Vq My (Hi Aa.enc_len (Rz (a:=(k_1:Int).toNat) (B3 he_3)) (o:=0) (m:=11) (cs:=(Aa.ec e_3)) rfl (by decide) rfl) (E1 Aa.enc_len (Rz (a:=(k_1:Int).toNat) (B3 he_3)) (o:=0) (m:=11) (by decide) rfl)) rfl rfl ?_
 obtain⟨e_5,he_5,G⟩:=Ab G
 refine Aw ?_
 refine Uk K1 he_5 (x':=e_3) ?_
 refine G9 fun B=>?_
 refine Al (Ch _ _ []) 177 201 B rfl rfl ?_
 refine Bi fun B=>?_
 exact⟨(W (k_2 + 1),C2 s_2 ((k_2).toNat) e_3),G,Av [(0,0)]⟩
 refine C9 ?_
 exact⟨(k_2,s_2),G,Av [(0,0)]⟩
 rintro⟨k_3,s_3⟩ G
 replace G:Bg.j3 k2_2 k_3 s_3=some o2:=G
 show B4 _ _ _ _ (mk _ _ _)
 unfold Bg.j3 at G
 refine Al (Ch _ _ []) 1 25 Ay rfl rfl ?_
 refine Bi fun B=>?_
 obtain rfl:=oi_ G
 exact⟨((k_3,W (k2_2 + 1),s_3),m2),aBj _,hn2,Av [(0,0)]⟩
 refine Jl ?_
 replace G:=Ce G hn2
 refine Ca 33 65 B ?_
 refine Aw ?_
 obtain⟨l_2,hl_2,G⟩:=Ab G
 refine Gs (rd:=[0]) rfl rfl (W0 Ue Aa.enc_len hl_2) rfl rfl ?_
 obtain⟨l_3,hl_3,G⟩:=Ab G
 refine Lh (rd:=[0]) rfl rfl (nN (f:=Aa.enc) (a:=(k_2:Int).toNat) (m:=(((s_2.length:Int):Int).toNat - (k_2:Int).toNat)) (z0:=(Aa.mk 0 (⟨#[]⟩:ByteArray) 0 0 0 0 (⟨#[]⟩:ByteArray) (Ar.mk 0 0) 0 (⟨#[]⟩:ByteArray))) Ue Aa.enc_len (aAb (ck:=[none,none,none,none,none,none,none,none,none,none,none]) z48 (.cons .int (.cons .str (.cons .int (.cons .int (.cons .int (.cons .int (.cons .str (.cons .int (.cons .int (.cons .int (.cons .str .nil)))))))))))) (.head _) hl_3) rfl rfl (fun _=>⟨_,rfl⟩) ?_
 rintro _ rfl
 refine G9 fun B=>?_
 refine Ca 65 97 B ?_
 refine Aw ?_
 obtain⟨l_4,hl_4,G⟩:=Ab G
 refine Gs (rd:=[0]) rfl rfl (Wz Ue Aa.enc_len hl_4) rfl rfl ?_
 refine Bi fun B=>?_
 refine Ey (σ':=mk [(2,.part 0 (((0:Int).toNat) * 11) ((k_2:Int).toNat - (0:Int).toNat))] [(0,.row 48 11 (As Aa.enc l_3))] 1) (Av [(0,0)]) ?_
 refine Ey (σ':=mk [(2,.row 0)] [(0,.row 48 11 (As Aa.enc (l_3.take ((k_2:Int).toNat - (0:Int).toNat))))] 1) (aE2 2 0 Aa.enc_len (aIp (Nat.le_add_left _ _) (sQ hl_4)) rfl rfl rfl rfl) ?_
 refine Fj ?_
 replace G:=Ce G hn1
 obtain rfl:=oi_ G
 exact Ip [(0,0)] ⟨rfl,rfl⟩
 refine C9 ?_
 refine Al (Ch _ _ []) 113 137 B rfl rfl ?_
 refine Bi fun B=>?_
 obtain rfl:=oi_ G
 exact⟨(W (k_1 + 1),m1),aBj _,hn1,Av [(0,0)]⟩
 refine Jl ?_
 replace G:=Ce G hn1
 refine Bk 33 49 B fun B=>?_
 refine Fj ?_
 obtain rfl:=oi_ G
 exact Ip [(0,0)] ⟨rfl,rfl⟩
end Go.Proofs.YtkoflhimdenjaaaGreat
