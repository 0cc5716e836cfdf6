import Derived.Test.YtkioneinddihlaaGreatT1
import Derived.Test.YtkioneinddihlaaGreatEU
import Derived.Test.YtkioneinddihlaaGreatA1
set_option linter.unusedVariables false
set_option linter.unusedSimpArgs false
set_option maxRecDepth 100000
set_option maxHeartbeats 40000000
namespace Go.Proofs.YtkioneinddihlaaGreat
open Go.RowKit
theorem Gq {data:List Aa} {a:Int} {b:Int} {cmp:Aa->Aa->Option (Int)} (hf_cmp:∀ (x0:Aa) (x1:Aa) (y:Int),cmp x0 x1=some y->Fn Tryz.prog 67 0 [.agg [vk x0.First,vk x0.Then],.agg [vk x1.First,vk x1.Then]] [] (fun d' b'=>d'=vk y/\b'=[])) {r:Bool×(List Aa)} (G:Ad data a b cmp=some r):Fn Tryz.prog 119 1 [.row 0,vk a,vk b,.clo 67 0 []] [.row 120 2 (Ak Aa.enc data)] (fun d' b'=>d'=.val (.bool r.1)/\b'=[.row 120 2 (Ak Aa.enc r.2)]):=by
 unfold Ad at G
 refine Ez 1 141 Tryz.func119 fun _ _ _=>?_
 refine B7 5 fun B G=>?_
 refine Gc (fun ((i_1,j_1,data_1):Int×Int×List Aa)=>mk [(0,.row 0),(1,vk a),(2,vk b),(3,.clo 67 0 []),(9,vk i_1),(10,vk j_1)] [(0,.row 120 2 (Ak Aa.enc data_1))] 1) G (B9 [(0,0)]) ?_
 rintro⟨i_1,j_1,data_1⟩ m1 o1 G hn1
 unfold Ad.l1 at G
 refine Dl (.r 2 (.e 1)) fun _ B G=>?_
 refine A6 (ι:=Int×List Aa) (fun ((i_7,data_7):Int×List Aa)=>mk [(0,.row 0),(1,vk a),(2,vk b),(3,.clo 67 0 []),(9,vk i_7),(10,vk j_1)] [(0,.row 120 2 (Ak Aa.enc data_7))] 1) (fun ((i_7,data_7):Int×List Aa)=>Ad.j7 j_1 i_7 data_7=some o1) ?_ ?_
 refine B7 3 fun B G=>?_
 refine Gc (fun (i_2:Int)=>mk [(0,.row 0),(1,vk a),(2,vk b),(3,.clo 67 0 []),(9,vk i_2),(10,vk j_1)] [(0,.row 120 2 (Ak Aa.enc data_1))] 1) G (B9 [(0,0)]) ?_
 rintro i_2 m2 o2 G hn2
 unfold Ad.l2 at G
 try dsimp only at G
 refine Nl rfl ?_
 refine A8 <| A6 (ι:=Bool) (fun (x36_3:Bool)=>mk [(0,.row 0),(1,vk a),(2,vk b),(3,.clo 67 0 []),(9,vk i_2),(10,vk j_1),(36,.val (.bool x36_3))] [(0,.row 120 2 (Ak Aa.enc data_1))] 1) (fun (x36_3:Bool)=>Ad.j3 a b cmp j_1 data_1 i_2 x36_3=some o2) ?_ ?_
 refine Bn (Dx _ _ []) (by kernel_rfl) [0,0,3,7,15,15,15,111,239,15,15,1039,3599,7695,16383,32767,65535,131071] 1 145 Ha rfl rfl (by kernel_rfl) ?_
 refine Jv (.r 0 (.e 4)) fun h6 e _ e_2 _ B G=>?_
 obtain⟨y,hy,G⟩:=Aq G
 refine E0 (rd:=[]) (ps:=[]) (gs:=[]) false (Ht rfl rfl h6) rfl (hf_cmp e e_2 _ hy) rfl rfl (.cons (.agg (.cons .val (.cons .val .nil))) (.cons (.agg (.cons .val (.cons .val .nil))) .nil)) rfl rfl (by intro h; cases h) rfl rfl rfl rfl ?_
 exact C1
 rintro x36_3 G
 unfold Ad.j3 at G
 refine Dl (.l 0 (.l 3 (.l 3 (.e 1)))) fun _ _ _ B G=>?_
 refine A8 <| Bn (Dx _ _ []) (by kernel_rfl) [0,0,0,0,8,0,0,64,224,480,0,0,3072,7168,16355,32739,65535,131071] 57 201 B rfl rfl (by kernel_rfl) ?_
 refine B7 4 fun e_3 _ e_4 he_4 B G=>?_
 refine Su Hs he_4 (x':=e_3) ?_
 refine B7 1 fun _ he_5 B G=>?_
 refine Su Hs he_5 (x':=e_4) ?_
 refine B7 0 fun B G=>?_
 refine A6 (ι:=List Aa) (fun (data_5:List Aa)=>mk [(0,.row 0),(1,vk a),(2,vk b),(3,.clo 67 0 []),(9,vk i_2),(10,vk j_1)] [(0,.row 120 2 (Ak Aa.enc data_5))] 1) (fun (data_5:List Aa)=>Ad.j5 b cmp j_1 i_2 data_5=some o1) ?_ ?_
 refine Jv (.r 1 (.e 2)) fun _ B G=>?_
 refine Gc (fun ((j_4,data_4):Int×List Aa)=>mk [(0,.row 0),(1,vk a),(2,vk b),(3,.clo 67 0 []),(9,vk i_2),(10,vk j_1),(11,vk j_4)] [(0,.row 120 2 (Ak Aa.enc data_4))] 1) G (B9 [(0,0)]) ?_
 rintro⟨j_4,data_4⟩ m4 o4 G hn4
 unfold Ad.l4 at G
 refine Dl (.r 2 (.e 3)) fun _ B G=>?_
 refine A8 <| A8 <| Bn (Dx _ _ []) (by kernel_rfl) [0,0,0,6,14,0,0,64,224,480,1023,2047,4095] 17 121 B rfl rfl (by kernel_rfl) ?_
 refine B7 4 fun e_6 he_6 e_7 he_7 B G=>?_
 obtain⟨y_2,hy_2,G⟩:=Aq G
 refine E0 (rd:=[]) (ps:=[]) (gs:=[]) false rfl rfl (hf_cmp e_6 e_7 _ hy_2) rfl rfl (.cons (.agg (.cons .val (.cons .val .nil))) (.cons (.agg (.cons .val (.cons .val .nil))) .nil)) rfl rfl (by intro h; cases h) rfl rfl rfl rfl ?_
 refine Jv (.l 0 (.e 1)) fun _ B G=>?_
 refine Bn (Dx _ _ []) (by kernel_rfl) [0,0,0,0,8,0,0,64,224,480,0,0,3072,7168,16355,32739,65535,131071] 121 265 B rfl rfl (by kernel_rfl) ?_
 refine B7 2 fun B G=>?_
 refine Su Hs he_6 (x':=e_7) ?_
 refine B7 1 fun _ he_8 B G=>?_
 refine Su Hs he_8 (x':=e_6) ?_
 exact C1
 rintro data_5 G
 unfold Ad.j5 at G
 refine Dl (.r 1 (.e 2)) fun _ B G=>?_
 refine Gc (fun ((j_6,data_6):Int×List Aa)=>mk [(0,.row 0),(1,vk a),(2,vk b),(3,.clo 67 0 []),(9,vk i_2),(10,vk j_1),(12,vk j_6)] [(0,.row 120 2 (Ak Aa.enc data_6))] 1) G (B9 [(0,0)]) ?_
 rintro⟨j_6,data_6⟩ m6 o6 G hn6
 unfold Ad.l6 at G
 refine Dl (.r 2 (.e 3)) fun _ B G=>?_
 refine A8 <| A8 <| Bn (Dx _ _ []) (by kernel_rfl) [0,0,0,6,14,0,0,64,224,480,1023,2047,4095] 25 129 B rfl rfl (by kernel_rfl) ?_
 refine B7 4 fun e_9 he_9 e_10 he_10 B G=>?_
 obtain⟨y_3,hy_3,G⟩:=Aq G
 refine E0 (rd:=[]) (ps:=[]) (gs:=[]) false rfl rfl (hf_cmp e_9 e_10 _ hy_3) rfl rfl (.cons (.agg (.cons .val (.cons .val .nil))) (.cons (.agg (.cons .val (.cons .val .nil))) .nil)) rfl rfl (by intro h; cases h) rfl rfl rfl rfl ?_
 refine Jv (.l 0 (.e 1)) fun _ B G=>?_
 refine Bn (Dx _ _ []) (by kernel_rfl) [0,0,0,0,8,0,0,64,224,480,0,0,3072,7168,16355,32739,65535,131071] 129 273 B rfl rfl (by kernel_rfl) ?_
 refine B7 2 fun B G=>?_
 refine Su Hs he_9 (x':=e_10) ?_
 refine B7 1 fun _ he_11 B G=>?_
 refine Su Hs he_11 (x':=e_9) ?_
 exact C1
 rintro⟨i_7,data_7⟩ G
 unfold Ad.j7 at G
 exact F0
theorem Hd {data:List Aa} {a:Int} {b:Int} {pivot:Int} {cmp:Aa->Aa->Option (Int)} (hf_cmp:∀ (x0:Aa) (x1:Aa) (y:Int),cmp x0 x1=some y->Fn Tryz.prog 67 0 [.agg [vk x0.First,vk x0.Then],.agg [vk x1.First,vk x1.Then]] [] (fun d' b'=>d'=vk y/\b'=[])) {r:Int×(List Aa)} (G:Am data a b pivot cmp=some r):Fn Tryz.prog 120 1 [.row 0,vk a,vk b,vk pivot,.clo 67 0 []] [.row 120 2 (Ak Aa.enc data)] (fun d' b'=>d'=vk r.1/\b'=[.row 120 2 (Ak Aa.enc r.2)]):=by
 unfold Am at G
 refine Ez 1 90 Tryz.func120 fun _ _ _=>?_
 refine B7 1 fun B G=>?_
 refine A8 <| Bn (Dx _ _ []) (by kernel_rfl) [0,0,0,0,0,0,48,112,0,0,768,1792,4083,8179,16383,32767] 9 137 B rfl rfl (by kernel_rfl) ?_
 refine B7 4 fun e _ e_2 he_2 B G=>?_
 refine Su Hs he_2 (x':=e) ?_
 refine B7 1 fun _ he_3 B G=>?_
 refine Su Hs he_3 (x':=e_2) ?_
 refine B7 3 fun B G=>?_
 refine Gc (fun ((i_1,j_1,data_1):Int×Int×List Aa)=>mk [(0,.row 0),(1,vk a),(4,.clo 67 0 []),(11,vk i_1),(12,vk j_1)] [(0,.row 120 2 (Ak Aa.enc data_1))] 1) G (B9 [(0,0)]) ?_
 rintro⟨i_1,j_1,data_1⟩ m1 o1 G hn1
 unfold Am.l1 at G
 refine Iw 3 fun B G=>?_
 refine Gc (fun (i_2:Int)=>mk [(0,.row 0),(1,vk a),(4,.clo 67 0 []),(11,vk i_2),(12,vk j_1)] [(0,.row 120 2 (Ak Aa.enc data_1))] 1) G (B9 [(0,0)]) ?_
 rintro i_2 m2 o2 G hn2
 unfold Am.l2 at G
 try dsimp only at G
 refine Nl rfl ?_
 refine A8 <| A6 (ι:=Bool) (fun (x47_3:Bool)=>mk [(0,.row 0),(1,vk a),(4,.clo 67 0 []),(11,vk i_2),(12,vk j_1),(47,.val (.bool x47_3))] [(0,.row 120 2 (Ak Aa.enc data_1))] 1) (fun (x47_3:Bool)=>Am.j3 a cmp j_1 data_1 i_2 x47_3=some o2) ?_ ?_
 refine Bn (Dx _ _ []) (by kernel_rfl) [0,0,3,7,15,15,15,111,239,15,15,1551,3599,8191,16383,32767,65535] 1 137 Ha rfl rfl (by kernel_rfl) ?_
 refine Jv (.r 0 (.e 4)) fun h4 e_4 _ e_5 _ B G=>?_
 obtain⟨y,hy,G⟩:=Aq G
 refine E0 (rd:=[]) (ps:=[]) (gs:=[]) false (Ht rfl rfl h4) rfl (hf_cmp e_4 e_5 _ hy) rfl rfl (.cons (.agg (.cons .val (.cons .val .nil))) (.cons (.agg (.cons .val (.cons .val .nil))) .nil)) rfl rfl (by intro h; cases h) rfl rfl rfl rfl ?_
 exact C1
 rintro x47_3 G
 unfold Am.j3 at G
 refine Dl (.l 0 (.e 3)) fun _ B G=>?_
 refine Gc (fun (j_4:Int)=>mk [(0,.row 0),(1,vk a),(4,.clo 67 0 []),(11,vk i_2),(12,vk j_4)] [(0,.row 120 2 (Ak Aa.enc data_1))] 1) G (B9 [(0,0)]) ?_
 rintro j_4 m4 o4 G hn4
 unfold Am.l4 at G
 try dsimp only at G
 refine Nl rfl ?_
 refine A8 <| A6 (ι:=Bool) (fun (x65_5:Bool)=>mk [(0,.row 0),(1,vk a),(4,.clo 67 0 []),(11,vk i_2),(12,vk j_4),(65,.val (.bool x65_5))] [(0,.row 120 2 (Ak Aa.enc data_1))] 1) (fun (x65_5:Bool)=>Am.j5 data_1 i_2 j_4 x65_5=some o4) ?_ ?_
 refine Bn (Dx _ _ []) (by kernel_rfl) [0,0,3,7,15,15,15,111,239,15,15,1551,3599,8191,16383,32767] 1 129 Ha rfl rfl (by kernel_rfl) ?_
 refine Jv (.r 0 (.e 4)) fun h9 e_6 _ e_7 _ B G=>?_
 obtain⟨y_2,hy_2,G⟩:=Aq G
 refine E0 (rd:=[]) (ps:=[]) (gs:=[]) false (Ht rfl rfl h9) rfl (hf_cmp e_6 e_7 _ hy_2) rfl rfl (.cons (.agg (.cons .val (.cons .val .nil))) (.cons (.agg (.cons .val (.cons .val .nil))) .nil)) rfl rfl (by intro h; cases h) rfl rfl rfl rfl ?_
 exact C1
 rintro x65_5 G
 unfold Am.j5 at G
 refine Dl (.l 0 (.l 3 (.e 1))) fun _ _ B G=>?_
 refine A8 <| Bn (Dx _ _ []) (by kernel_rfl) [0,0,0,0,0,0,48,112,0,0,768,1792,4083,8179,16383,32767] 25 153 B rfl rfl (by kernel_rfl) ?_
 refine B7 4 fun e_8 _ e_9 he_9 B G=>?_
 refine Su Hs he_9 (x':=e_8) ?_
 refine B7 1 fun _ he_10 B G=>?_
 refine Su Hs he_10 (x':=e_9) ?_
 exact C1
theorem H8 {data:List Aa} {a:Int} {b:Int} {pivot:Int} {cmp:Aa->Aa->Option (Int)} (hf_cmp:∀ (x0:Aa) (x1:Aa) (y:Int),cmp x0 x1=some y->Fn Tryz.prog 67 0 [.agg [vk x0.First,vk x0.Then],.agg [vk x1.First,vk x1.Then]] [] (fun d' b'=>d'=vk y/\b'=[])) {r:Int×Bool×(List Aa)} (G:Af data a b pivot cmp=some r):Fn Tryz.prog 121 1 [.row 0,vk a,vk b,vk pivot,.clo 67 0 []] [.row 120 2 (Ak Aa.enc data)] (fun d' b'=>d'=.tup [vk r.1,.val (.bool r.2.1)]/\b'=[.row 120 2 (Ak Aa.enc r.2.2)]):=by
 unfold Af at G
 refine Ez 1 178 Tryz.func121 fun _ _ _=>?_
 refine B7 1 fun B G=>?_
 refine A8 <| Bn (Dx _ _ []) (by kernel_rfl) [0,0,0,0,0,0,48,112,0,0,768,1792,4083,8179,16383,32767] 17 145 B rfl rfl (by kernel_rfl) ?_
 refine B7 4 fun e _ e_2 he_2 B G=>?_
 refine Su Hs he_2 (x':=e) ?_
 refine B7 1 fun _ he_3 B G=>?_
 refine Su Hs he_3 (x':=e_2) ?_
 refine B7 3 fun B G=>?_
 refine Gc (fun (i_1:Int)=>mk [(0,.row 0),(1,vk a),(4,.clo 67 0 []),(12,vk i_1),(13,.val (.int .i64 (W (b - 1))))] [(0,.row 120 2 (Ak Aa.enc (Dj (Dj data ((a).toNat) e) ((pivot).toNat) e_2)))] 1) G (B9 [(0,0)]) ?_
 rintro i_1 m1 o1 G hn1
 unfold Af.l1 at G
 try dsimp only at G
 refine Nl rfl ?_
 refine A8 <| A6 (ι:=Bool) (fun (x47_2:Bool)=>mk [(0,.row 0),(1,vk a),(4,.clo 67 0 []),(12,vk i_1),(13,.val (.int .i64 (W (b - 1)))),(47,.val (.bool x47_2))] [(0,.row 120 2 (Ak Aa.enc (Dj (Dj data ((a).toNat) e) ((pivot).toNat) e_2)))] 1) (fun (x47_2:Bool)=>Af.j2 data a b pivot cmp e e_2 i_1 x47_2=some o1) ?_ ?_
 refine Bn (Dx _ _ []) (by kernel_rfl) [0,0,3,7,15,15,15,111,239,15,15,1551,3599,8191,16383,32767] 1 129 Ha rfl rfl (by kernel_rfl) ?_
 refine Jv (.r 0 (.e 4)) fun h4 e_4 _ e_5 _ B G=>?_
 obtain⟨y,hy,G⟩:=Aq G
 refine E0 (rd:=[]) (ps:=[]) (gs:=[]) false (Ht rfl rfl h4) rfl (hf_cmp e_4 e_5 _ hy) rfl rfl (.cons (.agg (.cons .val (.cons .val .nil))) (.cons (.agg (.cons .val (.cons .val .nil))) .nil)) rfl rfl (by intro h; cases h) rfl rfl rfl rfl ?_
 exact C1
 rintro x47_2 G
 unfold Af.j2 at G
 refine Dl (.l 0 (.e 3)) fun _ B G=>?_
 refine Gc (fun (j_3:Int)=>mk [(0,.row 0),(1,vk a),(4,.clo 67 0 []),(12,vk i_1),(13,vk j_3)] [(0,.row 120 2 (Ak Aa.enc (Dj (Dj data ((a).toNat) e) ((pivot).toNat) e_2)))] 1) G (B9 [(0,0)]) ?_
 rintro j_3 m3 o3 G hn3
 unfold Af.l3 at G
 try dsimp only at G
 refine Nl rfl ?_
 refine A8 <| A6 (ι:=Bool) (fun (x66_4:Bool)=>mk [(0,.row 0),(1,vk a),(4,.clo 67 0 []),(12,vk i_1),(13,vk j_3),(66,.val (.bool x66_4))] [(0,.row 120 2 (Ak Aa.enc (Dj (Dj data ((a).toNat) e) ((pivot).toNat) e_2)))] 1) (fun (x66_4:Bool)=>Af.j4 data a pivot cmp e e_2 i_1 j_3 x66_4=some o3) ?_ ?_
 refine Bn (Dx _ _ []) (by kernel_rfl) [0,0,3,7,15,15,15,111,239,15,15,1551,3599,8191,16383,32767,65535] 1 137 Ha rfl rfl (by kernel_rfl) ?_
 refine Jv (.r 0 (.e 4)) fun h9 e_6 _ e_7 _ B G=>?_
 obtain⟨y_2,hy_2,G⟩:=Aq G
 refine E0 (rd:=[]) (ps:=[]) (gs:=[]) false (Ht rfl rfl h9) rfl (hf_cmp e_6 e_7 _ hy_2) rfl rfl (.cons (.agg (.cons .val (.cons .val .nil))) (.cons (.agg (.cons .val (.cons .val .nil))) .nil)) rfl rfl (by intro h; cases h) rfl rfl rfl rfl ?_
 exact C1
 rintro x66_4 G
 unfold Af.j4 at G
 refine Dl (.l 0 (.e 3)) fun _ B G=>?_
 refine Ja rfl G (fun _ G=>?_) fun _ G=>?_
 refine A8 <| Bn (Dx _ _ []) (by kernel_rfl) [0,0,0,0,0,0,48,112,0,0,768,1792,4083,8179,16383,32767] 25 153 B rfl rfl (by kernel_rfl) ?_
 refine B7 4 fun e_8 _ e_9 he_9 B G=>?_
 refine Su Hs he_9 (x':=e_8) ?_
 refine B7 1 fun _ he_10 B G=>?_
 refine Su Hs he_10 (x':=e_9) ?_
 exact C1
 refine B7 1 fun B G=>?_
 refine A8 <| Bn (Dx _ _ []) (by kernel_rfl) [0,0,0,0,0,0,48,112,0,0,768,1792,4083,8179,16383,32767] 25 153 B rfl rfl (by kernel_rfl) ?_
 refine B7 4 fun e_11 _ e_12 he_12 B G=>?_
 refine Su Hs he_12 (x':=e_11) ?_
 refine B7 1 fun _ he_13 B G=>?_
 refine Su Hs he_13 (x':=e_12) ?_
 refine B7 4 fun B G=>?_
 refine Gc (fun ((i_5,j_5,data_5):Int×Int×List Aa)=>mk [(0,.row 0),(1,vk a),(4,.clo 67 0 []),(12,vk i_5),(13,vk j_5)] [(0,.row 120 2 (Ak Aa.enc data_5))] 1) G (B9 [(0,0)]) ?_
 rintro⟨i_5,j_5,data_5⟩ m5 o5 G hn5
 unfold Af.l5 at G
 refine Iw 3 fun B G=>?_
 refine Gc (fun (i_6:Int)=>mk [(0,.row 0),(1,vk a),(4,.clo 67 0 []),(12,vk i_6),(13,vk j_5)] [(0,.row 120 2 (Ak Aa.enc data_5))] 1) G (B9 [(0,0)]) ?_
 rintro i_6 m6 o6 G hn6
 unfold Af.l6 at G
 try dsimp only at G
 refine Nl rfl ?_
 refine A8 <| A6 (ι:=Bool) (fun (x120_7:Bool)=>mk [(0,.row 0),(1,vk a),(4,.clo 67 0 []),(12,vk i_6),(13,vk j_5),(120,.val (.bool x120_7))] [(0,.row 120 2 (Ak Aa.enc data_5))] 1) (fun (x120_7:Bool)=>Af.j7 a cmp j_5 data_5 i_6 x120_7=some o6) ?_ ?_
 refine Bn (Dx _ _ []) (by kernel_rfl) [0,0,3,7,15,15,15,111,239,15,15,1551,3599,8191,16383,32767] 1 129 Ha rfl rfl (by kernel_rfl) ?_
 refine Jv (.r 0 (.e 4)) fun h21 e_14 _ e_15 _ B G=>?_
 obtain⟨y_3,hy_3,G⟩:=Aq G
 refine E0 (rd:=[]) (ps:=[]) (gs:=[]) false (Ht rfl rfl h21) rfl (hf_cmp e_14 e_15 _ hy_3) rfl rfl (.cons (.agg (.cons .val (.cons .val .nil))) (.cons (.agg (.cons .val (.cons .val .nil))) .nil)) rfl rfl (by intro h; cases h) rfl rfl rfl rfl ?_
 exact C1
 rintro x120_7 G
 unfold Af.j7 at G
 refine Dl (.l 0 (.e 3)) fun _ B G=>?_
 refine Gc (fun (j_8:Int)=>mk [(0,.row 0),(1,vk a),(4,.clo 67 0 []),(12,vk i_6),(13,vk j_8)] [(0,.row 120 2 (Ak Aa.enc data_5))] 1) G (B9 [(0,0)]) ?_
 rintro j_8 m8 o8 G hn8
 unfold Af.l8 at G
 try dsimp only at G
 refine Nl rfl ?_
 refine A8 <| A6 (ι:=Bool) (fun (x139_9:Bool)=>mk [(0,.row 0),(1,vk a),(4,.clo 67 0 []),(12,vk i_6),(13,vk j_8),(139,.val (.bool x139_9))] [(0,.row 120 2 (Ak Aa.enc data_5))] 1) (fun (x139_9:Bool)=>Af.j9 a data_5 i_6 j_8 x139_9=some o8) ?_ ?_
 refine Bn (Dx _ _ []) (by kernel_rfl) [0,0,3,7,15,15,15,111,239,15,15,1551,3599,8191,16383,32767,65535] 1 137 Ha rfl rfl (by kernel_rfl) ?_
 refine Jv (.r 0 (.e 4)) fun h26 e_16 _ e_17 _ B G=>?_
 obtain⟨y_4,hy_4,G⟩:=Aq G
 refine E0 (rd:=[]) (ps:=[]) (gs:=[]) false (Ht rfl rfl h26) rfl (hf_cmp e_16 e_17 _ hy_4) rfl rfl (.cons (.agg (.cons .val (.cons .val .nil))) (.cons (.agg (.cons .val (.cons .val .nil))) .nil)) rfl rfl (by intro h; cases h) rfl rfl rfl rfl ?_
 exact C1
 rintro x139_9 G
 unfold Af.j9 at G
 refine Dl (.l 0 (.e 3)) fun _ B G=>?_
 refine Ja rfl G (fun _ G=>?_) fun _ G=>?_
 refine B7 1 fun B G=>?_
 refine A8 <| Bn (Dx _ _ []) (by kernel_rfl) [0,0,0,0,0,0,48,112,0,0,768,1792,4083,8179,16383,32767] 25 153 B rfl rfl (by kernel_rfl) ?_
 refine B7 4 fun e_21 _ e_22 he_22 B G=>?_
 refine Su Hs he_22 (x':=e_21) ?_
 refine B7 1 fun _ he_23 B G=>?_
 refine Su Hs he_23 (x':=e_22) ?_
 exact C1
 refine B7 1 fun B G=>?_
 refine A8 <| Bn (Dx _ _ []) (by kernel_rfl) [0,0,0,0,0,0,48,112,0,0,768,1792,4083,8179,16383,32767] 25 153 B rfl rfl (by kernel_rfl) ?_
 refine B7 4 fun e_18 _ e_19 he_19 B G=>?_
 refine Su Hs he_19 (x':=e_18) ?_
 refine B7 1 fun _ he_20 B G=>?_
 refine Su Hs he_20 (x':=e_19) ?_
 exact C1
theorem Dr.F {cmp:Aa->Aa->Option (Int)} (hf_cmp:∀ (x0:Aa) (x1:Aa) (y:Int),cmp x0 x1=some y->Fn Tryz.prog 67 0 [.agg [vk x0.First,vk x0.Then],.agg [vk x1.First,vk x1.Then]] [] (fun d' b'=>d'=vk y/\b'=[])) (rec:(List Aa)->Int->Int->Int->Option ((List Aa))) (hrec:∀ (data:List Aa) (a:Int) (b:Int) (limit:Int) (r:(List Aa)),rec data a b limit=some r->Fn Tryz.prog 93 1 [.row 0,vk a,vk b,vk limit,.clo 67 0 []] [.row 120 2 (Ak Aa.enc data)] (fun d' b'=>d'=.tup []/\b'=[.row 120 2 (Ak Aa.enc r)])) {data:List Aa} {a:Int} {b:Int} {limit:Int} {r:(List Aa)} (G:Aj.F rec data a b limit cmp=some r):Fn Tryz.prog 93 1 [.row 0,vk a,vk b,vk limit,.clo 67 0 []] [.row 120 2 (Ak Aa.enc data)] (fun d' b'=>d'=.tup []/\b'=[.row 120 2 (Ak Aa.enc r)]):=by
 unfold Aj.F at G
 refine Ez 1 148 Tryz.func93 fun _ _ _=>?_
 refine B7 3 fun B G=>?_
 refine Gc (fun ((a_1,b_1,limit_1,wasBalanced_1,wasPartitioned_1,data_1):Int×Int×Int×Bool×Bool×List Aa)=>mk [(0,.row 0),(1,vk a_1),(2,vk b_1),(3,vk limit_1),(4,.clo 67 0 []),(10,.val (.bool wasBalanced_1)),(11,.val (.bool wasPartitioned_1))] [(0,.row 120 2 (Ak Aa.enc data_1))] 1) G (B9 [(0,0)]) ?_
 rintro⟨a_1,b_1,limit_1,wasBalanced_1,wasPartitioned_1,data_1⟩ m1 o1 G hn1
 unfold Aj.l1 at G
 refine Iw 4 fun B G=>?_
 refine Ja rfl G (fun _ G=>?_) fun _ G=>?_
 refine B7 1 fun B G=>?_
 obtain⟨y,hy,G⟩:=Aq G
 refine L3 [0] [0] [] false (@Hl data_1 a_1 b_1 cmp hf_cmp _ hy) ?_
 exact C1
 refine B7 3 fun B G=>?_
 refine Ja rfl G (fun _ G=>?_) fun _ G=>?_
 refine B7 1 fun B G=>?_
 obtain⟨y_2,hy_2,G⟩:=Aq G
 refine L3 [0] [0] [] false (@H9 data_1 a_1 b_1 cmp hf_cmp _ hy_2) ?_
 exact C1
 refine B7 1 fun B G=>?_
 refine A6 (ι:=Int×List Aa) (fun ((limit_2,data_2):Int×List Aa)=>mk [(0,.row 0),(1,vk a_1),(2,vk b_1),(3,vk limit_2),(4,.clo 67 0 []),(10,.val (.bool wasBalanced_1)),(11,.val (.bool wasPartitioned_1)),(12,.val (.int .i64 (W (b_1 - a_1))))] [(0,.row 120 2 (Ak Aa.enc data_2))] 1) (fun ((limit_2,data_2):Int×List Aa)=>Aj.j2 rec cmp a_1 b_1 wasBalanced_1 wasPartitioned_1 limit_2 data_2=some o1) ?_ ?_
 refine Jv (.r 1 (.e 1)) fun _ B G=>?_
 obtain⟨y_3,hy_3,G⟩:=Aq G
 refine L3 [0] [0] [] false (@Hi data_1 a_1 b_1 cmp hf_cmp _ hy_3) ?_
 exact C1
 rintro⟨limit_2,data_2⟩ G
 unfold Aj.j2 at G
 refine Iw 1 fun B G=>?_
 obtain⟨y_4,hy_4,G⟩:=Aq G
 refine L3 [0] [] [] true (@Hz data_2 a_1 b_1 cmp hf_cmp _ hy_4) ?_
 refine B7 0 fun B G=>?_
 refine A6 (ι:=Int×Int×List Aa) (fun ((pivot_3,hint_3,data_3):Int×Int×List Aa)=>mk [(0,.row 0),(1,vk a_1),(2,vk b_1),(3,vk limit_2),(4,.clo 67 0 []),(10,.val (.bool wasBalanced_1)),(11,.val (.bool wasPartitioned_1)),(12,.val (.int .i64 (W (b_1 - a_1)))),(13,vk pivot_3),(14,vk hint_3)] [(0,.row 120 2 (Ak Aa.enc data_3))] 1) (fun ((pivot_3,hint_3,data_3):Int×Int×List Aa)=>Aj.j3 rec cmp a_1 b_1 wasBalanced_1 wasPartitioned_1 limit_2 pivot_3 hint_3 data_3=some o1) ?_ ?_
 refine Jv (.r 1 (.e 1)) fun _ B G=>?_
 obtain⟨y_5,hy_5,G⟩:=Aq G
 refine L3 [0] [0] [] false (@Ho data_2 a_1 b_1 cmp hf_cmp _ hy_5) ?_
 exact C1
 rintro⟨pivot_3,hint_3,data_3⟩ G
 unfold Aj.j3 at G
 try dsimp only at G
 refine Nl rfl ?_
 refine A6 (ι:=List Aa) (fun (data_5:List Aa)=>mk [(0,.row 0),(1,vk a_1),(2,vk b_1),(3,vk limit_2),(4,.clo 67 0 []),(10,.val (.bool wasBalanced_1)),(11,.val (.bool wasPartitioned_1)),(12,.val (.int .i64 (W (b_1 - a_1)))),(13,vk pivot_3)] [(0,.row 120 2 (Ak Aa.enc data_5))] 1) (fun (data_5:List Aa)=>Aj.j5 rec cmp a_1 b_1 wasBalanced_1 wasPartitioned_1 limit_2 pivot_3 data_5=some o1) ?_ ?_
 refine A6 (ι:=Bool) (fun (x75_4:Bool)=>mk [(0,.row 0),(1,vk a_1),(2,vk b_1),(3,vk limit_2),(4,.clo 67 0 []),(10,.val (.bool wasBalanced_1)),(11,.val (.bool wasPartitioned_1)),(12,.val (.int .i64 (W (b_1 - a_1)))),(13,vk pivot_3),(75,.val (.bool x75_4))] [(0,.row 120 2 (Ak Aa.enc data_3))] 1) (fun (x75_4:Bool)=>Aj.j4 rec cmp a_1 b_1 wasBalanced_1 wasPartitioned_1 limit_2 pivot_3 data_3 x75_4=some o1) ?_ ?_
 exact C1
 rintro x75_4 G
 unfold Aj.j4 at G
 refine Dl (.r 0 (.e 1)) fun _ B G=>?_
 obtain⟨y_6,hy_6,G⟩:=Aq G
 refine L3 [0] [0] [] false (@Gq data_3 a_1 b_1 cmp hf_cmp _ hy_6) ?_
 refine Jv (.r 0 (.e 0)) fun _ B G=>?_
 refine fO ?_
 refine rp_ ?_
 exact C1
 rintro data_5 G
 unfold Aj.j5 at G
 try dsimp only at G
 refine Nl rfl ?_
 refine A8 <| A6 (ι:=Bool) (fun (x97_6:Bool)=>mk [(0,.row 0),(1,vk a_1),(2,vk b_1),(3,vk limit_2),(4,.clo 67 0 []),(10,.val (.bool wasBalanced_1)),(11,.val (.bool wasPartitioned_1)),(12,.val (.int .i64 (W (b_1 - a_1)))),(13,vk pivot_3),(97,.val (.bool x97_6))] [(0,.row 120 2 (Ak Aa.enc data_5))] 1) (fun (x97_6:Bool)=>Aj.j6 rec cmp a_1 b_1 wasBalanced_1 wasPartitioned_1 limit_2 pivot_3 data_5 x97_6=some o1) ?_ ?_
 refine Bn (Dx _ _ []) (by kernel_rfl) [0,1,3,7,7,7,39,119,247,7,7,1543,3591,8191,16383,32767,65535] 1 137 Ha rfl rfl (by kernel_rfl) ?_
 refine Jv (.r 0 (.e 4)) fun h28 e _ e_2 _ B G=>?_
 obtain⟨y_7,hy_7,G⟩:=Aq G
 refine E0 (rd:=[]) (ps:=[]) (gs:=[]) false (Ht rfl rfl h28) rfl (hf_cmp e e_2 _ hy_7) rfl rfl (.cons (.agg (.cons .val (.cons .val .nil))) (.cons (.agg (.cons .val (.cons .val .nil))) .nil)) rfl rfl (by intro h; cases h) rfl rfl rfl rfl ?_
 exact C1
 rintro x97_6 G
 unfold Aj.j6 at G
 try dsimp only at G
 refine Nl rfl ?_
 refine Ja rfl G (fun _ G=>?_) fun _ G=>?_
 refine B7 1 fun B G=>?_
 obtain⟨y_8,hy_8,G⟩:=Aq G
 refine L3 [0] [0] [] false (@Hd data_5 a_1 b_1 pivot_3 cmp hf_cmp _ hy_8) ?_
 exact C1
 refine B7 2 fun B G=>?_
 obtain⟨y_9,hy_9,G⟩:=Aq G
 refine L3 [0] [0] [] false (@H8 data_5 a_1 b_1 pivot_3 cmp hf_cmp _ hy_9) ?_
 refine B7 5 fun q _ B G=>?_
 refine Ja rfl G (fun _ G=>?_) fun _ G=>?_
 refine B7 2 fun B G=>?_
 obtain⟨y_10,hy_10,G⟩:=Aq G
 refine L3 [0] [0] [] false (hrec y_9.2.2 a_1 y_9.1 limit_2 _ hy_10) ?_
 exact C1
 refine B7 2 fun B G=>?_
 obtain⟨y_11,hy_11,G⟩:=Aq G
 refine L3 [0] [0] [] false (hrec y_9.2.2 (W (y_9.1 + 1)) b_1 limit_2 _ hy_11) ?_
 exact C1
theorem Dr {data:List Aa} {a:Int} {b:Int} {limit:Int} {cmp:Aa->Aa->Option (Int)} (hf_cmp:∀ (x0:Aa) (x1:Aa) (y:Int),cmp x0 x1=some y->Fn Tryz.prog 67 0 [.agg [vk x0.First,vk x0.Then],.agg [vk x1.First,vk x1.Then]] [] (fun d' b'=>d'=vk y/\b'=[])) {r:(List Aa)} (G:Aj data a b limit cmp=some r):Fn Tryz.prog 93 1 [.row 0,vk a,vk b,vk limit,.clo 67 0 []] [.row 120 2 (Ak Aa.enc data)] (fun d' b'=>d'=.tup []/\b'=[.row 120 2 (Ak Aa.enc r)]):=
 Rn (motive:=fun (x:List Aa×Int×Int×Int) (r:(List Aa))=>Fn Tryz.prog 93 1 [.row 0,vk x.2.1,vk x.2.2.1,vk x.2.2.2,.clo 67 0 []] [.row 120 2 (Ak Aa.enc x.1)] (fun d' b'=>d'=.tup []/\b'=[.row 120 2 (Ak Aa.enc r)])) (fun rec hrec x r h=>@Dr.F cmp hf_cmp _ (fun data a b limit r h=>hrec (data,a,b,limit) r h) x.1 x.2.1 x.2.2.1 x.2.2.2 r h) (data,a,b,limit) r G
instance aN5:Wk 93:=⟨_,@Dr⟩
end Go.Proofs.YtkioneinddihlaaGreat
