import Derived.Test.YtobamahlipiakaaGreatT1
import Derived.Test.YtobamahlipiakaaGreatEU
import Derived.Test.YtobamahlipiakaaGreatA5
set_option linter.unusedVariables false
set_option linter.unusedSimpArgs false
set_option maxRecDepth 100000
set_option maxHeartbeats 40000000
namespace Go.Proofs.YtobamahlipiakaaGreat
open Go.RowKit
theorem J9 {data:List Aa} {a:Int} {b:Int} {cmp:Aa->Aa->Option (Int)} (hf_cmp:∀ (x0:Aa) (x1:Aa) (y:Int),cmp x0 x1=some y->Fn Tryz.prog 44 0 [.agg (Aa.dv x0),.agg (Aa.dv x1)] [] (fun d' b'=>d'=vj y/\b'=[])) {r:(List Aa)} (G:Bq data a b cmp=some r):Fn Tryz.prog 131 1 [.row 0,vj a,vj b,.clo 44 0 []] [.row 40 4 (Ai Aa.enc data)] (fun d' b'=>d'=.tup []/\b'=[.row 40 4 (Ai Aa.enc r)]):=by
 unfold Bq at G
 refine Ea 1 34 Tryz.func131 fun _ _ _=>?_
 refine Br 3 fun B G=>?_
 refine He (fun ((i_1,j_1,data_1):Int×Int×List Aa)=>mk [(0,.row 0),(8,vj i_1),(9,vj j_1)] [(0,.row 40 4 (Ai Aa.enc data_1))] 1) G (Cd [(0,0)]) ?_
 rintro⟨i_1,j_1,data_1⟩ m1 o1 G hn1
 unfold Bq.l1 at G
 refine Dx (.r 2 (.e 2)) fun _ B G=>?_
 refine Ay <| Bg (D9 _ _ []) (by kernel_rfl) [0,0,0,0,0,0,48,112,0,0,768,1792,4083,8179,16383,32767] 25 153 B rfl rfl (by kernel_rfl) ?_
 refine Br 4 fun e _ e_2 he_2 B G=>?_
 refine X7 Ms he_2 (x':=e) ?_
 refine Br 1 fun _ he_3 B G=>?_
 refine X7 Ms he_3 (x':=e_2) ?_
 exact Cj
theorem Ii {data:List Aa} {a:Int} {b:Int} {cmp:Aa->Aa->Option (Int)} (hf_cmp:∀ (x0:Aa) (x1:Aa) (y:Int),cmp x0 x1=some y->Fn Tryz.prog 44 0 [.agg (Aa.dv x0),.agg (Aa.dv x1)] [] (fun d' b'=>d'=vj y/\b'=[])) {r:Bool×(List Aa)} (G:Af data a b cmp=some r):Fn Tryz.prog 132 1 [.row 0,vj a,vj b,.clo 44 0 []] [.row 40 4 (Ai Aa.enc data)] (fun d' b'=>d'=.val (.bool r.1)/\b'=[.row 40 4 (Ai Aa.enc r.2)]):=by
 unfold Af at G
 refine Ea 1 141 Tryz.func132 fun _ _ _=>?_
 refine Br 5 fun B G=>?_
 refine He (fun ((i_1,j_1,data_1):Int×Int×List Aa)=>mk [(0,.row 0),(1,vj a),(2,vj b),(3,.clo 44 0 []),(9,vj i_1),(10,vj j_1)] [(0,.row 40 4 (Ai Aa.enc data_1))] 1) G (Cd [(0,0)]) ?_
 rintro⟨i_1,j_1,data_1⟩ m1 o1 G hn1
 unfold Af.l1 at G
 refine Dx (.r 2 (.e 1)) fun _ B G=>?_
 refine A4 (ι:=Int×List Aa) (fun ((i_7,data_7):Int×List Aa)=>mk [(0,.row 0),(1,vj a),(2,vj b),(3,.clo 44 0 []),(9,vj i_7),(10,vj j_1)] [(0,.row 40 4 (Ai Aa.enc data_7))] 1) (fun ((i_7,data_7):Int×List Aa)=>Af.j7 j_1 i_7 data_7=some o1) ?_ ?_
 refine Br 3 fun B G=>?_
 refine He (fun (i_2:Int)=>mk [(0,.row 0),(1,vj a),(2,vj b),(3,.clo 44 0 []),(9,vj i_2),(10,vj j_1)] [(0,.row 40 4 (Ai Aa.enc data_1))] 1) G (Cd [(0,0)]) ?_
 rintro i_2 m2 o2 G hn2
 unfold Af.l2 at G
 try dsimp only at G
 refine Rp rfl ?_
 refine Ay <| A4 (ι:=Bool) (fun (x36_3:Bool)=>mk [(0,.row 0),(1,vj a),(2,vj b),(3,.clo 44 0 []),(9,vj i_2),(10,vj j_1),(36,.val (.bool x36_3))] [(0,.row 40 4 (Ai Aa.enc data_1))] 1) (fun (x36_3:Bool)=>Af.j3 a b cmp j_1 data_1 i_2 x36_3=some o2) ?_ ?_
 refine Bg (D9 _ _ []) (by kernel_rfl) [0,0,3,7,15,15,15,111,239,15,15,1039,3599,7695,16383,32767,65535,131071] 1 145 Ij rfl rfl (by kernel_rfl) ?_
 refine Jf (.r 0 (.e 4)) fun h6 e _ e_2 _ B G=>?_
 obtain⟨y,hy,G⟩:=An G
 refine E1 (rd:=[]) (ps:=[]) (gs:=[]) false (Mt rfl rfl h6) rfl (hf_cmp e e_2 _ hy) rfl rfl (.cons (.agg (.cons .val (.cons .val (.cons .val (.cons .sl .nil))))) (.cons (.agg (.cons .val (.cons .val (.cons .val (.cons .sl .nil))))) .nil)) rfl rfl (by intro h; cases h) rfl rfl rfl rfl ?_
 exact Cj
 rintro x36_3 G
 unfold Af.j3 at G
 refine Dx (.l 0 (.l 3 (.l 3 (.e 1)))) fun _ _ _ B G=>?_
 refine Ay <| Bg (D9 _ _ []) (by kernel_rfl) [0,0,0,0,8,0,0,64,224,480,0,0,3072,7168,16355,32739,65535,131071] 57 201 B rfl rfl (by kernel_rfl) ?_
 refine Br 4 fun e_3 _ e_4 he_4 B G=>?_
 refine X7 Ms he_4 (x':=e_3) ?_
 refine Br 1 fun _ he_5 B G=>?_
 refine X7 Ms he_5 (x':=e_4) ?_
 refine Br 0 fun B G=>?_
 refine A4 (ι:=List Aa) (fun (data_5:List Aa)=>mk [(0,.row 0),(1,vj a),(2,vj b),(3,.clo 44 0 []),(9,vj i_2),(10,vj j_1)] [(0,.row 40 4 (Ai Aa.enc data_5))] 1) (fun (data_5:List Aa)=>Af.j5 b cmp j_1 i_2 data_5=some o1) ?_ ?_
 refine Jf (.r 1 (.e 2)) fun _ B G=>?_
 refine He (fun ((j_4,data_4):Int×List Aa)=>mk [(0,.row 0),(1,vj a),(2,vj b),(3,.clo 44 0 []),(9,vj i_2),(10,vj j_1),(11,vj j_4)] [(0,.row 40 4 (Ai Aa.enc data_4))] 1) G (Cd [(0,0)]) ?_
 rintro⟨j_4,data_4⟩ m4 o4 G hn4
 unfold Af.l4 at G
 refine Dx (.r 2 (.e 3)) fun _ B G=>?_
 refine Ay <| Ay <| Bg (D9 _ _ []) (by kernel_rfl) [0,0,0,6,14,0,0,64,224,480,1023,2047,4095] 17 121 B rfl rfl (by kernel_rfl) ?_
 refine Br 4 fun e_6 he_6 e_7 he_7 B G=>?_
 obtain⟨y_2,hy_2,G⟩:=An G
 refine E1 (rd:=[]) (ps:=[]) (gs:=[]) false rfl rfl (hf_cmp e_6 e_7 _ hy_2) rfl rfl (.cons (.agg (.cons .val (.cons .val (.cons .val (.cons .sl .nil))))) (.cons (.agg (.cons .val (.cons .val (.cons .val (.cons .sl .nil))))) .nil)) rfl rfl (by intro h; cases h) rfl rfl rfl rfl ?_
 refine Jf (.l 0 (.e 1)) fun _ B G=>?_
 refine Bg (D9 _ _ []) (by kernel_rfl) [0,0,0,0,8,0,0,64,224,480,0,0,3072,7168,16355,32739,65535,131071] 121 265 B rfl rfl (by kernel_rfl) ?_
 refine Br 2 fun B G=>?_
 refine X7 Ms he_6 (x':=e_7) ?_
 refine Br 1 fun _ he_8 B G=>?_
 refine X7 Ms he_8 (x':=e_6) ?_
 exact Cj
 rintro data_5 G
 unfold Af.j5 at G
 refine Dx (.r 1 (.e 2)) fun _ B G=>?_
 refine He (fun ((j_6,data_6):Int×List Aa)=>mk [(0,.row 0),(1,vj a),(2,vj b),(3,.clo 44 0 []),(9,vj i_2),(10,vj j_1),(12,vj j_6)] [(0,.row 40 4 (Ai Aa.enc data_6))] 1) G (Cd [(0,0)]) ?_
 rintro⟨j_6,data_6⟩ m6 o6 G hn6
 unfold Af.l6 at G
 refine Dx (.r 2 (.e 3)) fun _ B G=>?_
 refine Ay <| Ay <| Bg (D9 _ _ []) (by kernel_rfl) [0,0,0,6,14,0,0,64,224,480,1023,2047,4095] 25 129 B rfl rfl (by kernel_rfl) ?_
 refine Br 4 fun e_9 he_9 e_10 he_10 B G=>?_
 obtain⟨y_3,hy_3,G⟩:=An G
 refine E1 (rd:=[]) (ps:=[]) (gs:=[]) false rfl rfl (hf_cmp e_9 e_10 _ hy_3) rfl rfl (.cons (.agg (.cons .val (.cons .val (.cons .val (.cons .sl .nil))))) (.cons (.agg (.cons .val (.cons .val (.cons .val (.cons .sl .nil))))) .nil)) rfl rfl (by intro h; cases h) rfl rfl rfl rfl ?_
 refine Jf (.l 0 (.e 1)) fun _ B G=>?_
 refine Bg (D9 _ _ []) (by kernel_rfl) [0,0,0,0,8,0,0,64,224,480,0,0,3072,7168,16355,32739,65535,131071] 129 273 B rfl rfl (by kernel_rfl) ?_
 refine Br 2 fun B G=>?_
 refine X7 Ms he_9 (x':=e_10) ?_
 refine Br 1 fun _ he_11 B G=>?_
 refine X7 Ms he_11 (x':=e_9) ?_
 exact Cj
 rintro⟨i_7,data_7⟩ G
 unfold Af.j7 at G
 exact Gn
theorem Jg {data:List Aa} {a:Int} {b:Int} {pivot:Int} {cmp:Aa->Aa->Option (Int)} (hf_cmp:∀ (x0:Aa) (x1:Aa) (y:Int),cmp x0 x1=some y->Fn Tryz.prog 44 0 [.agg (Aa.dv x0),.agg (Aa.dv x1)] [] (fun d' b'=>d'=vj y/\b'=[])) {r:Int×(List Aa)} (G:Am data a b pivot cmp=some r):Fn Tryz.prog 133 1 [.row 0,vj a,vj b,vj pivot,.clo 44 0 []] [.row 40 4 (Ai Aa.enc data)] (fun d' b'=>d'=vj r.1/\b'=[.row 40 4 (Ai Aa.enc r.2)]):=by
 unfold Am at G
 refine Ea 1 90 Tryz.func133 fun _ _ _=>?_
 refine Br 1 fun B G=>?_
 refine Ay <| Bg (D9 _ _ []) (by kernel_rfl) [0,0,0,0,0,0,48,112,0,0,768,1792,4083,8179,16383,32767] 9 137 B rfl rfl (by kernel_rfl) ?_
 refine Br 4 fun e _ e_2 he_2 B G=>?_
 refine X7 Ms he_2 (x':=e) ?_
 refine Br 1 fun _ he_3 B G=>?_
 refine X7 Ms he_3 (x':=e_2) ?_
 refine Br 3 fun B G=>?_
 refine He (fun ((i_1,j_1,data_1):Int×Int×List Aa)=>mk [(0,.row 0),(1,vj a),(4,.clo 44 0 []),(11,vj i_1),(12,vj j_1)] [(0,.row 40 4 (Ai Aa.enc data_1))] 1) G (Cd [(0,0)]) ?_
 rintro⟨i_1,j_1,data_1⟩ m1 o1 G hn1
 unfold Am.l1 at G
 refine Lg 3 fun B G=>?_
 refine He (fun (i_2:Int)=>mk [(0,.row 0),(1,vj a),(4,.clo 44 0 []),(11,vj i_2),(12,vj j_1)] [(0,.row 40 4 (Ai Aa.enc data_1))] 1) G (Cd [(0,0)]) ?_
 rintro i_2 m2 o2 G hn2
 unfold Am.l2 at G
 try dsimp only at G
 refine Rp rfl ?_
 refine Ay <| A4 (ι:=Bool) (fun (x47_3:Bool)=>mk [(0,.row 0),(1,vj a),(4,.clo 44 0 []),(11,vj i_2),(12,vj j_1),(47,.val (.bool x47_3))] [(0,.row 40 4 (Ai Aa.enc data_1))] 1) (fun (x47_3:Bool)=>Am.j3 a cmp j_1 data_1 i_2 x47_3=some o2) ?_ ?_
 refine Bg (D9 _ _ []) (by kernel_rfl) [0,0,3,7,15,15,15,111,239,15,15,1551,3599,8191,16383,32767,65535] 1 137 Ij rfl rfl (by kernel_rfl) ?_
 refine Jf (.r 0 (.e 4)) fun h4 e_4 _ e_5 _ B G=>?_
 obtain⟨y,hy,G⟩:=An G
 refine E1 (rd:=[]) (ps:=[]) (gs:=[]) false (Mt rfl rfl h4) rfl (hf_cmp e_4 e_5 _ hy) rfl rfl (.cons (.agg (.cons .val (.cons .val (.cons .val (.cons .sl .nil))))) (.cons (.agg (.cons .val (.cons .val (.cons .val (.cons .sl .nil))))) .nil)) rfl rfl (by intro h; cases h) rfl rfl rfl rfl ?_
 exact Cj
 rintro x47_3 G
 unfold Am.j3 at G
 refine Dx (.l 0 (.e 3)) fun _ B G=>?_
 refine He (fun (j_4:Int)=>mk [(0,.row 0),(1,vj a),(4,.clo 44 0 []),(11,vj i_2),(12,vj j_4)] [(0,.row 40 4 (Ai Aa.enc data_1))] 1) G (Cd [(0,0)]) ?_
 rintro j_4 m4 o4 G hn4
 unfold Am.l4 at G
 try dsimp only at G
 refine Rp rfl ?_
 refine Ay <| A4 (ι:=Bool) (fun (x65_5:Bool)=>mk [(0,.row 0),(1,vj a),(4,.clo 44 0 []),(11,vj i_2),(12,vj j_4),(65,.val (.bool x65_5))] [(0,.row 40 4 (Ai Aa.enc data_1))] 1) (fun (x65_5:Bool)=>Am.j5 data_1 i_2 j_4 x65_5=some o4) ?_ ?_
 refine Bg (D9 _ _ []) (by kernel_rfl) [0,0,3,7,15,15,15,111,239,15,15,1551,3599,8191,16383,32767] 1 129 Ij rfl rfl (by kernel_rfl) ?_
 refine Jf (.r 0 (.e 4)) fun h9 e_6 _ e_7 _ B G=>?_
 obtain⟨y_2,hy_2,G⟩:=An G
 refine E1 (rd:=[]) (ps:=[]) (gs:=[]) false (Mt rfl rfl h9) rfl (hf_cmp e_6 e_7 _ hy_2) rfl rfl (.cons (.agg (.cons .val (.cons .val (.cons .val (.cons .sl .nil))))) (.cons (.agg (.cons .val (.cons .val (.cons .val (.cons .sl .nil))))) .nil)) rfl rfl (by intro h; cases h) rfl rfl rfl rfl ?_
 exact Cj
 rintro x65_5 G
 unfold Am.j5 at G
 refine Dx (.l 0 (.l 3 (.e 1))) fun _ _ B G=>?_
 refine Ay <| Bg (D9 _ _ []) (by kernel_rfl) [0,0,0,0,0,0,48,112,0,0,768,1792,4083,8179,16383,32767] 25 153 B rfl rfl (by kernel_rfl) ?_
 refine Br 4 fun e_8 _ e_9 he_9 B G=>?_
 refine X7 Ms he_9 (x':=e_8) ?_
 refine Br 1 fun _ he_10 B G=>?_
 refine X7 Ms he_10 (x':=e_9) ?_
 exact Cj
theorem K3 {data:List Aa} {a:Int} {b:Int} {pivot:Int} {cmp:Aa->Aa->Option (Int)} (hf_cmp:∀ (x0:Aa) (x1:Aa) (y:Int),cmp x0 x1=some y->Fn Tryz.prog 44 0 [.agg (Aa.dv x0),.agg (Aa.dv x1)] [] (fun d' b'=>d'=vj y/\b'=[])) {r:Int×Bool×(List Aa)} (G:Aj data a b pivot cmp=some r):Fn Tryz.prog 134 1 [.row 0,vj a,vj b,vj pivot,.clo 44 0 []] [.row 40 4 (Ai Aa.enc data)] (fun d' b'=>d'=.tup [vj r.1,.val (.bool r.2.1)]/\b'=[.row 40 4 (Ai Aa.enc r.2.2)]):=by
 unfold Aj at G
 refine Ea 1 178 Tryz.func134 fun _ _ _=>?_
 refine Br 1 fun B G=>?_
 refine Ay <| Bg (D9 _ _ []) (by kernel_rfl) [0,0,0,0,0,0,48,112,0,0,768,1792,4083,8179,16383,32767] 17 145 B rfl rfl (by kernel_rfl) ?_
 refine Br 4 fun e _ e_2 he_2 B G=>?_
 refine X7 Ms he_2 (x':=e) ?_
 refine Br 1 fun _ he_3 B G=>?_
 refine X7 Ms he_3 (x':=e_2) ?_
 refine Br 3 fun B G=>?_
 refine He (fun (i_1:Int)=>mk [(0,.row 0),(1,vj a),(4,.clo 44 0 []),(12,vj i_1),(13,.val (.int .i64 (W (b - 1))))] [(0,.row 40 4 (Ai Aa.enc (Ex (Ex data ((a).toNat) e) ((pivot).toNat) e_2)))] 1) G (Cd [(0,0)]) ?_
 rintro i_1 m1 o1 G hn1
 unfold Aj.l1 at G
 try dsimp only at G
 refine Rp rfl ?_
 refine Ay <| A4 (ι:=Bool) (fun (x47_2:Bool)=>mk [(0,.row 0),(1,vj a),(4,.clo 44 0 []),(12,vj i_1),(13,.val (.int .i64 (W (b - 1)))),(47,.val (.bool x47_2))] [(0,.row 40 4 (Ai Aa.enc (Ex (Ex data ((a).toNat) e) ((pivot).toNat) e_2)))] 1) (fun (x47_2:Bool)=>Aj.j2 data a b pivot cmp e e_2 i_1 x47_2=some o1) ?_ ?_
 refine Bg (D9 _ _ []) (by kernel_rfl) [0,0,3,7,15,15,15,111,239,15,15,1551,3599,8191,16383,32767] 1 129 Ij rfl rfl (by kernel_rfl) ?_
 refine Jf (.r 0 (.e 4)) fun h4 e_4 _ e_5 _ B G=>?_
 obtain⟨y,hy,G⟩:=An G
 refine E1 (rd:=[]) (ps:=[]) (gs:=[]) false (Mt rfl rfl h4) rfl (hf_cmp e_4 e_5 _ hy) rfl rfl (.cons (.agg (.cons .val (.cons .val (.cons .val (.cons .sl .nil))))) (.cons (.agg (.cons .val (.cons .val (.cons .val (.cons .sl .nil))))) .nil)) rfl rfl (by intro h; cases h) rfl rfl rfl rfl ?_
 exact Cj
 rintro x47_2 G
 unfold Aj.j2 at G
 refine Dx (.l 0 (.e 3)) fun _ B G=>?_
 refine He (fun (j_3:Int)=>mk [(0,.row 0),(1,vj a),(4,.clo 44 0 []),(12,vj i_1),(13,vj j_3)] [(0,.row 40 4 (Ai Aa.enc (Ex (Ex data ((a).toNat) e) ((pivot).toNat) e_2)))] 1) G (Cd [(0,0)]) ?_
 rintro j_3 m3 o3 G hn3
 unfold Aj.l3 at G
 try dsimp only at G
 refine Rp rfl ?_
 refine Ay <| A4 (ι:=Bool) (fun (x66_4:Bool)=>mk [(0,.row 0),(1,vj a),(4,.clo 44 0 []),(12,vj i_1),(13,vj j_3),(66,.val (.bool x66_4))] [(0,.row 40 4 (Ai Aa.enc (Ex (Ex data ((a).toNat) e) ((pivot).toNat) e_2)))] 1) (fun (x66_4:Bool)=>Aj.j4 data a pivot cmp e e_2 i_1 j_3 x66_4=some o3) ?_ ?_
 refine Bg (D9 _ _ []) (by kernel_rfl) [0,0,3,7,15,15,15,111,239,15,15,1551,3599,8191,16383,32767,65535] 1 137 Ij rfl rfl (by kernel_rfl) ?_
 refine Jf (.r 0 (.e 4)) fun h9 e_6 _ e_7 _ B G=>?_
 obtain⟨y_2,hy_2,G⟩:=An G
 refine E1 (rd:=[]) (ps:=[]) (gs:=[]) false (Mt rfl rfl h9) rfl (hf_cmp e_6 e_7 _ hy_2) rfl rfl (.cons (.agg (.cons .val (.cons .val (.cons .val (.cons .sl .nil))))) (.cons (.agg (.cons .val (.cons .val (.cons .val (.cons .sl .nil))))) .nil)) rfl rfl (by intro h; cases h) rfl rfl rfl rfl ?_
 exact Cj
 rintro x66_4 G
 unfold Aj.j4 at G
 refine Dx (.l 0 (.e 3)) fun _ B G=>?_
 refine Kd rfl G (fun _ G=>?_) fun _ G=>?_
 refine Ay <| Bg (D9 _ _ []) (by kernel_rfl) [0,0,0,0,0,0,48,112,0,0,768,1792,4083,8179,16383,32767] 25 153 B rfl rfl (by kernel_rfl) ?_
 refine Br 4 fun e_8 _ e_9 he_9 B G=>?_
 refine X7 Ms he_9 (x':=e_8) ?_
 refine Br 1 fun _ he_10 B G=>?_
 refine X7 Ms he_10 (x':=e_9) ?_
 exact Cj
 refine Br 1 fun B G=>?_
 refine Ay <| Bg (D9 _ _ []) (by kernel_rfl) [0,0,0,0,0,0,48,112,0,0,768,1792,4083,8179,16383,32767] 25 153 B rfl rfl (by kernel_rfl) ?_
 refine Br 4 fun e_11 _ e_12 he_12 B G=>?_
 refine X7 Ms he_12 (x':=e_11) ?_
 refine Br 1 fun _ he_13 B G=>?_
 refine X7 Ms he_13 (x':=e_12) ?_
 refine Br 4 fun B G=>?_
 refine He (fun ((i_5,j_5,data_5):Int×Int×List Aa)=>mk [(0,.row 0),(1,vj a),(4,.clo 44 0 []),(12,vj i_5),(13,vj j_5)] [(0,.row 40 4 (Ai Aa.enc data_5))] 1) G (Cd [(0,0)]) ?_
 rintro⟨i_5,j_5,data_5⟩ m5 o5 G hn5
 unfold Aj.l5 at G
 refine Lg 3 fun B G=>?_
 refine He (fun (i_6:Int)=>mk [(0,.row 0),(1,vj a),(4,.clo 44 0 []),(12,vj i_6),(13,vj j_5)] [(0,.row 40 4 (Ai Aa.enc data_5))] 1) G (Cd [(0,0)]) ?_
 rintro i_6 m6 o6 G hn6
 unfold Aj.l6 at G
 try dsimp only at G
 refine Rp rfl ?_
 refine Ay <| A4 (ι:=Bool) (fun (x120_7:Bool)=>mk [(0,.row 0),(1,vj a),(4,.clo 44 0 []),(12,vj i_6),(13,vj j_5),(120,.val (.bool x120_7))] [(0,.row 40 4 (Ai Aa.enc data_5))] 1) (fun (x120_7:Bool)=>Aj.j7 a cmp j_5 data_5 i_6 x120_7=some o6) ?_ ?_
 refine Bg (D9 _ _ []) (by kernel_rfl) [0,0,3,7,15,15,15,111,239,15,15,1551,3599,8191,16383,32767] 1 129 Ij rfl rfl (by kernel_rfl) ?_
 refine Jf (.r 0 (.e 4)) fun h21 e_14 _ e_15 _ B G=>?_
 obtain⟨y_3,hy_3,G⟩:=An G
 refine E1 (rd:=[]) (ps:=[]) (gs:=[]) false (Mt rfl rfl h21) rfl (hf_cmp e_14 e_15 _ hy_3) rfl rfl (.cons (.agg (.cons .val (.cons .val (.cons .val (.cons .sl .nil))))) (.cons (.agg (.cons .val (.cons .val (.cons .val (.cons .sl .nil))))) .nil)) rfl rfl (by intro h; cases h) rfl rfl rfl rfl ?_
 exact Cj
 rintro x120_7 G
 unfold Aj.j7 at G
 refine Dx (.l 0 (.e 3)) fun _ B G=>?_
 refine He (fun (j_8:Int)=>mk [(0,.row 0),(1,vj a),(4,.clo 44 0 []),(12,vj i_6),(13,vj j_8)] [(0,.row 40 4 (Ai Aa.enc data_5))] 1) G (Cd [(0,0)]) ?_
 rintro j_8 m8 o8 G hn8
 unfold Aj.l8 at G
 try dsimp only at G
 refine Rp rfl ?_
 refine Ay <| A4 (ι:=Bool) (fun (x139_9:Bool)=>mk [(0,.row 0),(1,vj a),(4,.clo 44 0 []),(12,vj i_6),(13,vj j_8),(139,.val (.bool x139_9))] [(0,.row 40 4 (Ai Aa.enc data_5))] 1) (fun (x139_9:Bool)=>Aj.j9 a data_5 i_6 j_8 x139_9=some o8) ?_ ?_
 refine Bg (D9 _ _ []) (by kernel_rfl) [0,0,3,7,15,15,15,111,239,15,15,1551,3599,8191,16383,32767,65535] 1 137 Ij rfl rfl (by kernel_rfl) ?_
 refine Jf (.r 0 (.e 4)) fun h26 e_16 _ e_17 _ B G=>?_
 obtain⟨y_4,hy_4,G⟩:=An G
 refine E1 (rd:=[]) (ps:=[]) (gs:=[]) false (Mt rfl rfl h26) rfl (hf_cmp e_16 e_17 _ hy_4) rfl rfl (.cons (.agg (.cons .val (.cons .val (.cons .val (.cons .sl .nil))))) (.cons (.agg (.cons .val (.cons .val (.cons .val (.cons .sl .nil))))) .nil)) rfl rfl (by intro h; cases h) rfl rfl rfl rfl ?_
 exact Cj
 rintro x139_9 G
 unfold Aj.j9 at G
 refine Dx (.l 0 (.e 3)) fun _ B G=>?_
 refine Kd rfl G (fun _ G=>?_) fun _ G=>?_
 refine Br 1 fun B G=>?_
 refine Ay <| Bg (D9 _ _ []) (by kernel_rfl) [0,0,0,0,0,0,48,112,0,0,768,1792,4083,8179,16383,32767] 25 153 B rfl rfl (by kernel_rfl) ?_
 refine Br 4 fun e_21 _ e_22 he_22 B G=>?_
 refine X7 Ms he_22 (x':=e_21) ?_
 refine Br 1 fun _ he_23 B G=>?_
 refine X7 Ms he_23 (x':=e_22) ?_
 exact Cj
 refine Br 1 fun B G=>?_
 refine Ay <| Bg (D9 _ _ []) (by kernel_rfl) [0,0,0,0,0,0,48,112,0,0,768,1792,4083,8179,16383,32767] 25 153 B rfl rfl (by kernel_rfl) ?_
 refine Br 4 fun e_18 _ e_19 he_19 B G=>?_
 refine X7 Ms he_19 (x':=e_18) ?_
 refine Br 1 fun _ he_20 B G=>?_
 refine X7 Ms he_20 (x':=e_19) ?_
 exact Cj
theorem Fk.F {cmp:Aa->Aa->Option (Int)} (hf_cmp:∀ (x0:Aa) (x1:Aa) (y:Int),cmp x0 x1=some y->Fn Tryz.prog 44 0 [.agg (Aa.dv x0),.agg (Aa.dv x1)] [] (fun d' b'=>d'=vj y/\b'=[])) (rec:(List Aa)->Int->Int->Int->Option ((List Aa))) (hrec:∀ (data:List Aa) (a:Int) (b:Int) (limit:Int) (r:(List Aa)),rec data a b limit=some r->Fn Tryz.prog 87 1 [.row 0,vj a,vj b,vj limit,.clo 44 0 []] [.row 40 4 (Ai Aa.enc data)] (fun d' b'=>d'=.tup []/\b'=[.row 40 4 (Ai Aa.enc r)])) {data:List Aa} {a:Int} {b:Int} {limit:Int} {r:(List Aa)} (G:Ak.F rec data a b limit cmp=some r):Fn Tryz.prog 87 1 [.row 0,vj a,vj b,vj limit,.clo 44 0 []] [.row 40 4 (Ai Aa.enc data)] (fun d' b'=>d'=.tup []/\b'=[.row 40 4 (Ai Aa.enc r)]):=by
 unfold Ak.F at G
 refine Ea 1 148 Tryz.func87 fun _ _ _=>?_
 refine Br 3 fun B G=>?_
 refine He (fun ((a_1,b_1,limit_1,wasBalanced_1,wasPartitioned_1,data_1):Int×Int×Int×Bool×Bool×List Aa)=>mk [(0,.row 0),(1,vj a_1),(2,vj b_1),(3,vj limit_1),(4,.clo 44 0 []),(10,.val (.bool wasBalanced_1)),(11,.val (.bool wasPartitioned_1))] [(0,.row 40 4 (Ai Aa.enc data_1))] 1) G (Cd [(0,0)]) ?_
 rintro⟨a_1,b_1,limit_1,wasBalanced_1,wasPartitioned_1,data_1⟩ m1 o1 G hn1
 unfold Ak.l1 at G
 refine Lg 4 fun B G=>?_
 refine Kd rfl G (fun _ G=>?_) fun _ G=>?_
 refine Br 1 fun B G=>?_
 obtain⟨y,hy,G⟩:=An G
 refine R9 [0] [0] [] false (@Js data_1 a_1 b_1 cmp hf_cmp _ hy) ?_
 exact Cj
 refine Br 3 fun B G=>?_
 refine Kd rfl G (fun _ G=>?_) fun _ G=>?_
 refine Br 1 fun B G=>?_
 obtain⟨y_2,hy_2,G⟩:=An G
 refine R9 [0] [0] [] false (@K9 data_1 a_1 b_1 cmp hf_cmp _ hy_2) ?_
 exact Cj
 refine Br 1 fun B G=>?_
 refine A4 (ι:=Int×List Aa) (fun ((limit_2,data_2):Int×List Aa)=>mk [(0,.row 0),(1,vj a_1),(2,vj b_1),(3,vj limit_2),(4,.clo 44 0 []),(10,.val (.bool wasBalanced_1)),(11,.val (.bool wasPartitioned_1)),(12,.val (.int .i64 (W (b_1 - a_1))))] [(0,.row 40 4 (Ai Aa.enc data_2))] 1) (fun ((limit_2,data_2):Int×List Aa)=>Ak.j2 rec cmp a_1 b_1 wasBalanced_1 wasPartitioned_1 limit_2 data_2=some o1) ?_ ?_
 refine Jf (.r 1 (.e 1)) fun _ B G=>?_
 obtain⟨y_3,hy_3,G⟩:=An G
 refine R9 [0] [0] [] false (@Jl data_1 a_1 b_1 cmp hf_cmp _ hy_3) ?_
 exact Cj
 rintro⟨limit_2,data_2⟩ G
 unfold Ak.j2 at G
 refine Lg 1 fun B G=>?_
 obtain⟨y_4,hy_4,G⟩:=An G
 refine R9 [0] [] [] true (@Ki data_2 a_1 b_1 cmp hf_cmp _ hy_4) ?_
 refine Br 0 fun B G=>?_
 refine A4 (ι:=Int×Int×List Aa) (fun ((pivot_3,hint_3,data_3):Int×Int×List Aa)=>mk [(0,.row 0),(1,vj a_1),(2,vj b_1),(3,vj limit_2),(4,.clo 44 0 []),(10,.val (.bool wasBalanced_1)),(11,.val (.bool wasPartitioned_1)),(12,.val (.int .i64 (W (b_1 - a_1)))),(13,vj pivot_3),(14,vj hint_3)] [(0,.row 40 4 (Ai Aa.enc data_3))] 1) (fun ((pivot_3,hint_3,data_3):Int×Int×List Aa)=>Ak.j3 rec cmp a_1 b_1 wasBalanced_1 wasPartitioned_1 limit_2 pivot_3 hint_3 data_3=some o1) ?_ ?_
 refine Jf (.r 1 (.e 1)) fun _ B G=>?_
 obtain⟨y_5,hy_5,G⟩:=An G
 refine R9 [0] [0] [] false (@J9 data_2 a_1 b_1 cmp hf_cmp _ hy_5) ?_
 exact Cj
 rintro⟨pivot_3,hint_3,data_3⟩ G
 unfold Ak.j3 at G
 try dsimp only at G
 refine Rp rfl ?_
 refine A4 (ι:=List Aa) (fun (data_5:List Aa)=>mk [(0,.row 0),(1,vj a_1),(2,vj b_1),(3,vj limit_2),(4,.clo 44 0 []),(10,.val (.bool wasBalanced_1)),(11,.val (.bool wasPartitioned_1)),(12,.val (.int .i64 (W (b_1 - a_1)))),(13,vj pivot_3)] [(0,.row 40 4 (Ai Aa.enc data_5))] 1) (fun (data_5:List Aa)=>Ak.j5 rec cmp a_1 b_1 wasBalanced_1 wasPartitioned_1 limit_2 pivot_3 data_5=some o1) ?_ ?_
 refine A4 (ι:=Bool) (fun (x75_4:Bool)=>mk [(0,.row 0),(1,vj a_1),(2,vj b_1),(3,vj limit_2),(4,.clo 44 0 []),(10,.val (.bool wasBalanced_1)),(11,.val (.bool wasPartitioned_1)),(12,.val (.int .i64 (W (b_1 - a_1)))),(13,vj pivot_3),(75,.val (.bool x75_4))] [(0,.row 40 4 (Ai Aa.enc data_3))] 1) (fun (x75_4:Bool)=>Ak.j4 rec cmp a_1 b_1 wasBalanced_1 wasPartitioned_1 limit_2 pivot_3 data_3 x75_4=some o1) ?_ ?_
 exact Cj
 rintro x75_4 G
 unfold Ak.j4 at G
 refine Dx (.r 0 (.e 1)) fun _ B G=>?_
 obtain⟨y_6,hy_6,G⟩:=An G
 refine R9 [0] [0] [] false (@Ii data_3 a_1 b_1 cmp hf_cmp _ hy_6) ?_
 refine Jf (.r 0 (.e 0)) fun _ B G=>?_
 refine dL ?_
 refine rp_ ?_
 exact Cj
 rintro data_5 G
 unfold Ak.j5 at G
 try dsimp only at G
 refine Rp rfl ?_
 refine Ay <| A4 (ι:=Bool) (fun (x97_6:Bool)=>mk [(0,.row 0),(1,vj a_1),(2,vj b_1),(3,vj limit_2),(4,.clo 44 0 []),(10,.val (.bool wasBalanced_1)),(11,.val (.bool wasPartitioned_1)),(12,.val (.int .i64 (W (b_1 - a_1)))),(13,vj pivot_3),(97,.val (.bool x97_6))] [(0,.row 40 4 (Ai Aa.enc data_5))] 1) (fun (x97_6:Bool)=>Ak.j6 rec cmp a_1 b_1 wasBalanced_1 wasPartitioned_1 limit_2 pivot_3 data_5 x97_6=some o1) ?_ ?_
 refine Bg (D9 _ _ []) (by kernel_rfl) [0,1,3,7,7,7,39,119,247,7,7,1543,3591,8191,16383,32767,65535] 1 137 Ij rfl rfl (by kernel_rfl) ?_
 refine Jf (.r 0 (.e 4)) fun h28 e _ e_2 _ B G=>?_
 obtain⟨y_7,hy_7,G⟩:=An G
 refine E1 (rd:=[]) (ps:=[]) (gs:=[]) false (Mt rfl rfl h28) rfl (hf_cmp e e_2 _ hy_7) rfl rfl (.cons (.agg (.cons .val (.cons .val (.cons .val (.cons .sl .nil))))) (.cons (.agg (.cons .val (.cons .val (.cons .val (.cons .sl .nil))))) .nil)) rfl rfl (by intro h; cases h) rfl rfl rfl rfl ?_
 exact Cj
 rintro x97_6 G
 unfold Ak.j6 at G
 try dsimp only at G
 refine Rp rfl ?_
 refine Kd rfl G (fun _ G=>?_) fun _ G=>?_
 refine Br 1 fun B G=>?_
 obtain⟨y_8,hy_8,G⟩:=An G
 refine R9 [0] [0] [] false (@Jg data_5 a_1 b_1 pivot_3 cmp hf_cmp _ hy_8) ?_
 exact Cj
 refine Br 2 fun B G=>?_
 obtain⟨y_9,hy_9,G⟩:=An G
 refine R9 [0] [0] [] false (@K3 data_5 a_1 b_1 pivot_3 cmp hf_cmp _ hy_9) ?_
 refine Br 5 fun q _ B G=>?_
 refine Kd rfl G (fun _ G=>?_) fun _ G=>?_
 refine Br 2 fun B G=>?_
 obtain⟨y_10,hy_10,G⟩:=An G
 refine R9 [0] [0] [] false (hrec y_9.2.2 a_1 y_9.1 limit_2 _ hy_10) ?_
 exact Cj
 refine Br 2 fun B G=>?_
 obtain⟨y_11,hy_11,G⟩:=An G
 refine R9 [0] [0] [] false (hrec y_9.2.2 (W (y_9.1 + 1)) b_1 limit_2 _ hy_11) ?_
 exact Cj
theorem Fk {data:List Aa} {a:Int} {b:Int} {limit:Int} {cmp:Aa->Aa->Option (Int)} (hf_cmp:∀ (x0:Aa) (x1:Aa) (y:Int),cmp x0 x1=some y->Fn Tryz.prog 44 0 [.agg (Aa.dv x0),.agg (Aa.dv x1)] [] (fun d' b'=>d'=vj y/\b'=[])) {r:(List Aa)} (G:Ak data a b limit cmp=some r):Fn Tryz.prog 87 1 [.row 0,vj a,vj b,vj limit,.clo 44 0 []] [.row 40 4 (Ai Aa.enc data)] (fun d' b'=>d'=.tup []/\b'=[.row 40 4 (Ai Aa.enc r)]):=
 N8 (motive:=fun (x:List Aa×Int×Int×Int) (r:(List Aa))=>Fn Tryz.prog 87 1 [.row 0,vj x.2.1,vj x.2.2.1,vj x.2.2.2,.clo 44 0 []] [.row 40 4 (Ai Aa.enc x.1)] (fun d' b'=>d'=.tup []/\b'=[.row 40 4 (Ai Aa.enc r)])) (fun rec hrec x r h=>@Fk.F cmp hf_cmp _ (fun data a b limit r h=>hrec (data,a,b,limit) r h) x.1 x.2.1 x.2.2.1 x.2.2.2 r h) (data,a,b,limit) r G
instance aYe:Wk 87:=⟨_,@Fk⟩
end Go.Proofs.YtobamahlipiakaaGreat
