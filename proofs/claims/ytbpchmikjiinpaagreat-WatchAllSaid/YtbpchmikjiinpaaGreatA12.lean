import Derived.Test.YtbpchmikjiinpaaGreatT1
import Derived.Test.YtbpchmikjiinpaaGreatEU
import Derived.Test.YtbpchmikjiinpaaGreatA9
import Derived.Test.YtbpchmikjiinpaaGreatA10
import Derived.Test.YtbpchmikjiinpaaGreatA11
set_option linter.unusedVariables false
set_option linter.unusedSimpArgs false
set_option maxRecDepth 100000
set_option maxHeartbeats 40000000
namespace Go.Proofs.YtbpchmikjiinpaaGreat
open Go.RowKit
theorem If {data:List Aa} {a:Int} {b:Int} {pivot:Int} {cmp:Aa->Aa->Option (Int)} (hf_cmp:∀ (x0:Aa) (x1:Aa) (y:Int),cmp x0 x1=some y->Fn Tryz.prog 104 0 [.agg (Aa.dv x0),.agg (Aa.dv x1)] [] (fun d' b'=>d'=vk y/\b'=[])) {r:Int×(List Aa)} (G:Al data a b pivot cmp=some r):Fn Tryz.prog 167 1 [.row 0,vk a,vk b,vk pivot,.clo 104 0 []] [.row 26 11 (Aj Aa.enc data)] (fun d' b'=>d'=vk r.1/\b'=[.row 26 11 (Aj Aa.enc r.2)]):=by
 unfold Al at G
 refine Dx 1 90 Tryz.func167 fun _ _ _=>?_
 refine Bt 1 fun B G=>?_
 refine Au <| Bb (Df _ _ []) (by kernel_rfl) [0,0,0,0,0,0,48,112,0,0,768,1792,4083,8179,16383,32767] 9 137 B rfl rfl (by kernel_rfl) ?_
 refine Bt 4 fun e _ e_2 he_2 B G=>?_
 refine Vn I8 he_2 (x':=e) ?_
 refine Bt 1 fun _ he_3 B G=>?_
 refine Vn I8 he_3 (x':=e_2) ?_
 refine Bt 3 fun B G=>?_
 refine G7 (fun ((i_1,j_1,data_1):Int×Int×List Aa)=>mk [(0,.row 0),(1,vk a),(4,.clo 104 0 []),(11,vk i_1),(12,vk j_1)] [(0,.row 26 11 (Aj Aa.enc data_1))] 1) G (B9 [(0,0)]) ?_
 rintro⟨i_1,j_1,data_1⟩ m1 o1 G hn1
 unfold Al.l1 at G
 refine I9 3 fun B G=>?_
 refine G7 (fun (i_2:Int)=>mk [(0,.row 0),(1,vk a),(4,.clo 104 0 []),(11,vk i_2),(12,vk j_1)] [(0,.row 26 11 (Aj Aa.enc data_1))] 1) G (B9 [(0,0)]) ?_
 rintro i_2 m2 o2 G hn2
 unfold Al.l2 at G
 try dsimp only at G
 refine R3 rfl ?_
 refine Au <| Ba (ι:=Bool) (fun (x47_3:Bool)=>mk [(0,.row 0),(1,vk a),(4,.clo 104 0 []),(11,vk i_2),(12,vk j_1),(47,.val (.bool x47_3))] [(0,.row 26 11 (Aj Aa.enc data_1))] 1) (fun (x47_3:Bool)=>Al.j3 a cmp j_1 data_1 i_2 x47_3=some o2) ?_ ?_
 refine Bb (Df _ _ []) (by kernel_rfl) [0,0,3,7,15,15,15,111,239,15,15,1551,3599,8191,16383,32767,65535] 1 137 Ji rfl rfl (by kernel_rfl) ?_
 refine Md (.r 0 (.e 4)) fun h4 e_4 _ e_5 _ B G=>?_
 obtain⟨y,hy,G⟩:=Ak G
 refine Cm (rd:=[]) (ps:=[]) (gs:=[]) false (Nn rfl rfl h4) rfl (hf_cmp e_4 e_5 _ hy) rfl rfl (.cons (.agg (.cons .val (.cons .val (.cons .val (.cons .val (.cons .val (.cons .val (.cons .val (.cons .val (.cons .val (.cons .val (.cons .val .nil)))))))))))) (.cons (.agg (.cons .val (.cons .val (.cons .val (.cons .val (.cons .val (.cons .val (.cons .val (.cons .val (.cons .val (.cons .val (.cons .val .nil)))))))))))) .nil)) rfl rfl (by intro h; cases h) rfl rfl rfl rfl ?_
 exact Cf
 rintro x47_3 G
 unfold Al.j3 at G
 refine D4 (.l 0 (.e 3)) fun _ B G=>?_
 refine G7 (fun (j_4:Int)=>mk [(0,.row 0),(1,vk a),(4,.clo 104 0 []),(11,vk i_2),(12,vk j_4)] [(0,.row 26 11 (Aj Aa.enc data_1))] 1) G (B9 [(0,0)]) ?_
 rintro j_4 m4 o4 G hn4
 unfold Al.l4 at G
 try dsimp only at G
 refine R3 rfl ?_
 refine Au <| Ba (ι:=Bool) (fun (x65_5:Bool)=>mk [(0,.row 0),(1,vk a),(4,.clo 104 0 []),(11,vk i_2),(12,vk j_4),(65,.val (.bool x65_5))] [(0,.row 26 11 (Aj Aa.enc data_1))] 1) (fun (x65_5:Bool)=>Al.j5 data_1 i_2 j_4 x65_5=some o4) ?_ ?_
 refine Bb (Df _ _ []) (by kernel_rfl) [0,0,3,7,15,15,15,111,239,15,15,1551,3599,8191,16383,32767] 1 129 Ji rfl rfl (by kernel_rfl) ?_
 refine Md (.r 0 (.e 4)) fun h9 e_6 _ e_7 _ B G=>?_
 obtain⟨y_2,hy_2,G⟩:=Ak G
 refine Cm (rd:=[]) (ps:=[]) (gs:=[]) false (Nn rfl rfl h9) rfl (hf_cmp e_6 e_7 _ hy_2) rfl rfl (.cons (.agg (.cons .val (.cons .val (.cons .val (.cons .val (.cons .val (.cons .val (.cons .val (.cons .val (.cons .val (.cons .val (.cons .val .nil)))))))))))) (.cons (.agg (.cons .val (.cons .val (.cons .val (.cons .val (.cons .val (.cons .val (.cons .val (.cons .val (.cons .val (.cons .val (.cons .val .nil)))))))))))) .nil)) rfl rfl (by intro h; cases h) rfl rfl rfl rfl ?_
 exact Cf
 rintro x65_5 G
 unfold Al.j5 at G
 refine D4 (.l 0 (.l 3 (.e 1))) fun _ _ B G=>?_
 refine Au <| Bb (Df _ _ []) (by kernel_rfl) [0,0,0,0,0,0,48,112,0,0,768,1792,4083,8179,16383,32767] 25 153 B rfl rfl (by kernel_rfl) ?_
 refine Bt 4 fun e_8 _ e_9 he_9 B G=>?_
 refine Vn I8 he_9 (x':=e_8) ?_
 refine Bt 1 fun _ he_10 B G=>?_
 refine Vn I8 he_10 (x':=e_9) ?_
 exact Cf
theorem Jb {data:List Aa} {a:Int} {b:Int} {pivot:Int} {cmp:Aa->Aa->Option (Int)} (hf_cmp:∀ (x0:Aa) (x1:Aa) (y:Int),cmp x0 x1=some y->Fn Tryz.prog 104 0 [.agg (Aa.dv x0),.agg (Aa.dv x1)] [] (fun d' b'=>d'=vk y/\b'=[])) {r:Int×Bool×(List Aa)} (G:Af data a b pivot cmp=some r):Fn Tryz.prog 168 1 [.row 0,vk a,vk b,vk pivot,.clo 104 0 []] [.row 26 11 (Aj Aa.enc data)] (fun d' b'=>d'=.tup [vk r.1,.val (.bool r.2.1)]/\b'=[.row 26 11 (Aj Aa.enc r.2.2)]):=by
 unfold Af at G
 refine Dx 1 178 Tryz.func168 fun _ _ _=>?_
 refine Bt 1 fun B G=>?_
 refine Au <| Bb (Df _ _ []) (by kernel_rfl) [0,0,0,0,0,0,48,112,0,0,768,1792,4083,8179,16383,32767] 17 145 B rfl rfl (by kernel_rfl) ?_
 refine Bt 4 fun e _ e_2 he_2 B G=>?_
 refine Vn I8 he_2 (x':=e) ?_
 refine Bt 1 fun _ he_3 B G=>?_
 refine Vn I8 he_3 (x':=e_2) ?_
 refine Bt 3 fun B G=>?_
 refine G7 (fun (i_1:Int)=>mk [(0,.row 0),(1,vk a),(4,.clo 104 0 []),(12,vk i_1),(13,.val (.int .i64 (W (b - 1))))] [(0,.row 26 11 (Aj Aa.enc (C3 (C3 data ((a).toNat) e) ((pivot).toNat) e_2)))] 1) G (B9 [(0,0)]) ?_
 rintro i_1 m1 o1 G hn1
 unfold Af.l1 at G
 try dsimp only at G
 refine R3 rfl ?_
 refine Au <| Ba (ι:=Bool) (fun (x47_2:Bool)=>mk [(0,.row 0),(1,vk a),(4,.clo 104 0 []),(12,vk i_1),(13,.val (.int .i64 (W (b - 1)))),(47,.val (.bool x47_2))] [(0,.row 26 11 (Aj Aa.enc (C3 (C3 data ((a).toNat) e) ((pivot).toNat) e_2)))] 1) (fun (x47_2:Bool)=>Af.j2 data a b pivot cmp e e_2 i_1 x47_2=some o1) ?_ ?_
 refine Bb (Df _ _ []) (by kernel_rfl) [0,0,3,7,15,15,15,111,239,15,15,1551,3599,8191,16383,32767] 1 129 Ji rfl rfl (by kernel_rfl) ?_
 refine Md (.r 0 (.e 4)) fun h4 e_4 _ e_5 _ B G=>?_
 obtain⟨y,hy,G⟩:=Ak G
 refine Cm (rd:=[]) (ps:=[]) (gs:=[]) false (Nn rfl rfl h4) rfl (hf_cmp e_4 e_5 _ hy) rfl rfl (.cons (.agg (.cons .val (.cons .val (.cons .val (.cons .val (.cons .val (.cons .val (.cons .val (.cons .val (.cons .val (.cons .val (.cons .val .nil)))))))))))) (.cons (.agg (.cons .val (.cons .val (.cons .val (.cons .val (.cons .val (.cons .val (.cons .val (.cons .val (.cons .val (.cons .val (.cons .val .nil)))))))))))) .nil)) rfl rfl (by intro h; cases h) rfl rfl rfl rfl ?_
 exact Cf
 rintro x47_2 G
 unfold Af.j2 at G
 refine D4 (.l 0 (.e 3)) fun _ B G=>?_
 refine G7 (fun (j_3:Int)=>mk [(0,.row 0),(1,vk a),(4,.clo 104 0 []),(12,vk i_1),(13,vk j_3)] [(0,.row 26 11 (Aj Aa.enc (C3 (C3 data ((a).toNat) e) ((pivot).toNat) e_2)))] 1) G (B9 [(0,0)]) ?_
 rintro j_3 m3 o3 G hn3
 unfold Af.l3 at G
 try dsimp only at G
 refine R3 rfl ?_
 refine Au <| Ba (ι:=Bool) (fun (x66_4:Bool)=>mk [(0,.row 0),(1,vk a),(4,.clo 104 0 []),(12,vk i_1),(13,vk j_3),(66,.val (.bool x66_4))] [(0,.row 26 11 (Aj Aa.enc (C3 (C3 data ((a).toNat) e) ((pivot).toNat) e_2)))] 1) (fun (x66_4:Bool)=>Af.j4 data a pivot cmp e e_2 i_1 j_3 x66_4=some o3) ?_ ?_
 refine Bb (Df _ _ []) (by kernel_rfl) [0,0,3,7,15,15,15,111,239,15,15,1551,3599,8191,16383,32767,65535] 1 137 Ji rfl rfl (by kernel_rfl) ?_
 refine Md (.r 0 (.e 4)) fun h9 e_6 _ e_7 _ B G=>?_
 obtain⟨y_2,hy_2,G⟩:=Ak G
 refine Cm (rd:=[]) (ps:=[]) (gs:=[]) false (Nn rfl rfl h9) rfl (hf_cmp e_6 e_7 _ hy_2) rfl rfl (.cons (.agg (.cons .val (.cons .val (.cons .val (.cons .val (.cons .val (.cons .val (.cons .val (.cons .val (.cons .val (.cons .val (.cons .val .nil)))))))))))) (.cons (.agg (.cons .val (.cons .val (.cons .val (.cons .val (.cons .val (.cons .val (.cons .val (.cons .val (.cons .val (.cons .val (.cons .val .nil)))))))))))) .nil)) rfl rfl (by intro h; cases h) rfl rfl rfl rfl ?_
 exact Cf
 rintro x66_4 G
 unfold Af.j4 at G
 refine D4 (.l 0 (.e 3)) fun _ B G=>?_
 refine Jf rfl G (fun _ G=>?_) fun _ G=>?_
 refine Au <| Bb (Df _ _ []) (by kernel_rfl) [0,0,0,0,0,0,48,112,0,0,768,1792,4083,8179,16383,32767] 25 153 B rfl rfl (by kernel_rfl) ?_
 refine Bt 4 fun e_8 _ e_9 he_9 B G=>?_
 refine Vn I8 he_9 (x':=e_8) ?_
 refine Bt 1 fun _ he_10 B G=>?_
 refine Vn I8 he_10 (x':=e_9) ?_
 exact Cf
 refine Bt 1 fun B G=>?_
 refine Au <| Bb (Df _ _ []) (by kernel_rfl) [0,0,0,0,0,0,48,112,0,0,768,1792,4083,8179,16383,32767] 25 153 B rfl rfl (by kernel_rfl) ?_
 refine Bt 4 fun e_11 _ e_12 he_12 B G=>?_
 refine Vn I8 he_12 (x':=e_11) ?_
 refine Bt 1 fun _ he_13 B G=>?_
 refine Vn I8 he_13 (x':=e_12) ?_
 refine Bt 4 fun B G=>?_
 refine G7 (fun ((i_5,j_5,data_5):Int×Int×List Aa)=>mk [(0,.row 0),(1,vk a),(4,.clo 104 0 []),(12,vk i_5),(13,vk j_5)] [(0,.row 26 11 (Aj Aa.enc data_5))] 1) G (B9 [(0,0)]) ?_
 rintro⟨i_5,j_5,data_5⟩ m5 o5 G hn5
 unfold Af.l5 at G
 refine I9 3 fun B G=>?_
 refine G7 (fun (i_6:Int)=>mk [(0,.row 0),(1,vk a),(4,.clo 104 0 []),(12,vk i_6),(13,vk j_5)] [(0,.row 26 11 (Aj Aa.enc data_5))] 1) G (B9 [(0,0)]) ?_
 rintro i_6 m6 o6 G hn6
 unfold Af.l6 at G
 try dsimp only at G
 refine R3 rfl ?_
 refine Au <| Ba (ι:=Bool) (fun (x120_7:Bool)=>mk [(0,.row 0),(1,vk a),(4,.clo 104 0 []),(12,vk i_6),(13,vk j_5),(120,.val (.bool x120_7))] [(0,.row 26 11 (Aj Aa.enc data_5))] 1) (fun (x120_7:Bool)=>Af.j7 a cmp j_5 data_5 i_6 x120_7=some o6) ?_ ?_
 refine Bb (Df _ _ []) (by kernel_rfl) [0,0,3,7,15,15,15,111,239,15,15,1551,3599,8191,16383,32767] 1 129 Ji rfl rfl (by kernel_rfl) ?_
 refine Md (.r 0 (.e 4)) fun h21 e_14 _ e_15 _ B G=>?_
 obtain⟨y_3,hy_3,G⟩:=Ak G
 refine Cm (rd:=[]) (ps:=[]) (gs:=[]) false (Nn rfl rfl h21) rfl (hf_cmp e_14 e_15 _ hy_3) rfl rfl (.cons (.agg (.cons .val (.cons .val (.cons .val (.cons .val (.cons .val (.cons .val (.cons .val (.cons .val (.cons .val (.cons .val (.cons .val .nil)))))))))))) (.cons (.agg (.cons .val (.cons .val (.cons .val (.cons .val (.cons .val (.cons .val (.cons .val (.cons .val (.cons .val (.cons .val (.cons .val .nil)))))))))))) .nil)) rfl rfl (by intro h; cases h) rfl rfl rfl rfl ?_
 exact Cf
 rintro x120_7 G
 unfold Af.j7 at G
 refine D4 (.l 0 (.e 3)) fun _ B G=>?_
 refine G7 (fun (j_8:Int)=>mk [(0,.row 0),(1,vk a),(4,.clo 104 0 []),(12,vk i_6),(13,vk j_8)] [(0,.row 26 11 (Aj Aa.enc data_5))] 1) G (B9 [(0,0)]) ?_
 rintro j_8 m8 o8 G hn8
 unfold Af.l8 at G
 try dsimp only at G
 refine R3 rfl ?_
 refine Au <| Ba (ι:=Bool) (fun (x139_9:Bool)=>mk [(0,.row 0),(1,vk a),(4,.clo 104 0 []),(12,vk i_6),(13,vk j_8),(139,.val (.bool x139_9))] [(0,.row 26 11 (Aj Aa.enc data_5))] 1) (fun (x139_9:Bool)=>Af.j9 a data_5 i_6 j_8 x139_9=some o8) ?_ ?_
 refine Bb (Df _ _ []) (by kernel_rfl) [0,0,3,7,15,15,15,111,239,15,15,1551,3599,8191,16383,32767,65535] 1 137 Ji rfl rfl (by kernel_rfl) ?_
 refine Md (.r 0 (.e 4)) fun h26 e_16 _ e_17 _ B G=>?_
 obtain⟨y_4,hy_4,G⟩:=Ak G
 refine Cm (rd:=[]) (ps:=[]) (gs:=[]) false (Nn rfl rfl h26) rfl (hf_cmp e_16 e_17 _ hy_4) rfl rfl (.cons (.agg (.cons .val (.cons .val (.cons .val (.cons .val (.cons .val (.cons .val (.cons .val (.cons .val (.cons .val (.cons .val (.cons .val .nil)))))))))))) (.cons (.agg (.cons .val (.cons .val (.cons .val (.cons .val (.cons .val (.cons .val (.cons .val (.cons .val (.cons .val (.cons .val (.cons .val .nil)))))))))))) .nil)) rfl rfl (by intro h; cases h) rfl rfl rfl rfl ?_
 exact Cf
 rintro x139_9 G
 unfold Af.j9 at G
 refine D4 (.l 0 (.e 3)) fun _ B G=>?_
 refine Jf rfl G (fun _ G=>?_) fun _ G=>?_
 refine Bt 1 fun B G=>?_
 refine Au <| Bb (Df _ _ []) (by kernel_rfl) [0,0,0,0,0,0,48,112,0,0,768,1792,4083,8179,16383,32767] 25 153 B rfl rfl (by kernel_rfl) ?_
 refine Bt 4 fun e_21 _ e_22 he_22 B G=>?_
 refine Vn I8 he_22 (x':=e_21) ?_
 refine Bt 1 fun _ he_23 B G=>?_
 refine Vn I8 he_23 (x':=e_22) ?_
 exact Cf
 refine Bt 1 fun B G=>?_
 refine Au <| Bb (Df _ _ []) (by kernel_rfl) [0,0,0,0,0,0,48,112,0,0,768,1792,4083,8179,16383,32767] 25 153 B rfl rfl (by kernel_rfl) ?_
 refine Bt 4 fun e_18 _ e_19 he_19 B G=>?_
 refine Vn I8 he_19 (x':=e_18) ?_
 refine Bt 1 fun _ he_20 B G=>?_
 refine Vn I8 he_20 (x':=e_19) ?_
 exact Cf
theorem Dq.F {cmp:Aa->Aa->Option (Int)} (hf_cmp:∀ (x0:Aa) (x1:Aa) (y:Int),cmp x0 x1=some y->Fn Tryz.prog 104 0 [.agg (Aa.dv x0),.agg (Aa.dv x1)] [] (fun d' b'=>d'=vk y/\b'=[])) (rec:(List Aa)->Int->Int->Int->Option ((List Aa))) (hrec:∀ (data:List Aa) (a:Int) (b:Int) (limit:Int) (r:(List Aa)),rec data a b limit=some r->Fn Tryz.prog 124 1 [.row 0,vk a,vk b,vk limit,.clo 104 0 []] [.row 26 11 (Aj Aa.enc data)] (fun d' b'=>d'=.tup []/\b'=[.row 26 11 (Aj Aa.enc r)])) {data:List Aa} {a:Int} {b:Int} {limit:Int} {r:(List Aa)} (G:Ai.F rec data a b limit cmp=some r):Fn Tryz.prog 124 1 [.row 0,vk a,vk b,vk limit,.clo 104 0 []] [.row 26 11 (Aj Aa.enc data)] (fun d' b'=>d'=.tup []/\b'=[.row 26 11 (Aj Aa.enc r)]):=by
 unfold Ai.F at G
 refine Dx 1 148 Tryz.func124 fun _ _ _=>?_
 refine Bt 3 fun B G=>?_
 refine G7 (fun ((a_1,b_1,limit_1,wasBalanced_1,wasPartitioned_1,data_1):Int×Int×Int×Bool×Bool×List Aa)=>mk [(0,.row 0),(1,vk a_1),(2,vk b_1),(3,vk limit_1),(4,.clo 104 0 []),(10,.val (.bool wasBalanced_1)),(11,.val (.bool wasPartitioned_1))] [(0,.row 26 11 (Aj Aa.enc data_1))] 1) G (B9 [(0,0)]) ?_
 rintro⟨a_1,b_1,limit_1,wasBalanced_1,wasPartitioned_1,data_1⟩ m1 o1 G hn1
 unfold Ai.l1 at G
 refine I9 4 fun B G=>?_
 refine Jf rfl G (fun _ G=>?_) fun _ G=>?_
 refine Bt 1 fun B G=>?_
 obtain⟨y,hy,G⟩:=Ak G
 refine P5 [0] [0] [] false (@Ii data_1 a_1 b_1 cmp hf_cmp _ hy) ?_
 exact Cf
 refine Bt 3 fun B G=>?_
 refine Jf rfl G (fun _ G=>?_) fun _ G=>?_
 refine Bt 1 fun B G=>?_
 obtain⟨y_2,hy_2,G⟩:=Ak G
 refine P5 [0] [0] [] false (@Jg data_1 a_1 b_1 cmp hf_cmp _ hy_2) ?_
 exact Cf
 refine Bt 1 fun B G=>?_
 refine Ba (ι:=Int×List Aa) (fun ((limit_2,data_2):Int×List Aa)=>mk [(0,.row 0),(1,vk a_1),(2,vk b_1),(3,vk limit_2),(4,.clo 104 0 []),(10,.val (.bool wasBalanced_1)),(11,.val (.bool wasPartitioned_1)),(12,.val (.int .i64 (W (b_1 - a_1))))] [(0,.row 26 11 (Aj Aa.enc data_2))] 1) (fun ((limit_2,data_2):Int×List Aa)=>Ai.j2 rec cmp a_1 b_1 wasBalanced_1 wasPartitioned_1 limit_2 data_2=some o1) ?_ ?_
 refine Md (.r 1 (.e 1)) fun _ B G=>?_
 obtain⟨y_3,hy_3,G⟩:=Ak G
 refine P5 [0] [0] [] false (@Ig data_1 a_1 b_1 cmp hf_cmp _ hy_3) ?_
 exact Cf
 rintro⟨limit_2,data_2⟩ G
 unfold Ai.j2 at G
 refine I9 1 fun B G=>?_
 obtain⟨y_4,hy_4,G⟩:=Ak G
 refine P5 [0] [] [] true (@It data_2 a_1 b_1 cmp hf_cmp _ hy_4) ?_
 refine Bt 0 fun B G=>?_
 refine Ba (ι:=Int×Int×List Aa) (fun ((pivot_3,hint_3,data_3):Int×Int×List Aa)=>mk [(0,.row 0),(1,vk a_1),(2,vk b_1),(3,vk limit_2),(4,.clo 104 0 []),(10,.val (.bool wasBalanced_1)),(11,.val (.bool wasPartitioned_1)),(12,.val (.int .i64 (W (b_1 - a_1)))),(13,vk pivot_3),(14,vk hint_3)] [(0,.row 26 11 (Aj Aa.enc data_3))] 1) (fun ((pivot_3,hint_3,data_3):Int×Int×List Aa)=>Ai.j3 rec cmp a_1 b_1 wasBalanced_1 wasPartitioned_1 limit_2 pivot_3 hint_3 data_3=some o1) ?_ ?_
 refine Md (.r 1 (.e 1)) fun _ B G=>?_
 obtain⟨y_5,hy_5,G⟩:=Ak G
 refine P5 [0] [0] [] false (@Ir data_2 a_1 b_1 cmp hf_cmp _ hy_5) ?_
 exact Cf
 rintro⟨pivot_3,hint_3,data_3⟩ G
 unfold Ai.j3 at G
 try dsimp only at G
 refine R3 rfl ?_
 refine Ba (ι:=List Aa) (fun (data_5:List Aa)=>mk [(0,.row 0),(1,vk a_1),(2,vk b_1),(3,vk limit_2),(4,.clo 104 0 []),(10,.val (.bool wasBalanced_1)),(11,.val (.bool wasPartitioned_1)),(12,.val (.int .i64 (W (b_1 - a_1)))),(13,vk pivot_3)] [(0,.row 26 11 (Aj Aa.enc data_5))] 1) (fun (data_5:List Aa)=>Ai.j5 rec cmp a_1 b_1 wasBalanced_1 wasPartitioned_1 limit_2 pivot_3 data_5=some o1) ?_ ?_
 refine Ba (ι:=Bool) (fun (x75_4:Bool)=>mk [(0,.row 0),(1,vk a_1),(2,vk b_1),(3,vk limit_2),(4,.clo 104 0 []),(10,.val (.bool wasBalanced_1)),(11,.val (.bool wasPartitioned_1)),(12,.val (.int .i64 (W (b_1 - a_1)))),(13,vk pivot_3),(75,.val (.bool x75_4))] [(0,.row 26 11 (Aj Aa.enc data_3))] 1) (fun (x75_4:Bool)=>Ai.j4 rec cmp a_1 b_1 wasBalanced_1 wasPartitioned_1 limit_2 pivot_3 data_3 x75_4=some o1) ?_ ?_
 exact Cf
 rintro x75_4 G
 unfold Ai.j4 at G
 refine D4 (.r 0 (.e 1)) fun _ B G=>?_
 obtain⟨y_6,hy_6,G⟩:=Ak G
 refine P5 [0] [0] [] false (@G8 data_3 a_1 b_1 cmp hf_cmp _ hy_6) ?_
 refine Md (.r 0 (.e 0)) fun _ B G=>?_
 refine iZ ?_
 refine rp_ ?_
 exact Cf
 rintro data_5 G
 unfold Ai.j5 at G
 try dsimp only at G
 refine R3 rfl ?_
 refine Au <| Ba (ι:=Bool) (fun (x97_6:Bool)=>mk [(0,.row 0),(1,vk a_1),(2,vk b_1),(3,vk limit_2),(4,.clo 104 0 []),(10,.val (.bool wasBalanced_1)),(11,.val (.bool wasPartitioned_1)),(12,.val (.int .i64 (W (b_1 - a_1)))),(13,vk pivot_3),(97,.val (.bool x97_6))] [(0,.row 26 11 (Aj Aa.enc data_5))] 1) (fun (x97_6:Bool)=>Ai.j6 rec cmp a_1 b_1 wasBalanced_1 wasPartitioned_1 limit_2 pivot_3 data_5 x97_6=some o1) ?_ ?_
 refine Bb (Df _ _ []) (by kernel_rfl) [0,1,3,7,7,7,39,119,247,7,7,1543,3591,8191,16383,32767,65535] 1 137 Ji rfl rfl (by kernel_rfl) ?_
 refine Md (.r 0 (.e 4)) fun h28 e _ e_2 _ B G=>?_
 obtain⟨y_7,hy_7,G⟩:=Ak G
 refine Cm (rd:=[]) (ps:=[]) (gs:=[]) false (Nn rfl rfl h28) rfl (hf_cmp e e_2 _ hy_7) rfl rfl (.cons (.agg (.cons .val (.cons .val (.cons .val (.cons .val (.cons .val (.cons .val (.cons .val (.cons .val (.cons .val (.cons .val (.cons .val .nil)))))))))))) (.cons (.agg (.cons .val (.cons .val (.cons .val (.cons .val (.cons .val (.cons .val (.cons .val (.cons .val (.cons .val (.cons .val (.cons .val .nil)))))))))))) .nil)) rfl rfl (by intro h; cases h) rfl rfl rfl rfl ?_
 exact Cf
 rintro x97_6 G
 unfold Ai.j6 at G
 try dsimp only at G
 refine R3 rfl ?_
 refine Jf rfl G (fun _ G=>?_) fun _ G=>?_
 refine Bt 1 fun B G=>?_
 obtain⟨y_8,hy_8,G⟩:=Ak G
 refine P5 [0] [0] [] false (@If data_5 a_1 b_1 pivot_3 cmp hf_cmp _ hy_8) ?_
 exact Cf
 refine Bt 2 fun B G=>?_
 obtain⟨y_9,hy_9,G⟩:=Ak G
 refine P5 [0] [0] [] false (@Jb data_5 a_1 b_1 pivot_3 cmp hf_cmp _ hy_9) ?_
 refine Bt 5 fun q _ B G=>?_
 refine Jf rfl G (fun _ G=>?_) fun _ G=>?_
 refine Bt 2 fun B G=>?_
 obtain⟨y_10,hy_10,G⟩:=Ak G
 refine P5 [0] [0] [] false (hrec y_9.2.2 a_1 y_9.1 limit_2 _ hy_10) ?_
 exact Cf
 refine Bt 2 fun B G=>?_
 obtain⟨y_11,hy_11,G⟩:=Ak G
 refine P5 [0] [0] [] false (hrec y_9.2.2 (W (y_9.1 + 1)) b_1 limit_2 _ hy_11) ?_
 exact Cf
theorem Dq {data:List Aa} {a:Int} {b:Int} {limit:Int} {cmp:Aa->Aa->Option (Int)} (hf_cmp:∀ (x0:Aa) (x1:Aa) (y:Int),cmp x0 x1=some y->Fn Tryz.prog 104 0 [.agg (Aa.dv x0),.agg (Aa.dv x1)] [] (fun d' b'=>d'=vk y/\b'=[])) {r:(List Aa)} (G:Ai data a b limit cmp=some r):Fn Tryz.prog 124 1 [.row 0,vk a,vk b,vk limit,.clo 104 0 []] [.row 26 11 (Aj Aa.enc data)] (fun d' b'=>d'=.tup []/\b'=[.row 26 11 (Aj Aa.enc r)]):=
 Tu (motive:=fun (x:List Aa×Int×Int×Int) (r:(List Aa))=>Fn Tryz.prog 124 1 [.row 0,vk x.2.1,vk x.2.2.1,vk x.2.2.2,.clo 104 0 []] [.row 26 11 (Aj Aa.enc x.1)] (fun d' b'=>d'=.tup []/\b'=[.row 26 11 (Aj Aa.enc r)])) (fun rec hrec x r h=>@Dq.F cmp hf_cmp _ (fun data a b limit r h=>hrec (data,a,b,limit) r h) x.1 x.2.1 x.2.2.1 x.2.2.2 r h) (data,a,b,limit) r G
instance aNr:Wk 124:=⟨_,@Dq⟩
theorem K3 {x':List Aa} {cmp:Aa->Aa->Option (Int)} (hf_cmp:∀ (x0:Aa) (x1:Aa) (y:Int),cmp x0 x1=some y->Fn Tryz.prog 104 0 [.agg (Aa.dv x0),.agg (Aa.dv x1)] [] (fun d' b'=>d'=vk y/\b'=[])) {r:(List Aa)} (G:Ek x' cmp=some r):Fn Tryz.prog 103 1 [.row 0,.clo 104 0 []] [.row 26 11 (Aj Aa.enc x')] (fun d' b'=>d'=.tup []/\b'=[.row 26 11 (Aj Aa.enc r)]):=by
 unfold Ek at G
 refine Dx 1 14 Tryz.func103 fun _ _ _=>?_
 refine Bt 4 fun y _ B G=>?_
 obtain⟨y_2,hy_2,G⟩:=Ak G
 refine P5 [0] [0] [] false (@Dq x' 0 (x'.length:Int) y cmp hf_cmp _ hy_2) ?_
 exact Cf
theorem Jn {s r} (G:Bh s=some r):Fn Tryz.prog 105 0 [.row 0] [.row 26 11 (Aj Aa.enc s)] (fun d' b'=>d'=.row 0/\b'=[.row 26 11 (Aj Aa.enc r)]):=by
 unfold Bh at G
 refine Dx 1 61 Tryz.func105 fun _ _ _=>?_
 refine Md (.l 3 (.e 4)) fun _ B G=>?_
 refine G7 (fun (k_1:Int)=>mk [(0,.row 0),(3,vk k_1)] [(0,.row 26 11 (Aj Aa.enc s))] 1) G (B9 [(0,0)]) ?_
 rintro k_1 m1 o1 G hn1
 unfold Bh.l1 at G
 refine D4 (.r 2 (.e 3)) fun _ B G=>?_
 refine Au <| Bb (Df _ _ []) (by kernel_rfl) [0,0,3,7,0,0,32,112,240,511] 33 113 B rfl rfl (by kernel_rfl) ?_
 refine Bt 4 fun e _ e_2 _ B G=>?_
 refine Et rfl rfl (nP e e_2) rfl rfl ?_
 refine Md (.r 0 (.e 5)) fun _ _ _ B G=>?_
 refine G7 (fun ((k_2,k2_2,s_2):Int×Int×List Aa)=>mk [(0,.row 0),(3,vk k_2),(4,.part 0 (((k_1:Int).toNat) * 11) (((s.length:Int):Int).toNat - (k_1:Int).toNat)),(5,vk k2_2)] [(0,.row 26 11 (Aj Aa.enc s_2))] 1) G (B9 [(0,0)]) ?_
 rintro⟨k_2,k2_2,s_2⟩ m2 o2 G hn2
 unfold Bh.l2 at G
 refine I9 2 fun B G=>?_
 refine Et rfl rfl (.len Pz.elem .part) rfl rfl ?_
 refine Bt 0 fun B G=>?_
 refine Jf rfl G (fun _ G=>?_) fun _ G=>?_
 refine Bt 1 fun B G=>?_
 refine Ba (ι:=Int×List Aa) (fun ((k_3,s_3):Int×List Aa)=>mk [(0,.row 0),(3,vk k_3),(4,.part 0 (((k_1:Int).toNat) * 11) (((s.length:Int):Int).toNat - (k_1:Int).toNat)),(5,vk k2_2)] [(0,.row 26 11 (Aj Aa.enc s_3))] 1) (fun ((k_3,s_3):Int×List Aa)=>Bh.j3 k2_2 k_3 s_3=some o2) ?_ ?_
 refine Bt 1 fun B G=>?_
 refine Au <| Bb (Df _ _ []) (by kernel_rfl) [0,0,3,7,0,0,32,112,240,511] 33 113 B rfl rfl (by kernel_rfl) ?_
 refine Bt 0 fun B G=>?_
 obtain⟨e_3,he_3,G⟩:=Ak G
 refine Mz (rd:=[0]) rfl rfl (cS Pz (N4 he_3) (Dj he_3)) rfl rfl ?_
 refine Mz (rd:=[0]) rfl rfl (Xd Nz (Kb Aa.enc_len (Q2 (a:=(k_1:Int).toNat) (Dj he_3)) (o:=0) (m:=11) (cs:=(Aa.ec e_3)) rfl (by decide) rfl) (Gd Aa.enc_len (Q2 (a:=(k_1:Int).toNat) (Dj he_3)) (o:=0) (m:=11) (by decide) rfl)) rfl rfl ?_
 refine Bt 0 fun B G=>?_
 obtain⟨e_4,he_4,G⟩:=Ak G
 refine Mz (rd:=[0]) rfl rfl (cS Pz (N4 he_4) (Dj he_4)) rfl rfl ?_
 refine Mz (rd:=[0]) rfl rfl (Xd Nz (Kb Aa.enc_len (Q2 (a:=(k_1:Int).toNat) (Dj he_4)) (o:=0) (m:=11) (cs:=(Aa.ec e_4)) rfl (by decide) rfl) (Gd Aa.enc_len (Q2 (a:=(k_1:Int).toNat) (Dj he_4)) (o:=0) (m:=11) (by decide) rfl)) rfl rfl ?_
 refine Et rfl rfl (aW e_3 e_4) rfl rfl ?_
 refine Md (.r 0 (.e 1)) fun _ B G=>?_
 refine Mz (rd:=[0]) rfl rfl (cS Pz (N4 he_3) (Dj he_3)) rfl rfl ?_
 refine Mz (rd:=[0]) rfl rfl (Xd Nz (Kb Aa.enc_len (Q2 (a:=(k_1:Int).toNat) (Dj he_3)) (o:=0) (m:=11) (cs:=(Aa.ec e_3)) rfl (by decide) rfl) (Gd Aa.enc_len (Q2 (a:=(k_1:Int).toNat) (Dj he_3)) (o:=0) (m:=11) (by decide) rfl)) rfl rfl ?_
 refine Bt 1 fun _ he_5 B G=>?_
 refine Vn I8 he_5 (x':=e_3) ?_
 exact Cf
 rintro⟨k_3,s_3⟩ G
 unfold Bh.j3 at G
 exact Hf
 refine Bt 3 fun _ _ B G=>?_
 obtain⟨l_3,hl_3,G⟩:=Ak G
 refine Mn (rd:=[0]) rfl rfl (pF (f:=Aa.enc) (a:=(k_2:Int).toNat) (m:=(((s_2.length:Int):Int).toNat - (k_2:Int).toNat)) (z0:=(Aa.mk 0 (⟨#[]⟩:ByteArray) 0 0 0 0 (⟨#[]⟩:ByteArray) (Aq.mk 0 0) 0 (⟨#[]⟩:ByteArray))) Pz Aa.enc_len (aDg (ck:=[none,none,none,none,none,none,none,none,none,none,none]) eH (.cons .int (.cons .str (.cons .int (.cons .int (.cons .int (.cons .int (.cons .str (.cons .int (.cons .int (.cons .int (.cons .str .nil)))))))))))) (.head _) hl_3) rfl rfl (fun _=>⟨_,rfl⟩) ?_
 rintro _ rfl
 refine Bt 2 fun _ hl_4 B G=>?_
 refine Ew (σ':=mk [(2,.part 0 (((0:Int).toNat) * 11) ((k_2:Int).toNat - (0:Int).toNat))] [(0,.row 26 11 (Aj Aa.enc l_3))] 1) (B9 [(0,0)]) ?_
 refine Ew (σ':=mk [(2,.row 0)] [(0,.row 26 11 (Aj Aa.enc (l_3.take ((k_2:Int).toNat - (0:Int).toNat))))] 1) (aI8 2 0 Aa.enc_len (aK7 (Nat.le_add_left _ _) (Re hl_4)) rfl rfl rfl rfl) ?_
 exact Cf
instance aOz:Wk 105:=⟨_,@Jn⟩
end Go.Proofs.YtbpchmikjiinpaaGreat
