import Derived.Test.YtbpchmikjiinpaaGreatT1
import Derived.Test.YtbpchmikjiinpaaGreatEU
import Derived.Test.YtbpchmikjiinpaaGreatA9
import Derived.Test.YtbpchmikjiinpaaGreatA10
set_option linter.unusedVariables false
set_option linter.unusedSimpArgs false
set_option maxRecDepth 100000
set_option maxHeartbeats 40000000
namespace Go.Proofs.YtbpchmikjiinpaaGreat
open Go.RowKit
theorem Ii {data:List Aa} {a:Int} {b:Int} {cmp:Aa->Aa->Option (Int)} (hf_cmp:∀ (x0:Aa) (x1:Aa) (y:Int),cmp x0 x1=some y->Fn Tryz.prog 104 0 [.agg (Aa.dv x0),.agg (Aa.dv x1)] [] (fun d' b'=>d'=vk y/\b'=[])) {r:(List Aa)} (G:Ao data a b cmp=some r):Fn Tryz.prog 161 1 [.row 0,vk a,vk b,.clo 104 0 []] [.row 26 11 (Aj Aa.enc data)] (fun d' b'=>d'=.tup []/\b'=[.row 26 11 (Aj Aa.enc r)]):=by
 unfold Ao at G
 refine Dx 1 53 Tryz.func161 fun _ _ _=>?_
 refine Bt 2 fun B G=>?_
 refine G7 (fun ((i_1,data_1):Int×List Aa)=>mk [(0,.row 0),(1,vk a),(2,vk b),(3,.clo 104 0 []),(8,vk i_1)] [(0,.row 26 11 (Aj Aa.enc data_1))] 1) G (B9 [(0,0)]) ?_
 rintro⟨i_1,data_1⟩ m1 o1 G hn1
 unfold Ao.l1 at G
 refine D4 (.r 2 (.e 5)) fun _ B G=>?_
 refine G7 (fun ((j_2,data_2):Int×List Aa)=>mk [(0,.row 0),(1,vk a),(2,vk b),(3,.clo 104 0 []),(8,vk i_1),(9,vk j_2)] [(0,.row 26 11 (Aj Aa.enc data_2))] 1) G (B9 [(0,0)]) ?_
 rintro⟨j_2,data_2⟩ m2 o2 G hn2
 unfold Ao.l2 at G
 try dsimp only at G
 refine R3 rfl ?_
 refine Au <| Ba (ι:=Bool) (fun (x34_3:Bool)=>mk [(0,.row 0),(1,vk a),(2,vk b),(3,.clo 104 0 []),(8,vk i_1),(9,vk j_2),(34,.val (.bool x34_3))] [(0,.row 26 11 (Aj Aa.enc data_2))] 1) (fun (x34_3:Bool)=>Ao.j3 i_1 j_2 data_2 x34_3=some o2) ?_ ?_
 refine Bb (Df _ _ []) (by kernel_rfl) [0,0,3,7,15,15,15,111,239,15,15,1039,3599,7695,16383,32767,65535] 1 137 Ji rfl rfl (by kernel_rfl) ?_
 refine Md (.r 0 (.e 4)) fun h5 e _ e_2 _ B G=>?_
 obtain⟨y,hy,G⟩:=Ak G
 refine Cm (rd:=[]) (ps:=[]) (gs:=[]) false (Nn rfl rfl h5) rfl (hf_cmp e e_2 _ hy) rfl rfl (.cons (.agg (.cons .val (.cons .val (.cons .val (.cons .val (.cons .val (.cons .val (.cons .val (.cons .val (.cons .val (.cons .val (.cons .val .nil)))))))))))) (.cons (.agg (.cons .val (.cons .val (.cons .val (.cons .val (.cons .val (.cons .val (.cons .val (.cons .val (.cons .val (.cons .val (.cons .val .nil)))))))))))) .nil)) rfl rfl (by intro h; cases h) rfl rfl rfl rfl ?_
 exact Cf
 rintro x34_3 G
 unfold Ao.j3 at G
 refine D4 (.r 0 (.e 3)) fun _ B G=>?_
 refine Bb (Df _ _ []) (by kernel_rfl) [0,0,0,0,8,0,0,64,224,480,0,0,3072,7168,16355,32739,65535,131071] 1 145 Ji rfl rfl (by kernel_rfl) ?_
 refine Bt 4 fun e_3 _ e_4 he_4 B G=>?_
 refine Vn I8 he_4 (x':=e_3) ?_
 refine Bt 1 fun _ he_5 B G=>?_
 refine Vn I8 he_5 (x':=e_4) ?_
 exact Cf
theorem F5 {data:List Aa} {lo:Int} {hi:Int} {first:Int} {cmp:Aa->Aa->Option (Int)} (hf_cmp:∀ (x0:Aa) (x1:Aa) (y:Int),cmp x0 x1=some y->Fn Tryz.prog 104 0 [.agg (Aa.dv x0),.agg (Aa.dv x1)] [] (fun d' b'=>d'=vk y/\b'=[])) {r:(List Aa)} (G:An data lo hi first cmp=some r):Fn Tryz.prog 186 1 [.row 0,vk lo,vk hi,vk first,.clo 104 0 []] [.row 26 11 (Aj Aa.enc data)] (fun d' b'=>d'=.tup []/\b'=[.row 26 11 (Aj Aa.enc r)]):=by
 unfold An at G
 refine Dx 1 82 Tryz.func186 fun _ _ _=>?_
 refine Bt 2 fun B G=>?_
 refine G7 (fun ((root_1,data_1):Int×List Aa)=>mk [(0,.row 0),(2,vk hi),(3,vk first),(4,.clo 104 0 []),(10,vk root_1)] [(0,.row 26 11 (Aj Aa.enc data_1))] 1) G (B9 [(0,0)]) ?_
 rintro⟨root_1,data_1⟩ m1 o1 G hn1
 unfold An.l1 at G
 refine D4 (.l 4 (.e 1)) fun _ B G=>?_
 refine Ba (ι:=Int) (fun (child_3:Int)=>mk [(0,.row 0),(2,vk hi),(3,vk first),(4,.clo 104 0 []),(10,vk root_1),(11,vk child_3)] [(0,.row 26 11 (Aj Aa.enc data_1))] 1) (fun (child_3:Int)=>An.j3 first cmp root_1 data_1 child_3=some o1) ?_ ?_
 refine Ba (ι:=Bool) (fun (x40_2:Bool)=>mk [(0,.row 0),(2,vk hi),(3,vk first),(4,.clo 104 0 []),(10,vk root_1),(11,.val (.int .i64 (W ((W (2 * root_1)) + 1)))),(40,.val (.bool x40_2))] [(0,.row 26 11 (Aj Aa.enc data_1))] 1) (fun (x40_2:Bool)=>An.j2 first cmp root_1 data_1 x40_2=some o1) ?_ ?_
 refine Bb (Df _ _ []) (by kernel_rfl) [0,1,0,7,15,31,31,31,31,415,991,2015,31,31,31,24607,57375,127007,258079,524287,1048575,2097151] 57 233 B rfl rfl (by kernel_rfl) ?_
 refine Md (.r 0 (.e 4)) fun h5 e _ e_2 _ B G=>?_
 obtain⟨y,hy,G⟩:=Ak G
 refine Cm (rd:=[]) (ps:=[]) (gs:=[]) false (Nn rfl rfl h5) rfl (hf_cmp e e_2 _ hy) rfl rfl (.cons (.agg (.cons .val (.cons .val (.cons .val (.cons .val (.cons .val (.cons .val (.cons .val (.cons .val (.cons .val (.cons .val (.cons .val .nil)))))))))))) (.cons (.agg (.cons .val (.cons .val (.cons .val (.cons .val (.cons .val (.cons .val (.cons .val (.cons .val (.cons .val (.cons .val (.cons .val .nil)))))))))))) .nil)) rfl rfl (by intro h; cases h) rfl rfl rfl rfl ?_
 exact Cf
 rintro x40_2 G
 unfold An.j2 at G
 exact Hf
 rintro child_3 G
 unfold An.j3 at G
 try dsimp only at G
 refine R3 rfl ?_
 refine Au <| Au <| Bb (Df _ _ []) (by kernel_rfl) [0,0,0,0,12,30,62,0,0,0,768,1920,3968,8191,16383,32767] 1 129 Ji rfl rfl (by kernel_rfl) ?_
 refine Bt 4 fun e_3 he_3 e_4 he_4 B G=>?_
 obtain⟨y_2,hy_2,G⟩:=Ak G
 refine Cm (rd:=[]) (ps:=[]) (gs:=[]) false rfl rfl (hf_cmp e_3 e_4 _ hy_2) rfl rfl (.cons (.agg (.cons .val (.cons .val (.cons .val (.cons .val (.cons .val (.cons .val (.cons .val (.cons .val (.cons .val (.cons .val (.cons .val .nil)))))))))))) (.cons (.agg (.cons .val (.cons .val (.cons .val (.cons .val (.cons .val (.cons .val (.cons .val (.cons .val (.cons .val (.cons .val (.cons .val .nil)))))))))))) .nil)) rfl rfl (by intro h; cases h) rfl rfl rfl rfl ?_
 refine Bt 0 fun B G=>?_
 refine Jf rfl G (fun _ G=>?_) fun _ G=>?_
 refine iZ ?_
 refine rp_ ?_
 exact Cf
 refine Bt 1 fun B G=>?_
 refine Au <| Bb (Df _ _ []) (by kernel_rfl) [0,0,0,6,0,0,0,96,0,0,0,1536,3840,7936,0,0,0,98304,245760,507904,1048335,2096911,4194303,8388607] 129 321 B rfl rfl (by kernel_rfl) ?_
 refine Bt 2 fun B G=>?_
 refine Vn I8 he_3 (x':=e_4) ?_
 refine Bt 1 fun _ he_5 B G=>?_
 refine Vn I8 he_5 (x':=e_3) ?_
 exact Cf
theorem Jg {data:List Aa} {a:Int} {b:Int} {cmp:Aa->Aa->Option (Int)} (hf_cmp:∀ (x0:Aa) (x1:Aa) (y:Int),cmp x0 x1=some y->Fn Tryz.prog 104 0 [.agg (Aa.dv x0),.agg (Aa.dv x1)] [] (fun d' b'=>d'=vk y/\b'=[])) {r:(List Aa)} (G:Az data a b cmp=some r):Fn Tryz.prog 162 1 [.row 0,vk a,vk b,.clo 104 0 []] [.row 26 11 (Aj Aa.enc data)] (fun d' b'=>d'=.tup []/\b'=[.row 26 11 (Aj Aa.enc r)]):=by
 unfold Az at G
 refine Dx 1 60 Tryz.func162 fun _ _ _=>?_
 refine Bt 7 fun _ _ B G=>?_
 refine G7 (fun ((i_1,data_1):Int×List Aa)=>mk [(0,.row 0),(3,.clo 104 0 []),(8,vk a),(9,.val (.int .i64 0)),(10,.val (.int .i64 (W (b - a)))),(11,vk i_1)] [(0,.row 26 11 (Aj Aa.enc data_1))] 1) G (B9 [(0,0)]) ?_
 rintro⟨i_1,data_1⟩ m1 o1 G hn1
 unfold Az.l1 at G
 refine I9 2 fun B G=>?_
 refine Jf rfl G (fun _ G=>?_) fun _ G=>?_
 refine Bt 4 fun B G=>?_
 obtain⟨y,hy,G⟩:=Ak G
 refine P5 [0] [0] [] false (@F5 data_1 i_1 (W (b - a)) a cmp hf_cmp _ hy) ?_
 exact Cf
 refine Bt 3 fun B G=>?_
 refine G7 (fun ((i_2,data_2):Int×List Aa)=>mk [(0,.row 0),(3,.clo 104 0 []),(8,vk a),(9,.val (.int .i64 0)),(12,vk i_2)] [(0,.row 26 11 (Aj Aa.enc data_2))] 1) G (B9 [(0,0)]) ?_
 rintro⟨i_2,data_2⟩ m2 o2 G hn2
 unfold Az.l2 at G
 refine D4 (.r 2 (.e 3)) fun _ B G=>?_
 refine Au <| Bb (Df _ _ []) (by kernel_rfl) [0,0,0,0,0,24,0,0,0,384,960,1984,0,0,12288,28672,65475,131011,262143,524287] 17 177 B rfl rfl (by kernel_rfl) ?_
 refine Bt 4 fun e _ e_2 he_2 B G=>?_
 refine Vn I8 he_2 (x':=e) ?_
 refine Bt 1 fun _ he_3 B G=>?_
 refine Vn I8 he_3 (x':=e_2) ?_
 refine Bt 1 fun B G=>?_
 obtain⟨y_2,hy_2,G⟩:=Ak G
 refine P5 [0] [0] [] false (@F5 (C3 (C3 data_2 ((a).toNat) e) ((W (a + i_2)).toNat) e_2) 0 i_2 a cmp hf_cmp _ hy_2) ?_
 exact Cf
theorem R1 {length r} (G:Gj length=some r):Fn Tryz.prog 187 0 [vk length] [] (fun d' b'=>d'=.val (.int .u64 r)/\b'=[]):=by
 unfold Gj at G
 refine Dx 0 7 Tryz.func187 fun _ _ _=>?_
 exact Cf
instance aOy:Wk 187:=⟨_,@R1⟩
theorem Sv {r' r} (G:G2 r'=some r):Fn Tryz.prog 188 1 [.ptr 0 0] [.box [.val (.int .u64 r')] 215] (fun d' b'=>d'=.val (.int .u64 r.1)/\b'=[.box [.val (.int .u64 r.2)] 215]):=by
 unfold G2 at G
 refine Dx 1 33 Tryz.func188 fun _ _ _=>?_
 refine Bt 1 fun B G=>?_
 refine Au <| Bb (Df _ _ []) (by kernel_rfl) [0,1,3,0,8,24,56,127,255,511] 9 89 B rfl rfl (by kernel_rfl) ?_
 refine Bt 2 fun _ _ B G=>?_
 refine Au <| Bb (Df _ _ []) (by kernel_rfl) [0,1,3,0,8,24,56,127,255,511] 89 169 B rfl rfl (by kernel_rfl) ?_
 refine Bt 2 fun _ _ B G=>?_
 refine Au <| Bb (Df _ _ []) (by kernel_rfl) [0,1,3,0,8,24,56,127,255,511] 169 249 B rfl rfl (by kernel_rfl) ?_
 exact Cf
instance aNj:Wk 188:=⟨_,@Sv⟩
theorem Ig {data:List Aa} {a:Int} {b:Int} {cmp:Aa->Aa->Option (Int)} (hf_cmp:∀ (x0:Aa) (x1:Aa) (y:Int),cmp x0 x1=some y->Fn Tryz.prog 104 0 [.agg (Aa.dv x0),.agg (Aa.dv x1)] [] (fun d' b'=>d'=vk y/\b'=[])) {r:(List Aa)} (G:Aw data a b cmp=some r):Fn Tryz.prog 163 1 [.row 0,vk a,vk b,.clo 104 0 []] [.row 26 11 (Aj Aa.enc data)] (fun d' b'=>d'=.tup []/\b'=[.row 26 11 (Aj Aa.enc r)]):=by
 unfold Aw at G
 refine Dx 1 67 Tryz.func163 fun _ _ _=>?_
 refine Md (.r 2 (.e 7)) fun _ y _ _ _ B G=>?_
 refine G7 (fun ((idx_1,data_1,random_1):Int×List Aa×Int)=>mk [(0,.row 0),(1,vk a),(8,.val (.int .i64 (W (b - a)))),(9,.ptr 1 0),(10,.val (.int .u64 y)),(11,vk idx_1)] [(0,.row 26 11 (Aj Aa.enc data_1)),(1,.box [.val (.int .u64 random_1)] 215)] 2) G (B9 [(0,0),(1,65)]) ?_
 rintro⟨idx_1,data_1,random_1⟩ m1 o1 G hn1
 unfold Aw.l1 at G
 refine D4 (.r 3 (.e 8)) fun _ _ _ y_2 _ B G=>?_
 refine Ba (ι:=Int) (fun (other_2:Int)=>mk [(0,.row 0),(1,vk a),(8,.val (.int .i64 (W (b - a)))),(9,.ptr 1 0),(10,.val (.int .u64 y)),(11,vk idx_1),(12,vk other_2)] [(0,.row 26 11 (Aj Aa.enc data_1)),(1,.box [.val (.int .u64 y_2.2)] 215)] 2) (fun (other_2:Int)=>Aw.j2 a idx_1 data_1 y_2 other_2=some o1) ?_ ?_
 exact Cf
 rintro other_2 G
 unfold Aw.j2 at G
 try dsimp only at G
 refine R3 rfl ?_
 refine Bb (Df _ _ []) (by kernel_rfl) [0,0,0,0,0,24,0,0,0,384,960,1984,0,0,12288,28672,65475,131011,262143,524287] 2 162 Ji rfl rfl (by kernel_rfl) ?_
 refine Bt 4 fun e _ e_2 he_2 B G=>?_
 refine Vn I8 he_2 (x':=e) ?_
 refine Bt 1 fun _ he_3 B G=>?_
 refine Vn I8 he_3 (x':=e_2) ?_
 exact Cf
theorem E2 {data:(List Aa)} {a:Int} {b:Int} {swaps:Int} {cmp:Aa->Aa->Option (Int)} (hf_cmp:∀ (x0:Aa) (x1:Aa) (y:Int),cmp x0 x1=some y->Fn Tryz.prog 104 0 [.agg (Aa.dv x0),.agg (Aa.dv x1)] [] (fun d' b'=>d'=vk y/\b'=[])) {r:Int×Int×Int} (G:C8 data a b swaps cmp=some r):Fn Tryz.prog 193 1 [.sl 11 (Aj Aa.enc data),vk a,vk b,.ptr 0 0,.clo 104 0 []] [.box [vk swaps] 3] (fun d' b'=>d'=.tup [vk r.1,vk r.2.1]/\b'=[.box [vk r.2.2] 3]):=by
 unfold C8 at G
 refine Dx 1 32 Tryz.func193 fun _ _ _=>?_
 refine Bt 1 fun B G=>?_
 refine Au <| Au <| Bb (Df _ _ []) (by kernel_rfl) [0,0,0,6,14,0,0,96,224,511,1023] 17 105 B rfl rfl (by kernel_rfl) ?_
 refine Bt 4 fun e _ e_2 _ B G=>?_
 obtain⟨y,hy,G⟩:=Ak G
 refine Cm (rd:=[]) (ps:=[]) (gs:=[]) false rfl rfl (hf_cmp e e_2 _ hy) rfl rfl (.cons (.agg (.cons .val (.cons .val (.cons .val (.cons .val (.cons .val (.cons .val (.cons .val (.cons .val (.cons .val (.cons .val (.cons .val .nil)))))))))))) (.cons (.agg (.cons .val (.cons .val (.cons .val (.cons .val (.cons .val (.cons .val (.cons .val (.cons .val (.cons .val (.cons .val (.cons .val .nil)))))))))))) .nil)) rfl rfl (by intro h; cases h) rfl rfl rfl rfl ?_
 exact Cf
theorem Ge {data:(List Aa)} {a:Int} {b:Int} {c:Int} {swaps:Int} {cmp:Aa->Aa->Option (Int)} (hf_cmp:∀ (x0:Aa) (x1:Aa) (y:Int),cmp x0 x1=some y->Fn Tryz.prog 104 0 [.agg (Aa.dv x0),.agg (Aa.dv x1)] [] (fun d' b'=>d'=vk y/\b'=[])) {r:Int×Int} (G:Do data a b c swaps cmp=some r):Fn Tryz.prog 190 1 [.sl 11 (Aj Aa.enc data),vk a,vk b,vk c,.ptr 0 0,.clo 104 0 []] [.box [vk swaps] 3] (fun d' b'=>d'=vk r.1/\b'=[.box [vk r.2] 3]):=by
 unfold Do at G
 refine Dx 1 41 Tryz.func190 fun _ _ _=>?_
 refine Bt 2 fun B G=>?_
 obtain⟨y,hy,G⟩:=Ak G
 refine P5 [0] [0] [] false (@E2 data a b swaps cmp hf_cmp _ hy) ?_
 refine Bt 1 fun B G=>?_
 obtain⟨y_2,hy_2,G⟩:=Ak G
 refine P5 [0] [0] [] false (@E2 data y.2.1 c y.2.2 cmp hf_cmp _ hy_2) ?_
 refine Bt 1 fun B G=>?_
 obtain⟨y_3,hy_3,G⟩:=Ak G
 refine P5 [0] [0] [] false (@E2 data y.1 y_2.1 y_2.2.2 cmp hf_cmp _ hy_3) ?_
 exact Cf
theorem D6 {data:(List Aa)} {a:Int} {swaps:Int} {cmp:Aa->Aa->Option (Int)} (hf_cmp:∀ (x0:Aa) (x1:Aa) (y:Int),cmp x0 x1=some y->Fn Tryz.prog 104 0 [.agg (Aa.dv x0),.agg (Aa.dv x1)] [] (fun d' b'=>d'=vk y/\b'=[])) {r:Int×Int} (G:Cn data a swaps cmp=some r):Fn Tryz.prog 189 1 [.sl 11 (Aj Aa.enc data),vk a,.ptr 0 0,.clo 104 0 []] [.box [vk swaps] 3] (fun d' b'=>d'=vk r.1/\b'=[.box [vk r.2] 3]):=by
 unfold Cn at G
 refine Dx 1 18 Tryz.func189 fun _ _ _=>?_
 refine Bt 2 fun B G=>?_
 obtain⟨y,hy,G⟩:=Ak G
 refine P5 [0] [0] [] false (@Ge data (W (a - 1)) a (W (a + 1)) swaps cmp hf_cmp _ hy) ?_
 exact Cf
theorem It {data:(List Aa)} {a:Int} {b:Int} {cmp:Aa->Aa->Option (Int)} (hf_cmp:∀ (x0:Aa) (x1:Aa) (y:Int),cmp x0 x1=some y->Fn Tryz.prog 104 0 [.agg (Aa.dv x0),.agg (Aa.dv x1)] [] (fun d' b'=>d'=vk y/\b'=[])) {r:Int×Int} (G:A5 data a b cmp=some r):Fn Tryz.prog 164 0 [.sl 11 (Aj Aa.enc data),vk a,vk b,.clo 104 0 []] [] (fun d' b'=>d'=.tup [vk r.1,vk r.2]/\b'=[]):=by
 unfold A5 at G
 refine Dx 0 63 Tryz.func164 fun _ _ _=>?_
 refine Bt 9 fun q _ q_2 _ q_3 _ B G=>?_
 refine Ba (ι:=Int×Int) (fun ((j_2,swaps_2):Int×Int)=>mk [(11,.ptr 0 0),(13,vk j_2)] [(0,.box [vk swaps_2] 3)] 1) (fun ((j_2,swaps_2):Int×Int)=>A5.j2 j_2 swaps_2=some r) ?_ ?_
 refine Md (.r 1 (.e 0)) fun _ B G=>?_
 refine Ba (ι:=Int×Int×Int×Int) (fun ((i_1,j_1,k_1,swaps_1):Int×Int×Int×Int)=>mk [(0,.sl 11 (Aj Aa.enc data)),(3,.clo 104 0 []),(11,.ptr 0 0),(12,vk i_1),(13,vk j_1),(14,vk k_1)] [(0,.box [vk swaps_1] 3)] 1) (fun ((i_1,j_1,k_1,swaps_1):Int×Int×Int×Int)=>A5.j1 data cmp i_1 j_1 k_1 swaps_1=some r) ?_ ?_
 refine Md (.r 1 (.e 1)) fun _ B G=>?_
 obtain⟨y,hy,G⟩:=Ak G
 refine P5 [48] [48] [] false (@D6 data (W (a + (W (q * 1)))) 0 cmp hf_cmp _ hy) ?_
 refine Bt 1 fun B G=>?_
 obtain⟨y_2,hy_2,G⟩:=Ak G
 refine P5 [48] [48] [] false (@D6 data (W (a + (W (q_2 * 2)))) y.2 cmp hf_cmp _ hy_2) ?_
 refine Bt 1 fun B G=>?_
 obtain⟨y_3,hy_3,G⟩:=Ak G
 refine P5 [48] [48] [] false (@D6 data (W (a + (W (q_3 * 3)))) y_2.2 cmp hf_cmp _ hy_3) ?_
 exact Cf
 rintro⟨i_1,j_1,k_1,swaps_1⟩ G
 unfold A5.j1 at G
 refine I9 1 fun B G=>?_
 obtain⟨y_4,hy_4,G⟩:=Ak G
 refine P5 [0] [0] [] false (@Ge data i_1 j_1 k_1 swaps_1 cmp hf_cmp _ hy_4) ?_
 exact Cf
 rintro⟨j_2,swaps_2⟩ G
 unfold A5.j2 at G
 exact Hf
theorem Ir {data:List Aa} {a:Int} {b:Int} {cmp:Aa->Aa->Option (Int)} (hf_cmp:∀ (x0:Aa) (x1:Aa) (y:Int),cmp x0 x1=some y->Fn Tryz.prog 104 0 [.agg (Aa.dv x0),.agg (Aa.dv x1)] [] (fun d' b'=>d'=vk y/\b'=[])) {r:(List Aa)} (G:Bg data a b cmp=some r):Fn Tryz.prog 165 1 [.row 0,vk a,vk b,.clo 104 0 []] [.row 26 11 (Aj Aa.enc data)] (fun d' b'=>d'=.tup []/\b'=[.row 26 11 (Aj Aa.enc r)]):=by
 unfold Bg at G
 refine Dx 1 34 Tryz.func165 fun _ _ _=>?_
 refine Bt 3 fun B G=>?_
 refine G7 (fun ((i_1,j_1,data_1):Int×Int×List Aa)=>mk [(0,.row 0),(8,vk i_1),(9,vk j_1)] [(0,.row 26 11 (Aj Aa.enc data_1))] 1) G (B9 [(0,0)]) ?_
 rintro⟨i_1,j_1,data_1⟩ m1 o1 G hn1
 unfold Bg.l1 at G
 refine D4 (.r 2 (.e 2)) fun _ B G=>?_
 refine Au <| Bb (Df _ _ []) (by kernel_rfl) [0,0,0,0,0,0,48,112,0,0,768,1792,4083,8179,16383,32767] 25 153 B rfl rfl (by kernel_rfl) ?_
 refine Bt 4 fun e _ e_2 he_2 B G=>?_
 refine Vn I8 he_2 (x':=e) ?_
 refine Bt 1 fun _ he_3 B G=>?_
 refine Vn I8 he_3 (x':=e_2) ?_
 exact Cf
theorem G8 {data:List Aa} {a:Int} {b:Int} {cmp:Aa->Aa->Option (Int)} (hf_cmp:∀ (x0:Aa) (x1:Aa) (y:Int),cmp x0 x1=some y->Fn Tryz.prog 104 0 [.agg (Aa.dv x0),.agg (Aa.dv x1)] [] (fun d' b'=>d'=vk y/\b'=[])) {r:Bool×(List Aa)} (G:Ac data a b cmp=some r):Fn Tryz.prog 166 1 [.row 0,vk a,vk b,.clo 104 0 []] [.row 26 11 (Aj Aa.enc data)] (fun d' b'=>d'=.val (.bool r.1)/\b'=[.row 26 11 (Aj Aa.enc r.2)]):=by
 unfold Ac at G
 refine Dx 1 141 Tryz.func166 fun _ _ _=>?_
 refine Bt 5 fun B G=>?_
 refine G7 (fun ((i_1,j_1,data_1):Int×Int×List Aa)=>mk [(0,.row 0),(1,vk a),(2,vk b),(3,.clo 104 0 []),(9,vk i_1),(10,vk j_1)] [(0,.row 26 11 (Aj Aa.enc data_1))] 1) G (B9 [(0,0)]) ?_
 rintro⟨i_1,j_1,data_1⟩ m1 o1 G hn1
 unfold Ac.l1 at G
 refine D4 (.r 2 (.e 1)) fun _ B G=>?_
 refine Ba (ι:=Int×List Aa) (fun ((i_7,data_7):Int×List Aa)=>mk [(0,.row 0),(1,vk a),(2,vk b),(3,.clo 104 0 []),(9,vk i_7),(10,vk j_1)] [(0,.row 26 11 (Aj Aa.enc data_7))] 1) (fun ((i_7,data_7):Int×List Aa)=>Ac.j7 j_1 i_7 data_7=some o1) ?_ ?_
 refine Bt 3 fun B G=>?_
 refine G7 (fun (i_2:Int)=>mk [(0,.row 0),(1,vk a),(2,vk b),(3,.clo 104 0 []),(9,vk i_2),(10,vk j_1)] [(0,.row 26 11 (Aj Aa.enc data_1))] 1) G (B9 [(0,0)]) ?_
 rintro i_2 m2 o2 G hn2
 unfold Ac.l2 at G
 try dsimp only at G
 refine R3 rfl ?_
 refine Au <| Ba (ι:=Bool) (fun (x36_3:Bool)=>mk [(0,.row 0),(1,vk a),(2,vk b),(3,.clo 104 0 []),(9,vk i_2),(10,vk j_1),(36,.val (.bool x36_3))] [(0,.row 26 11 (Aj Aa.enc data_1))] 1) (fun (x36_3:Bool)=>Ac.j3 a b cmp j_1 data_1 i_2 x36_3=some o2) ?_ ?_
 refine Bb (Df _ _ []) (by kernel_rfl) [0,0,3,7,15,15,15,111,239,15,15,1039,3599,7695,16383,32767,65535,131071] 1 145 Ji rfl rfl (by kernel_rfl) ?_
 refine Md (.r 0 (.e 4)) fun h6 e _ e_2 _ B G=>?_
 obtain⟨y,hy,G⟩:=Ak G
 refine Cm (rd:=[]) (ps:=[]) (gs:=[]) false (Nn rfl rfl h6) rfl (hf_cmp e e_2 _ hy) rfl rfl (.cons (.agg (.cons .val (.cons .val (.cons .val (.cons .val (.cons .val (.cons .val (.cons .val (.cons .val (.cons .val (.cons .val (.cons .val .nil)))))))))))) (.cons (.agg (.cons .val (.cons .val (.cons .val (.cons .val (.cons .val (.cons .val (.cons .val (.cons .val (.cons .val (.cons .val (.cons .val .nil)))))))))))) .nil)) rfl rfl (by intro h; cases h) rfl rfl rfl rfl ?_
 exact Cf
 rintro x36_3 G
 unfold Ac.j3 at G
 refine D4 (.l 0 (.l 3 (.l 3 (.e 1)))) fun _ _ _ B G=>?_
 refine Au <| Bb (Df _ _ []) (by kernel_rfl) [0,0,0,0,8,0,0,64,224,480,0,0,3072,7168,16355,32739,65535,131071] 57 201 B rfl rfl (by kernel_rfl) ?_
 refine Bt 4 fun e_3 _ e_4 he_4 B G=>?_
 refine Vn I8 he_4 (x':=e_3) ?_
 refine Bt 1 fun _ he_5 B G=>?_
 refine Vn I8 he_5 (x':=e_4) ?_
 refine Bt 0 fun B G=>?_
 refine Ba (ι:=List Aa) (fun (data_5:List Aa)=>mk [(0,.row 0),(1,vk a),(2,vk b),(3,.clo 104 0 []),(9,vk i_2),(10,vk j_1)] [(0,.row 26 11 (Aj Aa.enc data_5))] 1) (fun (data_5:List Aa)=>Ac.j5 b cmp j_1 i_2 data_5=some o1) ?_ ?_
 refine Md (.r 1 (.e 2)) fun _ B G=>?_
 refine G7 (fun ((j_4,data_4):Int×List Aa)=>mk [(0,.row 0),(1,vk a),(2,vk b),(3,.clo 104 0 []),(9,vk i_2),(10,vk j_1),(11,vk j_4)] [(0,.row 26 11 (Aj Aa.enc data_4))] 1) G (B9 [(0,0)]) ?_
 rintro⟨j_4,data_4⟩ m4 o4 G hn4
 unfold Ac.l4 at G
 refine D4 (.r 2 (.e 3)) fun _ B G=>?_
 refine Au <| Au <| Bb (Df _ _ []) (by kernel_rfl) [0,0,0,6,14,0,0,64,224,480,1023,2047,4095] 17 121 B rfl rfl (by kernel_rfl) ?_
 refine Bt 4 fun e_6 he_6 e_7 he_7 B G=>?_
 obtain⟨y_2,hy_2,G⟩:=Ak G
 refine Cm (rd:=[]) (ps:=[]) (gs:=[]) false rfl rfl (hf_cmp e_6 e_7 _ hy_2) rfl rfl (.cons (.agg (.cons .val (.cons .val (.cons .val (.cons .val (.cons .val (.cons .val (.cons .val (.cons .val (.cons .val (.cons .val (.cons .val .nil)))))))))))) (.cons (.agg (.cons .val (.cons .val (.cons .val (.cons .val (.cons .val (.cons .val (.cons .val (.cons .val (.cons .val (.cons .val (.cons .val .nil)))))))))))) .nil)) rfl rfl (by intro h; cases h) rfl rfl rfl rfl ?_
 refine Md (.l 0 (.e 1)) fun _ B G=>?_
 refine Bb (Df _ _ []) (by kernel_rfl) [0,0,0,0,8,0,0,64,224,480,0,0,3072,7168,16355,32739,65535,131071] 121 265 B rfl rfl (by kernel_rfl) ?_
 refine Bt 2 fun B G=>?_
 refine Vn I8 he_6 (x':=e_7) ?_
 refine Bt 1 fun _ he_8 B G=>?_
 refine Vn I8 he_8 (x':=e_6) ?_
 exact Cf
 rintro data_5 G
 unfold Ac.j5 at G
 refine D4 (.r 1 (.e 2)) fun _ B G=>?_
 refine G7 (fun ((j_6,data_6):Int×List Aa)=>mk [(0,.row 0),(1,vk a),(2,vk b),(3,.clo 104 0 []),(9,vk i_2),(10,vk j_1),(12,vk j_6)] [(0,.row 26 11 (Aj Aa.enc data_6))] 1) G (B9 [(0,0)]) ?_
 rintro⟨j_6,data_6⟩ m6 o6 G hn6
 unfold Ac.l6 at G
 refine D4 (.r 2 (.e 3)) fun _ B G=>?_
 refine Au <| Au <| Bb (Df _ _ []) (by kernel_rfl) [0,0,0,6,14,0,0,64,224,480,1023,2047,4095] 25 129 B rfl rfl (by kernel_rfl) ?_
 refine Bt 4 fun e_9 he_9 e_10 he_10 B G=>?_
 obtain⟨y_3,hy_3,G⟩:=Ak G
 refine Cm (rd:=[]) (ps:=[]) (gs:=[]) false rfl rfl (hf_cmp e_9 e_10 _ hy_3) rfl rfl (.cons (.agg (.cons .val (.cons .val (.cons .val (.cons .val (.cons .val (.cons .val (.cons .val (.cons .val (.cons .val (.cons .val (.cons .val .nil)))))))))))) (.cons (.agg (.cons .val (.cons .val (.cons .val (.cons .val (.cons .val (.cons .val (.cons .val (.cons .val (.cons .val (.cons .val (.cons .val .nil)))))))))))) .nil)) rfl rfl (by intro h; cases h) rfl rfl rfl rfl ?_
 refine Md (.l 0 (.e 1)) fun _ B G=>?_
 refine Bb (Df _ _ []) (by kernel_rfl) [0,0,0,0,8,0,0,64,224,480,0,0,3072,7168,16355,32739,65535,131071] 129 273 B rfl rfl (by kernel_rfl) ?_
 refine Bt 2 fun B G=>?_
 refine Vn I8 he_9 (x':=e_10) ?_
 refine Bt 1 fun _ he_11 B G=>?_
 refine Vn I8 he_11 (x':=e_9) ?_
 exact Cf
 rintro⟨i_7,data_7⟩ G
 unfold Ac.j7 at G
 exact Hf
end Go.Proofs.YtbpchmikjiinpaaGreat
