import Derived.Test.YtkioneinddihlaaGreatT1
import Derived.Test.YtkioneinddihlaaGreatEU
import Derived.Test.YtkioneinddihlaaGreatA3
import Derived.Test.YtkioneinddihlaaGreatA4
import Derived.Test.YtkioneinddihlaaGreatA6
import Derived.Test.YtkioneinddihlaaGreatA10
set_option linter.unusedVariables false
set_option linter.unusedSimpArgs false
set_option maxRecDepth 100000
set_option maxHeartbeats 40000000
namespace Go.Proofs.YtkioneinddihlaaGreat
open Go.RowKit
theorem aI {e r} (G:Bb e=some r):Fn Tryz.prog 69 0 [.agg (Al.dv e)] [] (fun d' b'=>d'=vk r/\b'=[]):=by
 unfold Bb at G
 refine Ez 0 176 Tryz.func69 fun _ _ _=>?_
 refine B7 1 fun B G=>?_
 refine A8 <| A6 (ι:=Bool) (fun (x47_1:Bool)=>mk [(1,.ptr 0 0),(47,.val (.bool x47_1))] [(0,.box (Al.dv e) 59)] 1) (fun (x47_1:Bool)=>Bb.j1 e x47_1=some r) ?_ ?_
 exact C1
 rintro x47_1 G
 unfold Bb.j1 at G
 refine Dl (.l 0 (.e 4)) fun _ B G=>?_
 refine Gc (fun (i_2:Int)=>mk [(1,.ptr 0 0),(3,vk i_2)] [(0,.box (Al.dv e) 59)] 1) G (B9 [(0,0)]) ?_
 rintro i_2 m2 o2 G hn2
 unfold Bb.l2 at G
 refine Iw 2 fun B G=>?_
 refine Ja rfl G (fun _ G=>?_) fun _ G=>?_
 refine B7 7 fun _ he_2 _ _ B G=>?_
 refine A6 (ι:=Bool) (fun (x77_3:Bool)=>mk [(1,.ptr 0 0),(3,vk i_2),(77,.val (.bool x77_3))] [(0,.box (Al.dv e) 59)] 1) (fun (x77_3:Bool)=>Bb.j3 i_2 x77_3=some o2) ?_ ?_
 refine Bn (Dx _ _ []) (by kernel_rfl) [0,1,3,7,15,7,63,7,135,7,903,1927,4095,8191] 137 249 B rfl rfl (by kernel_rfl) ?_
 exact C1
 rintro x77_3 G
 unfold Bb.j3 at G
 exact F0
 refine B7 4 fun B G=>?_
 refine Gc (fun (i_4:Int)=>mk [(1,.ptr 0 0),(6,vk i_4)] [(0,.box (Al.dv e) 59)] 1) G (B9 [(0,0)]) ?_
 rintro i_4 m4 o4 G hn4
 unfold Bb.l4 at G
 refine Iw 2 fun B G=>?_
 refine Ja rfl G (fun _ G=>?_) fun _ G=>?_
 refine B7 3 fun B G=>?_
 refine A8 <| Bn (Dx _ _ []) (by kernel_rfl) [0,1,0,7,15,31,0,64,0,448,960,1984,0,4096,0,28672,61440,126976,262143,524287] 41 201 B rfl rfl (by kernel_rfl) ?_
 exact C1
 refine B7 4 fun B G=>?_
 refine Gc (fun (i_5:Int)=>mk [(1,.ptr 0 0),(7,vk i_5)] [(0,.box (Al.dv e) 59)] 1) G (B9 [(0,0)]) ?_
 rintro i_5 m5 o5 G hn5
 unfold Bb.l5 at G
 refine Iw 2 fun B G=>?_
 refine Ja rfl G (fun _ G=>?_) fun _ G=>?_
 refine B7 3 fun B G=>?_
 refine A6 (ι:=Bool) (fun (x143_6:Bool)=>mk [(1,.ptr 0 0),(7,vk i_5),(143,.val (.bool x143_6))] [(0,.box (Al.dv e) 59)] 1) (fun (x143_6:Bool)=>Bb.j6 i_5 x143_6=some o5) ?_ ?_
 refine Bn (Dx _ _ []) (by kernel_rfl) [0,1,0,7,15,31,63,127,255,127,1023,2047,4095,8191,16383,32767,65535,131071,262143,524287,262143,1310719,4194303,8388607,262143,17039359,262143,117702655,251920383,536870911,1073741823,2147483647] 41 297 B rfl rfl (by kernel_rfl) ?_
 exact C1
 rintro x143_6 G
 unfold Bb.j6 at G
 exact F0
 refine B7 4 fun B G=>?_
 refine Gc (fun (i_7:Int)=>mk [(1,.ptr 0 0),(8,vk i_7)] [(0,.box (Al.dv e) 59)] 1) G (B9 [(0,0)]) ?_
 rintro i_7 m7 o7 G hn7
 unfold Bb.l7 at G
 refine Dl (.r 2 (.e 3)) fun _ B G=>?_
 refine A6 (ι:=Bool) (fun (x175_8:Bool)=>mk [(1,.ptr 0 0),(8,vk i_7),(175,.val (.bool x175_8))] [(0,.box (Al.dv e) 59)] 1) (fun (x175_8:Bool)=>Bb.j8 i_7 x175_8=some o7) ?_ ?_
 refine Bn (Dx _ _ []) (by kernel_rfl) [0,1,0,7,15,31,63,127,255,511,1023,2047,4095,2047,10239,32767,65535,2047,133119,2047,919551,1968127,4194303,8388607,16777215] 41 241 B rfl rfl (by kernel_rfl) ?_
 exact C1
 rintro x175_8 G
 unfold Bb.j8 at G
 exact F0
instance aM8:Wk 69:=⟨_,@aI⟩
theorem aS {x' r} (G:Br x'=some r):Fn Tryz.prog 70 0 [.agg (Bp.dv x')] [] (fun d' b'=>d'=vk r/\b'=[]):=by
 unfold Br at G
 refine Ez 0 108 Tryz.func70 fun _ _ _=>?_
 refine B7 1 fun B G=>?_
 refine A8 <| A6 (ι:=Bool) (fun (x54_1:Bool)=>mk [(1,.ptr 0 0),(54,.val (.bool x54_1))] [(0,.box (Bp.dv x') 79)] 1) (fun (x54_1:Bool)=>Br.j1 x' x54_1=some r) ?_ ?_
 refine Bn (Dx _ _ []) (by kernel_rfl) [0,1,3,7,15,31,63,127,255,511,1023,2047,4095,8191,16383,32767,65535,131071,262143,524287,1048575,2097151,4194303,8388607,16777215,33554431,67108863,134217727,268435455,536870911,1073741823,2147483647,4294967295,8589934591,17179869183,34359738367,68719476735,137438953471,274877906943,549755813887,1099511627775,2199023255551,4398046511103,8796093022207,4398046511103,21990232555519,57174604644351,127543348822015,268280837177343,562949953421311,1125899906842623] 16 424 B rfl rfl (by kernel_rfl) ?_
 exact C1
 rintro x54_1 G
 unfold Br.j1 at G
 refine Dl (.l 0 (.e 4)) fun _ B G=>?_
 refine Gc (fun (i_2:Int)=>mk [(1,.ptr 0 0),(3,vk i_2)] [(0,.box (Bp.dv x') 79)] 1) G (B9 [(0,0)]) ?_
 rintro i_2 m2 o2 G hn2
 unfold Br.l2 at G
 refine Dl (.r 2 (.e 3)) fun _ B G=>?_
 refine A6 (ι:=Bool) (fun (x107_3:Bool)=>mk [(1,.ptr 0 0),(3,vk i_2),(107,.val (.bool x107_3))] [(0,.box (Bp.dv x') 79)] 1) (fun (x107_3:Bool)=>Br.j3 i_2 x107_3=some o2) ?_ ?_
 refine Bn (Dx _ _ []) (by kernel_rfl) [0,1,0,7,15,31,63,127,255,511,1023,511,4095,8191,16383,32767,65535,131071,262143,524287,262143,2097151,4194303,8388607,16777215,33554431,67108863,134217727,268435455,536870911,1073741823,2147483647,1073741823,5368709119,17179869183,34359738367,68719476735,1073741823,138512695295,1073741823,963146416127,2062658043903,4261681299455,8796093022207,17592186044415,35184372088831] 41 409 B rfl rfl (by kernel_rfl) ?_
 exact C1
 rintro x107_3 G
 unfold Br.j3 at G
 exact F0
instance aMy:Wk 70:=⟨_,@aS⟩
theorem aY {e r} (G:Bd e=some r):Fn Tryz.prog 43 0 [.agg (An.dv e)] [] (fun d' b'=>d'=vk r/\b'=[]):=by
 unfold Bd at G
 refine Ez 0 152 Tryz.func43 fun _ _ _=>?_
 refine B7 1 fun B G=>?_
 refine A8 <| A6 (ι:=Bool) (fun (x22_1:Bool)=>mk [(1,.ptr 0 0),(22,.val (.bool x22_1))] [(0,.box (An.dv e) 34)] 1) (fun (x22_1:Bool)=>Bd.j1 e x22_1=some r) ?_ ?_
 exact C1
 rintro x22_1 G
 unfold Bd.j1 at G
 refine Dl (.l 0 (.e 4)) fun _ B G=>?_
 refine Gc (fun (i_2:Int)=>mk [(1,.ptr 0 0),(3,vk i_2)] [(0,.box (An.dv e) 34)] 1) G (B9 [(0,0)]) ?_
 rintro i_2 m2 o2 G hn2
 unfold Bd.l2 at G
 refine Iw 2 fun B G=>?_
 refine Ja rfl G (fun _ G=>?_) fun _ G=>?_
 refine B7 3 fun B G=>?_
 refine A6 (ι:=Bool) (fun (x56_3:Bool)=>mk [(1,.ptr 0 0),(3,vk i_2),(56,.val (.bool x56_3))] [(0,.box (An.dv e) 34)] 1) (fun (x56_3:Bool)=>Bd.j3 i_2 x56_3=some o2) ?_ ?_
 refine Bn (Dx _ _ []) (by kernel_rfl) [0,1,0,7,15,31,63,127,255,511,1023,2047,4095,2047,10239,32767,65535,131071,2047,264191,2047,1837055,3934207,8128511,16777215,33554431,67108863] 41 257 B rfl rfl (by kernel_rfl) ?_
 exact C1
 rintro x56_3 G
 unfold Bd.j3 at G
 exact F0
 refine B7 4 fun B G=>?_
 refine Gc (fun (i_4:Int)=>mk [(1,.ptr 0 0),(4,vk i_4)] [(0,.box (An.dv e) 34)] 1) G (B9 [(0,0)]) ?_
 rintro i_4 m4 o4 G hn4
 unfold Bd.l4 at G
 refine Iw 2 fun B G=>?_
 refine Ja rfl G (fun _ G=>?_) fun _ G=>?_
 refine B7 6 fun e_4 _ B G=>?_
 refine A8 <| A6 (ι:=Bool) (fun (x99_5:Bool)=>mk [(1,.ptr 0 0),(4,vk i_4),(5,.ptr 1 0),(99,.val (.bool x99_5))] [(0,.box (An.dv e) 34),(1,.box [vk e_4.Client,vk e_4.Server] 76)] 2) (fun (x99_5:Bool)=>Bd.j5 e i_4 e_4 x99_5=some o4) ?_ ?_
 exact C1
 rintro x99_5 G
 unfold Bd.j5 at G
 refine Dl (.l 0 (.e 1)) fun _ B G=>?_
 refine A6 (ι:=Bool) (fun (x137_6:Bool)=>mk [(1,.ptr 0 0),(4,vk i_4),(137,.val (.bool x137_6))] [(0,.box (An.dv e) 34)] 1) (fun (x137_6:Bool)=>Bd.j6 i_4 x137_6=some o4) ?_ ?_
 refine Bn (Dx _ _ []) (by kernel_rfl) [0,1,3,7,15,7,39,127,255,511,7,1031,4095,8191,16383,32767,16383,81919,262143,524287,1048575,16383,2113535,8388607,16777215,33554431,67108863,33554431,167772159,536870911,1073741823,2147483647,33554431,4328521727,17179869183,34359738367,68719476735,137438953471] 2 306 Ha rfl rfl (by kernel_rfl) ?_
 exact C1
 rintro x137_6 G
 unfold Bd.j6 at G
 exact F0
 refine B7 4 fun B G=>?_
 refine Gc (fun (i_7:Int)=>mk [(1,.ptr 0 0),(6,vk i_7)] [(0,.box (An.dv e) 34)] 1) G (B9 [(0,0)]) ?_
 rintro i_7 m7 o7 G hn7
 unfold Bd.l7 at G
 exact F0
instance aMg:Wk 43:=⟨_,@aY⟩
end Go.Proofs.YtkioneinddihlaaGreat
