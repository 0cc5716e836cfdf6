import Derived.Test.YtkioneinddihlaaGreatT1
import Derived.Test.YtkioneinddihlaaGreatEU
import Derived.Test.YtkioneinddihlaaGreatA10
import Derived.Test.YtkioneinddihlaaGreatA11
set_option linter.unusedVariables false
set_option linter.unusedSimpArgs false
set_option maxRecDepth 100000
set_option maxHeartbeats 40000000
namespace Go.Proofs.YtkioneinddihlaaGreat
open Go.RowKit
theorem Zz {e a b r} (G:Di e a b=some r):Fn Tryz.prog 44 0 [.agg (An.dv e),vk a,vk b] [] (fun d' b'=>d'=.val (.bool r)/\b'=[]):=by
 unfold Di at G
 refine Ez 0 42 Tryz.func44 fun _ _ _=>?_
 refine Jv (.l 3 (.e 4)) fun _ B G=>?_
 refine Gc (fun (x15_1:Int)=>mk [(1,vk a),(2,vk b),(13,.sl 2 (Ak Aw.enc e.Edges)),(14,.val (.int .i64 (e.Edges.length:Int))),(15,vk x15_1)] [] 0) G (B9 []) ?_
 rintro x15_1 m1 o1 G hn1
 unfold Di.l1 at G
 refine Dl (.r 2 (.e 6)) fun _ e_2 _ B G=>?_
 refine A6 (ι:=Bool) (fun (x40_2:Bool)=>mk [(1,vk a),(2,vk b),(13,.sl 2 (Ak Aw.enc e.Edges)),(14,.val (.int .i64 (e.Edges.length:Int))),(15,vk x15_1),(40,.val (.bool x40_2))] [] 0) (fun (x40_2:Bool)=>Di.j2 x15_1 x40_2=some o1) ?_ ?_
 exact C1
 rintro x40_2 G
 unfold Di.j2 at G
 exact F0
instance aNk:Wk 44:=⟨_,@Zz⟩
theorem dA {e c r} (G:Ek e c=some r):Fn Tryz.prog 21 0 [.agg (Al.dv e),.agg (Ae.dv c)] [] (fun d' b'=>d'=vk r/\b'=[]):=by
 unfold Ek at G
 refine Ez 0 34 Tryz.func21 fun _ _ _=>?_
 refine B7 4 fun B G=>?_
 refine A6 (ι:=Bool) (fun (x7_1:Bool)=>mk [(2,.ptr 0 0),(3,.ptr 1 0),(6,vk c.Kind),(7,.val (.bool x7_1))] [(0,.box (Al.dv e) 59),(1,.box (Ae.dv c) 45)] 2) (fun (x7_1:Bool)=>Ek.j1 e c x7_1=some r) ?_ ?_
 exact C1
 rintro x7_1 G
 unfold Ek.j1 at G
 refine Dl (.l 0 (.l 1 (.e 0))) fun _ _ B G=>?_
 refine A6 (ι:=Bool) (fun (x12_2:Bool)=>mk [(2,.ptr 0 0),(3,.ptr 1 0),(6,vk c.Kind),(12,.val (.bool x12_2))] [(0,.box (Al.dv e) 59),(1,.box (Ae.dv c) 45)] 2) (fun (x12_2:Bool)=>Ek.j2 e c x12_2=some r) ?_ ?_
 exact C1
 rintro x12_2 G
 unfold Ek.j2 at G
 exact F0
instance aLy:Wk 21:=⟨_,@dA⟩
theorem Zq {e l r} (G:Bi e l=some r):Fn Tryz.prog 14 0 [.agg (An.dv e),.sl 8 (Ak Ae.enc l)] [] (fun d' b'=>d'=.tup [.sl 2 (Ak Ac.enc r.1),vk r.2]/\b'=[]):=by
 unfold Bi at G
 refine Ez 0 85 Tryz.func14 fun _ _ _=>?_
 refine Jv (.l 4 (.l 3 (.e 4))) fun _ _ _ _ B G=>?_
 refine Gc (fun (x21_1:Int)=>mk [(1,.sl 8 (Ak Ae.enc l)),(2,.ptr 0 0),(19,.sl 8 (Ak Ae.enc l)),(20,.val (.int .i64 (l.length:Int))),(21,vk x21_1)] [(0,.box (An.dv e) 34)] 1) G (B9 [(0,0)]) ?_
 rintro x21_1 m1 o1 G hn1
 unfold Bi.l1 at G
 refine Iw 2 fun B G=>?_
 refine Ja rfl G (fun _ G=>?_) fun _ G=>?_
 refine B7 6 fun e_2 _ B G=>?_
 refine A6 (ι:=Bool) (fun (x35_2:Bool)=>mk [(1,.sl 8 (Ak Ae.enc l)),(2,.ptr 0 0),(19,.sl 8 (Ak Ae.enc l)),(20,.val (.int .i64 (l.length:Int))),(21,vk x21_1),(35,.val (.bool x35_2))] [(0,.box (An.dv e) 34)] 1) (fun (x35_2:Bool)=>Bi.j2 x21_1 x35_2=some o1) ?_ ?_
 exact C1
 rintro x35_2 G
 unfold Bi.j2 at G
 exact F0
 refine B7 5 fun B G=>?_
 refine Gc (fun ((x39_3,out_3):Int×List Ac)=>mk [(1,.sl 8 (Ak Ae.enc l)),(2,.ptr 0 0),(8,.row 1),(37,.sl 8 (Ak Ae.enc l)),(38,.val (.int .i64 (l.length:Int))),(39,vk x39_3)] [(0,.box (An.dv e) 34),(1,.row 25 2 (Ak Ac.enc out_3))] 2) G (B9 [(0,0)]) ?_
 rintro⟨x39_3,out_3⟩ m3 o3 G hn3
 unfold Bi.l3 at G
 refine Dl (.r 2 (.e 8)) fun _ e_3 _ B G=>?_
 refine Gc (fun ((x46_4,out_4):Int×List Ac)=>mk [(1,.sl 8 (Ak Ae.enc l)),(2,.ptr 0 0),(8,.row 1),(9,vk x39_3),(10,.ptr 2 0),(37,.sl 8 (Ak Ae.enc l)),(38,.val (.int .i64 (l.length:Int))),(39,vk x39_3),(44,.sl 8 (Ak Ae.enc l)),(45,.val (.int .i64 (l.length:Int))),(46,vk x46_4)] [(0,.box (An.dv e) 34),(1,.row 25 2 (Ak Ac.enc out_4)),(2,.box (Ae.dv e_3) 45)] 3) G (B9 [(0,0),(1,1),(2,34)]) ?_
 rintro⟨x46_4,out_4⟩ m4 o4 G hn4
 unfold Bi.l4 at G
 refine Dl (.r 2 (.e 1)) fun _ B G=>?_
 refine A6 (ι:=List Ac) (fun (out_6:List Ac)=>mk [(1,.sl 8 (Ak Ae.enc l)),(2,.ptr 0 0),(8,.row 1),(9,vk x39_3),(10,.ptr 2 0),(37,.sl 8 (Ak Ae.enc l)),(38,.val (.int .i64 (l.length:Int))),(39,vk x39_3),(44,.sl 8 (Ak Ae.enc l)),(45,.val (.int .i64 (l.length:Int))),(46,vk x46_4)] [(0,.box (An.dv e) 34),(1,.row 25 2 (Ak Ac.enc out_6)),(2,.box (Ae.dv e_3) 45)] 3) (fun (out_6:List Ac)=>Bi.j6 x46_4 out_6=some o4) ?_ ?_
 refine B7 4 fun _ _ B G=>?_
 refine A6 (ι:=Bool) (fun (x75_5:Bool)=>mk [(1,.sl 8 (Ak Ae.enc l)),(2,.ptr 0 0),(8,.row 1),(9,vk x39_3),(10,.ptr 2 0),(11,vk x46_4),(37,.sl 8 (Ak Ae.enc l)),(38,.val (.int .i64 (l.length:Int))),(39,vk x39_3),(44,.sl 8 (Ak Ae.enc l)),(45,.val (.int .i64 (l.length:Int))),(46,vk x46_4),(75,.val (.bool x75_5))] [(0,.box (An.dv e) 34),(1,.row 25 2 (Ak Ac.enc out_4)),(2,.box (Ae.dv e_3) 45)] 3) (fun (x75_5:Bool)=>Bi.j5 x39_3 x46_4 out_4 x75_5=some o4) ?_ ?_
 refine Bn (Dx _ _ []) (by kernel_rfl) [0,0,2,0,8,31,63,127,255,127,639,2047,4095,127,16383,127,32895,127,131199,491647,1015935,127,4194303,8388607,16777215] 59 259 B rfl rfl (by kernel_rfl) ?_
 exact C1
 rintro x75_5 G
 unfold Bi.j5 at G
 refine Dl (.r 0 (.e 1)) fun _ B G=>?_
 refine Kp Pb Yt Z9 ?_
 refine H0 W9 Z9 aU ([(Ac.mk x39_3 x46_4)]:List Ac) Ac.enc ?_
 exact C1
 rintro out_6 G
 unfold Bi.j6 at G
 exact F0
instance aL4:Wk 14:=⟨_,@Zq⟩
theorem dH {a b r} (G:D9 a b=some r):Fn Tryz.prog 15 0 [.sl 2 (Ak Ac.enc a),.sl 2 (Ak Ac.enc b)] [] (fun d' b'=>d'=.val (.bool r)/\b'=[]):=by
 unfold D9 at G
 refine Ez 0 26 Tryz.func15 fun _ _ _=>?_
 refine Jv (.l 3 (.e 4)) fun _ B G=>?_
 refine Gc (fun (x13_1:Int)=>mk [(0,.sl 2 (Ak Ac.enc a)),(1,.sl 2 (Ak Ac.enc b)),(12,.val (.int .i64 (a.length:Int))),(13,vk x13_1)] [] 0) G (B9 []) ?_
 rintro x13_1 m1 o1 G hn1
 unfold D9.l1 at G
 refine Dl (.r 2 (.e 4)) fun _ B G=>?_
 refine A8 <| Bn (Dx _ _ []) (by kernel_rfl) [0,0,3,7,0,0,48,112,255] 24 96 B rfl rfl (by kernel_rfl) ?_
 refine B7 4 fun e _ e_2 _ B G=>?_
 refine Fw rfl rfl (Z4 e e_2) rfl rfl ?_
 exact C1
instance aMt:Wk 15:=⟨_,@dH⟩
theorem O1 {i c0 r} (G:Ky i c0=some r):Fn Tryz.prog 45 0 [vk i,.elt (([.sl 8 (Ak Ae.enc c0)]:List C).drop 0)] [] (fun d' b'=>d'=.val (.bool r)/\b'=[]):=by
 unfold Ky at G
 refine Ez 0 12 Tryz.func45 fun _ _ _=>?_
 refine Jv (.r 2 (.e 0)) fun h2 B G=>?_
 refine Fw (Ht rfl rfl h2) rfl (Fr kW (c:=.sl 8 (Ak Ae.enc c0)) rfl) rfl rfl ?_
 exact C1
instance aM7:Wk 45:=⟨_,@O1⟩
theorem lG {e l r' r} (G:Cw e l r'=some r):Fn Tryz.prog 17 0 [.agg (An.dv e),.sl 8 (Ak Ae.enc l),.agg [vk r'.First,vk r'.Then]] [] (fun d' b'=>d'=.tup [.sl 1 (Ak eI r.1),vk r.2]/\b'=[]):=by
 unfold Cw at G
 refine Ez 0 93 Tryz.func17 fun _ _ _=>?_
 refine B7 1 fun B G=>?_
 refine A8 <| G3 (σ':=mk [(3,.ptr 0 0),(4,.elt (([.sl 8 (Ak Ae.enc l)]:List C).drop 0)),(5,.ptr 1 0)] [(0,.box (An.dv e) 34),(1,.box [vk r'.First,vk r'.Then] 25)] 2) ((by exact P4.lists [(0,0),(1,16)] rfl rfl ⟨⟨_,rfl,.ptr rfl⟩,⟨_,rfl,.frzb (ks:=[some 8]) rfl (.cons .sl .nil) (Ij rfl)⟩,⟨_,rfl,.ptr rfl⟩,trivial⟩ ⟨.inl ⟨0,_,rfl,rfl,⟨rfl,.cons (.sl _ _) (.cons (.sl _ _) (.cons (.sl _ _) .nil))⟩⟩,.inl ⟨16,_,rfl,rfl,⟨rfl,.cons (.val _) (.cons (.val _) .nil)⟩⟩,trivial⟩)) ?_
 refine Jv (.l 5 (.e 1)) fun _ _ _ B G=>?_
 refine Fw rfl rfl (Fr kW (c:=.sl 8 (Ak Ae.enc l)) rfl) rfl rfl ?_
 refine Jv (.l 0 (.e 0)) fun _ B G=>?_
 refine A6 (ι:=Bool) (fun (x23_2:Bool)=>mk [(3,.ptr 0 0),(4,.elt (([.sl 8 (Ak Ae.enc l)]:List C).drop 0)),(5,.ptr 1 0),(23,.val (.bool x23_2))] [(0,.box (An.dv e) 34),(1,.box [vk r'.First,vk r'.Then] 25)] 2) (fun (x23_2:Bool)=>Cw.j2 e l r' x23_2=some r) ?_ ?_
 refine B7 1 fun B G=>?_
 obtain⟨y_2,hy_2,G⟩:=Aq G
 refine E0 (rd:=[]) (ps:=[]) (gs:=[]) false rfl rfl (O1 hy_2) rfl rfl (.cons .val (.cons .elt .nil)) rfl rfl (by intro h; cases h) rfl rfl rfl rfl ?_
 refine Jv (.l 0 (.e 0)) fun h9 B G=>?_
 obtain⟨y_3,hy_3,G⟩:=Aq G
 refine E0 (rd:=[]) (ps:=[]) (gs:=[]) false (Ht rfl rfl h9) rfl (O1 hy_3) rfl rfl (.cons .val (.cons .elt .nil)) rfl rfl (by intro h; cases h) rfl rfl rfl rfl ?_
 exact C1
 rintro x23_2 G
 unfold Cw.j2 at G
 refine Dl (.l 0 (.e 0)) fun _ B G=>?_
 refine A6 (ι:=Bool) (fun (x36_3:Bool)=>mk [(3,.ptr 0 0),(4,.elt (([.sl 8 (Ak Ae.enc l)]:List C).drop 0)),(5,.ptr 1 0),(36,.val (.bool x36_3))] [(0,.box (An.dv e) 34),(1,.box [vk r'.First,vk r'.Then] 25)] 2) (fun (x36_3:Bool)=>Cw.j3 e l r' x36_3=some r) ?_ ?_
 refine Bn (Dx _ _ []) (by kernel_rfl) [0,0,0,4,14,30,63,127,255,511,511,511,2559,7679,15871,32767,65535,131071,262143] 2 154 Ha rfl rfl (by kernel_rfl) ?_
 refine B7 0 fun B G=>?_
 refine Fw rfl rfl (Fr kW (c:=.sl 8 (Ak Ae.enc l)) rfl) rfl rfl ?_
 refine Jv (.l 3 (.e 0)) fun _ _ _ _ h14 B G=>?_
 refine Fw (Ht rfl rfl h14) rfl (Fr kW (c:=.sl 8 (Ak Ae.enc l)) rfl) rfl rfl ?_
 exact C1
 rintro x36_3 G
 unfold Cw.j3 at G
 refine Dl (.l 0 (.e 1)) fun _ B G=>?_
 refine A8 <| Bn (Dx _ _ []) (by kernel_rfl) [0,0,2,7,15,31,0,0,128,448,960,1984,63,8191] 2 114 Ha rfl rfl (by kernel_rfl) ?_
 refine Fw rfl rfl (Fr kW (c:=.sl 8 (Ak Ae.enc l)) rfl) rfl rfl ?_
 refine B7 3 fun e_4 _ B G=>?_
 refine Fw rfl rfl (Fr kW (c:=.sl 8 (Ak Ae.enc l)) rfl) rfl rfl ?_
 refine B7 7 fun e_5 _ B G=>?_
 refine Gc (fun ((x70_4,out_4):Int×List Int)=>mk [(9,vk e_4.Endpoint),(10,vk e_5.Endpoint),(11,.row 0),(68,.sl 2 (Ak Aw.enc e.Edges)),(69,.val (.int .i64 (e.Edges.length:Int))),(70,vk x70_4)] [(0,.row 3 1 (Ak eI out_4))] 1) G (B9 []) ?_
 rintro⟨x70_4,out_4⟩ m4 o4 G hn4
 unfold Cw.l4 at G
 refine Dl (.r 2 (.e 1)) fun _ B G=>?_
 refine A6 (ι:=List Int) (fun (out_6:List Int)=>mk [(9,vk e_4.Endpoint),(10,vk e_5.Endpoint),(11,.row 0),(68,.sl 2 (Ak Aw.enc e.Edges)),(69,.val (.int .i64 (e.Edges.length:Int))),(70,vk x70_4)] [(0,.row 3 1 (Ak eI out_6))] 1) (fun (out_6:List Int)=>Cw.j6 x70_4 out_6=some o4) ?_ ?_
 refine B7 4 fun e_6 _ B G=>?_
 refine A6 (ι:=Bool) (fun (x86_5:Bool)=>mk [(9,vk e_4.Endpoint),(10,vk e_5.Endpoint),(11,.row 0),(12,vk x70_4),(68,.sl 2 (Ak Aw.enc e.Edges)),(69,.val (.int .i64 (e.Edges.length:Int))),(70,vk x70_4),(86,.val (.bool x86_5))] [(0,.row 3 1 (Ak eI out_4))] 1) (fun (x86_5:Bool)=>Cw.j5 x70_4 out_4 x86_5=some o4) ?_ ?_
 refine B7 1 fun B G=>?_
 refine Kp Vd jU rB ?_
 refine Fw rfl rfl (Tk e_6 (Aw.mk e_4.Endpoint e_5.Endpoint)) rfl rfl ?_
 refine Jv (.l 0 (.e 0)) fun h25 B G=>?_
 refine Kp Vd jU rB ?_
 refine Fw (Ht rfl rfl h25) rfl (Tk e_6 (Aw.mk e_5.Endpoint e_4.Endpoint)) rfl rfl ?_
 exact C1
 rintro x86_5 G
 unfold Cw.j5 at G
 refine Dl (.r 0 (.e 1)) fun _ B G=>?_
 refine H0 Es z3 I6 ([x70_4]:List Int) eI ?_
 exact C1
 rintro out_6 G
 unfold Cw.j6 at G
 exact F0
instance aMw:Wk 17:=⟨_,@lG⟩
theorem iP {e l r' r} (G:B6 e l r'=some r):Fn Tryz.prog 18 0 [.agg (An.dv e),.sl 8 (Ak Ae.enc l),.agg [vk r'.First,vk r'.Then]] [] (fun d' b'=>d'=.tup [.sl 1 (Ak eI r.1),vk r.2]/\b'=[]):=by
 unfold B6 at G
 refine Ez 0 114 Tryz.func18 fun _ _ _=>?_
 refine Jv (.l 4 (.l 3 (.e 1))) fun _ _ _ _ B G=>?_
 refine A8 <| A6 (ι:=Bool) (fun (x40_1:Bool)=>mk [(1,.sl 8 (Ak Ae.enc l)),(3,.ptr 0 0),(5,.ptr 1 0),(40,.val (.bool x40_1))] [(0,.box (An.dv e) 34),(1,.box [vk r'.First,vk r'.Then] 25)] 2) (fun (x40_1:Bool)=>B6.j1 e l r' x40_1=some r) ?_ ?_
 exact C1
 rintro x40_1 G
 unfold B6.j1 at G
 refine Dl (.l 0 (.e 1)) fun _ B G=>?_
 refine A8 <| Bn (Dx _ _ []) (by kernel_rfl) [0,0,2,7,15,31,0,0,128,448,960,1984,63,8191] 2 114 Ha rfl rfl (by kernel_rfl) ?_
 refine B7 6 fun e_2 _ e_3 _ B G=>?_
 refine A8 <| A6 (ι:=Bool) (fun (x72_2:Bool)=>mk [(3,.ptr 0 0),(8,vk e_2.Endpoint),(9,vk e_3.Endpoint),(72,.val (.bool x72_2))] [(0,.box (An.dv e) 34)] 1) (fun (x72_2:Bool)=>B6.j2 e e_2 e_3 x72_2=some r) ?_ ?_
 exact C1
 rintro x72_2 G
 unfold B6.j2 at G
 refine Dl (.l 0 (.e 5)) fun _ B G=>?_
 refine Gc (fun ((x76_3,out_3):Int×List Int)=>mk [(8,vk e_2.Endpoint),(9,vk e_3.Endpoint),(10,.row 0),(74,.sl 2 (Ak Aw.enc e.Edges)),(75,.val (.int .i64 (e.Edges.length:Int))),(76,vk x76_3)] [(0,.row 3 1 (Ak eI out_3))] 1) G (B9 []) ?_
 rintro⟨x76_3,out_3⟩ m3 o3 G hn3
 unfold B6.l3 at G
 refine Dl (.r 2 (.e 1)) fun _ B G=>?_
 refine A6 (ι:=List Int) (fun (out_5:List Int)=>mk [(8,vk e_2.Endpoint),(9,vk e_3.Endpoint),(10,.row 0),(74,.sl 2 (Ak Aw.enc e.Edges)),(75,.val (.int .i64 (e.Edges.length:Int))),(76,vk x76_3)] [(0,.row 3 1 (Ak eI out_5))] 1) (fun (out_5:List Int)=>B6.j5 x76_3 out_5=some o3) ?_ ?_
 refine B7 4 fun e_4 _ B G=>?_
 refine A6 (ι:=Bool) (fun (x107_4:Bool)=>mk [(8,vk e_2.Endpoint),(9,vk e_3.Endpoint),(10,.row 0),(11,vk x76_3),(74,.sl 2 (Ak Aw.enc e.Edges)),(75,.val (.int .i64 (e.Edges.length:Int))),(76,vk x76_3),(107,.val (.bool x107_4))] [(0,.row 3 1 (Ak eI out_3))] 1) (fun (x107_4:Bool)=>B6.j4 x76_3 out_3 x107_4=some o3) ?_ ?_
 exact C1
 rintro x107_4 G
 unfold B6.j4 at G
 refine Dl (.r 0 (.e 1)) fun _ B G=>?_
 refine H0 Es z3 I6 ([x76_3]:List Int) eI ?_
 exact C1
 rintro out_5 G
 unfold B6.j5 at G
 exact F0
instance aM9:Wk 18:=⟨_,@iP⟩
end Go.Proofs.YtkioneinddihlaaGreat
