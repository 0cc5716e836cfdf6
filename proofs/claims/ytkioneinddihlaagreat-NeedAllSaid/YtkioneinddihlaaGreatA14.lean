import Derived.Test.YtkioneinddihlaaGreatT1
import Derived.Test.YtkioneinddihlaaGreatEU
import Derived.Test.YtkioneinddihlaaGreatA1
import Derived.Test.YtkioneinddihlaaGreatA3
import Derived.Test.YtkioneinddihlaaGreatA5
import Derived.Test.YtkioneinddihlaaGreatA6
import Derived.Test.YtkioneinddihlaaGreatA7
import Derived.Test.YtkioneinddihlaaGreatA10
import Derived.Test.YtkioneinddihlaaGreatA12
import Derived.Test.YtkioneinddihlaaGreatA13
set_option linter.unusedVariables false
set_option linter.unusedSimpArgs false
set_option maxRecDepth 100000
set_option maxHeartbeats 40000000
namespace Go.Proofs.YtkioneinddihlaaGreat
open Go.RowKit
theorem aL {n l r} (G:By n l=some r):Fn Tryz.prog 52 0 [vk n,.sl 2 (Ak Ac.enc l)] [] (fun d' b'=>d'=vk r/\b'=[]):=by
 unfold By at G
 refine Ez 0 82 Tryz.func52 fun _ _ _=>?_
 refine B7 1 fun B G=>?_
 refine A8 <| A6 (ι:=Bool) (fun (x15_1:Bool)=>mk [(0,vk n),(1,.sl 2 (Ak Ac.enc l)),(15,.val (.bool x15_1))] [] 0) (fun (x15_1:Bool)=>By.j1 n l x15_1=some r) ?_ ?_
 exact C1
 rintro x15_1 G
 unfold By.j1 at G
 refine Dl (.l 0 (.e 4)) fun _ B G=>?_
 refine Gc (fun (x18_2:Int)=>mk [(0,vk n),(1,.sl 2 (Ak Ac.enc l)),(16,.sl 2 (Ak Ac.enc l)),(17,.val (.int .i64 (l.length:Int))),(18,vk x18_2)] [] 0) G (B9 []) ?_
 rintro x18_2 m2 o2 G hn2
 unfold By.l2 at G
 refine Iw 2 fun B G=>?_
 refine Ja rfl G (fun _ G=>?_) fun _ G=>?_
 refine B7 6 fun e _ B G=>?_
 refine A6 (ι:=Bool) (fun (x48_3:Bool)=>mk [(0,vk n),(1,.sl 2 (Ak Ac.enc l)),(16,.sl 2 (Ak Ac.enc l)),(17,.val (.int .i64 (l.length:Int))),(18,vk x18_2),(48,.val (.bool x48_3))] [] 0) (fun (x48_3:Bool)=>By.j3 x18_2 x48_3=some o2) ?_ ?_
 exact C1
 rintro x48_3 G
 unfold By.j3 at G
 exact F0
 refine B7 4 fun B G=>?_
 refine Gc (fun (i_4:Int)=>mk [(0,vk n),(1,.sl 2 (Ak Ac.enc l)),(7,vk i_4)] [] 0) G (B9 []) ?_
 rintro i_4 m4 o4 G hn4
 unfold By.l4 at G
 refine Iw 2 fun B G=>?_
 refine Ja rfl G (fun _ G=>?_) fun _ G=>?_
 refine B7 3 fun B G=>?_
 refine A8 <| Bn (Dx _ _ []) (by kernel_rfl) [0,0,2,7,15,0,0,96,224,511,1023] 32 120 B rfl rfl (by kernel_rfl) ?_
 exact C1
 refine B7 6 fun y_2 _ B G=>?_
 refine Gc (fun (x71_5:Int)=>mk [(8,.sl 1 (Ak (eL 1 eB) y_2)),(70,vk n),(71,vk x71_5)] [] 0) G (B9 []) ?_
 rintro x71_5 m5 o5 G hn5
 unfold By.l5 at G
 refine Dl (.r 2 (.e 6)) fun _ e_4 he_4 B G=>?_
 refine Fw rfl rfl (Fr jB (Fj (Gy _ _) (Cc he_4) (o:=0) (c:=.sl 1 (Ak eB e_4)) rfl rfl)) rfl rfl ?_
 exact C1
instance aNf:Wk 52:=⟨_,@aL⟩
theorem Zj {n l r} (G:B3 n l=some r):Fn Tryz.prog 26 0 [vk n,.sl 2 (Ak Ac.enc l)] [] (fun d' b'=>d'=.tup [.sl 2 (Ak Ac.enc r.1),vk r.2]/\b'=[]):=by
 unfold B3 at G
 refine Ez 0 62 Tryz.func26 fun _ _ _=>?_
 refine Jv (.l 5 (.e 7)) fun _ _ _ y_2 _ B G=>?_
 refine Gc (fun ((x24_1,out_1):Int×List Ac)=>mk [(0,vk n),(7,.sl 1 (Ak (eL 1 eB) y_2)),(8,.row 0),(22,.sl 2 (Ak Ac.enc l)),(23,.val (.int .i64 (l.length:Int))),(24,vk x24_1)] [(0,.row 25 2 (Ak Ac.enc out_1))] 1) G (B9 []) ?_
 rintro⟨x24_1,out_1⟩ m1 o1 G hn1
 unfold B3.l1 at G
 refine Dl (.r 2 (.e 1)) fun _ B G=>?_
 refine A6 (ι:=List Ac) (fun (out_4:List Ac)=>mk [(0,vk n),(7,.sl 1 (Ak (eL 1 eB) y_2)),(8,.row 0),(22,.sl 2 (Ak Ac.enc l)),(23,.val (.int .i64 (l.length:Int))),(24,vk x24_1)] [(0,.row 25 2 (Ak Ac.enc out_4))] 1) (fun (out_4:List Ac)=>B3.j4 x24_1 out_4=some o1) ?_ ?_
 refine B7 8 fun e _ B G=>?_
 refine Gc (fun ((long_2,x29_2):Bool×Int)=>mk [(0,vk n),(7,.sl 1 (Ak (eL 1 eB) y_2)),(8,.row 0),(10,.ptr 1 0),(11,.val (.bool long_2)),(22,.sl 2 (Ak Ac.enc l)),(23,.val (.int .i64 (l.length:Int))),(24,vk x24_1),(28,vk n),(29,vk x29_2)] [(0,.row 25 2 (Ak Ac.enc out_1)),(1,.box [vk e.First,vk e.Then] 25)] 2) G (B9 [(0,0),(1,25)]) ?_
 rintro⟨long_2,x29_2⟩ m2 o2 G hn2
 unfold B3.l2 at G
 refine Iw 2 fun B G=>?_
 refine Ja rfl G (fun _ G=>?_) fun _ G=>?_
 refine B7 1 fun B G=>?_
 refine A6 (ι:=Bool) (fun (long_3:Bool)=>mk [(0,vk n),(7,.sl 1 (Ak (eL 1 eB) y_2)),(8,.row 0),(10,.ptr 1 0),(11,.val (.bool long_3)),(22,.sl 2 (Ak Ac.enc l)),(23,.val (.int .i64 (l.length:Int))),(24,vk x24_1),(28,vk n),(29,vk x29_2)] [(0,.row 25 2 (Ak Ac.enc out_1)),(1,.box [vk e.First,vk e.Then] 25)] 2) (fun (long_3:Bool)=>B3.j3 x29_2 long_3=some o2) ?_ ?_
 refine B7 2 fun B G=>?_
 refine Bn (Dx _ _ []) (by kernel_rfl) [0,1,3,3,11,31,63,3,255,511,1023,2047,2047,8191,16383,2047,34815,131071,262143,524287,1048575,2097151] 26 202 B rfl rfl (by kernel_rfl) ?_
 refine Jv (.l 0 (.e 1)) fun h17 e_2 he_2 B G=>?_
 refine Fw (Ht rfl rfl h17) rfl (Fr jB (Fj (Gy _ _) (Cc he_2) (o:=0) (c:=.sl 1 (Ak eB e_2)) rfl rfl)) rfl rfl ?_
 refine Jv (.r 2 (.e 1)) fun _ _ h19 e_4 he_4 B G=>?_
 refine Fw (Ht rfl rfl h19) rfl (Fr jB (Fj (Gy _ _) (Cc he_4) (o:=0) (c:=.sl 1 (Ak eB e_4)) rfl rfl)) rfl rfl ?_
 exact C1
 rintro long_3 G
 unfold B3.j3 at G
 exact F0
 refine Jv (.r 2 (.e 1)) fun _ B G=>?_
 refine H0 W9 Z9 aU ([e]:List Ac) Ac.enc ?_
 exact C1
 rintro out_4 G
 unfold B3.j4 at G
 exact F0
instance aL7:Wk 26:=⟨_,@Zj⟩
theorem Qr {t raw r' n r} (G:Ar t raw r' n=some r):Fn Tryz.prog 3 0 [.sl 1 (Ak eI t),.sl 2 (Ak Ac.enc raw),.agg [vk r'.First,vk r'.Then],vk n] [] (fun d' b'=>d'=.val (.bool r)/\b'=[]):=by
 unfold Ar at G
 refine Ez 0 222 Tryz.func3 fun _ _ _=>?_
 refine B7 1 fun B G=>?_
 refine A8 <| A6 (ι:=Bool) (fun (x45_1:Bool)=>mk [(0,.sl 1 (Ak eI t)),(1,.sl 2 (Ak Ac.enc raw)),(3,vk n),(6,.ptr 0 0),(45,.val (.bool x45_1))] [(0,.box [vk r'.First,vk r'.Then] 25)] 1) (fun (x45_1:Bool)=>Ar.j1 t raw r' n x45_1=some r) ?_ ?_
 exact C1
 rintro x45_1 G
 unfold Ar.j1 at G
 refine Dl (.l 0 (.e 2)) fun _ B G=>?_
 obtain⟨y_3,hy_3,G⟩:=Aq G
 refine R7 (rd:=[]) (ps:=[]) (gs:=[]) false rfl (W1 hy_3) rfl rfl (.cons .sl .nil) rfl rfl (by intro h; cases h) rfl (by intro h; first | (cases h; done) | exact⟨_,_,⟨rfl,rfl⟩,by simp,by simp⟩) ?_
 rintro _ _ ⟨rfl,rfl⟩
 refine B7 3 fun y_4 _ B G=>?_
 obtain⟨y_5,hy_5,G⟩:=Aq G
 refine R7 (rd:=[9]) (ps:=[9]) (gs:=[]) false rfl (O9 hy_5) rfl rfl (.cons (.ptr rfl) (.cons (.agg (.cons .sl (.cons .sl (.cons .sl .nil)))) .nil)) ⟨_,_,_,rfl,.head _,⟨_,rfl,(by repeat' (first | exact Of.nil | apply Of.cons | exact Ag.val | exact Ag.sl | exact Ag.nils | exact Ag.ptr rfl | exact Ag.rowK rfl))⟩,rfl⟩ rfl (by intro h; cases h) rfl (by intro h; first | (cases h; done) | exact⟨_,_,⟨rfl,rfl⟩,by simp,by simp⟩) ?_
 rintro _ _ ⟨rfl,rfl⟩
 refine B7 0 fun B G=>?_
 refine A6 (ι:=Ab×List Ae) (fun ((d_2,l_2):Ab×List Ae)=>mk [(1,.sl 2 (Ak Ac.enc raw)),(3,vk n),(6,.ptr 0 0),(9,.ptr 1 0),(10,.ptr 2 0),(11,.row 3)] [(0,.box [vk r'.First,vk r'.Then] 25),(1,.box [.sl 1 (Ak eI d_2.L),vk d_2.At] 68),(2,.box (An.dv y_4.1) 34),(3,.row 45 8 (Ak Ae.enc l_2))] 4) (fun ((d_2,l_2):Ab×List Ae)=>Ar.j2 raw r' n y_4 d_2 l_2=some r) ?_ ?_
 refine Jv (.r 2 (.e 3)) fun _ _ _ _ _ y_8 _ B G=>?_
 refine H0 jN jK gQ ([y_8.1]:List Ae) Ae.enc ?_
 exact C1
 rintro⟨d_2,l_2⟩ G
 unfold Ar.j2 at G
 refine Iw 4 fun y_9 _ B G=>?_
 refine H0 aGw z34 aH9 ([y_4.1,y_9.1]:List An) An.enc ?_
 refine B7 1 fun B G=>?_
 refine Gc (fun (x70_3:Int)=>mk [(1,.sl 2 (Ak Ac.enc raw)),(3,vk n),(6,.ptr 0 0),(9,.ptr 1 0),(10,.ptr 2 0),(11,.sl 8 (Ak Ae.enc l_2)),(68,.row 3),(69,.val (.int .i64 (([y_4.1,y_9.1]:List An).length:Int))),(70,vk x70_3)] [(0,.box [vk r'.First,vk r'.Then] 25),(1,.box [.sl 1 (Ak eI y_9.2.L),vk y_9.2.At] 68),(2,.box (An.dv y_4.1) 34),(3,.row 34 3 (Ak An.enc ([y_4.1,y_9.1]:List An)))] 4) G (B9 [(0,0),(1,1),(2,2),(3,52)]) ?_
 rintro x70_3 m3 o3 G hn3
 unfold Ar.l3 at G
 refine Iw 2 fun B G=>?_
 refine Ja rfl G (fun _ G=>?_) fun _ G=>?_
 refine B7 10 fun e _ _ _ _ _ B G=>?_
 refine A8 <| A6 (ι:=Bool) (fun (x94_4:Bool)=>mk [(1,.sl 2 (Ak Ac.enc raw)),(3,vk n),(6,.ptr 0 0),(9,.ptr 1 0),(10,.ptr 2 0),(11,.sl 8 (Ak Ae.enc l_2)),(14,.ptr 3 0),(68,.row 4),(69,.val (.int .i64 (([y_4.1,y_9.1]:List An).length:Int))),(70,vk x70_3),(94,.val (.bool x94_4))] [(0,.box [vk r'.First,vk r'.Then] 25),(1,.box [.sl 1 (Ak eI y_9.2.L),vk y_9.2.At] 68),(2,.box (An.dv y_4.1) 34),(3,.box (An.dv e) 34),(4,.row 34 3 (Ak An.enc ([y_4.1,y_9.1]:List An)))] 5) (fun (x94_4:Bool)=>Ar.j4 r' l_2 x70_3 e x94_4=some o3) ?_ ?_
 exact C1
 rintro x94_4 G
 unfold Ar.j4 at G
 refine Dl (.l 0 (.e 1)) fun _ B G=>?_
 refine A8 <| Bn (Dx _ _ []) (by kernel_rfl) [0,0,2,6,14,0,32,110,254,511,1023,0] 5 101 Ha rfl rfl (by kernel_rfl) ?_
 refine B7 2 fun y_13 _ y_14 _ B G=>?_
 refine Kp Pb Yt Z9 ?_
 refine H0 W9 Z9 aU ([r',(Ac.mk (W (y_13 - 1)) y_14)]:List Ac) Ac.enc ?_
 refine B7 1 fun B G=>?_
 refine Gc (fun (x106_5:Int)=>mk [(1,.sl 2 (Ak Ac.enc raw)),(3,vk n),(6,.ptr 0 0),(9,.ptr 1 0),(10,.ptr 2 0),(11,.sl 8 (Ak Ae.enc l_2)),(14,.ptr 3 0),(68,.row 4),(69,.val (.int .i64 (([y_4.1,y_9.1]:List An).length:Int))),(70,vk x70_3),(104,.row 5),(105,.val (.int .i64 (([r',(Ac.mk (W (y_13 - 1)) y_14)]:List Ac).length:Int))),(106,vk x106_5)] [(0,.box [vk r'.First,vk r'.Then] 25),(1,.box [.sl 1 (Ak eI y_9.2.L),vk y_9.2.At] 68),(2,.box (An.dv y_4.1) 34),(3,.box (An.dv e) 34),(4,.row 34 3 (Ak An.enc ([y_4.1,y_9.1]:List An))),(5,.row 25 2 (Ak Ac.enc ([r',(Ac.mk (W (y_13 - 1)) y_14)]:List Ac)))] 6) G (B9 [(0,0),(1,1),(2,2),(3,3),(4,4),(5,77)]) ?_
 rintro x106_5 m5 o5 G hn5
 unfold Ar.l5 at G
 refine Dl (.r 2 (.e 10)) fun _ _ _ _ _ _ _ B G=>?_
 refine A6 (ι:=Bool) (fun (x132_6:Bool)=>mk [(1,.sl 2 (Ak Ac.enc raw)),(3,vk n),(6,.ptr 0 0),(9,.ptr 1 0),(10,.ptr 2 0),(11,.sl 8 (Ak Ae.enc l_2)),(14,.ptr 3 0),(68,.row 4),(69,.val (.int .i64 (([y_4.1,y_9.1]:List An).length:Int))),(70,vk x70_3),(104,.row 5),(105,.val (.int .i64 (([r',(Ac.mk (W (y_13 - 1)) y_14)]:List Ac).length:Int))),(106,vk x106_5),(132,.val (.bool x132_6))] [(0,.box [vk r'.First,vk r'.Then] 25),(1,.box [.sl 1 (Ak eI y_9.2.L),vk y_9.2.At] 68),(2,.box (An.dv y_4.1) 34),(3,.box (An.dv e) 34),(4,.row 34 3 (Ak An.enc ([y_4.1,y_9.1]:List An))),(5,.row 25 2 (Ak Ac.enc ([r',(Ac.mk (W (y_13 - 1)) y_14)]:List Ac)))] 6) (fun (x132_6:Bool)=>Ar.j6 x106_5 x132_6=some o5) ?_ ?_
 exact C1
 rintro x132_6 G
 unfold Ar.j6 at G
 exact F0
 refine B7 4 fun B G=>?_
 refine Gc (fun (x137_7:Int)=>mk [(1,.sl 2 (Ak Ac.enc raw)),(3,vk n),(9,.ptr 0 0),(10,.ptr 1 0),(135,.sl 8 (Ak Ae.enc l_2)),(136,.val (.int .i64 (l_2.length:Int))),(137,vk x137_7)] [(0,.box [.sl 1 (Ak eI y_9.2.L),vk y_9.2.At] 68),(1,.box (An.dv y_4.1) 34)] 2) G (B9 [(0,1),(1,2)]) ?_
 rintro x137_7 m7 o7 G hn7
 unfold Ar.l7 at G
 refine Iw 2 fun B G=>?_
 refine Ja rfl G (fun _ G=>?_) fun _ G=>?_
 refine B7 8 fun e_3 _ B G=>?_
 refine Gc (fun (x144_8:Int)=>mk [(1,.sl 2 (Ak Ac.enc raw)),(3,vk n),(9,.ptr 0 0),(10,.ptr 1 0),(26,.ptr 2 0),(135,.sl 8 (Ak Ae.enc l_2)),(136,.val (.int .i64 (l_2.length:Int))),(137,vk x137_7),(142,.sl 9 (Ak Al.enc y_4.1.Endpoints)),(143,.val (.int .i64 (y_4.1.Endpoints.length:Int))),(144,vk x144_8)] [(0,.box [.sl 1 (Ak eI y_9.2.L),vk y_9.2.At] 68),(1,.box (An.dv y_4.1) 34),(2,.box (Ae.dv e_3) 45)] 3) G (B9 [(0,0),(1,1),(2,26)]) ?_
 rintro x144_8 m8 o8 G hn8
 unfold Ar.l8 at G
 refine Dl (.r 2 (.e 6)) fun _ _ _ B G=>?_
 refine A8 <| Bn (Dx _ _ []) (by kernel_rfl) [0,0,3,0,0,31,63] 43 99 B rfl rfl (by kernel_rfl) ?_
 exact C1
 refine B7 3 fun y_20 _ B G=>?_
 refine A8 <| A6 (ι:=Bool) (fun (x176_9:Bool)=>mk [(1,.sl 2 (Ak Ac.enc raw)),(3,vk n),(29,.sl 2 (Ak Ac.enc y_20.1)),(176,.val (.bool x176_9))] [] 0) (fun (x176_9:Bool)=>Ar.j9 raw n y_20 x176_9=some r) ?_ ?_
 exact C1
 rintro x176_9 G
 unfold Ar.j9 at G
 refine Dl (.l 0 (.e 4)) fun _ y_27 _ B G=>?_
 refine H0 Es z3 I6 ([n,7,W (y_27 - 1)]:List Int) eI ?_
 refine B7 1 fun B G=>?_
 refine Gc (fun (x183_10:Int)=>mk [(1,.sl 2 (Ak Ac.enc raw)),(29,.sl 2 (Ak Ac.enc y_20.1)),(181,.row 0),(182,.val (.int .i64 (([n,7,W (y_27 - 1)]:List Int).length:Int))),(183,vk x183_10)] [(0,.row 3 1 (Ak eI ([n,7,W (y_27 - 1)]:List Int)))] 1) G (B9 [(0,32)]) ?_
 rintro x183_10 m10 o10 G hn10
 unfold Ar.l10 at G
 refine Dl (.r 2 (.e 8)) fun _ e_5 _ y_28 _ B G=>?_
 refine H0 aFg z23 aJ1 ([y_20.1,raw,y_28]:List (List Ac)) (eL 2 Ac.enc) ?_
 refine B7 1 fun B G=>?_
 refine Gc (fun (x194_11:Int)=>mk [(1,.sl 2 (Ak Ac.enc raw)),(29,.sl 2 (Ak Ac.enc y_20.1)),(31,vk e_5),(181,.row 0),(182,.val (.int .i64 (([n,7,W (y_27 - 1)]:List Int).length:Int))),(183,vk x183_10),(192,.row 1),(193,.val (.int .i64 (([y_20.1,raw,y_28]:List (List Ac)).length:Int))),(194,vk x194_11)] [(0,.row 3 1 (Ak eI ([n,7,W (y_27 - 1)]:List Int))),(1,.row 23 1 (Ak (eL 2 Ac.enc) ([y_20.1,raw,y_28]:List (List Ac))))] 2) G (B9 [(0,0),(1,73)]) ?_
 rintro x194_11 m11 o11 G hn11
 unfold Ar.l11 at G
 refine Dl (.r 2 (.e 5)) fun _ e_6 he_6 B G=>?_
 refine Ik (rd:=[1]) rfl rfl (.loadR1 aFi (Fj (Gy _ _) (Cc he_6) (o:=0) (c:=.sl 2 (Ak Ac.enc e_6)) rfl rfl)) rfl rfl ?_
 refine B7 4 fun _ _ _ _ B G=>?_
 refine A6 (ι:=Bool) (fun (x218_12:Bool)=>mk [(1,.sl 2 (Ak Ac.enc raw)),(29,.sl 2 (Ak Ac.enc y_20.1)),(31,vk e_5),(181,.row 0),(182,.val (.int .i64 (([n,7,W (y_27 - 1)]:List Int).length:Int))),(183,vk x183_10),(192,.row 1),(193,.val (.int .i64 (([y_20.1,raw,y_28]:List (List Ac)).length:Int))),(194,vk x194_11),(218,.val (.bool x218_12))] [(0,.row 3 1 (Ak eI ([n,7,W (y_27 - 1)]:List Int))),(1,.row 23 1 (Ak (eL 2 Ac.enc) ([y_20.1,raw,y_28]:List (List Ac))))] 2) (fun (x218_12:Bool)=>Ar.j12 x194_11 x218_12=some o11) ?_ ?_
 exact C1
 rintro x218_12 G
 unfold Ar.j12 at G
 exact F0
instance wk3:Wk 3:=⟨_,@Qr⟩
end Go.Proofs.YtkioneinddihlaaGreat
