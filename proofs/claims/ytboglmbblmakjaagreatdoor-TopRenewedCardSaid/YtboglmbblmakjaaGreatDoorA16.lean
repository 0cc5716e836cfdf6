import Derived.Test.YtboglmbblmakjaaGreatDoorT1
import Derived.Test.YtboglmbblmakjaaGreatDoorEU
import Derived.Test.YtboglmbblmakjaaGreatDoorA1
import Derived.Test.YtboglmbblmakjaaGreatDoorA3
import Derived.Test.YtboglmbblmakjaaGreatDoorA5
import Derived.Test.YtboglmbblmakjaaGreatDoorA8
import Derived.Test.YtboglmbblmakjaaGreatDoorA10
import Derived.Test.YtboglmbblmakjaaGreatDoorA11
import Derived.Test.YtboglmbblmakjaaGreatDoorA15
set_option linter.unusedVariables false
set_option linter.unusedSimpArgs false
set_option maxRecDepth 100000
set_option maxHeartbeats 40000000
namespace Go.Proofs.YtboglmbblmakjaaGreatDoor
open Go.RowKit
theorem lC {e r' r} (G:O6 e r'=some r):Fn Tryz.prog 14 0 [.agg (Ak.dv e),.agg (Ay.dv r')] [] (fun d' b'=>d'=.tup [ws r.1,vk r.2]/\b'=[]):=by
 unfold O6 at G
 refine Ea 0 14 Tryz.func14 fun _ _ _=>?_
 exact C6
instance bBv:Wk 14:=⟨_,@lC⟩
theorem Vd {t r} (G:A3 t=some r):Fn Tryz.prog 3 0 [.sl 1 (Ac eI t)] [] (fun d' b'=>d'=.val (.bool r)/\b'=[]):=by
 unfold A3 at G
 refine Ea 0 167 Tryz.func3 fun _ _ _=>?_
 refine Qg (.l 4 (.e 2)) fun _ _ _ B G=>?_
 obtain⟨y_3,hy_3,G⟩:=Af G
 refine Gt (rd:=[]) (ps:=[]) (gs:=[]) false rfl (eG hy_3) rfl rfl (.cons .sl .nil) rfl rfl (by intro h; cases h) rfl (by intro h; first | (cases h; done) | exact⟨_,_,⟨rfl,rfl⟩,by simp,by simp⟩) ?_
 rintro _ _ ⟨rfl,rfl⟩
 refine Cb 2 fun y_4 _ B G=>?_
 refine Ar <| B7 (E4 _ _ [96,120]) 88 176 B rfl rfl ?_
 refine Cb 0 fun B G=>?_
 refine wP Hz z3 Pp ([2,1,5]:List Int) eI ?_
 refine Cb 1 fun y_5 _ B G=>?_
 refine wP Hz z3 Pp ([30,60,200]:List Int) eI ?_
 refine Cb 1 fun y_6 _ B G=>?_
 refine Ox iZ aU8 z35 ?_
 refine Kv aS9 z35 aWj ([(Al.mk false y_5.1 0 0 y_6.1 40001)]:List Al) Al.enc ?_
 refine Ox aEb aU6 z39 ?_
 refine Cb 0 fun B G=>?_
 refine Ar <| Gs (σ':=mk [(4,.ptr 0 0),(5,.ptr 1 0)] [(0,.box (Ak.dv y_4.1) 31),(1,.box [.sl 6 (Ac Al.enc ([(Al.mk false y_5.1 0 0 y_6.1 40001)]:List Al)),.val (.slice none 0 0)] 39)] 2) (B5 [(0,72),(1,160)]) ?_
 refine Qg (.l 4 (.e 5)) fun y_7 _ _ B G=>?_
 refine Ip (fun ((x53_2,x_2):Int×Ak)=>mk [(4,.ptr 0 0),(5,.ptr 1 0),(8,.ptr 2 0),(51,.sl 1 (Ac eI y_7.1)),(52,.val (.int .i64 (y_7.1.length:Int))),(53,vk x53_2)] [(0,.box (Ak.dv y_4.1) 31),(1,.box [.sl 6 (Ac Al.enc ([(Al.mk false y_5.1 0 0 y_6.1 40001)]:List Al)),.val (.slice none 0 0)] 39),(2,.box (Ak.dv x_2) 31)] 3) G (B5 [(0,0),(1,1),(2,90)]) ?_
 rintro⟨x53_2,x_2⟩ m2 o2 G hn2
 unfold A3.l2 at G
 refine E6 (.r 2 (.e 1)) fun _ B G=>?_
 refine Ba (ι:=Ak) (fun (x_9:Ak)=>mk [(4,.ptr 0 0),(5,.ptr 1 0),(8,.ptr 2 0),(51,.sl 1 (Ac eI y_7.1)),(52,.val (.int .i64 (y_7.1.length:Int))),(53,vk x53_2)] [(0,.box (Ak.dv y_4.1) 31),(1,.box [.sl 6 (Ac Al.enc ([(Al.mk false y_5.1 0 0 y_6.1 40001)]:List Al)),.val (.slice none 0 0)] 39),(2,.box (Ak.dv x_9) 31)] 3) (fun (x_9:Ak)=>A3.j9 x53_2 x_9=some o2) ?_ ?_
 refine Cb 4 fun e _ B G=>?_
 refine Ar <| Ba (ι:=Bool) (fun (x65_3:Bool)=>mk [(4,.ptr 0 0),(5,.ptr 1 0),(8,.ptr 2 0),(10,vk e),(51,.sl 1 (Ac eI y_7.1)),(52,.val (.int .i64 (y_7.1.length:Int))),(53,vk x53_2),(65,.val (.bool x65_3))] [(0,.box (Ak.dv y_4.1) 31),(1,.box [.sl 6 (Ac Al.enc ([(Al.mk false y_5.1 0 0 y_6.1 40001)]:List Al)),.val (.slice none 0 0)] 39),(2,.box (Ak.dv x_2) 31)] 3) (fun (x65_3:Bool)=>A3.j3 y_4 y_5 y_6 x53_2 x_2 e x65_3=some o2) ?_ ?_
 exact C6
 rintro x65_3 G
 unfold A3.j3 at G
 refine E6 (.l 0 (.e 1)) fun _ B G=>?_
 refine Ar <| Ca (E4 _ _ [67]) (by kernel_rfl) [0,0,2,0,14,30,0,0,192,511,1023,2047,2047,4095,16383] 3 123 Gu rfl rfl (by kernel_rfl) ?_
 refine Cb 2 fun _ _ B G=>?_
 refine Ox T3 fW tL ?_
 refine Ox T3 fW tL ?_
 refine wP aJb tL aNx ([(Ah.mk 3 0),(Ah.mk 4 0)]:List Ah) Ah.enc ?_
 refine Qg (.l 3 (.e 4)) fun y_8 _ _ B G=>?_
 refine Ip (fun ((x85_4,x_4):Int×Ak)=>mk [(4,.ptr 0 0),(5,.ptr 1 0),(8,.ptr 2 0),(10,vk e),(11,.sl 3 (Ac A1.enc y_8.1)),(51,.sl 1 (Ac eI y_7.1)),(52,.val (.int .i64 (y_7.1.length:Int))),(53,vk x53_2),(83,.sl 3 (Ac A1.enc y_8.1)),(84,.val (.int .i64 (y_8.1.length:Int))),(85,vk x85_4)] [(0,.box (Ak.dv y_4.1) 31),(1,.box [.sl 6 (Ac Al.enc ([(Al.mk false y_5.1 0 0 y_6.1 40001)]:List Al)),.val (.slice none 0 0)] 39),(2,.box (Ak.dv x_4) 31)] 3) G (B5 [(0,0),(1,1),(2,2)]) ?_
 rintro⟨x85_4,x_4⟩ m4 o4 G hn4
 unfold A3.l4 at G
 refine Q4 2 fun B G=>?_
 refine Ji rfl G (fun _ G=>?_) fun _ G=>?_
 refine Cb 7 fun _ _ B G=>?_
 refine Ox aCp aV7 z56 ?_
 exact C6
 refine Cb 3 fun _ _ B G=>?_
 refine Ar <| Ca (E4 _ _ []) (by kernel_rfl) [0,0,0,0,8,0,56,120,248,511,1023,2047,2047,4095,16383] 75 195 B rfl rfl (by kernel_rfl) ?_
 refine Cb 0 fun B G=>?_
 refine Ox aEt aV3 z61 ?_
 refine Cb 4 fun _ _ y_11 _ B G=>?_
 refine Ar <| Ba (ι:=Bool) (fun (x136_5:Bool)=>mk [(4,.ptr 0 0),(5,.ptr 1 0),(8,.ptr 2 0),(10,vk e),(19,.sl 3 (Ac Ay.enc y_11.1)),(51,.sl 1 (Ac eI y_7.1)),(52,.val (.int .i64 (y_7.1.length:Int))),(53,vk x53_2),(136,.val (.bool x136_5))] [(0,.box (Ak.dv y_4.1) 31),(1,.box [.sl 6 (Ac Al.enc ([(Al.mk false y_5.1 0 0 y_6.1 40001)]:List Al)),.val (.slice none 0 0)] 39),(2,.box (Ak.dv x_4) 31)] 3) (fun (x136_5:Bool)=>A3.j5 x53_2 e x_4 y_11 x136_5=some o2) ?_ ?_
 exact C6
 rintro x136_5 G
 unfold A3.j5 at G
 refine E6 (.l 0 (.e 3)) fun _ B G=>?_
 refine Ip (fun (x139_6:Int)=>mk [(4,.ptr 0 0),(5,.ptr 1 0),(8,.ptr 2 0),(10,vk e),(51,.sl 1 (Ac eI y_7.1)),(52,.val (.int .i64 (y_7.1.length:Int))),(53,vk x53_2),(137,.sl 3 (Ac Ay.enc y_11.1)),(138,.val (.int .i64 (y_11.1.length:Int))),(139,vk x139_6)] [(0,.box (Ak.dv y_4.1) 31),(1,.box [.sl 6 (Ac Al.enc ([(Al.mk false y_5.1 0 0 y_6.1 40001)]:List Al)),.val (.slice none 0 0)] 39),(2,.box (Ak.dv x_4) 31)] 3) G (B5 [(0,0),(1,1),(2,2)]) ?_
 rintro x139_6 m6 o6 G hn6
 unfold A3.l6 at G
 refine E6 (.r 2 (.e 6)) fun _ e_5 _ B G=>?_
 refine Ar <| Ba (ι:=Bool) (fun (x151_7:Bool)=>mk [(4,.ptr 0 0),(5,.ptr 1 0),(8,.ptr 2 0),(10,vk e),(22,.ptr 3 0),(51,.sl 1 (Ac eI y_7.1)),(52,.val (.int .i64 (y_7.1.length:Int))),(53,vk x53_2),(137,.sl 3 (Ac Ay.enc y_11.1)),(138,.val (.int .i64 (y_11.1.length:Int))),(139,vk x139_6),(151,.val (.bool x151_7))] [(0,.box (Ak.dv y_4.1) 31),(1,.box [.sl 6 (Ac Al.enc ([(Al.mk false y_5.1 0 0 y_6.1 40001)]:List Al)),.val (.slice none 0 0)] 39),(2,.box (Ak.dv x_4) 31),(3,.box (Ay.dv e_5) 64)] 4) (fun (x151_7:Bool)=>A3.j7 x_4 x139_6 e_5 x151_7=some o6) ?_ ?_
 exact C6
 rintro x151_7 G
 unfold A3.j7 at G
 refine E6 (.l 0 (.e 3)) fun _ y_13 _ B G=>?_
 refine Ba (ι:=Bool) (fun (x163_8:Bool)=>mk [(4,.ptr 0 0),(5,.ptr 1 0),(8,.ptr 2 0),(10,vk e),(51,.sl 1 (Ac eI y_7.1)),(52,.val (.int .i64 (y_7.1.length:Int))),(53,vk x53_2),(137,.sl 3 (Ac Ay.enc y_11.1)),(138,.val (.int .i64 (y_11.1.length:Int))),(139,vk x139_6),(163,.val (.bool x163_8))] [(0,.box (Ak.dv y_4.1) 31),(1,.box [.sl 6 (Ac Al.enc ([(Al.mk false y_5.1 0 0 y_6.1 40001)]:List Al)),.val (.slice none 0 0)] 39),(2,.box (Ak.dv x_4) 31)] 3) (fun (x163_8:Bool)=>A3.j8 x139_6 x163_8=some o6) ?_ ?_
 exact C6
 rintro x163_8 G
 unfold A3.j8 at G
 exact Ik
 rintro x_9 G
 unfold A3.j9 at G
 exact Ik
instance wk3:Wk 3:=⟨_,@Vd⟩
end Go.Proofs.YtboglmbblmakjaaGreatDoor
