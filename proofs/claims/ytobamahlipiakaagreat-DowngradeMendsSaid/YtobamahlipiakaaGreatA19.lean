import Derived.Test.YtobamahlipiakaaGreatT1
import Derived.Test.YtobamahlipiakaaGreatEU
import Derived.Test.YtobamahlipiakaaGreatA7
import Derived.Test.YtobamahlipiakaaGreatA8
import Derived.Test.YtobamahlipiakaaGreatA9
set_option linter.unusedVariables false
set_option linter.unusedSimpArgs false
set_option maxRecDepth 100000
set_option maxHeartbeats 40000000
namespace Go.Proofs.YtobamahlipiakaaGreat
open Go.RowKit
theorem Sf {d r} (G:Bu d=some r):Fn Tryz.prog 23 1 [.ptr 0 0] [.box [.sl 1 (Ai eI d.L),vj d.At] 91] (fun d' b'=>d'=.agg [.row 1,.sl 2 (Ai Bl.enc r.1.Keeps)]/\b'=[.box [.sl 1 (Ai eI r.2.L),vj r.2.At] 91,.row 83 6 (Ai Aw.enc r.1.Rules)]):=by
 unfold Bu at G
 refine Ea 1 71 Tryz.func23 fun _ _ _=>?_
 refine Br 6 fun _ _ B G=>?_
 refine He (fun ((i_1,d_1,l_1):Int×Ad×List Aw)=>mk [(0,.ptr 0 0),(2,.ptr 1 0),(3,.ptr 2 0),(4,vj i_1)] [(0,.box [.sl 1 (Ai eI d_1.L),vj d_1.At] 91),(1,.box [.val (.slice none 0 0),.val (.slice none 0 0)] 67),(2,.box [.row 3,.val (.slice none 0 0)] 67),(3,.row 83 6 (Ai Aw.enc l_1))] 4) G (Cd [(0,0),(1,1),(2,9)]) ?_
 rintro⟨i_1,d_1,l_1⟩ m1 o1 G hn1
 unfold Bu.l1 at G
 refine Lg 2 fun B G=>?_
 refine Kd rfl G (fun _ G=>?_) fun _ G=>?_
 refine Br 3 fun B G=>?_
 refine Ay <| Ci (D9 _ _ [44]) 20 84 B rfl rfl ?_
 refine Br 1 fun y_2 _ B G=>?_
 refine Rk Er z3 Ia ([14,1,2,5,15,0,16,10,20,7]:List Int) eI ?_
 refine Br 1 fun y_3 _ B G=>?_
 refine M6 Zx aOf z83 ?_
 refine Br 0 fun B G=>?_
 refine A4 (ι:=Ad×Int) (fun ((d_2,r_2):Ad×Int)=>mk [(0,.ptr 0 0),(2,.ptr 1 0),(3,.ptr 2 0),(4,vj i_1),(5,.ptr 3 0)] [(0,.box [.sl 1 (Ai eI d_2.L),vj d_2.At] 91),(1,.box [.val (.slice none 0 0),.val (.slice none 0 0)] 67),(2,.box [.row 4,.val (.slice none 0 0)] 67),(3,.box [.val (.bool y_2.1),vj y_3.1,vj r_2,.val (.int .i64 0),.val (.int .i64 0),.val (.int .i64 40001)] 83),(4,.row 83 6 (Ai Aw.enc l_1))] 5) (fun ((d_2,r_2):Ad×Int)=>Bu.j2 i_1 l_1 y_2 y_3 d_2 r_2=some o1) ?_ ?_
 refine Jf (.r 2 (.e 0)) fun _ _ _ B G=>?_
 refine Ci (D9 _ _ [108]) 100 140 B rfl rfl ?_
 refine Br 0 fun B G=>?_
 refine Rk Er z3 Ia ([2048,256,1024,3072,129]:List Int) eI ?_
 exact Cj
 rintro⟨d_2,r_2⟩ G
 unfold Bu.j2 at G
 try dsimp only at G
 refine Rp rfl ?_
 refine A4 (ι:=Ad×Int) (fun ((d_3,r_3):Ad×Int)=>mk [(0,.ptr 0 0),(2,.ptr 1 0),(3,.ptr 2 0),(4,vj i_1),(5,.ptr 3 0)] [(0,.box [.sl 1 (Ai eI d_3.L),vj d_3.At] 91),(1,.box [.val (.slice none 0 0),.val (.slice none 0 0)] 67),(2,.box [.row 4,.val (.slice none 0 0)] 67),(3,.box [.val (.bool y_2.1),vj y_3.1,vj r_2,vj r_3,.val (.int .i64 0),.val (.int .i64 40001)] 83),(4,.row 83 6 (Ai Aw.enc l_1))] 5) (fun ((d_3,r_3):Ad×Int)=>Bu.j3 i_1 l_1 y_2 y_3 r_2 d_3 r_3=some o1) ?_ ?_
 exact Cj
 rintro⟨d_3,r_3⟩ G
 unfold Bu.j3 at G
 try dsimp only at G
 refine Rp rfl ?_
 refine A4 (ι:=Ad×Int) (fun ((d_4,r_4):Ad×Int)=>mk [(0,.ptr 0 0),(2,.ptr 1 0),(3,.ptr 2 0),(4,vj i_1),(5,.ptr 3 0)] [(0,.box [.sl 1 (Ai eI d_4.L),vj d_4.At] 91),(1,.box [.val (.slice none 0 0),.val (.slice none 0 0)] 67),(2,.box [.row 4,.val (.slice none 0 0)] 67),(3,.box [.val (.bool y_2.1),vj y_3.1,vj r_2,vj r_3,vj r_4,.val (.int .i64 40001)] 83),(4,.row 83 6 (Ai Aw.enc l_1))] 5) (fun ((d_4,r_4):Ad×Int)=>Bu.j4 i_1 l_1 y_2 y_3 r_2 r_3 d_4 r_4=some o1) ?_ ?_
 refine Jf (.r 2 (.e 0)) fun _ _ _ B G=>?_
 refine Ci (D9 _ _ [29]) 21 61 B rfl rfl ?_
 refine Br 0 fun B G=>?_
 refine Rk Er z3 Ia ([10,30,100,7]:List Int) eI ?_
 exact Cj
 rintro⟨d_4,r_4⟩ G
 unfold Bu.j4 at G
 try dsimp only at G
 refine Rp rfl ?_
 refine A4 (ι:=Ad×Int) (fun ((d_5,r_5):Ad×Int)=>mk [(0,.ptr 0 0),(2,.ptr 1 0),(3,.ptr 2 0),(4,vj i_1),(5,.ptr 3 0)] [(0,.box [.sl 1 (Ai eI d_5.L),vj d_5.At] 91),(1,.box [.val (.slice none 0 0),.val (.slice none 0 0)] 67),(2,.box [.row 4,.val (.slice none 0 0)] 67),(3,.box [.val (.bool y_2.1),vj y_3.1,vj r_2,vj r_3,vj r_4,vj r_5] 83),(4,.row 83 6 (Ai Aw.enc l_1))] 5) (fun ((d_5,r_5):Ad×Int)=>Bu.j5 i_1 l_1 y_2 y_3 r_2 r_3 r_4 d_5 r_5=some o1) ?_ ?_
 refine Jf (.r 2 (.e 0)) fun _ _ _ B G=>?_
 refine Bg (D9 _ _ [45]) (by kernel_rfl) [0,1,0,0,12,31,63,127] 21 85 B rfl rfl (by kernel_rfl) ?_
 refine Br 0 fun B G=>?_
 refine Rk Er z3 Ia ([20,1,200]:List Int) eI ?_
 exact Cj
 rintro⟨d_5,r_5⟩ G
 unfold Bu.j5 at G
 refine Lg 1 fun B G=>?_
 refine Iz aHz z83 aMv ([(Aw.mk y_2.1 y_3.1 r_2 r_3 r_4 r_5)]:List Aw) Aw.enc ?_
 exact Cj
 refine Br 5 fun _ _ B G=>?_
 refine He (fun ((i_6,d_6,l_6):Int×Ad×List Bl)=>mk [(0,.ptr 0 0),(2,.ptr 1 0),(3,.ptr 2 0),(6,vj i_6)] [(0,.box [.sl 1 (Ai eI d_6.L),vj d_6.At] 91),(1,.box [.val (.slice none 0 0),.val (.slice none 0 0)] 67),(2,.box [.row 3,.row 4] 67),(3,.row 83 6 (Ai Aw.enc l_1)),(4,.row 111 2 (Ai Bl.enc l_6))] 5) G (Cd [(0,0),(1,1),(2,2),(3,3)]) ?_
 rintro⟨i_6,d_6,l_6⟩ m6 o6 G hn6
 unfold Bu.l6 at G
 refine Dx (.r 2 (.e 3)) fun _ B G=>?_
 refine Bg (D9 _ _ [69]) (by kernel_rfl) [0,1,0,4,12,0,0,108,252,508,1023,2047,4095] 21 125 B rfl rfl (by kernel_rfl) ?_
 refine Br 1 fun y_13 _ B G=>?_
 refine Rk Er z3 Ia ([10,100,3000]:List Int) eI ?_
 refine Br 1 fun y_14 _ B G=>?_
 refine M6 wD aPq aKp ?_
 refine Iz aPz aKp aRa ([(Bl.mk (W (1 + y_13.1)) y_14.1)]:List Bl) Bl.enc ?_
 exact Cj
instance aY2:Wk 23:=⟨_,@Sf⟩
theorem jN {d r} (G:Lx d=some r):Fn Tryz.prog 24 1 [.ptr 0 0] [.box [.sl 1 (Ai eI d.L),vj d.At] 91] (fun d' b'=>d'=.agg [.sl 1 (Ai eI r.1.Keys),vj r.1.Need]/\b'=[.box [.sl 1 (Ai eI r.2.L),vj r.2.At] 91]):=by
 unfold Lx at G
 refine Ea 1 8 Tryz.func24 fun _ _ _=>?_
 refine Br 2 fun B G=>?_
 refine Iz Er z3 Ia ([51,52,53]:List Int) eI ?_
 refine Br 1 fun _ _ B G=>?_
 refine M6 wL aRf z70 ?_
 exact Cj
instance aZe:Wk 24:=⟨_,@jN⟩
theorem aG {client server p l o day weak r} (G:C1 client server p l o day weak=some r):Fn Tryz.prog 25 0 [.agg (Ac.dv client),.agg (Ac.dv server),.agg [.sl 6 (Ai Aw.enc p.Rules),.sl 2 (Ai Bl.enc p.Keeps)],.sl 7 (Ai Ah.enc l),.agg [.sl 1 (Ai eI o.Keys),vj o.Need],vj day,vj weak] [] (fun d' b'=>d'=.tup [.sl 4 (Ai Aa.enc r.1),vj r.2]/\b'=[]):=by
 unfold C1 at G
 refine Ea 0 61 Tryz.func25 fun _ _ _=>?_
 refine Jf (.l 5 (.e 5)) fun y _ _ B G=>?_
 refine He (fun ((x36_1,out_1):Int×List Aa)=>mk [(3,.sl 7 (Ai Ah.enc l)),(5,vj day),(8,.ptr 0 0),(9,.ptr 1 0),(11,.ptr 2 0),(18,.row 3),(34,.sl 4 (Ai Aa.enc y.1)),(35,.val (.int .i64 (y.1.length:Int))),(36,vj x36_1)] [(0,.box (Ac.dv server) 29),(1,.box [.sl 6 (Ai Aw.enc p.Rules),.sl 2 (Ai Bl.enc p.Keeps)] 67),(2,.box [.sl 1 (Ai eI o.Keys),vj o.Need] 70),(3,.row 40 4 (Ai Aa.enc out_1))] 4) G (Cd [(0,8),(1,16),(2,24)]) ?_
 rintro⟨x36_1,out_1⟩ m1 o1 G hn1
 unfold C1.l1 at G
 refine Dx (.r 2 (.e 1)) fun _ B G=>?_
 refine A4 (ι:=List Aa) (fun (out_2:List Aa)=>mk [(3,.sl 7 (Ai Ah.enc l)),(5,vj day),(8,.ptr 0 0),(9,.ptr 1 0),(11,.ptr 2 0),(18,.row 3),(34,.sl 4 (Ai Aa.enc y.1)),(35,.val (.int .i64 (y.1.length:Int))),(36,vj x36_1)] [(0,.box (Ac.dv server) 29),(1,.box [.sl 6 (Ai Aw.enc p.Rules),.sl 2 (Ai Bl.enc p.Keeps)] 67),(2,.box [.sl 1 (Ai eI o.Keys),vj o.Need] 70),(3,.row 40 4 (Ai Aa.enc out_2))] 4) (fun (out_2:List Aa)=>C1.j2 x36_1 out_2=some o1) ?_ ?_
 refine Jf (.l 8 (.r 2 (.e 1))) fun e _ _ _ _ _ B G=>?_
 refine Iz aAi z40 Ms ([e]:List Aa) Aa.enc ?_
 exact Cj
 rintro out_2 G
 unfold C1.j2 at G
 exact Gn
instance aXy:Wk 25:=⟨_,@aG⟩
end Go.Proofs.YtobamahlipiakaaGreat
