import Derived.Test.YtobamahlipiakaaGreatT1
import Derived.Test.YtobamahlipiakaaGreatEU
import Derived.Test.YtobamahlipiakaaGreatA9
import Derived.Test.YtobamahlipiakaaGreatA11
import Derived.Test.YtobamahlipiakaaGreatA13
import Derived.Test.YtobamahlipiakaaGreatA21
import Derived.Test.YtobamahlipiakaaGreatA22
set_option linter.unusedVariables false
set_option linter.unusedSimpArgs false
set_option maxRecDepth 100000
set_option maxHeartbeats 40000000
namespace Go.Proofs.YtobamahlipiakaaGreat
open Go.RowKit
theorem cZ {p u purpose day r} (G:Fv p u purpose day=some r):Fn Tryz.prog 159 0 [.agg [.sl 6 (Ai Aw.enc p.Rules),.sl 2 (Ai Bl.enc p.Keeps)],.agg [vj u.Alg,vj u.Bits],vj purpose,vj day] [] (fun d' b'=>d'=vj r/\b'=[]):=by
 unfold Fv at G
 refine Ea 0 28 Tryz.func159 fun _ _ _=>?_
 refine Br 4 fun B G=>?_
 refine He (fun (i_1:Int)=>mk [(2,vj purpose),(3,vj day),(4,.ptr 0 0),(5,.ptr 1 0),(9,vj i_1)] [(0,.box [.sl 6 (Ai Aw.enc p.Rules),.sl 2 (Ai Bl.enc p.Keeps)] 67),(1,.box [vj u.Alg,vj u.Bits] 45)] 2) G (Cd [(0,0),(1,8)]) ?_
 rintro i_1 m1 o1 G hn1
 unfold Fv.l1 at G
 refine Dx (.r 2 (.e 3)) fun _ B G=>?_
 refine Ay <| Bg (D9 _ _ []) (by kernel_rfl) [0,1,0,7,15,0,0,0,255] 18 90 B rfl rfl (by kernel_rfl) ?_
 exact Cj
instance aW0:Wk 159:=⟨_,@cZ⟩
theorem dF {p u purpose day r} (G:Ll p u purpose day=some r):Fn Tryz.prog 158 0 [.agg [.sl 6 (Ai Aw.enc p.Rules),.sl 2 (Ai Bl.enc p.Keeps)],.agg [vj u.Alg,vj u.Bits],vj purpose,vj day] [] (fun d' b'=>d'=.val (.bool r)/\b'=[]):=by
 unfold Ll at G
 refine Ea 0 25 Tryz.func158 fun _ _ _=>?_
 exact Cj
instance aV9:Wk 158:=⟨_,@dF⟩
theorem cN {p u purpose day r} (G:Ge p u purpose day=some r):Fn Tryz.prog 106 0 [.agg [.sl 6 (Ai Aw.enc p.Rules),.sl 2 (Ai Bl.enc p.Keeps)],.agg [vj u.Alg,vj u.Bits],vj purpose,vj day] [] (fun d' b'=>d'=.tup [.val (.bool r.1),vj r.2.1,vj r.2.2]/\b'=[]):=by
 unfold Ge at G
 refine Ea 0 35 Tryz.func106 fun _ _ _=>?_
 refine Jf (.l 5 (.e 1)) fun _ _ _ B G=>?_
 refine Ay <| A4 (ι:=Bool) (fun (x24_1:Bool)=>mk [(2,vj purpose),(3,vj day),(4,.ptr 0 0),(5,.ptr 1 0),(24,.val (.bool x24_1))] [(0,.box [.sl 6 (Ai Aw.enc p.Rules),.sl 2 (Ai Bl.enc p.Keeps)] 67),(1,.box [vj u.Alg,vj u.Bits] 45)] 2) (fun (x24_1:Bool)=>Ge.j1 p u purpose day x24_1=some r) ?_ ?_
 exact Cj
 rintro x24_1 G
 unfold Ge.j1 at G
 refine Dx (.l 0 (.e 1)) fun _ B G=>?_
 refine Ay <| Bg (D9 _ _ []) (by kernel_rfl) [0,0,0,0,15,0,0,0,0,511,1023,2047,4095] 2 106 Ij rfl rfl (by kernel_rfl) ?_
 exact Cj
instance aWp:Wk 106:=⟨_,@cN⟩
theorem sF {l r} (G:Iv l=some r):Fn Tryz.prog 107 0 [.sl 7 (Ai Ah.enc l)] [] (fun d' b'=>d'=vj r/\b'=[]):=by
 unfold Iv at G
 refine Ea 0 19 Tryz.func107 fun _ _ _=>?_
 refine Br 4 fun B G=>?_
 refine He (fun (i_1:Int)=>mk [(0,.sl 7 (Ai Ah.enc l)),(3,vj i_1)] [] 0) G (Cd []) ?_
 rintro i_1 m1 o1 G hn1
 unfold Iv.l1 at G
 exact Gn
instance aV1:Wk 107:=⟨_,@sF⟩
theorem jK {x' o r} (G:Cq x' o=some r):Fn Tryz.prog 160 0 [.agg (Ah.dv x'),.agg [.sl 1 (Ai eI o.Keys),vj o.Need]] [] (fun d' b'=>d'=.val (.bool r)/\b'=[]):=by
 unfold Cq at G
 refine Ea 0 54 Tryz.func160 fun _ _ _=>?_
 refine Br 3 fun y _ B G=>?_
 refine Ay <| A4 (ι:=Bool) (fun (x20_1:Bool)=>mk [(2,.ptr 0 0),(3,.ptr 1 0),(5,.sl 1 (Ai e8 y.1)),(20,.val (.bool x20_1))] [(0,.box (Ah.dv x') 78),(1,.box [.sl 1 (Ai eI o.Keys),vj o.Need] 70)] 2) (fun (x20_1:Bool)=>Cq.j1 x' o y x20_1=some r) ?_ ?_
 exact Cj
 rintro x20_1 G
 unfold Cq.j1 at G
 refine Dx (.l 0 (.e 5)) fun _ B G=>?_
 refine He (fun ((n_2,i_2):Int×Int)=>mk [(2,.ptr 0 0),(3,.ptr 1 0),(5,.sl 1 (Ai e8 y.1)),(7,vj n_2),(8,vj i_2)] [(0,.box (Ah.dv x') 78),(1,.box [.sl 1 (Ai eI o.Keys),vj o.Need] 70)] 2) G (Cd [(0,0),(1,1)]) ?_
 rintro⟨n_2,i_2⟩ m2 o2 G hn2
 unfold Cq.l2 at G
 refine Dx (.r 2 (.e 1)) fun _ B G=>?_
 refine A4 (ι:=Int) (fun (n_4:Int)=>mk [(2,.ptr 0 0),(3,.ptr 1 0),(5,.sl 1 (Ai e8 y.1)),(7,vj n_4),(8,vj i_2)] [(0,.box (Ah.dv x') 78),(1,.box [.sl 1 (Ai eI o.Keys),vj o.Need] 70)] 2) (fun (n_4:Int)=>Cq.j4 i_2 n_4=some o2) ?_ ?_
 refine Br 1 fun B G=>?_
 refine A4 (ι:=Bool) (fun (x47_3:Bool)=>mk [(2,.ptr 0 0),(3,.ptr 1 0),(5,.sl 1 (Ai e8 y.1)),(7,vj n_2),(8,vj i_2),(47,.val (.bool x47_3))] [(0,.box (Ah.dv x') 78),(1,.box [.sl 1 (Ai eI o.Keys),vj o.Need] 70)] 2) (fun (x47_3:Bool)=>Cq.j3 n_2 i_2 x47_3=some o2) ?_ ?_
 refine Bg (D9 _ _ []) (by kernel_rfl) [0,1,0,7,15,31,0,64,255,511,1023,2047,1023,5119,1023,29695,62463,127999,262143,524287] 42 202 B rfl rfl (by kernel_rfl) ?_
 exact Cj
 rintro x47_3 G
 unfold Cq.j3 at G
 exact Gn
 rintro n_4 G
 unfold Cq.j4 at G
 exact Gn
instance aU4:Wk 160:=⟨_,@jK⟩
theorem iV {x' u purpose endpoint day r} (G:Om x' u purpose endpoint day=some r):Fn Tryz.prog 161 0 [.agg (Ah.dv x'),.agg [vj u.Alg,vj u.Bits],vj purpose,vk endpoint,vj day] [] (fun d' b'=>d'=.val (.bool r)/\b'=[]):=by
 unfold Om at G
 refine Ea 0 41 Tryz.func161 fun _ _ _=>?_
 refine Br 2 fun B G=>?_
 refine F0 rfl rfl (T5 x'.Use u) rfl rfl ?_
 exact Cj
instance aU7:Wk 161:=⟨_,@iV⟩
theorem cT {l o u purpose endpoint day r} (G:Eo l o u purpose endpoint day=some r):Fn Tryz.prog 108 0 [.sl 7 (Ai Ah.enc l),.agg [.sl 1 (Ai eI o.Keys),vj o.Need],.agg [vj u.Alg,vj u.Bits],vj purpose,vk endpoint,vj day] [] (fun d' b'=>d'=.val (.bool r)/\b'=[]):=by
 unfold Eo at G
 refine Ea 0 37 Tryz.func108 fun _ _ _=>?_
 refine Br 4 fun B G=>?_
 refine He (fun (i_1:Int)=>mk [(0,.sl 7 (Ai Ah.enc l)),(3,vj purpose),(4,vk endpoint),(5,vj day),(7,.ptr 0 0),(8,.ptr 1 0),(13,vj i_1)] [(0,.box [.sl 1 (Ai eI o.Keys),vj o.Need] 70),(1,.box [vj u.Alg,vj u.Bits] 45)] 2) G (Cd [(0,0),(1,8)]) ?_
 rintro i_1 m1 o1 G hn1
 unfold Eo.l1 at G
 refine Dx (.r 2 (.e 3)) fun _ B G=>?_
 refine A4 (ι:=Bool) (fun (x36_2:Bool)=>mk [(0,.sl 7 (Ai Ah.enc l)),(3,vj purpose),(4,vk endpoint),(5,vj day),(7,.ptr 0 0),(8,.ptr 1 0),(13,vj i_1),(36,.val (.bool x36_2))] [(0,.box [.sl 1 (Ai eI o.Keys),vj o.Need] 70),(1,.box [vj u.Alg,vj u.Bits] 45)] 2) (fun (x36_2:Bool)=>Eo.j2 i_1 x36_2=some o1) ?_ ?_
 refine Bg (D9 _ _ []) (by kernel_rfl) [0,0,3,7,0,31,63,127,127,511,1023,127,127,127,127,32767,65535] 34 170 B rfl rfl (by kernel_rfl) ?_
 exact Cj
 rintro x36_2 G
 unfold Eo.j2 at G
 exact Gn
instance aVl:Wk 108:=⟨_,@cT⟩
theorem cY {p l o u purpose endpoint day r} (G:Lq p l o u purpose endpoint day=some r):Fn Tryz.prog 64 0 [.agg [.sl 6 (Ai Aw.enc p.Rules),.sl 2 (Ai Bl.enc p.Keeps)],.sl 7 (Ai Ah.enc l),.agg [.sl 1 (Ai eI o.Keys),vj o.Need],.agg [vj u.Alg,vj u.Bits],vj purpose,vk endpoint,vj day] [] (fun d' b'=>d'=.tup [.val (.bool r.1),vj r.2]/\b'=[]):=by
 unfold Lq at G
 refine Ea 0 47 Tryz.func64 fun _ _ _=>?_
 exact Cj
instance aY7:Wk 64:=⟨_,@cY⟩
theorem Zl {p l o server out day r} (G:C8 p l o server out day=some r):Fn Tryz.prog 33 0 [.agg [.sl 6 (Ai Aw.enc p.Rules),.sl 2 (Ai Bl.enc p.Keeps)],.sl 7 (Ai Ah.enc l),.agg [.sl 1 (Ai eI o.Keys),vj o.Need],.agg (Ac.dv server),.agg [vj out.Version,vj out.Suite],vj day] [] (fun d' b'=>d'=.tup [.val (.bool r.1),vj r.2]/\b'=[]):=by
 unfold C8 at G
 refine Ea 0 58 Tryz.func33 fun _ _ _=>?_
 refine Jf (.l 5 (.e 5)) fun y _ _ B G=>?_
 refine He (fun ((bad_1,i_1):Bool×Int)=>mk [(1,.sl 7 (Ai Ah.enc l)),(5,vj day),(6,.ptr 0 0),(8,.ptr 1 0),(9,.ptr 2 0),(14,.sl 2 (Ai Ao.enc y.1)),(16,.val (.bool bad_1)),(17,vj i_1)] [(0,.box [.sl 6 (Ai Aw.enc p.Rules),.sl 2 (Ai Bl.enc p.Keeps)] 67),(1,.box [.sl 1 (Ai eI o.Keys),vj o.Need] 70),(2,.box (Ac.dv server) 29)] 3) G (Cd [(0,0),(1,8),(2,16)]) ?_
 rintro⟨bad_1,i_1⟩ m1 o1 G hn1
 unfold C8.l1 at G
 refine Dx (.r 2 (.e 1)) fun _ B G=>?_
 refine A4 (ι:=Bool) (fun (bad_2:Bool)=>mk [(1,.sl 7 (Ai Ah.enc l)),(5,vj day),(6,.ptr 0 0),(8,.ptr 1 0),(9,.ptr 2 0),(14,.sl 2 (Ai Ao.enc y.1)),(16,.val (.bool bad_2)),(17,vj i_1)] [(0,.box [.sl 6 (Ai Aw.enc p.Rules),.sl 2 (Ai Bl.enc p.Keeps)] 67),(1,.box [.sl 1 (Ai eI o.Keys),vj o.Need] 70),(2,.box (Ac.dv server) 29)] 3) (fun (bad_2:Bool)=>C8.j2 i_1 bad_2=some o1) ?_ ?_
 refine Br 1 fun B G=>?_
 refine Ay <| Bg (D9 _ _ []) (by kernel_rfl) [0,0,0,0,0,24,56,0,128,0,1023,2047,4095,4095,8191,32767] 35 163 B rfl rfl (by kernel_rfl) ?_
 exact Cj
 rintro bad_2 G
 unfold C8.j2 at G
 exact Gn
instance aX5:Wk 33:=⟨_,@Zl⟩
theorem nQ {client server p l o day weak r} (G:E2 client server p l o day weak=some r):Fn Tryz.prog 30 0 [.agg (Ac.dv client),.agg (Ac.dv server),.agg [.sl 6 (Ai Aw.enc p.Rules),.sl 2 (Ai Bl.enc p.Keeps)],.sl 7 (Ai Ah.enc l),.agg [.sl 1 (Ai eI o.Keys),vj o.Need],vj day,vj weak] [] (fun d' b'=>d'=.tup [.sl 4 (Ai Aa.enc r.1),vj r.2]/\b'=[]):=by
 unfold E2 at G
 refine Ea 0 65 Tryz.func30 fun _ _ _=>?_
 refine Jf (.l 5 (.e 5)) fun y _ _ B G=>?_
 refine He (fun ((i_1,out_1):Int×List Aa)=>mk [(3,.sl 7 (Ai Ah.enc l)),(5,vj day),(8,.ptr 0 0),(9,.ptr 1 0),(11,.ptr 2 0),(16,.sl 4 (Ai Aa.enc y.1)),(18,.row 3),(19,vj i_1)] [(0,.box (Ac.dv server) 29),(1,.box [.sl 6 (Ai Aw.enc p.Rules),.sl 2 (Ai Bl.enc p.Keeps)] 67),(2,.box [.sl 1 (Ai eI o.Keys),vj o.Need] 70),(3,.row 40 4 (Ai Aa.enc out_1))] 4) G (Cd [(0,8),(1,16),(2,24)]) ?_
 rintro⟨i_1,out_1⟩ m1 o1 G hn1
 unfold E2.l1 at G
 refine Dx (.r 2 (.e 1)) fun _ B G=>?_
 refine A4 (ι:=List Aa) (fun (out_2:List Aa)=>mk [(3,.sl 7 (Ai Ah.enc l)),(5,vj day),(8,.ptr 0 0),(9,.ptr 1 0),(11,.ptr 2 0),(16,.sl 4 (Ai Aa.enc y.1)),(18,.row 3),(19,vj i_1)] [(0,.box (Ac.dv server) 29),(1,.box [.sl 6 (Ai Aw.enc p.Rules),.sl 2 (Ai Bl.enc p.Keeps)] 67),(2,.box [.sl 1 (Ai eI o.Keys),vj o.Need] 70),(3,.row 40 4 (Ai Aa.enc out_2))] 4) (fun (out_2:List Aa)=>E2.j2 i_1 out_2=some o1) ?_ ?_
 refine Br 1 fun B G=>?_
 refine Ay <| Bg (D9 _ _ []) (by kernel_rfl) [0,0,0,0,0,0,48,112,240,0,1023,2047,4095,4095,8191,32767] 36 164 B rfl rfl (by kernel_rfl) ?_
 refine Jf (.l 6 (.r 2 (.e 2))) fun e _ _ _ _ _ B G=>?_
 refine Iz aAi z40 Ms ([e]:List Aa) Aa.enc ?_
 exact Cj
 rintro out_2 G
 unfold E2.j2 at G
 exact Gn
instance aZ3:Wk 30:=⟨_,@nQ⟩
theorem cO {client server day weak o r} (G:Fs client server day weak o=some r):Fn Tryz.prog 32 0 [.agg (Ac.dv client),.agg (Ac.dv server),vj day,vj weak,.agg [vj o.Version,vj o.Suite]] [] (fun d' b'=>d'=.tup [.val (.bool r.1),vj r.2]/\b'=[]):=by
 unfold Fs at G
 refine Ea 0 39 Tryz.func32 fun _ _ _=>?_
 refine Jf (.l 5 (.e 4)) fun y _ _ B G=>?_
 refine He (fun (i_1:Int)=>mk [(9,.ptr 0 0),(12,.sl 4 (Ai Aa.enc y.1)),(14,vj i_1)] [(0,.box [vj o.Version,vj o.Suite] 38)] 1) G (Cd [(0,16)]) ?_
 rintro i_1 m1 o1 G hn1
 unfold Fs.l1 at G
 refine Dx (.r 2 (.e 3)) fun _ B G=>?_
 refine Ay <| Bg (D9 _ _ []) (by kernel_rfl) [0,0,3,7,15,0,63] 33 89 B rfl rfl (by kernel_rfl) ?_
 refine Br 3 fun e _ B G=>?_
 refine F0 rfl rfl (Pb e.Outcome o) rfl rfl ?_
 exact Cj
instance aX6:Wk 32:=⟨_,@cO⟩
theorem qC {a b r} (G:Ez a b=some r):Fn Tryz.prog 34 0 [.sl 4 (Ai Aa.enc a),.sl 4 (Ai Aa.enc b)] [] (fun d' b'=>d'=.val (.bool r)/\b'=[]):=by
 unfold Ez at G
 refine Ea 0 55 Tryz.func34 fun _ _ _=>?_
 refine Jf (.l 3 (.e 4)) fun _ B G=>?_
 refine He (fun (i_1:Int)=>mk [(0,.sl 4 (Ai Aa.enc a)),(1,.sl 4 (Ai Aa.enc b)),(5,vj i_1)] [] 0) G (Cd []) ?_
 rintro i_1 m1 o1 G hn1
 unfold Ez.l1 at G
 refine Dx (.r 2 (.e 3)) fun _ B G=>?_
 refine A4 (ι:=Bool) (fun (x54_2:Bool)=>mk [(0,.sl 4 (Ai Aa.enc a)),(1,.sl 4 (Ai Aa.enc b)),(5,vj i_1),(54,.val (.bool x54_2))] [] 0) (fun (x54_2:Bool)=>Ez.j2 i_1 x54_2=some o1) ?_ ?_
 refine Bg (D9 _ _ []) (by kernel_rfl) [0,0,3,7,15,0,0,96,224,480,1023,2047,4095,4095,16383,32767,65535,4095,4095,397311,921599,1970175,4194303,8388607,16777215,33554431,33554431,134217727,268435455,536870911,33554431,33554431,3254779903,7549747199,16139681791,34359738367,68719476735,137438953471] 32 336 B rfl rfl (by kernel_rfl) ?_
 refine Br 6 fun e he e_2 he_2 B G=>?_
 refine F0 rfl rfl (X4 e.Outcome e_2.Outcome) rfl rfl ?_
 exact Cj
 rintro x54_2 G
 unfold Ez.j2 at G
 exact Gn
instance aYl:Wk 34:=⟨_,@qC⟩
end Go.Proofs.YtobamahlipiakaaGreat
