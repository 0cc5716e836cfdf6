import Derived.Test.YtobamahlipiakaaGreatT1
import Derived.Test.YtobamahlipiakaaGreatEU
import Derived.Test.YtobamahlipiakaaGreatA9
import Derived.Test.YtobamahlipiakaaGreatA10
import Derived.Test.YtobamahlipiakaaGreatA12
import Derived.Test.YtobamahlipiakaaGreatA13
import Derived.Test.YtobamahlipiakaaGreatA21
set_option linter.unusedVariables false
set_option linter.unusedSimpArgs false
set_option maxRecDepth 100000
set_option maxHeartbeats 40000000
namespace Go.Proofs.YtobamahlipiakaaGreat
open Go.RowKit
theorem qT {client server day weak r} (G:A5 client server day weak=some r):Fn Tryz.prog 29 0 [.agg (Ac.dv client),.agg (Ac.dv server),vj day,vj weak] [] (fun d' b'=>d'=.tup [.sl 4 (Ai Aa.enc r.1),vj r.2]/\b'=[]):=by
 unfold A5 at G
 refine Ea 0 131 Tryz.func29 fun _ _ _=>?_
 refine Br 1 fun B G=>?_
 refine Ay <| A4 (ι:=Bool) (fun (x27_1:Bool)=>mk [(2,vj day),(3,vj weak),(4,.ptr 0 0),(5,.ptr 1 0),(27,.val (.bool x27_1))] [(0,.box (Ac.dv client) 29),(1,.box (Ac.dv server) 29)] 2) (fun (x27_1:Bool)=>A5.j1 client server day weak x27_1=some r) ?_ ?_
 exact Cj
 rintro x27_1 G
 unfold A5.j1 at G
 refine Dx (.l 0 (.e 1)) fun _ B G=>?_
 refine Ay <| A4 (ι:=Bool) (fun (x41_2:Bool)=>mk [(2,vj day),(3,vj weak),(4,.ptr 0 0),(5,.ptr 1 0),(41,.val (.bool x41_2))] [(0,.box (Ac.dv client) 29),(1,.box (Ac.dv server) 29)] 2) (fun (x41_2:Bool)=>A5.j2 client server day weak x41_2=some r) ?_ ?_
 exact Cj
 rintro x41_2 G
 unfold A5.j2 at G
 refine Dx (.l 0 (.e 2)) fun _ B G=>?_
 refine A4 (ι:=List Aa) (fun (out_6:List Aa)=>mk [(2,vj day),(3,vj weak),(4,.ptr 0 0),(5,.ptr 1 0),(10,.sl 4 (Ai Aa.enc out_6))] [(0,.box (Ac.dv client) 29),(1,.box (Ac.dv server) 29)] 2) (fun (out_6:List Aa)=>A5.j6 client server day weak out_6=some r) ?_ ?_
 refine Br 2 fun B G=>?_
 refine He (fun ((out_3,v_3):List Aa×Int)=>mk [(2,vj day),(3,vj weak),(4,.ptr 0 0),(5,.ptr 1 0),(10,.sl 4 (Ai Aa.enc out_3)),(11,vj v_3)] [(0,.box (Ac.dv client) 29),(1,.box (Ac.dv server) 29)] 2) G (Cd [(0,0),(1,1)]) ?_
 rintro⟨out_3,v_3⟩ m3 o3 G hn3
 unfold A5.l3 at G
 refine Dx (.r 2 (.e 1)) fun _ B G=>?_
 refine A4 (ι:=List Aa) (fun (out_5:List Aa)=>mk [(2,vj day),(3,vj weak),(4,.ptr 0 0),(5,.ptr 1 0),(10,.sl 4 (Ai Aa.enc out_5)),(11,vj v_3)] [(0,.box (Ac.dv client) 29),(1,.box (Ac.dv server) 29)] 2) (fun (out_5:List Aa)=>A5.j5 v_3 out_5=some o3) ?_ ?_
 refine Br 1 fun B G=>?_
 refine Ay <| A4 (ι:=Bool) (fun (x58_4:Bool)=>mk [(2,vj day),(3,vj weak),(4,.ptr 0 0),(5,.ptr 1 0),(10,.sl 4 (Ai Aa.enc out_3)),(11,vj v_3),(58,.val (.bool x58_4))] [(0,.box (Ac.dv client) 29),(1,.box (Ac.dv server) 29)] 2) (fun (x58_4:Bool)=>A5.j4 client server day weak out_3 v_3 x58_4=some o3) ?_ ?_
 exact Cj
 rintro x58_4 G
 unfold A5.j4 at G
 refine Dx (.l 0 (.r 4 (.e 0))) fun _ _ _ _ B G=>?_
 refine Bg (D9 _ _ [170]) (by kernel_rfl) [0,0,0,0,0,16,56,126,255,511] 122 202 B rfl rfl (by kernel_rfl) ?_
 refine Br 0 fun B G=>?_
 refine F0 rfl rfl (D0 Er z3 (by decide) rfl rfl rfl rfl Ia (cs:=[]) .nil rfl (l:=([]:List Int)) (f:=eI) rfl) rfl rfl ?_
 refine Br 0 fun B G=>?_
 obtain⟨l,hl,G⟩:=An G
 refine wA (rd:=[146]) rfl rfl (Lw Er Mu .row rfl .sl rfl hl rfl) rfl rfl rfl ?_
 refine M6 mS aL1 z40 ?_
 exact Cj
 rintro out_5 G
 unfold A5.j5 at G
 exact Gn
 rintro out_6 G
 unfold A5.j6 at G
 refine Lg 3 fun B G=>?_
 refine He (fun ((out_7,v_7):List Aa×Int)=>mk [(2,vj day),(3,vj weak),(4,.ptr 0 0),(5,.ptr 1 0),(10,.sl 4 (Ai Aa.enc out_7)),(14,vj v_7)] [(0,.box (Ac.dv client) 29),(1,.box (Ac.dv server) 29)] 2) G (Cd [(0,0),(1,1)]) ?_
 rintro⟨out_7,v_7⟩ m7 o7 G hn7
 unfold A5.l7 at G
 refine Dx (.r 2 (.e 5)) fun _ B G=>?_
 refine He (fun ((out_8,i_8):List Aa×Int)=>mk [(2,vj day),(3,vj weak),(4,.ptr 0 0),(5,.ptr 1 0),(10,.sl 4 (Ai Aa.enc out_8)),(14,vj v_7),(15,vj i_8)] [(0,.box (Ac.dv client) 29),(1,.box (Ac.dv server) 29)] 2) G (Cd [(0,0),(1,1)]) ?_
 rintro⟨out_8,i_8⟩ m8 o8 G hn8
 unfold A5.l8 at G
 refine Dx (.r 2 (.e 1)) fun _ B G=>?_
 refine A4 (ι:=List Aa) (fun (out_9:List Aa)=>mk [(2,vj day),(3,vj weak),(4,.ptr 0 0),(5,.ptr 1 0),(10,.sl 4 (Ai Aa.enc out_9)),(14,vj v_7),(15,vj i_8)] [(0,.box (Ac.dv client) 29),(1,.box (Ac.dv server) 29)] 2) (fun (out_9:List Aa)=>A5.j9 i_8 out_9=some o8) ?_ ?_
 refine Jf (.l 8 (.e 2)) fun _ _ y_5 _ _ _ _ B G=>?_
 refine Iz Er z3 Ia ([y_5.1.Code]:List Int) eI ?_
 obtain⟨y_7,hy_7,G⟩:=An G
 refine R9 [226] [] [] true (T2 hy_7) ?_
 refine Jf (.r 1 (.e 0)) fun _ B G=>?_
 refine Ci (D9 _ _ [346]) 306 378 B rfl rfl ?_
 refine Br 0 fun B G=>?_
 refine Rk Er z3 Ia ([y_5.1.Code]:List Int) eI ?_
 refine M6 mS aL1 z40 ?_
 exact Cj
 rintro out_9 G
 unfold A5.j9 at G
 exact Gn
instance aZp:Wk 29:=⟨_,@qT⟩
theorem pW {server o r} (G:G8 server o=some r):Fn Tryz.prog 63 0 [.agg (Ac.dv server),.agg [vj o.Version,vj o.Suite]] [] (fun d' b'=>d'=.tup [.sl 2 (Ai Ao.enc r.1),vj r.2]/\b'=[]):=by
 unfold G8 at G
 refine Ea 0 54 Tryz.func63 fun _ _ _=>?_
 refine Jf (.l 4 (.l 5 (.l 5 (.e 5)))) fun _ _ _ y_2 _ _ _ _ _ e _ B G=>?_
 refine A4 (ι:=Int) (fun (s_1:Int)=>mk [(6,.ptr 0 0),(10,.ptr 1 0)] [(0,.box [vj y_2.1.Code,vk y_2.1.Name,vj y_2.1.Exchange.Alg,vj s_1,vj y_2.1.Sign.Alg,vj y_2.1.Sign.Bits,vj y_2.1.Cipher.Alg,vj y_2.1.Cipher.Bits,vj y_2.1.Mac.Alg,vj y_2.1.Mac.Bits,vj y_2.1.Least,vj y_2.1.Most] 47),(1,.box [vj e.Key.Alg,vj e.Key.Bits] 45)] 2) (fun (s_1:Int)=>G8.j1 y_2 e s_1=some r) ?_ ?_
 exact Cj
 rintro s_1 G
 unfold G8.j1 at G
 refine Lg 1 fun B G=>?_
 refine Iz aFo rV aOy ([(Ao.mk y_2.1.Exchange.Alg s_1),e.Key,y_2.1.Cipher,y_2.1.Mac]:List Ao) Ao.enc ?_
 exact Cj
instance aYf:Wk 63:=⟨_,@pW⟩
theorem jG {r' r} (G:Pf r'=some r):Fn Tryz.prog 211 0 [.agg (Aw.dv r')] [] (fun d' b'=>d'=.val (.bool r)/\b'=[]):=by
 unfold Pf at G
 refine Ea 0 48 Tryz.func211 fun _ _ _=>?_
 exact Cj
instance aWk:Wk 211:=⟨_,@jG⟩
theorem nK {k r} (G:Qg k=some r):Fn Tryz.prog 212 0 [.agg [vj k.Purpose,vj k.Days]] [] (fun d' b'=>d'=.val (.bool r)/\b'=[]):=by
 unfold Qg at G
 refine Ea 0 21 Tryz.func212 fun _ _ _=>?_
 exact Cj
instance aV2:Wk 212:=⟨_,@nK⟩
theorem kG {p r} (G:Du p=some r):Fn Tryz.prog 189 0 [.agg [.sl 6 (Ai Aw.enc p.Rules),.sl 2 (Ai Bl.enc p.Keeps)]] [] (fun d' b'=>d'=vj r/\b'=[]):=by
 unfold Du at G
 refine Ea 0 43 Tryz.func189 fun _ _ _=>?_
 refine Br 1 fun B G=>?_
 refine Ay <| A4 (ι:=Bool) (fun (x14_1:Bool)=>mk [(1,.ptr 0 0),(14,.val (.bool x14_1))] [(0,.box [.sl 6 (Ai Aw.enc p.Rules),.sl 2 (Ai Bl.enc p.Keeps)] 67)] 1) (fun (x14_1:Bool)=>Du.j1 p x14_1=some r) ?_ ?_
 exact Cj
 rintro x14_1 G
 unfold Du.j1 at G
 refine Dx (.l 0 (.e 4)) fun _ B G=>?_
 refine He (fun (i_2:Int)=>mk [(1,.ptr 0 0),(3,vj i_2)] [(0,.box [.sl 6 (Ai Aw.enc p.Rules),.sl 2 (Ai Bl.enc p.Keeps)] 67)] 1) G (Cd [(0,0)]) ?_
 rintro i_2 m2 o2 G hn2
 unfold Du.l2 at G
 refine Dx (.l 2 (.e 4)) fun _ B G=>?_
 refine He (fun (i_3:Int)=>mk [(1,.ptr 0 0),(4,vj i_3)] [(0,.box [.sl 6 (Ai Aw.enc p.Rules),.sl 2 (Ai Bl.enc p.Keeps)] 67)] 1) G (Cd [(0,0)]) ?_
 rintro i_3 m3 o3 G hn3
 unfold Du.l3 at G
 exact Gn
instance aWh:Wk 189:=⟨_,@kG⟩
theorem kU {p u purpose r} (G:Hk p u purpose=some r):Fn Tryz.prog 157 0 [.agg [.sl 6 (Ai Aw.enc p.Rules),.sl 2 (Ai Bl.enc p.Keeps)],.agg [vj u.Alg,vj u.Bits],vj purpose] [] (fun d' b'=>d'=vj r/\b'=[]):=by
 unfold Hk at G
 refine Ea 0 22 Tryz.func157 fun _ _ _=>?_
 refine Jf (.l 5 (.l 4 (.e 1))) fun _ _ _ _ _ _ B G=>?_
 refine Ay <| A4 (ι:=Bool) (fun (x21_1:Bool)=>mk [(21,.val (.bool x21_1))] [] 0) (fun (x21_1:Bool)=>Hk.j1 x21_1=some r) ?_ ?_
 exact Cj
 rintro x21_1 G
 unfold Hk.j1 at G
 exact Gn
instance aW9:Wk 157:=⟨_,@kU⟩
theorem cI {r' u purpose day r} (G:Lu r' u purpose day=some r):Fn Tryz.prog 190 0 [.agg (Aw.dv r'),.agg [vj u.Alg,vj u.Bits],vj purpose,vj day] [] (fun d' b'=>d'=.val (.bool r)/\b'=[]):=by
 unfold Lu at G
 refine Ea 0 59 Tryz.func190 fun _ _ _=>?_
 exact Cj
instance aXf:Wk 190:=⟨_,@cI⟩
end Go.Proofs.YtobamahlipiakaaGreat
