import Derived.Test.YtobamahlipiakaaGreatT1
import Derived.Test.YtobamahlipiakaaGreatEU
import Derived.Test.YtobamahlipiakaaGreatA10
import Derived.Test.YtobamahlipiakaaGreatA12
import Derived.Test.YtobamahlipiakaaGreatA13
set_option linter.unusedVariables false
set_option linter.unusedSimpArgs false
set_option maxRecDepth 100000
set_option maxHeartbeats 40000000
namespace Go.Proofs.YtobamahlipiakaaGreat
open Go.RowKit
theorem Zw {l r} (G:Ey l=some r):Fn Tryz.prog 53 0 [.sl 15 (Ai Ae.enc l)] [] (fun d' b'=>d'=.sl 15 (Ai Ae.enc r)/\b'=[]):=by
 unfold Ey at G
 refine Ea 0 20 Tryz.func53 fun _ _ _=>?_
 refine Br 5 fun B G=>?_
 refine He (fun ((i_1,out_1):Int×List Ae)=>mk [(0,.sl 15 (Ai Ae.enc l)),(3,.row 0),(4,vj i_1)] [(0,.row 146 15 (Ai Ae.enc out_1))] 1) G (Cd []) ?_
 rintro⟨i_1,out_1⟩ m1 o1 G hn1
 unfold Ey.l1 at G
 refine Dx (.r 2 (.e 7)) fun _ _ _ y _ B G=>?_
 refine Iz aHo aAz aE1 ([y]:List Ae) Ae.enc ?_
 exact Cj
instance aX4:Wk 53:=⟨_,@Zw⟩
theorem oY {e r} (G:Gl e=some r):Fn Tryz.prog 19 0 [.agg (Ac.dv e)] [] (fun d' b'=>d'=.agg (Ac.dv r)/\b'=[]):=by
 unfold Gl at G
 refine Ea 0 44 Tryz.func19 fun _ _ _=>?_
 refine Br 2 fun B G=>?_
 refine F0 rfl rfl (D0 Er z3 (by decide) rfl rfl rfl rfl Ia (cs:=[]) .nil rfl (l:=([]:List Int)) (f:=eI) rfl) rfl rfl ?_
 refine Br 2 fun l _ B G=>?_
 refine F0 rfl rfl (D0 Er z3 (by decide) rfl rfl rfl rfl Ia (cs:=[]) .nil rfl (l:=([]:List Int)) (f:=eI) rfl) rfl rfl ?_
 refine Br 2 fun l_2 _ B G=>?_
 refine F0 rfl rfl (D0 Er z3 (by decide) rfl rfl rfl rfl Ia (cs:=[]) .nil rfl (l:=([]:List Int)) (f:=eI) rfl) rfl rfl ?_
 refine Br 5 fun l_3 _ B G=>?_
 refine He (fun ((i_1,l_1):Int×List Al)=>mk [(1,.ptr 0 0),(2,.ptr 1 0),(3,.row 2),(4,vj i_1)] [(0,.box [vk e.Name,vj e.Least,vj e.Most,.row 3,.val (.bool e.OwnOrder),.sl 4 (Ai Al.enc e.Identities),.row 4,.row 5,.val (.bool e.Fallback)] 29),(1,.box [.val (.string (⟨#[]⟩:ByteArray)),.val (.int .i64 0),.val (.int .i64 0),.val (.slice none 0 0),.val (.bool false),.val (.slice none 0 0),.val (.slice none 0 0),.val (.slice none 0 0),.val (.bool false)] 29),(2,.row 89 4 (Ai Al.enc l_1)),(3,.row 3 1 (Ai eI l)),(4,.row 3 1 (Ai eI l_2)),(5,.row 3 1 (Ai eI l_3))] 6) G (Cd [(0,0),(1,8),(3,40),(4,88),(5,136)]) ?_
 rintro⟨i_1,l_1⟩ m1 o1 G hn1
 unfold Gl.l1 at G
 refine Dx (.r 2 (.e 9)) fun _ e_2 _ y _ B G=>?_
 refine Iz dH z89 uO ([(Al.mk e_2.Key e_2.KeyId y)]:List Al) Al.enc ?_
 exact Cj
instance aXz:Wk 19:=⟨_,@oY⟩
theorem eW {client server r} (G:Cw client server=some r):Fn Tryz.prog 21 0 [.agg (Ac.dv client),.agg (Ac.dv server)] [] (fun d' b'=>d'=.sl 2 (Ai Ap.enc r)/\b'=[]):=by
 unfold Cw at G
 refine Ea 0 47 Tryz.func21 fun _ _ _=>?_
 refine Br 1 fun B G=>?_
 refine Ay <| A4 (ι:=Bool) (fun (x15_1:Bool)=>mk [(2,.ptr 0 0),(3,.ptr 1 0),(15,.val (.bool x15_1))] [(0,.box (Ac.dv client) 29),(1,.box (Ac.dv server) 29)] 2) (fun (x15_1:Bool)=>Cw.j1 client server x15_1=some r) ?_ ?_
 exact Cj
 rintro x15_1 G
 unfold Cw.j1 at G
 refine Dx (.l 0 (.e 6)) fun _ B G=>?_
 refine He (fun ((v_2,out_2):Int×List Ap)=>mk [(2,.ptr 0 0),(3,.ptr 1 0),(5,.row 2),(6,vj v_2)] [(0,.box (Ac.dv client) 29),(1,.box (Ac.dv server) 29),(2,.row 38 2 (Ai Ap.enc out_2))] 3) G (Cd [(0,0),(1,1)]) ?_
 rintro⟨v_2,out_2⟩ m2 o2 G hn2
 unfold Cw.l2 at G
 refine Dx (.r 3 (.e 5)) fun _ B G=>?_
 refine He (fun ((s_3,out_3):Int×List Ap)=>mk [(2,.ptr 0 0),(3,.ptr 1 0),(5,.row 2),(6,vj v_2),(7,vj s_3)] [(0,.box (Ac.dv client) 29),(1,.box (Ac.dv server) 29),(2,.row 38 2 (Ai Ap.enc out_3))] 3) G (Cd [(0,0),(1,1),(2,2)]) ?_
 rintro⟨s_3,out_3⟩ m3 o3 G hn3
 unfold Cw.l3 at G
 refine Dx (.r 2 (.e 1)) fun _ B G=>?_
 refine A4 (ι:=List Ap) (fun (out_4:List Ap)=>mk [(2,.ptr 0 0),(3,.ptr 1 0),(5,.row 2),(6,vj v_2),(7,vj s_3)] [(0,.box (Ac.dv client) 29),(1,.box (Ac.dv server) 29),(2,.row 38 2 (Ai Ap.enc out_4))] 3) (fun (out_4:List Ap)=>Cw.j4 s_3 out_4=some o3) ?_ ?_
 refine Jf (.r 3 (.e 1)) fun _ _ _ B G=>?_
 refine M6 M8 Tq kM ?_
 refine Iz aRj kM aTp ([(Ap.mk v_2 s_3)]:List Ap) Ap.enc ?_
 exact Cj
 rintro out_4 G
 unfold Cw.j4 at G
 exact Gn
instance aXp:Wk 21:=⟨_,@eW⟩
end Go.Proofs.YtobamahlipiakaaGreat
