import Derived.Test.YtobamahlipiakaaGreatT1
import Derived.Test.YtobamahlipiakaaGreatEU
import Derived.Test.YtobamahlipiakaaGreatA1
import Derived.Test.YtobamahlipiakaaGreatA8
import Derived.Test.YtobamahlipiakaaGreatA9
import Derived.Test.YtobamahlipiakaaGreatA12
import Derived.Test.YtobamahlipiakaaGreatA17
import Derived.Test.YtobamahlipiakaaGreatA19
set_option linter.unusedVariables false
set_option linter.unusedSimpArgs false
set_option maxRecDepth 100000
set_option maxHeartbeats 40000000
namespace Go.Proofs.YtobamahlipiakaaGreat
open Go.RowKit
theorem Oh {l r} (G:A8 l=some r):Fn Tryz.prog 6 0 [.sl 1 (Ai eI l)] [] (fun d' b'=>d'=.val (.bool r)/\b'=[]):=by
 unfold A8 at G
 refine Ea 0 129 Tryz.func6 fun _ _ _=>?_
 refine Jf (.l 4 (.e 2)) fun _ _ _ B G=>?_
 obtain⟨y_3,hy_3,G⟩:=An G
 refine Jw (rd:=[]) (ps:=[]) (gs:=[]) false rfl (Nt hy_3) rfl rfl (.cons .sl .nil) rfl rfl (by intro h; cases h) rfl (by intro h; first | (cases h; done) | exact⟨_,_,⟨rfl,rfl⟩,by simp,by simp⟩) ?_
 rintro _ _ ⟨rfl,rfl⟩
 refine Br 3 fun y_4 _ B G=>?_
 obtain⟨y_5,hy_5,G⟩:=An G
 refine Jw (rd:=[40]) (ps:=[40]) (gs:=[]) false rfl (Sf hy_5) rfl rfl (.cons (.ptr rfl) .nil) ⟨_,_,_,rfl,.head _,⟨_,rfl,(by repeat' (first | exact K0.nil | apply K0.cons | exact Ag.val | exact Ag.sl | exact Ag.nils | exact Ag.ptr rfl | exact Ag.rowK rfl))⟩,rfl⟩ rfl (by intro h; cases h) rfl (by intro h; first | (cases h; done) | exact⟨_,_,⟨rfl,rfl⟩,by simp,by simp⟩) ?_
 rintro _ _ ⟨rfl,rfl⟩
 refine Br 1 fun y_6 _ B G=>?_
 refine Ay <| Ci (D9 _ _ [200]) 192 224 B rfl rfl ?_
 refine Br 0 fun B G=>?_
 refine Rk Er z3 Ia ([0,65,100,300]:List Int) eI ?_
 refine Br 1 fun y_7 _ B G=>?_
 refine Ay <| Hg (σ':=mk [(4,.ptr 0 0),(5,.ptr 1 0),(6,.ptr 2 0),(7,.ptr 3 0),(8,vj y_7.1)] [(0,.box (Ac.dv y_4.1) 29),(1,.box (Ac.dv y_4.2.1) 29),(2,.box [.sl 6 (Ai Aw.enc y_5.1.Rules),.sl 2 (Ai Bl.enc y_5.1.Keeps)] 67),(3,.box [.sl 1 (Ai eI y_6.1.Keys),vj y_6.1.Need] 70)] 4) (Cd [(0,96),(1,104),(2,160),(3,168)]) ?_
 refine Br 9 fun y_8 _ y_9 _ B G=>?_
 refine He (fun ((bad_2,i_2,l_2):Bool×Int×List Int)=>mk [(4,.ptr 0 0),(5,.ptr 1 0),(6,.ptr 2 0),(7,.ptr 3 0),(8,vj y_7.1),(9,.sl 4 (Ai Aa.enc y_8.1)),(10,vj y_8.2),(11,.ptr 4 0),(12,.val (.bool bad_2)),(13,vj i_2)] [(0,.box (Ac.dv y_4.1) 29),(1,.box (Ac.dv y_4.2.1) 29),(2,.box [.sl 6 (Ai Aw.enc y_5.1.Rules),.sl 2 (Ai Bl.enc y_5.1.Keeps)] 67),(3,.box [.sl 1 (Ai eI y_6.1.Keys),vj y_6.1.Need] 70),(4,.box [vk y_9.Name,vj y_9.Least,vj y_9.Most,.row 5,.val (.bool y_9.OwnOrder),.sl 4 (Ai Al.enc y_9.Identities),.sl 1 (Ai eI y_9.Anchors),.sl 1 (Ai eI y_9.Hashes),.val (.bool y_9.Fallback)] 29),(5,.row 3 1 (Ai eI l_2))] 6) G (Cd [(0,0),(1,1),(2,2),(3,3),(4,108)]) ?_
 rintro⟨bad_2,i_2,l_2⟩ m2 o2 G hn2
 unfold A8.l2 at G
 refine Lg 2 fun B G=>?_
 refine Kd rfl G (fun _ G=>?_) fun _ G=>?_
 refine Br 1 fun B G=>?_
 refine A4 (ι:=Bool×List Int) (fun ((bad_4,l_4):Bool×List Int)=>mk [(4,.ptr 0 0),(5,.ptr 1 0),(6,.ptr 2 0),(7,.ptr 3 0),(8,vj y_7.1),(9,.sl 4 (Ai Aa.enc y_8.1)),(10,vj y_8.2),(11,.ptr 4 0),(12,.val (.bool bad_4)),(13,vj i_2)] [(0,.box (Ac.dv y_4.1) 29),(1,.box (Ac.dv y_4.2.1) 29),(2,.box [.sl 6 (Ai Aw.enc y_5.1.Rules),.sl 2 (Ai Bl.enc y_5.1.Keeps)] 67),(3,.box [.sl 1 (Ai eI y_6.1.Keys),vj y_6.1.Need] 70),(4,.box [vk y_9.Name,vj y_9.Least,vj y_9.Most,.row 5,.val (.bool y_9.OwnOrder),.sl 4 (Ai Al.enc y_9.Identities),.sl 1 (Ai eI y_9.Anchors),.sl 1 (Ai eI y_9.Hashes),.val (.bool y_9.Fallback)] 29),(5,.row 3 1 (Ai eI l_4))] 6) (fun ((bad_4,l_4):Bool×List Int)=>A8.j4 i_2 bad_4 l_4=some o2) ?_ ?_
 refine Br 1 fun B G=>?_
 refine Ay <| Bg (D9 _ _ []) (by kernel_rfl) [0,0,0,0,8,0,56,120,248,511,1023,2047,2047,4095,16383] 46 166 B rfl rfl (by kernel_rfl) ?_
 refine Br 2 fun e he B G=>?_
 refine M6 M8 Tq kM ?_
 refine Jf (.l 3 (.l 3 (.e 1))) fun y_10 _ _ _ B G=>?_
 refine A4 (ι:=Bool) (fun (bad_3:Bool)=>mk [(4,.ptr 0 0),(5,.ptr 1 0),(6,.ptr 2 0),(7,.ptr 3 0),(8,vj y_7.1),(9,.sl 4 (Ai Aa.enc y_8.1)),(10,vj y_8.2),(11,.ptr 4 0),(12,.val (.bool bad_3)),(13,vj i_2),(14,.val (.bool y_10.1))] [(0,.box (Ac.dv y_4.1) 29),(1,.box (Ac.dv y_4.2.1) 29),(2,.box [.sl 6 (Ai Aw.enc y_5.1.Rules),.sl 2 (Ai Bl.enc y_5.1.Keeps)] 67),(3,.box [.sl 1 (Ai eI y_6.1.Keys),vj y_6.1.Need] 70),(4,.box [vk y_9.Name,vj y_9.Least,vj y_9.Most,.row 5,.val (.bool y_9.OwnOrder),.sl 4 (Ai Al.enc y_9.Identities),.sl 1 (Ai eI y_9.Anchors),.sl 1 (Ai eI y_9.Hashes),.val (.bool y_9.Fallback)] 29),(5,.row 3 1 (Ai eI l_2))] 6) (fun (bad_3:Bool)=>A8.j3 i_2 l_2 e y_10 bad_3=some o2) ?_ ?_
 refine Bg (D9 _ _ []) (by kernel_rfl) [0,1,3,7,15,31,15,79,15,463,975,2047,4095,8191,16383] 198 318 B rfl rfl (by kernel_rfl) ?_
 exact Cj
 rintro bad_3 G
 unfold A8.j3 at G
 refine Dx (.r 1 (.e 0)) fun _ B G=>?_
 refine Bg (D9 _ _ []) (by kernel_rfl) [0,1,0,4,0,28,60,124,255,511,1023] 22 110 B rfl rfl (by kernel_rfl) ?_
 refine Br 1 fun B G=>?_
 refine Iz Er z3 Ia ([e]:List Int) eI ?_
 exact Cj
 rintro⟨bad_4,l_4⟩ G
 unfold A8.j4 at G
 exact Gn
 refine Br 1 fun B G=>?_
 refine Ay <| Hg (σ':=mk [(4,.ptr 0 0),(6,.ptr 1 0),(7,.ptr 2 0),(8,vj y_7.1),(9,.sl 4 (Ai Aa.enc y_8.1)),(10,vj y_8.2),(11,.ptr 3 0),(12,.val (.bool bad_2))] [(0,.box (Ac.dv y_4.1) 29),(1,.box [.sl 6 (Ai Aw.enc y_5.1.Rules),.sl 2 (Ai Bl.enc y_5.1.Keeps)] 67),(2,.box [.sl 1 (Ai eI y_6.1.Keys),vj y_6.1.Need] 70),(3,.box [vk y_9.Name,vj y_9.Least,vj y_9.Most,.sl 1 (Ai eI l_2),.val (.bool y_9.OwnOrder),.sl 4 (Ai Al.enc y_9.Identities),.sl 1 (Ai eI y_9.Anchors),.sl 1 (Ai eI y_9.Hashes),.val (.bool y_9.Fallback)] 29)] 4) (Cd [(0,0),(1,2),(2,3),(3,4)]) ?_
 exact Cj
instance wk6:Wk 6:=⟨_,@Oh⟩
end Go.Proofs.YtobamahlipiakaaGreat
