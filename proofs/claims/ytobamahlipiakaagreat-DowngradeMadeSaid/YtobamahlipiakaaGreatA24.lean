import Derived.Test.YtobamahlipiakaaGreatT1
import Derived.Test.YtobamahlipiakaaGreatEU
import Derived.Test.YtobamahlipiakaaGreatA1
import Derived.Test.YtobamahlipiakaaGreatA7
import Derived.Test.YtobamahlipiakaaGreatA8
import Derived.Test.YtobamahlipiakaaGreatA9
import Derived.Test.YtobamahlipiakaaGreatA12
import Derived.Test.YtobamahlipiakaaGreatA15
import Derived.Test.YtobamahlipiakaaGreatA19
import Derived.Test.YtobamahlipiakaaGreatA21
import Derived.Test.YtobamahlipiakaaGreatA22
import Derived.Test.YtobamahlipiakaaGreatA23
set_option linter.unusedVariables false
set_option linter.unusedSimpArgs false
set_option maxRecDepth 100000
set_option maxHeartbeats 40000000
namespace Go.Proofs.YtobamahlipiakaaGreat
open Go.RowKit
theorem Oy {l odd raw r} (G:B3 l odd raw=some r):Fn Tryz.prog 7 0 [.sl 1 (Ai eI l),.val (.int .u8 (odd.toNat:Int)),.agg [vj raw.Version,vj raw.Suite]] [] (fun d' b'=>d'=.val (.bool r)/\b'=[]):=by
 unfold B3 at G
 refine Ea 0 223 Tryz.func7 fun _ _ _=>?_
 refine Jf (.l 4 (.e 2)) fun _ _ _ B G=>?_
 obtain⟨y_3,hy_3,G⟩:=An G
 refine Jw (rd:=[]) (ps:=[]) (gs:=[]) false rfl (Nt hy_3) rfl rfl (.cons .sl .nil) rfl rfl (by intro h; cases h) rfl (by intro h; first | (cases h; done) | exact⟨_,_,⟨rfl,rfl⟩,by simp,by simp⟩) ?_
 rintro _ _ ⟨rfl,rfl⟩
 refine Br 3 fun y_4 _ B G=>?_
 obtain⟨y_5,hy_5,G⟩:=An G
 refine Jw (rd:=[48]) (ps:=[48]) (gs:=[]) false rfl (Sf hy_5) rfl rfl (.cons (.ptr rfl) .nil) ⟨_,_,_,rfl,.head _,⟨_,rfl,(by repeat' (first | exact K0.nil | apply K0.cons | exact Ag.val | exact Ag.sl | exact Ag.nils | exact Ag.ptr rfl | exact Ag.rowK rfl))⟩,rfl⟩ rfl (by intro h; cases h) rfl (by intro h; first | (cases h; done) | exact⟨_,_,⟨rfl,rfl⟩,by simp,by simp⟩) ?_
 rintro _ _ ⟨rfl,rfl⟩
 refine Br 2 fun y_6 _ B G=>?_
 refine M6 P5 Yb rV ?_
 refine Br 1 fun y_7 _ B G=>?_
 refine M6 P5 Yb rV ?_
 refine Br 1 fun y_8 _ B G=>?_
 refine Iz aOu z78 aSh ([y_7.1,y_8.1]:List Ah) Ah.enc ?_
 refine Br 0 fun B G=>?_
 refine Ay <| Ci (D9 _ _ [272,296]) 264 328 B rfl rfl ?_
 refine Br 0 fun B G=>?_
 refine Rk Er z3 Ia ([15,5,60]:List Int) eI ?_
 refine Br 1 fun y_9 _ B G=>?_
 refine Rk Er z3 Ia ([0,65,81,100,129,512]:List Int) eI ?_
 refine Br 1 fun y_10 _ B G=>?_
 refine A4 (ι:=Int×Int×Ad×Ac×Ac×List Ah×List Aw) (fun ((day_1,weak_1,d_1,c_1,s_1,x_1,l_1):Int×Int×Ad×Ac×Ac×List Ah×List Aw)=>mk [(1,.val (.int .u8 (odd.toNat:Int))),(5,.ptr 0 0),(7,.ptr 1 0),(8,.ptr 2 0),(9,.ptr 3 0),(10,.ptr 4 0),(11,.ptr 5 0),(12,.row 6),(13,vj day_1),(14,vj weak_1)] [(0,.box [vj raw.Version,vj raw.Suite] 38),(1,.box [.sl 1 (Ai eI d_1.L),vj d_1.At] 91),(2,.box (Ac.dv c_1) 29),(3,.box (Ac.dv s_1) 29),(4,.box [.row 7,.sl 2 (Ai Bl.enc y_5.1.Keeps)] 67),(5,.box [.sl 1 (Ai eI y_6.1.Keys),vj y_6.1.Need] 70),(6,.row 78 7 (Ai Ah.enc x_1)),(7,.row 83 6 (Ai Aw.enc l_1))] 8) (fun ((day_1,weak_1,d_1,c_1,s_1,x_1,l_1):Int×Int×Ad×Ac×Ac×List Ah×List Aw)=>B3.j1 odd raw y_5 y_6 day_1 weak_1 d_1 c_1 s_1 x_1 l_1=some r) ?_ ?_
 refine Jf (.l 4 (.l 1 (.e 1))) fun _ _ _ _ B G=>?_
 refine Kd rfl G (fun _ G=>?_) fun _ G=>?_
 refine Ci (D9 _ _ [400]) 392 424 B rfl rfl ?_
 refine Br 0 fun B G=>?_
 refine Rk Er z3 Ia ([-1,40001]:List Int) eI ?_
 exact Cj
 refine Br 1 fun B G=>?_
 refine Kd rfl G (fun _ G=>?_) fun _ G=>?_
 refine Ci (D9 _ _ [416]) 408 440 B rfl rfl ?_
 refine Br 0 fun B G=>?_
 refine Rk Er z3 Ia ([-1,513]:List Int) eI ?_
 exact Cj
 refine Br 1 fun B G=>?_
 refine Kd rfl G (fun _ G=>?_) fun _ G=>?_
 refine Br 1 fun B G=>?_
 refine M6 Zx aOf z83 ?_
 refine Iz aHz z83 aMv ([(Aw.mk false 77 0 0 0 0)]:List Aw) Aw.enc ?_
 exact Cj
 refine Jf (.r 1 (.e 2)) fun _ e he B G=>?_
 refine Sk (rd:=[248]) rfl rfl (Yi jA rfl (Ga Ah.enc_len (D5 he) (o:=2) (m:=1) (by decide) rfl) Ia (cs':=[.int .i64 0]) (.cons .int .nil) (T9 Ah.enc_len (D5 he) (o:=2) (x':=(Ah.mk e.Use 0 e.Endpoint e.Days e.Seals)) (aEi rfl) rfl rfl)) rfl rfl ?_
 exact Cj
 rintro⟨day_1,weak_1,d_1,c_1,s_1,x_1,l_1⟩ G
 unfold B3.j1 at G
 refine Lg 4 fun y_15 _ y_16 _ B G=>?_
 refine Ay <| Hg (σ':=mk [(1,.val (.int .u8 (odd.toNat:Int))),(5,.ptr 0 0),(7,.ptr 1 0),(8,.ptr 2 0),(9,.ptr 3 0),(10,.ptr 4 0),(11,.ptr 5 0),(12,.row 6),(13,vj day_1),(14,vj weak_1),(15,.sl 4 (Ai Aa.enc y_15.1)),(16,vj y_15.2),(17,.sl 4 (Ai Aa.enc y_16.1)),(18,vj y_16.2)] [(0,.box [vj raw.Version,vj raw.Suite] 38),(1,.box [.sl 1 (Ai eI d_1.L),vj d_1.At] 91),(2,.box (Ac.dv c_1) 29),(3,.box (Ac.dv s_1) 29),(4,.box [.sl 6 (Ai Aw.enc l_1),.sl 2 (Ai Bl.enc y_5.1.Keeps)] 67),(5,.box [.sl 1 (Ai eI y_6.1.Keys),vj y_6.1.Need] 70),(6,.row 78 7 (Ai Ah.enc x_1))] 7) (Cd [(0,0),(1,1),(2,2),(3,3),(4,4),(5,5),(6,6)]) ?_
 refine Hg (σ':=mk [(1,.val (.int .u8 (odd.toNat:Int))),(5,.ptr 0 0),(7,.ptr 1 0),(8,.ptr 2 0),(9,.ptr 3 0),(10,.ptr 4 0),(11,.ptr 5 0),(12,.sl 7 (Ai Ah.enc x_1)),(13,vj day_1),(14,vj weak_1),(15,.sl 4 (Ai Aa.enc y_15.1)),(16,vj y_15.2),(17,.sl 4 (Ai Aa.enc y_16.1)),(18,vj y_16.2)] [(0,.box [vj raw.Version,vj raw.Suite] 38),(1,.box [.sl 1 (Ai eI d_1.L),vj d_1.At] 91),(2,.box (Ac.dv c_1) 29),(3,.box (Ac.dv s_1) 29),(4,.box [.sl 6 (Ai Aw.enc l_1),.sl 2 (Ai Bl.enc y_5.1.Keeps)] 67),(5,.box [.sl 1 (Ai eI y_6.1.Keys),vj y_6.1.Need] 70)] 6) (Cd [(0,0),(1,1),(2,2),(3,3),(4,4),(5,5)]) ?_
 refine Br 7 fun y_17 _ y_18 _ y_19 _ y_20 _ B G=>?_
 refine M6 M8 Tq kM ?_
 refine Br 0 fun B G=>?_
 refine A4 (ι:=Ap) (fun (out_4:Ap)=>mk [(8,.ptr 0 0),(9,.ptr 1 0),(10,.ptr 2 0),(11,.ptr 3 0),(12,.sl 7 (Ai Ah.enc x_1)),(13,vj day_1),(14,vj weak_1),(15,.sl 4 (Ai Aa.enc y_15.1)),(16,vj y_15.2),(17,.sl 4 (Ai Aa.enc y_16.1)),(18,vj y_16.2),(19,.sl 4 (Ai Aa.enc y_17.1)),(20,vj y_17.2),(21,.sl 4 (Ai Aa.enc y_18.1)),(22,vj y_18.2),(23,.ptr 4 0)] [(0,.box (Ac.dv c_1) 29),(1,.box (Ac.dv s_1) 29),(2,.box [.sl 6 (Ai Aw.enc l_1),.sl 2 (Ai Bl.enc y_5.1.Keeps)] 67),(3,.box [.sl 1 (Ai eI y_6.1.Keys),vj y_6.1.Need] 70),(4,.box [vj out_4.Version,vj out_4.Suite] 38)] 5) (fun (out_4:Ap)=>B3.j4 y_5 y_6 day_1 weak_1 c_1 s_1 x_1 l_1 y_15 y_16 y_17 y_18 out_4=some r) ?_ ?_
 exact Cj
 rintro out_4 G
 unfold B3.j4 at G
 exact Gn
instance wk7:Wk 7:=⟨_,@Oy⟩
end Go.Proofs.YtobamahlipiakaaGreat
