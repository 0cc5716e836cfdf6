import Derived.Test.YtchpcpaacenodaaGreatPC
import Derived.Test.YtchpcpaacenodaaGreatP1
set_option linter.unusedVariables false
set_option linter.unusedSimpArgs false
namespace Go.Proofs.YtchpcpaacenodaaGreat
theorem Kw {cmp:Aa->Aa->Option (Int)}:Vf (fun rec (x:List Aa×Int×Int×Int)=>Ai.F (fun data a b limit=>rec (data,a,b,limit)) x.1 x.2.1 x.2.2.1 x.2.2.2 cmp):=fun p q h a=>by
 show Hb (Ai.F _ _ _ _ _ _) (Ai.F _ _ _ _ _ _)
 unfold Ai.F
 refine Hb.lp (fun _=>?_) _
 unfold Ai.l1 Ai.j2 Ai.j3 Ai.j4 Ai.j5 Ai.j6
 repeat' (with_reducible first | exact Hb.refl | apply Hb.cond_ | apply Hb.bind_ | apply Hb.up_ | apply h | intro _)
theorem m_ref01_copies.l1 {rec:(List Ah)->Option ((List Ah))} {l:(List Ah)} {i_1:Int} {out_1:List Ah} {rec_p:(List Ah)->Option ((List Ah))} (h_rec:∀ (x0:(List Ah)),Hb (rec x0) (rec_p x0)):Hb (C1.l1 rec l i_1 out_1) (C1.l1 rec_p l i_1 out_1):=by
 unfold C1.l1
 repeat' (with_reducible first | assumption | apply Hb.bind_ | apply Hb.cond_ | apply Hb.up_ | apply h_rec | exact Hb.refl | intro _)
theorem m_ref01_copies.F {rec:(List Ah)->Option ((List Ah))} {l:(List Ah)} {rec_p:(List Ah)->Option ((List Ah))} (h_rec:∀ (x0:(List Ah)),Hb (rec x0) (rec_p x0)):Hb (C1.F rec l) (C1.F rec_p l):=by
 unfold C1.F
 repeat' (with_reducible first | assumption | apply Hb.bind_ | apply Hb.cond_ | apply Hb.up_ | apply h_rec | apply m_ref01_copies.l1 | (refine Hb.lp (fun _=>?_) _) | exact Hb.refl | intro _)
theorem Wa:Vf (fun rec (x:(List Ah))=>C1.F (fun l=>rec l) x):=fun p q h a=>by
 apply m_ref01_copies.F
 intros
 apply h
theorem m_ref01_formed.l2 {rec:Ah->Option (Bool)} {v:Ah} {i_2:Int} {rec_p:Ah->Option (Bool)} (h_rec:∀ (x0:Ah),Hb (rec x0) (rec_p x0)):Hb (Bt.l2 rec v i_2) (Bt.l2 rec_p v i_2):=by
 unfold Bt.l2
 repeat' (with_reducible first | assumption | apply Hb.bind_ | apply Hb.cond_ | apply Hb.up_ | apply h_rec | exact Hb.refl | intro _)
theorem m_ref01_formed.j1 {rec:Ah->Option (Bool)} {v:Ah} {x38_1:Bool} {rec_p:Ah->Option (Bool)} (h_rec:∀ (x0:Ah),Hb (rec x0) (rec_p x0)):Hb (Bt.j1 rec v x38_1) (Bt.j1 rec_p v x38_1):=by
 unfold Bt.j1
 repeat' (with_reducible first | assumption | apply Hb.bind_ | apply Hb.cond_ | apply Hb.up_ | apply h_rec | apply m_ref01_formed.l2 | (refine Hb.lp (fun _=>?_) _) | exact Hb.refl | intro _)
theorem m_ref01_formed.F {rec:Ah->Option (Bool)} {v:Ah} {rec_p:Ah->Option (Bool)} (h_rec:∀ (x0:Ah),Hb (rec x0) (rec_p x0)):Hb (Bt.F rec v) (Bt.F rec_p v):=by
 unfold Bt.F
 repeat' (with_reducible first | assumption | apply Hb.bind_ | apply Hb.cond_ | apply Hb.up_ | apply h_rec | apply m_ref01_formed.j1 | exact Hb.refl | intro _)
theorem W2:Vf (fun rec (x:Ah)=>Bt.F (fun v=>rec v) x):=fun p q h a=>by
 apply m_ref01_formed.F
 intros
 apply h
theorem m_ref01_depth.l1 {rec:Ah->Option (Int)} {v:Ah} {d_1:Int} {i_1:Int} {rec_p:Ah->Option (Int)} (h_rec:∀ (x0:Ah),Hb (rec x0) (rec_p x0)):Hb (Dd.l1 rec v d_1 i_1) (Dd.l1 rec_p v d_1 i_1):=by
 unfold Dd.l1
 repeat' (with_reducible first | assumption | apply Hb.bind_ | apply Hb.cond_ | apply Hb.up_ | apply h_rec | exact Hb.refl | intro _)
theorem m_ref01_depth.F {rec:Ah->Option (Int)} {v:Ah} {rec_p:Ah->Option (Int)} (h_rec:∀ (x0:Ah),Hb (rec x0) (rec_p x0)):Hb (Dd.F rec v) (Dd.F rec_p v):=by
 unfold Dd.F
 repeat' (with_reducible first | assumption | apply Hb.bind_ | apply Hb.cond_ | apply Hb.up_ | apply h_rec | apply m_ref01_depth.l1 | (refine Hb.lp (fun _=>?_) _) | exact Hb.refl | intro _)
theorem Xs:Vf (fun rec (x:Ah)=>Dd.F (fun v=>rec v) x):=fun p q h a=>by
 apply m_ref01_depth.F
 intros
 apply h
theorem m_ref01_put.l1 {rec:Ah->Option ((List UInt8))} {v:Ah} {i_1:Int} {b_1:List UInt8} {rec_p:Ah->Option ((List UInt8))} (h_rec:∀ (x0:Ah),Hb (rec x0) (rec_p x0)):Hb (Dz.l1 rec v i_1 b_1) (Dz.l1 rec_p v i_1 b_1):=by
 unfold Dz.l1
 repeat' (with_reducible first | assumption | apply Hb.bind_ | apply Hb.cond_ | apply Hb.up_ | apply h_rec | exact Hb.refl | intro _)
theorem m_ref01_put.F {rec:Ah->Option ((List UInt8))} {v:Ah} {rec_p:Ah->Option ((List UInt8))} (h_rec:∀ (x0:Ah),Hb (rec x0) (rec_p x0)):Hb (Dz.F rec v) (Dz.F rec_p v):=by
 unfold Dz.F
 repeat' (with_reducible first | assumption | apply Hb.bind_ | apply Hb.cond_ | apply Hb.up_ | apply h_rec | apply m_ref01_put.l1 | (refine Hb.lp (fun _=>?_) _) | exact Hb.refl | intro _)
theorem Zy:Vf (fun rec (x:Ah)=>Dz.F (fun v=>rec v) x):=fun p q h a=>by
 apply m_ref01_put.F
 intros
 apply h
theorem Mc.l1 {s:(List Int)} {f:Int->Option (Bool)} {x8_1:Int} {f_p:Int->Option (Bool)} (h_f:∀ (x0:Int),Hb (f x0) (f_p x0)):Hb (Br.l1 s f x8_1) (Br.l1 s f_p x8_1):=by
 unfold Br.l1
 repeat' (with_reducible first | assumption | apply Hb.bind_ | apply Hb.cond_ | apply Hb.up_ | apply h_f | exact Hb.refl | intro _)
theorem Mc {s:(List Int)} {f:Int->Option (Bool)} {f_p:Int->Option (Bool)} (h_f:∀ (x0:Int),Hb (f x0) (f_p x0)):Hb (Br s f) (Br s f_p):=by
 unfold Br
 repeat' (with_reducible first | assumption | apply Hb.bind_ | apply Hb.cond_ | apply Hb.up_ | apply h_f | apply Mc.l1 | (refine Hb.lp (fun _=>?_) _) | exact Hb.refl | intro _)
end Go.Proofs.YtchpcpaacenodaaGreat
