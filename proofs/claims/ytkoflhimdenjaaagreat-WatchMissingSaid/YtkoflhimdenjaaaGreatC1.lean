import Derived.Test.YtkoflhimdenjaaaGreatPC
import Derived.Test.YtkoflhimdenjaaaGreatP1
set_option linter.unusedVariables false
set_option linter.unusedSimpArgs false
namespace Go.Proofs.YtkoflhimdenjaaaGreat
theorem Ib.l1 {s : (List A5)} {f : A5 -> Option (Bool)} {x8_1 : Int} {f_p : A5 -> Option (Bool)} (h_f : ∀ (x0 : A5), Eg (f x0) (f_p x0)) : Eg (Bg.l1 s f x8_1) (Bg.l1 s f_p x8_1) := by
 unfold Bg.l1
 repeat' (with_reducible first | assumption | apply Eg.bind_ | apply Eg.cond_ | apply Eg.up_ | apply h_f | exact Eg.refl | intro _)
theorem Ib {s : (List A5)} {f : A5 -> Option (Bool)} {f_p : A5 -> Option (Bool)} (h_f : ∀ (x0 : A5), Eg (f x0) (f_p x0)) : Eg (Bg s f) (Bg s f_p) := by
 unfold Bg
 repeat' (with_reducible first | assumption | apply Eg.bind_ | apply Eg.cond_ | apply Eg.up_ | apply h_f | apply Ib.l1 | (refine Eg.lp (fun _ => ?_) _) | exact Eg.refl | intro _)
theorem m_ref01_copies.l1 {rec : (List Ae) -> Option ((List Ae))} {l : (List Ae)} {i_1 : Int} {out_1 : List Ae} {rec_p : (List Ae) -> Option ((List Ae))} (h_rec : ∀ (x0 : (List Ae)), Eg (rec x0) (rec_p x0)) : Eg (Ca.l1 rec l i_1 out_1) (Ca.l1 rec_p l i_1 out_1) := by
 unfold Ca.l1
 repeat' (with_reducible first | assumption | apply Eg.bind_ | apply Eg.cond_ | apply Eg.up_ | apply h_rec | exact Eg.refl | intro _)
theorem m_ref01_copies.F {rec : (List Ae) -> Option ((List Ae))} {l : (List Ae)} {rec_p : (List Ae) -> Option ((List Ae))} (h_rec : ∀ (x0 : (List Ae)), Eg (rec x0) (rec_p x0)) : Eg (Ca.F rec l) (Ca.F rec_p l) := by
 unfold Ca.F
 repeat' (with_reducible first | assumption | apply Eg.bind_ | apply Eg.cond_ | apply Eg.up_ | apply h_rec | apply m_ref01_copies.l1 | (refine Eg.lp (fun _ => ?_) _) | exact Eg.refl | intro _)
theorem Tp : Sg (fun rec (x : (List Ae)) => Ca.F (fun l => rec l) x) := fun p q h a => by
 apply m_ref01_copies.F
 intros
 apply h
theorem m_ref01_formed.l2 {rec : Ae -> Option (Bool)} {v : Ae} {i_2 : Int} {rec_p : Ae -> Option (Bool)} (h_rec : ∀ (x0 : Ae), Eg (rec x0) (rec_p x0)) : Eg (Bn.l2 rec v i_2) (Bn.l2 rec_p v i_2) := by
 unfold Bn.l2
 repeat' (with_reducible first | assumption | apply Eg.bind_ | apply Eg.cond_ | apply Eg.up_ | apply h_rec | exact Eg.refl | intro _)
theorem m_ref01_formed.j1 {rec : Ae -> Option (Bool)} {v : Ae} {x38_1 : Bool} {rec_p : Ae -> Option (Bool)} (h_rec : ∀ (x0 : Ae), Eg (rec x0) (rec_p x0)) : Eg (Bn.j1 rec v x38_1) (Bn.j1 rec_p v x38_1) := by
 unfold Bn.j1
 repeat' (with_reducible first | assumption | apply Eg.bind_ | apply Eg.cond_ | apply Eg.up_ | apply h_rec | apply m_ref01_formed.l2 | (refine Eg.lp (fun _ => ?_) _) | exact Eg.refl | intro _)
theorem m_ref01_formed.F {rec : Ae -> Option (Bool)} {v : Ae} {rec_p : Ae -> Option (Bool)} (h_rec : ∀ (x0 : Ae), Eg (rec x0) (rec_p x0)) : Eg (Bn.F rec v) (Bn.F rec_p v) := by
 unfold Bn.F
 repeat' (with_reducible first | assumption | apply Eg.bind_ | apply Eg.cond_ | apply Eg.up_ | apply h_rec | apply m_ref01_formed.j1 | exact Eg.refl | intro _)
theorem Tm : Sg (fun rec (x : Ae) => Bn.F (fun v => rec v) x) := fun p q h a => by
 apply m_ref01_formed.F
 intros
 apply h
theorem m_ref01_depth.l1 {rec : Ae -> Option (Int)} {v : Ae} {d_1 : Int} {i_1 : Int} {rec_p : Ae -> Option (Int)} (h_rec : ∀ (x0 : Ae), Eg (rec x0) (rec_p x0)) : Eg (Cl.l1 rec v d_1 i_1) (Cl.l1 rec_p v d_1 i_1) := by
 unfold Cl.l1
 repeat' (with_reducible first | assumption | apply Eg.bind_ | apply Eg.cond_ | apply Eg.up_ | apply h_rec | exact Eg.refl | intro _)
theorem m_ref01_depth.F {rec : Ae -> Option (Int)} {v : Ae} {rec_p : Ae -> Option (Int)} (h_rec : ∀ (x0 : Ae), Eg (rec x0) (rec_p x0)) : Eg (Cl.F rec v) (Cl.F rec_p v) := by
 unfold Cl.F
 repeat' (with_reducible first | assumption | apply Eg.bind_ | apply Eg.cond_ | apply Eg.up_ | apply h_rec | apply m_ref01_depth.l1 | (refine Eg.lp (fun _ => ?_) _) | exact Eg.refl | intro _)
theorem Va : Sg (fun rec (x : Ae) => Cl.F (fun v => rec v) x) := fun p q h a => by
 apply m_ref01_depth.F
 intros
 apply h
theorem m_ref01_put.l1 {rec : Ae -> Option ((List UInt8))} {v : Ae} {i_1 : Int} {b_1 : List UInt8} {rec_p : Ae -> Option ((List UInt8))} (h_rec : ∀ (x0 : Ae), Eg (rec x0) (rec_p x0)) : Eg (Cz.l1 rec v i_1 b_1) (Cz.l1 rec_p v i_1 b_1) := by
 unfold Cz.l1
 repeat' (with_reducible first | assumption | apply Eg.bind_ | apply Eg.cond_ | apply Eg.up_ | apply h_rec | exact Eg.refl | intro _)
theorem m_ref01_put.F {rec : Ae -> Option ((List UInt8))} {v : Ae} {rec_p : Ae -> Option ((List UInt8))} (h_rec : ∀ (x0 : Ae), Eg (rec x0) (rec_p x0)) : Eg (Cz.F rec v) (Cz.F rec_p v) := by
 unfold Cz.F
 repeat' (with_reducible first | assumption | apply Eg.bind_ | apply Eg.cond_ | apply Eg.up_ | apply h_rec | apply m_ref01_put.l1 | (refine Eg.lp (fun _ => ?_) _) | exact Eg.refl | intro _)
theorem W5 : Sg (fun rec (x : Ae) => Cz.F (fun v => rec v) x) := fun p q h a => by
 apply m_ref01_put.F
 intros
 apply h
theorem Ko.l1 {s : (List Int)} {f : Int -> Option (Bool)} {x8_1 : Int} {f_p : Int -> Option (Bool)} (h_f : ∀ (x0 : Int), Eg (f x0) (f_p x0)) : Eg (Bm.l1 s f x8_1) (Bm.l1 s f_p x8_1) := by
 unfold Bm.l1
 repeat' (with_reducible first | assumption | apply Eg.bind_ | apply Eg.cond_ | apply Eg.up_ | apply h_f | exact Eg.refl | intro _)
theorem Ko {s : (List Int)} {f : Int -> Option (Bool)} {f_p : Int -> Option (Bool)} (h_f : ∀ (x0 : Int), Eg (f x0) (f_p x0)) : Eg (Bm s f) (Bm s f_p) := by
 unfold Bm
 repeat' (with_reducible first | assumption | apply Eg.bind_ | apply Eg.cond_ | apply Eg.up_ | apply h_f | apply Ko.l1 | (refine Eg.lp (fun _ => ?_) _) | exact Eg.refl | intro _)
theorem Ji {cmp : Aa -> Aa -> Option (Int)} : Sg (fun rec (x : List Aa × Int × Int × Int) => Af.F (fun data a b limit => rec (data, a, b, limit)) x.1 x.2.1 x.2.2.1 x.2.2.2 cmp) := fun p q h a => by
 show Eg (Af.F _ _ _ _ _ _) (Af.F _ _ _ _ _ _)
 unfold Af.F
 refine Eg.lp (fun _ => ?_) _
 unfold Af.l1 Af.j2 Af.j3 Af.j4 Af.j5 Af.j6
 repeat' (with_reducible first | exact Eg.refl | apply Eg.cond_ | apply Eg.bind_ | apply Eg.up_ | apply h | intro _)
theorem Fw.l1 {s : (List Aa)} {f : Aa -> Option (Bool)} {x8_1 : Int} {f_p : Aa -> Option (Bool)} (h_f : ∀ (x0 : Aa), Eg (f x0) (f_p x0)) : Eg (A9.l1 s f x8_1) (A9.l1 s f_p x8_1) := by
 unfold A9.l1
 repeat' (with_reducible first | assumption | apply Eg.bind_ | apply Eg.cond_ | apply Eg.up_ | apply h_f | exact Eg.refl | intro _)
theorem Fw {s : (List Aa)} {f : Aa -> Option (Bool)} {f_p : Aa -> Option (Bool)} (h_f : ∀ (x0 : Aa), Eg (f x0) (f_p x0)) : Eg (A9 s f) (A9 s f_p) := by
 unfold A9
 repeat' (with_reducible first | assumption | apply Eg.bind_ | apply Eg.cond_ | apply Eg.up_ | apply h_f | apply Fw.l1 | (refine Eg.lp (fun _ => ?_) _) | exact Eg.refl | intro _)
theorem Ic.l1 {del : Aa -> Option (Bool)} {i_1 : Int} {j_1 : Int} {s_1 : List Aa} {del_p : Aa -> Option (Bool)} (h_del : ∀ (x0 : Aa), Eg (del x0) (del_p x0)) : Eg (A4.l1 del i_1 j_1 s_1) (A4.l1 del_p i_1 j_1 s_1) := by
 unfold A4.l1
 repeat' (with_reducible first | assumption | apply Eg.bind_ | apply Eg.cond_ | apply Eg.up_ | apply h_del | exact Eg.refl | intro _)
theorem Ic {s : List Aa} {del : Aa -> Option (Bool)} {del_p : Aa -> Option (Bool)} (h_del : ∀ (x0 : Aa), Eg (del x0) (del_p x0)) : Eg (A4 s del) (A4 s del_p) := by
 unfold A4
 repeat' (with_reducible first | assumption | apply Eg.bind_ | apply Eg.cond_ | apply Eg.up_ | apply h_del | apply Fw | apply Ic.l1 | (refine Eg.lp (fun _ => ?_) _) | exact Eg.refl | intro _)
end Go.Proofs.YtkoflhimdenjaaaGreat
