import Derived.Test.YtfkgbfhpibiheaaPC
import Derived.Test.YtfkgbfhpibiheaaP1
set_option linter.unusedVariables false
set_option linter.unusedSimpArgs false
namespace Go.Proofs.Ytfkgbfhpibiheaa
theorem Fa.l2 {p : (List Ai)} {yield : Ab -> (List Ab) -> Option (Bool × (List Ab))} {x16_1 : Int} {e_3 : Int} {e_4 : Al} {x34_2 : Int} {l_2 : List Ab} {yield_p : Ab -> (List Ab) -> Option (Bool × (List Ab))} (h_yield : ∀ (x0 : Ab) (x1 : (List Ab)), Gz (yield x0 x1) (yield_p x0 x1)) : Gz (Be.l2 p yield x16_1 e_3 e_4 x34_2 l_2) (Be.l2 p yield_p x16_1 e_3 e_4 x34_2 l_2) := by
 unfold Be.l2
 repeat' (with_reducible first | assumption | apply Gz.bind_ | apply Gz.cond_ | apply Gz.up_ | apply h_yield | exact Gz.refl | intro _)
theorem Fa.l1 {p : (List Ai)} {b : (List UInt8)} {yield : Ab -> (List Ab) -> Option (Bool × (List Ab))} {y : (List Al)} {at_1 : Int} {x16_1 : Int} {l_1 : List Ab} {yield_p : Ab -> (List Ab) -> Option (Bool × (List Ab))} (h_yield : ∀ (x0 : Ab) (x1 : (List Ab)), Gz (yield x0 x1) (yield_p x0 x1)) : Gz (Be.l1 p b yield y at_1 x16_1 l_1) (Be.l1 p b yield_p y at_1 x16_1 l_1) := by
 unfold Be.l1
 repeat' (with_reducible first | assumption | apply Gz.bind_ | apply Gz.cond_ | apply Gz.up_ | apply h_yield | apply Fa.l2 | (refine Gz.lp (fun _ => ?_) _) | exact Gz.refl | intro _)
theorem Fa {p : (List Ai)} {b : (List UInt8)} {yield : Ab -> (List Ab) -> Option (Bool × (List Ab))} {yield_b0 : (List Ab)} {yield_p : Ab -> (List Ab) -> Option (Bool × (List Ab))} (h_yield : ∀ (x0 : Ab) (x1 : (List Ab)), Gz (yield x0 x1) (yield_p x0 x1)) : Gz (Be p b yield yield_b0) (Be p b yield_p yield_b0) := by
 unfold Be
 repeat' (with_reducible first | assumption | apply Gz.bind_ | apply Gz.cond_ | apply Gz.up_ | apply h_yield | apply Fa.l1 | (refine Gz.lp (fun _ => ?_) _) | exact Gz.refl | intro _)
theorem Ip {cmp : Ab -> Ab -> Option (Int)} : Wh (fun rec (x : List Ab × Int × Int × Int) => Aj.F (fun data a b limit => rec (data, a, b, limit)) x.1 x.2.1 x.2.2.1 x.2.2.2 cmp) := fun p q h a => by
 show Gz (Aj.F _ _ _ _ _ _) (Aj.F _ _ _ _ _ _)
 unfold Aj.F
 refine Gz.lp (fun _ => ?_) _
 unfold Aj.l1 Aj.j2 Aj.j3 Aj.j4 Aj.j5 Aj.j6
 repeat' (with_reducible first | exact Gz.refl | apply Gz.cond_ | apply Gz.bind_ | apply Gz.up_ | apply h | intro _)
theorem Fx.l2 {p : (List Ai)} {yield : Ab -> (List Int) -> Option (Bool × (List Int))} {x16_1 : Int} {e_3 : Int} {e_4 : Al} {x34_2 : Int} {l_2 : List Int} {yield_p : Ab -> (List Int) -> Option (Bool × (List Int))} (h_yield : ∀ (x0 : Ab) (x1 : (List Int)), Gz (yield x0 x1) (yield_p x0 x1)) : Gz (Bp.l2 p yield x16_1 e_3 e_4 x34_2 l_2) (Bp.l2 p yield_p x16_1 e_3 e_4 x34_2 l_2) := by
 unfold Bp.l2
 repeat' (with_reducible first | assumption | apply Gz.bind_ | apply Gz.cond_ | apply Gz.up_ | apply h_yield | exact Gz.refl | intro _)
theorem Fx.l1 {p : (List Ai)} {b : (List UInt8)} {yield : Ab -> (List Int) -> Option (Bool × (List Int))} {y : (List Al)} {at_1 : Int} {x16_1 : Int} {l_1 : List Int} {yield_p : Ab -> (List Int) -> Option (Bool × (List Int))} (h_yield : ∀ (x0 : Ab) (x1 : (List Int)), Gz (yield x0 x1) (yield_p x0 x1)) : Gz (Bp.l1 p b yield y at_1 x16_1 l_1) (Bp.l1 p b yield_p y at_1 x16_1 l_1) := by
 unfold Bp.l1
 repeat' (with_reducible first | assumption | apply Gz.bind_ | apply Gz.cond_ | apply Gz.up_ | apply h_yield | apply Fx.l2 | (refine Gz.lp (fun _ => ?_) _) | exact Gz.refl | intro _)
theorem Fx {p : (List Ai)} {b : (List UInt8)} {yield : Ab -> (List Int) -> Option (Bool × (List Int))} {yield_b0 : (List Int)} {yield_p : Ab -> (List Int) -> Option (Bool × (List Int))} (h_yield : ∀ (x0 : Ab) (x1 : (List Int)), Gz (yield x0 x1) (yield_p x0 x1)) : Gz (Bp p b yield yield_b0) (Bp p b yield_p yield_b0) := by
 unfold Bp
 repeat' (with_reducible first | assumption | apply Gz.bind_ | apply Gz.cond_ | apply Gz.up_ | apply h_yield | apply Fx.l1 | (refine Gz.lp (fun _ => ?_) _) | exact Gz.refl | intro _)
theorem Is {cmp : Aa -> Aa -> Option (Int)} : Wh (fun rec (x : List Aa × Int × Int × Int) => Ak.F (fun data a b limit => rec (data, a, b, limit)) x.1 x.2.1 x.2.2.1 x.2.2.2 cmp) := fun p q h a => by
 show Gz (Ak.F _ _ _ _ _ _) (Ak.F _ _ _ _ _ _)
 unfold Ak.F
 refine Gz.lp (fun _ => ?_) _
 unfold Ak.l1 Ak.j2 Ak.j3 Ak.j4 Ak.j5 Ak.j6
 repeat' (with_reducible first | exact Gz.refl | apply Gz.cond_ | apply Gz.bind_ | apply Gz.up_ | apply h | intro _)
end Go.Proofs.Ytfkgbfhpibiheaa
