/- Bounded forms of the plain functions. -/
import Derived.Test.YtfkgbfhpibiheaaPC
import Derived.Test.YtfkgbfhpibiheaaP1
set_option linter.unusedVariables false
set_option linter.unusedSimpArgs false
namespace Go.Proofs.Ytfkgbfhpibiheaa
theorem m_pattern_hits_List_api_Hit.l2 {p : (List api_Pattern)} {yield : api_Hit → (List api_Hit) → Option (Bool × (List api_Hit))} {x16_1 : Int} {e_3 : Int} {e_4 : pattern_state} {x34_2 : Int} {l_2 : List api_Hit} {yield_p : api_Hit → (List api_Hit) → Option (Bool × (List api_Hit))} (h_yield : ∀ (x0 : api_Hit) (x1 : (List api_Hit)), OLe (yield x0 x1) (yield_p x0 x1)) : OLe (g_pattern_hits_List_api_Hit.l2 p yield x16_1 e_3 e_4 x34_2 l_2) (g_pattern_hits_List_api_Hit.l2 p yield_p x16_1 e_3 e_4 x34_2 l_2) := by
  unfold g_pattern_hits_List_api_Hit.l2
  repeat' (with_reducible first | assumption | apply OLe.bind_ | apply OLe.cond_ | apply OLe.up_ | apply h_yield | exact OLe.refl | intro _)
theorem m_pattern_hits_List_api_Hit.l1 {p : (List api_Pattern)} {b : (List UInt8)} {yield : api_Hit → (List api_Hit) → Option (Bool × (List api_Hit))} {y : (List pattern_state)} {at_1 : Int} {x16_1 : Int} {l_1 : List api_Hit} {yield_p : api_Hit → (List api_Hit) → Option (Bool × (List api_Hit))} (h_yield : ∀ (x0 : api_Hit) (x1 : (List api_Hit)), OLe (yield x0 x1) (yield_p x0 x1)) : OLe (g_pattern_hits_List_api_Hit.l1 p b yield y at_1 x16_1 l_1) (g_pattern_hits_List_api_Hit.l1 p b yield_p y at_1 x16_1 l_1) := by
  unfold g_pattern_hits_List_api_Hit.l1
  repeat' (with_reducible first | assumption | apply OLe.bind_ | apply OLe.cond_ | apply OLe.up_ | apply h_yield | apply m_pattern_hits_List_api_Hit.l2 | (refine OLe.lp (fun _ => ?_) _) | exact OLe.refl | intro _)
theorem m_pattern_hits_List_api_Hit {p : (List api_Pattern)} {b : (List UInt8)} {yield : api_Hit → (List api_Hit) → Option (Bool × (List api_Hit))} {yield_b0 : (List api_Hit)} {yield_p : api_Hit → (List api_Hit) → Option (Bool × (List api_Hit))} (h_yield : ∀ (x0 : api_Hit) (x1 : (List api_Hit)), OLe (yield x0 x1) (yield_p x0 x1)) : OLe (g_pattern_hits_List_api_Hit p b yield yield_b0) (g_pattern_hits_List_api_Hit p b yield_p yield_b0) := by
  unfold g_pattern_hits_List_api_Hit
  repeat' (with_reducible first | assumption | apply OLe.bind_ | apply OLe.cond_ | apply OLe.up_ | apply h_yield | apply m_pattern_hits_List_api_Hit.l1 | (refine OLe.lp (fun _ => ?_) _) | exact OLe.refl | intro _)
theorem mono_slices_pdqsortCmpFunc_api_Hit {cmp : api_Hit → api_Hit → Option (Int)} : MonoF (fun rec (x : List api_Hit × Int × Int × Int) => g_slices_pdqsortCmpFunc_api_Hit.F (fun data a b limit => rec (data, a, b, limit)) x.1 x.2.1 x.2.2.1 x.2.2.2 cmp) := fun p q h a => by
  show OLe (g_slices_pdqsortCmpFunc_api_Hit.F _ _ _ _ _ _) (g_slices_pdqsortCmpFunc_api_Hit.F _ _ _ _ _ _)
  unfold g_slices_pdqsortCmpFunc_api_Hit.F
  refine OLe.lp (fun _ => ?_) _
  unfold g_slices_pdqsortCmpFunc_api_Hit.l1 g_slices_pdqsortCmpFunc_api_Hit.j2 g_slices_pdqsortCmpFunc_api_Hit.j3 g_slices_pdqsortCmpFunc_api_Hit.j4 g_slices_pdqsortCmpFunc_api_Hit.j5 g_slices_pdqsortCmpFunc_api_Hit.j6
  repeat' (with_reducible first | exact OLe.refl | apply OLe.cond_ | apply OLe.bind_ | apply OLe.up_ | apply h | intro _)
theorem m_pattern_hits_List_Int.l2 {p : (List api_Pattern)} {yield : api_Hit → (List Int) → Option (Bool × (List Int))} {x16_1 : Int} {e_3 : Int} {e_4 : pattern_state} {x34_2 : Int} {l_2 : List Int} {yield_p : api_Hit → (List Int) → Option (Bool × (List Int))} (h_yield : ∀ (x0 : api_Hit) (x1 : (List Int)), OLe (yield x0 x1) (yield_p x0 x1)) : OLe (g_pattern_hits_List_Int.l2 p yield x16_1 e_3 e_4 x34_2 l_2) (g_pattern_hits_List_Int.l2 p yield_p x16_1 e_3 e_4 x34_2 l_2) := by
  unfold g_pattern_hits_List_Int.l2
  repeat' (with_reducible first | assumption | apply OLe.bind_ | apply OLe.cond_ | apply OLe.up_ | apply h_yield | exact OLe.refl | intro _)
theorem m_pattern_hits_List_Int.l1 {p : (List api_Pattern)} {b : (List UInt8)} {yield : api_Hit → (List Int) → Option (Bool × (List Int))} {y : (List pattern_state)} {at_1 : Int} {x16_1 : Int} {l_1 : List Int} {yield_p : api_Hit → (List Int) → Option (Bool × (List Int))} (h_yield : ∀ (x0 : api_Hit) (x1 : (List Int)), OLe (yield x0 x1) (yield_p x0 x1)) : OLe (g_pattern_hits_List_Int.l1 p b yield y at_1 x16_1 l_1) (g_pattern_hits_List_Int.l1 p b yield_p y at_1 x16_1 l_1) := by
  unfold g_pattern_hits_List_Int.l1
  repeat' (with_reducible first | assumption | apply OLe.bind_ | apply OLe.cond_ | apply OLe.up_ | apply h_yield | apply m_pattern_hits_List_Int.l2 | (refine OLe.lp (fun _ => ?_) _) | exact OLe.refl | intro _)
theorem m_pattern_hits_List_Int {p : (List api_Pattern)} {b : (List UInt8)} {yield : api_Hit → (List Int) → Option (Bool × (List Int))} {yield_b0 : (List Int)} {yield_p : api_Hit → (List Int) → Option (Bool × (List Int))} (h_yield : ∀ (x0 : api_Hit) (x1 : (List Int)), OLe (yield x0 x1) (yield_p x0 x1)) : OLe (g_pattern_hits_List_Int p b yield yield_b0) (g_pattern_hits_List_Int p b yield_p yield_b0) := by
  unfold g_pattern_hits_List_Int
  repeat' (with_reducible first | assumption | apply OLe.bind_ | apply OLe.cond_ | apply OLe.up_ | apply h_yield | apply m_pattern_hits_List_Int.l1 | (refine OLe.lp (fun _ => ?_) _) | exact OLe.refl | intro _)
end Go.Proofs.Ytfkgbfhpibiheaa
