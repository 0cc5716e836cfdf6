/- Bounded forms of the plain functions. -/
import Derived.Test.YtmbhoimeiahbaaaGreatPC
import Derived.Test.YtmbhoimeiahbaaaGreatP1
set_option linter.unusedVariables false
set_option linter.unusedSimpArgs false
namespace Go.Proofs.YtmbhoimeiahbaaaGreat
theorem m_der_copied.l1 {rec : (List api_Value) → Option ((List api_Value))} {l : (List api_Value)} {x8_1 : Int} {out_1 : List api_Value} {rec_p : (List api_Value) → Option ((List api_Value))} (h_rec : ∀ (x0 : (List api_Value)), OLe (rec x0) (rec_p x0)) : OLe (g_der_copied.l1 rec l x8_1 out_1) (g_der_copied.l1 rec_p l x8_1 out_1) := by
  unfold g_der_copied.l1
  repeat' (with_reducible first | assumption | apply OLe.bind_ | apply OLe.cond_ | apply OLe.up_ | apply h_rec | exact OLe.refl | intro _)
theorem m_der_copied.F {rec : (List api_Value) → Option ((List api_Value))} {l : (List api_Value)} {rec_p : (List api_Value) → Option ((List api_Value))} (h_rec : ∀ (x0 : (List api_Value)), OLe (rec x0) (rec_p x0)) : OLe (g_der_copied.F rec l) (g_der_copied.F rec_p l) := by
  unfold g_der_copied.F
  repeat' (with_reducible first | assumption | apply OLe.bind_ | apply OLe.cond_ | apply OLe.up_ | apply h_rec | apply m_der_copied.l1 | (refine OLe.lp (fun _ => ?_) _) | exact OLe.refl | intro _)
theorem mono_der_copied : MonoF (fun rec (x : (List api_Value)) => g_der_copied.F (fun l => rec l) x) := fun p q h a => by
  apply m_der_copied.F
  intros
  apply h
theorem m_der_formed_c1 {rec : api_Value → Option (Bool)} {x' : api_Value} {rec_p : api_Value → Option (Bool)} (h_rec : ∀ (x0 : api_Value), OLe (rec x0) (rec_p x0)) : OLe (g_der_formed_c1 rec x') (g_der_formed_c1 rec_p x') := by
  unfold g_der_formed_c1
  repeat' (with_reducible first | assumption | apply OLe.bind_ | apply OLe.cond_ | apply OLe.up_ | apply h_rec | exact OLe.refl | intro _)
theorem m_slices_IndexFunc_api_Value.l1 {s : (List api_Value)} {f : api_Value → Option (Bool)} {x8_1 : Int} {f_p : api_Value → Option (Bool)} (h_f : ∀ (x0 : api_Value), OLe (f x0) (f_p x0)) : OLe (g_slices_IndexFunc_api_Value.l1 s f x8_1) (g_slices_IndexFunc_api_Value.l1 s f_p x8_1) := by
  unfold g_slices_IndexFunc_api_Value.l1
  repeat' (with_reducible first | assumption | apply OLe.bind_ | apply OLe.cond_ | apply OLe.up_ | apply h_f | exact OLe.refl | intro _)
theorem m_slices_IndexFunc_api_Value {rec : api_Value → Option (Bool)} {s : (List api_Value)} {f : api_Value → Option (Bool)} {rec_p : api_Value → Option (Bool)} {f_p : api_Value → Option (Bool)} (h_rec : ∀ (x0 : api_Value), OLe (rec x0) (rec_p x0)) (h_f : ∀ (x0 : api_Value), OLe (f x0) (f_p x0)) : OLe (g_slices_IndexFunc_api_Value rec s f) (g_slices_IndexFunc_api_Value rec_p s f_p) := by
  unfold g_slices_IndexFunc_api_Value
  repeat' (with_reducible first | assumption | apply OLe.bind_ | apply OLe.cond_ | apply OLe.up_ | apply h_rec | apply h_f | apply m_slices_IndexFunc_api_Value.l1 | (refine OLe.lp (fun _ => ?_) _) | exact OLe.refl | intro _)
theorem m_slices_ContainsFunc_api_Value {rec : api_Value → Option (Bool)} {s : (List api_Value)} {f : api_Value → Option (Bool)} {rec_p : api_Value → Option (Bool)} {f_p : api_Value → Option (Bool)} (h_rec : ∀ (x0 : api_Value), OLe (rec x0) (rec_p x0)) (h_f : ∀ (x0 : api_Value), OLe (f x0) (f_p x0)) : OLe (g_slices_ContainsFunc_api_Value rec s f) (g_slices_ContainsFunc_api_Value rec_p s f_p) := by
  unfold g_slices_ContainsFunc_api_Value
  repeat' (with_reducible first | assumption | apply OLe.bind_ | apply OLe.cond_ | apply OLe.up_ | apply h_rec | apply h_f | apply m_slices_IndexFunc_api_Value | exact OLe.refl | intro _)
theorem m_der_formed.j1 {rec : api_Value → Option (Bool)} {v : api_Value} {x36_1 : Bool} {rec_p : api_Value → Option (Bool)} (h_rec : ∀ (x0 : api_Value), OLe (rec x0) (rec_p x0)) : OLe (g_der_formed.j1 rec v x36_1) (g_der_formed.j1 rec_p v x36_1) := by
  unfold g_der_formed.j1
  repeat' (with_reducible first | assumption | apply OLe.bind_ | apply OLe.cond_ | apply OLe.up_ | apply h_rec | apply m_slices_ContainsFunc_api_Value | apply m_der_formed_c1 | exact OLe.refl | intro _)
theorem m_der_formed.F {rec : api_Value → Option (Bool)} {v : api_Value} {rec_p : api_Value → Option (Bool)} (h_rec : ∀ (x0 : api_Value), OLe (rec x0) (rec_p x0)) : OLe (g_der_formed.F rec v) (g_der_formed.F rec_p v) := by
  unfold g_der_formed.F
  repeat' (with_reducible first | assumption | apply OLe.bind_ | apply OLe.cond_ | apply OLe.up_ | apply h_rec | apply m_der_formed.j1 | exact OLe.refl | intro _)
theorem mono_der_formed : MonoF (fun rec (x : api_Value) => g_der_formed.F (fun v => rec v) x) := fun p q h a => by
  apply m_der_formed.F
  intros
  apply h
theorem m_der_depth.l1 {rec : api_Value → Option (Int)} {v : api_Value} {most_1 : Int} {x9_1 : Int} {rec_p : api_Value → Option (Int)} (h_rec : ∀ (x0 : api_Value), OLe (rec x0) (rec_p x0)) : OLe (g_der_depth.l1 rec v most_1 x9_1) (g_der_depth.l1 rec_p v most_1 x9_1) := by
  unfold g_der_depth.l1
  repeat' (with_reducible first | assumption | apply OLe.bind_ | apply OLe.cond_ | apply OLe.up_ | apply h_rec | exact OLe.refl | intro _)
theorem m_der_depth.F {rec : api_Value → Option (Int)} {v : api_Value} {rec_p : api_Value → Option (Int)} (h_rec : ∀ (x0 : api_Value), OLe (rec x0) (rec_p x0)) : OLe (g_der_depth.F rec v) (g_der_depth.F rec_p v) := by
  unfold g_der_depth.F
  repeat' (with_reducible first | assumption | apply OLe.bind_ | apply OLe.cond_ | apply OLe.up_ | apply h_rec | apply m_der_depth.l1 | (refine OLe.lp (fun _ => ?_) _) | exact OLe.refl | intro _)
theorem mono_der_depth : MonoF (fun rec (x : api_Value) => g_der_depth.F (fun v => rec v) x) := fun p q h a => by
  apply m_der_depth.F
  intros
  apply h
theorem m_der_element {rec : api_Value → Option ((List UInt8))} {b : List UInt8} {v : api_Value} {rec_p : api_Value → Option ((List UInt8))} (h_rec : ∀ (x0 : api_Value), OLe (rec x0) (rec_p x0)) : OLe (g_der_element rec b v) (g_der_element rec_p b v) := by
  unfold g_der_element
  repeat' (with_reducible first | assumption | apply OLe.bind_ | apply OLe.cond_ | apply OLe.up_ | apply h_rec | exact OLe.refl | intro _)
theorem m_der_contents.l1 {rec : api_Value → Option ((List UInt8))} {v : api_Value} {x14_1 : Int} {out_1 : List UInt8} {rec_p : api_Value → Option ((List UInt8))} (h_rec : ∀ (x0 : api_Value), OLe (rec x0) (rec_p x0)) : OLe (g_der_contents.l1 rec v x14_1 out_1) (g_der_contents.l1 rec_p v x14_1 out_1) := by
  unfold g_der_contents.l1
  repeat' (with_reducible first | assumption | apply OLe.bind_ | apply OLe.cond_ | apply OLe.up_ | apply h_rec | apply m_der_element | exact OLe.refl | intro _)
theorem m_der_contents.F {rec : api_Value → Option ((List UInt8))} {v : api_Value} {rec_p : api_Value → Option ((List UInt8))} (h_rec : ∀ (x0 : api_Value), OLe (rec x0) (rec_p x0)) : OLe (g_der_contents.F rec v) (g_der_contents.F rec_p v) := by
  unfold g_der_contents.F
  repeat' (with_reducible first | assumption | apply OLe.bind_ | apply OLe.cond_ | apply OLe.up_ | apply h_rec | apply m_der_contents.l1 | (refine OLe.lp (fun _ => ?_) _) | exact OLe.refl | intro _)
theorem mono_der_contents : MonoF (fun rec (x : api_Value) => g_der_contents.F (fun v => rec v) x) := fun p q h a => by
  apply m_der_contents.F
  intros
  apply h
theorem m_slices_IndexFunc_api_Seal.l1 {s : (List api_Seal)} {f : api_Seal → Option (Bool)} {x8_1 : Int} {f_p : api_Seal → Option (Bool)} (h_f : ∀ (x0 : api_Seal), OLe (f x0) (f_p x0)) : OLe (g_slices_IndexFunc_api_Seal.l1 s f x8_1) (g_slices_IndexFunc_api_Seal.l1 s f_p x8_1) := by
  unfold g_slices_IndexFunc_api_Seal.l1
  repeat' (with_reducible first | assumption | apply OLe.bind_ | apply OLe.cond_ | apply OLe.up_ | apply h_f | exact OLe.refl | intro _)
theorem m_slices_IndexFunc_api_Seal {s : (List api_Seal)} {f : api_Seal → Option (Bool)} {f_p : api_Seal → Option (Bool)} (h_f : ∀ (x0 : api_Seal), OLe (f x0) (f_p x0)) : OLe (g_slices_IndexFunc_api_Seal s f) (g_slices_IndexFunc_api_Seal s f_p) := by
  unfold g_slices_IndexFunc_api_Seal
  repeat' (with_reducible first | assumption | apply OLe.bind_ | apply OLe.cond_ | apply OLe.up_ | apply h_f | apply m_slices_IndexFunc_api_Seal.l1 | (refine OLe.lp (fun _ => ?_) _) | exact OLe.refl | intro _)
theorem m_slices_DeleteFunc_api_Seal.l1 {del : api_Seal → Option (Bool)} {i_1 : Int} {j_1 : Int} {s_1 : List api_Seal} {del_p : api_Seal → Option (Bool)} (h_del : ∀ (x0 : api_Seal), OLe (del x0) (del_p x0)) : OLe (g_slices_DeleteFunc_api_Seal.l1 del i_1 j_1 s_1) (g_slices_DeleteFunc_api_Seal.l1 del_p i_1 j_1 s_1) := by
  unfold g_slices_DeleteFunc_api_Seal.l1
  repeat' (with_reducible first | assumption | apply OLe.bind_ | apply OLe.cond_ | apply OLe.up_ | apply h_del | exact OLe.refl | intro _)
theorem m_slices_DeleteFunc_api_Seal {s : List api_Seal} {del : api_Seal → Option (Bool)} {del_p : api_Seal → Option (Bool)} (h_del : ∀ (x0 : api_Seal), OLe (del x0) (del_p x0)) : OLe (g_slices_DeleteFunc_api_Seal s del) (g_slices_DeleteFunc_api_Seal s del_p) := by
  unfold g_slices_DeleteFunc_api_Seal
  repeat' (with_reducible first | assumption | apply OLe.bind_ | apply OLe.cond_ | apply OLe.up_ | apply h_del | apply m_slices_IndexFunc_api_Seal | apply m_slices_DeleteFunc_api_Seal.l1 | (refine OLe.lp (fun _ => ?_) _) | exact OLe.refl | intro _)
theorem m_ref01_copies.l1 {rec : (List api_Value) → Option ((List api_Value))} {l : (List api_Value)} {i_1 : Int} {out_1 : List api_Value} {rec_p : (List api_Value) → Option ((List api_Value))} (h_rec : ∀ (x0 : (List api_Value)), OLe (rec x0) (rec_p x0)) : OLe (g_ref01_copies.l1 rec l i_1 out_1) (g_ref01_copies.l1 rec_p l i_1 out_1) := by
  unfold g_ref01_copies.l1
  repeat' (with_reducible first | assumption | apply OLe.bind_ | apply OLe.cond_ | apply OLe.up_ | apply h_rec | exact OLe.refl | intro _)
theorem m_ref01_copies.F {rec : (List api_Value) → Option ((List api_Value))} {l : (List api_Value)} {rec_p : (List api_Value) → Option ((List api_Value))} (h_rec : ∀ (x0 : (List api_Value)), OLe (rec x0) (rec_p x0)) : OLe (g_ref01_copies.F rec l) (g_ref01_copies.F rec_p l) := by
  unfold g_ref01_copies.F
  repeat' (with_reducible first | assumption | apply OLe.bind_ | apply OLe.cond_ | apply OLe.up_ | apply h_rec | apply m_ref01_copies.l1 | (refine OLe.lp (fun _ => ?_) _) | exact OLe.refl | intro _)
theorem mono_ref01_copies : MonoF (fun rec (x : (List api_Value)) => g_ref01_copies.F (fun l => rec l) x) := fun p q h a => by
  apply m_ref01_copies.F
  intros
  apply h
theorem m_ref01_formed.l2 {rec : api_Value → Option (Bool)} {v : api_Value} {i_2 : Int} {rec_p : api_Value → Option (Bool)} (h_rec : ∀ (x0 : api_Value), OLe (rec x0) (rec_p x0)) : OLe (g_ref01_formed.l2 rec v i_2) (g_ref01_formed.l2 rec_p v i_2) := by
  unfold g_ref01_formed.l2
  repeat' (with_reducible first | assumption | apply OLe.bind_ | apply OLe.cond_ | apply OLe.up_ | apply h_rec | exact OLe.refl | intro _)
theorem m_ref01_formed.j1 {rec : api_Value → Option (Bool)} {v : api_Value} {x38_1 : Bool} {rec_p : api_Value → Option (Bool)} (h_rec : ∀ (x0 : api_Value), OLe (rec x0) (rec_p x0)) : OLe (g_ref01_formed.j1 rec v x38_1) (g_ref01_formed.j1 rec_p v x38_1) := by
  unfold g_ref01_formed.j1
  repeat' (with_reducible first | assumption | apply OLe.bind_ | apply OLe.cond_ | apply OLe.up_ | apply h_rec | apply m_ref01_formed.l2 | (refine OLe.lp (fun _ => ?_) _) | exact OLe.refl | intro _)
theorem m_ref01_formed.F {rec : api_Value → Option (Bool)} {v : api_Value} {rec_p : api_Value → Option (Bool)} (h_rec : ∀ (x0 : api_Value), OLe (rec x0) (rec_p x0)) : OLe (g_ref01_formed.F rec v) (g_ref01_formed.F rec_p v) := by
  unfold g_ref01_formed.F
  repeat' (with_reducible first | assumption | apply OLe.bind_ | apply OLe.cond_ | apply OLe.up_ | apply h_rec | apply m_ref01_formed.j1 | exact OLe.refl | intro _)
theorem mono_ref01_formed : MonoF (fun rec (x : api_Value) => g_ref01_formed.F (fun v => rec v) x) := fun p q h a => by
  apply m_ref01_formed.F
  intros
  apply h
theorem m_ref01_depth.l1 {rec : api_Value → Option (Int)} {v : api_Value} {d_1 : Int} {i_1 : Int} {rec_p : api_Value → Option (Int)} (h_rec : ∀ (x0 : api_Value), OLe (rec x0) (rec_p x0)) : OLe (g_ref01_depth.l1 rec v d_1 i_1) (g_ref01_depth.l1 rec_p v d_1 i_1) := by
  unfold g_ref01_depth.l1
  repeat' (with_reducible first | assumption | apply OLe.bind_ | apply OLe.cond_ | apply OLe.up_ | apply h_rec | exact OLe.refl | intro _)
theorem m_ref01_depth.F {rec : api_Value → Option (Int)} {v : api_Value} {rec_p : api_Value → Option (Int)} (h_rec : ∀ (x0 : api_Value), OLe (rec x0) (rec_p x0)) : OLe (g_ref01_depth.F rec v) (g_ref01_depth.F rec_p v) := by
  unfold g_ref01_depth.F
  repeat' (with_reducible first | assumption | apply OLe.bind_ | apply OLe.cond_ | apply OLe.up_ | apply h_rec | apply m_ref01_depth.l1 | (refine OLe.lp (fun _ => ?_) _) | exact OLe.refl | intro _)
theorem mono_ref01_depth : MonoF (fun rec (x : api_Value) => g_ref01_depth.F (fun v => rec v) x) := fun p q h a => by
  apply m_ref01_depth.F
  intros
  apply h
theorem m_ref01_put.l1 {rec : api_Value → Option ((List UInt8))} {v : api_Value} {i_1 : Int} {b_1 : List UInt8} {rec_p : api_Value → Option ((List UInt8))} (h_rec : ∀ (x0 : api_Value), OLe (rec x0) (rec_p x0)) : OLe (g_ref01_put.l1 rec v i_1 b_1) (g_ref01_put.l1 rec_p v i_1 b_1) := by
  unfold g_ref01_put.l1
  repeat' (with_reducible first | assumption | apply OLe.bind_ | apply OLe.cond_ | apply OLe.up_ | apply h_rec | exact OLe.refl | intro _)
theorem m_ref01_put.F {rec : api_Value → Option ((List UInt8))} {v : api_Value} {rec_p : api_Value → Option ((List UInt8))} (h_rec : ∀ (x0 : api_Value), OLe (rec x0) (rec_p x0)) : OLe (g_ref01_put.F rec v) (g_ref01_put.F rec_p v) := by
  unfold g_ref01_put.F
  repeat' (with_reducible first | assumption | apply OLe.bind_ | apply OLe.cond_ | apply OLe.up_ | apply h_rec | apply m_ref01_put.l1 | (refine OLe.lp (fun _ => ?_) _) | exact OLe.refl | intro _)
theorem mono_ref01_put : MonoF (fun rec (x : api_Value) => g_ref01_put.F (fun v => rec v) x) := fun p q h a => by
  apply m_ref01_put.F
  intros
  apply h
theorem m_slices_IndexFunc_api_Rule.l1 {s : (List api_Rule)} {f : api_Rule → Option (Bool)} {x8_1 : Int} {f_p : api_Rule → Option (Bool)} (h_f : ∀ (x0 : api_Rule), OLe (f x0) (f_p x0)) : OLe (g_slices_IndexFunc_api_Rule.l1 s f x8_1) (g_slices_IndexFunc_api_Rule.l1 s f_p x8_1) := by
  unfold g_slices_IndexFunc_api_Rule.l1
  repeat' (with_reducible first | assumption | apply OLe.bind_ | apply OLe.cond_ | apply OLe.up_ | apply h_f | exact OLe.refl | intro _)
theorem m_slices_IndexFunc_api_Rule {s : (List api_Rule)} {f : api_Rule → Option (Bool)} {f_p : api_Rule → Option (Bool)} (h_f : ∀ (x0 : api_Rule), OLe (f x0) (f_p x0)) : OLe (g_slices_IndexFunc_api_Rule s f) (g_slices_IndexFunc_api_Rule s f_p) := by
  unfold g_slices_IndexFunc_api_Rule
  repeat' (with_reducible first | assumption | apply OLe.bind_ | apply OLe.cond_ | apply OLe.up_ | apply h_f | apply m_slices_IndexFunc_api_Rule.l1 | (refine OLe.lp (fun _ => ?_) _) | exact OLe.refl | intro _)
theorem m_slices_IndexFunc_api_Keep.l1 {s : (List api_Keep)} {f : api_Keep → Option (Bool)} {x8_1 : Int} {f_p : api_Keep → Option (Bool)} (h_f : ∀ (x0 : api_Keep), OLe (f x0) (f_p x0)) : OLe (g_slices_IndexFunc_api_Keep.l1 s f x8_1) (g_slices_IndexFunc_api_Keep.l1 s f_p x8_1) := by
  unfold g_slices_IndexFunc_api_Keep.l1
  repeat' (with_reducible first | assumption | apply OLe.bind_ | apply OLe.cond_ | apply OLe.up_ | apply h_f | exact OLe.refl | intro _)
theorem m_slices_IndexFunc_api_Keep {s : (List api_Keep)} {f : api_Keep → Option (Bool)} {f_p : api_Keep → Option (Bool)} (h_f : ∀ (x0 : api_Keep), OLe (f x0) (f_p x0)) : OLe (g_slices_IndexFunc_api_Keep s f) (g_slices_IndexFunc_api_Keep s f_p) := by
  unfold g_slices_IndexFunc_api_Keep
  repeat' (with_reducible first | assumption | apply OLe.bind_ | apply OLe.cond_ | apply OLe.up_ | apply h_f | apply m_slices_IndexFunc_api_Keep.l1 | (refine OLe.lp (fun _ => ?_) _) | exact OLe.refl | intro _)
theorem m_slices_IndexFunc_api_Exception.l1 {s : (List api_Exception)} {f : api_Exception → Option (Bool)} {x8_1 : Int} {f_p : api_Exception → Option (Bool)} (h_f : ∀ (x0 : api_Exception), OLe (f x0) (f_p x0)) : OLe (g_slices_IndexFunc_api_Exception.l1 s f x8_1) (g_slices_IndexFunc_api_Exception.l1 s f_p x8_1) := by
  unfold g_slices_IndexFunc_api_Exception.l1
  repeat' (with_reducible first | assumption | apply OLe.bind_ | apply OLe.cond_ | apply OLe.up_ | apply h_f | exact OLe.refl | intro _)
theorem m_slices_IndexFunc_api_Exception {s : (List api_Exception)} {f : api_Exception → Option (Bool)} {f_p : api_Exception → Option (Bool)} (h_f : ∀ (x0 : api_Exception), OLe (f x0) (f_p x0)) : OLe (g_slices_IndexFunc_api_Exception s f) (g_slices_IndexFunc_api_Exception s f_p) := by
  unfold g_slices_IndexFunc_api_Exception
  repeat' (with_reducible first | assumption | apply OLe.bind_ | apply OLe.cond_ | apply OLe.up_ | apply h_f | apply m_slices_IndexFunc_api_Exception.l1 | (refine OLe.lp (fun _ => ?_) _) | exact OLe.refl | intro _)
end Go.Proofs.YtmbhoimeiahbaaaGreat
