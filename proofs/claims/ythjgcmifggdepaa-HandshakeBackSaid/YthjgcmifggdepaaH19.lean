/- The walk of the laws' sanity check. -/
import Derived.Test.YthjgcmifggdepaaH18
import Derived.Test.YthjgcmifggdepaaH10
set_option linter.unusedSimpArgs false
set_option linter.unusedVariables false
namespace Go.Proofs.Ythjgcmifggdepaa
open Go.RowKit

def H0 : Hl := ⟨3, [10], [3]⟩
def C0 : Ch := ⟨3, 10, 7⟩
def X0 : List UInt8 := [1, 3, 1, 0, 10, 1, 3]
def Y0 : List UInt8 := [2, 3, 0, 10, 0, 0, 0, 7]
theorem h0_ok : helloB H0 = true := by decide
theorem c0_ok : choiceB C0 = true := by decide
theorem rawH0 : rawH H0 = X0 := by decide
theorem rawC0 : rawC C0 = Y0 := by decide
theorem encH0 : encHE H0 = 0 ∧ encHL H0 = X0 := by unfold encHE encHL; rw [h0_ok, if_pos rfl, if_pos rfl, rawH0]; exact ⟨rfl, rfl⟩
theorem encC0 : encCE C0 = 0 ∧ encCL C0 = Y0 := by unfold encCE encCL; rw [c0_ok, if_pos rfl, if_pos rfl, rawC0]; exact ⟨rfl, rfl⟩
theorem rec0 : recE 4 (X0 ++ Y0) = 0 ∧ recL 4 (X0 ++ Y0) = recs 4 (X0 ++ Y0) := by
  have e : recE 4 (X0 ++ Y0) = 0 := by unfold recE; rw [if_neg (by omega), if_neg (by show ¬ 4096 < 15; omega)]
  refine ⟨e, ?_⟩
  unfold recL
  rw [e]
  rfl
theorem cap0 : capD (recs 4 (X0 ++ Y0)) = ⟨H0, C0, 0⟩ := by
  have h1 := msgs_recs (s := 4) (by omega) (by omega) [] _ (X0 ++ Y0) (Nat.le_refl _)
  rw [msgs_nil, List.append_nil] at h1
  have h2 := recs_len (s := 4) (by omega) _ (X0 ++ Y0) (Nat.le_refl _)
  have h3 : (X0 ++ Y0).length = 15 := rfl
  obtain ⟨e1, e2⟩ := msgs_back (m := X0 ++ Y0) (by rw [h1]; simp) (by omega)
  exact capD_raw h0_ok c0_ok e1 (by rw [e2, rawH0, rawC0])

theorem cap0_open {w w' : World} {e : Ending} (h : CapRes w ⟨H0, C0, 0⟩ e w') : ∃ A n c A' n' c', e = .returned (.tuple #[.agg #[.int .i64 3, .slice A n c, .slice A' n' c'], .agg #[.int .i64 3, .int .i64 10, .int .i64 7], .int .i64 0]) ∧ Ext w w' := by
  obtain ⟨hv, he, ⟨v1, v2, rfl, hm, h1, h2⟩, hx⟩ := h
  obtain ⟨A, n, c, rfl, -⟩ := RdC.slice h1
  obtain ⟨A', n', c', rfl, -⟩ := RdC.slice h2
  exact ⟨A, n, c, A', n', c', he, hx⟩
theorem lit0 (W : World) (B : Nat) (hB : B = W.heap.size) : (convert 33 9 (.slice (some ⟨B, 0, none⟩) 7 7)).run Try.prog (W.alloc (.cells #[.int .u8 1, .int .u8 3, .int .u8 1, .int .u8 0, .int .u8 10, .int .u8 1, .int .u8 3] 5)) = .ok (.string ⟨X0.toArray⟩) (W.alloc (.cells #[.int .u8 1, .int .u8 3, .int .u8 1, .int .u8 0, .int .u8 10, .int .u8 1, .int .u8 3] 5)) := by
  subst hB
  exact conv_bytes (P := Try.prog) 33 5 9 Try.underlying33 Try.underlying5 Try.underlying9 (bytes_lit W X0 7 rfl (by simp [maxLen]))

set_option maxRecDepth 100000 in
set_option maxHeartbeats 1600000 in
theorem awake_any (w : World) : Calls Try.prog 9 #[] w fun e w' => e = .returned (.bool true) ∧ Ext w w' := by
  have HV0 : Hid (RdHv ((w.alloc (.cells #[.int .i64 10] 3)).alloc (.cells #[.int .i64 3] 3)) H0 (.agg #[.int .i64 3, .slice (some ⟨w.heap.size, 0, none⟩) 1 1, .slice (some ⟨w.heap.size + 1, 0, none⟩) 1 1])) := by
    refine ⟨_, _, rfl, by show _ ≤ (3 : Int) ∧ (3 : Int) ≤ _; omega, (int_lit (x := 10) (Ext.refl w) (by omega)).ext ((Ext.refl _).alloc _), ?_⟩
    have := int_lit (x := 3) (Ext.refl (w.alloc (.cells #[.int .i64 10] 3))) (by omega)
    rwa [World.size_alloc] at this
  have tok1 : True := trivial
  go_enter Try.func9, Try.ntmps9
  go_wp2_with (first
    | (go_at_call 13; refine (encodeHello_any H0 _ _ HV0.out).mono ?_; rw [encH0.1, encH0.2]; rintro e w1 ⟨A1, n1, c1, rfl, hown1, hx1⟩)
    | (go_at_call 15; refine (encodeChoice_any C0 _).mono ?_; rw [encC0.1, encC0.2]; rintro e w2 ⟨A2, n2, c2, rfl, hown2, hx2⟩)
    | (at_builtin; have _t := tok1; refine wpList_appF (T := fun _ => False) (a0 := w2) sl33 (by rfl) _ _ (by rfl) (by exact (Ext.refl _).alloc _) (by exact own_lit (Nat.le_refl _) (l := []) (n := 0) rfl (by omega) us_nil) (by rfl) (by rfl) (by exact hown1.rd.ext (hx2.alloc _)) (bytesC_flat _) (by simp only [bytesC_length, List.length_nil]; show (0 + 7) * 1 ≤ _; omega) ?_; intro A3 n3 c3 w3 hown3 hx3 _ _; clear tok1)
    | (at_builtin; refine wpList_appF (T := fun _ => False) (a0 := w2) sl33 (by rfl) _ _ (by rfl) (by exact hx3) (by exact hown3) (by rfl) (by rfl) (by exact hown2.rd.ext hx3) (bytesC_flat _) (by simp only [bytesC_length, List.length_append, List.length_nil]; show (0 + 7 + 8) * 1 ≤ _; omega) ?_; intro A4 n4 c4 w4 hown4 hx4 _ _; rw [← bytesC_append, ← bytesC_append, List.nil_append] at hown4)
    | (go_at_call 28; refine (records_any (X0 ++ Y0) 4 _ _ _ _ hown4.rd).mono ?_; rw [rec0.1, rec0.2]; rintro e w5 ⟨A5, n5, c5, rfl, hown5, hx5⟩)
    | (go_at_call 22; refine (capture_any _ _ _ _ _ hown5.rd).mono ?_; rw [cap0]; intro e w6 h6; obtain ⟨A6, n6, c6, A7, n7, c7, rfl, hx6⟩ := cap0_open h6; have hxA := ((hx2.trans (hx4.trans (hx5.trans hx6))).alloc (.cells #[.int .i64 3, .slice A6 n6 c6, .slice A7 n7 c7] 24)).alloc (.cells #[.int .i64 3, .int .i64 10, .int .i64 7] 26); have kc := conv_bytes (P := Try.prog) 33 5 9 Try.underlying33 Try.underlying5 Try.underlying9 (hown1.rd.ext hxA); have kc2 : (convert 33 9 (.slice (some ⟨w6.heap.size + 1 + 1, 0, none⟩) 7 7)).run Try.prog (((w6.alloc (.cells #[.int .i64 3, .slice A6 n6 c6, .slice A7 n7 c7] 24)).alloc (.cells #[.int .i64 3, .int .i64 10, .int .i64 7] 26)).alloc (.cells #[.int .u8 1, .int .u8 3, .int .u8 1, .int .u8 0, .int .u8 10, .int .u8 1, .int .u8 3] 5)) = .ok (.string ⟨X0.toArray⟩) _ := lit0 _ _ (by simp)))
  go_ret
  exact ⟨ret_val rfl, ((((Ext.refl w).alloc _).alloc _).trans (hx1.trans hxA)).alloc _⟩
end Go.Proofs.Ythjgcmifggdepaa
