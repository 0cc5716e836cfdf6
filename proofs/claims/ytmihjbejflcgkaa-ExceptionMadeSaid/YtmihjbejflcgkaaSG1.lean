/- The library's sort: its scans, bits, random numbers: no element type here. -/
import Derived.Test.YtmihjbejflcgkaaL3
import Derived.Test.YtmihjbejflcgkaaC1
import Derived.Sort.AssemblyPlain
set_option linter.unusedVariables false
set_option linter.unusedSimpArgs false
namespace Go.Proofs.Ytmihjbejflcgkaa
open Go Go.Sort
theorem shr_pos {x : Int} (hx : 0 ≤ x) (k : Nat) (hk : k ≤ 64) : shrK .u64 x (k : Int) = some (x / 2 ^ k) := by
  unfold shrK
  rw [if_neg (by omega)]
  have e : min ((k : Int)).toNat IntKind.u64.bits = k := by
    show min ((k : Int)).toNat 64 = k
    omega
  rw [e, Int.fdiv_eq_ediv_of_nonneg _ (Int.le_of_lt (Int.pow_pos (by decide)))]
noncomputable def chkLen (x : Nat) : Bool := match g_math_bits_Len64.j3 (x : Int) 0 with | some L => decide (0 ≤ L ∧ L ≤ 8 ∧ x < 2 ^ L.toNat ∧ (x = 0 ∨ 2 ^ L.toNat ≤ 2 * x)) | none => false
theorem chkLen_all : (List.range 256).all chkLen = true := by decide +kernel
theorem j3_len (x n : Int) : g_math_bits_Len64.j3 x n = (g_math_bits_Len64.j3 x 0).bind fun c => some (W (n + c)) := by
  unfold g_math_bits_Len64.j3
  cases idxT _ ((u8 x).toNat : Int) with
  | none => rfl
  | some c =>
    have := c.toNat_lt
    show some (W (n + (c.toNat : Int))) = some (W (n + W (0 + (c.toNat : Int))))
    rw [W_id (x := 0 + (c.toNat : Int)) (by omega), Int.zero_add]
theorem j3_ok (x : Nat) (hx : x < 256) : ∃ L : Nat, L ≤ 8 ∧ x < 2 ^ L ∧ (x = 0 ∨ 2 ^ L ≤ 2 * x) ∧ ∀ n : Nat, n < 1000 → g_math_bits_Len64.j3 (x : Int) (n : Int) = some ((n + L : Nat) : Int) := by
  have h := List.all_eq_true.1 chkLen_all x (List.mem_range.2 hx)
  unfold chkLen at h
  cases hj : g_math_bits_Len64.j3 (x : Int) 0 with
  | none => rw [hj] at h; cases h
  | some L =>
    rw [hj] at h
    obtain ⟨h1, h2, h3, h4⟩ := of_decide_eq_true h
    refine ⟨L.toNat, by omega, h3, h4, fun n hn => ?_⟩
    rw [j3_len, hj, Option.bind_some, W_id (by omega)]
    exact congrArg some (by omega)
theorem len_ok (x : Nat) (hx : x < 65536) : ∃ L : Nat, L ≤ 16 ∧ x < 2 ^ L ∧ (x = 0 ∨ 2 ^ L ≤ 2 * x) ∧ g_math_bits_Len (x : Int) = some (L : Int) := by
  by_cases h : x < 256
  · obtain ⟨L, h1, h2, h3, h4⟩ := j3_ok x h
    refine ⟨L, by omega, h2, h3, ?_⟩
    have h5 : g_math_bits_Len64.j3 (x : Int) 0 = some (L : Int) := by
      have h6 := h4 0 (by omega)
      rw [Nat.zero_add] at h6
      exact h6
    unfold g_math_bits_Len g_math_bits_Len64 g_math_bits_Len64.j1 g_math_bits_Len64.j2
    rw [decide_eq_false (by omega), cond_false, decide_eq_false (by omega), cond_false, decide_eq_false (by omega), cond_false]
    rw [h5, Option.bind_some]
  · obtain ⟨L, h1, h2, h3, h4⟩ := j3_ok (x / 256) (by omega)
    refine ⟨8 + L, by omega, ?_, ?_, ?_⟩
    · rw [Nat.pow_add]; omega
    · rw [Nat.pow_add]; omega
    · have h5 := h4 8 (by omega)
      unfold g_math_bits_Len g_math_bits_Len64 g_math_bits_Len64.j1 g_math_bits_Len64.j2
      rw [decide_eq_false (by omega), cond_false, decide_eq_false (by omega), cond_false, decide_eq_true (by omega), cond_true]
      have e : shrK .u64 (x : Int) 8 = some ((x / 256 : Nat) : Int) := by
        rw [show (8 : Int) = ((8 : Nat) : Int) from rfl, shr_pos (by omega) 8 (by omega)]
        rfl
      rw [e, Option.bind_some, show W (0 + 8) = ((8 : Nat) : Int) from rfl, h5, Option.bind_some]
theorem wrap_pos {x : Int} (h : 0 ≤ x ∧ x < 18446744073709551616) : IntKind.u64.wrap x = x := by
  have e : IntKind.u64.wrap x = x % 18446744073709551616 := by simp [IntKind.wrap, IntKind.bits, IntKind.signed]
  rw [e]; omega
end Go.Proofs.Ytmihjbejflcgkaa
