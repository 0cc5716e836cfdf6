/- The number that is read is the number that was written. No program is in sight here. -/
import Derived.Test.YthohienbmhohjaaSpec4
namespace Go.Proofs.Ythohienbmhohjaa
open Go.RowKit

theorem numOf_strip : ∀ l : List UInt8, numOf (strip l) = numOf l
  | [] => rfl
  | [_] => rfl
  | x :: y :: r => by
    rw [strip]
    split
    · rename_i h
      rw [numOf_strip (y :: r)]
      show IntKind.i64.wrap (foldU (sgn y) (y :: r)) = IntKind.i64.wrap (foldU (sgn x) (x :: y :: r))
      have e : foldU (sgn x) (x :: y :: r) = foldU (sgn x * 256 + (x.toNat : Int)) (y :: r) := rfl
      rw [e]
      have hs : sgn x * 256 + (x.toNat : Int) = sgn y := by
        unfold sgn
        rcases h with ⟨rfl, h⟩ | ⟨rfl, h⟩
        · have : y.toNat < 128 := h
          rw [if_neg (by decide), if_neg (by omega)]; rfl
        · have : 128 ≤ y.toNat := h
          rw [if_pos (by decide), if_pos (by omega)]; rfl
      rw [hs]
    · rfl

theorem numOf_intB (n : Int) (h1 : -9223372036854775808 ≤ n) (h2 : n ≤ 9223372036854775807) : numOf (intB n) = n := by
  unfold intB
  rw [numOf_strip, be8]
  show IntKind.i64.wrap (foldU (sgn (byteN n 7)) _) = n
  have e : foldU (sgn (byteN n 7)) [byteN n 7, byteN n 6, byteN n 5, byteN n 4, byteN n 3, byteN n 2, byteN n 1, byteN n 0] = sgn (byteN n 7) * 18446744073709551616 + n % 18446744073709551616 := by
    simp only [foldU, List.foldl_cons, List.foldl_nil, byteN_int]
    have d1 : n / 256 ^ 1 = n / 256 := by simp
    have d2 : n / 256 ^ 2 = n / 256 / 256 := by rw [Int.ediv_ediv_of_nonneg (by omega)]; rfl
    have d3 : n / 256 ^ 3 = n / 256 / 256 / 256 := by rw [Int.ediv_ediv_of_nonneg (by omega), Int.ediv_ediv_of_nonneg (by omega)]; rfl
    have d4 : n / 256 ^ 4 = n / 256 / 256 / 256 / 256 := by repeat rw [Int.ediv_ediv_of_nonneg (by omega)]
                                                            rfl
    have d5 : n / 256 ^ 5 = n / 256 / 256 / 256 / 256 / 256 := by repeat rw [Int.ediv_ediv_of_nonneg (by omega)]
                                                                  rfl
    have d6 : n / 256 ^ 6 = n / 256 / 256 / 256 / 256 / 256 / 256 := by repeat rw [Int.ediv_ediv_of_nonneg (by omega)]
                                                                        rfl
    have d7 : n / 256 ^ 7 = n / 256 / 256 / 256 / 256 / 256 / 256 / 256 := by repeat rw [Int.ediv_ediv_of_nonneg (by omega)]
                                                                              rfl
    have d0 : n / 256 ^ 0 = n := by simp
    rw [d0, d1, d2, d3, d4, d5, d6, d7]
    generalize sgn (byteN n 7) = s
    omega
  rw [e, IntKind.wrap_i64]
  have hs : sgn (byteN n 7) = 0 ∨ sgn (byteN n 7) = -1 := by unfold sgn; split; exact .inr rfl; exact .inl rfl
  rcases hs with h | h <;> rw [h] <;> omega

theorem strip_pos : ∀ l : List UInt8, 1 ≤ l.length → 1 ≤ (strip l).length
  | [], h => h
  | [_], _ => Nat.le_refl _
  | x :: y :: r, _ => by
    rw [strip]
    split
    · exact strip_pos (y :: r) (by simp)
    · simp
theorem intB_len (n : Int) : 1 ≤ (intB n).length ∧ (intB n).length ≤ 8 := by
  have h8 : (beK n 8).length = 8 := by simp [beK]
  have h2 := strip_le (beK n 8)
  exact ⟨strip_pos _ (by omega), by unfold intB; omega⟩
theorem intOk_int (n : Int) (h1 : -9223372036854775808 ≤ n) (h2 : n ≤ 9223372036854775807) : intOk (intV n) = true := by
  unfold intV
  rw [intOk_eq, numOf_intB n h1 h2]
  have := intB_len n
  simp [plainB, this]
end Go.Proofs.Ythohienbmhohjaa
