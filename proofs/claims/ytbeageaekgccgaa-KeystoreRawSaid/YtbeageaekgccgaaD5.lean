/- Package der and its reference write numbers alike. No program is in sight here. -/
import Derived.Test.YtbeageaekgccgaaD4
set_option linter.unusedVariables false
set_option linter.unusedSimpArgs false
namespace Go.Proofs.Ytbeageaekgccgaa
open Go
theorem u8_nat (m : Nat) : u8 (m : Int) = UInt8.ofNat m := by
  apply UInt8.toNat_inj.1
  have := u8_toNat (m : Int)
  rw [UInt8.toNat_ofNat']
  omega
theorem u8_byteN (n : Int) (k : Nat) : u8 (n / 256 ^ k) = byteN n k := rfl
theorem shrK_ok {k : IntKind} {x y : Int} (e : Nat) (hy : y = (e : Int)) (he : e ≤ k.bits) : shrK k x y = some (x / 2 ^ e) := by
  subst hy
  unfold shrK
  rw [if_neg (by omega), Int.toNat_natCast, Nat.min_eq_left he, Int.fdiv_eq_ediv_of_nonneg]
  exact Int.pow_nonneg (by omega)
theorem shr8 {x : Int} : shrK .i64 x 8 = some (x / 256) := shrK_ok (k := .i64) 8 rfl (by decide)
theorem beK_len (n : Int) (k : Nat) : (beK n k).length = k := by unfold beK; simp
theorem ref_int_l1 (x : Int) (y : UInt8) (r : List UInt8) : g_ref01_Int.l1 x (y :: r) = g_ref01_Int.j2 x (y :: r) (!((decide (x = 0) && decide ((y.toNat : Int) < 128)) || (decide (x = -1) && decide (128 ≤ (y.toNat : Int))))) := by
  have hg : getI (y :: r) 0 = some y := rfl
  unfold g_ref01_Int.l1
  by_cases h0 : x = 0
  · have h1 : ¬ x = -1 := by omega
    by_cases c : (y.toNat : Int) < 128
    · have c' : ¬ (128 : Int) ≤ (y.toNat : Int) := by omega
      simp [h0, hg, c, c']
    · have c' : (128 : Int) ≤ (y.toNat : Int) := by omega
      simp [h0, hg, c, c']
  · by_cases h1 : x = -1
    · by_cases c : (y.toNat : Int) < 128
      · have c' : ¬ (128 : Int) ≤ (y.toNat : Int) := by omega
        simp [h1, hg, c, c']
      · have c' : (128 : Int) ≤ (y.toNat : Int) := by omega
        simp [h1, hg, c, c']
    · simp [h0, h1]
theorem ref_int_loop (n : Int) (h1 : -9223372036854775808 ≤ n) (h2 : n ≤ 9223372036854775807) : ∀ d k, k + d = 7 → (∀ j, 1 ≤ j → j ≤ k → fits n j = false) → loop (fun q' => g_ref01_Int.l1 q'.1 q'.2) (n / 256 ^ (k + 1), (beK n 8).drop (7 - k)) = some (intV n) := by
  intro d
  induction d with
  | zero =>
    intro k hk hn
    obtain rfl : k = 7 := by omega
    have hf := (fits_iff n h1 h2 7 (by omega)).1 rfl
    rw [loop_eq]
    dsimp only
    rw [drop_be n 7 (by omega), ref_int_l1]
    have hs := sizeI_at n 7 (by omega) hn rfl
    have hc : ((decide (n / 256 ^ (7 + 1) = 0) && decide (((byteN n 7).toNat : Int) < 128)) || (decide (n / 256 ^ (7 + 1) = -1) && decide (128 ≤ ((byteN n 7).toNat : Int)))) = true := by simpa using hf
    rw [hc]
    show some (api_Value.mk 2 (byteN n 7 :: (beK n 8).drop (8 - 7)) false []) = some (intV n)
    unfold intV
    rw [intB_eq n h1 h2, hs, ← drop_be n 7 (by omega)]
  | succ d ih =>
    intro k hk hn
    have FI := fits_iff n h1 h2 k (by omega)
    rw [loop_eq]
    dsimp only
    rw [drop_be n k (by omega), ref_int_l1]
    cases hf : fits n (k + 1) with
    | true =>
      have hs := sizeI_at n k (by omega) hn hf
      have hc : ((decide (n / 256 ^ (k + 1) = 0) && decide (((byteN n k).toNat : Int) < 128)) || (decide (n / 256 ^ (k + 1) = -1) && decide (128 ≤ ((byteN n k).toNat : Int)))) = true := by simpa using FI.1 hf
      rw [hc]
      show some (api_Value.mk 2 (byteN n k :: (beK n 8).drop (8 - k)) false []) = some (intV n)
      unfold intV
      rw [intB_eq n h1 h2, hs, ← drop_be n k (by omega), show 8 - (k + 1) = 7 - k by omega]
    | false =>
      have hc : ((decide (n / 256 ^ (k + 1) = 0) && decide (((byteN n k).toNat : Int) < 128)) || (decide (n / 256 ^ (k + 1) = -1) && decide (128 ≤ ((byteN n k).toNat : Int)))) = false := by
        cases hq : ((decide (n / 256 ^ (k + 1) = 0) && decide (((byteN n k).toNat : Int) < 128)) || (decide (n / 256 ^ (k + 1) = -1) && decide (128 ≤ ((byteN n k).toNat : Int)))) with
        | false => rfl
        | true =>
          have := FI.2 (by simpa using hq)
          rw [hf] at this; cases this
      rw [hc]
      have e := ih (k + 1) (by omega) fun j a b => by
        rcases Nat.lt_or_ge k j with h | h
        · obtain rfl : j = k + 1 := by omega
          exact hf
        · exact hn j a h
      rw [drop_be n (k + 1) (by omega), show 8 - (k + 1) = 7 - k by omega, ← div_succ] at e
      unfold g_ref01_Int.j2
      rw [Bool.not_false, cond_true, appI_ok (by simp [beK_len]; omega), shr8, ← drop_be n k (by omega)]
      exact e
theorem ref01_Int (n : Int) (h1 : -9223372036854775808 ≤ n) (h2 : n ≤ 9223372036854775807) : g_ref01_Int n = some (intV n) := by
  unfold g_ref01_Int
  rw [shr8]
  have := ref_int_loop n h1 h2 7 0 (by omega) (fun j a b => by omega)
  rw [show (beK n 8).drop (7 - 0) = [byteN n 0] by rw [be8]; rfl] at this
  rw [Option.bind_some, show u8 n = byteN n 0 by rw [← u8_byteN]; simp]
  exact this
theorem intV_sz (n : Int) : (intV n).sz ≤ 9 := by
  unfold intV
  rw [sz_eq]
  have h := strip_le (beK n 8)
  rw [beK_len] at h
  show (intB n).length + szs [] + 1 ≤ 9
  unfold intB
  rw [szs]; omega
end Go.Proofs.Ytbeageaekgccgaa
