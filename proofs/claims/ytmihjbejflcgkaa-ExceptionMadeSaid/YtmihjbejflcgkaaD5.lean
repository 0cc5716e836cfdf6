/- Package der and its reference write numbers alike. No program is in sight here. -/
import Derived.Test.YtmihjbejflcgkaaD4
set_option linter.unusedVariables false
set_option linter.unusedSimpArgs false
namespace Go.Proofs.Ytmihjbejflcgkaa
open Go
theorem u8_nat (m : Nat) : u8 (m : Int) = UInt8.ofNat m := by
  apply UInt8.toNat_inj.1
  have := u8_toNat (m : Int)
  rw [UInt8.toNat_ofNat']
  omega
theorem u8_byteN (n : Int) (k : Nat) : u8 (n / 256 ^ k) = byteN n k := rfl
theorem shrK_ok {k : IntKind} {x y : Int} (e : Nat) (hy : y = (e : Int)) (he : e ≤ k.bits) : shrK k x y = some (x / 2 ^ e) := by
  subst hy
  unfold shrK
  rw [if_neg (by omega), Int.toNat_natCast, Nat.min_eq_left he, Int.fdiv_eq_ediv_of_nonneg]
  exact Int.pow_nonneg (by omega)
theorem shr8 {x : Int} : shrK .i64 x 8 = some (x / 256) := shrK_ok (k := .i64) 8 rfl (by decide)
theorem beK_succ (n : Int) (k : Nat) : beK n (k + 1) = beK n k ++ [UInt8.ofNat ((IntKind.u64.wrap n).toNat / 2 ^ (56 - 8 * k) % 256)] := by
  unfold beK
  rw [List.range_succ, List.map_append]; rfl
theorem beK_len (n : Int) (k : Nat) : (beK n k).length = k := by unfold beK; simp
theorem u8_wrap (n : Int) (e : Nat) : u8 (IntKind.u64.wrap n / 2 ^ e) = UInt8.ofNat ((IntKind.u64.wrap n).toNat / 2 ^ e % 256) := by
  have h := u64_wrap_pos n
  obtain ⟨m, hm⟩ := Int.eq_ofNat_of_zero_le h.1
  rw [hm, Int.toNat_natCast]
  have : (m : Int) / 2 ^ e = ((m / 2 ^ e : Nat) : Int) := by simp
  rw [this, u8_nat]
  apply UInt8.toNat_inj.1
  rw [UInt8.toNat_ofNat', UInt8.toNat_ofNat']
  omega
theorem strip_step (x y : UInt8) (r : List UInt8) : strip (x :: y :: r) = if ((x.toNat : Int) = 0 ∧ (y.toNat : Int) < 128) ∨ ((x.toNat : Int) = 255 ∧ (128 : Int) ≤ (y.toNat : Int)) then strip (y :: r) else x :: y :: r := by
  rw [strip]
  have e0 : (x = 0) ↔ ((x.toNat : Int) = 0) := by rw [← UInt8.toNat_inj]; simp
  have e1 : (x = 255) ↔ ((x.toNat : Int) = 255) := by rw [← UInt8.toNat_inj]; simp; omega
  have e2 : (y < 128) ↔ ((y.toNat : Int) < 128) := by rw [UInt8.lt_iff_toNat_lt]; simp; omega
  have e3 : (128 ≤ y) ↔ ((128 : Int) ≤ (y.toNat : Int)) := by rw [UInt8.le_iff_toNat_le]; simp; omega
  simp only [e0, e1, e2, e3]
theorem der_int_strip : ∀ b : List UInt8, b.length ≤ 8 → loop (fun q' => g_der_Int.l2 q') b = some (.mk 2 (strip b) false [])
  | [], _ => by rw [loop_eq]; rfl
  | [x], _ => by rw [loop_eq]; rfl
  | x :: y :: r, h => by
    have ih := der_int_strip (y :: r) (by simp at h ⊢; omega)
    have hl : (1 : Int) < ((x :: y :: r).length : Int) := by simp; omega
    have hs : slI (x :: y :: r) 1 ((x :: y :: r).length : Int) = some (y :: r) := by
      unfold slI
      rw [if_pos ⟨by omega, by omega, by omega⟩]
      congr 1
      exact List.take_of_length_le (by simp; omega)
    have hg0 : getI (x :: y :: r) 0 = some x := rfl
    have hg1 : getI (x :: y :: r) 1 = some y := rfl
    have hj : g_der_Int.j3 (x :: y :: r) true = some (.next (y :: r)) := by unfold g_der_Int.j3; rw [hs]; rfl
    have hk : g_der_Int.j3 (x :: y :: r) false = some (.done (.mk 2 (x :: y :: r) false [])) := rfl
    have hb : g_der_Int.l2 (x :: y :: r) = some (if ((x.toNat : Int) = 0 ∧ (y.toNat : Int) < 128) ∨ ((x.toNat : Int) = 255 ∧ (128 : Int) ≤ (y.toNat : Int)) then .next (y :: r) else .done (.mk 2 (x :: y :: r) false [])) := by
      unfold g_der_Int.l2
      rw [decide_eq_true hl, hg0, hg1]
      simp only [cond_true, Option.bind_some]
      by_cases a0 : (x.toNat : Int) = 0
      · have a1 : ¬ (x.toNat : Int) = 255 := by omega
        by_cases c0 : (y.toNat : Int) < 128
        · rw [decide_eq_true a0, decide_eq_true c0, if_pos (.inl ⟨a0, c0⟩)]; simp only [cond_true, cond_false]; exact hj
        · rw [decide_eq_true a0, decide_eq_false c0, decide_eq_false a1, if_neg (by omega)]; simp only [cond_true, cond_false]; exact hk
      · by_cases a1 : (x.toNat : Int) = 255
        · rw [decide_eq_false a0, decide_eq_true a1]
          by_cases c1 : (128 : Int) ≤ (y.toNat : Int)
          · rw [decide_eq_true c1, if_pos (.inr ⟨a1, c1⟩)]; simp only [cond_true, cond_false]; exact hj
          · rw [decide_eq_false c1, if_neg (by omega)]; simp only [cond_true, cond_false]; exact hk
        · rw [decide_eq_false a0, decide_eq_false a1, if_neg (by omega)]; simp only [cond_true, cond_false]; exact hk
    rw [loop_eq, strip_step]
    rw [hb]
    split
    · exact ih
    · rfl
theorem der_Int (n : Int) : g_der_Int n = some (intV n) := by
  unfold g_der_Int
  refine loop_path 8 (fun k => ((56 - 8 * (k : Int)), beK n k)) (intV n) ?_ ?_
  · intro k hk
    show g_der_Int.l1 n (56 - 8 * (k : Int)) (beK n k) = _
    unfold g_der_Int.l1
    rw [decide_eq_true (by omega), shrK_ok (56 - 8 * k) (by omega) (by show 56 - 8 * k ≤ 64; omega)]
    simp only [cond_true, Option.bind_some]
    rw [appI_ok (by rw [beK_len]; simp; omega), W_id (by omega), u8_wrap, ← beK_succ]
    simp only [Option.bind_some]
    congr 3
    omega
  · show g_der_Int.l1 n (56 - 8 * ((8 : Nat) : Int)) (beK n 8) = _
    unfold g_der_Int.l1
    rw [der_int_strip _ (by rw [beK_len]; omega)]
    rfl
theorem ref_int_l1 (x : Int) (y : UInt8) (r : List UInt8) : g_ref01_Int.l1 x (y :: r) = g_ref01_Int.j2 x (y :: r) (!((decide (x = 0) && decide ((y.toNat : Int) < 128)) || (decide (x = -1) && decide (128 ≤ (y.toNat : Int))))) := by
  have hg : getI (y :: r) 0 = some y := rfl
  unfold g_ref01_Int.l1
  by_cases h0 : x = 0
  · have h1 : ¬ x = -1 := by omega
    by_cases c : (y.toNat : Int) < 128
    · have c' : ¬ (128 : Int) ≤ (y.toNat : Int) := by omega
      simp [h0, hg, c, c']
    · have c' : (128 : Int) ≤ (y.toNat : Int) := by omega
      simp [h0, hg, c, c']
  · by_cases h1 : x = -1
    · by_cases c : (y.toNat : Int) < 128
      · have c' : ¬ (128 : Int) ≤ (y.toNat : Int) := by omega
        simp [h1, hg, c, c']
      · have c' : (128 : Int) ≤ (y.toNat : Int) := by omega
        simp [h1, hg, c, c']
    · simp [h0, h1]
theorem ref_int_loop (n : Int) (h1 : -9223372036854775808 ≤ n) (h2 : n ≤ 9223372036854775807) : ∀ d k, k + d = 7 → (∀ j, 1 ≤ j → j ≤ k → fits n j = false) → loop (fun q' => g_ref01_Int.l1 q'.1 q'.2) (n / 256 ^ (k + 1), (beK n 8).drop (7 - k)) = some (intV n) := by
  intro d
  induction d with
  | zero =>
    intro k hk hn
    obtain rfl : k = 7 := by omega
    have hf := (fits_iff n h1 h2 7 (by omega)).1 rfl
    rw [loop_eq]
    dsimp only
    rw [drop_be n 7 (by omega), ref_int_l1]
    have hs := sizeI_at n 7 (by omega) hn rfl
    have hc : ((decide (n / 256 ^ (7 + 1) = 0) && decide (((byteN n 7).toNat : Int) < 128)) || (decide (n / 256 ^ (7 + 1) = -1) && decide (128 ≤ ((byteN n 7).toNat : Int)))) = true := by simpa using hf
    rw [hc]
    show some (api_Value.mk 2 (byteN n 7 :: (beK n 8).drop (8 - 7)) false []) = some (intV n)
    unfold intV
    rw [intB_eq n h1 h2, hs, ← drop_be n 7 (by omega)]
  | succ d ih =>
    intro k hk hn
    have FI := fits_iff n h1 h2 k (by omega)
    rw [loop_eq]
    dsimp only
    rw [drop_be n k (by omega), ref_int_l1]
    cases hf : fits n (k + 1) with
    | true =>
      have hs := sizeI_at n k (by omega) hn hf
      have hc : ((decide (n / 256 ^ (k + 1) = 0) && decide (((byteN n k).toNat : Int) < 128)) || (decide (n / 256 ^ (k + 1) = -1) && decide (128 ≤ ((byteN n k).toNat : Int)))) = true := by simpa using FI.1 hf
      rw [hc]
      show some (api_Value.mk 2 (byteN n k :: (beK n 8).drop (8 - k)) false []) = some (intV n)
      unfold intV
      rw [intB_eq n h1 h2, hs, ← drop_be n k (by omega), show 8 - (k + 1) = 7 - k by omega]
    | false =>
      have hc : ((decide (n / 256 ^ (k + 1) = 0) && decide (((byteN n k).toNat : Int) < 128)) || (decide (n / 256 ^ (k + 1) = -1) && decide (128 ≤ ((byteN n k).toNat : Int)))) = false := by
        cases hq : ((decide (n / 256 ^ (k + 1) = 0) && decide (((byteN n k).toNat : Int) < 128)) || (decide (n / 256 ^ (k + 1) = -1) && decide (128 ≤ ((byteN n k).toNat : Int)))) with
        | false => rfl
        | true =>
          have := FI.2 (by simpa using hq)
          rw [hf] at this; cases this
      rw [hc]
      have e := ih (k + 1) (by omega) fun j a b => by
        rcases Nat.lt_or_ge k j with h | h
        · obtain rfl : j = k + 1 := by omega
          exact hf
        · exact hn j a h
      rw [drop_be n (k + 1) (by omega), show 8 - (k + 1) = 7 - k by omega, ← div_succ] at e
      unfold g_ref01_Int.j2
      rw [Bool.not_false, cond_true, appI_ok (by simp [beK_len]; omega), shr8, ← drop_be n k (by omega)]
      exact e
theorem ref01_Int (n : Int) (h1 : -9223372036854775808 ≤ n) (h2 : n ≤ 9223372036854775807) : g_ref01_Int n = some (intV n) := by
  unfold g_ref01_Int
  rw [shr8]
  have := ref_int_loop n h1 h2 7 0 (by omega) (fun j a b => by omega)
  rw [show (beK n 8).drop (7 - 0) = [byteN n 0] by rw [be8]; rfl] at this
  rw [Option.bind_some, show u8 n = byteN n 0 by rw [← u8_byteN]; simp]
  exact this
theorem intV_sz (n : Int) : (intV n).sz ≤ 9 := by
  unfold intV
  rw [sz_eq]
  have h := strip_le (beK n 8)
  rw [beK_len] at h
  show (intB n).length + szs [] + 1 ≤ 9
  unfold intB
  rw [szs]; omega
end Go.Proofs.Ytmihjbejflcgkaa
