/- Package der and its reference write elements alike. No program is in sight here. -/
import Derived.Test.YtbeageaekgccgaaD5
set_option linter.unusedVariables false
set_option linter.unusedSimpArgs false
namespace Go.Proofs.Ytbeageaekgccgaa
open Go
mutual
theorem put_le : ∀ v : api_Value, v.sz < 67108864 → v.put.length ≤ 8 * v.sz
  | .mk t b n es, h => by
    rw [api_Value.sz] at h ⊢
    have h1 := putAll_le es (by omega)
    rw [api_Value.put]
    cases n
    · have h2 := lenB_le (n := b.length) (by omega)
      simp; omega
    · have h2 := lenB_le (n := (putAll es).length) (by omega)
      simp; omega
theorem putAll_le : ∀ es : List api_Value, szs es < 67108864 → (putAll es).length ≤ 8 * szs es
  | [], _ => by simp [putAll]
  | v :: vs, h => by
    rw [szs] at h ⊢
    have h1 := put_le v (by omega)
    have h2 := putAll_le vs (by omega)
    rw [putAll, List.length_append]; omega
end
theorem remI_nat (n k : Nat) (hk : 0 < k) : remI (n : Int) (k : Int) = some ((n % k : Nat) : Int) := by
  unfold remI
  rw [if_neg (by omega), Int.tmod_eq_emod_of_nonneg (by omega)]; rfl
theorem quoI_nat (n k : Nat) (hk : 0 < k) (hn : n < 4611686018427387904) : quoI (n : Int) (k : Int) = some ((n / k : Nat) : Int) := by
  unfold quoI
  have : n / k ≤ n := Nat.div_le_self n k
  rw [if_neg (by omega), Int.tdiv_eq_ediv_of_nonneg (by omega), show ((n : Int) / (k : Int)) = ((n / k : Nat) : Int) from rfl, W_nat (by omega)]
theorem ref_len_loop (n : Nat) : ∀ (b : List UInt8), n < 281474976710656 → cnt n + b.length ≤ 1000 → loop (fun q' => g_ref01_length.l1 q'.1 q'.2) ((n : Int), b) = some (UInt8.ofNat (128 + (be n ++ b).length) :: (be n ++ b)) := by
  induction n using Nat.strongRecOn with
  | _ n ih =>
    intro b hn hb
    rcases Nat.eq_zero_or_pos n with h0 | h0
    · subst h0
      refine loop_done ?_
      show g_ref01_length.l1 ((0 : Nat) : Int) b = _
      unfold g_ref01_length.l1
      rw [decide_eq_false (by omega), cond_false, W_id (by omega), appI_ok (by simp; omega), show (128 : Int) + (b.length : Int) = ((128 + b.length : Nat) : Int) by omega, u8_nat, be_0]
      rfl
    · have hc := cnt_pos h0
      have e := ih (n / 256) (Nat.div_lt_self h0 (by omega)) ([UInt8.ofNat (n % 256)] ++ b) (Nat.lt_of_le_of_lt (Nat.div_le_self n 256) hn) (by simp; omega)
      refine (loop_next (s' := (((n / 256 : Nat) : Int), [UInt8.ofNat (n % 256)] ++ b)) ?_).trans (e.trans ?_)
      · show g_ref01_length.l1 (n : Int) b = _
        unfold g_ref01_length.l1
        rw [decide_eq_true (by omega), cond_true, show (256 : Int) = ((256 : Nat) : Int) from rfl, remI_nat n 256 (by omega), Option.bind_some, appI_ok (by simp; omega), Option.bind_some, quoI_nat n 256 (by omega) (by omega), Option.bind_some, u8_nat]
      · rw [be_pos h0]
        simp
theorem ref01_length {n : Nat} (hn : n < 281474976710656) : g_ref01_length (n : Int) = some (lenB n) := by
  unfold g_ref01_length lenB
  by_cases h : n < 128
  · rw [decide_eq_true (by omega), if_pos h, u8_nat]; rfl
  · rw [decide_eq_false (by omega), if_neg h, cond_false]
    have hc := cnt_le 6 n (by simpa using hn)
    refine (ref_len_loop n [] hn (by simp; omega)).trans ?_
    rw [List.append_nil]; rfl
end Go.Proofs.Ytbeageaekgccgaa
