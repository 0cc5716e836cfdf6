/- Package der and its reference write elements alike. No program is in sight here. -/
import Derived.Test.YtmihjbejflcgkaaD5
set_option linter.unusedVariables false
set_option linter.unusedSimpArgs false
namespace Go.Proofs.Ytmihjbejflcgkaa
open Go
mutual
theorem put_le : ∀ v : api_Value, v.sz < 67108864 → v.put.length ≤ 8 * v.sz
  | .mk t b n es, h => by
    rw [api_Value.sz] at h ⊢
    have h1 := putAll_le es (by omega)
    rw [api_Value.put]
    cases n
    · have h2 := lenB_le (n := b.length) (by omega)
      simp; omega
    · have h2 := lenB_le (n := (putAll es).length) (by omega)
      simp; omega
theorem putAll_le : ∀ es : List api_Value, szs es < 67108864 → (putAll es).length ≤ 8 * szs es
  | [], _ => by simp [putAll]
  | v :: vs, h => by
    rw [szs] at h ⊢
    have h1 := put_le v (by omega)
    have h2 := putAll_le vs (by omega)
    rw [putAll, List.length_append]; omega
end
theorem remI_nat (n k : Nat) (hk : 0 < k) : remI (n : Int) (k : Int) = some ((n % k : Nat) : Int) := by
  unfold remI
  rw [if_neg (by omega), Int.tmod_eq_emod_of_nonneg (by omega)]; rfl
theorem quoI_nat (n k : Nat) (hk : 0 < k) (hn : n < 4611686018427387904) : quoI (n : Int) (k : Int) = some ((n / k : Nat) : Int) := by
  unfold quoI
  have : n / k ≤ n := Nat.div_le_self n k
  rw [if_neg (by omega), Int.tdiv_eq_ediv_of_nonneg (by omega), show ((n : Int) / (k : Int)) = ((n / k : Nat) : Int) from rfl, W_nat (by omega)]
theorem ref_len_loop (n : Nat) : ∀ (b : List UInt8), n < 281474976710656 → cnt n + b.length ≤ 1000 → loop (fun q' => g_ref01_length.l1 q'.1 q'.2) ((n : Int), b) = some (UInt8.ofNat (128 + (be n ++ b).length) :: (be n ++ b)) := by
  induction n using Nat.strongRecOn with
  | _ n ih =>
    intro b hn hb
    rcases Nat.eq_zero_or_pos n with h0 | h0
    · subst h0
      refine loop_done ?_
      show g_ref01_length.l1 ((0 : Nat) : Int) b = _
      unfold g_ref01_length.l1
      rw [decide_eq_false (by omega), cond_false, W_id (by omega), appI_ok (by simp; omega), show (128 : Int) + (b.length : Int) = ((128 + b.length : Nat) : Int) by omega, u8_nat, be_0]
      rfl
    · have hc := cnt_pos h0
      have e := ih (n / 256) (Nat.div_lt_self h0 (by omega)) ([UInt8.ofNat (n % 256)] ++ b) (Nat.lt_of_le_of_lt (Nat.div_le_self n 256) hn) (by simp; omega)
      refine (loop_next (s' := (((n / 256 : Nat) : Int), [UInt8.ofNat (n % 256)] ++ b)) ?_).trans (e.trans ?_)
      · show g_ref01_length.l1 (n : Int) b = _
        unfold g_ref01_length.l1
        rw [decide_eq_true (by omega), cond_true, show (256 : Int) = ((256 : Nat) : Int) from rfl, remI_nat n 256 (by omega), Option.bind_some, appI_ok (by simp; omega), Option.bind_some, quoI_nat n 256 (by omega) (by omega), Option.bind_some, u8_nat]
      · rw [be_pos h0]
        simp
theorem ref01_length {n : Nat} (hn : n < 281474976710656) : g_ref01_length (n : Int) = some (lenB n) := by
  unfold g_ref01_length lenB
  by_cases h : n < 128
  · rw [decide_eq_true (by omega), if_pos h, u8_nat]; rfl
  · rw [decide_eq_false (by omega), if_neg h, cond_false]
    have hc := cnt_le 6 n (by simpa using hn)
    refine (ref_len_loop n [] hn (by simp; omega)).trans ?_
    rw [List.append_nil]; rfl
theorem shr8n (n : Nat) : shrK .i64 (n : Int) 8 = some ((n / 256 : Nat) : Int) := by rw [shr8]; rfl
theorem der_len_count (b : List UInt8) (N : Int) (m : Nat) : ∀ c : Nat, m < 281474976710656 → c + cnt m ≤ 1000 →
    loop (fun q' => g_der_length.l1 b N q'.1 q'.2) ((c : Int), (m : Int)) = (appI 1 b ([u8 (W (128 + ((c + cnt m : Nat) : Int)))] : List UInt8)).bind fun l_2 => loop (fun q' => g_der_length.l2 N q'.1 q'.2) (W (((c + cnt m : Nat) : Int) - 1), l_2) := by
  induction m using Nat.strongRecOn with
  | _ m ih =>
    intro c hm hc
    rcases Nat.eq_zero_or_pos m with h0 | h0
    · subst h0
      refine loop_up ?_
      show g_der_length.l1 b N (c : Int) ((0 : Nat) : Int) = _
      unfold g_der_length.l1
      rw [decide_eq_false (by omega), cond_false, cnt_0]
      rfl
    · have hq := cnt_pos h0
      have e := ih (m / 256) (Nat.div_lt_self h0 (by omega)) (c + 1) (Nat.lt_of_le_of_lt (Nat.div_le_self m 256) hm) (by omega)
      refine (loop_next (s' := (((c + 1 : Nat) : Int), ((m / 256 : Nat) : Int))) ?_).trans (e.trans ?_)
      · show g_der_length.l1 b N (c : Int) (m : Int) = _
        unfold g_der_length.l1
        rw [decide_eq_true (by omega), cond_true, shr8n, Option.bind_some, W_succ (by omega)]
      · rw [show c + 1 + cnt (m / 256) = c + cnt m by omega]
theorem der_length {b : List UInt8} {n : Nat} (hn : n < 281474976710656) (hb : b.length < 1073741824) : g_der_length b (n : Int) = some (b ++ lenB n) := by
  unfold g_der_length lenB
  by_cases h : n < 128
  · rw [decide_eq_true (by omega), if_pos h, u8_nat, appI_ok (by simp; omega)]; rfl
  · rw [decide_eq_false (by omega), if_neg h, cond_false]
    have hc := cnt_le 6 n (by simpa using hn)
    have e := der_len_count b (n : Int) n 0 hn (by omega)
    refine Eq.trans e ?_
    rw [Nat.zero_add, W_id (by omega), show (128 : Int) + ((cnt n : Nat) : Int) = ((128 + cnt n : Nat) : Int) by omega, u8_nat, appI_ok (by simp; omega), Option.bind_some]
    have hp : 0 < cnt n := by rw [cnt_pos (by omega)]; omega
    rw [W_id (by omega)]
    refine Eq.trans (congrArg (loop _) ?_) (loop_path (cnt n) (fun j => (((cnt n : Int) - 1 - (j : Int)), b ++ [UInt8.ofNat (128 + cnt n)] ++ (be n).take j)) (b ++ UInt8.ofNat (128 + cnt n) :: be n) ?_ ?_)
    · simp
    · intro j hj
      have hg := be_get (cnt n) n rfl j hj
      show g_der_length.l2 (n : Int) ((cnt n : Int) - 1 - (j : Int)) (b ++ [UInt8.ofNat (128 + cnt n)] ++ (be n).take j) = _
      unfold g_der_length.l2
      have ht : ((be n).take j).length ≤ cnt n := by rw [List.length_take]; exact Nat.le_trans (Nat.min_le_right _ _) (Nat.le_refl _)
      rw [decide_eq_true (by omega), cond_true, W_id (by omega), shrK_ok (8 * (cnt n - 1 - j)) (by omega) (by show _ ≤ 64; omega), Option.bind_some, appI_ok (by simp; omega), Option.bind_some, W_id (by omega), take_succ' hg]
      have hu : u8 ((n : Int) / 2 ^ (8 * (cnt n - 1 - j))) = UInt8.ofNat (n / 256 ^ (cnt n - 1 - j) % 256) := by
        have e1 : (n : Int) / 2 ^ (8 * (cnt n - 1 - j)) = ((n / 2 ^ (8 * (cnt n - 1 - j)) : Nat) : Int) := by simp
        rw [e1, u8_nat, Nat.pow_mul, show 2 ^ 8 = 256 from rfl]
        apply UInt8.toNat_inj.1
        rw [UInt8.toNat_ofNat', UInt8.toNat_ofNat']
        omega
      rw [hu, ← List.append_assoc]
      congr 3
      omega
    · show g_der_length.l2 (n : Int) ((cnt n : Int) - 1 - ((cnt n : Nat) : Int)) (b ++ [UInt8.ofNat (128 + cnt n)] ++ (be n).take (cnt n)) = _
      unfold g_der_length.l2
      rw [decide_eq_false (by omega), show (be n).take (cnt n) = be n from List.take_of_length_le (Nat.le_refl _)]
      simp [up]
end Go.Proofs.Ytmihjbejflcgkaa
