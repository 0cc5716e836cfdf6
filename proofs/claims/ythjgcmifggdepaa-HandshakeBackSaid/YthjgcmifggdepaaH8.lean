/- The walks: records, by the reference. -/
import Derived.Test.YthjgcmifggdepaaH7
set_option linter.unusedSimpArgs false
set_option linter.unusedVariables false
namespace Go.Proofs.Ythjgcmifggdepaa
open Go.RowKit

theorem rd_mid {w : World} {S : Nat → Prop} {l : List UInt8} {ad : Addr} {n c : Nat} (h : RdC w S (.sl 1 (bytesC l)) (.slice (some ad) n c)) {i m c' : Nat} (hi : i + m ≤ n) (hc : m ≤ c' ∧ c' ≤ 9223372036854775807) :
    RdC w S (.sl 1 (bytesC ((l.drop i).take m))) (.slice (some (ad.add i)) m c') := by
  have := RdC.cut h (i := i) (j := i + m) (cap' := c') (A' := some (ad.add i)) (by omega) hi (by omega) (by unfold maxLen; omega) (fun a ha hlt => by injection ha with ha; subst ha; simp)
  rw [show i + m - i = m by omega, Nat.mul_one, Nat.mul_one] at this
  simpa [bytesC, List.map_drop, List.map_take] using this
def recE (size : Int) (l : List UInt8) : Int := if size < 1 ∨ 65535 < size then 2 else if 4096 < l.length then 3 else 0
def recL (size : Int) (l : List UInt8) : List UInt8 := if recE size l = 0 then recs size.toNat l else []
/-- One record more. -/
theorem recs_more {size k : Nat} {l : List UInt8} {n : Nat} (hl : l.length = n) (hs : 0 < size) (hk : k < n) :
    recs size (l.drop k) = [22, b8 (((min size (n - k) : Nat) : Int) / 256), b8 ((min size (n - k) : Nat) : Int)] ++ (l.drop k).take (min size (n - k)) ++ recs size (l.drop (k + size)) := by
  have h1 : (l.drop k).length = n - k := by rw [List.length_drop, hl]
  rw [recs_step hs (by omega), h1, List.drop_drop]
  congr 1
  congr 1
  rcases Nat.le_total size (n - k) with h | h
  · rw [Nat.min_eq_left h]
  · rw [Nat.min_eq_right h, List.take_of_length_le (by omega), List.take_of_length_le (by omega)]

set_option maxRecDepth 100000 in
set_option maxHeartbeats 1600000 in
theorem refRecords_any (l : List UInt8) (size : Int) (A : Option Addr) (n c : Nat) (w : World) (h : Rd w (.sl 1 (bytesC l)) (.slice A n c)) :
    Calls Try.prog 18 #[.slice A n c, .int .i64 size] w fun e w' => BRes w (recL size l) (recE size l) e w' := by
  have HR := Lib.hid h
  obtain ⟨hl, hnc, hcap⟩ := RdC.blen h
  unfold maxLen at hcap
  by_cases hs : size < 1 ∨ 65535 < size
  · have e1 : recE size l = 2 := by unfold recE; rw [if_pos hs]
    have e2 : recL size l = [] := by unfold recL; rw [e1]; rfl
    rw [e1, e2]
    clear e1 e2 hl h
    go_enter Try.func18, Try.ntmps18
    go_wp2
    all_goals try (exfalso; omega)
    all_goals
      go_ret2
      exact ⟨none, 0, 0, rfl, OwnT.nil_ _ _ _ _ _, Ext.refl _⟩
  by_cases hb : 4096 < n
  · have e1 : recE size l = 3 := by unfold recE; rw [if_neg hs, if_pos (by omega)]
    have e2 : recL size l = [] := by unfold recL; rw [e1]; rfl
    rw [e1, e2]
    have s1 : ¬ size < 1 := by omega
    have s2 : ¬ 65535 < size := by omega
    clear e1 e2 hl h hs
    go_enter Try.func18, Try.ntmps18
    go_wp2
    all_goals try (exfalso; omega)
    all_goals
      go_ret2
      exact ⟨none, 0, 0, rfl, OwnT.nil_ _ _ _ _ _, Ext.refl _⟩
  obtain ⟨s, rfl⟩ := Int.eq_ofNat_of_zero_le (by omega : 0 ≤ size)
  have e1 : recE (s : Int) l = 0 := by unfold recE; rw [if_neg hs, if_neg (by omega)]
  have e2 : recL (s : Int) l = recs s l := by unfold recL; rw [e1]; rfl
  rw [e1, e2]
  have HM := fun k (hk : k < n) => recs_more (l := l) (size := s) hl (by omega) hk
  have HM := Lib.hid HM
  have HL := Lib.hid hl
  have s1 : ¬ (s : Int) < 1 := by omega
  have s2 : ¬ 65535 < (s : Int) := by omega
  have hs0 : 0 < s := by omega
  have hs9 : s ≤ 65535 := by omega
  clear e1 e2 hl h hs
  go_enter Try.func18, Try.ntmps18
  go_wp2
  go_loopw [6, 7] (fun o i wr => ∃ (k : Nat) (out : List UInt8) (A2 : Option Addr) (n2 c2 : Nat), i = .int .i64 (k : Nat) ∧ k ≤ 70000 ∧ n2 ≤ 4 * k ∧ o = .slice A2 n2 c2 ∧ OwnT (fun _ => False) wr w.heap.size 5 1 (.slice A2 n2 c2) (bytesC out) ∧ Ext w wr ∧ Hid (recs s l = out ++ recs s (l.drop k))) (fun _ i _ => n - (intOf i).toNat)
  case atStart => exact ⟨0, [], none, 0, 0, rfl, by omega, by omega, rfl, OwnT.nil_ _ _ _ _ _, Ext.refl _, by show _ = _; simp⟩
  case round =>
    obtain ⟨k, out, A2, n2, c2, rfl, hk7, hn2, rfl, hown, hx, HI⟩ := hrel
    have hn2' := (RdC.blen hown.rd).1
    have HN2 := Lib.hid hn2'
    clear hn2'
    by_cases hlt : k < n
    · obtain ⟨ad, x', rfl, -, -, -⟩ := RdC.byte HR.out hlt
      obtain ⟨m, hm⟩ : ∃ m, min s (n - k) = m := ⟨_, rfl⟩
      have hm1 : 1 ≤ m := by omega
      have hm2 : m ≤ s := by omega
      have hm3 : k + m ≤ n := by omega
      have hmi : (if (n : Int) - (k : Int) < (s : Int) then (n : Int) - (k : Int) else (s : Int)) = (m : Int) := by split <;> omega
      have hst := HM.out k hlt
      rw [hm] at hst
      have HST := Lib.hid hst
      have nck : ¬ c = k := by omega
      have hkm : (k : Int) + (m : Int) ≤ (n : Int) := by omega
      have hkt : ((k : Int) + (m : Int)).toNat - k = m := by omega
      clear hst hm
      have tok1 : True := trivial
      go_wp2_with (first
        | (at_builtin; have _t := tok1; refine wpList_appF (T := fun _ => False) (a0 := w) sl33 (by rfl) _ _ (by rfl) (by exact hx.alloc _) (by exact hown.ext ((Ext.refl _).alloc _)) (by rfl) (by rfl) (by exact own_lit2 (l := [22, b8 ((m : Int) / 256), b8 (m : Int)]) (n := 3) hx rfl (by omega) (us_cons rfl (us_cons (by rw [b8_nat]; omega) (us_cons (by rw [b8_nat]) us_nil)))) (bytesC_flat _) (by simp only [bytesC_length, HN2.out]; simp; omega) ?_; intro A3 n3 c3 w3 hown3 hx3 _ _; clear tok1)
        | (at_builtin; refine wpList_appF (T := fun _ => False) (a0 := w) sl33 (by rfl) _ _ (by rfl) (by exact hx3) (by exact hown3) (by rfl) (by rfl) (by exact rd_mid (HR.out.ext hx3) (i := k) (m := m) (c' := c - k) (by omega) (by omega)) (bytesC_flat _) (by simp only [bytesC_length, List.length_append, HN2.out, List.length_take]; simp; omega) ?_; intro A4 n4 c4 w4 hown4 hx4 _ _))
      have hb4 := hown4
      rw [← bytesC_append, ← bytesC_append] at hb4
      have hn4 := (RdC.blen hb4.rd).1
      rw [List.length_append, List.length_append, HN2.out, List.length_take, List.length_drop, HL.out] at hn4
      simp at hn4
      go_roundw
      case rel => exact ⟨k + s, _, A4, n4, c4, by go_num, by omega, by omega, rfl, hb4, hx4, by show _ = _; rw [HI.out, HST.out]; simp⟩
      case measure => simp [intOf]; omega
    · have hz : Hid (l.drop k = []) := by show _ = _; exact List.drop_of_length_le (by have := HL.out; omega)
      have HO : Hid (recs s l = out) := by show _ = _; rw [HI.out, hz.out, recs_nil, List.append_nil]
      go_wp2
      go_ret2
      exact ⟨A2, n2, c2, rfl, by rw [HO.out]; exact hown, hx⟩
end Go.Proofs.Ythjgcmifggdepaa
