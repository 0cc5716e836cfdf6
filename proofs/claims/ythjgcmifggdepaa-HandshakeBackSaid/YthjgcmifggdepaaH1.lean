/- The walks: whether numbers are different ones of a range. -/
import Derived.Test.YthjgcmifggdepaaDice
import Derived.Test.YthjgcmifggdepaaSpec
import Derived.BigGuardPart
set_option linter.unusedSimpArgs false
set_option linter.unusedVariables false
namespace Go.Proofs.Ythjgcmifggdepaa
open Go.RowKit

theorem ints_get {w : World} {S : Nat → Prop} {l : List Int} {A : Option Addr} {n c : Nat} (h : RdC w S (.sl 1 (intsC l)) (.slice A n c)) {k : Nat} (hk : k < n) :
    ∃ ad x, A = some ad ∧ S ad.block ∧ l[k]? = some x ∧ w.cell? (ad.add k) = some (.int .i64 x) ∧ (-9223372036854775808 ≤ x ∧ x ≤ 9223372036854775807) := by
  have hl := (RdC.len h).1
  obtain ⟨ad, hA, hS, hc⟩ := h.cells (by omega)
  have hk' : k < l.length := by rw [intsC_length] at hl; omega
  obtain ⟨u, c0, r0⟩ := hc k (.int .i64 l[k]) (by simp [intsC, hk'])
  refine ⟨ad, l[k], hA, hS, List.getElem?_eq_getElem hk', by rw [c0, r0.int_.1], ?_⟩
  have h1 : IntKind.i64.min = -9223372036854775808 := by decide
  have h2 : IntKind.i64.max = 9223372036854775807 := by decide
  have := r0.int_.2
  rw [h1, h2] at this
  exact this
theorem ints_len {w : World} {S : Nat → Prop} {l : List Int} {A : Option Addr} {n c : Nat} (h : RdC w S (.sl 1 (intsC l)) (.slice A n c)) : l.length = n ∧ n ≤ c ∧ c ≤ 9223372036854775807 := by
  have := RdC.len h
  rw [intsC_length] at this
  unfold maxLen at this
  exact ⟨by omega, by omega, by omega⟩
theorem ints_head {w : World} {S : Nat → Prop} {l : List Int} {A : Option Addr} {n c : Nat} (h : RdC w S (.sl 1 (intsC l)) (.slice A n c)) {k : Nat} (hk : k ≤ n) : RdC w S (.sl 1 (intsC (l.take k))) (.slice A k c) := by
  have hl := ints_len h
  have := RdC.cut h (i := 0) (j := k) (cap' := c) (A' := A) (by omega) hk (by omega) (by unfold maxLen; omega) (fun ad e _ => by rw [e]; simp [Addr.add])
  simpa [intsC, List.map_take] using this

set_option maxRecDepth 100000 in
set_option maxHeartbeats 800000 in
theorem index_any (l : List Int) (x : Int) (S : Nat → Prop) (A : Option Addr) (n c : Nat) (w : World) (h : RdC w S (.sl 1 (intsC l)) (.slice A n c)) :
    Calls Try.prog 52 #[.slice A n c, .int .i64 x] w fun e w' => (∃ r : Int, e = .returned (.int .i64 r) ∧ (0 ≤ r ↔ x ∈ l)) ∧ w' = w := by
  obtain ⟨hl, hnc, hc⟩ := ints_len h
  have HL := Lib.hid hl
  have HR := Lib.hid h
  clear hl h
  go_enter Try.func52, Try.ntmps52
  go_wp2
  go_loop [4, 5, 8] (fun r i j => ∃ k : Nat, k ≤ n ∧ j = .int .i64 k ∧ Hid (∀ j y, j < k → l[j]? = some y → ¬ x = y)) (fun _ _ j => n - (intOf j).toNat)
  case atStart => exact ⟨0, by omega, rfl, fun _ _ h => absurd h (by omega)⟩
  case round =>
    obtain ⟨k, hk, rfl, HN⟩ := hrel
    by_cases hlt : k < n
    · obtain ⟨ad, y, rfl, hS, hd, c0, -⟩ := ints_get HR.out hlt
      have HD := Lib.hid hd
      clear hd
      by_cases hxy : x = y
      · have HX : Hid (x ∈ l) := by subst hxy; exact List.mem_of_getElem? HD.out
        go_wp2
        go_ret
        exact ⟨⟨k, ret_val rfl, by simp; exact List.mem_of_getElem? HD.out⟩, rfl⟩
      · go_wp2
        go_round
        case rel => exact ⟨k + 1, by omega, by go_num, fun j y' hj hy => by
          by_cases e : j = k
          · subst e
            rw [HD.out] at hy
            injection hy with hy
            rw [← hy]; exact hxy
          · exact HN.out j y' (by omega) hy⟩
        case measure => simp [intOf]; omega
    · have HX : Hid (x ∉ l) := fun hm => by
        obtain ⟨j, hj, e⟩ := List.getElem_of_mem hm
        exact HN.out j l[j] (by have := HL.out; omega) (List.getElem?_eq_getElem hj) e.symm
      go_wp2
      go_ret
      exact ⟨⟨-1, ret_val rfl, by simp [HX.out]⟩, rfl⟩
set_option maxRecDepth 100000 in
set_option maxHeartbeats 800000 in
theorem contains_any (l : List Int) (x : Int) (S : Nat → Prop) (A : Option Addr) (n c : Nat) (w : World) (h : RdC w S (.sl 1 (intsC l)) (.slice A n c)) :
    Calls Try.prog 49 #[.slice A n c, .int .i64 x] w fun e w' => e = .returned (.bool (decide (x ∈ l))) ∧ w' = w := by
  have HR := Lib.hid h
  clear h
  go_enter Try.func49, Try.ntmps49
  go_wp2_with (go_at_call 52; refine (index_any l x S _ _ _ _ HR.out).mono ?_; rintro e w1 ⟨⟨r, rfl, hr⟩, rfl⟩; have HC := Lib.hid hr; clear hr)
  go_ret
  exact ⟨ret_val (by rw [← decide_eq_decide.2 HC.out]; rfl), rfl⟩
set_option maxRecDepth 100000 in
set_option maxHeartbeats 800000 in
theorem has_any (l : List Int) (x : Int) (S : Nat → Prop) (A : Option Addr) (n c : Nat) (w : World) (h : RdC w S (.sl 1 (intsC l)) (.slice A n c)) :
    Calls Try.prog 41 #[.slice A n c, .int .i64 x] w fun e w' => e = .returned (.bool (decide (x ∈ l))) ∧ w' = w := by
  obtain ⟨hl, hnc, hc⟩ := ints_len h
  have HL := Lib.hid hl
  have HR := Lib.hid h
  clear hl h
  go_enter Try.func41, Try.ntmps41
  go_wp2
  go_loop [5] (fun j => ∃ k : Nat, k ≤ n ∧ j = .int .i64 k ∧ Hid (∀ j y, j < k → l[j]? = some y → ¬ y = x)) (fun j => n - (intOf j).toNat)
  case atStart => exact ⟨0, by omega, rfl, fun _ _ h => absurd h (by omega)⟩
  case round =>
    obtain ⟨k, hk, rfl, HN⟩ := hrel
    by_cases hlt : k < n
    · obtain ⟨ad, y, rfl, hS, hd, c0, -⟩ := ints_get HR.out hlt
      have HD := Lib.hid hd
      clear hd
      by_cases hxy : y = x
      · have HX : Hid (x ∈ l) := by subst hxy; exact List.mem_of_getElem? HD.out
        go_wp2
        go_ret
        exact ⟨ret_val (by rw [decide_eq_true HX.out]; rfl), rfl⟩
      · go_wp2
        go_round
        case rel => exact ⟨k + 1, by omega, by go_num, fun j y' hj hy => by
          by_cases e : j = k
          · subst e
            rw [HD.out] at hy
            injection hy with hy
            rw [← hy]; exact hxy
          · exact HN.out j y' (by omega) hy⟩
        case measure => simp [intOf]; omega
    · have HX : Hid (x ∉ l) := fun hm => by
        obtain ⟨j, hj, e⟩ := List.getElem_of_mem hm
        exact HN.out j l[j] (by have := HL.out; omega) (List.getElem?_eq_getElem hj) e
      go_wp2
      go_ret
      exact ⟨ret_val (by rw [decide_eq_false HX.out]; rfl), rfl⟩

set_option maxRecDepth 100000 in
set_option maxHeartbeats 800000 in
theorem between_any (l : List Int) (lo hi : Int) (A : Option Addr) (n c : Nat) (w : World) (h : Rd w (.sl 1 (intsC l)) (.slice A n c)) :
    Calls Try.prog 45 #[.slice A n c, .int .i64 lo, .int .i64 hi] w fun e w' => e = .returned (.bool (distB lo hi [] l)) ∧ w' = w := by
  obtain ⟨hl, hnc, hc⟩ := ints_len h
  have HL := Lib.hid hl
  have HR := Lib.hid h
  clear hl h
  go_enter Try.func45, Try.ntmps45
  go_wp2
  go_loop [6, 7, 8, 11] (fun _ _ _ j => ∃ k : Nat, k ≤ n ∧ j = .int .i64 k ∧ Hid (distB lo hi [] l = distB lo hi (l.take k) (l.drop k))) (fun _ _ _ j => n - (intOf j).toNat)
  case atStart => exact ⟨0, by omega, rfl, by show _ = _; simp⟩
  case round =>
    obtain ⟨k, hk, rfl, HN⟩ := hrel
    by_cases hlt : k < n
    · obtain ⟨ad, y, rfl, hS, hd, c0, -⟩ := ints_get HR.out hlt
      have HS := Lib.hid (HN.out.trans (distB_step hd))
      have HT := Lib.hid (ints_head HR.out (k := k) (by omega))
      obtain ⟨cc, hcc⟩ : ∃ cc, decide (y ∈ l.take k) = cc := ⟨_, rfl⟩
      have HS : Hid (distB lo hi [] l = (decide (lo ≤ y) && decide (y ≤ hi) && !cc && distB lo hi (l.take (k + 1)) (l.drop (k + 1)))) := by have hs := HS.out; rw [List.contains_eq_mem, hcc] at hs; exact hs
      have HCC := Lib.hid hcc
      clear hd hcc
      by_cases h1 : y < lo
      · have HF : Hid (distB lo hi [] l = false) := by show _ = _; rw [HS.out, decide_eq_false (by omega : ¬ lo ≤ y)]; simp
        go_wp2
        go_ret
        exact ⟨ret_val (by rw [HF.out]; rfl), rfl⟩
      by_cases h2 : hi < y
      · have HF : Hid (distB lo hi [] l = false) := by show _ = _; rw [HS.out, decide_eq_false (by omega : ¬ y ≤ hi)]; simp
        go_wp2
        go_ret
        exact ⟨ret_val (by rw [HF.out]; rfl), rfl⟩
      have HS2 : Hid (distB lo hi [] l = (!cc && distB lo hi (l.take (k + 1)) (l.drop (k + 1)))) := by show _ = _; rw [HS.out, decide_eq_true (by omega : lo ≤ y), decide_eq_true (by omega : y ≤ hi)]; simp
      cases cc with
      | true =>
        have HF : Hid (distB lo hi [] l = false) := by show _ = _; rw [HS2.out]; rfl
        go_wp2_with (go_at_call 49; refine (contains_any (l.take k) y _ _ _ _ _ HT.out).mono ?_; rintro e w1 ⟨rfl, rfl⟩; rw [HCC.out])
        go_ret
        exact ⟨ret_val (by rw [HF.out]; rfl), rfl⟩
      | false =>
        have HF : Hid (distB lo hi [] l = distB lo hi (l.take (k + 1)) (l.drop (k + 1))) := by show _ = _; rw [HS2.out]; rfl
        go_wp2_with (go_at_call 49; refine (contains_any (l.take k) y _ _ _ _ _ HT.out).mono ?_; rintro e w1 ⟨rfl, rfl⟩; rw [HCC.out])
        go_round
        case rel => exact ⟨k + 1, by omega, by go_num, HF⟩
        case measure => simp [intOf]; omega
    · have HF : Hid (distB lo hi [] l = true) := by show _ = _; rw [HN.out, distB_end (by have := HL.out; omega)]
      go_wp2
      go_ret
      exact ⟨ret_val (by rw [HF.out]; rfl), rfl⟩
end Go.Proofs.Ythjgcmifggdepaa
