/- The walks: the strength of an algorithm, by the reference. -/
import Derived.Test.YthjgcmifggdepaaH22
set_option linter.unusedSimpArgs false
set_option linter.unusedVariables false
namespace Go.Proofs.Ythjgcmifggdepaa
open Go.RowKit

def modulusS (b : Int) : Int := if b < 512 ∨ 16384 < b then 0 else if b < 1024 then 56 else if b < 2048 then 80 else if b < 3072 then 112 else if b < 7680 then 128 else if b < 15360 then 192 else 256
def singleS (a : Int) : Int := if a = 1 then 18 else if a = 2 then 60 else if a = 3 ∨ a = 8 ∨ a = 21 then 128 else if a = 4 then 192 else if a = 18 ∨ a = 22 then 256 else if a = 19 then 64 else if a = 20 then 80 else 0
def amongS (b : Int) : List Int → List Int → Int
  | s :: ss, t :: ts => if s = b then t else amongS b ss ts
  | _, _ => 0
def strS (a b : Int) : Int :=
  if a = 5 ∨ a = 6 ∨ a = 10 ∨ a = 11 then modulusS b
  else if a = 7 ∨ a = 12 then (if b = 160 ∨ b = 224 ∨ b = 256 ∨ b = 384 ∨ b = 521 then b / 2 else 0)
  else if a = 9 then amongS b [44, 65, 87] [128, 192, 256]
  else if a = 13 then amongS b [512, 768, 1024] [128, 192, 256]
  else if a = 14 then amongS b [40, 128] [40, 60]
  else if a = 15 then amongS b [112, 168] [80, 112]
  else if a = 16 ∨ a = 17 then amongS b [128, 256] [128, 256]
  else amongS b [0] [singleS a]
theorem amongS_step {b s t : Int} {l1 l2 : List Int} {k : Nat} (h1 : l1[k]? = some s) (h2 : l2[k]? = some t) : amongS b (l1.drop k) (l2.drop k) = if s = b then t else amongS b (l1.drop (k + 1)) (l2.drop (k + 1)) := by
  obtain ⟨k1, e1⟩ := List.getElem?_eq_some_iff.1 h1
  obtain ⟨k2, e2⟩ := List.getElem?_eq_some_iff.1 h2
  rw [List.drop_eq_getElem_cons k1, List.drop_eq_getElem_cons k2, e1, e2, amongS]
theorem amongS_end {b : Int} {l1 l2 : List Int} {k : Nat} (h : l1.length ≤ k) : amongS b (l1.drop k) (l2.drop k) = 0 := by
  rw [List.drop_of_length_le h, amongS]
  simp
theorem ints_rd (w : World) (l : List Int) (n : Nat) (hn : l.length = n) (hm : n ≤ 1000) (h : ∀ x ∈ l, -9223372036854775808 ≤ x ∧ x ≤ 9223372036854775807) :
    Rd (w.alloc (.cells (l.map (Value.int .i64)).toArray 3)) (.sl 1 (intsC l)) (.slice (some ⟨w.heap.size, 0, none⟩) n n) :=
  RdC.fresh (S := fun _ => False) (by rw [intsC_length, hn]; omega) (by unfold maxLen; omega) (ints_us h) (fun _ h => h.elim) _ (fun _ h => h.elim) (by simp [lt])
theorem ints_rd2 {w w' : World} {B : Nat} (hB : B = w.heap.size) (l : List Int) (n : Nat) (hn : l.length = n) (hm : n ≤ 1000) (h : ∀ x ∈ l, -9223372036854775808 ≤ x ∧ x ≤ 9223372036854775807) (hx : Ext (w.alloc (.cells (l.map (Value.int .i64)).toArray 3)) w') :
    Rd w' (.sl 1 (intsC l)) (.slice (some ⟨B, 0, none⟩) n n) := by
  subst hB
  exact (ints_rd w l n hn hm h).ext hx
theorem singleS_range (a : Int) : 0 ≤ singleS a ∧ singleS a ≤ 256 := by
  unfold singleS
  repeat' split
  all_goals omega

set_option maxRecDepth 100000 in
set_option maxHeartbeats 800000 in
theorem modulus_any (b : Int) (w : World) : Calls Try.prog 54 #[.int .i64 b] w fun e w' => e = .returned (.int .i64 (modulusS b)) ∧ w' = w := by
  by_cases h0 : b < 512
  · have hv : modulusS b = 0 := by
      unfold modulusS
      repeat' split
      all_goals omega
    rw [hv]
    clear hv
    go_enter Try.func54, Try.ntmps54
    go_wp2
    go_ret
    exact ⟨ret_val rfl, rfl⟩
  by_cases h1 : 16384 < b
  · have hv : modulusS b = 0 := by
      unfold modulusS
      repeat' split
      all_goals omega
    rw [hv]
    clear hv
    go_enter Try.func54, Try.ntmps54
    go_wp2
    go_ret
    exact ⟨ret_val rfl, rfl⟩
  by_cases h2 : b < 1024
  · have hv : modulusS b = 56 := by
      unfold modulusS
      repeat' split
      all_goals omega
    rw [hv]
    clear hv
    go_enter Try.func54, Try.ntmps54
    go_wp2
    go_ret
    exact ⟨ret_val rfl, rfl⟩
  by_cases h3 : b < 2048
  · have hv : modulusS b = 80 := by
      unfold modulusS
      repeat' split
      all_goals omega
    rw [hv]
    clear hv
    go_enter Try.func54, Try.ntmps54
    go_wp2
    go_ret
    exact ⟨ret_val rfl, rfl⟩
  by_cases h4 : b < 3072
  · have hv : modulusS b = 112 := by
      unfold modulusS
      repeat' split
      all_goals omega
    rw [hv]
    clear hv
    go_enter Try.func54, Try.ntmps54
    go_wp2
    go_ret
    exact ⟨ret_val rfl, rfl⟩
  by_cases h5 : b < 7680
  · have hv : modulusS b = 128 := by
      unfold modulusS
      repeat' split
      all_goals omega
    rw [hv]
    clear hv
    go_enter Try.func54, Try.ntmps54
    go_wp2
    go_ret
    exact ⟨ret_val rfl, rfl⟩
  by_cases h6 : b < 15360
  · have hv : modulusS b = 192 := by
      unfold modulusS
      repeat' split
      all_goals omega
    rw [hv]
    clear hv
    go_enter Try.func54, Try.ntmps54
    go_wp2
    go_ret
    exact ⟨ret_val rfl, rfl⟩
  have hv : modulusS b = 256 := by
    unfold modulusS
    repeat' split
    all_goals omega
  rw [hv]
  clear hv
  go_enter Try.func54, Try.ntmps54
  go_wp2
  go_ret
  exact ⟨ret_val rfl, rfl⟩
set_option maxRecDepth 100000 in
set_option maxHeartbeats 800000 in
theorem single_any (a : Int) (w : World) : Calls Try.prog 56 #[.int .i64 a] w fun e w' => e = .returned (.int .i64 (singleS a)) ∧ w' = w := by
  by_cases h1 : a = 1
  · subst h1
    have hv : singleS 1 = 18 := by decide
    rw [hv]
    clear hv
    go_enter Try.func56, Try.ntmps56
    go_wp2
    go_ret
    exact ⟨ret_val rfl, rfl⟩
  by_cases h2 : a = 2
  · subst h2
    have hv : singleS 2 = 60 := by decide
    rw [hv]
    clear hv
    go_enter Try.func56, Try.ntmps56
    go_wp2
    go_ret
    exact ⟨ret_val rfl, rfl⟩
  by_cases h3 : a = 3
  · subst h3
    have hv : singleS 3 = 128 := by decide
    rw [hv]
    clear hv
    go_enter Try.func56, Try.ntmps56
    go_wp2
    go_ret
    exact ⟨ret_val rfl, rfl⟩
  by_cases h8 : a = 8
  · subst h8
    have hv : singleS 8 = 128 := by decide
    rw [hv]
    clear hv
    go_enter Try.func56, Try.ntmps56
    go_wp2
    go_ret
    exact ⟨ret_val rfl, rfl⟩
  by_cases h21 : a = 21
  · subst h21
    have hv : singleS 21 = 128 := by decide
    rw [hv]
    clear hv
    go_enter Try.func56, Try.ntmps56
    go_wp2
    go_ret
    exact ⟨ret_val rfl, rfl⟩
  by_cases h4 : a = 4
  · subst h4
    have hv : singleS 4 = 192 := by decide
    rw [hv]
    clear hv
    go_enter Try.func56, Try.ntmps56
    go_wp2
    go_ret
    exact ⟨ret_val rfl, rfl⟩
  by_cases h18 : a = 18
  · subst h18
    have hv : singleS 18 = 256 := by decide
    rw [hv]
    clear hv
    go_enter Try.func56, Try.ntmps56
    go_wp2
    go_ret
    exact ⟨ret_val rfl, rfl⟩
  by_cases h22 : a = 22
  · subst h22
    have hv : singleS 22 = 256 := by decide
    rw [hv]
    clear hv
    go_enter Try.func56, Try.ntmps56
    go_wp2
    go_ret
    exact ⟨ret_val rfl, rfl⟩
  by_cases h19 : a = 19
  · subst h19
    have hv : singleS 19 = 64 := by decide
    rw [hv]
    clear hv
    go_enter Try.func56, Try.ntmps56
    go_wp2
    go_ret
    exact ⟨ret_val rfl, rfl⟩
  by_cases h20 : a = 20
  · subst h20
    have hv : singleS 20 = 80 := by decide
    rw [hv]
    clear hv
    go_enter Try.func56, Try.ntmps56
    go_wp2
    go_ret
    exact ⟨ret_val rfl, rfl⟩
  have hv : singleS a = 0 := by simp [singleS, h1, h2, h3, h8, h21, h4, h18, h22, h19, h20]
  rw [hv]
  clear hv
  go_enter Try.func56, Try.ntmps56
  go_wp2
  go_ret
  exact ⟨ret_val rfl, rfl⟩
set_option maxRecDepth 100000 in
set_option maxHeartbeats 800000 in
theorem among_any (b : Int) (l1 l2 : List Int) (A : Option Addr) (n c : Nat) (A' : Option Addr) (n' c' : Nat) (hnn : n ≤ n') (w : World) (h : Rd w (.sl 1 (intsC l1)) (.slice A n c)) (h' : Rd w (.sl 1 (intsC l2)) (.slice A' n' c')) :
    Calls Try.prog 55 #[.int .i64 b, .slice A n c, .slice A' n' c'] w fun e w' => e = .returned (.int .i64 (amongS b l1 l2)) ∧ w' = w := by
  obtain ⟨hl, hnc, hc⟩ := ints_len h
  have HL := Lib.hid hl
  have HR := Lib.hid h
  have HR' := Lib.hid h'
  clear hl h h'
  go_enter Try.func55, Try.ntmps55
  go_wp2
  go_loop [7] (fun j => ∃ k : Nat, k ≤ n ∧ j = .int .i64 (k : Nat) ∧ Hid (amongS b l1 l2 = amongS b (l1.drop k) (l2.drop k))) (fun j => n - (intOf j).toNat)
  case atStart => exact ⟨0, by omega, rfl, by show _ = _; simp⟩
  case round =>
    obtain ⟨k, hk, rfl, HN⟩ := hrel
    by_cases hlt : k < n
    · obtain ⟨ad, x, rfl, hS, hd, c0, -⟩ := ints_get HR.out hlt
      obtain ⟨ad', y, rfl, hS', hd', c0', -⟩ := ints_get HR'.out (k := k) (by omega)
      have HD := Lib.hid (amongS_step (b := b) hd hd')
      clear hd hd'
      by_cases hxy : x = b
      · have HF : Hid (amongS b l1 l2 = y) := by show _ = _; rw [HN.out, HD.out, if_pos hxy]
        go_wp2
        go_ret
        exact ⟨ret_val (by rw [HF.out]; rfl), rfl⟩
      · have HF : Hid (amongS b l1 l2 = amongS b (l1.drop (k + 1)) (l2.drop (k + 1))) := by show _ = _; rw [HN.out, HD.out, if_neg hxy]
        go_wp2
        go_round
        case rel => exact ⟨k + 1, by omega, by go_num, HF⟩
        case measure => simp [intOf]; omega
    · have HF : Hid (amongS b l1 l2 = 0) := by show _ = _; rw [HN.out, amongS_end (by have := HL.out; omega)]
      go_wp2
      go_ret
      exact ⟨ret_val (by rw [HF.out]; rfl), rfl⟩

set_option maxRecDepth 100000 in
set_option maxHeartbeats 800000 in
theorem str_5 (b : Int) (w : World) : Calls Try.prog 51 #[.agg #[.int .i64 5, .int .i64 b]] w fun e w' => e = .returned (.int .i64 (modulusS b)) ∧ Ext w w' := by
  go_enter Try.func51, Try.ntmps51
  go_wp2_with (go_at_call 54; refine (modulus_any b _).mono ?_; rintro e w1 ⟨rfl, rfl⟩)
  go_ret
  exact ⟨ret_val rfl, (Ext.refl _).alloc _⟩
set_option maxRecDepth 100000 in
set_option maxHeartbeats 800000 in
theorem str_6 (b : Int) (w : World) : Calls Try.prog 51 #[.agg #[.int .i64 6, .int .i64 b]] w fun e w' => e = .returned (.int .i64 (modulusS b)) ∧ Ext w w' := by
  go_enter Try.func51, Try.ntmps51
  go_wp2_with (go_at_call 54; refine (modulus_any b _).mono ?_; rintro e w1 ⟨rfl, rfl⟩)
  go_ret
  exact ⟨ret_val rfl, (Ext.refl _).alloc _⟩
set_option maxRecDepth 100000 in
set_option maxHeartbeats 800000 in
theorem str_10 (b : Int) (w : World) : Calls Try.prog 51 #[.agg #[.int .i64 10, .int .i64 b]] w fun e w' => e = .returned (.int .i64 (modulusS b)) ∧ Ext w w' := by
  go_enter Try.func51, Try.ntmps51
  go_wp2_with (go_at_call 54; refine (modulus_any b _).mono ?_; rintro e w1 ⟨rfl, rfl⟩)
  go_ret
  exact ⟨ret_val rfl, (Ext.refl _).alloc _⟩
set_option maxRecDepth 100000 in
set_option maxHeartbeats 800000 in
theorem str_11 (b : Int) (w : World) : Calls Try.prog 51 #[.agg #[.int .i64 11, .int .i64 b]] w fun e w' => e = .returned (.int .i64 (modulusS b)) ∧ Ext w w' := by
  go_enter Try.func51, Try.ntmps51
  go_wp2_with (go_at_call 54; refine (modulus_any b _).mono ?_; rintro e w1 ⟨rfl, rfl⟩)
  go_ret
  exact ⟨ret_val rfl, (Ext.refl _).alloc _⟩
set_option maxRecDepth 100000 in
set_option maxHeartbeats 1600000 in
theorem str_7 (b : Int) (w : World) : Calls Try.prog 51 #[.agg #[.int .i64 7, .int .i64 b]] w fun e w' => e = .returned (.int .i64 (if b = 160 ∨ b = 224 ∨ b = 256 ∨ b = 384 ∨ b = 521 then b / 2 else 0)) ∧ Ext w w' := by
  by_cases hb : b = 160 ∨ b = 224 ∨ b = 256 ∨ b = 384 ∨ b = 521
  · rw [if_pos hb]
    rcases hb with rfl | rfl | rfl | rfl | rfl
    all_goals
      go_enter Try.func51, Try.ntmps51
      go_wp2
      go_ret
      exact ⟨ret_val rfl, (Ext.refl _).alloc _⟩
  · rw [if_neg hb]
    have h1 : ¬ b = 160 := fun e => hb (by simp [e])
    have h2 : ¬ b = 224 := fun e => hb (by simp [e])
    have h3 : ¬ b = 256 := fun e => hb (by simp [e])
    have h4 : ¬ b = 384 := fun e => hb (by simp [e])
    have h5 : ¬ b = 521 := fun e => hb (by simp [e])
    clear hb
    go_enter Try.func51, Try.ntmps51
    go_wp2
    go_ret
    exact ⟨ret_val rfl, (Ext.refl _).alloc _⟩
set_option maxRecDepth 100000 in
set_option maxHeartbeats 1600000 in
theorem str_12 (b : Int) (w : World) : Calls Try.prog 51 #[.agg #[.int .i64 12, .int .i64 b]] w fun e w' => e = .returned (.int .i64 (if b = 160 ∨ b = 224 ∨ b = 256 ∨ b = 384 ∨ b = 521 then b / 2 else 0)) ∧ Ext w w' := by
  by_cases hb : b = 160 ∨ b = 224 ∨ b = 256 ∨ b = 384 ∨ b = 521
  · rw [if_pos hb]
    rcases hb with rfl | rfl | rfl | rfl | rfl
    all_goals
      go_enter Try.func51, Try.ntmps51
      go_wp2
      go_ret
      exact ⟨ret_val rfl, (Ext.refl _).alloc _⟩
  · rw [if_neg hb]
    have h1 : ¬ b = 160 := fun e => hb (by simp [e])
    have h2 : ¬ b = 224 := fun e => hb (by simp [e])
    have h3 : ¬ b = 256 := fun e => hb (by simp [e])
    have h4 : ¬ b = 384 := fun e => hb (by simp [e])
    have h5 : ¬ b = 521 := fun e => hb (by simp [e])
    clear hb
    go_enter Try.func51, Try.ntmps51
    go_wp2
    go_ret
    exact ⟨ret_val rfl, (Ext.refl _).alloc _⟩
set_option maxRecDepth 100000 in
set_option maxHeartbeats 800000 in
theorem str_9 (b : Int) (w : World) : Calls Try.prog 51 #[.agg #[.int .i64 9, .int .i64 b]] w fun e w' => e = .returned (.int .i64 (amongS b [44, 65, 87] [128, 192, 256])) ∧ Ext w w' := by
  have HR : Hid (Rd (((w.alloc (.cells #[.int .i64 9, .int .i64 b] 77)).alloc (.cells #[.int .i64 44, .int .i64 65, .int .i64 87] 3)).alloc (.cells #[.int .i64 128, .int .i64 192, .int .i64 256] 3)) (.sl 1 (intsC [44, 65, 87])) (.slice (some ⟨w.heap.size + 1, 0, none⟩) 3 3)) :=
    ints_rd2 (w := w.alloc (.cells #[.int .i64 9, .int .i64 b] 77)) (by simp) [44, 65, 87] 3 rfl (by omega) (by simp) ((Ext.refl _).alloc _)
  have HR' : Hid (Rd (((w.alloc (.cells #[.int .i64 9, .int .i64 b] 77)).alloc (.cells #[.int .i64 44, .int .i64 65, .int .i64 87] 3)).alloc (.cells #[.int .i64 128, .int .i64 192, .int .i64 256] 3)) (.sl 1 (intsC [128, 192, 256])) (.slice (some ⟨w.heap.size + 1 + 1, 0, none⟩) 3 3)) :=
    ints_rd2 (w := (w.alloc (.cells #[.int .i64 9, .int .i64 b] 77)).alloc (.cells #[.int .i64 44, .int .i64 65, .int .i64 87] 3)) (by simp) [128, 192, 256] 3 rfl (by omega) (by simp) (Ext.refl _)
  go_enter Try.func51, Try.ntmps51
  go_wp2_with (go_at_call 55; refine (among_any b [44, 65, 87] [128, 192, 256] _ _ _ _ _ _ (Nat.le_refl _) _ HR.out HR'.out).mono ?_; rintro e w1 ⟨rfl, rfl⟩)
  go_ret
  exact ⟨ret_val rfl, (((Ext.refl _).alloc _).alloc _).alloc _⟩
set_option maxRecDepth 100000 in
set_option maxHeartbeats 800000 in
theorem str_13 (b : Int) (w : World) : Calls Try.prog 51 #[.agg #[.int .i64 13, .int .i64 b]] w fun e w' => e = .returned (.int .i64 (amongS b [512, 768, 1024] [128, 192, 256])) ∧ Ext w w' := by
  have HR : Hid (Rd (((w.alloc (.cells #[.int .i64 13, .int .i64 b] 77)).alloc (.cells #[.int .i64 512, .int .i64 768, .int .i64 1024] 3)).alloc (.cells #[.int .i64 128, .int .i64 192, .int .i64 256] 3)) (.sl 1 (intsC [512, 768, 1024])) (.slice (some ⟨w.heap.size + 1, 0, none⟩) 3 3)) :=
    ints_rd2 (w := w.alloc (.cells #[.int .i64 13, .int .i64 b] 77)) (by simp) [512, 768, 1024] 3 rfl (by omega) (by simp) ((Ext.refl _).alloc _)
  have HR' : Hid (Rd (((w.alloc (.cells #[.int .i64 13, .int .i64 b] 77)).alloc (.cells #[.int .i64 512, .int .i64 768, .int .i64 1024] 3)).alloc (.cells #[.int .i64 128, .int .i64 192, .int .i64 256] 3)) (.sl 1 (intsC [128, 192, 256])) (.slice (some ⟨w.heap.size + 1 + 1, 0, none⟩) 3 3)) :=
    ints_rd2 (w := (w.alloc (.cells #[.int .i64 13, .int .i64 b] 77)).alloc (.cells #[.int .i64 512, .int .i64 768, .int .i64 1024] 3)) (by simp) [128, 192, 256] 3 rfl (by omega) (by simp) (Ext.refl _)
  go_enter Try.func51, Try.ntmps51
  go_wp2_with (go_at_call 55; refine (among_any b [512, 768, 1024] [128, 192, 256] _ _ _ _ _ _ (Nat.le_refl _) _ HR.out HR'.out).mono ?_; rintro e w1 ⟨rfl, rfl⟩)
  go_ret
  exact ⟨ret_val rfl, (((Ext.refl _).alloc _).alloc _).alloc _⟩
set_option maxRecDepth 100000 in
set_option maxHeartbeats 800000 in
theorem str_14 (b : Int) (w : World) : Calls Try.prog 51 #[.agg #[.int .i64 14, .int .i64 b]] w fun e w' => e = .returned (.int .i64 (amongS b [40, 128] [40, 60])) ∧ Ext w w' := by
  have HR : Hid (Rd (((w.alloc (.cells #[.int .i64 14, .int .i64 b] 77)).alloc (.cells #[.int .i64 40, .int .i64 128] 3)).alloc (.cells #[.int .i64 40, .int .i64 60] 3)) (.sl 1 (intsC [40, 128])) (.slice (some ⟨w.heap.size + 1, 0, none⟩) 2 2)) :=
    ints_rd2 (w := w.alloc (.cells #[.int .i64 14, .int .i64 b] 77)) (by simp) [40, 128] 2 rfl (by omega) (by simp) ((Ext.refl _).alloc _)
  have HR' : Hid (Rd (((w.alloc (.cells #[.int .i64 14, .int .i64 b] 77)).alloc (.cells #[.int .i64 40, .int .i64 128] 3)).alloc (.cells #[.int .i64 40, .int .i64 60] 3)) (.sl 1 (intsC [40, 60])) (.slice (some ⟨w.heap.size + 1 + 1, 0, none⟩) 2 2)) :=
    ints_rd2 (w := (w.alloc (.cells #[.int .i64 14, .int .i64 b] 77)).alloc (.cells #[.int .i64 40, .int .i64 128] 3)) (by simp) [40, 60] 2 rfl (by omega) (by simp) (Ext.refl _)
  go_enter Try.func51, Try.ntmps51
  go_wp2_with (go_at_call 55; refine (among_any b [40, 128] [40, 60] _ _ _ _ _ _ (Nat.le_refl _) _ HR.out HR'.out).mono ?_; rintro e w1 ⟨rfl, rfl⟩)
  go_ret
  exact ⟨ret_val rfl, (((Ext.refl _).alloc _).alloc _).alloc _⟩
set_option maxRecDepth 100000 in
set_option maxHeartbeats 800000 in
theorem str_15 (b : Int) (w : World) : Calls Try.prog 51 #[.agg #[.int .i64 15, .int .i64 b]] w fun e w' => e = .returned (.int .i64 (amongS b [112, 168] [80, 112])) ∧ Ext w w' := by
  have HR : Hid (Rd (((w.alloc (.cells #[.int .i64 15, .int .i64 b] 77)).alloc (.cells #[.int .i64 112, .int .i64 168] 3)).alloc (.cells #[.int .i64 80, .int .i64 112] 3)) (.sl 1 (intsC [112, 168])) (.slice (some ⟨w.heap.size + 1, 0, none⟩) 2 2)) :=
    ints_rd2 (w := w.alloc (.cells #[.int .i64 15, .int .i64 b] 77)) (by simp) [112, 168] 2 rfl (by omega) (by simp) ((Ext.refl _).alloc _)
  have HR' : Hid (Rd (((w.alloc (.cells #[.int .i64 15, .int .i64 b] 77)).alloc (.cells #[.int .i64 112, .int .i64 168] 3)).alloc (.cells #[.int .i64 80, .int .i64 112] 3)) (.sl 1 (intsC [80, 112])) (.slice (some ⟨w.heap.size + 1 + 1, 0, none⟩) 2 2)) :=
    ints_rd2 (w := (w.alloc (.cells #[.int .i64 15, .int .i64 b] 77)).alloc (.cells #[.int .i64 112, .int .i64 168] 3)) (by simp) [80, 112] 2 rfl (by omega) (by simp) (Ext.refl _)
  go_enter Try.func51, Try.ntmps51
  go_wp2_with (go_at_call 55; refine (among_any b [112, 168] [80, 112] _ _ _ _ _ _ (Nat.le_refl _) _ HR.out HR'.out).mono ?_; rintro e w1 ⟨rfl, rfl⟩)
  go_ret
  exact ⟨ret_val rfl, (((Ext.refl _).alloc _).alloc _).alloc _⟩
set_option maxRecDepth 100000 in
set_option maxHeartbeats 800000 in
theorem str_16 (b : Int) (w : World) : Calls Try.prog 51 #[.agg #[.int .i64 16, .int .i64 b]] w fun e w' => e = .returned (.int .i64 (amongS b [128, 256] [128, 256])) ∧ Ext w w' := by
  have HR : Hid (Rd (((w.alloc (.cells #[.int .i64 16, .int .i64 b] 77)).alloc (.cells #[.int .i64 128, .int .i64 256] 3)).alloc (.cells #[.int .i64 128, .int .i64 256] 3)) (.sl 1 (intsC [128, 256])) (.slice (some ⟨w.heap.size + 1, 0, none⟩) 2 2)) :=
    ints_rd2 (w := w.alloc (.cells #[.int .i64 16, .int .i64 b] 77)) (by simp) [128, 256] 2 rfl (by omega) (by simp) ((Ext.refl _).alloc _)
  have HR' : Hid (Rd (((w.alloc (.cells #[.int .i64 16, .int .i64 b] 77)).alloc (.cells #[.int .i64 128, .int .i64 256] 3)).alloc (.cells #[.int .i64 128, .int .i64 256] 3)) (.sl 1 (intsC [128, 256])) (.slice (some ⟨w.heap.size + 1 + 1, 0, none⟩) 2 2)) :=
    ints_rd2 (w := (w.alloc (.cells #[.int .i64 16, .int .i64 b] 77)).alloc (.cells #[.int .i64 128, .int .i64 256] 3)) (by simp) [128, 256] 2 rfl (by omega) (by simp) (Ext.refl _)
  go_enter Try.func51, Try.ntmps51
  go_wp2_with (go_at_call 55; refine (among_any b [128, 256] [128, 256] _ _ _ _ _ _ (Nat.le_refl _) _ HR.out HR'.out).mono ?_; rintro e w1 ⟨rfl, rfl⟩)
  go_ret
  exact ⟨ret_val rfl, (((Ext.refl _).alloc _).alloc _).alloc _⟩
set_option maxRecDepth 100000 in
set_option maxHeartbeats 800000 in
theorem str_17 (b : Int) (w : World) : Calls Try.prog 51 #[.agg #[.int .i64 17, .int .i64 b]] w fun e w' => e = .returned (.int .i64 (amongS b [128, 256] [128, 256])) ∧ Ext w w' := by
  have HR : Hid (Rd (((w.alloc (.cells #[.int .i64 17, .int .i64 b] 77)).alloc (.cells #[.int .i64 128, .int .i64 256] 3)).alloc (.cells #[.int .i64 128, .int .i64 256] 3)) (.sl 1 (intsC [128, 256])) (.slice (some ⟨w.heap.size + 1, 0, none⟩) 2 2)) :=
    ints_rd2 (w := w.alloc (.cells #[.int .i64 17, .int .i64 b] 77)) (by simp) [128, 256] 2 rfl (by omega) (by simp) ((Ext.refl _).alloc _)
  have HR' : Hid (Rd (((w.alloc (.cells #[.int .i64 17, .int .i64 b] 77)).alloc (.cells #[.int .i64 128, .int .i64 256] 3)).alloc (.cells #[.int .i64 128, .int .i64 256] 3)) (.sl 1 (intsC [128, 256])) (.slice (some ⟨w.heap.size + 1 + 1, 0, none⟩) 2 2)) :=
    ints_rd2 (w := (w.alloc (.cells #[.int .i64 17, .int .i64 b] 77)).alloc (.cells #[.int .i64 128, .int .i64 256] 3)) (by simp) [128, 256] 2 rfl (by omega) (by simp) (Ext.refl _)
  go_enter Try.func51, Try.ntmps51
  go_wp2_with (go_at_call 55; refine (among_any b [128, 256] [128, 256] _ _ _ _ _ _ (Nat.le_refl _) _ HR.out HR'.out).mono ?_; rintro e w1 ⟨rfl, rfl⟩)
  go_ret
  exact ⟨ret_val rfl, (((Ext.refl _).alloc _).alloc _).alloc _⟩
set_option maxRecDepth 100000 in
set_option maxHeartbeats 800000 in
theorem str_else (a b : Int) (h5 : ¬ a = 5) (h6 : ¬ a = 6) (h10 : ¬ a = 10) (h11 : ¬ a = 11) (h7 : ¬ a = 7) (h12 : ¬ a = 12) (h9 : ¬ a = 9) (h13 : ¬ a = 13) (h14 : ¬ a = 14) (h15 : ¬ a = 15) (h16 : ¬ a = 16) (h17 : ¬ a = 17) (w : World) : Calls Try.prog 51 #[.agg #[.int .i64 a, .int .i64 b]] w fun e w' => e = .returned (.int .i64 (amongS b [0] [singleS a])) ∧ Ext w w' := by
  obtain ⟨s, hs⟩ : ∃ s, singleS a = s := ⟨_, rfl⟩
  have hsr := singleS_range a
  rw [hs] at hsr
  rw [hs]
  have HS := Lib.hid hs
  have HR : Hid (Rd (((w.alloc (.cells #[.int .i64 a, .int .i64 b] 77)).alloc (.cells #[.int .i64 0] 3)).alloc (.cells #[.int .i64 s] 3)) (.sl 1 (intsC [0])) (.slice (some ⟨w.heap.size + 1, 0, none⟩) 1 1)) :=
    ints_rd2 (w := w.alloc (.cells #[.int .i64 a, .int .i64 b] 77)) (by simp) [0] 1 rfl (by omega) (by simp) ((Ext.refl _).alloc _)
  have HR' : Hid (Rd (((w.alloc (.cells #[.int .i64 a, .int .i64 b] 77)).alloc (.cells #[.int .i64 0] 3)).alloc (.cells #[.int .i64 s] 3)) (.sl 1 (intsC [s])) (.slice (some ⟨w.heap.size + 1 + 1, 0, none⟩) 1 1)) :=
    ints_rd2 (w := (w.alloc (.cells #[.int .i64 a, .int .i64 b] 77)).alloc (.cells #[.int .i64 0] 3)) (by simp) [s] 1 rfl (by omega) (by simp; omega) (Ext.refl _)
  clear hs hsr
  go_enter Try.func51, Try.ntmps51
  go_wp2_with (first
    | (go_at_call 56; refine (single_any a _).mono ?_; rintro e w1 ⟨rfl, rfl⟩; rw [HS.out])
    | (go_at_call 55; refine (among_any b [0] [s] _ _ _ _ _ _ (Nat.le_refl _) _ HR.out HR'.out).mono ?_; rintro e w1 ⟨rfl, rfl⟩))
  go_ret
  exact ⟨ret_val rfl, (((Ext.refl _).alloc _).alloc _).alloc _⟩
theorem strength_any (a b : Int) (w : World) : Calls Try.prog 51 #[.agg #[.int .i64 a, .int .i64 b]] w fun e w' => e = .returned (.int .i64 (strS a b)) ∧ Ext w w' := by
  unfold strS
  by_cases h5 : a = 5
  · subst h5; exact str_5 b w
  by_cases h6 : a = 6
  · subst h6; exact str_6 b w
  by_cases h10 : a = 10
  · subst h10; exact str_10 b w
  by_cases h11 : a = 11
  · subst h11; exact str_11 b w
  rw [if_neg (by omega)]
  by_cases h7 : a = 7
  · subst h7; exact str_7 b w
  by_cases h12 : a = 12
  · subst h12; exact str_12 b w
  rw [if_neg (by omega)]
  by_cases h9 : a = 9
  · subst h9; exact str_9 b w
  rw [if_neg h9]
  by_cases h13 : a = 13
  · subst h13; exact str_13 b w
  rw [if_neg h13]
  by_cases h14 : a = 14
  · subst h14; exact str_14 b w
  rw [if_neg h14]
  by_cases h15 : a = 15
  · subst h15; exact str_15 b w
  rw [if_neg h15]
  by_cases h16 : a = 16
  · subst h16; exact str_16 b w
  by_cases h17 : a = 17
  · subst h17; exact str_17 b w
  rw [if_neg (by omega)]
  exact str_else a b h5 h6 h10 h11 h7 h12 h9 h13 h14 h15 h16 h17 w
end Go.Proofs.Ythjgcmifggdepaa
