/- Comparisons, one behind the other, as orders. No program is in sight here. -/
import Derived.Test.YtfkgbfhpibiheaaAS
set_option linter.unusedVariables false
set_option linter.unusedSimpArgs false
namespace Go.Proofs.Ytfkgbfhpibiheaa
structure Pre {α : Type} (c : α → α → Int) : Prop where
  anti : ∀ a b, c b a = - c a b
  tr : ∀ a b d, c a b ≤ 0 → c b d ≤ 0 → c a d ≤ 0
section
variable {α β : Type} {c c' : α → α → Int}
theorem Pre.self (h : Pre c) (a : α) : c a a = 0 := by have := h.anti a a; omega
theorem Pre.lt_le (h : Pre c) {a b d : α} (h1 : c a b < 0) (h2 : c b d ≤ 0) : c a d < 0 := by
  have h3 := h.tr a b d (by omega) h2
  by_cases h4 : c a d = 0
  · have h5 := h.tr b d a h2 (by have := h.anti a d; omega)
    have := h.anti a b
    omega
  · omega
theorem Pre.le_lt (h : Pre c) {a b d : α} (h1 : c a b ≤ 0) (h2 : c b d < 0) : c a d < 0 := by
  have h3 := h.tr a b d h1 (by omega)
  by_cases h4 : c a d = 0
  · have h5 := h.tr d a b (by have := h.anti a d; omega) h1
    have := h.anti b d
    omega
  · omega
def lexC (c c' : α → α → Int) (a b : α) : Int := bif decide (c a b = 0) then c' a b else c a b
theorem lexC_z {a b : α} (h : c a b = 0) : lexC c c' a b = c' a b := by unfold lexC; rw [decide_eq_true h]; rfl
theorem lexC_n {a b : α} (h : c a b ≠ 0) : lexC c c' a b = c a b := by unfold lexC; rw [decide_eq_false h]; rfl
theorem Pre.lex (h : Pre c) (h' : Pre c') : Pre (lexC c c') where
  anti a b := by
    have h1 := h.anti a b
    by_cases hz : c a b = 0
    · rw [lexC_z hz, lexC_z (by omega)]; exact h'.anti a b
    · rw [lexC_n hz, lexC_n (by omega)]; exact h1
  tr a b d h1 h2 := by
    by_cases z1 : c a b = 0
    · rw [lexC_z z1] at h1
      by_cases z2 : c b d = 0
      · rw [lexC_z z2] at h2
        have z3 : c a d = 0 := by
          have e1 := h.tr a b d (by omega) (by omega)
          have e2 := h.tr d b a (by have := h.anti b d; omega) (by have := h.anti a b; omega)
          have := h.anti a d
          omega
        rw [lexC_z z3]
        exact h'.tr a b d h1 h2
      · rw [lexC_n z2] at h2
        have := h.le_lt (a := a) (b := b) (d := d) (by omega) (by omega)
        rw [lexC_n (by omega)]
        omega
    · rw [lexC_n z1] at h1
      have h2' : c b d ≤ 0 := by
        by_cases z2 : c b d = 0
        · omega
        · rw [lexC_n z2] at h2; exact h2
      have := h.lt_le (a := a) (b := b) (d := d) (by omega) h2'
      rw [lexC_n (by omega)]
      omega
theorem lexC_eq {a b : α} (h : lexC c c' a b = 0) : c a b = 0 ∧ c' a b = 0 := by
  by_cases hz : c a b = 0
  · rw [lexC_z hz] at h; exact ⟨hz, h⟩
  · rw [lexC_n hz] at h; exact absurd h hz
theorem Pre.by_ (f : α → β) {d : β → β → Int} (h : Pre d) : Pre fun a b => d (f a) (f b) := ⟨fun a b => h.anti _ _, fun a b d' h1 h2 => h.tr _ _ _ h1 h2⟩
theorem Pre.lin (h : Pre c) (h0 : ∀ a b, c a b = 0 → a = b) : LinO fun a b => decide (c a b < 0) where
  irrefl a := decide_eq_false (by rw [h.self]; omega)
  trans a b d h1 h2 := decide_eq_true (h.lt_le (of_decide_eq_true h1) (by have := of_decide_eq_true h2; omega))
  tot a b h1 h2 := by
    have h1 := of_decide_eq_false h1
    have h2 := of_decide_eq_false h2
    have := h.anti a b
    exact h0 a b (by omega)
end
def cmpI (x y : Int) : Int := bif decide (x < y) then -1 else bif decide (y < x) then 1 else 0
theorem cmpI_pre : Pre cmpI where
  anti a b := by
    unfold cmpI
    by_cases h1 : a < b
    · rw [decide_eq_true h1, decide_eq_false (by omega)]; rfl
    · by_cases h2 : b < a
      · rw [decide_eq_true h2, decide_eq_false h1]; rfl
      · rw [decide_eq_false h2, decide_eq_false h1]; rfl
  tr a b d h1 h2 := by
    have key : ∀ x y, cmpI x y ≤ 0 ↔ x ≤ y := fun x y => by
      unfold cmpI
      by_cases h1 : x < y
      · rw [decide_eq_true h1]; simp; omega
      · by_cases h2 : y < x
        · rw [decide_eq_true h2, decide_eq_false h1]; simp; omega
        · rw [decide_eq_false h2, decide_eq_false h1]; simp; omega
    rw [key] at *
    omega
theorem cmpI_eq {x y : Int} (h : cmpI x y = 0) : x = y := by
  unfold cmpI at h
  by_cases h1 : x < y
  · rw [decide_eq_true h1] at h; cases h
  · by_cases h2 : y < x
    · rw [decide_eq_true h2, decide_eq_false h1] at h; cases h
    · omega
end Go.Proofs.Ytfkgbfhpibiheaa
