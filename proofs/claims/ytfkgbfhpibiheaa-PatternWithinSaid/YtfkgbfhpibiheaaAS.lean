/- Ascending lists: what they hold says what they are; elements put in; neighbours that are equal left out. No program is in sight here. -/
import Derived.Test.YtfkgbfhpibiheaaPU
set_option linter.unusedVariables false
set_option linter.unusedSimpArgs false
namespace Go.Proofs.Ytfkgbfhpibiheaa
structure LinO {α : Type} (lt : α → α → Bool) : Prop where
  irrefl : ∀ a, lt a a = false
  trans : ∀ a b c, lt a b = true → lt b c = true → lt a c = true
  tot : ∀ a b, lt a b = false → lt b a = false → a = b
section
variable {α : Type} {lt : α → α → Bool}
theorem LinO.asymm (h : LinO lt) {a b : α} (hab : lt a b = true) : lt b a = false := by
  cases hb : lt b a with
  | false => rfl
  | true => have := h.trans _ _ _ hab hb; rw [h.irrefl] at this; cases this
theorem LinO.ne (h : LinO lt) {a b : α} (hab : lt a b = true) : a ≠ b := fun e => by
  rw [e, h.irrefl] at hab
  cases hab
abbrev Asc (lt : α → α → Bool) (l : List α) : Prop := l.Pairwise fun x y => lt x y = true
theorem Asc.nodup (h : LinO lt) {l : List α} (hl : Asc lt l) : l.Nodup := hl.imp fun hab => h.ne hab
theorem asc_ext (h : LinO lt) : ∀ {l m : List α}, Asc lt l → Asc lt m → (∀ x, x ∈ l ↔ x ∈ m) → l = m
  | [], [], _, _, _ => rfl
  | [], y :: m, _, _, he => by have := (he y).2 (.head _); cases this
  | x :: l, [], _, _, he => by have := (he x).1 (.head _); cases this
  | x :: l, y :: m, hl, hm, he => by
    obtain ⟨l1, l2⟩ := List.pairwise_cons.1 hl
    obtain ⟨m1, m2⟩ := List.pairwise_cons.1 hm
    have hxy : x = y := by
      rcases List.mem_cons.1 ((he x).1 (.head _)) with h1 | h1
      · exact h1
      · rcases List.mem_cons.1 ((he y).2 (.head _)) with h2 | h2
        · exact h2.symm
        · have a1 := m1 x h1
          have a2 := l1 y h2
          rw [h.asymm a1] at a2
          cases a2
    subst hxy
    rw [asc_ext h l2 m2 fun z => ⟨fun hz => ?_, fun hz => ?_⟩]
    · rcases List.mem_cons.1 ((he z).1 (.tail _ hz)) with rfl | h1
      · have := l1 z hz
        rw [h.irrefl] at this; cases this
      · exact h1
    · rcases List.mem_cons.1 ((he z).2 (.tail _ hz)) with rfl | h1
      · have := m1 z hz
        rw [h.irrefl] at this; cases this
      · exact h1
end
end Go.Proofs.Ytfkgbfhpibiheaa
