/- Ways in a graph: Warshall's closure, what is left of a graph without loops, and that no part of it does. No program is in sight here. -/
import Derived.Test.YtkpcbnnlefcebaaPU
set_option linter.unusedVariables false
set_option linter.unusedSimpArgs false
namespace Go.Proofs.Ytkpcbnnlefcebaa
inductive TC (R : Nat → Nat → Prop) : Nat → Nat → Prop
  | one {a b} (h : R a b) : TC R a b
  | step {a b c} (h : R a b) (hs : TC R b c) : TC R a c
theorem TC.trans {R : Nat → Nat → Prop} {a b c : Nat} (h : TC R a b) (h' : TC R b c) : TC R a c := by
  induction h with
  | one h => exact .step h h'
  | step h _ ih => exact .step h (ih h')
theorem TC.mono {R S : Nat → Nat → Prop} (hRS : ∀ a b, R a b → S a b) {a b : Nat} (h : TC R a b) : TC S a b := by
  induction h with
  | one h => exact .one (hRS _ _ h)
  | step h _ ih => exact .step (hRS _ _ h) ih
theorem TC.lt {R : Nat → Nat → Prop} {n : Nat} (hR : ∀ a b, R a b → a < n ∧ b < n) {a b : Nat} (h : TC R a b) : a < n ∧ b < n := by
  induction h with
  | one h => exact hR _ _ h
  | step h _ ih => exact ⟨(hR _ _ h).1, ih.2⟩
theorem TC.up {R : Nat → Nat → Prop} (hR : ∀ a b, R a b → a < b) {a b : Nat} (h : TC R a b) : a < b := by
  induction h with
  | one h => exact hR _ _ h
  | step h _ ih => exact Nat.lt_trans (hR _ _ h) ih
def wst (k : Nat) (w : Nat → Nat → Bool) : Nat → Nat → Bool := fun i j => w i j || (w i k && w k j)
def warsh (w : Nat → Nat → Bool) : Nat → Nat → Nat → Bool
  | 0 => w
  | k + 1 => wst k (warsh w k)
end Go.Proofs.Ytkpcbnnlefcebaa
