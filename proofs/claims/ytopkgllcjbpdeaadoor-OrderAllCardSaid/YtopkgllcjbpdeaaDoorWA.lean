import Derived.Test.YtopkgllcjbpdeaaDoorPF
set_option linter.unusedVariables false
set_option linter.unusedSimpArgs false
namespace Go.Proofs.YtopkgllcjbpdeaaDoor
inductive TC (R : Nat -> Nat -> Prop) : Nat -> Nat -> Prop
 | one {a b} (h : R a b) : TC R a b
 | step {a b c} (h : R a b) (hs : TC R b c) : TC R a c
theorem TC.trans {R : Nat -> Nat -> Prop} {a b c : Nat} (h : TC R a b) (h' : TC R b c) : TC R a c := by
 induction h with
 | one h => exact .step h h'
 | step h _ ih => exact .step h (ih h')
theorem TC.mono {R S : Nat -> Nat -> Prop} (hRS : ∀ a b, R a b -> S a b) {a b : Nat} (h : TC R a b) : TC S a b := by
 induction h with
 | one h => exact .one (hRS _ _ h)
 | step h _ ih => exact .step (hRS _ _ h) ih
theorem TC.lt {R : Nat -> Nat -> Prop} {n : Nat} (hR : ∀ a b, R a b -> a < n /\ b < n) {a b : Nat} (h : TC R a b) : a < n /\ b < n := by
 induction h with
 | one h => exact hR _ _ h
 | step h _ ih => exact ⟨(hR _ _ h).1, ih.2⟩
theorem TC.up {R : Nat -> Nat -> Prop} (hR : ∀ a b, R a b -> a < b) {a b : Nat} (h : TC R a b) : a < b := by
 induction h with
 | one h => exact hR _ _ h
 | step h _ ih => exact Nat.lt_trans (hR _ _ h) ih
def V6 (k : Nat) (w : Nat -> Nat -> Bool) : Nat -> Nat -> Bool := fun i j => w i j || (w i k && w k j)
def Ew (w : Nat -> Nat -> Bool) : Nat -> Nat -> Nat -> Bool
 | 0 => w
 | k + 1 => V6 k (Ew w k)
theorem Lb {w : Nat -> Nat -> Bool} : ∀ {k i j : Nat}, Ew w k i j = true -> TC (fun a b => w a b = true) i j
 | 0, _, _, h => .one h
 | k + 1, i, j, h => by
  have h : (Ew w k i j || (Ew w k i k && Ew w k k j)) = true := h
  rw [Bool.or_eq_true, Bool.and_eq_true] at h
  rcases h with h | ⟨h1, h2⟩
  ·exact Lb h
  ·exact (Lb h1).trans (Lb h2)
theorem Ra {w : Nat -> Nat -> Bool} : ∀ {k i j : Nat}, w i j = true -> Ew w k i j = true
 | 0, _, _, h => h
 | k + 1, i, j, h => by
  show (Ew w k i j || (Ew w k i k && Ew w k k j)) = true
  rw [Ra h]
  rfl
theorem Qy {w : Nat -> Nat -> Bool} : ∀ {k i j m : Nat}, m < k -> Ew w k i m = true -> Ew w k m j = true -> Ew w k i j = true
 | 0, _, _, _, h, _, _ => by omega
 | k + 1, i, j, m, hm, h1, h2 => by
  have P : ∀ i j m, m < k -> Ew w k i m = true -> Ew w k m j = true -> Ew w k i j = true := fun i j m => Qy
  have h1 : (Ew w k i m || (Ew w k i k && Ew w k k m)) = true := h1
  have h2 : (Ew w k m j || (Ew w k m k && Ew w k k j)) = true := h2
  show (Ew w k i j || (Ew w k i k && Ew w k k j)) = true
  simp only [Bool.or_eq_true, Bool.and_eq_true] at h1 h2 ⊢
  rcases Nat.lt_or_ge m k with hk | hk
  ·rcases h1 with h1 | ⟨h1, h3⟩ <;> rcases h2 with h2 | ⟨h2, h4⟩
   ·exact .inl (P i j m hk h1 h2)
   ·exact .inr ⟨P i k m hk h1 h2, h4⟩
   ·exact .inr ⟨h1, P k j m hk h3 h2⟩
   ·exact .inr ⟨h1, h4⟩
  ·have : m = k := by omega
   subst this
   have h1 : Ew w m i m = true := h1.elim id And.left
   have h2 : Ew w m m j = true := h2.elim id And.right
   exact .inr ⟨h1, h2⟩
theorem Ke {w : Nat -> Nat -> Bool} {n : Nat} (hw : ∀ a b, w a b = true -> a < n /\ b < n) {i j : Nat} : Ew w n i j = true ↔ TC (fun a b => w a b = true) i j := by
 refine ⟨Lb, fun h => ?_⟩
 induction h with
 | one h => exact Ra h
 | step h hs ih => exact Qy (hw _ _ h).2 (Ra h) ih
end Go.Proofs.YtopkgllcjbpdeaaDoor
