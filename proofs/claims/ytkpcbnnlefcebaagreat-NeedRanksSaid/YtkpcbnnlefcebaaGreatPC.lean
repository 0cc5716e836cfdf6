import Derived.Test.YtkpcbnnlefcebaaGreatPU
set_option linter.unusedVariables false
namespace Go.Proofs.YtkpcbnnlefcebaaGreat
open Go
def Jl {S R : Type} (n : Nat) (body : S -> Option (Lp S R)) (s : S) : Option R := Mv body n s
theorem Bd.lpC {S R : Type} {f g : S -> Option (Lp S R)} (n : Nat) (h : ∀ s, Bd (f s) (g s)) (s : S) : Bd (Jl n f s) (C2 g s) := fun r hr => Tp (Bd.it h n s r hr)
def kW {A R : Type} (n : Nat) (F : (A -> Option R) -> A -> Option R) (a : A) : Option R := T2 F n a
theorem Bd.fx {A R : Type} {F G : (A -> Option R) -> A -> Option R} (n : Nat) (h : ∀ p q : A -> Option R, (∀ a, Bd (p a) (q a)) -> ∀ a, Bd (F p a) (G q a)) (hm : Sf G) (a : A) : Bd (kW n F a) (Vx G a) := by
 have key : ∀ n a, Bd (T2 F n a) (T2 G n a) := by
  intro n
  induction n with
  | zero => intro a r hr; cases hr
  | succ n ih => exact h _ _ ih
 exact fun r hr => eG hm (key n a r hr)
def vM {α β : Type} [DecidableEq β] (l : List α) (a b : Option β) : Option β := match l with
 | [] => (match a, b with
  | some x, some y => if x = y then some x else none
  | _, _ => none)
 | _ :: _ => b
theorem Bd.nil {α β : Type} [DecidableEq β] {l : List α} {a a' b b' : Option β} (h : Bd a a') (k : Bd b b') : Bd (vM l a b) (vF l a' b') := fun r hr => by
 unfold vM at hr
 unfold vF
 cases l with
 | nil =>
  rw [if_pos rfl]
  cases a with
  | none => cases hr
  | some x =>
   cases b with
   | none => cases hr
   | some y =>
    simp only at hr
    split at hr
    ·rename_i e
     injection hr with hr
     subst hr
     have h1 := h x rfl
     have h2 := k y rfl
     rw [h1, h2, e, if_pos rfl]
    ·cases hr
 | cons x l => rw [if_neg (by simp)]; exact k r hr
end Go.Proofs.YtkpcbnnlefcebaaGreat
