/- Plain functions with a bound on their rounds, which a machine can run; what they answer, the unbounded ones answer. -/
import Derived.Test.YtkpcbnnlefcebaaGreatPU
set_option linter.unusedVariables false
namespace Go.Proofs.YtkpcbnnlefcebaaGreat
open Go
def loopC {S R : Type} (n : Nat) (body : S → Option (Lp S R)) (s : S) : Option R := iter body n s
theorem OLe.lpC {S R : Type} {f g : S → Option (Lp S R)} (n : Nat) (h : ∀ s, OLe (f s) (g s)) (s : S) : OLe (loopC n f s) (loop g s) := fun r hr => loop_of (OLe.it h n s r hr)
def fixC {A R : Type} (n : Nat) (F : (A → Option R) → A → Option R) (a : A) : Option R := fixN F n a
theorem OLe.fx {A R : Type} {F G : (A → Option R) → A → Option R} (n : Nat) (h : ∀ p q : A → Option R, (∀ a, OLe (p a) (q a)) → ∀ a, OLe (F p a) (G q a)) (hm : MonoF G) (a : A) : OLe (fixC n F a) (fixT G a) := by
  have key : ∀ n a, OLe (fixN F n a) (fixN G n a) := by
    intro n
    induction n with
    | zero => intro a r hr; cases hr
    | succ n ih => exact h _ _ ih
  exact fun r hr => fixT_of hm (key n a r hr)
def nilD {α β : Type} [DecidableEq β] (l : List α) (a b : Option β) : Option β := match l with
  | [] => (match a, b with
    | some x, some y => if x = y then some x else none
    | _, _ => none)
  | _ :: _ => b
theorem OLe.nil {α β : Type} [DecidableEq β] {l : List α} {a a' b b' : Option β} (h : OLe a a') (k : OLe b b') : OLe (nilD l a b) (nilC l a' b') := fun r hr => by
  unfold nilD at hr
  unfold nilC
  cases l with
  | nil =>
    rw [if_pos rfl]
    cases a with
    | none => cases hr
    | some x =>
      cases b with
      | none => cases hr
      | some y =>
        simp only at hr
        split at hr
        · rename_i e
          injection hr with hr
          subst hr
          have h1 := h x rfl
          have h2 := k y rfl
          rw [h1, h2, e, if_pos rfl]
        · cases hr
  | cons x l => rw [if_neg (by simp)]; exact k r hr
end Go.Proofs.YtkpcbnnlefcebaaGreat
