import Derived.Test.YtjomajedgbcngaaPU
set_option linter.unusedVariables false
namespace Go.Proofs.Ytjomajedgbcngaa
open Go
def qB {A R : Type} (n : Nat) (F : (A -> Option R) -> A -> Option R) (a : A) : Option R := Qh F n a
theorem L1.fx {A R : Type} {F G : (A -> Option R) -> A -> Option R} (n : Nat) (h : ∀ p q : A -> Option R, (∀ a, L1 (p a) (q a)) -> ∀ a, L1 (F p a) (G q a)) (hm : Ut G) (a : A) : L1 (qB n F a) (W0 G a) := by
 have key : ∀ n a, L1 (Qh F n a) (Qh G n a) := by
  intro n
  induction n with
  | zero => intro a r hr; cases hr
  | succ n ih => exact h _ _ ih
 exact fun r hr => Ym hm (key n a r hr)
def mT {α β : Type} [DecidableEq β] (l : List α) (a b : Option β) : Option β := match l with
 | [] => (match a, b with
  | some x, some y => if x = y then some x else none
  | _, _ => none)
 | _ :: _ => b
theorem L1.nil {α β : Type} [DecidableEq β] {l : List α} {a a' b b' : Option β} (h : L1 a a') (k : L1 b b') : L1 (mT l a b) (Wn l a' b') := fun r hr => by
 unfold mT at hr
 unfold Wn
 cases l with
 | nil =>
  rw [if_pos rfl]
  cases a with
  | none => cases hr
  | some x =>
   cases b with
   | none => cases hr
   | some y =>
    simp only at hr
    split at hr
    ·rename_i e
     injection hr with hr
     subst hr
     have h1 := h x rfl
     have h2 := k y rfl
     rw [h1, h2, e, if_pos rfl]
    ·cases hr
 | cons x l => rw [if_neg (by simp)]; exact k r hr
end Go.Proofs.Ytjomajedgbcngaa
