import Derived.Test.YtkoflhimdenjaaaGreatPU
set_option linter.unusedVariables false
namespace Go.Proofs.YtkoflhimdenjaaaGreat
open Go
theorem Ri {A R : Type} {F : (A -> Option R) -> A -> Option R} (hm : Sg F) (spec : A -> R) (μ : A -> Nat) (Tx : A -> Prop) (h : ∀ rec a, Tx a -> (∀ b, Tx b -> μ b < μ a -> rec b = some (spec b)) -> F rec a = some (spec a)) (a : A) (ha : Tx a) : V6 F a = some (spec a) := by
 have key : ∀ n a, Tx a -> μ a < n -> Wg F n a = some (spec a) := by
  intro n
  induction n with
  | zero => intro a _ h0; exact absurd h0 (Nat.not_lt_zero _)
  | succ n ih => intro a ha hn; exact h _ a ha fun b hb hl => ih b hb (by omega)
 exact jA hm (key (μ a + 1) a ha (Nat.lt_succ_self _))
def aBh {α β : Type} [DecidableEq β] (l : List α) (a b : Option β) : Option β := match l with
 | [] => (match a, b with
  | some x, some y => if x = y then some x else none
  | _, _ => none)
 | _ :: _ => b
theorem Eg.nil {α β : Type} [DecidableEq β] {l : List α} {a a' b b' : Option β} (h : Eg a a') (k : Eg b b') : Eg (aBh l a b) (dY l a' b') := fun r hr => by
 unfold aBh at hr
 unfold dY
 cases l with
 | nil =>
  rw [if_pos rfl]
  cases a with
  | none => cases hr
  | some x =>
   cases b with
   | none => cases hr
   | some y =>
    simp only at hr
    split at hr
    ·rename_i e
     injection hr with hr
     subst hr
     have h1 := h x rfl
     have h2 := k y rfl
     rw [h1, h2, e, if_pos rfl]
    ·cases hr
 | cons x l => rw [if_neg (by simp)]; exact k r hr
end Go.Proofs.YtkoflhimdenjaaaGreat
