import Derived.Test.YtfkgbfhpibiheaaPU
set_option linter.unusedVariables false
namespace Go.Proofs.Ytfkgbfhpibiheaa
open Go
def uA {α β : Type} [DecidableEq β] (l : List α) (a b : Option β) : Option β := match l with
 | [] => (match a, b with
  | some x, some y => if x = y then some x else none
  | _, _ => none)
 | _ :: _ => b
theorem Gz.nil {α β : Type} [DecidableEq β] {l : List α} {a a' b b' : Option β} (h : Gz a a') (k : Gz b b') : Gz (uA l a b) (uL l a' b') := fun r hr => by
 unfold uA at hr
 unfold uL
 cases l with
 | nil =>
  rw [if_pos rfl]
  cases a with
  | none => cases hr
  | some x =>
   cases b with
   | none => cases hr
   | some y =>
    simp only at hr
    split at hr
    ·rename_i e
     injection hr with hr
     subst hr
     have h1 := h x rfl
     have h2 := k y rfl
     rw [h1, h2, e, if_pos rfl]
    ·cases hr
 | cons x l => rw [if_neg (by simp)]; exact k r hr
end Go.Proofs.Ytfkgbfhpibiheaa
