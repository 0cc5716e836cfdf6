/- Loops over lists, as plain functions. No program is in sight here. -/
import Derived.Test.YtkpcbnnlefcebaaPC
set_option linter.unusedVariables false
set_option linter.unusedSimpArgs false
namespace Go.Proofs.Ytkpcbnnlefcebaa
open Go
theorem loop_next {S R : Type} {body : S → Option (Lp S R)} {s s' : S} (h : body s = some (.next s')) : loop body s = loop body s' := by rw [loop_eq, h]; rfl
theorem loop_done {S R : Type} {body : S → Option (Lp S R)} {s : S} {r : R} (h : body s = some (.done r)) : loop body s = some r := by rw [loop_eq, h]; rfl
theorem loop_up {S R : Type} {body : S → Option (Lp S R)} {s : S} {x : Option R} (h : body s = up x) : loop body s = x := by rw [loop_eq, h]; cases x <;> rfl
theorem W_succ {i : Nat} (h : i < 4611686018427387904) : W ((i : Int) + 1) = ((i + 1 : Nat) : Int) := by
  rw [W_id (by omega)]; omega
theorem appI_ok {α : Type} {k : Nat} {l m : List α} (h : (l.length + m.length) * k ≤ 140737488355328) : appI k l m = some (l ++ m) := by unfold appI; rw [if_pos h]
theorem take_succ' {α : Type} {l : List α} {i : Nat} {x : α} (h : l[i]? = some x) : l.take (i + 1) = l.take i ++ [x] := by
  obtain ⟨hk, e⟩ := List.getElem?_eq_some_iff.1 h
  rw [List.take_succ_eq_append_getElem hk, e]
end Go.Proofs.Ytkpcbnnlefcebaa
