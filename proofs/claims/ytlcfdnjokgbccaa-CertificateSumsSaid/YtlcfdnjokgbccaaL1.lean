/- Loops over lists, as plain functions. No program is in sight here. -/
import Derived.Test.YtlcfdnjokgbccaaPC
set_option linter.unusedVariables false
set_option linter.unusedSimpArgs false
namespace Go.Proofs.Ytlcfdnjokgbccaa
open Go
theorem loop_path {S R : Type} {body : S → Option (Lp S R)} (n : Nat) (G : Nat → S) (r : R) (h1 : ∀ i, i < n → body (G i) = some (.next (G (i + 1)))) (h2 : body (G n) = some (.done r)) : loop body (G 0) = some r := by
  have key : ∀ k i, i + k = n → loop body (G i) = some r := by
    intro k
    induction k with
    | zero => intro i hi; rw [loop_eq, show i = n by omega, h2]; rfl
    | succ k ih => intro i hi; rw [loop_eq, h1 i (by omega)]; exact ih (i + 1) (by omega)
  exact key n 0 (by omega)
theorem for_in {α T : Type} {l : List α} {i : Nat} {x : α} {k : α → Option T} {e : Option T} (h : l[i]? = some x) : cond (decide ((i : Int) < (l.length : Int))) ((getI l (i : Int)).bind k) e = k x := by
  have hl := (List.getElem?_eq_some_iff.1 h).1
  rw [decide_eq_true (by omega), getI_nat, h]; rfl
theorem for_out {T : Type} {n : Nat} {a e : Option T} : cond (decide ((n : Int) < (n : Int))) a e = e := by
  rw [decide_eq_false (by omega)]; rfl
theorem W_succ {i : Nat} (h : i < 4611686018427387904) : W ((i : Int) + 1) = ((i + 1 : Nat) : Int) := by
  rw [W_id (by omega)]; omega
theorem appI_ok {α : Type} {k : Nat} {l m : List α} (h : (l.length + m.length) * k ≤ 140737488355328) : appI k l m = some (l ++ m) := by unfold appI; rw [if_pos h]
theorem take_succ' {α : Type} {l : List α} {i : Nat} {x : α} (h : l[i]? = some x) : l.take (i + 1) = l.take i ++ [x] := by
  obtain ⟨hk, e⟩ := List.getElem?_eq_some_iff.1 h
  rw [List.take_succ_eq_append_getElem hk, e]
end Go.Proofs.Ytlcfdnjokgbccaa
