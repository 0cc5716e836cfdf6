/- Searches in lists, as plain functions. No program is in sight here. -/
import Derived.Test.YtoekocjflclojaaGreatL1
set_option linter.unusedVariables false
set_option linter.unusedSimpArgs false
namespace Go.Proofs.YtoekocjflclojaaGreat
open Go
def Lo {α : Type} (l : List α) : Prop := l.length < 4611686018427387904
def firstS {α : Type} (l : List α) (p : α → Bool) : Int := match l.findIdx? p with | some i => (i : Int) | none => -1
theorem firstS_any {α : Type} (l : List α) (p : α → Bool) : decide (0 ≤ firstS l p) = l.any p := by
  unfold firstS
  have := List.findIdx?_isSome (xs := l) (p := p)
  cases h : l.findIdx? p with
  | none => rw [h] at this; rw [← this]; rfl
  | some i => rw [h] at this; rw [← this]; simp
theorem loop_first {α : Type} {body : Int → Option (Lp Int Int)} (l : List α) (p : α → Bool) (hl : Lo l) (h1 : ∀ (i : Nat) x, l[i]? = some x → body (i : Int) = some (bif p x then .done (i : Int) else .next (W ((i : Int) + 1)))) (h2 : body (l.length : Int) = some (.done (-1))) : loop body 0 = some (firstS l p) := by
  unfold Lo at hl
  refine (loop_find l (fun i => (i : Int)) p (fun i => (i : Int)) (-1) (fun i x hx => ?_) h2).trans ?_
  · have := at_lt hx
    rw [h1 i x hx, W_succ (by omega)]
  · rfl
theorem loop_has {α R : Type} {body : Int → Option (Lp Int R)} (l : List α) (p : α → Bool) (r1 r2 : R) (hl : Lo l) (h1 : ∀ (i : Nat) x, l[i]? = some x → body (i : Int) = some (bif p x then .done r1 else .next (W ((i : Int) + 1)))) (h2 : body (l.length : Int) = some (.done r2)) : loop body 0 = some (bif l.any p then r1 else r2) := by
  unfold Lo at hl
  refine loop_any l (fun i => (i : Int)) p r1 r2 (fun i x hx => ?_) h2
  have := at_lt hx
  rw [h1 i x hx, W_succ (by omega)]
theorem getI_z {α : Type} {l : List α} : getI l 0 = l[0]? := getI_nat (j := 0)
end Go.Proofs.YtoekocjflclojaaGreat
