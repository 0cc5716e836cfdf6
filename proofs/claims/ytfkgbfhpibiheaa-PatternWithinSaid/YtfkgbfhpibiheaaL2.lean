/- Searches in lists, as plain functions. No program is in sight here. -/
import Derived.Test.YtfkgbfhpibiheaaL1
set_option linter.unusedVariables false
set_option linter.unusedSimpArgs false
namespace Go.Proofs.Ytfkgbfhpibiheaa
open Go
def Lo {α : Type} (l : List α) : Prop := l.length < 4611686018427387904
theorem loop_has {α R : Type} {body : Int → Option (Lp Int R)} (l : List α) (p : α → Bool) (r1 r2 : R) (hl : Lo l) (h1 : ∀ (i : Nat) x, l[i]? = some x → body (i : Int) = some (bif p x then .done r1 else .next (W ((i : Int) + 1)))) (h2 : body (l.length : Int) = some (.done r2)) : loop body 0 = some (bif l.any p then r1 else r2) := by
  unfold Lo at hl
  refine loop_any l (fun i => (i : Int)) p r1 r2 (fun i x hx => ?_) h2
  have := at_lt hx
  rw [h1 i x hx, W_succ (by omega)]
theorem loop_hasN {R : Type} {body : Int → Option (Lp Int R)} (n : Nat) (p : Nat → Bool) (r1 r2 : R) (hl : n < 4611686018427387904) (h1 : ∀ (i : Nat), i < n → body (i : Int) = some (bif p i then .done r1 else .next (W ((i : Int) + 1)))) (h2 : body (n : Int) = some (.done r2)) : loop body 0 = some (bif (List.range n).any p then r1 else r2) := by
  refine loop_anyN n (fun i => (i : Int)) p r1 r2 (fun i hi => ?_) h2
  rw [h1 i hi, W_succ (by omega)]
theorem getI_z {α : Type} {l : List α} : getI l 0 = l[0]? := getI_nat (j := 0)
end Go.Proofs.Ytfkgbfhpibiheaa
