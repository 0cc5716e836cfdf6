/- Searches in lists, as plain functions. No program is in sight here. -/
import Derived.Test.YtmihjbejflcgkaaL1
set_option linter.unusedVariables false
set_option linter.unusedSimpArgs false
namespace Go.Proofs.Ytmihjbejflcgkaa
open Go
def Lo {α : Type} (l : List α) : Prop := l.length < 4611686018427387904
def firstS {α : Type} (l : List α) (p : α → Bool) : Int := match l.findIdx? p with | some i => (i : Int) | none => -1
theorem loop_first {α : Type} {body : Int → Option (Lp Int Int)} (l : List α) (p : α → Bool) (hl : Lo l) (h1 : ∀ (i : Nat) x, l[i]? = some x → body (i : Int) = some (bif p x then .done (i : Int) else .next (W ((i : Int) + 1)))) (h2 : body (l.length : Int) = some (.done (-1))) : loop body 0 = some (firstS l p) := by
  unfold Lo at hl
  refine (loop_find l (fun i => (i : Int)) p (fun i => (i : Int)) (-1) (fun i x hx => ?_) h2).trans ?_
  · have := at_lt hx
    rw [h1 i x hx, W_succ (by omega)]
  · rfl
theorem loop_has {α R : Type} {body : Int → Option (Lp Int R)} (l : List α) (p : α → Bool) (r1 r2 : R) (hl : Lo l) (h1 : ∀ (i : Nat) x, l[i]? = some x → body (i : Int) = some (bif p x then .done r1 else .next (W ((i : Int) + 1)))) (h2 : body (l.length : Int) = some (.done r2)) : loop body 0 = some (bif l.any p then r1 else r2) := by
  unfold Lo at hl
  refine loop_any l (fun i => (i : Int)) p r1 r2 (fun i x hx => ?_) h2
  have := at_lt hx
  rw [h1 i x hx, W_succ (by omega)]
theorem loop_fold {α S R : Type} {body : S × Int → Option (Lp (S × Int) R)} (l : List α) (f : S → α → S) (s : S) (r : S → R) (hl : Lo l) (h1 : ∀ (i : Nat) x s, l[i]? = some x → body (s, (i : Int)) = some (.next (f s x, W ((i : Int) + 1)))) (h2 : ∀ s, body (s, (l.length : Int)) = some (.done (r s))) : loop body (s, 0) = some (r (l.foldl f s)) := by
  unfold Lo at hl
  refine loop_path l.length (fun i => ((l.take i).foldl f s, (i : Int))) _ (fun i hi => ?_) ?_
  · obtain ⟨x, hx⟩ : ∃ x, l[i]? = some x := ⟨_, List.getElem?_eq_getElem hi⟩
    show body ((l.take i).foldl f s, (i : Int)) = _
    rw [h1 i x _ hx, W_succ (by omega), take_succ' hx, List.foldl_append]
    rfl
  · show body ((l.take l.length).foldl f s, (l.length : Int)) = _
    rw [h2, List.take_length]
end Go.Proofs.Ytmihjbejflcgkaa
