/- Searches in lists, as plain functions. No program is in sight here. -/
import Derived.Test.YtlcfdnjokgbccaaL1
set_option linter.unusedVariables false
set_option linter.unusedSimpArgs false
namespace Go.Proofs.Ytlcfdnjokgbccaa
open Go
def Lo {α : Type} (l : List α) : Prop := l.length < 4611686018427387904
theorem loop_fold {α S R : Type} {body : S × Int → Option (Lp (S × Int) R)} (l : List α) (f : S → α → S) (s : S) (r : S → R) (hl : Lo l) (h1 : ∀ (i : Nat) x s, l[i]? = some x → body (s, (i : Int)) = some (.next (f s x, W ((i : Int) + 1)))) (h2 : ∀ s, body (s, (l.length : Int)) = some (.done (r s))) : loop body (s, 0) = some (r (l.foldl f s)) := by
  unfold Lo at hl
  refine loop_path l.length (fun i => ((l.take i).foldl f s, (i : Int))) _ (fun i hi => ?_) ?_
  · obtain ⟨x, hx⟩ : ∃ x, l[i]? = some x := ⟨_, List.getElem?_eq_getElem hi⟩
    show body ((l.take i).foldl f s, (i : Int)) = _
    rw [h1 i x _ hx, W_succ (by omega), take_succ' hx, List.foldl_append]
    rfl
  · show body ((l.take l.length).foldl f s, (l.length : Int)) = _
    rw [h2, List.take_length]
end Go.Proofs.Ytlcfdnjokgbccaa
