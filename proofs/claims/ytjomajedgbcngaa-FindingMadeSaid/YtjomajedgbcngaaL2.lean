import Derived.Test.YtjomajedgbcngaaL1
set_option linter.unusedVariables false
set_option linter.unusedSimpArgs false
namespace Go.Proofs.Ytjomajedgbcngaa
open Go
def Lo {α : Type} (l : List α) : Prop := l.length < 4611686018427387904
theorem Sv {α R : Type} {body : Int -> Option (Lp Int R)} (l : List α) (p : α -> Bool) (r1 r2 : R) (hl : Lo l) (h1 : ∀ (i : Nat) x, l[i]? = some x -> body (i : Int) = some (bif p x then .done r1 else .next (W ((i : Int) + 1)))) (h2 : body (l.length : Int) = some (.done r2)) : Cy body 0 = some (bif l.any p then r1 else r2) := by
 unfold Lo at hl
 refine Sz l (fun i => (i : Int)) p r1 r2 (fun i x hx => ?_) h2
 have := Rp hx
 rw [h1 i x hx, N5 (by omega)]
end Go.Proofs.Ytjomajedgbcngaa
