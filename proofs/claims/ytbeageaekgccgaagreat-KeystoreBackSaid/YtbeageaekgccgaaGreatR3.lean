/- Certificates: the reference's reader. No program is in sight here. -/
import Derived.Test.YtbeageaekgccgaaGreatR2
set_option linter.unusedVariables false
set_option linter.unusedSimpArgs false
set_option maxRecDepth 100000
namespace Go.Proofs.YtbeageaekgccgaaGreat
open Go
theorem seqP_cons {α β : Type} {b : β} {x : api_Value} {t : List api_Value} {f : api_Value → Option α} : seqP (some (b, x :: t)) f = (f x).map fun a => ((b, a), t) := by
  cases h : f x <;> simp [seqP, one, h]
theorem pairS_of {v : api_Value} {l : List api_Value} (h : asListS v = some l) : pairS v = match pairQ l with
  | some (((_, a), b), []) => some (a, b)
  | _ => none := by unfold pairS; rw [h]; rfl
end Go.Proofs.YtbeageaekgccgaaGreat
