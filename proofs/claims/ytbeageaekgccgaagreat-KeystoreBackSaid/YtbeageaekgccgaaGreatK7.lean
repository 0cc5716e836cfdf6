/- Chains: the law of any certificates. No program is in sight here. -/
import Derived.Test.YtbeageaekgccgaaGreatM1
import Derived.Test.YtbeageaekgccgaaGreatT1
import Derived.KernelRfl
set_option linter.unusedVariables false
set_option linter.unusedSimpArgs false
namespace Go.Proofs.YtbeageaekgccgaaGreat
open Go
theorem lo_small {α : Type} {l : List α} (h : l.length ≤ 1000000) : Lo l := by unfold Lo; omega
end Go.Proofs.YtbeageaekgccgaaGreat
