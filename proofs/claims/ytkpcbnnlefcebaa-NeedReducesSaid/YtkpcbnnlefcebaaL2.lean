/- Searches in lists, as plain functions. No program is in sight here. -/
import Derived.Test.YtkpcbnnlefcebaaL1
set_option linter.unusedVariables false
set_option linter.unusedSimpArgs false
namespace Go.Proofs.Ytkpcbnnlefcebaa
open Go
def Lo {α : Type} (l : List α) : Prop := l.length < 4611686018427387904
end Go.Proofs.Ytkpcbnnlefcebaa
