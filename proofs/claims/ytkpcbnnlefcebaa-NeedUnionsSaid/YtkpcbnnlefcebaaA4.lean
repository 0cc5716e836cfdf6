/- The program computes the plain functions. -/
import Derived.Test.YtkpcbnnlefcebaaT1
import Derived.Test.YtkpcbnnlefcebaaA1
import Derived.Test.YtkpcbnnlefcebaaA3
set_option linter.unusedVariables false
set_option linter.unusedSimpArgs false
set_option maxRecDepth 100000
set_option maxHeartbeats 1600000
namespace Go.Proofs.Ytkpcbnnlefcebaa
open Go.RowKit
end Go.Proofs.Ytkpcbnnlefcebaa
