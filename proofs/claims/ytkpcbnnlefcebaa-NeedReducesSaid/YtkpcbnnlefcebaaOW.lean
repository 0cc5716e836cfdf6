/- What is known of data that came in: ranges of numbers, lengths of texts and slices. -/
import Derived.Test.YtkpcbnnlefcebaaEE
set_option linter.unusedVariables false
set_option linter.unusedSimpArgs false
namespace Go.Proofs.Ytkpcbnnlefcebaa
open Go.RowKit
end Go.Proofs.Ytkpcbnnlefcebaa
