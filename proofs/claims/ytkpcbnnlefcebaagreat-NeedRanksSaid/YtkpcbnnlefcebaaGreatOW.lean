import Derived.Test.YtkpcbnnlefcebaaGreatEE
set_option linter.unusedVariables false
set_option linter.unusedSimpArgs false
namespace Go.Proofs.YtkpcbnnlefcebaaGreat
open Go.RowKit
end Go.Proofs.YtkpcbnnlefcebaaGreat
