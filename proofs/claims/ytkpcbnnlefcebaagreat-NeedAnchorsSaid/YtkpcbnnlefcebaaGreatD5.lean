/- Package der and its reference write numbers alike. No program is in sight here. -/
import Derived.Test.YtkpcbnnlefcebaaGreatD4
set_option linter.unusedVariables false
set_option linter.unusedSimpArgs false
namespace Go.Proofs.YtkpcbnnlefcebaaGreat
open Go
end Go.Proofs.YtkpcbnnlefcebaaGreat
