/- Package der and its reference write numbers alike. No program is in sight here. -/
import Derived.Test.YtoekocjflclojaaGreatD4
set_option linter.unusedVariables false
set_option linter.unusedSimpArgs false
namespace Go.Proofs.YtoekocjflclojaaGreat
open Go
end Go.Proofs.YtoekocjflclojaaGreat
