/- Package der and its reference write elements alike. No program is in sight here. -/
import Derived.Test.YtoekocjflclojaaGreatD5
set_option linter.unusedVariables false
set_option linter.unusedSimpArgs false
namespace Go.Proofs.YtoekocjflclojaaGreat
open Go
end Go.Proofs.YtoekocjflclojaaGreat
