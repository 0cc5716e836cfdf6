/- Certificates: what the reference says is valid. No program is in sight here. -/
import Derived.Test.YtoekocjflclojaaGreatK3
set_option linter.unusedVariables false
set_option linter.unusedSimpArgs false
namespace Go.Proofs.YtoekocjflclojaaGreat
open Go
end Go.Proofs.YtoekocjflclojaaGreat
