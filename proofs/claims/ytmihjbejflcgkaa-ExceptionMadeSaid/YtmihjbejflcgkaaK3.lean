/- Certificates: valid as the reference says. No program is in sight here. -/
import Derived.Test.YtmihjbejflcgkaaK2
set_option linter.unusedVariables false
set_option linter.unusedSimpArgs false
namespace Go.Proofs.Ytmihjbejflcgkaa
open Go
end Go.Proofs.Ytmihjbejflcgkaa
