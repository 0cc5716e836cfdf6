/- Certificates: what the reference says is valid. No program is in sight here. -/
import Derived.Test.YtmihjbejflcgkaaK3
set_option linter.unusedVariables false
set_option linter.unusedSimpArgs false
namespace Go.Proofs.Ytmihjbejflcgkaa
open Go
end Go.Proofs.Ytmihjbejflcgkaa
