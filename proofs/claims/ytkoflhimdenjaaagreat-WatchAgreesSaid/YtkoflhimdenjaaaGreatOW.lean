import Derived.Test.YtkoflhimdenjaaaGreatEE
set_option linter.unusedVariables false
set_option linter.unusedSimpArgs false
namespace Go.Proofs.YtkoflhimdenjaaaGreat
open Go.RowKit
end Go.Proofs.YtkoflhimdenjaaaGreat
