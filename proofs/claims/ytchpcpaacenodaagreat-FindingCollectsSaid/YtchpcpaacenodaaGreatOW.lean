import Derived.Test.YtchpcpaacenodaaGreatEE
set_option linter.unusedVariables false
set_option linter.unusedSimpArgs false
namespace Go.Proofs.YtchpcpaacenodaaGreat
open Go.RowKit
end Go.Proofs.YtchpcpaacenodaaGreat
