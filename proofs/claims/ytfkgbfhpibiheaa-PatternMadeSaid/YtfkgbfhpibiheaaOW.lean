import Derived.Test.YtfkgbfhpibiheaaEE
set_option linter.unusedVariables false
set_option linter.unusedSimpArgs false
namespace Go.Proofs.Ytfkgbfhpibiheaa
open Go.RowKit
end Go.Proofs.Ytfkgbfhpibiheaa
