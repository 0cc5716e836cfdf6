/- What is known of data that came in: ranges of numbers, lengths of texts and slices. -/
import Derived.Test.YtfkgbfhpibiheaaEE
set_option linter.unusedVariables false
set_option linter.unusedSimpArgs false
namespace Go.Proofs.Ytfkgbfhpibiheaa
open Go.RowKit
end Go.Proofs.Ytfkgbfhpibiheaa
