/- What is known of data that came in: ranges of numbers, lengths of texts and slices. -/
import Derived.Test.YtmbhoimeiahbaaaGreatEE
set_option linter.unusedVariables false
set_option linter.unusedSimpArgs false
namespace Go.Proofs.YtmbhoimeiahbaaaGreat
open Go.RowKit
end Go.Proofs.YtmbhoimeiahbaaaGreat
