import Derived.Test.YtidpkjdkfkkgiaaGreatEE
set_option linter.unusedVariables false
set_option linter.unusedSimpArgs false
namespace Go.Proofs.YtidpkjdkfkkgiaaGreat
open Go.RowKit
end Go.Proofs.YtidpkjdkfkkgiaaGreat
