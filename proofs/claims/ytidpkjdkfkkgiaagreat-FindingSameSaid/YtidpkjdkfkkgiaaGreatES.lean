import Derived.Test.YtidpkjdkfkkgiaaGreatEP
set_option autoImplicit false
set_option linter.unusedVariables false
set_option linter.unusedSimpArgs false
namespace Go.Proofs.YtidpkjdkfkkgiaaGreat
open Go
end Go.Proofs.YtidpkjdkfkkgiaaGreat
