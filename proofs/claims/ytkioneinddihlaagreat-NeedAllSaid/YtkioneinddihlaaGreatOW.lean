import Derived.Test.YtkioneinddihlaaGreatEE
set_option linter.unusedVariables false
set_option linter.unusedSimpArgs false
namespace Go.Proofs.YtkioneinddihlaaGreat
open Go.RowKit
end Go.Proofs.YtkioneinddihlaaGreat
