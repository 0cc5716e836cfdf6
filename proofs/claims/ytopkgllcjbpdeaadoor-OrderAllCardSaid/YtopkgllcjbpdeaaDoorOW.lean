import Derived.Test.YtopkgllcjbpdeaaDoorEE
set_option linter.unusedVariables false
set_option linter.unusedSimpArgs false
namespace Go.Proofs.YtopkgllcjbpdeaaDoor
open Go.RowKit
end Go.Proofs.YtopkgllcjbpdeaaDoor
