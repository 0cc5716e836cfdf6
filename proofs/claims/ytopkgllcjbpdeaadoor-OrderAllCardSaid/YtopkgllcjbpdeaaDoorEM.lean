import Derived.Test.YtopkgllcjbpdeaaDoorEF
import Derived.Test.YtopkgllcjbpdeaaDoorEH
import Derived.Test.YtopkgllcjbpdeaaDoorPF
set_option linter.unusedVariables false
set_option linter.unusedSimpArgs false
namespace Go.Proofs.YtopkgllcjbpdeaaDoor
open Go.RowKit
end Go.Proofs.YtopkgllcjbpdeaaDoor
