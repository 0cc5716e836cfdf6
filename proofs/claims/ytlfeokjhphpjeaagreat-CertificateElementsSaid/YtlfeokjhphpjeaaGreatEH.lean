import Derived.Test.YtlfeokjhphpjeaaGreatEF
import Derived.ChangeKeysEq
set_option linter.unusedVariables false
set_option linter.unusedSimpArgs false
namespace Go.Proofs.YtlfeokjhphpjeaaGreat
open Go.RowKit
section
variable {P:Program} {np tk:Nat} {ty:TypeId} {env:X8} {α:Type} {f:α->List C} {t e sz bytes:Nat}
end
section
variable {P:Program} {np tk:Nat} {ty:TypeId} {env:X8} {κ ν:Type} [DecidableEq κ] {f:κ->Value} {g:ν->Value} {t kt vt k:Nat} {x i:Operand} {b bk bv:Option LB} {kd vd:DV} {l:List (κ×ν)} {key:κ} {z v:ν}
end
end Go.Proofs.YtlfeokjhphpjeaaGreat
