import Derived.Test.YtkoflhimdenjaaaGreatF1
import Derived.Test.YtkoflhimdenjaaaGreatK4
import Derived.Test.YtkoflhimdenjaaaGreatM1
set_option autoImplicit false
set_option linter.unusedVariables false
set_option linter.unusedSimpArgs false
namespace Go.Proofs.YtkoflhimdenjaaaGreat
open Go
structure Tk (f : Aa) : Prop where
 host : f.Host.size <= 9223372036854775807
 subj : f.Subject.size <= 9223372036854775807
 text : f.Text.size <= 9223372036854775807
end Go.Proofs.YtkoflhimdenjaaaGreat
