/- Ascending lists: what they hold says what they are; elements put in; neighbours that are equal left out. No program is in sight here. -/
import Derived.Test.YtmbhoimeiahbaaaGreatPF
set_option linter.unusedVariables false
set_option linter.unusedSimpArgs false
namespace Go.Proofs.YtmbhoimeiahbaaaGreat
section
variable {α : Type} {lt : α → α → Bool}
end
end Go.Proofs.YtmbhoimeiahbaaaGreat
