/- The reference's search for a chain, and the program's: the same answer. No program is in sight here. -/
import Derived.Test.YtggimglopfdhiaaB1
set_option linter.unusedVariables false
set_option linter.unusedSimpArgs false
namespace Go.Proofs.Ytggimglopfdhiaa
open Go
section
variable {pool : List api_Certificate} {anchors hashes : List Int} {day : Int} {name : ByteArray}
theorem AllC.app {l : List api_Certificate} {c : api_Certificate} (h : AllC l) (hc : FitC c) : AllC (l ++ [c]) := fun q hq => by
  rcases List.mem_append.1 hq with hq | hq
  · exact h q hq
  · rw [List.mem_singleton.1 hq]; exact hc
theorem lo8 {α : Type} {l : List α} (h : l.length ≤ 20) : Lo l := by unfold Lo; omega
end
end Go.Proofs.Ytggimglopfdhiaa
