/- Certificates: the element that is signed. No program is in sight here. -/
import Derived.Test.YtoekocjflclojaaGreatK4
import Derived.Test.YtoekocjflclojaaGreatD7
set_option linter.unusedVariables false
set_option linter.unusedSimpArgs false
namespace Go.Proofs.YtoekocjflclojaaGreat
open Go
theorem nameS_size {s : ByteArray} (h : nameS s = true) : s.size ≤ 32 := by
  unfold nameS at h
  simp only [Bool.and_eq_true, decide_eq_true_eq] at h
  omega
end Go.Proofs.YtoekocjflclojaaGreat
