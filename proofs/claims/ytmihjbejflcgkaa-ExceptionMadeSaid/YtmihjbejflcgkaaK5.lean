/- Certificates: the element that is signed. No program is in sight here. -/
import Derived.Test.YtmihjbejflcgkaaK4
import Derived.Test.YtmihjbejflcgkaaD7
set_option linter.unusedVariables false
set_option linter.unusedSimpArgs false
namespace Go.Proofs.Ytmihjbejflcgkaa
open Go
def textV (s : ByteArray) : api_Value := .mk 12 (toB s) false []
def listV (l : List api_Value) : api_Value := .mk 48 [] true l
theorem text_sz (s : ByteArray) : (textV s).sz = s.size + 1 := by
  unfold textV
  rw [sz_eq]
  show (toB s).length + szs [] + 1 = _
  rw [toB_len, szs]
theorem list_sz (l : List api_Value) : (listV l).sz = szs l + 1 := by
  unfold listV
  rw [sz_eq]
  show 0 + szs l + 1 = _
  omega
end Go.Proofs.Ytmihjbejflcgkaa
