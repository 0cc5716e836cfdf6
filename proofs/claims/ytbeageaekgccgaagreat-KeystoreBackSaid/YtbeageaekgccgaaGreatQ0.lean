/- Certificates: their bytes are within the limits. No program is in sight here. -/
import Derived.Test.YtbeageaekgccgaaGreatR3
set_option linter.unusedVariables false
set_option linter.unusedSimpArgs false
set_option maxRecDepth 100000
namespace Go.Proofs.YtbeageaekgccgaaGreat
open Go
theorem int_formed (n : Int) : (intV n).formed = true := by rw [formed_eq]; rfl
theorem text_formed (s : ByteArray) : (textV s).formed = true := by rw [formed_eq]; rfl
theorem bool_formed (b : Bool) : (boolV b).formed = true := by rw [formed_eq]; rfl
theorem list_formed (l : List api_Value) : (listV l).formed = formedAll l := by rw [formed_eq]; rfl
theorem use_formed (u : api_Use) : (useV u).formed = true := by
  unfold useV
  rw [list_formed, formedAll, int_formed, formedAll, int_formed, formedAll]; rfl
theorem texts_formed (l : List ByteArray) : formedAll (l.map textV) = true := by
  induction l with
  | nil => rw [List.map_nil, formedAll]
  | cons s l ih => rw [List.map_cons, formedAll, text_formed, ih]; rfl
theorem body_formed (c : api_Certificate) : (bodyV c).formed = true := by
  unfold bodyV bodyL
  rw [list_formed]
  simp only [formedAll, int_formed, text_formed, use_formed, bool_formed, list_formed, texts_formed, Bool.and_self]
end Go.Proofs.YtbeageaekgccgaaGreat
