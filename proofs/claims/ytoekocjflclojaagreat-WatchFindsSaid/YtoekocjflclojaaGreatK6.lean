/- Chains: the program's answer is the reference's. No program is in sight here. -/
import Derived.Test.YtoekocjflclojaaGreatK5
import Derived.Test.YtoekocjflclojaaGreatL2
set_option linter.unusedVariables false
set_option linter.unusedSimpArgs false
namespace Go.Proofs.YtoekocjflclojaaGreat
open Go
theorem sl_Index_int (s : List Int) (v : Int) (h : Lo s) : g_slices_Index_int s v = some (firstS s fun e => decide (v = e)) := by
  unfold g_slices_Index_int
  refine loop_first s _ h (fun i x hx => ?_) ?_ <;> show g_slices_Index_int.l1 _ _ _ = _ <;> unfold g_slices_Index_int.l1
  · rw [for_in hx]; cases decide (v = x) <;> rfl
  · rw [for_out]; rfl
theorem sl_Contains_int (s : List Int) (v : Int) (h : Lo s) : g_slices_Contains_int s v = some (s.any fun e => decide (v = e)) := by
  unfold g_slices_Contains_int
  rw [sl_Index_int s v h, Option.bind_some, firstS_any]
end Go.Proofs.YtoekocjflclojaaGreat
