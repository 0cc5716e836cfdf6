/- Chains: the program's answer is the reference's. No program is in sight here. -/
import Derived.Test.YtmihjbejflcgkaaK5
import Derived.Test.YtmihjbejflcgkaaL3
set_option linter.unusedVariables false
set_option linter.unusedSimpArgs false
namespace Go.Proofs.Ytmihjbejflcgkaa
open Go
def sumS (b : List UInt8) : Int := W (b.foldl (fun s e => IntKind.wrap .u32 ((xorK .u32 s (IntKind.wrap .u32 (e.toNat : Int))) * 16777619)) 2166136261)
theorem cat_Sum (b : List UInt8) (h : Lo b) : g_certificate_Sum b = some (sumS b) := by
  unfold g_certificate_Sum
  refine loop_fold (body := fun q' => g_certificate_Sum.l1 b q'.1 q'.2) b _ 2166136261 W h (fun i x s hx => ?_) (fun s => ?_)
  · show g_certificate_Sum.l1 b s (i : Int) = _
    unfold g_certificate_Sum.l1; rw [for_in hx]
  · show g_certificate_Sum.l1 b s (b.length : Int) = _
    unfold g_certificate_Sum.l1; rw [for_out]; rfl
theorem ref_Sum (b : List UInt8) (h : Lo b) : g_ref03_Sum b = some (sumS b) := by
  unfold g_ref03_Sum
  refine loop_fold (body := fun q' => g_ref03_Sum.l1 b q'.1 q'.2) b _ 2166136261 W h (fun i x s hx => ?_) (fun s => ?_)
  · show g_ref03_Sum.l1 b s (i : Int) = _
    unfold g_ref03_Sum.l1; rw [for_in hx]
  · show g_ref03_Sum.l1 b s (b.length : Int) = _
    unfold g_ref03_Sum.l1; rw [for_out]; rfl
theorem eq_comm_d {α : Type} [DecidableEq α] (a b : α) : decide (a = b) = decide (b = a) := by
  by_cases h : a = b
  · rw [decide_eq_true h, decide_eq_true h.symm]
  · rw [decide_eq_false h, decide_eq_false fun e => h e.symm]
theorem ref_Has (s : List Int) (v : Int) (h : Lo s) : g_ref02_Has s v = some (s.any fun e => decide (v = e)) := by
  unfold g_ref02_Has
  refine (loop_has s (fun e => decide (v = e)) true false h (fun i x hx => ?_) ?_).trans ?_
  · show g_ref02_Has.l1 _ _ _ = _; unfold g_ref02_Has.l1; rw [for_in hx, eq_comm_d]; cases decide (v = x) <;> rfl
  · show g_ref02_Has.l1 _ _ _ = _; unfold g_ref02_Has.l1; rw [for_out]; rfl
  · cases s.any fun e => decide (v = e) <;> rfl
end Go.Proofs.Ytmihjbejflcgkaa
