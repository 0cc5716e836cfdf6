/- Chains: the program's answer is the reference's. No program is in sight here. -/
import Derived.Test.YtbeageaekgccgaaGreatK5
import Derived.Test.YtbeageaekgccgaaGreatL3
set_option linter.unusedVariables false
set_option linter.unusedSimpArgs false
namespace Go.Proofs.YtbeageaekgccgaaGreat
open Go
def sumS (b : List UInt8) : Int := W (b.foldl (fun s e => IntKind.wrap .u32 ((xorK .u32 s (IntKind.wrap .u32 (e.toNat : Int))) * 16777619)) 2166136261)
theorem ref_Sum (b : List UInt8) (h : Lo b) : g_ref03_Sum b = some (sumS b) := by
  unfold g_ref03_Sum
  refine loop_fold (body := fun q' => g_ref03_Sum.l1 b q'.1 q'.2) b _ 2166136261 W h (fun i x s hx => ?_) (fun s => ?_)
  · show g_ref03_Sum.l1 b s (i : Int) = _
    unfold g_ref03_Sum.l1; rw [for_in hx]
  · show g_ref03_Sum.l1 b s (b.length : Int) = _
    unfold g_ref03_Sum.l1; rw [for_out]; rfl
theorem encS_len (v : api_Value) : (encS v).1.length ≤ 4096 := by
  unfold encS
  split
  · split
    · exact Nat.zero_le _
    · split
      · exact Nat.zero_le _
      · simp; omega
  · exact Nat.zero_le _
theorem bytesS_len (c : api_Certificate) : (bytesS c).1.length ≤ 4096 := by
  unfold bytesS
  cases certS c with
  | false => exact Nat.zero_le _
  | true => exact encS_len _
theorem bytesS_lo (c : api_Certificate) : Lo (bytesS c).1 := by
  have := bytesS_len c
  unfold Lo; omega
end Go.Proofs.YtbeageaekgccgaaGreat
