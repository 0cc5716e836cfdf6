import Derived.Test.YtkoflhimdenjaaaGreatK5
import Derived.Test.YtkoflhimdenjaaaGreatL3
set_option linter.unusedVariables false
set_option linter.unusedSimpArgs false
namespace Go.Proofs.YtkoflhimdenjaaaGreat
open Go
def Zz (b : List UInt8) : Int := W (b.foldl (fun s e => IntKind.wrap .u32 ((Ow .u32 s (IntKind.wrap .u32 (e.toNat : Int))) * 16777619)) 2166136261)
theorem rC (b : List UInt8) (h : Lo b) : En b = some (Zz b) := by
 unfold En
 refine kY (body := fun q' => En.l1 b q'.1 q'.2) b _ 2166136261 W h (fun i x s hx => ?_) (fun s => ?_)
 ·show En.l1 b s (i : Int) = _
  unfold En.l1; rw [H7 hx]
 ·show En.l1 b s (b.length : Int) = _
  unfold En.l1; rw [E9]; rfl
theorem pG (v : Ae) : (qE v).1.length <= 4096 := by
 unfold qE
 split
 ·split
  ·exact Nat.zero_le _
  ·split
   ·exact Nat.zero_le _
   ·simp; omega
 ·exact Nat.zero_le _
theorem fX (c : Ai) : (N3 c).1.length <= 4096 := by
 unfold N3
 cases G5 c with
 | false => exact Nat.zero_le _
 | true => exact pG _
theorem jH (c : Ai) : Lo (N3 c).1 := by
 have := fX c
 unfold Lo; omega
end Go.Proofs.YtkoflhimdenjaaaGreat
