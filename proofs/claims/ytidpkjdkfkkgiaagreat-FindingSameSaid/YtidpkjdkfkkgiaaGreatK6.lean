import Derived.Test.YtidpkjdkfkkgiaaGreatK5
import Derived.Test.YtidpkjdkfkkgiaaGreatL3
set_option linter.unusedVariables false
set_option linter.unusedSimpArgs false
namespace Go.Proofs.YtidpkjdkfkkgiaaGreat
open Go
def Zk (b : List UInt8) : Int := W (b.foldl (fun s e => IntKind.wrap .u32 ((Pa .u32 s (IntKind.wrap .u32 (e.toNat : Int))) * 16777619)) 2166136261)
theorem uS (b : List UInt8) (h : Lo b) : E8 b = some (Zk b) := by
 unfold E8
 refine lN (body := fun q' => E8.l1 b q'.1 q'.2) b _ 2166136261 W h (fun i x s hx => ?_) (fun s => ?_)
 ·show E8.l1 b s (i : Int) = _
  unfold E8.l1; rw [H8 hx]
 ·show E8.l1 b s (b.length : Int) = _
  unfold E8.l1; rw [Ge]; rfl
theorem nT (v : Ah) : (nM v).1.length <= 4096 := by
 unfold nM
 split
 ·split
  ·exact Nat.zero_le _
  ·split
   ·exact Nat.zero_le _
   ·simp; omega
 ·exact Nat.zero_le _
theorem gY (c : Af) : (Nx c).1.length <= 4096 := by
 unfold Nx
 cases Gx c with
 | false => exact Nat.zero_le _
 | true => exact nT _
theorem lA (c : Af) : Lo (Nx c).1 := by
 have := gY c
 unfold Lo; omega
end Go.Proofs.YtidpkjdkfkkgiaaGreat
