/- What bytes are elements; decode and encode. No program is in sight here. -/
import Derived.Test.YtmihjbejflcgkaaD1
set_option linter.unusedVariables false
set_option linter.unusedSimpArgs false
namespace Go.Proofs.Ytmihjbejflcgkaa
open Go
def sizeS : List UInt8 → Option (Nat × Nat)
  | [] => none
  | x :: r => if x.toNat < 128 then some (x.toNat, 1)
    else if x.toNat = 129 then match r with | y :: _ => if y.toNat < 128 then none else some (y.toNat, 2) | [] => none
    else if x.toNat = 130 then match r with | y :: z :: _ => if y.toNat = 0 then none else some (y.toNat * 256 + z.toNat, 3) | _ => none
    else none
def hdr : List UInt8 → Option (Nat × Nat × Nat)
  | [] => none
  | t :: r => if tagB t.toNat = false then none else match sizeS r with
    | none => none
    | some (n, c) => if r.length - c < n then none else some (t.toNat, 1 + c, n)
theorem lenB_1 {n : Nat} (h : n < 128) : lenB n = [UInt8.ofNat n] := by unfold lenB; rw [if_pos h]
theorem lenB_2 {n : Nat} (h : 128 ≤ n) (h2 : n < 256) : lenB n = [129, UInt8.ofNat n] := by
  have e : be n = [UInt8.ofNat n] := by rw [be_pos (by omega), show n / 256 = 0 by omega, be_0, show n % 256 = n by omega]; rfl
  unfold lenB cnt
  rw [if_neg (by omega), e]
  rfl
theorem lenB_3 {n : Nat} (h : 256 ≤ n) (h2 : n < 65536) : lenB n = [130, UInt8.ofNat (n / 256), UInt8.ofNat (n % 256)] := by
  have e : be n = [UInt8.ofNat (n / 256), UInt8.ofNat (n % 256)] := by
    rw [be_pos (by omega), be_pos (n := n / 256) (by omega), show n / 256 / 256 = 0 by omega, be_0, show n / 256 % 256 = n / 256 by omega]; rfl
  unfold lenB cnt
  rw [if_neg (by omega), e]
  rfl
end Go.Proofs.Ytmihjbejflcgkaa
