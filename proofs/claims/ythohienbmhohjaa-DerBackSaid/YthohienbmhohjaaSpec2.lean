/- What the functions on numbers, texts and bytes compute. No program is in sight here. -/
import Derived.Test.YthohienbmhohjaaSpec
import Derived.WalkKit
namespace Go.Proofs.Ythohienbmhohjaa
open Go.RowKit
/-! numbers -/
def strip : List UInt8 → List UInt8
  | x :: y :: r => if (x = 0 ∧ y < 128) ∨ (x = 255 ∧ 128 ≤ y) then strip (y :: r) else x :: y :: r
  | l => l
/-- The first k of the eight bytes of a number, the highest first. -/
def beK (n : Int) (k : Nat) : List UInt8 := (List.range k).map fun j => UInt8.ofNat ((IntKind.u64.wrap n).toNat / 2 ^ (56 - 8 * j) % 256)
def intB (n : Int) : List UInt8 := strip (beK n 8)
def intV (n : Int) : V := .mk 2 (intB n) false []
theorem u64_wrap_pos (n : Int) : 0 ≤ IntKind.u64.wrap n ∧ IntKind.u64.wrap n < 18446744073709551616 := by
  rw [IntKind.wrap_u64]; omega
theorem bytesC_append (a b : List UInt8) : bytesC (a ++ b) = bytesC a ++ bytesC b := by simp [bytesC]
theorem beK_succ (n : Int) (k : Nat) : bytesC (beK n (k + 1)) = bytesC (beK n k) ++ [.int .u8 (IntKind.u64.wrap n / 2 ^ (56 - 8 * k) % 256)] := by
  have h := u64_wrap_pos n
  obtain ⟨m, hm⟩ := Int.eq_ofNat_of_zero_le h.1
  unfold beK
  rw [List.range_succ, List.map_append, bytesC_append, hm]
  congr 1
  simp only [List.map_cons, List.map_nil, bytesC, Int.toNat_natCast]
  have e : ((UInt8.ofNat (m / 2 ^ (56 - 8 * k) % 256)).toNat : Int) = (m : Int) / 2 ^ (56 - 8 * k) % 256 := by
    rw [UInt8.toNat_ofNat', Nat.mod_eq_of_lt (by omega)]
    simp
  rw [e]
theorem strip_le : ∀ l : List UInt8, (strip l).length ≤ l.length
  | [] => by simp [strip]
  | [_] => by simp [strip]
  | x :: y :: r => by
    rw [strip]
    split
    · have := strip_le (y :: r); simp at this ⊢; omega
    · simp

end Go.Proofs.Ythohienbmhohjaa
