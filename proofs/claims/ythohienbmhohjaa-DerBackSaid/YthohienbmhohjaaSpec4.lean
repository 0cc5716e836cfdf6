/- A number out of its bytes. No program is in sight here. -/
import Derived.Test.YthohienbmhohjaaSpec3
namespace Go.Proofs.Ythohienbmhohjaa
open Go.RowKit

def foldU (a : Int) (l : List UInt8) : Int := l.foldl (fun a x => a * 256 + (x.toNat : Int)) a
def sgn (x : UInt8) : Int := if 128 ≤ (x.toNat : Int) then -1 else 0
theorem foldU_succ {a : Int} {l : List UInt8} {k : Nat} {y : UInt8} (h : l[k]? = some y) : foldU a (l.take (k + 1)) = foldU a (l.take k) * 256 + (y.toNat : Int) := by
  obtain ⟨hk, e⟩ := List.getElem?_eq_some_iff.1 h
  rw [List.take_succ_eq_append_getElem hk, foldU, List.foldl_append, e]
  rfl

theorem or_low (a y : Nat) (h : a % 256 = 0) (hy : y < 256) : a ||| y = a + y := by
  obtain ⟨q, rfl⟩ : ∃ q, a = 256 * q := ⟨a / 256, by omega⟩
  have := Nat.shiftLeft_add_eq_or_of_lt (i := 8) (b := y) (by simpa using hy) q
  rw [Nat.shiftLeft_eq] at this
  rw [Nat.mul_comm 256 q]
  simpa using this.symm
theorem orN (z : Int) (y : Nat) (hy : y < 256) : (((BitVec.ofInt 64 (z * 256) ||| BitVec.ofInt 64 (y : Int)).toNat : Nat) : Int) = (z * 256 + y) % 18446744073709551616 := by
  rw [BitVec.toNat_or, BitVec.toNat_ofInt, BitVec.toNat_ofInt]
  have e1 : (((2 ^ 64 : Nat) : Int)) = 18446744073709551616 := by decide
  rw [e1]
  have h1 : 0 ≤ z * 256 % 18446744073709551616 ∧ z * 256 % 18446744073709551616 < 18446744073709551616 := by omega
  have h2 : ((y : Int) % 18446744073709551616).toNat = y := by omega
  rw [h2, or_low _ _ (by omega) hy]
  omega
theorem ofInt_wrap_u (z : Int) : BitVec.ofInt 64 (IntKind.u64.wrap z) = BitVec.ofInt 64 z := by
  apply BitVec.eq_of_toNat_eq
  rw [BitVec.toNat_ofInt, BitVec.toNat_ofInt, IntKind.wrap_u64]
  have e1 : (((2 ^ 64 : Nat) : Int)) = 18446744073709551616 := by decide
  rw [e1]
  omega
theorem ofInt_wrap_i (z : Int) : BitVec.ofInt 64 (IntKind.i64.wrap z) = BitVec.ofInt 64 z := by
  apply BitVec.eq_of_toNat_eq
  rw [BitVec.toNat_ofInt, BitVec.toNat_ofInt, IntKind.wrap_i64]
  have e1 : (((2 ^ 64 : Nat) : Int)) = 18446744073709551616 := by decide
  rw [e1]
  omega
theorem mul_wrap_u (z : Int) : IntKind.u64.wrap (IntKind.u64.wrap z * 256) = IntKind.u64.wrap (z * 256) := by simp only [IntKind.wrap_u64]; omega
theorem mul_wrap_i (z : Int) : IntKind.i64.wrap (IntKind.i64.wrap z * 256) = IntKind.i64.wrap (z * 256) := by simp only [IntKind.wrap_i64]; omega
theorem or_u (z : Int) (y : UInt8) : bits .or .u64 (IntKind.u64.wrap (IntKind.u64.wrap z * 256)) (IntKind.u64.wrap (y.toNat : Int)) = IntKind.u64.wrap (z * 256 + y.toNat) := by
  show IntKind.u64.wrap ((BitVec.ofInt 64 _ ||| BitVec.ofInt 64 _).toNat : Int) = _
  rw [mul_wrap_u, ofInt_wrap_u, ofInt_wrap_u, orN z _ y.toNat_lt]
  simp only [IntKind.wrap_u64]; omega
theorem or_i (z : Int) (y : UInt8) : bits .or .i64 (IntKind.i64.wrap (IntKind.i64.wrap z * 256)) (y.toNat : Int) = IntKind.i64.wrap (z * 256 + y.toNat) := by
  show IntKind.i64.wrap ((BitVec.ofInt 64 _ ||| BitVec.ofInt 64 _).toNat : Int) = _
  rw [mul_wrap_i, ofInt_wrap_i, orN z _ y.toNat_lt]
  simp only [IntKind.wrap_i64]; omega
/-- What the bytes of a number say. -/
def numOf : List UInt8 → Int
  | [] => 0
  | x :: r => IntKind.i64.wrap (foldU (sgn x) (x :: r))
def intOk : V → Bool | .mk t b n es => plainB (.mk t b n es) 2 && decide (1 ≤ b.length ∧ b.length ≤ 8) && (intB (numOf b) == b)
theorem intOk_eq (t : Int) (b : List UInt8) (n : Bool) (es : List V) : intOk (.mk t b n es) = (plainB (.mk t b n es) 2 && decide (1 ≤ b.length ∧ b.length ≤ 8) && (intB (numOf b) == b)) := rfl
theorem intOk_no {d : V} (h : plainB d 2 = false) : intOk d = false := by obtain ⟨t, b, n, es⟩ := d; rw [intOk_eq, h]; rfl
theorem intOk_len {t : Int} {b : List UInt8} {n : Bool} {es : List V} {nb : Nat} (h : Hid (b.length = nb)) (h0 : nb < 1 ∨ 8 < nb) : intOk (.mk t b n es) = false := by
  rw [intOk_eq, h.out]
  have : decide (1 ≤ nb ∧ nb ≤ 8) = false := by simp; omega
  rw [this]; simp
theorem intOk_yes {t : Int} {b : List UInt8} {n : Bool} {es : List V} {nb : Nat} (h : Hid (b.length = nb)) (h0 : 1 ≤ nb ∧ nb ≤ 8) (hp : plainB (.mk t b n es) 2 = true) : intOk (.mk t b n es) = (intB (numOf b) == b) := by
  rw [intOk_eq, h.out, hp]
  have : decide (1 ≤ nb ∧ nb ≤ 8) = true := by simp; omega
  rw [this]; simp
theorem i64_of_u64 (z : Int) : IntKind.i64.wrap (IntKind.u64.wrap z) = IntKind.i64.wrap z := by simp only [IntKind.wrap_u64, IntKind.wrap_i64]; omega
end Go.Proofs.Ythohienbmhohjaa
