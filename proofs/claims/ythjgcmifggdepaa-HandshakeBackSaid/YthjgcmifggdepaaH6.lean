/- The walks: numbers of two and of four bytes. -/
import Derived.Test.YthjgcmifggdepaaH5
set_option linter.unusedSimpArgs false
set_option linter.unusedVariables false
namespace Go.Proofs.Ythjgcmifggdepaa
open Go.RowKit

theorem or_low (k q y : Nat) (hy : y < 2 ^ k) : (q * 2 ^ k) ||| y = q * 2 ^ k + y := by
  have := Nat.shiftLeft_add_eq_or_of_lt (i := k) (b := y) hy q
  rw [Nat.shiftLeft_eq] at this
  exact this.symm
theorem bv_or {n : Nat} (hn : n ≤ 64) (a y : Nat) (ha : a < 2 ^ n) (hy : y < 2 ^ n) : (BitVec.ofInt n (a : Int) ||| BitVec.ofInt n (y : Int)).toNat = a ||| y := by
  rw [BitVec.toNat_or, BitVec.toNat_ofInt, BitVec.toNat_ofInt]
  have e : ∀ z : Nat, z < 2 ^ n → ((z : Int) % ((2 ^ n : Nat) : Int)).toNat = z := fun z hz => by
    rw [Int.emod_eq_of_lt (by omega) (by omega)]; simp
  rw [e a ha, e y hy]
/-- '<<' and '|' put bytes side by side. -/
theorem or_i64 (k q y : Nat) (hy : y < 2 ^ k) (h : q * 2 ^ k + y < 4611686018427387904) : bits .or .i64 ((q * 2 ^ k : Nat) : Int) (y : Int) = ((q * 2 ^ k + y : Nat) : Int) := by
  show IntKind.i64.wrap ((BitVec.ofInt 64 _ ||| BitVec.ofInt 64 _).toNat : Int) = _
  rw [bv_or (by omega) _ _ (by have : (2 : Nat) ^ 64 = 18446744073709551616 := by decide
                               omega) (by have : (2 : Nat) ^ 64 = 18446744073709551616 := by decide
                                          omega), or_low k q y hy, IntKind.wrap_i64]
  omega
theorem or_u32 (k q y : Nat) (hy : y < 2 ^ k) (h : q * 2 ^ k + y < 4294967296) : bits .or .u32 ((q * 2 ^ k : Nat) : Int) (y : Int) = ((q * 2 ^ k + y : Nat) : Int) := by
  show IntKind.u32.wrap ((BitVec.ofInt 32 _ ||| BitVec.ofInt 32 _).toNat : Int) = _
  rw [bv_or (by omega) _ _ (by have : (2 : Nat) ^ 32 = 4294967296 := by decide
                               omega) (by have : (2 : Nat) ^ 32 = 4294967296 := by decide
                                          omega), or_low k q y hy, IntKind.wrap_u32]
  omega
theorem or8 (q y : Nat) (hy : y < 256) (h : q * 256 + y < 4611686018427387904) : bits .or .i64 ((q : Int) * 256) (y : Int) = (q : Int) * 256 + y := by
  have := or_i64 8 q y (by simpa using hy) (by simpa using h)
  simpa using this
theorem or8u (q y : Nat) (hy : y < 256) (h : q * 256 + y < 4294967296) : bits .or .u32 ((q : Int) * 256) (y : Int) = (q : Int) * 256 + y := by
  have := or_u32 8 q y (by simpa using hy) (by simpa using h)
  simpa using this

set_option maxRecDepth 100000 in
set_option maxHeartbeats 800000 in
theorem num2_any (x y : UInt8) (S : Nat → Prop) (A : Option Addr) (c : Nat) (w : World) (h : RdC w S (.sl 1 (bytesC [x, y])) (.slice A 2 c)) :
    Calls Try.prog 37 #[.slice A 2 c] w fun e w' => e = .returned (.int .i64 ((x.toNat : Int) * 256 + (y.toNat : Int))) ∧ w' = w := by
  obtain ⟨ad, z, rfl, -, hz, c0⟩ := RdC.byte h (k := 0) (by omega)
  obtain ⟨ad', z', e1, -, hz', c1⟩ := RdC.byte h (k := 1) (by omega)
  injection e1 with e1
  subst e1
  simp at hz hz'
  subst hz hz'
  have x1 := x.toNat_lt
  have y1 := y.toNat_lt
  have o0 := or8 0 x.toNat x1 (by omega)
  have o1 := or8 x.toNat y.toNat y1 (by omega)
  simp at o0
  simp [Addr.add] at c0 c1
  go_enter Try.func37, Try.ntmps37
  go_wp2
  go_loop [3, 8] (fun s i => (i = .int .i64 0 ∧ s = .int .i64 0) ∨ (i = .int .i64 1 ∧ s = .int .i64 (x.toNat : Int)) ∨ (i = .int .i64 2 ∧ s = .int .i64 ((x.toNat : Int) * 256 + (y.toNat : Int)))) (fun _ j => 2 - (intOf j).toNat)
  case atStart => exact .inl ⟨rfl, rfl⟩
  case round =>
    rcases hrel with ⟨rfl, rfl⟩ | ⟨rfl, rfl⟩ | ⟨rfl, rfl⟩
    · go_wp2
      go_round
      case rel => exact .inr (.inl ⟨rfl, rfl⟩)
      case measure => simp [intOf]
    · go_wp2
      go_round
      case rel => exact .inr (.inr ⟨rfl, rfl⟩)
      case measure => simp [intOf]
    · go_wp2
      go_ret
      exact ⟨ret_val rfl, rfl⟩
def four8 (a b c d : UInt8) : Int := (((a.toNat : Int) * 256 + b.toNat) * 256 + c.toNat) * 256 + d.toNat
set_option maxRecDepth 100000 in
set_option maxHeartbeats 800000 in
theorem num4_any (x y z u : UInt8) (S : Nat → Prop) (A : Option Addr) (c : Nat) (w : World) (h : RdC w S (.sl 1 (bytesC [x, y, z, u])) (.slice A 4 c)) :
    Calls Try.prog 44 #[.slice A 4 c] w fun e w' => e = .returned (.int .u32 (four8 x y z u)) ∧ w' = w := by
  obtain ⟨ad, a0, rfl, -, h0, c0⟩ := RdC.byte h (k := 0) (by omega)
  obtain ⟨ad1, a1, e1, -, h1, c1⟩ := RdC.byte h (k := 1) (by omega)
  obtain ⟨ad2, a2, e2, -, h2, c2⟩ := RdC.byte h (k := 2) (by omega)
  obtain ⟨ad3, a3, e3, -, h3, c3⟩ := RdC.byte h (k := 3) (by omega)
  injection e1 with e1
  injection e2 with e2
  injection e3 with e3
  subst e1 e2 e3
  simp at h0 h1 h2 h3
  subst h0 h1 h2 h3
  have x1 := x.toNat_lt
  have y1 := y.toNat_lt
  have z1 := z.toNat_lt
  have u1 := u.toNat_lt
  have o0 := or8u 0 x.toNat x1 (by omega)
  have o1 := or8u x.toNat y.toNat y1 (by omega)
  have o2 := or8u (x.toNat * 256 + y.toNat) z.toNat z1 (by omega)
  have o3 := or8u ((x.toNat * 256 + y.toNat) * 256 + z.toNat) u.toNat u1 (by omega)
  simp at o0
  push_cast at o2 o3
  simp [Addr.add] at c0 c1 c2 c3
  unfold four8
  go_enter Try.func44, Try.ntmps44
  go_wp2
  go_loop [3, 8] (fun s i => (i = .int .i64 0 ∧ s = .int .u32 0) ∨ (i = .int .i64 1 ∧ s = .int .u32 (x.toNat : Int)) ∨ (i = .int .i64 2 ∧ s = .int .u32 ((x.toNat : Int) * 256 + (y.toNat : Int))) ∨ (i = .int .i64 3 ∧ s = .int .u32 (((x.toNat : Int) * 256 + (y.toNat : Int)) * 256 + z.toNat)) ∨ (i = .int .i64 4 ∧ s = .int .u32 ((((x.toNat : Int) * 256 + (y.toNat : Int)) * 256 + z.toNat) * 256 + u.toNat))) (fun _ j => 4 - (intOf j).toNat)
  case atStart => exact .inl ⟨rfl, rfl⟩
  case round =>
    rcases hrel with ⟨rfl, rfl⟩ | ⟨rfl, rfl⟩ | ⟨rfl, rfl⟩ | ⟨rfl, rfl⟩ | ⟨rfl, rfl⟩
    · go_wp2
      go_round
      case rel => exact .inr (.inl ⟨rfl, rfl⟩)
      case measure => simp [intOf]
    · go_wp2
      go_round
      case rel => exact .inr (.inr (.inl ⟨rfl, rfl⟩))
      case measure => simp [intOf]
    · go_wp2
      go_round
      case rel => exact .inr (.inr (.inr (.inl ⟨rfl, rfl⟩)))
      case measure => simp [intOf]
    · go_wp2
      go_round
      case rel => exact .inr (.inr (.inr (.inr ⟨rfl, rfl⟩)))
      case measure => simp [intOf]
    · go_wp2
      go_ret
      exact ⟨ret_val rfl, rfl⟩
end Go.Proofs.Ythjgcmifggdepaa
