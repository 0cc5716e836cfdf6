/- Sums of bytes, as a machine's words. No program is in sight here. -/
import Derived.Test.YtmbhoimeiahbaaaGreatK6
set_option linter.unusedVariables false
set_option linter.unusedSimpArgs false
namespace Go.Proofs.YtmbhoimeiahbaaaGreat
open Go
def stepB (s : BitVec 32) (e : UInt8) : BitVec 32 := (s ^^^ BitVec.ofNat 32 e.toNat) * 16777619#32
theorem step_eq (s : BitVec 32) (e : UInt8) : IntKind.wrap .u32 ((xorK .u32 (s.toNat : Int) (IntKind.wrap .u32 (e.toNat : Int))) * 16777619) = ((stepB s e).toNat : Int) := by
  have he := e.toNat_lt
  have hx := (s ^^^ BitVec.ofNat 32 e.toNat).isLt
  have h2 : xorK .u32 (s.toNat : Int) (IntKind.wrap .u32 (e.toNat : Int)) = ((s ^^^ BitVec.ofNat 32 e.toNat).toNat : Int) := by
    have h1 : IntKind.wrap .u32 (e.toNat : Int) = (e.toNat : Int) := by rw [IntKind.wrap_u32]; omega
    rw [h1]
    show IntKind.u32.wrap ((BitVec.ofInt 32 (s.toNat : Int) ^^^ BitVec.ofInt 32 (e.toNat : Int)).toNat : Int) = _
    rw [BitVec.ofInt_natCast, BitVec.ofInt_natCast]
    have : BitVec.ofNat 32 s.toNat = s := BitVec.eq_of_toNat_eq (by rw [BitVec.toNat_ofNat]; exact Nat.mod_eq_of_lt s.isLt)
    rw [this, IntKind.wrap_u32]
    omega
  rw [h2]
  unfold stepB
  rw [BitVec.toNat_mul, IntKind.wrap_u32]
  have : (16777619#32).toNat = 16777619 := rfl
  rw [this]
  omega
def sumB (b : List UInt8) : BitVec 32 := b.foldl stepB 2166136261#32
theorem fold_step : ∀ (b : List UInt8) (s : BitVec 32), b.foldl (fun (s : Int) (e : UInt8) => IntKind.wrap .u32 ((xorK .u32 s (IntKind.wrap .u32 (e.toNat : Int))) * 16777619)) (s.toNat : Int) = ((b.foldl stepB s).toNat : Int)
  | [], _ => rfl
  | e :: b, s => by rw [List.foldl_cons, step_eq, fold_step b]; rfl
theorem sumS_eq (b : List UInt8) : sumS b = ((sumB b).toNat : Int) := by
  have := fold_step b 2166136261#32
  rw [show ((2166136261#32).toNat : Int) = 2166136261 from rfl] at this
  unfold sumS
  rw [this]
  have h2 := (b.foldl stepB 2166136261#32).isLt
  exact W_id (by omega)
theorem sumS_range (b : List UInt8) : 0 ≤ sumS b ∧ sumS b < 4294967296 := by
  have := (sumB b).isLt
  rw [sumS_eq]; omega
end Go.Proofs.YtmbhoimeiahbaaaGreat
