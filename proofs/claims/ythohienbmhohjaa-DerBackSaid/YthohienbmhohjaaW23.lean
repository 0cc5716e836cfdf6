/- The walk: a length, read. -/
import Derived.Test.YthohienbmhohjaaW20
import Derived.Test.YthohienbmhohjaaSpec7
import Derived.Test.YthohienbmhohjaaSpec4
namespace Go.Proofs.Ythohienbmhohjaa
open Go.RowKit

def SizeRes (r : List UInt8) (e : Ending) : Prop :=
  (∃ m k : Nat, sizeS r = some (m, k) ∧ e = .returned (.tuple #[.int .i64 m, .int .i64 k, .bool true])) ∨
  (sizeS r = none ∧ ∃ m k : Int, e = .returned (.tuple #[.int .i64 m, .int .i64 k, .bool false]) ∧ 0 ≤ m ∧ m ≤ 65535 ∧ 0 ≤ k ∧ k ≤ 3)
theorem SizeRes.yes {r : List UInt8} {v : Value} (m k : Nat) (h : sizeS r = some (m, k)) (hv : v = .tuple #[.int .i64 m, .int .i64 k, .bool true]) : SizeRes r (.returned v) := .inl ⟨m, k, h, by rw [hv]⟩
theorem SizeRes.no {r : List UInt8} {v : Value} (m k : Int) (h : sizeS r = none) (hv : v = .tuple #[.int .i64 m, .int .i64 k, .bool false]) (h1 : 0 ≤ m ∧ m ≤ 65535 ∧ 0 ≤ k ∧ k ≤ 3) : SizeRes r (.returned v) := .inr ⟨h, m, k, by rw [hv], h1⟩

theorem sizeS_small {x : UInt8} (r : List UInt8) (h : x.toNat < 128) : sizeS (x :: r) = some (x.toNat, 1) := by unfold sizeS; dsimp only; rw [if_pos h]
theorem sizeS_128 {x : UInt8} (r : List UInt8) (h : x.toNat = 128 ∨ 130 < x.toNat) : sizeS (x :: r) = none := by unfold sizeS; dsimp only; rw [if_neg (by omega), if_neg (by omega), if_neg (by omega)]
theorem sizeS_129 {x : UInt8} (r : List UInt8) (h : x.toNat = 129) : sizeS (x :: r) = match r with | y :: _ => if y.toNat < 128 then none else some (y.toNat, 2) | [] => none := by unfold sizeS; dsimp only; rw [if_neg (by omega), if_pos (by omega)]; rcases r with _ | ⟨y, r⟩ <;> rfl
theorem sizeS_130 {x : UInt8} (r : List UInt8) (h : x.toNat = 130) : sizeS (x :: r) = match r with | y :: z :: _ => if y.toNat = 0 then none else some (y.toNat * 256 + z.toNat, 3) | _ => none := by unfold sizeS; dsimp only; rw [if_neg (by omega), if_neg (by omega), if_pos (by omega)]; rcases r with _ | ⟨y, _ | ⟨z, r⟩⟩ <;> rfl

theorem or_bytes (a : Nat) (y : UInt8) (ha : a ≤ 65535) : bits .or .i64 ((a : Int) * 256) (y.toNat : Int) = (a : Int) * 256 + y.toNat := by
  have h := or_i (a : Int) y
  have hy := y.toNat_lt
  have e1 : IntKind.i64.wrap (a : Int) = a := by rw [IntKind.wrap_i64]; omega
  have e2 : IntKind.i64.wrap ((a : Int) * 256) = (a : Int) * 256 := by rw [IntKind.wrap_i64]; omega
  have e3 : IntKind.i64.wrap ((a : Int) * 256 + y.toNat) = (a : Int) * 256 + y.toNat := by rw [IntKind.wrap_i64]; omega
  rwa [e1, e2, e3] at h
theorem or_zero (y : UInt8) : bits .or .i64 0 (y.toNat : Int) = y.toNat := by have := or_bytes 0 y (by omega); simpa using this

set_option maxRecDepth 100000 in
set_option maxHeartbeats 800000 in
theorem size_any (r : List UInt8) (A : Option Addr) (n c : Nat) (w : World) (S : Nat → Prop) (h : RdC w S (.sl 1 (bytesC r)) (.slice A n c)) :
    Calls Try.prog 72 #[.slice A n c] w fun e w' => SizeRes r e ∧ w = w' := by
  obtain ⟨hl, hnc, hcap⟩ := RdC.blen h
  unfold maxLen at hcap
  by_cases h0 : n = 0
  · subst h0
    have h0 : r = [] := List.eq_nil_of_length_eq_zero hl
    subst h0
    go_enter Try.func72, Try.ntmps72
    go_wp2
    go_ret3
    exact ⟨SizeRes.no 0 0 rfl rfl (by omega), rfl⟩
  obtain ⟨ad, x, r1, rfl, -, rfl, c0⟩ := RdC.byte0 h (by omega)
  have hx := x.toNat_lt
  by_cases hs : x.toNat < 128
  · have HS := Lib.hid (sizeS_small r1 hs)
    have hs' : (x.toNat : Int) - 128 < 0 := by omega
    go_enter Try.func72, Try.ntmps72
    go_wp2
    go_ret3
    exact ⟨SizeRes.yes _ 1 HS.out rfl, rfl⟩
  by_cases hs2 : x.toNat = 128 ∨ 130 < x.toNat
  · have HS := Lib.hid (sizeS_128 r1 hs2)
    rcases hs2 with hs2 | hs2
    · rw [hs2] at c0
      go_enter Try.func72, Try.ntmps72
      go_wp2
      all_goals go_ret3
      exact ⟨SizeRes.no 0 0 HS.out rfl (by omega), rfl⟩
    · have hs3 : ¬ (x.toNat : Int) - 128 < 0 := by omega
      have hs4 : ¬ (x.toNat : Int) - 128 < 1 := by omega
      have hs5 : (2 : Int) < (x.toNat : Int) - 128 := by omega
      go_enter Try.func72, Try.ntmps72
      go_wp2
      all_goals go_ret3
      exact ⟨SizeRes.no 0 0 HS.out rfl (by omega), rfl⟩
  by_cases h129 : x.toNat = 129
  · have HS := Lib.hid (sizeS_129 r1 h129)
    rw [h129] at c0
    clear hs hs2 hx
    by_cases h1 : n = 1
    · subst h1
      have hr1 : r1 = [] := List.eq_nil_of_length_eq_zero (by simpa using hl)
      subst hr1
      go_enter Try.func72, Try.ntmps72
      go_wp2
      all_goals go_ret3
      exact ⟨SizeRes.no 0 0 HS.out rfl (by omega), rfl⟩
    obtain ⟨ad', x', y, r2, e1, e2, -, c1⟩ := RdC.two h (by omega)
    injection e1 with e1
    injection e2 with e2 e3
    subst e1 e2 e3
    have hy := y.toNat_lt
    have hn2 : 2 ≤ n := by omega
    by_cases hy0 : y.toNat = 0
    · rw [hy0] at c1
      go_enter Try.func72, Try.ntmps72
      go_wp2
      all_goals go_ret3
      exact ⟨SizeRes.no 0 0 (by rw [HS.out]; simp [hy0]) rfl (by omega), rfl⟩
    have hy1 : 0 < (y.toNat : Int) := by omega
    go_enter Try.func72, Try.ntmps72
    go_wp2
    go_loop [6, 46] (fun v i => (v = .int .i64 0 ∧ i = .int .i64 0) ∨ (v = .int .i64 y.toNat ∧ i = .int .i64 1)) (fun _ i => 2 - (intOf i).toNat)
    case atStart => exact .inl ⟨rfl, rfl⟩
    case round =>
      rcases hrel with ⟨rfl, rfl⟩ | ⟨rfl, rfl⟩
      · go_wp2
        go_round
        case rel => exact .inr ⟨by rw [or_zero], rfl⟩
        case measure => simp [intOf]
      · by_cases hy2 : y.toNat < 128
        · have hy3 : ¬ (128 : Int) ≤ (y.toNat : Int) := by omega
          go_wp2
          all_goals go_ret3
          exact ⟨SizeRes.no y.toNat 2 (by rw [HS.out]; simp [hy2]) rfl (by omega), rfl⟩
        · have hy3 : (128 : Int) ≤ (y.toNat : Int) := by omega
          go_wp2
          all_goals go_ret3
          exact ⟨SizeRes.yes y.toNat 2 (by rw [HS.out]; simp [hy2]) rfl, rfl⟩
  have h130 : x.toNat = 130 := by omega
  have HS := Lib.hid (sizeS_130 r1 h130)
  rw [h130] at c0
  clear hs hs2 hx h129
  by_cases h1 : n ≤ 2
  · have HN : Hid (sizeS (x :: r1) = none) := by
      show _ = _
      rw [HS.out]
      rcases r1 with _ | ⟨y, _ | ⟨z, r⟩⟩
      · rfl
      · rfl
      · simp at hl; omega
    go_enter Try.func72, Try.ntmps72
    go_wp2
    all_goals go_ret3
    exact ⟨SizeRes.no 0 0 HN.out rfl (by omega), rfl⟩
  obtain ⟨ad', x', y, r2, e1, e2, -, c1⟩ := RdC.two h (by omega)
  injection e1 with e1
  injection e2 with e2 e3
  subst e1 e2 e3
  obtain ⟨ad', z, e1, -, e2, c2⟩ := RdC.byte h (k := 2) (by omega)
  injection e1 with e1
  subst e1
  obtain ⟨r3, rfl⟩ : ∃ r3, r2 = z :: r3 := by
    rcases r2 with _ | ⟨z', r3⟩
    · simp at e2
    · simp at e2; exact ⟨r3, by rw [e2]⟩
  clear e2
  have c2 : w.cell? { block := ad.block, off := ad.off + 2 } = some (.int .u8 z.toNat) := by simpa [Addr.add] using c2
  have hy := y.toNat_lt
  have hz := z.toNat_lt
  have hn2 : 3 ≤ n := by omega
  by_cases hy0 : y.toNat = 0
  · rw [hy0] at c1
    go_enter Try.func72, Try.ntmps72
    go_wp2
    all_goals go_ret3
    exact ⟨SizeRes.no 0 0 (by rw [HS.out]; simp [hy0]) rfl (by omega), rfl⟩
  have hy1 : 0 < (y.toNat : Int) := by omega
  go_enter Try.func72, Try.ntmps72
  go_wp2
  go_loop [6, 46] (fun v i => (v = .int .i64 0 ∧ i = .int .i64 0) ∨ (v = .int .i64 y.toNat ∧ i = .int .i64 1) ∨ (v = .int .i64 ((y.toNat : Int) * 256 + z.toNat) ∧ i = .int .i64 2)) (fun _ i => 3 - (intOf i).toNat)
  case atStart => exact .inl ⟨rfl, rfl⟩
  case round =>
    rcases hrel with ⟨rfl, rfl⟩ | ⟨rfl, rfl⟩ | ⟨rfl, rfl⟩
    · go_wp2
      go_round
      case rel => exact .inr (.inl ⟨by rw [or_zero], rfl⟩)
      case measure => simp [intOf]
    · go_wp2
      go_round
      case rel => exact .inr (.inr ⟨by rw [or_bytes _ _ (by omega)], rfl⟩)
      case measure => simp [intOf]
    · have hy3 : (128 : Int) ≤ (y.toNat : Int) * 256 + z.toNat := by omega
      go_wp2
      all_goals go_ret3
      exact ⟨SizeRes.yes (y.toNat * 256 + z.toNat) 3 (by rw [HS.out]; simp [hy0]) rfl, rfl⟩
end Go.Proofs.Ythohienbmhohjaa
