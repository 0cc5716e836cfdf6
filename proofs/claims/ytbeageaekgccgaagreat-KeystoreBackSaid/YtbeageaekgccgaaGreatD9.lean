/- Elements: the number, the text, the truth value or the list of an element. No program is in sight here. -/
import Derived.Test.YtbeageaekgccgaaGreatD8
import Derived.Test.YtbeageaekgccgaaGreatK4
set_option linter.unusedVariables false
set_option linter.unusedSimpArgs false
set_option maxRecDepth 100000
namespace Go.Proofs.YtbeageaekgccgaaGreat
open Go
def foldU (a : Int) (l : List UInt8) : Int := l.foldl (fun a x => a * 256 + (x.toNat : Int)) a
def sgn (x : UInt8) : Int := if 128 ≤ (x.toNat : Int) then -1 else 0
theorem orN (z : Int) (y : Nat) (hy : y < 256) : (((BitVec.ofInt 64 (z * 256) ||| BitVec.ofInt 64 (y : Int)).toNat : Nat) : Int) = (z * 256 + y) % 18446744073709551616 := by
  rw [BitVec.toNat_or, BitVec.toNat_ofInt, BitVec.toNat_ofInt]
  have e1 : (((2 ^ 64 : Nat) : Int)) = 18446744073709551616 := by decide
  rw [e1]
  have h1 : 0 ≤ z * 256 % 18446744073709551616 ∧ z * 256 % 18446744073709551616 < 18446744073709551616 := by omega
  have h2 : ((y : Int) % 18446744073709551616).toNat = y := by omega
  rw [h2, or_low8 _ _ (by omega) hy]
  omega
theorem ofInt_wrap_u (z : Int) : BitVec.ofInt 64 (IntKind.u64.wrap z) = BitVec.ofInt 64 z := by
  apply BitVec.eq_of_toNat_eq
  rw [BitVec.toNat_ofInt, BitVec.toNat_ofInt, IntKind.wrap_u64]
  have e1 : (((2 ^ 64 : Nat) : Int)) = 18446744073709551616 := by decide
  rw [e1]
  omega
theorem mul_wrap_u (z : Int) : IntKind.u64.wrap (IntKind.u64.wrap z * 256) = IntKind.u64.wrap (z * 256) := by simp only [IntKind.wrap_u64]; omega
theorem or_u (z : Int) (y : UInt8) : orK .u64 (IntKind.u64.wrap (IntKind.u64.wrap z * 256)) (IntKind.u64.wrap (y.toNat : Int)) = IntKind.u64.wrap (z * 256 + y.toNat) := by
  show IntKind.u64.wrap ((BitVec.ofInt 64 _ ||| BitVec.ofInt 64 _).toNat : Int) = _
  rw [mul_wrap_u, ofInt_wrap_u, ofInt_wrap_u, orN z _ y.toNat_lt]
  simp only [IntKind.wrap_u64]; omega
def numOf : List UInt8 → Int
  | [] => 0
  | x :: r => IntKind.i64.wrap (foldU (sgn x) (x :: r))
theorem i64_of_u64 (z : Int) : IntKind.i64.wrap (IntKind.u64.wrap z) = IntKind.i64.wrap z := by simp only [IntKind.wrap_u64, IntKind.wrap_i64]; omega
theorem wrapW' (z : Int) : IntKind.i64.wrap z = W z := by rw [IntKind.wrap_i64]; unfold W; omega
theorem numOf_strip : ∀ l : List UInt8, numOf (strip l) = numOf l
  | [] => rfl
  | [_] => rfl
  | x :: y :: r => by
    rw [strip]
    split
    · rename_i h
      rw [numOf_strip (y :: r)]
      show IntKind.i64.wrap (foldU (sgn y) (y :: r)) = IntKind.i64.wrap (foldU (sgn x) (x :: y :: r))
      have e : foldU (sgn x) (x :: y :: r) = foldU (sgn x * 256 + (x.toNat : Int)) (y :: r) := rfl
      rw [e]
      have hs : sgn x * 256 + (x.toNat : Int) = sgn y := by
        unfold sgn
        rcases h with ⟨rfl, h⟩ | ⟨rfl, h⟩
        · have : y.toNat < 128 := h
          rw [if_neg (by decide), if_neg (by omega)]; rfl
        · have : 128 ≤ y.toNat := h
          rw [if_pos (by decide), if_pos (by omega)]; rfl
      rw [hs]
    · rfl
theorem numOf_intB (n : Int) (h1 : -9223372036854775808 ≤ n) (h2 : n ≤ 9223372036854775807) : numOf (intB n) = n := by
  unfold intB
  rw [numOf_strip, be8]
  show IntKind.i64.wrap (foldU (sgn (byteN n 7)) _) = n
  have e : foldU (sgn (byteN n 7)) [byteN n 7, byteN n 6, byteN n 5, byteN n 4, byteN n 3, byteN n 2, byteN n 1, byteN n 0] = sgn (byteN n 7) * 18446744073709551616 + n % 18446744073709551616 := by
    simp only [foldU, List.foldl_cons, List.foldl_nil, byteN_int]
    have d1 : n / 256 ^ 1 = n / 256 := by simp
    have d2 : n / 256 ^ 2 = n / 256 / 256 := by rw [Int.ediv_ediv_of_nonneg (by omega)]; rfl
    have d3 : n / 256 ^ 3 = n / 256 / 256 / 256 := by rw [Int.ediv_ediv_of_nonneg (by omega), Int.ediv_ediv_of_nonneg (by omega)]; rfl
    have d4 : n / 256 ^ 4 = n / 256 / 256 / 256 / 256 := by repeat rw [Int.ediv_ediv_of_nonneg (by omega)]
                                                            rfl
    have d5 : n / 256 ^ 5 = n / 256 / 256 / 256 / 256 / 256 := by repeat rw [Int.ediv_ediv_of_nonneg (by omega)]
                                                                  rfl
    have d6 : n / 256 ^ 6 = n / 256 / 256 / 256 / 256 / 256 / 256 := by repeat rw [Int.ediv_ediv_of_nonneg (by omega)]
                                                                        rfl
    have d7 : n / 256 ^ 7 = n / 256 / 256 / 256 / 256 / 256 / 256 / 256 := by repeat rw [Int.ediv_ediv_of_nonneg (by omega)]
                                                                              rfl
    have d0 : n / 256 ^ 0 = n := by simp
    rw [d0, d1, d2, d3, d4, d5, d6, d7]
    generalize sgn (byteN n 7) = s
    omega
  rw [e, IntKind.wrap_i64]
  have hs : sgn (byteN n 7) = 0 ∨ sgn (byteN n 7) = -1 := by unfold sgn; split; exact .inr rfl; exact .inl rfl
  rcases hs with h | h <;> rw [h] <;> omega
theorem strip_pos : ∀ l : List UInt8, 1 ≤ l.length → 1 ≤ (strip l).length
  | [], h => h
  | [_], _ => Nat.le_refl _
  | x :: y :: r, _ => by
    rw [strip]
    split
    · exact strip_pos (y :: r) (by simp)
    · simp
theorem intB_len (n : Int) : 1 ≤ (intB n).length ∧ (intB n).length ≤ 8 := by
  have h8 : (beK n 8).length = 8 := by simp [beK]
  have h2 := strip_le (beK n 8)
  exact ⟨strip_pos _ (by omega), by unfold intB; omega⟩
theorem ofB_inj {a b : List UInt8} : (ofB a = ofB b) ↔ a = b := by
  unfold ofB
  constructor
  · intro h
    injection h with h
    exact Array.toList_inj.2 h |> fun h => by simpa using h
  · rintro rfl; rfl
def plainV (v : api_Value) (t : Int) : Bool := decide (v.Tag = t) && (!v.Nested && decide (v.Elements.length = 0))
def asIntS (v : api_Value) : Option Int := if plainV v 2 ∧ 1 ≤ v.Bytes.length ∧ v.Bytes.length ≤ 8 ∧ intB (numOf v.Bytes) = v.Bytes then some (numOf v.Bytes) else none
def badC (c : UInt8) : Bool := decide ((c.toNat : Int) < 32) || decide (126 < (c.toNat : Int))
def asTextS (v : api_Value) : Option ByteArray := if plainV v 12 ∧ v.Bytes.any badC = false then some (ofB v.Bytes) else none
def asBoolS (v : api_Value) : Option Bool := if plainV v 1 ∧ (v.Bytes = [0] ∨ v.Bytes = [255]) then some (decide (v.Bytes = [255])) else none
def asListS (v : api_Value) : Option (List api_Value) := if v.Tag = 48 ∧ v.formed = true then some v.Elements else none
def ores {α : Type} (d : α) : Option α → α × Int
  | some a => (a, 0)
  | none => (d, 1)
theorem der_plain (v : api_Value) (t : Int) : g_der_plain v t = some (plainV v t) := by
  unfold g_der_plain plainV
  have e : decide ((v.Elements.length : Int) = 0) = decide (v.Elements.length = 0) := by
    by_cases h : v.Elements.length = 0
    · rw [decide_eq_true h, decide_eq_true (by omega)]
    · rw [decide_eq_false h, decide_eq_false (by omega)]
  rw [e]
  cases decide (v.Tag = t) <;> cases v.Nested <;> rfl
theorem shl8u (x : Int) : shlK .u64 x 8 = some (IntKind.u64.wrap (x * 256)) := rfl
theorem fold_u : ∀ (l : List UInt8) (a : Int), l.foldl (fun s (e : UInt8) => orK .u64 (IntKind.u64.wrap (s * 256)) (IntKind.u64.wrap (e.toNat : Int))) (IntKind.u64.wrap a) = IntKind.u64.wrap (foldU a l)
  | [], _ => rfl
  | x :: l, a => by
    rw [List.foldl_cons, or_u, fold_u l]; rfl
theorem asInt_end (v : api_Value) (h1 : plainV v 2 = true) (h2 : 1 ≤ v.Bytes.length) (h3 : v.Bytes.length ≤ 8) : ores 0 (asIntS v) = if intB (numOf v.Bytes) = v.Bytes then (numOf v.Bytes, 0) else (0, 1) := by
  unfold asIntS
  by_cases h : intB (numOf v.Bytes) = v.Bytes
  · rw [if_pos ⟨h1, h2, h3, h⟩, if_pos h]; rfl
  · rw [if_neg (fun q => h q.2.2.2), if_neg h]; rfl
theorem der_AsInt (v : api_Value) : g_der_AsInt v = some (ores 0 (asIntS v)) := by
  unfold g_der_AsInt
  rw [der_plain, Option.bind_some]
  have J : asIntS v = none → g_der_AsInt.j1 v true = some (ores 0 (asIntS v)) := fun h => by rw [h]; rfl
  cases hp : plainV v 2 with
  | false => exact J (by unfold asIntS; rw [if_neg (fun q => by rw [hp] at q; exact absurd q.1 (by decide))])
  | true =>
    rw [Bool.not_true, cond_false]
    by_cases h1 : v.Bytes.length < 1
    · rw [decide_eq_true (by omega)]
      exact J (by unfold asIntS; rw [if_neg (fun q => by omega)])
    rw [decide_eq_false (by omega), cond_false]
    by_cases h8 : 8 < v.Bytes.length
    · rw [decide_eq_true (by omega)]
      exact J (by unfold asIntS; rw [if_neg (fun q => by omega)])
    rw [decide_eq_false (by omega)]
    unfold g_der_AsInt.j1
    rw [cond_false]
    obtain ⟨x, r, hb⟩ : ∃ x r, v.Bytes = x :: r := by
      cases hv : v.Bytes with
      | nil => rw [hv] at h1; simp at h1
      | cons x r => exact ⟨x, r, rfl⟩
    have L : ∀ a : Int, a = sgn x → g_der_AsInt.j2 v (IntKind.u64.wrap a) = some (ores 0 (asIntS v)) := by
      intro a ha
      unfold g_der_AsInt.j2
      have fin : ∀ s, g_der_AsInt.l3 v s (v.Bytes.length : Int) = up ((g_der_Int (W s)).bind fun y_2 => (g_bytes_Equal y_2.Bytes v.Bytes).bind fun y_3 => cond (!y_3) (some (0, 1)) (some (W s, 0))) := by
        intro s; unfold g_der_AsInt.l3; rw [for_out]
      refine (loop_fold (body := fun q' => g_der_AsInt.l3 v q'.1 q'.2) v.Bytes (fun s (e : UInt8) => orK .u64 (IntKind.u64.wrap (s * 256)) (IntKind.u64.wrap (e.toNat : Int))) (IntKind.u64.wrap a) (fun s => if (intB (W s)) = v.Bytes then (W s, 0) else (0, 1)) (by unfold Lo; omega) (fun i e s he => ?_) (fun s => ?_)).trans ?_
      · show g_der_AsInt.l3 v s (i : Int) = _
        unfold g_der_AsInt.l3
        rw [for_in he, shl8u, Option.bind_some]
      · show g_der_AsInt.l3 v s (v.Bytes.length : Int) = _
        rw [fin, der_Int, Option.bind_some]
        unfold g_bytes_Equal
        rw [Option.bind_some]
        show up (cond (!decide (ofB (intB (W s)) = ofB v.Bytes)) _ _) = _
        by_cases h : intB (W s) = v.Bytes
        · rw [if_pos h, decide_eq_true (ofB_inj.2 h)]; rfl
        · rw [if_neg h, decide_eq_false (fun q => h (ofB_inj.1 q))]; rfl
      · rw [fold_u, asInt_end v hp (by omega) (by omega)]
        have e : W (IntKind.u64.wrap (foldU a v.Bytes)) = numOf v.Bytes := by
          rw [← wrapW', i64_of_u64, hb, ha]; rfl
        rw [e]
    rw [getI_z, hb]
    show cond (decide (128 ≤ (x.toNat : Int))) _ _ = _
    by_cases hx : 128 ≤ x.toNat
    · rw [decide_eq_true (by omega), cond_true]
      have := L (-1) (by unfold sgn; rw [if_pos (by omega)])
      exact this
    · rw [decide_eq_false (by omega), cond_false]
      have := L 0 (by unfold sgn; rw [if_neg (by omega)])
      exact this
theorem der_AsText (v : api_Value) (hb : Lo v.Bytes) : g_der_AsText v = some (ores ⟨#[]⟩ (asTextS v)) := by
  unfold g_der_AsText
  rw [der_plain, Option.bind_some]
  unfold asTextS
  cases hp : plainV v 12 with
  | false => rw [if_neg (by simp)]; rfl
  | true =>
    rw [Bool.not_true, cond_false]
    have e : g_slices_ContainsFunc_byte v.Bytes (fun x0 => g_der_AsText_c1 x0) = some (v.Bytes.any badC) := by
      unfold g_slices_ContainsFunc_byte g_slices_IndexFunc_byte
      have hL := loop_first (body := fun q' => g_slices_IndexFunc_byte.l1 v.Bytes (fun x0 => g_der_AsText_c1 x0) q') v.Bytes badC hb (fun i x hx => by
        unfold g_slices_IndexFunc_byte.l1 g_der_AsText_c1 badC
        rw [for_in hx]
        dsimp only
        cases decide ((x.toNat : Int) < 32) <;> cases decide (126 < (x.toNat : Int)) <;> rfl) (by unfold g_slices_IndexFunc_byte.l1; rw [for_out]; rfl)
      rw [hL, Option.bind_some, firstS_any]
    rw [e, Option.bind_some]
    cases v.Bytes.any badC with
    | true => rw [if_neg (by simp)]; rfl
    | false => rw [if_pos ⟨rfl, rfl⟩]; rfl
theorem asBool_1 {v : api_Value} (hp : plainV v 1 = true) (hl : v.Bytes.length = 1) : ∃ x, v.Bytes = [x] ∧ asBoolS v = if x.toNat = 0 then some false else if x.toNat = 255 then some true else none := by
  obtain ⟨x, hx⟩ : ∃ x, v.Bytes = [x] := by
    match h : v.Bytes with
    | [x] => exact ⟨x, rfl⟩
    | [] => rw [h] at hl; simp at hl
    | x :: y :: r => rw [h] at hl; simp at hl
  refine ⟨x, hx, ?_⟩
  unfold asBoolS
  rw [hx]
  by_cases h0 : x.toNat = 0
  · have : x = 0 := UInt8.toNat_inj.1 h0
    subst this
    rw [if_pos ⟨hp, .inl rfl⟩, if_pos h0]; rfl
  · rw [if_neg h0]
    by_cases h1 : x.toNat = 255
    · have : x = 255 := UInt8.toNat_inj.1 h1
      subst this
      rw [if_pos ⟨hp, .inr rfl⟩, if_pos h1]; rfl
    · rw [if_neg h1, if_neg]
      rintro ⟨-, h | h⟩
      · injection h with h; subst h; exact h0 rfl
      · injection h with h; subst h; exact h1 rfl
theorem asBool_n {v : api_Value} (h : plainV v 1 = false ∨ v.Bytes.length ≠ 1) : asBoolS v = none := by
  unfold asBoolS
  rw [if_neg]
  rintro ⟨h1, h2⟩
  rcases h with h | h
  · rw [h] at h1; cases h1
  · rcases h2 with h2 | h2 <;> rw [h2] at h <;> exact h rfl
theorem der_AsBool (v : api_Value) : g_der_AsBool v = some (ores false (asBoolS v)) := by
  unfold g_der_AsBool
  rw [der_plain, Option.bind_some]
  have J : asBoolS v = none → g_der_AsBool.j1 v true = some (ores false (asBoolS v)) := fun h => by rw [h]; rfl
  cases hp : plainV v 1 with
  | false => exact J (asBool_n (.inl hp))
  | true =>
    rw [Bool.not_true, cond_false]
    by_cases hl : v.Bytes.length = 1
    rotate_left
    · rw [decide_eq_false (by omega)]
      exact J (asBool_n (.inr hl))
    rw [decide_eq_true (by omega), Bool.not_true, cond_false]
    obtain ⟨x, hx, e⟩ := asBool_1 hp hl
    have hg : getI v.Bytes 0 = some x := by rw [getI_z, hx]; rfl
    unfold g_der_AsBool.j1
    rw [e, hg]
    simp only [Option.bind_some]
    by_cases h0 : x.toNat = 0
    · rw [decide_eq_true (show (x.toNat : Int) = 0 by omega), if_pos h0, decide_eq_false (show ¬ (x.toNat : Int) = 255 by omega)]; rfl
    · rw [decide_eq_false (show ¬ (x.toNat : Int) = 0 by omega), if_neg h0]
      by_cases h1 : x.toNat = 255
      · rw [decide_eq_true (show (x.toNat : Int) = 255 by omega), if_pos h1]; rfl
      · rw [decide_eq_false (show ¬ (x.toNat : Int) = 255 by omega), if_neg h1]; rfl
theorem der_AsList (v : api_Value) (h : v.sz < 1073741824) : g_der_AsList v = some (ores [] (asListS v)) := by
  unfold g_der_AsList asListS
  by_cases ht : v.Tag = 48
  · rw [decide_eq_true ht, Bool.not_true, cond_false, der_formed v h, Option.bind_some]
    cases hf : v.formed with
    | false => rw [if_neg (by simp)]; rfl
    | true =>
      have := sz_eq v
      rw [if_pos ⟨ht, rfl⟩]
      unfold g_der_AsList.j1
      rw [Bool.not_true, cond_false, der_copied _ (by omega)]; rfl
  · rw [decide_eq_false ht, if_neg (fun q => ht q.1)]; rfl
end Go.Proofs.YtbeageaekgccgaaGreat
