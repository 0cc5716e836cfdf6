/- Elements: formed, depth, bytes; numbers and their bytes. No program is in sight here. -/
import Derived.Test.YtmihjbejflcgkaaP1
import Derived.WalkKit
set_option linter.unusedVariables false
set_option linter.unusedSimpArgs false
namespace Go.Proofs.Ytmihjbejflcgkaa
open Go
def tagB (t : Int) : Bool := decide (1 ≤ t) && decide (t ≤ 255) && (t % 32 != 31)
def nestB (t : Int) : Bool := t / 32 % 2 == 1
mutual
def api_Value.formed : api_Value → Bool
  | .mk t b n es => tagB t && (n == nestB t) && !(n && decide (0 < b.length)) && !(!n && decide (0 < es.length)) && formedAll es
def formedAll : List api_Value → Bool
  | [] => true
  | v :: vs => v.formed && formedAll vs
end
theorem formedAll_eq : ∀ es : List api_Value, formedAll es = es.all api_Value.formed
  | [] => by simp [formedAll]
  | v :: vs => by rw [formedAll, formedAll_eq vs, List.all_cons]
mutual
def api_Value.depth : api_Value → Nat
  | .mk _ _ _ es => depthAll es + 1
def depthAll : List api_Value → Nat
  | [] => 0
  | v :: vs => max v.depth (depthAll vs)
end
theorem depthAll_append : ∀ a b : List api_Value, depthAll (a ++ b) = max (depthAll a) (depthAll b)
  | [], b => by simp [depthAll]
  | v :: vs, b => by rw [List.cons_append, depthAll, depthAll, depthAll_append vs b, Nat.max_assoc]
theorem depthAll_take_succ {es : List api_Value} {k : Nat} {d : api_Value} (h : es[k]? = some d) : depthAll (es.take (k + 1)) = max (depthAll (es.take k)) d.depth := by
  obtain ⟨hk, e⟩ := List.getElem?_eq_some_iff.1 h
  rw [List.take_succ_eq_append_getElem hk, depthAll_append, e, depthAll, depthAll, Nat.max_zero]
mutual
def api_Value.same : api_Value → api_Value → Bool
  | .mk t b n es, .mk t' b' n' es' => t == t' && n == n' && b == b' && sameAll es es'
def sameAll : List api_Value → List api_Value → Bool
  | [], [] => true
  | v :: vs, u :: us => v.same u && sameAll vs us
  | _, _ => false
end
def strip : List UInt8 → List UInt8
  | x :: y :: r => if (x = 0 ∧ y < 128) ∨ (x = 255 ∧ 128 ≤ y) then strip (y :: r) else x :: y :: r
  | l => l
def beK (n : Int) (k : Nat) : List UInt8 := (List.range k).map fun j => UInt8.ofNat ((IntKind.u64.wrap n).toNat / 2 ^ (56 - 8 * j) % 256)
def intB (n : Int) : List UInt8 := strip (beK n 8)
def intV (n : Int) : api_Value := .mk 2 (intB n) false []
theorem u64_wrap_pos (n : Int) : 0 ≤ IntKind.u64.wrap n ∧ IntKind.u64.wrap n < 18446744073709551616 := by
  rw [IntKind.wrap_u64]; omega
theorem strip_le : ∀ l : List UInt8, (strip l).length ≤ l.length
  | [] => by simp [strip]
  | [_] => by simp [strip]
  | x :: y :: r => by
    rw [strip]
    split
    · have := strip_le (y :: r); simp at this ⊢; omega
    · simp
def fits (n : Int) : Nat → Bool
  | 1 => decide (-128 ≤ n ∧ n < 128)
  | 2 => decide (-32768 ≤ n ∧ n < 32768)
  | 3 => decide (-8388608 ≤ n ∧ n < 8388608)
  | 4 => decide (-2147483648 ≤ n ∧ n < 2147483648)
  | 5 => decide (-549755813888 ≤ n ∧ n < 549755813888)
  | 6 => decide (-140737488355328 ≤ n ∧ n < 140737488355328)
  | 7 => decide (-36028797018963968 ≤ n ∧ n < 36028797018963968)
  | 8 => true
  | _ => false
def sizeI (n : Int) : Nat := if fits n 1 then 1 else if fits n 2 then 2 else if fits n 3 then 3 else if fits n 4 then 4 else if fits n 5 then 5 else if fits n 6 then 6 else if fits n 7 then 7 else 8
def byteN (n : Int) (j : Nat) : UInt8 := UInt8.ofNat ((n / 256 ^ j % 256).toNat)
theorem byteN_int (n : Int) (j : Nat) : ((byteN n j).toNat : Int) = n / 256 ^ j % 256 := by
  unfold byteN
  have h : 0 ≤ n / 256 ^ j % 256 ∧ n / 256 ^ j % 256 < 256 := by omega
  rw [UInt8.toNat_ofNat', Nat.mod_eq_of_lt (by omega)]
  omega
theorem div_mod_wrap (n : Int) (j : Nat) (hj : j ≤ 7) : (IntKind.u64.wrap n) / 2 ^ (8 * j) % 256 = n / 256 ^ j % 256 := by
  rw [IntKind.wrap_u64]
  match j, hj with
  | 0, _ => simp
  | 1, _ => simp; omega
  | 2, _ => simp; omega
  | 3, _ => simp; omega
  | 4, _ => simp; omega
  | 5, _ => simp; omega
  | 6, _ => simp; omega
  | 7, _ => simp; omega
theorem be8 (n : Int) : beK n 8 = [byteN n 7, byteN n 6, byteN n 5, byteN n 4, byteN n 3, byteN n 2, byteN n 1, byteN n 0] := by
  have key : ∀ j, j ≤ 7 → UInt8.ofNat ((IntKind.u64.wrap n).toNat / 2 ^ (8 * j) % 256) = byteN n j := by
    intro j hj
    have h := u64_wrap_pos n
    have h2 := div_mod_wrap n j hj
    unfold byteN
    rw [← h2]
    obtain ⟨m, hm⟩ := Int.eq_ofNat_of_zero_le h.1
    rw [hm]
    congr 1
  have h := fun j hj => key j hj
  unfold beK
  simp only [List.range, List.range.loop, List.map_cons, List.map_nil]
  rw [← h 7 (by omega), ← h 6 (by omega), ← h 5 (by omega), ← h 4 (by omega), ← h 3 (by omega), ← h 2 (by omega), ← h 1 (by omega), ← h 0 (by omega)]
theorem strip_if {x y : UInt8} {r : List UInt8} {c : Bool} (h : (((x.toNat : Int) = 0 ∧ (y.toNat : Int) < 128) ∨ ((x.toNat : Int) = 255 ∧ (128 : Int) ≤ y.toNat)) ↔ c = true) : strip (x :: y :: r) = if c then strip (y :: r) else x :: y :: r := by
  have h1 : ((x = 0 ∧ y < 128) ∨ (x = 255 ∧ 128 ≤ y)) ↔ (((x.toNat : Int) = 0 ∧ (y.toNat : Int) < 128) ∨ ((x.toNat : Int) = 255 ∧ (128 : Int) ≤ y.toNat)) := by
    have e0 : x = 0 ↔ (x.toNat : Int) = 0 := ⟨fun e => by rw [e]; rfl, fun e => UInt8.toNat.inj (by simp; omega)⟩
    have e1 : x = 255 ↔ (x.toNat : Int) = 255 := ⟨fun e => by rw [e]; rfl, fun e => UInt8.toNat.inj (by simp; omega)⟩
    have e2 : y < 128 ↔ (y.toNat : Int) < 128 := by rw [UInt8.lt_iff_toNat_lt]; simp; omega
    have e3 : 128 ≤ y ↔ (128 : Int) ≤ y.toNat := by rw [UInt8.le_iff_toNat_le]; simp; omega
    rw [e0, e1, e2, e3]
  rw [strip]
  by_cases hc : c = true
  · rw [if_pos (h1.2 (h.2 hc)), if_pos hc]
  · rw [if_neg (fun g => hc (h.1 (h1.1 g))), if_neg hc]
theorem strip7 (n : Int) (_h1 : -9223372036854775808 ≤ n) (_h2 : n ≤ 9223372036854775807) (r : List UInt8) : strip (byteN n 7 :: byteN n 6 :: r) = if fits n 7 then strip (byteN n 6 :: r) else byteN n 7 :: byteN n 6 :: r := by
  refine strip_if ?_
  rw [byteN_int, byteN_int]; unfold fits; simp; omega
theorem strip6 (n : Int) (h : fits n 7 = true) (r : List UInt8) : strip (byteN n 6 :: byteN n 5 :: r) = if fits n 6 then strip (byteN n 5 :: r) else byteN n 6 :: byteN n 5 :: r := by
  unfold fits at h; simp at h
  refine strip_if ?_
  rw [byteN_int, byteN_int]; unfold fits; simp; omega
theorem strip5 (n : Int) (h : fits n 6 = true) (r : List UInt8) : strip (byteN n 5 :: byteN n 4 :: r) = if fits n 5 then strip (byteN n 4 :: r) else byteN n 5 :: byteN n 4 :: r := by
  unfold fits at h; simp at h
  refine strip_if ?_
  rw [byteN_int, byteN_int]; unfold fits; simp; omega
theorem strip4 (n : Int) (h : fits n 5 = true) (r : List UInt8) : strip (byteN n 4 :: byteN n 3 :: r) = if fits n 4 then strip (byteN n 3 :: r) else byteN n 4 :: byteN n 3 :: r := by
  unfold fits at h; simp at h
  refine strip_if ?_
  rw [byteN_int, byteN_int]; unfold fits; simp; omega
theorem strip3 (n : Int) (h : fits n 4 = true) (r : List UInt8) : strip (byteN n 3 :: byteN n 2 :: r) = if fits n 3 then strip (byteN n 2 :: r) else byteN n 3 :: byteN n 2 :: r := by
  unfold fits at h; simp at h
  refine strip_if ?_
  rw [byteN_int, byteN_int]; unfold fits; simp; omega
theorem strip2 (n : Int) (h : fits n 3 = true) (r : List UInt8) : strip (byteN n 2 :: byteN n 1 :: r) = if fits n 2 then strip (byteN n 1 :: r) else byteN n 2 :: byteN n 1 :: r := by
  unfold fits at h; simp at h
  refine strip_if ?_
  rw [byteN_int, byteN_int]; unfold fits; simp; omega
theorem strip1 (n : Int) (h : fits n 2 = true) (r : List UInt8) : strip (byteN n 1 :: byteN n 0 :: r) = if fits n 1 then strip (byteN n 0 :: r) else byteN n 1 :: byteN n 0 :: r := by
  unfold fits at h; simp at h
  refine strip_if ?_
  rw [byteN_int, byteN_int]; unfold fits; simp; omega
theorem fits_down {n : Int} {j : Nat} (hj : 1 ≤ j) (h7 : j ≤ 6) (h : ¬ fits n (j + 1) = true) : ¬ fits n j = true := by
  match j, hj, h7 with
  | 1, _, _ => unfold fits at *; simp at *; omega
  | 2, _, _ => unfold fits at *; simp at *; omega
  | 3, _, _ => unfold fits at *; simp at *; omega
  | 4, _, _ => unfold fits at *; simp at *; omega
  | 5, _, _ => unfold fits at *; simp at *; omega
  | 6, _, _ => unfold fits at *; simp at *; omega
theorem intB_eq (n : Int) (h1 : -9223372036854775808 ≤ n) (h2 : n ≤ 9223372036854775807) : intB n = (beK n 8).drop (8 - sizeI n) := by
  unfold intB
  rw [be8]
  by_cases f7 : fits n 7 = true
  · rw [strip7 n h1 h2, if_pos f7]
    by_cases f6 : fits n 6 = true
    · rw [strip6 n f7, if_pos f6]
      by_cases f5 : fits n 5 = true
      · rw [strip5 n f6, if_pos f5]
        by_cases f4 : fits n 4 = true
        · rw [strip4 n f5, if_pos f4]
          by_cases f3 : fits n 3 = true
          · rw [strip3 n f4, if_pos f3]
            by_cases f2 : fits n 2 = true
            · rw [strip2 n f3, if_pos f2]
              by_cases f1 : fits n 1 = true
              · rw [strip1 n f2, if_pos f1]
                rw [strip]
                · simp [sizeI, f1]
                · intro x y r h; cases h
              · rw [strip1 n f2, if_neg f1]
                simp [sizeI, f1, f2]
            · rw [strip2 n f3, if_neg f2]
              have f1 := fits_down (j := 1) (by omega) (by omega) f2
              simp [sizeI, f1, f2, f3]
          · rw [strip3 n f4, if_neg f3]
            have f2 := fits_down (j := 2) (by omega) (by omega) f3
            have f1 := fits_down (j := 1) (by omega) (by omega) f2
            simp [sizeI, f1, f2, f3, f4]
        · rw [strip4 n f5, if_neg f4]
          have f3 := fits_down (j := 3) (by omega) (by omega) f4
          have f2 := fits_down (j := 2) (by omega) (by omega) f3
          have f1 := fits_down (j := 1) (by omega) (by omega) f2
          simp [sizeI, f1, f2, f3, f4, f5]
      · rw [strip5 n f6, if_neg f5]
        have f4 := fits_down (j := 4) (by omega) (by omega) f5
        have f3 := fits_down (j := 3) (by omega) (by omega) f4
        have f2 := fits_down (j := 2) (by omega) (by omega) f3
        have f1 := fits_down (j := 1) (by omega) (by omega) f2
        simp [sizeI, f1, f2, f3, f4, f5, f6]
    · rw [strip6 n f7, if_neg f6]
      have f5 := fits_down (j := 5) (by omega) (by omega) f6
      have f4 := fits_down (j := 4) (by omega) (by omega) f5
      have f3 := fits_down (j := 3) (by omega) (by omega) f4
      have f2 := fits_down (j := 2) (by omega) (by omega) f3
      have f1 := fits_down (j := 1) (by omega) (by omega) f2
      simp [sizeI, f1, f2, f3, f4, f5, f6, f7]
  · rw [strip7 n h1 h2, if_neg f7]
    have f6 := fits_down (j := 6) (by omega) (by omega) f7
    have f5 := fits_down (j := 5) (by omega) (by omega) f6
    have f4 := fits_down (j := 4) (by omega) (by omega) f5
    have f3 := fits_down (j := 3) (by omega) (by omega) f4
    have f2 := fits_down (j := 2) (by omega) (by omega) f3
    have f1 := fits_down (j := 1) (by omega) (by omega) f2
    simp [sizeI, f1, f2, f3, f4, f5, f6, f7]
theorem fits_iff (n : Int) (h1 : -9223372036854775808 ≤ n) (h2 : n ≤ 9223372036854775807) (k : Nat) (hk : k ≤ 7) :
    fits n (k + 1) = true ↔ (n / 256 ^ (k + 1) = 0 ∧ ((byteN n k).toNat : Int) < 128) ∨ (n / 256 ^ (k + 1) = -1 ∧ (128 : Int) ≤ (byteN n k).toNat) := by
  match k, hk with
  | 0, _ => rw [byteN_int]; unfold fits; simp; omega
  | 1, _ => rw [byteN_int]; unfold fits; simp; omega
  | 2, _ => rw [byteN_int]; unfold fits; simp; omega
  | 3, _ => rw [byteN_int]; unfold fits; simp; omega
  | 4, _ => rw [byteN_int]; unfold fits; simp; omega
  | 5, _ => rw [byteN_int]; unfold fits; simp; omega
  | 6, _ => rw [byteN_int]; unfold fits; simp; omega
  | 7, _ => rw [byteN_int]; unfold fits; simp; omega
theorem drop_be (n : Int) (k : Nat) (hk : k ≤ 7) : (beK n 8).drop (7 - k) = byteN n k :: (beK n 8).drop (8 - k) := by
  rw [be8]
  match k, hk with
  | 0, _ => rfl
  | 1, _ => rfl
  | 2, _ => rfl
  | 3, _ => rfl
  | 4, _ => rfl
  | 5, _ => rfl
  | 6, _ => rfl
  | 7, _ => rfl
theorem sizeI_at (n : Int) (k : Nat) (hk : k ≤ 7) (hn : ∀ j, 1 ≤ j → j ≤ k → fits n j = false) (hf : fits n (k + 1) = true) : sizeI n = k + 1 := by
  have g := fun j (h1 : 1 ≤ j) (h2 : j ≤ k) => hn j h1 h2
  unfold sizeI
  match k, hk, hf, g with
  | 0, _, hf, _ => simp [hf]
  | 1, _, hf, g => simp [hf, g 1 (by omega) (by omega)]
  | 2, _, hf, g => simp [hf, g 1 (by omega) (by omega), g 2 (by omega) (by omega)]
  | 3, _, hf, g => simp [hf, g 1 (by omega) (by omega), g 2 (by omega) (by omega), g 3 (by omega) (by omega)]
  | 4, _, hf, g => simp [hf, g 1 (by omega) (by omega), g 2 (by omega) (by omega), g 3 (by omega) (by omega), g 4 (by omega) (by omega)]
  | 5, _, hf, g => simp [hf, g 1 (by omega) (by omega), g 2 (by omega) (by omega), g 3 (by omega) (by omega), g 4 (by omega) (by omega), g 5 (by omega) (by omega)]
  | 6, _, hf, g => simp [hf, g 1 (by omega) (by omega), g 2 (by omega) (by omega), g 3 (by omega) (by omega), g 4 (by omega) (by omega), g 5 (by omega) (by omega), g 6 (by omega) (by omega)]
  | 7, _, _, g => simp [g 1 (by omega) (by omega), g 2 (by omega) (by omega), g 3 (by omega) (by omega), g 4 (by omega) (by omega), g 5 (by omega) (by omega), g 6 (by omega) (by omega), g 7 (by omega) (by omega)]
theorem div_succ (n : Int) (k : Nat) : n / 256 ^ (k + 1) / 256 = n / 256 ^ (k + 1 + 1) := by
  rw [Int.pow_succ 256 (k + 1)]
  have h : (0 : Int) ≤ 256 ^ (k + 1) := Int.pow_nonneg (by omega)
  first | exact Int.ediv_ediv_of_nonneg h | exact Int.ediv_ediv_eq_ediv_mul _ h | (rw [Int.ediv_ediv, if_neg (by omega)]; simp)
def be (n : Nat) : List UInt8 := if h : n = 0 then [] else be (n / 256) ++ [UInt8.ofNat (n % 256)]
termination_by n
decreasing_by omega
theorem be_0 : be 0 = [] := by rw [be]; rfl
theorem be_pos {n : Nat} (h : 0 < n) : be n = be (n / 256) ++ [UInt8.ofNat (n % 256)] := by rw [be]; rw [dif_neg (by omega)]
def cnt (n : Nat) : Nat := (be n).length
theorem cnt_0 : cnt 0 = 0 := by unfold cnt; rw [be_0]; rfl
theorem cnt_pos {n : Nat} (h : 0 < n) : cnt n = cnt (n / 256) + 1 := by unfold cnt; rw [be_pos h]; simp
theorem be_get : ∀ (c n : Nat), cnt n = c → ∀ j, j < c → (be n)[j]? = some (UInt8.ofNat (n / 256 ^ (c - 1 - j) % 256)) := by
  intro c
  induction c with
  | zero => intro n _ j hj; omega
  | succ c ih =>
    intro n hn j hj
    have hpos : 0 < n := by
      rcases Nat.eq_zero_or_pos n with h | h
      · subst h; rw [cnt_0] at hn; omega
      · exact h
    have hc : cnt (n / 256) = c := by rw [cnt_pos hpos] at hn; omega
    rw [be_pos hpos, List.getElem?_append]
    have hl : (be (n / 256)).length = c := hc
    rw [hl]
    by_cases h : j < c
    · rw [if_pos h, ih _ hc j h]
      have e : n / 256 / 256 ^ (c - 1 - j) = n / 256 ^ (c + 1 - 1 - j) := by
        rw [Nat.div_div_eq_div_mul, show c + 1 - 1 - j = (c - 1 - j) + 1 by omega, Nat.pow_succ, Nat.mul_comm]
      rw [e]
    · obtain rfl : j = c := by omega
      rw [if_neg h]
      simp
theorem cnt_le (k : Nat) : ∀ n, n < 256 ^ k → cnt n ≤ k := by
  induction k with
  | zero => intro n h; have : n = 0 := by simpa using h
            subst this; rw [cnt_0]; omega
  | succ k ih =>
    intro n h
    rcases Nat.eq_zero_or_pos n with h0 | h0
    · subst h0; rw [cnt_0]; omega
    · rw [cnt_pos h0]
      have := ih (n / 256) (by rw [Nat.pow_succ] at h; exact Nat.div_lt_of_lt_mul (by rw [Nat.mul_comm]; exact h))
      omega
def lenB (n : Nat) : List UInt8 := if n < 128 then [UInt8.ofNat n] else UInt8.ofNat (128 + cnt n) :: be n
mutual
def api_Value.put : api_Value → List UInt8
  | .mk t b n es => UInt8.ofNat (t.toNat % 256) :: (lenB ((if n then putAll es else b).length) ++ (if n then putAll es else b))
def putAll : List api_Value → List UInt8
  | [] => []
  | v :: vs => v.put ++ putAll vs
end
def api_Value.body : api_Value → List UInt8 | .mk _ b n es => if n then putAll es else b
theorem put_eq (t : Int) (b : List UInt8) (n : Bool) (es : List api_Value) : (api_Value.mk t b n es).put = UInt8.ofNat (t.toNat % 256) :: (lenB (api_Value.mk t b n es).body.length ++ (api_Value.mk t b n es).body) := by rw [api_Value.put]; rfl
theorem putAll_append : ∀ a b : List api_Value, putAll (a ++ b) = putAll a ++ putAll b
  | [], b => by simp [putAll]
  | v :: vs, b => by rw [List.cons_append, putAll, putAll, putAll_append vs b, List.append_assoc]
theorem putAll_take_succ {es : List api_Value} {k : Nat} {d : api_Value} (h : es[k]? = some d) : putAll (es.take (k + 1)) = putAll (es.take k) ++ d.put := by
  obtain ⟨hk, e⟩ := List.getElem?_eq_some_iff.1 h
  rw [List.take_succ_eq_append_getElem hk, putAll_append, e]
  simp [putAll]
theorem putAll_take_le {es : List api_Value} (k : Nat) : (putAll (es.take k)).length ≤ (putAll es).length := by
  have := putAll_append (es.take k) (es.drop k)
  rw [List.take_append_drop] at this
  rw [this, List.length_append]; omega
theorem lenB_le {n : Nat} (h : n < 256 ^ 6) : (lenB n).length ≤ 7 := by
  unfold lenB
  split
  · simp
  · have := cnt_le 6 n h
    unfold cnt at this
    simp; omega
end Go.Proofs.Ytmihjbejflcgkaa
