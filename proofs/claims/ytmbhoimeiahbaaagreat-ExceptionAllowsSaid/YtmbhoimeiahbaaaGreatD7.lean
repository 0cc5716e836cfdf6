/- Plain texts, joined. No program is in sight here. -/
import Derived.Test.YtmbhoimeiahbaaaGreatP1
import Derived.WalkKit
import Derived.Test.YtmbhoimeiahbaaaGreatL3
import Derived.Test.YtmbhoimeiahbaaaGreatC1
set_option linter.unusedVariables false
set_option linter.unusedSimpArgs false
namespace Go.Proofs.YtmbhoimeiahbaaaGreat
section
open Go
def tagB (t : Int) : Bool := decide (1 ≤ t) && decide (t ≤ 255) && (t % 32 != 31)
def nestB (t : Int) : Bool := t / 32 % 2 == 1
mutual
def api_Value.formed : api_Value → Bool
  | .mk t b n es => tagB t && (n == nestB t) && !(n && decide (0 < b.length)) && !(!n && decide (0 < es.length)) && formedAll es
def formedAll : List api_Value → Bool
  | [] => true
  | v :: vs => v.formed && formedAll vs
end
theorem formedAll_eq : ∀ es : List api_Value, formedAll es = es.all api_Value.formed
  | [] => by simp [formedAll]
  | v :: vs => by rw [formedAll, formedAll_eq vs, List.all_cons]
mutual
def api_Value.depth : api_Value → Nat
  | .mk _ _ _ es => depthAll es + 1
def depthAll : List api_Value → Nat
  | [] => 0
  | v :: vs => max v.depth (depthAll vs)
end
theorem depthAll_append : ∀ a b : List api_Value, depthAll (a ++ b) = max (depthAll a) (depthAll b)
  | [], b => by simp [depthAll]
  | v :: vs, b => by rw [List.cons_append, depthAll, depthAll, depthAll_append vs b, Nat.max_assoc]
theorem depthAll_take_succ {es : List api_Value} {k : Nat} {d : api_Value} (h : es[k]? = some d) : depthAll (es.take (k + 1)) = max (depthAll (es.take k)) d.depth := by
  obtain ⟨hk, e⟩ := List.getElem?_eq_some_iff.1 h
  rw [List.take_succ_eq_append_getElem hk, depthAll_append, e, depthAll, depthAll, Nat.max_zero]
mutual
def api_Value.same : api_Value → api_Value → Bool
  | .mk t b n es, .mk t' b' n' es' => t == t' && n == n' && b == b' && sameAll es es'
def sameAll : List api_Value → List api_Value → Bool
  | [], [] => true
  | v :: vs, u :: us => v.same u && sameAll vs us
  | _, _ => false
end
def strip : List UInt8 → List UInt8
  | x :: y :: r => if (x = 0 ∧ y < 128) ∨ (x = 255 ∧ 128 ≤ y) then strip (y :: r) else x :: y :: r
  | l => l
def beK (n : Int) (k : Nat) : List UInt8 := (List.range k).map fun j => UInt8.ofNat ((IntKind.u64.wrap n).toNat / 2 ^ (56 - 8 * j) % 256)
def intB (n : Int) : List UInt8 := strip (beK n 8)
def intV (n : Int) : api_Value := .mk 2 (intB n) false []
theorem u64_wrap_pos (n : Int) : 0 ≤ IntKind.u64.wrap n ∧ IntKind.u64.wrap n < 18446744073709551616 := by
  rw [IntKind.wrap_u64]; omega
theorem strip_le : ∀ l : List UInt8, (strip l).length ≤ l.length
  | [] => by simp [strip]
  | [_] => by simp [strip]
  | x :: y :: r => by
    rw [strip]
    split
    · have := strip_le (y :: r); simp at this ⊢; omega
    · simp
def fits (n : Int) : Nat → Bool
  | 1 => decide (-128 ≤ n ∧ n < 128)
  | 2 => decide (-32768 ≤ n ∧ n < 32768)
  | 3 => decide (-8388608 ≤ n ∧ n < 8388608)
  | 4 => decide (-2147483648 ≤ n ∧ n < 2147483648)
  | 5 => decide (-549755813888 ≤ n ∧ n < 549755813888)
  | 6 => decide (-140737488355328 ≤ n ∧ n < 140737488355328)
  | 7 => decide (-36028797018963968 ≤ n ∧ n < 36028797018963968)
  | 8 => true
  | _ => false
def sizeI (n : Int) : Nat := if fits n 1 then 1 else if fits n 2 then 2 else if fits n 3 then 3 else if fits n 4 then 4 else if fits n 5 then 5 else if fits n 6 then 6 else if fits n 7 then 7 else 8
def byteN (n : Int) (j : Nat) : UInt8 := UInt8.ofNat ((n / 256 ^ j % 256).toNat)
theorem byteN_int (n : Int) (j : Nat) : ((byteN n j).toNat : Int) = n / 256 ^ j % 256 := by
  unfold byteN
  have h : 0 ≤ n / 256 ^ j % 256 ∧ n / 256 ^ j % 256 < 256 := by omega
  rw [UInt8.toNat_ofNat', Nat.mod_eq_of_lt (by omega)]
  omega
theorem div_mod_wrap (n : Int) (j : Nat) (hj : j ≤ 7) : (IntKind.u64.wrap n) / 2 ^ (8 * j) % 256 = n / 256 ^ j % 256 := by
  rw [IntKind.wrap_u64]
  match j, hj with
  | 0, _ => simp
  | 1, _ => simp; omega
  | 2, _ => simp; omega
  | 3, _ => simp; omega
  | 4, _ => simp; omega
  | 5, _ => simp; omega
  | 6, _ => simp; omega
  | 7, _ => simp; omega
theorem be8 (n : Int) : beK n 8 = [byteN n 7, byteN n 6, byteN n 5, byteN n 4, byteN n 3, byteN n 2, byteN n 1, byteN n 0] := by
  have key : ∀ j, j ≤ 7 → UInt8.ofNat ((IntKind.u64.wrap n).toNat / 2 ^ (8 * j) % 256) = byteN n j := by
    intro j hj
    have h := u64_wrap_pos n
    have h2 := div_mod_wrap n j hj
    unfold byteN
    rw [← h2]
    obtain ⟨m, hm⟩ := Int.eq_ofNat_of_zero_le h.1
    rw [hm]
    congr 1
  have h := fun j hj => key j hj
  unfold beK
  simp only [List.range, List.range.loop, List.map_cons, List.map_nil]
  rw [← h 7 (by omega), ← h 6 (by omega), ← h 5 (by omega), ← h 4 (by omega), ← h 3 (by omega), ← h 2 (by omega), ← h 1 (by omega), ← h 0 (by omega)]
theorem strip_if {x y : UInt8} {r : List UInt8} {c : Bool} (h : (((x.toNat : Int) = 0 ∧ (y.toNat : Int) < 128) ∨ ((x.toNat : Int) = 255 ∧ (128 : Int) ≤ y.toNat)) ↔ c = true) : strip (x :: y :: r) = if c then strip (y :: r) else x :: y :: r := by
  have h1 : ((x = 0 ∧ y < 128) ∨ (x = 255 ∧ 128 ≤ y)) ↔ (((x.toNat : Int) = 0 ∧ (y.toNat : Int) < 128) ∨ ((x.toNat : Int) = 255 ∧ (128 : Int) ≤ y.toNat)) := by
    have e0 : x = 0 ↔ (x.toNat : Int) = 0 := ⟨fun e => by rw [e]; rfl, fun e => UInt8.toNat.inj (by simp; omega)⟩
    have e1 : x = 255 ↔ (x.toNat : Int) = 255 := ⟨fun e => by rw [e]; rfl, fun e => UInt8.toNat.inj (by simp; omega)⟩
    have e2 : y < 128 ↔ (y.toNat : Int) < 128 := by rw [UInt8.lt_iff_toNat_lt]; simp; omega
    have e3 : 128 ≤ y ↔ (128 : Int) ≤ y.toNat := by rw [UInt8.le_iff_toNat_le]; simp; omega
    rw [e0, e1, e2, e3]
  rw [strip]
  by_cases hc : c = true
  · rw [if_pos (h1.2 (h.2 hc)), if_pos hc]
  · rw [if_neg (fun g => hc (h.1 (h1.1 g))), if_neg hc]
theorem strip7 (n : Int) (_h1 : -9223372036854775808 ≤ n) (_h2 : n ≤ 9223372036854775807) (r : List UInt8) : strip (byteN n 7 :: byteN n 6 :: r) = if fits n 7 then strip (byteN n 6 :: r) else byteN n 7 :: byteN n 6 :: r := by
  refine strip_if ?_
  rw [byteN_int, byteN_int]; unfold fits; simp; omega
theorem strip6 (n : Int) (h : fits n 7 = true) (r : List UInt8) : strip (byteN n 6 :: byteN n 5 :: r) = if fits n 6 then strip (byteN n 5 :: r) else byteN n 6 :: byteN n 5 :: r := by
  unfold fits at h; simp at h
  refine strip_if ?_
  rw [byteN_int, byteN_int]; unfold fits; simp; omega
theorem strip5 (n : Int) (h : fits n 6 = true) (r : List UInt8) : strip (byteN n 5 :: byteN n 4 :: r) = if fits n 5 then strip (byteN n 4 :: r) else byteN n 5 :: byteN n 4 :: r := by
  unfold fits at h; simp at h
  refine strip_if ?_
  rw [byteN_int, byteN_int]; unfold fits; simp; omega
theorem strip4 (n : Int) (h : fits n 5 = true) (r : List UInt8) : strip (byteN n 4 :: byteN n 3 :: r) = if fits n 4 then strip (byteN n 3 :: r) else byteN n 4 :: byteN n 3 :: r := by
  unfold fits at h; simp at h
  refine strip_if ?_
  rw [byteN_int, byteN_int]; unfold fits; simp; omega
theorem strip3 (n : Int) (h : fits n 4 = true) (r : List UInt8) : strip (byteN n 3 :: byteN n 2 :: r) = if fits n 3 then strip (byteN n 2 :: r) else byteN n 3 :: byteN n 2 :: r := by
  unfold fits at h; simp at h
  refine strip_if ?_
  rw [byteN_int, byteN_int]; unfold fits; simp; omega
theorem strip2 (n : Int) (h : fits n 3 = true) (r : List UInt8) : strip (byteN n 2 :: byteN n 1 :: r) = if fits n 2 then strip (byteN n 1 :: r) else byteN n 2 :: byteN n 1 :: r := by
  unfold fits at h; simp at h
  refine strip_if ?_
  rw [byteN_int, byteN_int]; unfold fits; simp; omega
theorem strip1 (n : Int) (h : fits n 2 = true) (r : List UInt8) : strip (byteN n 1 :: byteN n 0 :: r) = if fits n 1 then strip (byteN n 0 :: r) else byteN n 1 :: byteN n 0 :: r := by
  unfold fits at h; simp at h
  refine strip_if ?_
  rw [byteN_int, byteN_int]; unfold fits; simp; omega
theorem fits_down {n : Int} {j : Nat} (hj : 1 ≤ j) (h7 : j ≤ 6) (h : ¬ fits n (j + 1) = true) : ¬ fits n j = true := by
  match j, hj, h7 with
  | 1, _, _ => unfold fits at *; simp at *; omega
  | 2, _, _ => unfold fits at *; simp at *; omega
  | 3, _, _ => unfold fits at *; simp at *; omega
  | 4, _, _ => unfold fits at *; simp at *; omega
  | 5, _, _ => unfold fits at *; simp at *; omega
  | 6, _, _ => unfold fits at *; simp at *; omega
theorem intB_eq (n : Int) (h1 : -9223372036854775808 ≤ n) (h2 : n ≤ 9223372036854775807) : intB n = (beK n 8).drop (8 - sizeI n) := by
  unfold intB
  rw [be8]
  by_cases f7 : fits n 7 = true
  · rw [strip7 n h1 h2, if_pos f7]
    by_cases f6 : fits n 6 = true
    · rw [strip6 n f7, if_pos f6]
      by_cases f5 : fits n 5 = true
      · rw [strip5 n f6, if_pos f5]
        by_cases f4 : fits n 4 = true
        · rw [strip4 n f5, if_pos f4]
          by_cases f3 : fits n 3 = true
          · rw [strip3 n f4, if_pos f3]
            by_cases f2 : fits n 2 = true
            · rw [strip2 n f3, if_pos f2]
              by_cases f1 : fits n 1 = true
              · rw [strip1 n f2, if_pos f1]
                rw [strip]
                · simp [sizeI, f1]
                · intro x y r h; cases h
              · rw [strip1 n f2, if_neg f1]
                simp [sizeI, f1, f2]
            · rw [strip2 n f3, if_neg f2]
              have f1 := fits_down (j := 1) (by omega) (by omega) f2
              simp [sizeI, f1, f2, f3]
          · rw [strip3 n f4, if_neg f3]
            have f2 := fits_down (j := 2) (by omega) (by omega) f3
            have f1 := fits_down (j := 1) (by omega) (by omega) f2
            simp [sizeI, f1, f2, f3, f4]
        · rw [strip4 n f5, if_neg f4]
          have f3 := fits_down (j := 3) (by omega) (by omega) f4
          have f2 := fits_down (j := 2) (by omega) (by omega) f3
          have f1 := fits_down (j := 1) (by omega) (by omega) f2
          simp [sizeI, f1, f2, f3, f4, f5]
      · rw [strip5 n f6, if_neg f5]
        have f4 := fits_down (j := 4) (by omega) (by omega) f5
        have f3 := fits_down (j := 3) (by omega) (by omega) f4
        have f2 := fits_down (j := 2) (by omega) (by omega) f3
        have f1 := fits_down (j := 1) (by omega) (by omega) f2
        simp [sizeI, f1, f2, f3, f4, f5, f6]
    · rw [strip6 n f7, if_neg f6]
      have f5 := fits_down (j := 5) (by omega) (by omega) f6
      have f4 := fits_down (j := 4) (by omega) (by omega) f5
      have f3 := fits_down (j := 3) (by omega) (by omega) f4
      have f2 := fits_down (j := 2) (by omega) (by omega) f3
      have f1 := fits_down (j := 1) (by omega) (by omega) f2
      simp [sizeI, f1, f2, f3, f4, f5, f6, f7]
  · rw [strip7 n h1 h2, if_neg f7]
    have f6 := fits_down (j := 6) (by omega) (by omega) f7
    have f5 := fits_down (j := 5) (by omega) (by omega) f6
    have f4 := fits_down (j := 4) (by omega) (by omega) f5
    have f3 := fits_down (j := 3) (by omega) (by omega) f4
    have f2 := fits_down (j := 2) (by omega) (by omega) f3
    have f1 := fits_down (j := 1) (by omega) (by omega) f2
    simp [sizeI, f1, f2, f3, f4, f5, f6, f7]
theorem fits_iff (n : Int) (h1 : -9223372036854775808 ≤ n) (h2 : n ≤ 9223372036854775807) (k : Nat) (hk : k ≤ 7) :
    fits n (k + 1) = true ↔ (n / 256 ^ (k + 1) = 0 ∧ ((byteN n k).toNat : Int) < 128) ∨ (n / 256 ^ (k + 1) = -1 ∧ (128 : Int) ≤ (byteN n k).toNat) := by
  match k, hk with
  | 0, _ => rw [byteN_int]; unfold fits; simp; omega
  | 1, _ => rw [byteN_int]; unfold fits; simp; omega
  | 2, _ => rw [byteN_int]; unfold fits; simp; omega
  | 3, _ => rw [byteN_int]; unfold fits; simp; omega
  | 4, _ => rw [byteN_int]; unfold fits; simp; omega
  | 5, _ => rw [byteN_int]; unfold fits; simp; omega
  | 6, _ => rw [byteN_int]; unfold fits; simp; omega
  | 7, _ => rw [byteN_int]; unfold fits; simp; omega
theorem drop_be (n : Int) (k : Nat) (hk : k ≤ 7) : (beK n 8).drop (7 - k) = byteN n k :: (beK n 8).drop (8 - k) := by
  rw [be8]
  match k, hk with
  | 0, _ => rfl
  | 1, _ => rfl
  | 2, _ => rfl
  | 3, _ => rfl
  | 4, _ => rfl
  | 5, _ => rfl
  | 6, _ => rfl
  | 7, _ => rfl
theorem sizeI_at (n : Int) (k : Nat) (hk : k ≤ 7) (hn : ∀ j, 1 ≤ j → j ≤ k → fits n j = false) (hf : fits n (k + 1) = true) : sizeI n = k + 1 := by
  have g := fun j (h1 : 1 ≤ j) (h2 : j ≤ k) => hn j h1 h2
  unfold sizeI
  match k, hk, hf, g with
  | 0, _, hf, _ => simp [hf]
  | 1, _, hf, g => simp [hf, g 1 (by omega) (by omega)]
  | 2, _, hf, g => simp [hf, g 1 (by omega) (by omega), g 2 (by omega) (by omega)]
  | 3, _, hf, g => simp [hf, g 1 (by omega) (by omega), g 2 (by omega) (by omega), g 3 (by omega) (by omega)]
  | 4, _, hf, g => simp [hf, g 1 (by omega) (by omega), g 2 (by omega) (by omega), g 3 (by omega) (by omega), g 4 (by omega) (by omega)]
  | 5, _, hf, g => simp [hf, g 1 (by omega) (by omega), g 2 (by omega) (by omega), g 3 (by omega) (by omega), g 4 (by omega) (by omega), g 5 (by omega) (by omega)]
  | 6, _, hf, g => simp [hf, g 1 (by omega) (by omega), g 2 (by omega) (by omega), g 3 (by omega) (by omega), g 4 (by omega) (by omega), g 5 (by omega) (by omega), g 6 (by omega) (by omega)]
  | 7, _, _, g => simp [g 1 (by omega) (by omega), g 2 (by omega) (by omega), g 3 (by omega) (by omega), g 4 (by omega) (by omega), g 5 (by omega) (by omega), g 6 (by omega) (by omega), g 7 (by omega) (by omega)]
theorem div_succ (n : Int) (k : Nat) : n / 256 ^ (k + 1) / 256 = n / 256 ^ (k + 1 + 1) := by
  rw [Int.pow_succ 256 (k + 1)]
  have h : (0 : Int) ≤ 256 ^ (k + 1) := Int.pow_nonneg (by omega)
  first | exact Int.ediv_ediv_of_nonneg h | exact Int.ediv_ediv_eq_ediv_mul _ h | (rw [Int.ediv_ediv, if_neg (by omega)]; simp)
def be (n : Nat) : List UInt8 := if h : n = 0 then [] else be (n / 256) ++ [UInt8.ofNat (n % 256)]
termination_by n
decreasing_by omega
theorem be_0 : be 0 = [] := by rw [be]; rfl
theorem be_pos {n : Nat} (h : 0 < n) : be n = be (n / 256) ++ [UInt8.ofNat (n % 256)] := by rw [be]; rw [dif_neg (by omega)]
def cnt (n : Nat) : Nat := (be n).length
theorem cnt_0 : cnt 0 = 0 := by unfold cnt; rw [be_0]; rfl
theorem cnt_pos {n : Nat} (h : 0 < n) : cnt n = cnt (n / 256) + 1 := by unfold cnt; rw [be_pos h]; simp
theorem be_get : ∀ (c n : Nat), cnt n = c → ∀ j, j < c → (be n)[j]? = some (UInt8.ofNat (n / 256 ^ (c - 1 - j) % 256)) := by
  intro c
  induction c with
  | zero => intro n _ j hj; omega
  | succ c ih =>
    intro n hn j hj
    have hpos : 0 < n := by
      rcases Nat.eq_zero_or_pos n with h | h
      · subst h; rw [cnt_0] at hn; omega
      · exact h
    have hc : cnt (n / 256) = c := by rw [cnt_pos hpos] at hn; omega
    rw [be_pos hpos, List.getElem?_append]
    have hl : (be (n / 256)).length = c := hc
    rw [hl]
    by_cases h : j < c
    · rw [if_pos h, ih _ hc j h]
      have e : n / 256 / 256 ^ (c - 1 - j) = n / 256 ^ (c + 1 - 1 - j) := by
        rw [Nat.div_div_eq_div_mul, show c + 1 - 1 - j = (c - 1 - j) + 1 by omega, Nat.pow_succ, Nat.mul_comm]
      rw [e]
    · obtain rfl : j = c := by omega
      rw [if_neg h]
      simp
theorem cnt_le (k : Nat) : ∀ n, n < 256 ^ k → cnt n ≤ k := by
  induction k with
  | zero =>
    intro n h
    have : n = 0 := by simpa using h
    subst this
    rw [cnt_0]
    omega
  | succ k ih =>
    intro n h
    rcases Nat.eq_zero_or_pos n with h0 | h0
    · subst h0; rw [cnt_0]; omega
    · rw [cnt_pos h0]
      have := ih (n / 256) (by rw [Nat.pow_succ] at h; exact Nat.div_lt_of_lt_mul (by rw [Nat.mul_comm]; exact h))
      omega
def lenB (n : Nat) : List UInt8 := if n < 128 then [UInt8.ofNat n] else UInt8.ofNat (128 + cnt n) :: be n
mutual
def api_Value.put : api_Value → List UInt8
  | .mk t b n es => UInt8.ofNat (t.toNat % 256) :: (lenB ((if n then putAll es else b).length) ++ (if n then putAll es else b))
def putAll : List api_Value → List UInt8
  | [] => []
  | v :: vs => v.put ++ putAll vs
end
def api_Value.body : api_Value → List UInt8 | .mk _ b n es => if n then putAll es else b
theorem put_eq (t : Int) (b : List UInt8) (n : Bool) (es : List api_Value) : (api_Value.mk t b n es).put = UInt8.ofNat (t.toNat % 256) :: (lenB (api_Value.mk t b n es).body.length ++ (api_Value.mk t b n es).body) := by rw [api_Value.put]; rfl
theorem putAll_append : ∀ a b : List api_Value, putAll (a ++ b) = putAll a ++ putAll b
  | [], b => by simp [putAll]
  | v :: vs, b => by rw [List.cons_append, putAll, putAll, putAll_append vs b, List.append_assoc]
theorem putAll_take_succ {es : List api_Value} {k : Nat} {d : api_Value} (h : es[k]? = some d) : putAll (es.take (k + 1)) = putAll (es.take k) ++ d.put := by
  obtain ⟨hk, e⟩ := List.getElem?_eq_some_iff.1 h
  rw [List.take_succ_eq_append_getElem hk, putAll_append, e]
  simp [putAll]
theorem putAll_take_le {es : List api_Value} (k : Nat) : (putAll (es.take k)).length ≤ (putAll es).length := by
  have := putAll_append (es.take k) (es.drop k)
  rw [List.take_append_drop] at this
  rw [this, List.length_append]; omega
theorem lenB_le {n : Nat} (h : n < 256 ^ 6) : (lenB n).length ≤ 7 := by
  unfold lenB
  split
  · simp
  · have := cnt_le 6 n h
    unfold cnt at this
    simp; omega
end
section
open Go
def sizeS : List UInt8 → Option (Nat × Nat)
  | [] => none
  | x :: r => if x.toNat < 128 then some (x.toNat, 1)
    else if x.toNat = 129 then match r with | y :: _ => if y.toNat < 128 then none else some (y.toNat, 2) | [] => none
    else if x.toNat = 130 then match r with | y :: z :: _ => if y.toNat = 0 then none else some (y.toNat * 256 + z.toNat, 3) | _ => none
    else none
def hdr : List UInt8 → Option (Nat × Nat × Nat)
  | [] => none
  | t :: r => if tagB t.toNat = false then none else match sizeS r with
    | none => none
    | some (n, c) => if r.length - c < n then none else some (t.toNat, 1 + c, n)
theorem lenB_1 {n : Nat} (h : n < 128) : lenB n = [UInt8.ofNat n] := by unfold lenB; rw [if_pos h]
theorem lenB_2 {n : Nat} (h : 128 ≤ n) (h2 : n < 256) : lenB n = [129, UInt8.ofNat n] := by
  have e : be n = [UInt8.ofNat n] := by rw [be_pos (by omega), show n / 256 = 0 by omega, be_0, show n % 256 = n by omega]; rfl
  unfold lenB cnt
  rw [if_neg (by omega), e]
  rfl
theorem lenB_3 {n : Nat} (h : 256 ≤ n) (h2 : n < 65536) : lenB n = [130, UInt8.ofNat (n / 256), UInt8.ofNat (n % 256)] := by
  have e : be n = [UInt8.ofNat (n / 256), UInt8.ofNat (n % 256)] := by
    rw [be_pos (by omega), be_pos (n := n / 256) (by omega), show n / 256 / 256 = 0 by omega, be_0, show n / 256 % 256 = n / 256 by omega]; rfl
  unfold lenB cnt
  rw [if_neg (by omega), e]
  rfl
end
section
open Go
mutual
def api_Value.sz : api_Value → Nat
  | .mk _ b _ es => b.length + szs es + 1
def szs : List api_Value → Nat
  | [] => 0
  | v :: vs => v.sz + szs vs
end
theorem sz_eq (v : api_Value) : v.sz = v.Bytes.length + szs v.Elements + 1 := by cases v; rw [api_Value.sz]
theorem szs_mem : ∀ {es : List api_Value} {d : api_Value}, d ∈ es → d.sz ≤ szs es
  | v :: vs, d, h => by
    rw [szs]
    rcases List.mem_cons.1 h with rfl | h
    · omega
    · have := szs_mem h; omega
theorem szs_len : ∀ es : List api_Value, es.length ≤ szs es
  | [] => Nat.le_refl _
  | v :: vs => by
    have := szs_len vs
    rw [szs, List.length_cons, sz_eq]; omega
theorem szs_elem {v d : api_Value} (h : d ∈ v.Elements) : d.sz < v.sz := by
  have := szs_mem h
  rw [sz_eq v]; omega
theorem bytes_clone {b : List UInt8} (h : b.length < 1073741824) : g_bytes_Clone b = some b := by
  unfold g_bytes_Clone g_bytes_Clone.j1
  have e : appI 1 ([] : List UInt8) b = some b := by rw [appI_ok (by simp; omega)]; rfl
  rw [e]
  unfold nilC
  split
  · rename_i h0; subst h0; simp
  · rfl
theorem der_copied (l : List api_Value) (h : szs l < 1073741824) : g_der_copied l = some l :=
  fixT_spec mono_der_copied id szs (fun l => szs l < 1073741824) (fun rec l hl hr => by
    show g_der_copied.F rec l = some l
    unfold g_der_copied.F
    have hn := szs_len l
    refine (loop_path l.length (fun i => ((i : Int), l.take i)) l ?_ ?_).trans ?_
    · intro i hi
      obtain ⟨e, he⟩ : ∃ e, l[i]? = some e := ⟨_, List.getElem?_eq_getElem hi⟩
      have h1 := szs_mem (at_mem he)
      have h2 := sz_eq e
      show g_der_copied.l1 rec l (i : Int) (l.take i) = _
      unfold g_der_copied.l1
      rw [for_in he, bytes_clone (by omega), hr e.Elements (by omega) (by omega)]
      simp only [id, Option.bind_some]
      rw [appI_ok (by simp; omega), W_succ (by omega), take_succ' he]
      cases e; rfl
    · show g_der_copied.l1 rec l (l.length : Int) (l.take l.length) = _
      unfold g_der_copied.l1
      rw [for_out, List.take_length]; rfl
    · rfl) l h
theorem ref01_copies (l : List api_Value) (h : szs l < 1073741824) : g_ref01_copies l = some l :=
  fixT_spec mono_ref01_copies id szs (fun l => szs l < 1073741824) (fun rec l hl hr => by
    show g_ref01_copies.F rec l = some l
    unfold g_ref01_copies.F
    have hn := szs_len l
    refine (loop_path l.length (fun i => ((i : Int), l.take i)) l ?_ ?_).trans ?_
    · intro i hi
      obtain ⟨e, he⟩ : ∃ e, l[i]? = some e := ⟨_, List.getElem?_eq_getElem hi⟩
      have h1 := szs_mem (at_mem he)
      have h2 := sz_eq e
      show g_ref01_copies.l1 rec l (i : Int) (l.take i) = _
      unfold g_ref01_copies.l1
      rw [for_in he, appI_ok (by simp; omega)]
      simp only [List.nil_append, Option.bind_some]
      rw [hr e.Elements (by omega) (by omega)]
      simp only [id, Option.bind_some]
      rw [appI_ok (by simp; omega), W_succ (by omega), take_succ' he]
      cases e; rfl
    · show g_ref01_copies.l1 rec l (l.length : Int) (l.take l.length) = _
      unfold g_ref01_copies.l1
      rw [for_out, List.take_length]; rfl
    · rfl) l h
theorem der_Of (l : List api_Value) (h : szs l < 1073741824) : g_der_Of l = some (.mk 48 [] true l) := by unfold g_der_Of; rw [der_copied l h]; rfl
theorem ref01_List (l : List api_Value) (h : szs l < 1073741824) : g_ref01_List l = some (.mk 48 [] true l) := by unfold g_ref01_List; rw [ref01_copies l h]; rfl
theorem fin256 {n : Int} (h1 : 1 ≤ n) (h2 : n ≤ 255) : ∃ m : Fin 256, n = (m.val : Int) := ⟨⟨n.toNat, by omega⟩, by simp; omega⟩
theorem and31_fin : ∀ m : Fin 256, (!decide (andK .i64 (m.val : Int) 31 = 31)) = ((m.val : Int) % 32 != 31) := by decide +kernel
theorem and32_fin : ∀ m : Fin 256, (!decide (andK .i64 (m.val : Int) 32 = 0)) = nestB (m.val : Int) := by decide +kernel
theorem rem32_fin : ∀ m : Fin 256, (!decide ((m.val : Int).tmod 32 = 31)) = ((m.val : Int) % 32 != 31) := by decide +kernel
theorem quo32_fin : ∀ m : Fin 256, ((quoI (m.val : Int) 32).bind fun q => (remI q 2).bind fun r => some (decide (r = 1))) = some (nestB (m.val : Int)) := by decide +kernel
theorem der_tag (n : Int) : g_der_tag n = some (tagB n) := by
  unfold g_der_tag tagB
  by_cases h1 : 1 ≤ n
  · by_cases h2 : n ≤ 255
    · obtain ⟨m, rfl⟩ := fin256 h1 h2
      rw [and31_fin m, decide_eq_true h1, decide_eq_true h2]; rfl
    · simp [h1, h2]
  · simp [h1]
theorem ref01_tag (n : Int) : g_ref01_tag n = some (tagB n) := by
  unfold g_ref01_tag tagB
  by_cases h1 : 1 ≤ n
  · by_cases h2 : n ≤ 255
    · obtain ⟨m, rfl⟩ := fin256 h1 h2
      rw [← rem32_fin m, decide_eq_true h1, decide_eq_true h2]; rfl
    · simp [h1, h2]
  · simp [h1]
theorem tagB_range {n : Int} (h : tagB n = true) : 1 ≤ n ∧ n ≤ 255 := by
  unfold tagB at h
  simp only [Bool.and_eq_true, decide_eq_true_eq] at h
  exact ⟨h.1.1, h.1.2⟩
theorem formed_eq (v : api_Value) : v.formed = (tagB v.Tag && (v.Nested == nestB v.Tag) && !(v.Nested && decide (0 < v.Bytes.length)) && !(!v.Nested && decide (0 < v.Elements.length)) && formedAll v.Elements) := by cases v; rw [api_Value.formed]
theorem not_any_not (l : List api_Value) : (!l.any fun v => !v.formed) = formedAll l := by
  rw [formedAll_eq]
  induction l with
  | nil => rfl
  | cons v l ih => rw [List.any_cons, List.all_cons, ← ih]; cases v.formed <;> simp
theorem der_formed (v : api_Value) (h : v.sz < 1073741824) : g_der_formed v = some v.formed :=
  fixT_spec mono_der_formed api_Value.formed api_Value.sz (fun v => v.sz < 1073741824) (fun rec v hv hr => by
    show g_der_formed.F rec v = some v.formed
    have hn := szs_len v.Elements
    have h0 := sz_eq v
    have hj1 : g_der_formed.j1 rec v true = some false := rfl
    have hj2 : g_der_formed.j1 rec v false = some (formedAll v.Elements) := by
      unfold g_der_formed.j1 g_slices_ContainsFunc_api_Value g_slices_IndexFunc_api_Value
      have hl : loop (fun q' => g_slices_IndexFunc_api_Value.l1 v.Elements (fun x0 => g_der_formed_c1 rec x0) q') 0 = some (match v.Elements.findIdx? (fun v => !v.formed) with | some i => (i : Int) | none => -1) :=
        loop_find v.Elements (fun i => (i : Int)) (fun v => !v.formed) (fun i => (i : Int)) (-1) (fun i x hx => by
          have h1 := szs_elem (at_mem hx)
          have h2 := at_lt hx
          unfold g_slices_IndexFunc_api_Value.l1 g_der_formed_c1
          rw [for_in hx]
          dsimp only
          rw [hr x (by omega) h1, W_succ (by omega)]
          cases x.formed <;> rfl) (by unfold g_slices_IndexFunc_api_Value.l1; rw [for_out]; rfl)
      rw [hl, ← not_any_not]
      simp only [cond_false, Option.bind_some]
      cases hq : v.Elements.findIdx? (fun v => !v.formed) with
      | none =>
        have := List.findIdx?_eq_none_iff.1 hq
        have : (v.Elements.any fun v => !v.formed) = false := by rw [List.any_eq_false]; simpa using this
        rw [this]; rfl
      | some i =>
        have := List.findIdx?_isSome (xs := v.Elements) (p := fun v => !v.formed)
        rw [hq] at this
        rw [← this]
        simp
    unfold g_der_formed.F
    rw [der_tag, hj1, hj2, formed_eq]
    cases ht : tagB v.Tag
    · rfl
    · obtain ⟨m, hm⟩ := fin256 (tagB_range ht).1 (tagB_range ht).2
      rw [hm, and32_fin m]
      cases v.Nested <;> cases nestB (m.val : Int) <;> by_cases hb : 0 < v.Bytes.length <;> by_cases he : 0 < v.Elements.length <;> simp [hb, he, hj1, hj2]) v h
theorem ref01_formed (v : api_Value) (h : v.sz < 1073741824) : g_ref01_formed v = some v.formed :=
  fixT_spec mono_ref01_formed api_Value.formed api_Value.sz (fun v => v.sz < 1073741824) (fun rec v hv hr => by
    show g_ref01_formed.F rec v = some v.formed
    have hn := szs_len v.Elements
    have h0 := sz_eq v
    have hj1 : g_ref01_formed.j1 rec v true = some false := rfl
    have hj2 : g_ref01_formed.j1 rec v false = some (formedAll v.Elements) := by
      unfold g_ref01_formed.j1
      have hl := loop_any (body := fun q' => g_ref01_formed.l2 rec v q') v.Elements (fun i => (i : Int)) (fun v => !v.formed) false true (fun i x hx => by
          have h1 := szs_elem (at_mem hx)
          have h2 := at_lt hx
          unfold g_ref01_formed.l2
          rw [for_in hx, hr x (by omega) h1, W_succ (by omega)]
          cases x.formed <;> rfl) (by unfold g_ref01_formed.l2; rw [for_out]; rfl)
      rw [cond_false]
      refine Eq.trans hl ?_
      rw [← not_any_not]
      cases v.Elements.any fun v => !v.formed <;> rfl
    unfold g_ref01_formed.F
    rw [ref01_tag, hj1, hj2, formed_eq]
    cases ht : tagB v.Tag
    · rfl
    · obtain ⟨m, hm⟩ := fin256 (tagB_range ht).1 (tagB_range ht).2
      have hq := quo32_fin m
      rw [hm]
      cases h1 : quoI (m.val : Int) 32 with
      | none => rw [h1] at hq; cases hq
      | some q =>
        rw [h1] at hq
        simp only [Option.bind_some] at hq
        cases h2 : remI q 2 with
        | none => rw [h2] at hq; cases hq
        | some r =>
          rw [h2] at hq
          simp only [Option.bind_some, Option.some.injEq] at hq
          simp only [Option.bind_some, h2, hq]
          cases v.Nested <;> cases nestB (m.val : Int) <;> by_cases hb : 0 < v.Bytes.length <;> by_cases he : 0 < v.Elements.length <;> simp [hb, he, hj1, hj2]) v h
theorem depthAll_le : ∀ es : List api_Value, depthAll es ≤ szs es
  | [] => Nat.le_refl _
  | v :: vs => by
    obtain ⟨t, b, n, es⟩ := v
    have h1 := depthAll_le es
    have h2 := depthAll_le vs
    rw [depthAll, szs, api_Value.depth, api_Value.sz]; omega
theorem depth_le (v : api_Value) : v.depth ≤ v.sz := by
  obtain ⟨t, b, n, es⟩ := v
  have := depthAll_le es
  rw [api_Value.depth, api_Value.sz]; omega
theorem depth_eq (v : api_Value) : v.depth = depthAll v.Elements + 1 := by cases v; rw [api_Value.depth]
theorem der_depth (v : api_Value) (h : v.sz < 1073741824) : g_der_depth v = some (v.depth : Int) :=
  fixT_spec mono_der_depth (fun v => (v.depth : Int)) api_Value.sz (fun v => v.sz < 1073741824) (fun rec v hv hr => by
    show g_der_depth.F rec v = some (v.depth : Int)
    unfold g_der_depth.F
    have hn := szs_len v.Elements
    have h0 := sz_eq v
    have hd := depth_le v
    have hq := depth_eq v
    refine (loop_path v.Elements.length (fun i => ((depthAll (v.Elements.take i) : Int), (i : Int))) (v.depth : Int) ?_ ?_).trans ?_
    · intro i hi
      obtain ⟨e, he⟩ : ∃ e, v.Elements[i]? = some e := ⟨_, List.getElem?_eq_getElem hi⟩
      have h1 := szs_elem (at_mem he)
      show g_der_depth.l1 rec v (depthAll (v.Elements.take i) : Int) (i : Int) = _
      unfold g_der_depth.l1
      rw [for_in he, hr e (by omega) h1, W_succ (by omega), depthAll_take_succ he]
      simp only [Option.bind_some]
      congr 3
      omega
    · show g_der_depth.l1 rec v (depthAll (v.Elements.take v.Elements.length) : Int) (v.Elements.length : Int) = _
      unfold g_der_depth.l1
      rw [for_out, List.take_length, W_id (by omega), hq]; rfl
    · rfl) v h
theorem ref01_depth (v : api_Value) (h : v.sz < 1073741824) : g_ref01_depth v = some (v.depth : Int) :=
  fixT_spec mono_ref01_depth (fun v => (v.depth : Int)) api_Value.sz (fun v => v.sz < 1073741824) (fun rec v hv hr => by
    show g_ref01_depth.F rec v = some (v.depth : Int)
    unfold g_ref01_depth.F
    have hn := szs_len v.Elements
    have h0 := sz_eq v
    have hd := depth_le v
    have hq := depth_eq v
    refine (loop_path v.Elements.length (fun i => ((depthAll (v.Elements.take i) : Int), (i : Int))) (v.depth : Int) ?_ ?_).trans ?_
    · intro i hi
      obtain ⟨e, he⟩ : ∃ e, v.Elements[i]? = some e := ⟨_, List.getElem?_eq_getElem hi⟩
      have h1 := szs_elem (at_mem he)
      show g_ref01_depth.l1 rec v (depthAll (v.Elements.take i) : Int) (i : Int) = _
      unfold g_ref01_depth.l1
      rw [for_in he, hr e (by omega) h1, W_succ (by omega), depthAll_take_succ he]
      simp only [Option.bind_some]
      congr 3
      omega
    · show g_ref01_depth.l1 rec v (depthAll (v.Elements.take v.Elements.length) : Int) (v.Elements.length : Int) = _
      unfold g_ref01_depth.l1
      rw [for_out, List.take_length, W_id (by omega), hq]; rfl
    · rfl) v h
end
section
open Go
theorem u8_nat (m : Nat) : u8 (m : Int) = UInt8.ofNat m := by
  apply UInt8.toNat_inj.1
  have := u8_toNat (m : Int)
  rw [UInt8.toNat_ofNat']
  omega
theorem u8_byteN (n : Int) (k : Nat) : u8 (n / 256 ^ k) = byteN n k := rfl
theorem shrK_ok {k : IntKind} {x y : Int} (e : Nat) (hy : y = (e : Int)) (he : e ≤ k.bits) : shrK k x y = some (x / 2 ^ e) := by
  subst hy
  unfold shrK
  rw [if_neg (by omega), Int.toNat_natCast, Nat.min_eq_left he, Int.fdiv_eq_ediv_of_nonneg]
  exact Int.pow_nonneg (by omega)
theorem shr8 {x : Int} : shrK .i64 x 8 = some (x / 256) := shrK_ok (k := .i64) 8 rfl (by decide)
theorem beK_succ (n : Int) (k : Nat) : beK n (k + 1) = beK n k ++ [UInt8.ofNat ((IntKind.u64.wrap n).toNat / 2 ^ (56 - 8 * k) % 256)] := by
  unfold beK
  rw [List.range_succ, List.map_append]; rfl
theorem beK_len (n : Int) (k : Nat) : (beK n k).length = k := by unfold beK; simp
theorem u8_wrap (n : Int) (e : Nat) : u8 (IntKind.u64.wrap n / 2 ^ e) = UInt8.ofNat ((IntKind.u64.wrap n).toNat / 2 ^ e % 256) := by
  have h := u64_wrap_pos n
  obtain ⟨m, hm⟩ := Int.eq_ofNat_of_zero_le h.1
  rw [hm, Int.toNat_natCast]
  have : (m : Int) / 2 ^ e = ((m / 2 ^ e : Nat) : Int) := by simp
  rw [this, u8_nat]
  apply UInt8.toNat_inj.1
  rw [UInt8.toNat_ofNat', UInt8.toNat_ofNat']
  omega
theorem strip_step (x y : UInt8) (r : List UInt8) : strip (x :: y :: r) = if ((x.toNat : Int) = 0 ∧ (y.toNat : Int) < 128) ∨ ((x.toNat : Int) = 255 ∧ (128 : Int) ≤ (y.toNat : Int)) then strip (y :: r) else x :: y :: r := by
  rw [strip]
  have e0 : (x = 0) ↔ ((x.toNat : Int) = 0) := by rw [← UInt8.toNat_inj]; simp
  have e1 : (x = 255) ↔ ((x.toNat : Int) = 255) := by rw [← UInt8.toNat_inj]; simp; omega
  have e2 : (y < 128) ↔ ((y.toNat : Int) < 128) := by rw [UInt8.lt_iff_toNat_lt]; simp; omega
  have e3 : (128 ≤ y) ↔ ((128 : Int) ≤ (y.toNat : Int)) := by rw [UInt8.le_iff_toNat_le]; simp; omega
  simp only [e0, e1, e2, e3]
theorem der_int_strip : ∀ b : List UInt8, b.length ≤ 8 → loop (fun q' => g_der_Int.l2 q') b = some (.mk 2 (strip b) false [])
  | [], _ => by rw [loop_eq]; rfl
  | [x], _ => by rw [loop_eq]; rfl
  | x :: y :: r, h => by
    have ih := der_int_strip (y :: r) (by simp at h ⊢; omega)
    have hl : (1 : Int) < ((x :: y :: r).length : Int) := by simp; omega
    have hs : slI (x :: y :: r) 1 ((x :: y :: r).length : Int) = some (y :: r) := by
      unfold slI
      rw [if_pos ⟨by omega, by omega, by omega⟩]
      congr 1
      exact List.take_of_length_le (by simp; omega)
    have hg0 : getI (x :: y :: r) 0 = some x := rfl
    have hg1 : getI (x :: y :: r) 1 = some y := rfl
    have hj : g_der_Int.j3 (x :: y :: r) true = some (.next (y :: r)) := by unfold g_der_Int.j3; rw [hs]; rfl
    have hk : g_der_Int.j3 (x :: y :: r) false = some (.done (.mk 2 (x :: y :: r) false [])) := rfl
    have hb : g_der_Int.l2 (x :: y :: r) = some (if ((x.toNat : Int) = 0 ∧ (y.toNat : Int) < 128) ∨ ((x.toNat : Int) = 255 ∧ (128 : Int) ≤ (y.toNat : Int)) then .next (y :: r) else .done (.mk 2 (x :: y :: r) false [])) := by
      unfold g_der_Int.l2
      rw [decide_eq_true hl, hg0, hg1]
      simp only [cond_true, Option.bind_some]
      by_cases a0 : (x.toNat : Int) = 0
      · have a1 : ¬ (x.toNat : Int) = 255 := by omega
        by_cases c0 : (y.toNat : Int) < 128
        · rw [decide_eq_true a0, decide_eq_true c0, if_pos (.inl ⟨a0, c0⟩)]; simp only [cond_true, cond_false]; exact hj
        · rw [decide_eq_true a0, decide_eq_false c0, decide_eq_false a1, if_neg (by omega)]; simp only [cond_true, cond_false]; exact hk
      · by_cases a1 : (x.toNat : Int) = 255
        · rw [decide_eq_false a0, decide_eq_true a1]
          by_cases c1 : (128 : Int) ≤ (y.toNat : Int)
          · rw [decide_eq_true c1, if_pos (.inr ⟨a1, c1⟩)]; simp only [cond_true, cond_false]; exact hj
          · rw [decide_eq_false c1, if_neg (by omega)]; simp only [cond_true, cond_false]; exact hk
        · rw [decide_eq_false a0, decide_eq_false a1, if_neg (by omega)]; simp only [cond_true, cond_false]; exact hk
    rw [loop_eq, strip_step]
    rw [hb]
    split
    · exact ih
    · rfl
theorem der_Int (n : Int) : g_der_Int n = some (intV n) := by
  unfold g_der_Int
  refine loop_path 8 (fun k => ((56 - 8 * (k : Int)), beK n k)) (intV n) ?_ ?_
  · intro k hk
    show g_der_Int.l1 n (56 - 8 * (k : Int)) (beK n k) = _
    unfold g_der_Int.l1
    rw [decide_eq_true (by omega), shrK_ok (56 - 8 * k) (by omega) (by show 56 - 8 * k ≤ 64; omega)]
    simp only [cond_true, Option.bind_some]
    rw [appI_ok (by rw [beK_len]; simp; omega), W_id (by omega), u8_wrap, ← beK_succ]
    simp only [Option.bind_some]
    congr 3
    omega
  · show g_der_Int.l1 n (56 - 8 * ((8 : Nat) : Int)) (beK n 8) = _
    unfold g_der_Int.l1
    rw [der_int_strip _ (by rw [beK_len]; omega)]
    rfl
theorem ref_int_l1 (x : Int) (y : UInt8) (r : List UInt8) : g_ref01_Int.l1 x (y :: r) = g_ref01_Int.j2 x (y :: r) (!((decide (x = 0) && decide ((y.toNat : Int) < 128)) || (decide (x = -1) && decide (128 ≤ (y.toNat : Int))))) := by
  have hg : getI (y :: r) 0 = some y := rfl
  unfold g_ref01_Int.l1
  by_cases h0 : x = 0
  · have h1 : ¬ x = -1 := by omega
    by_cases c : (y.toNat : Int) < 128
    · have c' : ¬ (128 : Int) ≤ (y.toNat : Int) := by omega
      simp [h0, hg, c, c']
    · have c' : (128 : Int) ≤ (y.toNat : Int) := by omega
      simp [h0, hg, c, c']
  · by_cases h1 : x = -1
    · by_cases c : (y.toNat : Int) < 128
      · have c' : ¬ (128 : Int) ≤ (y.toNat : Int) := by omega
        simp [h1, hg, c, c']
      · have c' : (128 : Int) ≤ (y.toNat : Int) := by omega
        simp [h1, hg, c, c']
    · simp [h0, h1]
theorem ref_int_loop (n : Int) (h1 : -9223372036854775808 ≤ n) (h2 : n ≤ 9223372036854775807) : ∀ d k, k + d = 7 → (∀ j, 1 ≤ j → j ≤ k → fits n j = false) → loop (fun q' => g_ref01_Int.l1 q'.1 q'.2) (n / 256 ^ (k + 1), (beK n 8).drop (7 - k)) = some (intV n) := by
  intro d
  induction d with
  | zero =>
    intro k hk hn
    obtain rfl : k = 7 := by omega
    have hf := (fits_iff n h1 h2 7 (by omega)).1 rfl
    rw [loop_eq]
    dsimp only
    rw [drop_be n 7 (by omega), ref_int_l1]
    have hs := sizeI_at n 7 (by omega) hn rfl
    have hc : ((decide (n / 256 ^ (7 + 1) = 0) && decide (((byteN n 7).toNat : Int) < 128)) || (decide (n / 256 ^ (7 + 1) = -1) && decide (128 ≤ ((byteN n 7).toNat : Int)))) = true := by simpa using hf
    rw [hc]
    show some (api_Value.mk 2 (byteN n 7 :: (beK n 8).drop (8 - 7)) false []) = some (intV n)
    unfold intV
    rw [intB_eq n h1 h2, hs, ← drop_be n 7 (by omega)]
  | succ d ih =>
    intro k hk hn
    have FI := fits_iff n h1 h2 k (by omega)
    rw [loop_eq]
    dsimp only
    rw [drop_be n k (by omega), ref_int_l1]
    cases hf : fits n (k + 1) with
    | true =>
      have hs := sizeI_at n k (by omega) hn hf
      have hc : ((decide (n / 256 ^ (k + 1) = 0) && decide (((byteN n k).toNat : Int) < 128)) || (decide (n / 256 ^ (k + 1) = -1) && decide (128 ≤ ((byteN n k).toNat : Int)))) = true := by simpa using FI.1 hf
      rw [hc]
      show some (api_Value.mk 2 (byteN n k :: (beK n 8).drop (8 - k)) false []) = some (intV n)
      unfold intV
      rw [intB_eq n h1 h2, hs, ← drop_be n k (by omega), show 8 - (k + 1) = 7 - k by omega]
    | false =>
      have hc : ((decide (n / 256 ^ (k + 1) = 0) && decide (((byteN n k).toNat : Int) < 128)) || (decide (n / 256 ^ (k + 1) = -1) && decide (128 ≤ ((byteN n k).toNat : Int)))) = false := by
        cases hq : ((decide (n / 256 ^ (k + 1) = 0) && decide (((byteN n k).toNat : Int) < 128)) || (decide (n / 256 ^ (k + 1) = -1) && decide (128 ≤ ((byteN n k).toNat : Int)))) with
        | false => rfl
        | true =>
          have := FI.2 (by simpa using hq)
          rw [hf] at this; cases this
      rw [hc]
      have e := ih (k + 1) (by omega) fun j a b => by
        rcases Nat.lt_or_ge k j with h | h
        · obtain rfl : j = k + 1 := by omega
          exact hf
        · exact hn j a h
      rw [drop_be n (k + 1) (by omega), show 8 - (k + 1) = 7 - k by omega, ← div_succ] at e
      unfold g_ref01_Int.j2
      rw [Bool.not_false, cond_true, appI_ok (by simp [beK_len]; omega), shr8, ← drop_be n k (by omega)]
      exact e
theorem ref01_Int (n : Int) (h1 : -9223372036854775808 ≤ n) (h2 : n ≤ 9223372036854775807) : g_ref01_Int n = some (intV n) := by
  unfold g_ref01_Int
  rw [shr8]
  have := ref_int_loop n h1 h2 7 0 (by omega) (fun j a b => by omega)
  rw [show (beK n 8).drop (7 - 0) = [byteN n 0] by rw [be8]; rfl] at this
  rw [Option.bind_some, show u8 n = byteN n 0 by rw [← u8_byteN]; simp]
  exact this
theorem intV_sz (n : Int) : (intV n).sz ≤ 9 := by
  unfold intV
  rw [sz_eq]
  have h := strip_le (beK n 8)
  rw [beK_len] at h
  show (intB n).length + szs [] + 1 ≤ 9
  unfold intB
  rw [szs]; omega
end
section
open Go
mutual
theorem put_le : ∀ v : api_Value, v.sz < 67108864 → v.put.length ≤ 8 * v.sz
  | .mk t b n es, h => by
    rw [api_Value.sz] at h ⊢
    have h1 := putAll_le es (by omega)
    rw [api_Value.put]
    cases n
    · have h2 := lenB_le (n := b.length) (by omega)
      simp; omega
    · have h2 := lenB_le (n := (putAll es).length) (by omega)
      simp; omega
theorem putAll_le : ∀ es : List api_Value, szs es < 67108864 → (putAll es).length ≤ 8 * szs es
  | [], _ => by simp [putAll]
  | v :: vs, h => by
    rw [szs] at h ⊢
    have h1 := put_le v (by omega)
    have h2 := putAll_le vs (by omega)
    rw [putAll, List.length_append]; omega
end
theorem remI_nat (n k : Nat) (hk : 0 < k) : remI (n : Int) (k : Int) = some ((n % k : Nat) : Int) := by
  unfold remI
  rw [if_neg (by omega), Int.tmod_eq_emod_of_nonneg (by omega)]; rfl
theorem quoI_nat (n k : Nat) (hk : 0 < k) (hn : n < 4611686018427387904) : quoI (n : Int) (k : Int) = some ((n / k : Nat) : Int) := by
  unfold quoI
  have : n / k ≤ n := Nat.div_le_self n k
  rw [if_neg (by omega), Int.tdiv_eq_ediv_of_nonneg (by omega), show ((n : Int) / (k : Int)) = ((n / k : Nat) : Int) from rfl, W_nat (by omega)]
theorem ref_len_loop (n : Nat) : ∀ (b : List UInt8), n < 281474976710656 → cnt n + b.length ≤ 1000 → loop (fun q' => g_ref01_length.l1 q'.1 q'.2) ((n : Int), b) = some (UInt8.ofNat (128 + (be n ++ b).length) :: (be n ++ b)) := by
  induction n using Nat.strongRecOn with
  | _ n ih =>
    intro b hn hb
    rcases Nat.eq_zero_or_pos n with h0 | h0
    · subst h0
      refine loop_done ?_
      show g_ref01_length.l1 ((0 : Nat) : Int) b = _
      unfold g_ref01_length.l1
      rw [decide_eq_false (by omega), cond_false, W_id (by omega), appI_ok (by simp; omega), show (128 : Int) + (b.length : Int) = ((128 + b.length : Nat) : Int) by omega, u8_nat, be_0]
      rfl
    · have hc := cnt_pos h0
      have e := ih (n / 256) (Nat.div_lt_self h0 (by omega)) ([UInt8.ofNat (n % 256)] ++ b) (Nat.lt_of_le_of_lt (Nat.div_le_self n 256) hn) (by simp; omega)
      refine (loop_next (s' := (((n / 256 : Nat) : Int), [UInt8.ofNat (n % 256)] ++ b)) ?_).trans (e.trans ?_)
      · show g_ref01_length.l1 (n : Int) b = _
        unfold g_ref01_length.l1
        rw [decide_eq_true (by omega), cond_true, show (256 : Int) = ((256 : Nat) : Int) from rfl, remI_nat n 256 (by omega), Option.bind_some, appI_ok (by simp; omega), Option.bind_some, quoI_nat n 256 (by omega) (by omega), Option.bind_some, u8_nat]
      · rw [be_pos h0]
        simp
theorem ref01_length {n : Nat} (hn : n < 281474976710656) : g_ref01_length (n : Int) = some (lenB n) := by
  unfold g_ref01_length lenB
  by_cases h : n < 128
  · rw [decide_eq_true (by omega), if_pos h, u8_nat]; rfl
  · rw [decide_eq_false (by omega), if_neg h, cond_false]
    have hc := cnt_le 6 n (by simpa using hn)
    refine (ref_len_loop n [] hn (by simp; omega)).trans ?_
    rw [List.append_nil]; rfl
theorem shr8n (n : Nat) : shrK .i64 (n : Int) 8 = some ((n / 256 : Nat) : Int) := by rw [shr8]; rfl
theorem der_len_count (b : List UInt8) (N : Int) (m : Nat) : ∀ c : Nat, m < 281474976710656 → c + cnt m ≤ 1000 →
    loop (fun q' => g_der_length.l1 b N q'.1 q'.2) ((c : Int), (m : Int)) = (appI 1 b ([u8 (W (128 + ((c + cnt m : Nat) : Int)))] : List UInt8)).bind fun l_2 => loop (fun q' => g_der_length.l2 N q'.1 q'.2) (W (((c + cnt m : Nat) : Int) - 1), l_2) := by
  induction m using Nat.strongRecOn with
  | _ m ih =>
    intro c hm hc
    rcases Nat.eq_zero_or_pos m with h0 | h0
    · subst h0
      refine loop_up ?_
      show g_der_length.l1 b N (c : Int) ((0 : Nat) : Int) = _
      unfold g_der_length.l1
      rw [decide_eq_false (by omega), cond_false, cnt_0]
      rfl
    · have hq := cnt_pos h0
      have e := ih (m / 256) (Nat.div_lt_self h0 (by omega)) (c + 1) (Nat.lt_of_le_of_lt (Nat.div_le_self m 256) hm) (by omega)
      refine (loop_next (s' := (((c + 1 : Nat) : Int), ((m / 256 : Nat) : Int))) ?_).trans (e.trans ?_)
      · show g_der_length.l1 b N (c : Int) (m : Int) = _
        unfold g_der_length.l1
        rw [decide_eq_true (by omega), cond_true, shr8n, Option.bind_some, W_succ (by omega)]
      · rw [show c + 1 + cnt (m / 256) = c + cnt m by omega]
theorem der_length {b : List UInt8} {n : Nat} (hn : n < 281474976710656) (hb : b.length < 1073741824) : g_der_length b (n : Int) = some (b ++ lenB n) := by
  unfold g_der_length lenB
  by_cases h : n < 128
  · rw [decide_eq_true (by omega), if_pos h, u8_nat, appI_ok (by simp; omega)]; rfl
  · rw [decide_eq_false (by omega), if_neg h, cond_false]
    have hc := cnt_le 6 n (by simpa using hn)
    have e := der_len_count b (n : Int) n 0 hn (by omega)
    refine Eq.trans e ?_
    rw [Nat.zero_add, W_id (by omega), show (128 : Int) + ((cnt n : Nat) : Int) = ((128 + cnt n : Nat) : Int) by omega, u8_nat, appI_ok (by simp; omega), Option.bind_some]
    have hp : 0 < cnt n := by rw [cnt_pos (by omega)]; omega
    rw [W_id (by omega)]
    refine Eq.trans (congrArg (loop _) ?_) (loop_path (cnt n) (fun j => (((cnt n : Int) - 1 - (j : Int)), b ++ [UInt8.ofNat (128 + cnt n)] ++ (be n).take j)) (b ++ UInt8.ofNat (128 + cnt n) :: be n) ?_ ?_)
    · simp
    · intro j hj
      have hg := be_get (cnt n) n rfl j hj
      show g_der_length.l2 (n : Int) ((cnt n : Int) - 1 - (j : Int)) (b ++ [UInt8.ofNat (128 + cnt n)] ++ (be n).take j) = _
      unfold g_der_length.l2
      have ht : ((be n).take j).length ≤ cnt n := by rw [List.length_take]; exact Nat.le_trans (Nat.min_le_right _ _) (Nat.le_refl _)
      rw [decide_eq_true (by omega), cond_true, W_id (by omega), shrK_ok (8 * (cnt n - 1 - j)) (by omega) (by show _ ≤ 64; omega), Option.bind_some, appI_ok (by simp; omega), Option.bind_some, W_id (by omega), take_succ' hg]
      have hu : u8 ((n : Int) / 2 ^ (8 * (cnt n - 1 - j))) = UInt8.ofNat (n / 256 ^ (cnt n - 1 - j) % 256) := by
        have e1 : (n : Int) / 2 ^ (8 * (cnt n - 1 - j)) = ((n / 2 ^ (8 * (cnt n - 1 - j)) : Nat) : Int) := by simp
        rw [e1, u8_nat, Nat.pow_mul, show 2 ^ 8 = 256 from rfl]
        apply UInt8.toNat_inj.1
        rw [UInt8.toNat_ofNat', UInt8.toNat_ofNat']
        omega
      rw [hu, ← List.append_assoc]
      congr 3
      omega
    · show g_der_length.l2 (n : Int) ((cnt n : Int) - 1 - ((cnt n : Nat) : Int)) (b ++ [UInt8.ofNat (128 + cnt n)] ++ (be n).take (cnt n)) = _
      unfold g_der_length.l2
      rw [decide_eq_false (by omega), show (be n).take (cnt n) = be n from List.take_of_length_le (Nat.le_refl _)]
      simp [up]
end
section
open Go
theorem put_body (v : api_Value) : v.put = UInt8.ofNat (v.Tag.toNat % 256) :: (lenB v.body.length ++ v.body) := by cases v; exact put_eq _ _ _ _
theorem body_eq (v : api_Value) : v.body = if v.Nested then putAll v.Elements else v.Bytes := by cases v; rfl
theorem body_le (v : api_Value) (h : v.sz < 67108864) : v.body.length ≤ 8 * v.sz := by
  have h1 := put_le v h
  rw [put_body] at h1
  simp at h1
  omega
theorem formed_tag {v : api_Value} (h : v.formed = true) : u8 v.Tag = UInt8.ofNat (v.Tag.toNat % 256) := by
  rw [formed_eq] at h
  simp only [Bool.and_eq_true] at h
  obtain ⟨m, hm⟩ := fin256 (tagB_range h.1.1.1.1).1 (tagB_range h.1.1.1.1).2
  rw [hm, u8_nat, Int.toNat_natCast, Nat.mod_eq_of_lt m.2]
theorem formed_cat {v : api_Value} (h : v.formed = true) : v.Bytes ++ putAll v.Elements = v.body := by
  rw [formed_eq] at h
  simp only [Bool.and_eq_true] at h
  obtain ⟨⟨⟨-, h1⟩, h2⟩, -⟩ := h
  rw [body_eq]
  cases hn : v.Nested with
  | true =>
    rw [hn] at h1
    have : v.Bytes = [] := List.eq_nil_of_length_eq_zero (by simp at h1; simpa using h1)
    rw [this]; rfl
  | false =>
    rw [hn] at h2
    have : v.Elements = [] := List.eq_nil_of_length_eq_zero (by simp at h2; simpa using h2)
    rw [this]; simp [putAll]
theorem formed_mem {v e : api_Value} (h : v.formed = true) (he : e ∈ v.Elements) : e.formed = true := by
  rw [formed_eq] at h
  simp only [Bool.and_eq_true] at h
  have := h.2
  rw [formedAll_eq, List.all_eq_true] at this
  exact this e he
def Fit (v : api_Value) : Prop := v.formed = true ∧ v.sz < 67108864
theorem Fit.elem {v e : api_Value} (h : Fit v) (he : e ∈ v.Elements) : Fit e := ⟨formed_mem h.1 he, Nat.lt_trans (szs_elem he) h.2⟩
theorem putAll_take_le' {v : api_Value} (h : Fit v) (i : Nat) : (putAll (v.Elements.take i)).length ≤ 536870912 := by
  have h1 := putAll_take_le (es := v.Elements) i
  have h0 := sz_eq v
  have h2 := h.2
  have h3 := putAll_le v.Elements (by omega)
  omega
theorem ref01_put (v : api_Value) (h : Fit v) : g_ref01_put v = some v.put :=
  fixT_spec mono_ref01_put api_Value.put api_Value.sz Fit (fun rec v hv hr => by
    show g_ref01_put.F rec v = some v.put
    unfold g_ref01_put.F
    have hn := szs_len v.Elements
    have h0 := sz_eq v
    have hz := hv.2
    rw [appI_ok (by simp; omega), List.nil_append, Option.bind_some]
    refine Eq.trans (congrArg (loop _) ?_) (loop_path v.Elements.length (fun i => ((i : Int), v.Bytes ++ putAll (v.Elements.take i))) v.put ?_ ?_)
    · simp [putAll]
    · intro i hi
      obtain ⟨e, he⟩ : ∃ e, v.Elements[i]? = some e := ⟨_, List.getElem?_eq_getElem hi⟩
      have h1 := szs_elem (at_mem he)
      have h2 := putAll_take_le' hv i
      have h3 := put_le e (by omega)
      show g_ref01_put.l1 rec v (i : Int) (v.Bytes ++ putAll (v.Elements.take i)) = _
      unfold g_ref01_put.l1
      rw [for_in he, hr e (hv.elem (at_mem he)) h1, Option.bind_some, appI_ok (by simp; omega), W_succ (by omega), putAll_take_succ he, List.append_assoc]
      rfl
    · show g_ref01_put.l1 rec v (v.Elements.length : Int) (v.Bytes ++ putAll (v.Elements.take v.Elements.length)) = _
      have h4 := body_le v hz
      have h5 := lenB_le (n := v.body.length) (by omega)
      unfold g_ref01_put.l1
      rw [for_out, List.take_length, formed_cat hv.1, ref01_length (by omega), Option.bind_some, appI_ok (by simp; omega), Option.bind_some, appI_ok (by simp; omega), Option.bind_some, formed_tag hv.1, put_body]
      simp [up]) v h
theorem der_element {rec : api_Value → Option (List UInt8)} {b : List UInt8} {v : api_Value} (hr : rec v = some v.body) (hb : b.length ≤ 536870912) (hv : Fit v) : g_der_element rec b v = some (b ++ v.put) := by
  have h4 := body_le v hv.2
  have hz := hv.2
  have h5 := lenB_le (n := v.body.length) (by omega)
  unfold g_der_element
  rw [hr, Option.bind_some, appI_ok (by simp; omega), Option.bind_some, der_length (by omega) (by simp; omega), Option.bind_some, appI_ok (by simp; omega), Option.bind_some, formed_tag hv.1, put_body]
  simp
theorem der_contents (v : api_Value) (h : Fit v) : g_der_contents v = some v.body :=
  fixT_spec mono_der_contents api_Value.body api_Value.sz Fit (fun rec v hv hr => by
    show g_der_contents.F rec v = some v.body
    unfold g_der_contents.F
    have hn := szs_len v.Elements
    have h0 := sz_eq v
    have hz := hv.2
    rw [body_eq]
    cases hN : v.Nested with
    | false => rfl
    | true =>
      rw [Bool.not_true, cond_false, if_pos rfl]
      refine loop_path v.Elements.length (fun i => ((i : Int), putAll (v.Elements.take i))) (putAll v.Elements) ?_ ?_
      · intro i hi
        obtain ⟨e, he⟩ : ∃ e, v.Elements[i]? = some e := ⟨_, List.getElem?_eq_getElem hi⟩
        have h1 := szs_elem (at_mem he)
        have h2 := putAll_take_le' hv i
        have hf := hv.elem (at_mem he)
        show g_der_contents.l1 rec v (i : Int) (putAll (v.Elements.take i)) = _
        unfold g_der_contents.l1
        rw [for_in he, der_element (hr e hf h1) h2 hf, W_succ (by omega), putAll_take_succ he]
        rfl
      · show g_der_contents.l1 rec v (v.Elements.length : Int) (putAll (v.Elements.take v.Elements.length)) = _
        unfold g_der_contents.l1
        rw [for_out, List.take_length]; rfl) v h
theorem der_element_nil (v : api_Value) (h : Fit v) : g_der_element_nil v = some v.put := by
  have e := der_element (rec := g_der_contents) (b := []) (der_contents v h) (by simp) h
  exact e
def encS (v : api_Value) : List UInt8 × Int := if v.formed then (if 16 < v.depth then ([], 3) else if 4096 < v.put.length then ([], 3) else (v.put, 0)) else ([], 1)
theorem der_Encode (v : api_Value) (h : v.sz < 67108864) : g_der_Encode v = some (encS v) := by
  unfold g_der_Encode encS
  rw [der_formed v (by omega), Option.bind_some]
  cases hf : v.formed with
  | false => rfl
  | true =>
    rw [Bool.not_true, cond_false, if_pos rfl, der_depth v (by omega), Option.bind_some]
    by_cases hd : 16 < v.depth
    · rw [decide_eq_true (by omega), if_pos hd]; rfl
    · rw [decide_eq_false (by omega), if_neg hd, cond_false, der_element_nil v ⟨hf, h⟩, Option.bind_some]
      by_cases hl : 4096 < v.put.length
      · rw [decide_eq_true (by omega), if_pos hl]; rfl
      · rw [decide_eq_false (by omega), if_neg hl]; rfl
theorem ref01_Encode (v : api_Value) (h : v.sz < 67108864) : g_ref01_Encode v = some (encS v) := by
  unfold g_ref01_Encode encS
  rw [ref01_formed v (by omega), Option.bind_some]
  cases hf : v.formed with
  | false => rfl
  | true =>
    rw [Bool.not_true, cond_false, if_pos rfl, ref01_depth v (by omega), Option.bind_some]
    by_cases hd : 16 < v.depth
    · rw [decide_eq_true (by omega), if_pos hd]; rfl
    · rw [decide_eq_false (by omega), if_neg hd, cond_false, ref01_put v ⟨hf, h⟩, Option.bind_some]
      by_cases hl : 4096 < v.put.length
      · rw [decide_eq_true (by omega), if_pos hl]; rfl
      · rw [decide_eq_false (by omega), if_neg hl]; rfl
end
end Go.Proofs.YtmbhoimeiahbaaaGreat
