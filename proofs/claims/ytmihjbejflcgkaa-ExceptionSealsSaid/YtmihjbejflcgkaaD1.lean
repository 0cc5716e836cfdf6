/- Elements: formed, depth, bytes; numbers and their bytes. No program is in sight here. -/
import Derived.Test.YtmihjbejflcgkaaP1
import Derived.WalkKit
set_option linter.unusedVariables false
set_option linter.unusedSimpArgs false
namespace Go.Proofs.Ytmihjbejflcgkaa
open Go
def tagB (t : Int) : Bool := decide (1 ≤ t) && decide (t ≤ 255) && (t % 32 != 31)
def nestB (t : Int) : Bool := t / 32 % 2 == 1
mutual
def api_Value.formed : api_Value → Bool
  | .mk t b n es => tagB t && (n == nestB t) && !(n && decide (0 < b.length)) && !(!n && decide (0 < es.length)) && formedAll es
def formedAll : List api_Value → Bool
  | [] => true
  | v :: vs => v.formed && formedAll vs
end
theorem formedAll_eq : ∀ es : List api_Value, formedAll es = es.all api_Value.formed
  | [] => by simp [formedAll]
  | v :: vs => by rw [formedAll, formedAll_eq vs, List.all_cons]
mutual
def api_Value.depth : api_Value → Nat
  | .mk _ _ _ es => depthAll es + 1
def depthAll : List api_Value → Nat
  | [] => 0
  | v :: vs => max v.depth (depthAll vs)
end
theorem depthAll_append : ∀ a b : List api_Value, depthAll (a ++ b) = max (depthAll a) (depthAll b)
  | [], b => by simp [depthAll]
  | v :: vs, b => by rw [List.cons_append, depthAll, depthAll, depthAll_append vs b, Nat.max_assoc]
theorem depthAll_take_succ {es : List api_Value} {k : Nat} {d : api_Value} (h : es[k]? = some d) : depthAll (es.take (k + 1)) = max (depthAll (es.take k)) d.depth := by
  obtain ⟨hk, e⟩ := List.getElem?_eq_some_iff.1 h
  rw [List.take_succ_eq_append_getElem hk, depthAll_append, e, depthAll, depthAll, Nat.max_zero]
mutual
def api_Value.same : api_Value → api_Value → Bool
  | .mk t b n es, .mk t' b' n' es' => t == t' && n == n' && b == b' && sameAll es es'
def sameAll : List api_Value → List api_Value → Bool
  | [], [] => true
  | v :: vs, u :: us => v.same u && sameAll vs us
  | _, _ => false
end
def strip : List UInt8 → List UInt8
  | x :: y :: r => if (x = 0 ∧ y < 128) ∨ (x = 255 ∧ 128 ≤ y) then strip (y :: r) else x :: y :: r
  | l => l
def beK (n : Int) (k : Nat) : List UInt8 := (List.range k).map fun j => UInt8.ofNat ((IntKind.u64.wrap n).toNat / 2 ^ (56 - 8 * j) % 256)
def intB (n : Int) : List UInt8 := strip (beK n 8)
def intV (n : Int) : api_Value := .mk 2 (intB n) false []
theorem u64_wrap_pos (n : Int) : 0 ≤ IntKind.u64.wrap n ∧ IntKind.u64.wrap n < 18446744073709551616 := by
  rw [IntKind.wrap_u64]; omega
theorem strip_le : ∀ l : List UInt8, (strip l).length ≤ l.length
  | [] => by simp [strip]
  | [_] => by simp [strip]
  | x :: y :: r => by
    rw [strip]
    split
    · have := strip_le (y :: r); simp at this ⊢; omega
    · simp
def be (n : Nat) : List UInt8 := if h : n = 0 then [] else be (n / 256) ++ [UInt8.ofNat (n % 256)]
termination_by n
decreasing_by omega
theorem be_0 : be 0 = [] := by rw [be]; rfl
theorem be_pos {n : Nat} (h : 0 < n) : be n = be (n / 256) ++ [UInt8.ofNat (n % 256)] := by rw [be]; rw [dif_neg (by omega)]
def cnt (n : Nat) : Nat := (be n).length
theorem cnt_0 : cnt 0 = 0 := by unfold cnt; rw [be_0]; rfl
theorem cnt_pos {n : Nat} (h : 0 < n) : cnt n = cnt (n / 256) + 1 := by unfold cnt; rw [be_pos h]; simp
theorem be_get : ∀ (c n : Nat), cnt n = c → ∀ j, j < c → (be n)[j]? = some (UInt8.ofNat (n / 256 ^ (c - 1 - j) % 256)) := by
  intro c
  induction c with
  | zero => intro n _ j hj; omega
  | succ c ih =>
    intro n hn j hj
    have hpos : 0 < n := by
      rcases Nat.eq_zero_or_pos n with h | h
      · subst h; rw [cnt_0] at hn; omega
      · exact h
    have hc : cnt (n / 256) = c := by rw [cnt_pos hpos] at hn; omega
    rw [be_pos hpos, List.getElem?_append]
    have hl : (be (n / 256)).length = c := hc
    rw [hl]
    by_cases h : j < c
    · rw [if_pos h, ih _ hc j h]
      have e : n / 256 / 256 ^ (c - 1 - j) = n / 256 ^ (c + 1 - 1 - j) := by
        rw [Nat.div_div_eq_div_mul, show c + 1 - 1 - j = (c - 1 - j) + 1 by omega, Nat.pow_succ, Nat.mul_comm]
      rw [e]
    · obtain rfl : j = c := by omega
      rw [if_neg h]
      simp
theorem cnt_le (k : Nat) : ∀ n, n < 256 ^ k → cnt n ≤ k := by
  induction k with
  | zero => intro n h; have : n = 0 := by simpa using h
            subst this; rw [cnt_0]; omega
  | succ k ih =>
    intro n h
    rcases Nat.eq_zero_or_pos n with h0 | h0
    · subst h0; rw [cnt_0]; omega
    · rw [cnt_pos h0]
      have := ih (n / 256) (by rw [Nat.pow_succ] at h; exact Nat.div_lt_of_lt_mul (by rw [Nat.mul_comm]; exact h))
      omega
def lenB (n : Nat) : List UInt8 := if n < 128 then [UInt8.ofNat n] else UInt8.ofNat (128 + cnt n) :: be n
mutual
def api_Value.put : api_Value → List UInt8
  | .mk t b n es => UInt8.ofNat (t.toNat % 256) :: (lenB ((if n then putAll es else b).length) ++ (if n then putAll es else b))
def putAll : List api_Value → List UInt8
  | [] => []
  | v :: vs => v.put ++ putAll vs
end
def api_Value.body : api_Value → List UInt8 | .mk _ b n es => if n then putAll es else b
theorem put_eq (t : Int) (b : List UInt8) (n : Bool) (es : List api_Value) : (api_Value.mk t b n es).put = UInt8.ofNat (t.toNat % 256) :: (lenB (api_Value.mk t b n es).body.length ++ (api_Value.mk t b n es).body) := by rw [api_Value.put]; rfl
theorem putAll_append : ∀ a b : List api_Value, putAll (a ++ b) = putAll a ++ putAll b
  | [], b => by simp [putAll]
  | v :: vs, b => by rw [List.cons_append, putAll, putAll, putAll_append vs b, List.append_assoc]
theorem putAll_take_succ {es : List api_Value} {k : Nat} {d : api_Value} (h : es[k]? = some d) : putAll (es.take (k + 1)) = putAll (es.take k) ++ d.put := by
  obtain ⟨hk, e⟩ := List.getElem?_eq_some_iff.1 h
  rw [List.take_succ_eq_append_getElem hk, putAll_append, e]
  simp [putAll]
theorem putAll_take_le {es : List api_Value} (k : Nat) : (putAll (es.take k)).length ≤ (putAll es).length := by
  have := putAll_append (es.take k) (es.drop k)
  rw [List.take_append_drop] at this
  rw [this, List.length_append]; omega
theorem lenB_le {n : Nat} (h : n < 256 ^ 6) : (lenB n).length ≤ 7 := by
  unfold lenB
  split
  · simp
  · have := cnt_le 6 n h
    unfold cnt at this
    simp; omega
end Go.Proofs.Ytmihjbejflcgkaa
