/- The bytes of a length, of an element. No program is in sight here. -/
import Derived.Test.YthohienbmhohjaaSpec2
namespace Go.Proofs.Ythohienbmhohjaa
open Go.RowKit

/-- The bytes of a number, the highest first, none for 0. -/
def be (n : Nat) : List UInt8 := if h : n = 0 then [] else be (n / 256) ++ [UInt8.ofNat (n % 256)]
termination_by n
decreasing_by omega
theorem be_0 : be 0 = [] := by rw [be]; rfl
theorem be_pos {n : Nat} (h : 0 < n) : be n = be (n / 256) ++ [UInt8.ofNat (n % 256)] := by rw [be]; rw [dif_neg (by omega)]
def cnt (n : Nat) : Nat := (be n).length
theorem cnt_0 : cnt 0 = 0 := by unfold cnt; rw [be_0]; rfl
theorem cnt_pos {n : Nat} (h : 0 < n) : cnt n = cnt (n / 256) + 1 := by unfold cnt; rw [be_pos h]; simp
theorem div_pow_succ (n i : Nat) : n / 256 ^ i / 256 = n / 256 ^ (i + 1) := by rw [Nat.div_div_eq_div_mul, Nat.pow_succ]
/-- The byte at a place. -/
theorem be_get : ∀ (c n : Nat), cnt n = c → ∀ j, j < c → (be n)[j]? = some (UInt8.ofNat (n / 256 ^ (c - 1 - j) % 256)) := by
  intro c
  induction c with
  | zero => intro n _ j hj; omega
  | succ c ih =>
    intro n hn j hj
    have hpos : 0 < n := by
      rcases Nat.eq_zero_or_pos n with h | h
      · subst h; rw [cnt_0] at hn; omega
      · exact h
    have hc : cnt (n / 256) = c := by rw [cnt_pos hpos] at hn; omega
    rw [be_pos hpos, List.getElem?_append]
    have hl : (be (n / 256)).length = c := hc
    rw [hl]
    by_cases h : j < c
    · rw [if_pos h, ih _ hc j h]
      have e : n / 256 / 256 ^ (c - 1 - j) = n / 256 ^ (c + 1 - 1 - j) := by
        rw [Nat.div_div_eq_div_mul, show c + 1 - 1 - j = (c - 1 - j) + 1 by omega, Nat.pow_succ, Nat.mul_comm]
      rw [e]
    · obtain rfl : j = c := by omega
      rw [if_neg h]
      simp
theorem cnt_le (k : Nat) : ∀ n, n < 256 ^ k → cnt n ≤ k := by
  induction k with
  | zero => intro n h; have : n = 0 := by simpa using h
            subst this; rw [cnt_0]; omega
  | succ k ih =>
    intro n h
    rcases Nat.eq_zero_or_pos n with h0 | h0
    · subst h0; rw [cnt_0]; omega
    · rw [cnt_pos h0]
      have := ih (n / 256) (by rw [Nat.pow_succ] at h; exact Nat.div_lt_of_lt_mul (by rw [Nat.mul_comm]; exact h))
      omega
def lenB (n : Nat) : List UInt8 := if n < 128 then [UInt8.ofNat n] else UInt8.ofNat (128 + cnt n) :: be n

mutual
def V.put : V → List UInt8
  | .mk t b n es => UInt8.ofNat (t.toNat % 256) :: (lenB ((if n then putAll es else b).length) ++ (if n then putAll es else b))
def putAll : List V → List UInt8
  | [] => []
  | v :: vs => v.put ++ putAll vs
end
def V.body : V → List UInt8 | .mk _ b n es => if n then putAll es else b
theorem put_eq (t : Int) (b : List UInt8) (n : Bool) (es : List V) : (V.mk t b n es).put = UInt8.ofNat (t.toNat % 256) :: (lenB (V.mk t b n es).body.length ++ (V.mk t b n es).body) := by rw [V.put]; rfl
theorem putAll_append : ∀ a b : List V, putAll (a ++ b) = putAll a ++ putAll b
  | [], b => by simp [putAll]
  | v :: vs, b => by rw [List.cons_append, putAll, putAll, putAll_append vs b, List.append_assoc]
theorem putAll_take_succ {es : List V} {k : Nat} {d : V} (h : es[k]? = some d) : putAll (es.take (k + 1)) = putAll (es.take k) ++ d.put := by
  obtain ⟨hk, e⟩ := List.getElem?_eq_some_iff.1 h
  rw [List.take_succ_eq_append_getElem hk, putAll_append, e]
  simp [putAll]
theorem putAll_take_le {es : List V} (k : Nat) : (putAll (es.take k)).length ≤ (putAll es).length := by
  have := putAll_append (es.take k) (es.drop k)
  rw [List.take_append_drop] at this
  rw [this, List.length_append]; omega
theorem putAll_mem : ∀ {es : List V} {d : V}, d ∈ es → d.put.length ≤ (putAll es).length
  | v :: vs, d, h => by
    rw [putAll, List.length_append]
    rcases List.mem_cons.1 h with rfl | h
    · omega
    · have := putAll_mem h; omega
theorem lenB_le {n : Nat} (h : n < 256 ^ 6) : (lenB n).length ≤ 7 := by
  unfold lenB
  split
  · simp
  · have := cnt_le 6 n h
    unfold cnt at this
    simp; omega
end Go.Proofs.Ythohienbmhohjaa
