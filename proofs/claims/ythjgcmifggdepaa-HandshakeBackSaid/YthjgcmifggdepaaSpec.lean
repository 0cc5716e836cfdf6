/- What the functions of package handshake and of its reference compute, as plain functions on plain data. No program is in sight here. -/
import Derived.Test.YthjgcmifggdepaaMem
set_option linter.unusedSimpArgs false
set_option linter.unusedVariables false
namespace Go.Proofs.Ythjgcmifggdepaa
open Go.RowKit

/-- A number's lowest byte. -/
def b8 (n : Int) : UInt8 := UInt8.ofNat (n % 256).toNat
theorem b8_nat (n : Int) : ((b8 n).toNat : Int) = n % 256 := by
  unfold b8
  rw [UInt8.toNat_ofNat', Nat.mod_eq_of_lt (by omega)]
  omega
theorem b8_small {n : Int} (h : 0 ≤ n) (h2 : n ≤ 255) : ((b8 n).toNat : Int) = n := by rw [b8_nat]; omega

/-- Whether numbers are different ones of a range: those seen, those to come. -/
def distB (lo hi : Int) : List Int → List Int → Bool
  | _, [] => true
  | seen, x :: r => decide (lo ≤ x) && decide (x ≤ hi) && !(seen.contains x) && distB lo hi (seen ++ [x]) r
theorem distB_step {lo hi : Int} {l : List Int} {k : Nat} {x : Int} (h : l[k]? = some x) : distB lo hi (l.take k) (l.drop k) = (decide (lo ≤ x) && decide (x ≤ hi) && !((l.take k).contains x) && distB lo hi (l.take (k + 1)) (l.drop (k + 1))) := by
  obtain ⟨hk, e⟩ := List.getElem?_eq_some_iff.1 h
  rw [List.drop_eq_getElem_cons hk, e, distB, List.take_succ_eq_append_getElem hk, e]
theorem distB_end {lo hi : Int} {l : List Int} {k : Nat} (h : l.length ≤ k) : distB lo hi (l.take k) (l.drop k) = true := by
  rw [List.drop_of_length_le h, distB]

structure Hl where
  most : Int
  su : List Int
  ha : List Int
structure Ch where
  ver : Int
  suite : Int
  key : Int
def helloB (h : Hl) : Bool := decide (1 ≤ h.most) && decide (h.most ≤ 4) && decide (1 ≤ h.su.length) && decide (h.su.length ≤ 16) && decide (h.ha.length ≤ 16) && distB 0 65535 [] h.su && distB 1 255 [] h.ha
def choiceB (c : Ch) : Bool := decide (1 ≤ c.ver) && decide (c.ver ≤ 4) && decide (0 ≤ c.suite) && decide (c.suite ≤ 65535) && decide (0 ≤ c.key) && decide (c.key ≤ 2147483648)
def two8 (n : Int) : List UInt8 := [b8 (n / 256), b8 n]
def rawH (h : Hl) : List UInt8 := [1, b8 h.most, b8 h.su.length] ++ h.su.flatMap two8 ++ [b8 h.ha.length] ++ h.ha.map b8
def rawC (c : Ch) : List UInt8 := [2, b8 c.ver, b8 (c.suite / 256), b8 c.suite, b8 (c.key / 16777216), b8 (c.key / 65536), b8 (c.key / 256), b8 c.key]
theorem flat_take_succ {l : List Int} {k : Nat} {x : Int} (h : l[k]? = some x) : (l.take (k + 1)).flatMap two8 = (l.take k).flatMap two8 ++ two8 x := by
  obtain ⟨hk, e⟩ := List.getElem?_eq_some_iff.1 h
  rw [List.take_succ_eq_append_getElem hk, List.flatMap_append, e]
  simp
theorem map_take_succ {l : List Int} {k : Nat} {x : Int} (h : l[k]? = some x) : (l.take (k + 1)).map b8 = (l.take k).map b8 ++ [b8 x] := by
  obtain ⟨hk, e⟩ := List.getElem?_eq_some_iff.1 h
  rw [List.take_succ_eq_append_getElem hk, List.map_append, e]
  simp
/-- Records of a size. -/
def recs (size : Nat) (l : List UInt8) : List UInt8 :=
  if h : l = [] ∨ size = 0 then [] else [22, b8 (((min size l.length : Nat) : Int) / 256), b8 ((min size l.length : Nat) : Int)] ++ l.take size ++ recs size (l.drop size)
termination_by l.length
decreasing_by
  have : l.length ≠ 0 := fun e => h (.inl (List.eq_nil_of_length_eq_zero e))
  have : size ≠ 0 := fun e => h (.inr e)
  rw [List.length_drop]; omega
theorem recs_nil (size : Nat) : recs size [] = [] := by rw [recs]; simp
theorem recs_step {size : Nat} {l : List UInt8} (hs : 0 < size) (hl : 0 < l.length) : recs size l = [22, b8 (((min size l.length : Nat) : Int) / 256), b8 ((min size l.length : Nat) : Int)] ++ l.take size ++ recs size (l.drop size) := by
  rw [recs, dif_neg]
  rintro (rfl | rfl)
  · simp at hl
  · omega
end Go.Proofs.Ythjgcmifggdepaa
