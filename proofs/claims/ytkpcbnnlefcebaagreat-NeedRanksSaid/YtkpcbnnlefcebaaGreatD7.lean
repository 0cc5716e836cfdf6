/- Plain texts, joined. No program is in sight here. -/
import Derived.Test.YtkpcbnnlefcebaaGreatP1
import Derived.WalkKit
import Derived.Test.YtkpcbnnlefcebaaGreatL3
import Derived.Test.YtkpcbnnlefcebaaGreatC1
set_option linter.unusedVariables false
set_option linter.unusedSimpArgs false
namespace Go.Proofs.YtkpcbnnlefcebaaGreat
section
open Go
def vU (t : Int) : Bool := decide (1 <= t) && decide (t <= 255) && (t % 32 != 31)
def pE (t : Int) : Bool := t / 32 % 2 == 1
mutual
def Ah.formed : Ah -> Bool
 | .mk t b n es => vU t && (n == pE t) && !(n && decide (0 < b.length)) && !(!n && decide (0 < es.length)) && Mw es
def Mw : List Ah -> Bool
 | [] => true
 | v :: vs => v.formed && Mw vs
end
theorem T0 : ∀ es : List Ah, Mw es = es.all Ah.formed
 | [] => by simp [Mw]
 | v :: vs => by rw [Mw, T0 vs, List.all_cons]
mutual
def Ah.depth : Ah -> Nat
 | .mk _ _ _ es => bB es + 1
def bB : List Ah -> Nat
 | [] => 0
 | v :: vs => max v.depth (bB vs)
end
mutual
def Ah.same : Ah -> Ah -> Bool
 | .mk t b n es, .mk t' b' n' es' => t == t' && n == n' && b == b' && eO es es'
def eO : List Ah -> List Ah -> Bool
 | [], [] => true
 | v :: vs, u :: us => v.same u && eO vs us
 | _, _ => false
end
def be (n : Nat) : List UInt8 := if h : n = 0 then [] else be (n / 256) ++ [UInt8.ofNat (n % 256)]
termination_by n
decreasing_by omega
def zW (n : Nat) : Nat := (be n).length
def zJ (n : Nat) : List UInt8 := if n < 128 then [UInt8.ofNat n] else UInt8.ofNat (128 + zW n) :: be n
mutual
def Ah.put : Ah -> List UInt8
 | .mk t b n es => UInt8.ofNat (t.toNat % 256) :: (zJ ((if n then Ze es else b).length) ++ (if n then Ze es else b))
def Ze : List Ah -> List UInt8
 | [] => []
 | v :: vs => v.put ++ Ze vs
end
def Ah.body : Ah -> List UInt8 | .mk _ b n es => if n then Ze es else b
end
section
open Go
mutual
def Ah.sz : Ah -> Nat
 | .mk _ b _ es => b.length + vR es + 1
def vR : List Ah -> Nat
 | [] => 0
 | v :: vs => v.sz + vR vs
end
theorem wR (v : Ah) : v.sz = v.Bytes.length + vR v.Elements + 1 := by cases v; rw [Ah.sz]
theorem fI : ∀ {es : List Ah} {d : Ah}, d ∈ es -> d.sz <= vR es
 | v :: vs, d, h => by
  rw [vR]
  rcases List.mem_cons.1 h with rfl | h
  ·omega
  ·have := fI h; omega
theorem iG {v d : Ah} (h : d ∈ v.Elements) : d.sz < v.sz := by
 have := fI h
 rw [wR v]; omega
theorem fU (v : Ah) : v.formed = (vU v.Tag && (v.Nested == pE v.Tag) && !(v.Nested && decide (0 < v.Bytes.length)) && !(!v.Nested && decide (0 < v.Elements.length)) && Mw v.Elements) := by cases v; rw [Ah.formed]
end
section
open Go
end
section
open Go
end
section
open Go
theorem cV {v e : Ah} (h : v.formed = true) (he : e ∈ v.Elements) : e.formed = true := by
 rw [fU] at h
 simp only [Bool.and_eq_true] at h
 have := h.2
 rw [T0, List.all_eq_true] at this
 exact this e he
def yY (v : Ah) : Prop := v.formed = true /\ v.sz < 67108864
theorem yY.elem {v e : Ah} (h : yY v) (he : e ∈ v.Elements) : yY e := ⟨cV h.1 he, Nat.lt_trans (iG he) h.2⟩
end
end Go.Proofs.YtkpcbnnlefcebaaGreat
