/- What the functions of package der and of its reference compute, as plain functions on plain data. No program is in sight here. -/
import Derived.Test.YthohienbmhohjaaDerV
namespace Go.Proofs.Ythohienbmhohjaa
open Go.RowKit

def tagB (t : Int) : Bool := decide (1 ≤ t) && decide (t ≤ 255) && (t % 32 != 31)
def nestB (t : Int) : Bool := t / 32 % 2 == 1

mutual
def V.formed : V → Bool
  | .mk t b n es => tagB t && (n == nestB t) && !(n && decide (0 < b.length)) && !(!n && decide (0 < es.length)) && formedAll es
def formedAll : List V → Bool
  | [] => true
  | v :: vs => v.formed && formedAll vs
end
theorem formedAll_eq : ∀ es : List V, formedAll es = es.all V.formed
  | [] => by simp [formedAll]
  | v :: vs => by rw [formedAll, formedAll_eq vs, List.all_cons]

mutual
def V.depth : V → Nat
  | .mk _ _ _ es => depthAll es + 1
def depthAll : List V → Nat
  | [] => 0
  | v :: vs => max v.depth (depthAll vs)
end
theorem depthAll_mem : ∀ {es : List V} {d : V}, d ∈ es → d.depth ≤ depthAll es
  | v :: vs, d, h => by
    rw [depthAll]
    rcases List.mem_cons.1 h with rfl | h
    · exact Nat.le_max_left _ _
    · exact Nat.le_trans (depthAll_mem h) (Nat.le_max_right _ _)
theorem depthAll_append : ∀ a b : List V, depthAll (a ++ b) = max (depthAll a) (depthAll b)
  | [], b => by simp [depthAll]
  | v :: vs, b => by rw [List.cons_append, depthAll, depthAll, depthAll_append vs b, Nat.max_assoc]
theorem depthAll_take_succ {es : List V} {k : Nat} {d : V} (h : es[k]? = some d) : depthAll (es.take (k + 1)) = max (depthAll (es.take k)) d.depth := by
  obtain ⟨hk, e⟩ := List.getElem?_eq_some_iff.1 h
  rw [List.take_succ_eq_append_getElem hk, depthAll_append, e, depthAll, depthAll, Nat.max_zero]
theorem depthAll_take_le {es : List V} (k : Nat) : depthAll (es.take k) ≤ depthAll es := by
  have := depthAll_append (es.take k) (es.drop k)
  rw [List.take_append_drop] at this
  rw [this]; exact Nat.le_max_left _ _

def plainB (d : V) (t : Int) : Bool := match d with | .mk t' _ n es => (t' == t) && !n && (es.length == 0)

mutual
def V.same : V → V → Bool
  | .mk t b n es, .mk t' b' n' es' => t == t' && n == n' && b == b' && sameAll es es'
def sameAll : List V → List V → Bool
  | [], [] => true
  | v :: vs, u :: us => v.same u && sameAll vs us
  | _, _ => false
end

/-! the bits of a tag -/
theorem and31_nat : ∀ n : Nat, n < 256 → (n &&& 31) = n % 32 := fun n _ => by
  have := Nat.and_two_pow_sub_one_eq_mod n 5
  simpa using this
theorem and32_nat (n : Nat) : (n &&& 32 = 0) ↔ n / 32 % 2 = 0 := by
  have h := Nat.testBit_eq_decide_div_mod_eq (x := n) (i := 5)
  have e : (n &&& 32 = 0) ↔ n.testBit 5 = false := by
    constructor
    · intro h0
      have h1 := congrArg (fun x => Nat.testBit x 5) h0
      simp only [Nat.testBit_and, Nat.zero_testBit] at h1
      have h2 : Nat.testBit 32 5 = true := by decide
      rw [h2, Bool.and_true] at h1
      exact h1
    · intro h0
      apply Nat.eq_of_testBit_eq
      intro i
      rw [Nat.testBit_and, Nat.zero_testBit, show (32 : Nat) = 2 ^ 5 by rfl, Nat.testBit_two_pow]
      by_cases hi : 5 = i
      · subst hi; simp [h0]
      · simp [hi]
  rw [e, h]
  have : n / 2 ^ 5 % 2 < 2 := Nat.mod_lt _ (by omega)
  simp only [decide_eq_false_iff_not]
  omega
end Go.Proofs.Ythohienbmhohjaa
