/- Elements: formed, depth, bytes; numbers and their bytes. No program is in sight here. -/
import Derived.Test.YtkpcbnnlefcebaaGreatP1
import Derived.WalkKit
set_option linter.unusedVariables false
set_option linter.unusedSimpArgs false
namespace Go.Proofs.YtkpcbnnlefcebaaGreat
open Go
def tagB (t : Int) : Bool := decide (1 ≤ t) && decide (t ≤ 255) && (t % 32 != 31)
def nestB (t : Int) : Bool := t / 32 % 2 == 1
mutual
def api_Value.formed : api_Value → Bool
  | .mk t b n es => tagB t && (n == nestB t) && !(n && decide (0 < b.length)) && !(!n && decide (0 < es.length)) && formedAll es
def formedAll : List api_Value → Bool
  | [] => true
  | v :: vs => v.formed && formedAll vs
end
theorem formedAll_eq : ∀ es : List api_Value, formedAll es = es.all api_Value.formed
  | [] => by simp [formedAll]
  | v :: vs => by rw [formedAll, formedAll_eq vs, List.all_cons]
mutual
def api_Value.depth : api_Value → Nat
  | .mk _ _ _ es => depthAll es + 1
def depthAll : List api_Value → Nat
  | [] => 0
  | v :: vs => max v.depth (depthAll vs)
end
mutual
def api_Value.same : api_Value → api_Value → Bool
  | .mk t b n es, .mk t' b' n' es' => t == t' && n == n' && b == b' && sameAll es es'
def sameAll : List api_Value → List api_Value → Bool
  | [], [] => true
  | v :: vs, u :: us => v.same u && sameAll vs us
  | _, _ => false
end
def be (n : Nat) : List UInt8 := if h : n = 0 then [] else be (n / 256) ++ [UInt8.ofNat (n % 256)]
termination_by n
decreasing_by omega
def cnt (n : Nat) : Nat := (be n).length
def lenB (n : Nat) : List UInt8 := if n < 128 then [UInt8.ofNat n] else UInt8.ofNat (128 + cnt n) :: be n
mutual
def api_Value.put : api_Value → List UInt8
  | .mk t b n es => UInt8.ofNat (t.toNat % 256) :: (lenB ((if n then putAll es else b).length) ++ (if n then putAll es else b))
def putAll : List api_Value → List UInt8
  | [] => []
  | v :: vs => v.put ++ putAll vs
end
def api_Value.body : api_Value → List UInt8 | .mk _ b n es => if n then putAll es else b
end Go.Proofs.YtkpcbnnlefcebaaGreat
