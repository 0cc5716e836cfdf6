import Derived.Test.YtkoflhimdenjaaaGreatG1
import Derived.KernelRfl
set_option autoImplicit false
set_option linter.unusedVariables false
set_option linter.unusedSimpArgs false
namespace Go.Proofs.YtkoflhimdenjaaaGreat
open Go
def BtV (lo hi : Int) (l : List Int) (i : Nat) : Prop := ∀ x, l[i]? = some x -> (lo <= x /\ x <= hi) /\ x ∉ l.take i
theorem BtV.out {lo hi : Int} {l : List Int} {i : Nat} (h : l.length <= i) : BtV lo hi l i := fun x hx => by have := I8 hx; omega
end Go.Proofs.YtkoflhimdenjaaaGreat
