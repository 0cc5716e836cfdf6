import Derived.Test.YtkoflhimdenjaaaGreatSH
import Derived.Test.YtkoflhimdenjaaaGreatM2
set_option linter.unusedVariables false
set_option linter.unusedSimpArgs false
namespace Go.Proofs.YtkoflhimdenjaaaGreat
open Go
theorem nB {key : Aw} {id : Int} {l : List Ai} (hk : Pe key 2 = true) (hid : 0 <= id /\ id <= 2147483648) (hl : l.length <= 8) (hc : ∀ c ∈ l, G5 c = true) (hh : Xe key id l = true) : Vj key id l = true := by
 unfold Vj sV
 have h1 : (l.any fun c => !G5 c) = false := List.any_eq_false.2 fun c h => by rw [hc c h]; simp
 rw [hk, decide_eq_false (show ¬ id < 0 by omega), decide_eq_false (show ¬ 2147483648 < id by omega), decide_eq_false (show ¬ 8 < (l.length : Int) by omega), h1, hh]
 rfl
end Go.Proofs.YtkoflhimdenjaaaGreat
