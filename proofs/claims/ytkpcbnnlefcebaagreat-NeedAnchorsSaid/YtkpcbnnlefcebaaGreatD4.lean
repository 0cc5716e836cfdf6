/- Package der and its reference write elements alike: the generated functions are the specs. No program is in sight here. -/
import Derived.Test.YtkpcbnnlefcebaaGreatL3
import Derived.Test.YtkpcbnnlefcebaaGreatC1
import Derived.Test.YtkpcbnnlefcebaaGreatD1
set_option linter.unusedVariables false
set_option linter.unusedSimpArgs false
namespace Go.Proofs.YtkpcbnnlefcebaaGreat
open Go
mutual
def api_Value.sz : api_Value → Nat
  | .mk _ b _ es => b.length + szs es + 1
def szs : List api_Value → Nat
  | [] => 0
  | v :: vs => v.sz + szs vs
end
theorem sz_eq (v : api_Value) : v.sz = v.Bytes.length + szs v.Elements + 1 := by cases v; rw [api_Value.sz]
theorem szs_mem : ∀ {es : List api_Value} {d : api_Value}, d ∈ es → d.sz ≤ szs es
  | v :: vs, d, h => by
    rw [szs]
    rcases List.mem_cons.1 h with rfl | h
    · omega
    · have := szs_mem h; omega
theorem szs_elem {v d : api_Value} (h : d ∈ v.Elements) : d.sz < v.sz := by
  have := szs_mem h
  rw [sz_eq v]; omega
theorem formed_eq (v : api_Value) : v.formed = (tagB v.Tag && (v.Nested == nestB v.Tag) && !(v.Nested && decide (0 < v.Bytes.length)) && !(!v.Nested && decide (0 < v.Elements.length)) && formedAll v.Elements) := by cases v; rw [api_Value.formed]
end Go.Proofs.YtkpcbnnlefcebaaGreat
