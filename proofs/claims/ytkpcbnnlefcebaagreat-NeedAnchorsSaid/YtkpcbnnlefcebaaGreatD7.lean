/- Package der and its reference encode alike. No program is in sight here. -/
import Derived.Test.YtkpcbnnlefcebaaGreatD6
set_option linter.unusedVariables false
set_option linter.unusedSimpArgs false
namespace Go.Proofs.YtkpcbnnlefcebaaGreat
open Go
theorem formed_mem {v e : api_Value} (h : v.formed = true) (he : e ∈ v.Elements) : e.formed = true := by
  rw [formed_eq] at h
  simp only [Bool.and_eq_true] at h
  have := h.2
  rw [formedAll_eq, List.all_eq_true] at this
  exact this e he
def Fit (v : api_Value) : Prop := v.formed = true ∧ v.sz < 67108864
theorem Fit.elem {v e : api_Value} (h : Fit v) (he : e ∈ v.Elements) : Fit e := ⟨formed_mem h.1 he, Nat.lt_trans (szs_elem he) h.2⟩
end Go.Proofs.YtkpcbnnlefcebaaGreat
