/- Chains: the laws of chains that were made. No program is in sight here. -/
import Derived.Test.YtbeageaekgccgaaGreatK7
set_option linter.unusedVariables false
set_option linter.unusedSimpArgs false
namespace Go.Proofs.YtbeageaekgccgaaGreat
open Go
def AllC (l : List api_Certificate) : Prop := ∀ c ∈ l, FitC c
theorem AllC.set {l : List api_Certificate} (h : AllC l) (j : Nat) {x : api_Certificate} (hx : FitC x) : AllC (setI l j x) := by
  intro c hc
  rcases List.mem_or_eq_of_mem_set hc with hc | rfl
  · exact h c hc
  · exact hx
theorem AllC.part {l : List api_Certificate} (h : AllC l) (a n : Nat) : AllC ((l.drop a).take n) := fun c hc => h c (List.mem_of_mem_drop (List.mem_of_mem_take hc))
theorem roll_ok {l : List Int} (h : l.length ≤ 400) : Ok (g_make_Roll l) DOK := Ok.ret ⟨lo_small (by show l.length ≤ _; omega), Int.le_refl _, by show (0 : Int) ≤ (l.length : Int); omega⟩
end Go.Proofs.YtbeageaekgccgaaGreat
