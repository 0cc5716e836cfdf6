/- Chains: the law of any certificates. No program is in sight here. -/
import Derived.Test.YtggimglopfdhiaaM1
import Derived.Test.YtggimglopfdhiaaT1
import Derived.KernelRfl
set_option linter.unusedVariables false
set_option linter.unusedSimpArgs false
namespace Go.Proofs.Ytggimglopfdhiaa
open Go
theorem lo_small {α : Type} {l : List α} (h : l.length ≤ 1000000) : Lo l := by unfold Lo; omega
def awakeC : api_Certificate := api_Certificate.mk 0 ⟨#[99, 97]⟩ ⟨#[119, 101, 98]⟩ (api_Use.mk 5 2048) 7 (api_Use.mk 3 0) 0 9 false 0 [⟨#[119, 101, 98]⟩] (api_Seal.mk 0 0)
theorem awakeC_fit : FitC awakeC := fit_mk (by decide) (by intro s hs; rw [List.mem_singleton.1 hs]; decide) (by decide) (by decide) i64_0 ⟨by decide, by decide⟩ ⟨by decide, by decide⟩ ⟨by decide, by decide⟩ ⟨by decide, by decide⟩ i64_0 i64_0 ⟨by decide, by decide⟩ i64_0 i64_0 i64_0
theorem awake_law04 : g_law04_awake = some true := by
  have hf : ∀ c ∈ [(signS awakeC 3).1], FitC c := by
    intro c hc
    rw [List.mem_singleton.1 hc]
    exact signS_fit awakeC_fit ⟨by decide, by decide⟩
  have l1 : ∀ n : Int, Lo [n] := fun n => lo_small (by simp)
  have e1 : checkS [(signS awakeC 3).1] [3] [3] 5 ⟨#[119, 101, 98]⟩ = 0 := by kernel_rfl
  have e2 : checkS [(signS awakeC 3).1] [4] [3] 5 ⟨#[119, 101, 98]⟩ = 12 := by kernel_rfl
  have e3 : untilS [(signS awakeC 3).1] = 9 := by kernel_rfl
  have e4 : pathS [(signS awakeC 3).1] 0 = true := by kernel_rfl
  unfold g_law04_awake
  show (g_ref03_Sign awakeC 3).bind _ = _
  rw [ref_Sign awakeC awakeC_fit 3, Option.bind_some]
  rw [chain_Check _ _ _ _ _ (l1 3) (l1 3) hf, chain_Check _ _ _ _ _ (l1 4) (l1 3) hf, e1, e2, chain_Until _ (lo_small (by simp)), e3, show g_chain_Path [(signS awakeC 3).1] 0 = some true from (chain_Path _ 0 (by omega)).trans (by rw [e4])]
  rfl
end Go.Proofs.Ytggimglopfdhiaa
