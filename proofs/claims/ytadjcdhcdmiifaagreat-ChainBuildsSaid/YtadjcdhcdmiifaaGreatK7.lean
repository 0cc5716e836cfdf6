/- Chains: the law of any certificates. No program is in sight here. -/
import Derived.Test.YtadjcdhcdmiifaaGreatM1
import Derived.Test.YtadjcdhcdmiifaaGreatT1
import Derived.KernelRfl
set_option linter.unusedVariables false
set_option linter.unusedSimpArgs false
namespace Go.Proofs.YtadjcdhcdmiifaaGreat
open Go

theorem lo_small {α : Type} {l : List α} (h : l.length ≤ 1000000) : Lo l := by unfold Lo; omega
def awakeC : api_Certificate := api_Certificate.mk 0 ⟨#[99, 97]⟩ ⟨#[119, 101, 98]⟩ (api_Use.mk 5 2048) 7 (api_Use.mk 3 0) 0 9 false 0 [⟨#[119, 101, 98]⟩] (api_Seal.mk 0 0)
theorem awakeC_fit : FitC awakeC := fit_mk (by decide) (by intro s hs; rw [List.mem_singleton.1 hs]; decide) (by decide) (by decide) i64_0 ⟨by decide, by decide⟩ ⟨by decide, by decide⟩ ⟨by decide, by decide⟩ ⟨by decide, by decide⟩ i64_0 i64_0 ⟨by decide, by decide⟩ i64_0 i64_0 i64_0
theorem awake_law04 : g_law04_awake = some true := by
  have hf : ∀ c ∈ [(signS awakeC 3).1], FitC c := by
    intro c hc
    rw [List.mem_singleton.1 hc]
    exact signS_fit awakeC_fit ⟨by decide, by decide⟩
  have l1 : ∀ n : Int, Lo [n] := fun n => lo_small (by simp)
  have e1 : checkS [(signS awakeC 3).1] [3] [3] 5 ⟨#[119, 101, 98]⟩ = 0 := by kernel_rfl
  have e2 : checkS [(signS awakeC 3).1] [4] [3] 5 ⟨#[119, 101, 98]⟩ = 12 := by kernel_rfl
  have e3 : untilS [(signS awakeC 3).1] = 9 := by kernel_rfl
  have e4 : pathS [(signS awakeC 3).1] 0 = true := by kernel_rfl
  unfold g_law04_awake
  show (g_ref03_Sign awakeC 3).bind _ = _
  rw [ref_Sign awakeC awakeC_fit 3, Option.bind_some]
  rw [chain_Check _ _ _ _ _ (l1 3) (l1 3) hf, chain_Check _ _ _ _ _ (l1 4) (l1 3) hf, e1, e2, chain_Until _ (lo_small (by simp)), e3, show g_chain_Path [(signS awakeC 3).1] 0 = some true from (chain_Path _ 0 (by omega)).trans (by rw [e4])]
  rfl
theorem okCs_append : ∀ {a b : List C}, okCs (a ++ b) → okCs a ∧ okCs b
  | [], b, h => ⟨by unfold okCs; trivial, h⟩
  | .int _ _ :: a, b, h => by
    rw [List.cons_append, okCs] at h
    have t := okCs_append (a := a) (b := b) h.2
    rw [okCs]
    exact ⟨⟨h.1, t.1⟩, t.2⟩
  | .bool _ :: a, b, h => by
    rw [List.cons_append, okCs] at h
    have t := okCs_append (a := a) (b := b) h
    rw [okCs]
    exact t
  | .str _ :: a, b, h => by
    rw [List.cons_append, okCs] at h
    have t := okCs_append (a := a) (b := b) h.2
    rw [okCs]
    exact ⟨⟨h.1, t.1⟩, t.2⟩
  | .raw _ :: a, b, h => by
    rw [List.cons_append, okCs] at h
    have t := okCs_append (a := a) (b := b) h
    rw [okCs]
    exact t
  | .sl _ _ :: a, b, h => by
    rw [List.cons_append, okCs] at h
    have t := okCs_append (a := a) (b := b) h.2.2
    rw [okCs]
    exact ⟨⟨h.1, h.2.1, t.1⟩, t.2⟩
theorem okCs_encL {α : Type} {f : α → List C} {l : List α} (h : okCs (encL f l)) : ∀ x ∈ l, okCs (f x) := by
  induction l with
  | nil => intro x hx; cases hx
  | cons y l ih =>
    have e : encL f (y :: l) = f y ++ encL f l := by simp [encL]
    rw [e] at h
    have := okCs_append h
    intro x hx
    rcases List.mem_cons.1 hx with rfl | hx
    · exact this.1
    · exact ih this.2 x hx
theorem fitC_of {c : api_Certificate} (h : okCs (api_Certificate.enc c)) (hn : c.Names.length < 1000000000) : FitC c := by
  simp only [api_Certificate.enc, okCs] at h
  have hk : IntKind.i64.min = -9223372036854775808 := rfl
  have hk' : IntKind.i64.max = 9223372036854775807 := rfl
  have hm : maxLen = 9223372036854775807 := rfl
  rw [hk, hk', hm] at h
  refine ⟨hn, fun s hs => ?_, by omega, by omega, ?_⟩
  · have h1 : okCs (encL eS c.Names) := by
      have := h.2.2.2.2.2.2.2.2.2.2.2.2.2.1
      exact h.2.2.2.2.2.2.2.2.2.2.2.2.1
    have := okCs_encL h1 s hs
    simp only [eS, okCs] at this
    rw [hm] at this
    exact this.1
  · intro n hn
    simp only [List.mem_cons, List.not_mem_nil, or_false] at hn
    rcases hn with rfl | rfl | rfl | rfl | rfl | rfl | rfl | rfl | rfl | rfl | rfl <;> omega
end Go.Proofs.YtadjcdhcdmiifaaGreat
