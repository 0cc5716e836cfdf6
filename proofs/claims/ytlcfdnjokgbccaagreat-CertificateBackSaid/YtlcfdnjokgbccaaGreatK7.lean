/- Chains: the law of any certificates. No program is in sight here. -/
import Derived.Test.YtlcfdnjokgbccaaGreatM1
import Derived.Test.YtlcfdnjokgbccaaGreatT1
import Derived.KernelRfl
set_option linter.unusedVariables false
set_option linter.unusedSimpArgs false
namespace Go.Proofs.YtlcfdnjokgbccaaGreat
open Go
theorem lo_small {α : Type} {l : List α} (h : l.length ≤ 1000000) : Lo l := by unfold Lo; omega
def awakeC : api_Certificate := api_Certificate.mk 0 ⟨#[99, 97]⟩ ⟨#[119, 101, 98]⟩ (api_Use.mk 5 2048) 7 (api_Use.mk 3 0) 0 9 false 0 [⟨#[119, 101, 98]⟩] (api_Seal.mk 0 0)
theorem awakeC_fit : FitC awakeC := fit_mk (by decide) (by intro s hs; rw [List.mem_singleton.1 hs]; decide) (by decide) (by decide) i64_0 ⟨by decide, by decide⟩ ⟨by decide, by decide⟩ ⟨by decide, by decide⟩ ⟨by decide, by decide⟩ i64_0 i64_0 ⟨by decide, by decide⟩ i64_0 i64_0 i64_0
theorem okCs_append : ∀ {a b : List C}, okCs (a ++ b) → okCs a ∧ okCs b
  | [], b, h => ⟨by unfold okCs; trivial, h⟩
  | .int _ _ :: a, b, h => by
    rw [List.cons_append, okCs] at h
    have t := okCs_append (a := a) (b := b) h.2
    rw [okCs]
    exact ⟨⟨h.1, t.1⟩, t.2⟩
  | .bool _ :: a, b, h => by
    rw [List.cons_append, okCs] at h
    have t := okCs_append (a := a) (b := b) h
    rw [okCs]
    exact t
  | .str _ :: a, b, h => by
    rw [List.cons_append, okCs] at h
    have t := okCs_append (a := a) (b := b) h.2
    rw [okCs]
    exact ⟨⟨h.1, t.1⟩, t.2⟩
  | .raw _ :: a, b, h => by
    rw [List.cons_append, okCs] at h
    have t := okCs_append (a := a) (b := b) h
    rw [okCs]
    exact t
  | .sl _ _ :: a, b, h => by
    rw [List.cons_append, okCs] at h
    have t := okCs_append (a := a) (b := b) h.2.2
    rw [okCs]
    exact ⟨⟨h.1, h.2.1, t.1⟩, t.2⟩
theorem okCs_encL {α : Type} {f : α → List C} {l : List α} (h : okCs (encL f l)) : ∀ x ∈ l, okCs (f x) := by
  induction l with
  | nil => intro x hx; cases hx
  | cons y l ih =>
    have e : encL f (y :: l) = f y ++ encL f l := by simp [encL]
    rw [e] at h
    have := okCs_append h
    intro x hx
    rcases List.mem_cons.1 hx with rfl | hx
    · exact this.1
    · exact ih this.2 x hx
end Go.Proofs.YtlcfdnjokgbccaaGreat
