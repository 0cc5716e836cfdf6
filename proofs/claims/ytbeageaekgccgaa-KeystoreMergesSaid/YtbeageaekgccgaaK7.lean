/- Chains: the law of any certificates. No program is in sight here. -/
import Derived.Test.YtbeageaekgccgaaM1
import Derived.Test.YtbeageaekgccgaaT1
import Derived.KernelRfl
set_option linter.unusedVariables false
set_option linter.unusedSimpArgs false
namespace Go.Proofs.Ytbeageaekgccgaa
open Go
theorem lo_small {α : Type} {l : List α} (h : l.length ≤ 1000000) : Lo l := by unfold Lo; omega
theorem okCs_append : ∀ {a b : List C}, okCs (a ++ b) → okCs a ∧ okCs b
  | [], b, h => ⟨by unfold okCs; trivial, h⟩
  | .int _ _ :: a, b, h => by
    rw [List.cons_append, okCs] at h
    have t := okCs_append (a := a) (b := b) h.2
    rw [okCs]
    exact ⟨⟨h.1, t.1⟩, t.2⟩
  | .bool _ :: a, b, h => by
    rw [List.cons_append, okCs] at h
    have t := okCs_append (a := a) (b := b) h
    rw [okCs]
    exact t
  | .str _ :: a, b, h => by
    rw [List.cons_append, okCs] at h
    have t := okCs_append (a := a) (b := b) h.2
    rw [okCs]
    exact ⟨⟨h.1, t.1⟩, t.2⟩
  | .raw _ :: a, b, h => by
    rw [List.cons_append, okCs] at h
    have t := okCs_append (a := a) (b := b) h
    rw [okCs]
    exact t
  | .mp _ :: a, b, h => by
    rw [List.cons_append, okCs] at h
    have t := okCs_append (a := a) (b := b) h
    rw [okCs]
    exact t
  | .sl _ _ :: a, b, h => by
    rw [List.cons_append, okCs] at h
    have t := okCs_append (a := a) (b := b) h.2.2
    rw [okCs]
    exact ⟨⟨h.1, h.2.1, t.1⟩, t.2⟩
theorem okCs_encL {α : Type} {f : α → List C} {l : List α} (h : okCs (encL f l)) : ∀ x ∈ l, okCs (f x) := by
  induction l with
  | nil => intro x hx; cases hx
  | cons y l ih =>
    have e : encL f (y :: l) = f y ++ encL f l := by simp [encL]
    rw [e] at h
    have := okCs_append h
    intro x hx
    rcases List.mem_cons.1 hx with rfl | hx
    · exact this.1
    · exact ih this.2 x hx
theorem fitW_of {c : api_Certificate} (h : okCs (api_Certificate.enc c)) : FitW c := by
  simp only [api_Certificate.enc, okCs] at h
  have hm : maxLen = 9223372036854775807 := rfl
  rw [hm] at h
  have hN := h.2.2.2.2.2.2.2.2.2.2.2.2.1
  have hL := h.2.2.2.2.2.2.2.2.2.2.2.1
  refine ⟨?_, fun s hs => ?_, by omega, by omega⟩
  · obtain ⟨n, h1, h2⟩ := hL
    have : (encL eS c.Names).length = c.Names.length := by
      generalize c.Names = l
      induction l with
      | nil => rfl
      | cons x l ih =>
        have e : encL eS (x :: l) = eS x ++ encL eS l := by simp [encL]
        rw [e, List.length_append, ih]
        show 1 + l.length = l.length + 1
        omega
    omega
  · have := okCs_encL hN s hs
    simp only [eS, okCs] at this
    rw [hm] at this
    exact this.1
end Go.Proofs.Ytbeageaekgccgaa
