/- What is known of data that came in: ranges of numbers, lengths of texts and slices. -/
import Derived.Test.YtmihjbejflcgkaaEE
set_option linter.unusedVariables false
set_option linter.unusedSimpArgs false
namespace Go.Proofs.Ytmihjbejflcgkaa
open Go.RowKit
mutual
def okV : DV → Prop
  | .sl sz cs => (∃ n, cs.length = n * sz ∧ n ≤ maxLen) ∧ okCs cs
  | .slc _ _ => True
  | .mp _ => True
  | .elt cs => okCs cs
  | .agg ds => okVs ds
  | .tup ds => okVs ds
  | .clo _ _ _ => True
  | .val v => okVb v = true
  | .row _ => True
  | .part _ _ _ => True
  | .ptr _ _ => True
def okVs : List DV → Prop
  | [] => True
  | d :: ds => okV d ∧ okVs ds
end
mutual
theorem Rep.okV_ {ρ : Nat → Value} {I : Nat → Prop} {w : World} : ∀ (d : DV) (v : Value), Rep ρ I w d v → okV d
  | .val _, _, h => by unfold Rep at h; unfold okV; rw [← h.1]; exact h.1 ▸ h.2
  | .sl sz cs, v, h => by
    have := Rep.ok _ _ h
    unfold okD at this
    unfold okV
    exact this
  | .slc _ _, _, _ => by unfold okV; trivial
  | .mp _, _, _ => by unfold okV; trivial
  | .row _, _, _ => by unfold okV; trivial
  | .part _ _ _, _, _ => by unfold okV; trivial
  | .ptr _ _, _, _ => by unfold okV; trivial
  | .elt cs, v, h => by
    have := Rep.ok _ _ h
    unfold okD at this
    unfold okV
    exact this
  | .agg ds, v, h => by
    unfold Rep at h
    obtain ⟨vs, -, -, h⟩ := h
    unfold okV
    exact RepL.okV_ ds vs h
  | .clo _ _ _, _, _ => by unfold okV; trivial
  | .tup ds, v, h => by
    unfold Rep at h
    obtain ⟨vs, -, h⟩ := h
    unfold okV
    exact RepL.okV_ ds vs h
theorem RepL.okV_ {ρ : Nat → Value} {I : Nat → Prop} {w : World} : ∀ (ds : List DV) (vs : List Value), RepL ρ I w ds vs → okVs ds
  | [], _, _ => by unfold okVs; trivial
  | d :: ds, vs, h => by
    unfold RepL at h
    obtain ⟨u, us, -, h1, h2⟩ := h
    unfold okVs
    exact ⟨Rep.okV_ d u h1, RepL.okV_ ds us h2⟩
end
end Go.Proofs.Ytmihjbejflcgkaa
