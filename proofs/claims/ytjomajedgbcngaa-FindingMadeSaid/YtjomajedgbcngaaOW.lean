import Derived.Test.YtjomajedgbcngaaEE
set_option linter.unusedVariables false
set_option linter.unusedSimpArgs false
namespace Go.Proofs.Ytjomajedgbcngaa
open Go.RowKit
mutual
def X8 : DV -> Prop
 | .sl sz cs => (∃ n, cs.length = n * sz /\ n <= maxLen) /\ E3 cs
 | .slc _ _ => True
 | .mp _ => True
 | .elt cs => E3 cs
 | .agg ds => Wz ds
 | .tup ds => Wz ds
 | .clo _ _ _ => True
 | .val v => Dt v = true
 | .row _ => True
 | .part _ _ _ => True
 | .ptr _ _ => True
def Wz : List DV -> Prop
 | [] => True
 | d :: ds => X8 d /\ Wz ds
end
mutual
theorem B9.okV_ {ρ : Nat -> Value} {I : Nat -> Prop} {w : World} : ∀ (d : DV) (v : Value), B9 ρ I w d v -> X8 d
 | .val _, _, h => by unfold B9 at h; unfold X8; rw [<- h.1]; exact h.1 ▸ h.2
 | .sl sz cs, v, h => by
  have := B9.ok _ _ h
  unfold Xu at this
  unfold X8
  exact this
 | .slc _ _, _, _ => by unfold X8; trivial
 | .mp _, _, _ => by unfold X8; trivial
 | .row _, _, _ => by unfold X8; trivial
 | .part _ _ _, _, _ => by unfold X8; trivial
 | .ptr _ _, _, _ => by unfold X8; trivial
 | .elt cs, v, h => by
  have := B9.ok _ _ h
  unfold Xu at this
  unfold X8
  exact this
 | .agg ds, v, h => by
  unfold B9 at h
  obtain ⟨vs, -, -, h⟩ := h
  unfold X8
  exact Bw.okV_ ds vs h
 | .clo _ _ _, _, _ => by unfold X8; trivial
 | .tup ds, v, h => by
  unfold B9 at h
  obtain ⟨vs, -, h⟩ := h
  unfold X8
  exact Bw.okV_ ds vs h
theorem Bw.okV_ {ρ : Nat -> Value} {I : Nat -> Prop} {w : World} : ∀ (ds : List DV) (vs : List Value), Bw ρ I w ds vs -> Wz ds
 | [], _, _ => by unfold Wz; trivial
 | d :: ds, vs, h => by
  unfold Bw at h
  obtain ⟨u, us, -, h1, h2⟩ := h
  unfold Wz
  exact ⟨B9.okV_ d u h1, Bw.okV_ ds us h2⟩
end
end Go.Proofs.Ytjomajedgbcngaa
