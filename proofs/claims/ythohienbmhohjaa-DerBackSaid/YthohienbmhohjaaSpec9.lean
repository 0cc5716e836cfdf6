/- Encode and Decode, forth and back, with their errors. No program is in sight here. -/
import Derived.Test.YthohienbmhohjaaSpec8
import Derived.Test.YthohienbmhohjaaW30
import Derived.Test.YthohienbmhohjaaW19
namespace Go.Proofs.Ythohienbmhohjaa
open Go.RowKit

theorem encE_zero {d : V} (h : encE d = 0) : d.formed = true ∧ d.depth ≤ 16 ∧ d.put.length ≤ 4096 ∧ encL d = d.put := by
  have h0 := h
  unfold encE at h
  split at h
  · cases h
  · rename_i h1
    split at h
    · cases h
    · rename_i h2
      split at h
      · cases h
      · rename_i h3
        exact ⟨by simpa using h1, by omega, by omega, by unfold encL; rw [if_pos h0]⟩
theorem encE_of {d : V} (h1 : d.formed = true) (h2 : d.depth ≤ 16) (h3 : d.put.length ≤ 4096) : encE d = 0 ∧ encL d = d.put := by
  have h : encE d = 0 := by unfold encE; rw [if_neg (by rw [h1]; decide), if_neg (by omega), if_neg (by omega)]
  exact ⟨h, by unfold encL; rw [if_pos h]⟩
theorem decE_zero {l : List UInt8} (h : decE l = 0) : l.length ≤ 4096 ∧ ∃ d, decOne l = some (d, l.length) ∧ d.depth ≤ 16 ∧ decV l = d := by
  have h0 := h
  unfold decE at h
  split at h
  · cases h
  · rename_i h1
    cases ho : decOne l with
    | none => rw [ho] at h; cases h
    | some p =>
      obtain ⟨d, m⟩ := p
      rw [ho] at h
      dsimp only at h
      split at h
      · cases h
      · rename_i h2
        split at h
        · cases h
        · rename_i h3
          have e : m = l.length := by omega
          subst e
          exact ⟨by omega, d, rfl, by omega, by unfold decV; rw [if_pos h0, ho]⟩
/-- Bytes that Decode accepts are what Encode makes of their element. -/
theorem raw_back {l : List UInt8} (h : decE l = 0) : encE (decV l) = 0 ∧ encL (decV l) = l ∧ (decV l).depth ≤ 16 ∧ (decV l).put.length ≤ 4096 := by
  obtain ⟨h1, d, h2, h3, h4⟩ := decE_zero h
  obtain ⟨h5, h6⟩ := decOne_back h2 rfl
  rw [h4]
  obtain ⟨h7, h8⟩ := encE_of h6 h3 (by rw [h5]; exact h1)
  exact ⟨h7, by rw [h8, h5], h3, by rw [h5]; exact h1⟩
/-- Decode of Encode is the element. -/
theorem enc_back {d : V} (h : encE d = 0) : decE (encL d) = 0 ∧ decV (encL d) = d := by
  obtain ⟨h1, h2, h3, h4⟩ := encE_zero h
  rw [h4]
  have h5 := decOne_put d h1 (by omega) []
  rw [List.append_nil] at h5
  have h6 : decE d.put = 0 := by rw [decE_some (by omega) h5, if_neg (by omega), if_neg (by omega)]
  exact ⟨h6, by unfold decV; rw [if_pos h6, h5]⟩
/-- All of two is each one. -/
theorem all_two {d d' : V} (h : encE d = 0) (h' : encE d' = 0) :
    (4096 < (encL d).length + (encL d').length ∧ allE (encL d ++ encL d') = 3) ∨ (¬ 4096 < (encL d).length + (encL d').length ∧ allE (encL d ++ encL d') = 0 ∧ allL (encL d ++ encL d') = [d, d']) := by
  obtain ⟨h1, h2, h3, h4⟩ := encE_zero h
  obtain ⟨h1', h2', h3', h4'⟩ := encE_zero h'
  rw [h4, h4']
  by_cases hl : 4096 < d.put.length + d'.put.length
  · exact .inl ⟨hl, allE_long (by rw [List.length_append]; exact hl)⟩
  · have e : d.put ++ d'.put = putAll [d, d'] := by simp [putAll]
    have hd : decAll (d.put ++ d'.put) = some [d, d'] := by
      rw [e]
      refine decAll_put _ (by simp [formedAll, h1, h1']) ?_
      rw [← e, List.length_append]
      omega
    have hE : allE (d.put ++ d'.put) = 0 := by
      rw [allE_some (by rw [List.length_append]; exact hl) hd]
      simp [deepB]
      omega
    exact .inr ⟨hl, hE, by unfold allL; rw [if_pos hE, hd]⟩
end Go.Proofs.Ythohienbmhohjaa
