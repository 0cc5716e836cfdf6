/- Chapter 11, plain: words, and the longest end of a text that is one. -/
import Derived.Test.YtfkgbfhpibiheaaL3
set_option linter.unusedVariables false
set_option linter.unusedSimpArgs false
namespace Go.Proofs.Ytfkgbfhpibiheaa
open Go
abbrev Bts := List UInt8
def Lk (ws : List Bts) (w : Bts) : Int := match ws.findIdx? (fun x => decide (x = w)) with | some i => (i : Int) | none => -1
theorem Lk_no {ws : List Bts} {w : Bts} (h : w ∉ ws) : Lk ws w = -1 := by
  unfold Lk
  have : ws.findIdx? (fun x => decide (x = w)) = none := by
    rw [List.findIdx?_eq_none_iff]
    intro x hx
    simp
    rintro rfl
    exact h hx
  rw [this]
theorem nodup_at {α : Type} {l : List α} (hn : l.Nodup) {i j : Nat} {x : α} (h1 : l[i]? = some x) (h2 : l[j]? = some x) : i = j := by
  obtain ⟨h3, h4⟩ := List.getElem?_eq_some_iff.1 h1
  obtain ⟨h5, h6⟩ := List.getElem?_eq_some_iff.1 h2
  exact (List.getElem_inj (h₀ := h3) (h₁ := h5) hn).1 (h4.trans h6.symm)
theorem Lk_at {ws : List Bts} {w : Bts} {i : Nat} (hn : ws.Nodup) (h : ws[i]? = some w) : Lk ws w = (i : Int) := by
  unfold Lk
  cases hf : ws.findIdx? (fun x => decide (x = w)) with
  | none =>
    rw [List.findIdx?_eq_none_iff] at hf
    have := hf w (List.mem_of_getElem? h)
    simp at this
  | some j =>
    rw [List.findIdx?_eq_some_iff_getElem] at hf
    obtain ⟨h1, h2, -⟩ := hf
    have h2 : ws[j] = w := by simpa using h2
    have : i = j := nodup_at hn h (by rw [List.getElem?_eq_getElem h1, h2])
    rw [this]
theorem Lk_mem {ws : List Bts} {w : Bts} (hn : ws.Nodup) (h : w ∈ ws) : ∃ i : Nat, ws[i]? = some w ∧ Lk ws w = (i : Int) := by
  obtain ⟨i, hi⟩ := List.getElem?_of_mem h
  exact ⟨i, hi, Lk_at hn hi⟩
theorem Lk_neg {ws : List Bts} {w : Bts} (hn : ws.Nodup) : Lk ws w < 0 ↔ w ∉ ws := by
  constructor
  · intro h hm
    obtain ⟨i, -, hi⟩ := Lk_mem hn hm
    omega
  · intro h
    rw [Lk_no h]
    omega
def lg (ws : List Bts) : Bts → Bts
  | [] => []
  | c :: s => if (c :: s) ∈ ws then c :: s else lg ws s
def Clo (ws : List Bts) : Prop := [] ∈ ws ∧ ∀ w c, w ++ [c] ∈ ws → w ∈ ws
section
variable {ws : List Bts}
theorem lg_mem (h : [] ∈ ws) : ∀ s, lg ws s ∈ ws
  | [] => h
  | c :: s => by
    unfold lg
    split
    · assumption
    · exact lg_mem h s
theorem lg_suf : ∀ s, lg ws s <:+ s
  | [] => List.suffix_refl _
  | c :: s => by
    unfold lg
    split
    · exact List.suffix_refl _
    · exact (lg_suf s).trans (List.suffix_cons c s)
theorem lg_max {u : Bts} (hu : u ∈ ws) : ∀ {s}, u <:+ s → u <:+ lg ws s
  | [], h => by unfold lg; exact h
  | c :: s, h => by
    unfold lg
    split
    · exact h
    · rename_i hn
      rcases List.suffix_cons_iff.1 h with h | h
      · rw [h] at hu; exact (hn hu).elim
      · exact lg_max hu h
theorem lg_uniq {s x : Bts} (h1 : x ∈ ws) (h2 : x <:+ s) (h3 : ∀ u ∈ ws, u <:+ s → u <:+ x) (h0 : [] ∈ ws) : lg ws s = x := by
  have a := lg_max h1 h2
  have b := h3 _ (lg_mem h0 s) (lg_suf s)
  exact b.eq_of_length (Nat.le_antisymm b.length_le a.length_le)
theorem lg_self {w : Bts} (h : w ∈ ws) : lg ws w = w := by
  cases w with
  | nil => rfl
  | cons c s => unfold lg; rw [if_pos h]
theorem suf_snoc {u s : Bts} {c : UInt8} (h : u <:+ s ++ [c]) (hu : u ≠ []) : ∃ v, u = v ++ [c] ∧ v <:+ s := by
  obtain ⟨t, ht⟩ := h
  rcases List.eq_nil_or_concat u with h | ⟨v, d, rfl⟩
  · exact (hu h).elim
  · rw [List.concat_eq_append] at *
    rw [← List.append_assoc] at ht
    have := List.append_inj' ht rfl
    have e : d = c := by have := this.2; simpa using this
    subst e
    exact ⟨v, rfl, t, this.1⟩
theorem snoc_suf {v s : Bts} {c : UInt8} (h : v <:+ s) : v ++ [c] <:+ s ++ [c] := by
  obtain ⟨t, rfl⟩ := h
  exact ⟨t, by simp⟩
theorem lg_step (hc : Clo ws) (s : Bts) (c : UInt8) : lg ws (s ++ [c]) = lg ws (lg ws s ++ [c]) := by
  refine lg_uniq (lg_mem hc.1 _) ((lg_suf _).trans (snoc_suf (lg_suf s))) (fun u hu hs => ?_) hc.1
  by_cases h0 : u = []
  · subst h0; exact List.nil_suffix
  · obtain ⟨v, rfl, hv⟩ := suf_snoc hs h0
    exact lg_max hu (snoc_suf (lg_max (hc.2 v c hu) hv))
theorem lg_not {w : Bts} (h : w ∉ ws) (h0 : [] ∈ ws) : lg ws w = lg ws w.tail := by
  cases w with
  | nil => exact (h h0).elim
  | cons c s =>
    rw [show lg ws (c :: s) = if (c :: s) ∈ ws then c :: s else lg ws s from rfl, if_neg h]
    rfl
theorem lg_tail (hc : Clo ws) {w : Bts} (c : UInt8) (hw : w ≠ []) : lg ws (w ++ [c]).tail = lg ws (lg ws w.tail ++ [c]) := by
  cases w with
  | nil => exact (hw rfl).elim
  | cons d s => exact lg_step hc s c
theorem lg_tail0 (c : UInt8) : lg ws (([] : Bts) ++ [c]).tail = [] := rfl
theorem suf_lg {u s : Bts} (hu : u ∈ ws) : u <:+ lg ws s ↔ u <:+ s := ⟨fun h => h.trans (lg_suf s), lg_max hu⟩
end
end Go.Proofs.Ytfkgbfhpibiheaa
