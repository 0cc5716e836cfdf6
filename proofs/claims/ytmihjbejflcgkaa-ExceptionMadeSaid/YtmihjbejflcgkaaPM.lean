/- A loop over a map's entries, in whatever order they come. No program is in sight here. -/
import Derived.Test.YtmihjbejflcgkaaPU
set_option linter.unusedVariables false
set_option linter.unusedSimpArgs false
namespace Go.Proofs.Ytmihjbejflcgkaa
open Go
section
variable {α S R : Type}
def runL (body : α → S → Option (Lp S R)) (ed : S → Option (Lp S R)) : List α → S → Option R
  | [], s => (ed s).bind (lstep fun _ => none)
  | p :: l, s => (body p s).bind (lstep (runL body ed l))
open Classical in
noncomputable def mloop (body : α → S → Option (Lp S R)) (ed : S → Option (Lp S R)) (l : List α) (s : S) : Option R :=
  if h : ∃ r, ∀ l', l'.Perm l → runL body ed l' s = some r then some (Classical.choose h) else none
variable {body : α → S → Option (Lp S R)} {ed : S → Option (Lp S R)} {l : List α} {s : S} {r : R}
theorem mloop_some (h : mloop body ed l s = some r) : ∀ l', l'.Perm l → runL body ed l' s = some r := by
  unfold mloop at h
  split at h
  · rename_i hex
    injection h with h
    subst h
    exact Classical.choose_spec hex
  · cases h
theorem mloop_of (h : ∀ l', l'.Perm l → runL body ed l' s = some r) : mloop body ed l s = some r := by
  have hex : ∃ r, ∀ l', l'.Perm l → runL body ed l' s = some r := ⟨r, h⟩
  unfold mloop
  rw [dif_pos hex]
  exact (Classical.choose_spec hex l (.refl _)).symm.trans (h l (.refl _))
def rest (n : Nat) (seen : List Nat) : List Nat := (List.range n).filter fun i => !seen.contains i
theorem mem_rest {n : Nat} {seen : List Nat} {i : Nat} : i ∈ rest n seen ↔ i < n ∧ i ∉ seen := by simp [rest]
theorem rest_nd (n : Nat) (seen : List Nat) : (rest n seen).Nodup := List.nodup_range.filter _
theorem rest_nil (n : Nat) : rest n [] = List.range n := by
  unfold rest
  rw [List.filter_eq_self]
  intro a _
  rfl
theorem rest_cons {n : Nat} {seen : List Nat} {i : Nat} (hi : i < n) (hn : i ∉ seen) : (rest n seen).Perm (i :: rest n (seen ++ [i])) := by
  rw [List.perm_ext_iff_of_nodup (rest_nd _ _) (List.nodup_cons.2 ⟨by rw [mem_rest]; simp, rest_nd _ _⟩)]
  intro a
  simp only [List.mem_cons, mem_rest, List.mem_append, List.not_mem_nil, or_false]
  constructor
  · rintro ⟨h1, h2⟩
    by_cases h : a = i
    · exact .inl h
    · exact .inr ⟨h1, fun hh => hh.elim h2 h⟩
  · rintro (rfl | ⟨h1, h2⟩)
    · exact ⟨hi, hn⟩
    · exact ⟨h1, fun hh => h2 (.inl hh)⟩
theorem rest_lt {n : Nat} {seen : List Nat} {i : Nat} (hi : i < n) (hn : i ∉ seen) : (rest n (seen ++ [i])).length < (rest n seen).length := by
  rw [(rest_cons hi hn).length_eq]
  simp
theorem range_get (l : List α) : (List.range l.length).filterMap (l[·]?) = l := by
  induction l with
  | nil => rfl
  | cons x l ih =>
    rw [List.length_cons, List.range_succ_eq_map, List.filterMap_cons]
    simp only [List.getElem?_cons_zero, List.filterMap_map]
    exact congrArg (x :: ·) ih
def MH (body : α → S → Option (Lp S R)) (ed : S → Option (Lp S R)) (l : List α) (r : R) (seen : List Nat) (s : S) : Prop :=
  ∀ l', l'.Perm ((rest l.length seen).filterMap (l[·]?)) → runL body ed l' s = some r
theorem MH.init (h : mloop body ed l s = some r) : MH body ed l r [] s := by
  intro l' hl
  rw [rest_nil, range_get] at hl
  exact mloop_some h l' hl
theorem MH.fin {seen : List Nat} (h : MH body ed l r seen s) (ha : ∀ i, i < l.length → i ∈ seen) : ∃ o, ed s = some o ∧ lstep (fun _ => none) o = some r := by
  have h0 : rest l.length seen = [] := by
    rw [List.eq_nil_iff_forall_not_mem]
    intro i hi
    rw [mem_rest] at hi
    exact hi.2 (ha i hi.1)
  have := h [] (by rw [h0]; exact .refl _)
  unfold runL at this
  cases hf : ed s with
  | none => rw [hf] at this; cases this
  | some o => rw [hf] at this; exact ⟨o, rfl, this⟩
open Classical in
noncomputable def itH (body : α → S → Option (Lp S R)) (ed : S → Option (Lp S R)) (l : List α) (r : R) (seen : List Nat) (s : S) : Option R := if MH body ed l r seen s then some r else none
theorem itH_some {seen : List Nat} {r' : R} (h : lstep (itH body ed l r seen) (.next s) = some r') : MH body ed l r seen s := by
  have h : itH body ed l r seen s = some r' := h
  unfold itH at h
  split at h
  · assumption
  · cases h
theorem MH.el {seen : List Nat} {i : Nat} {p : α} (h : MH body ed l r seen s) (hp : l[i]? = some p) (hn : i ∉ seen) : ∃ o, body p s = some o ∧ lstep (itH body ed l r (seen ++ [i])) o = some r := by
  have hi : i < l.length := (List.getElem?_eq_some_iff.1 hp).1
  have key : ∀ l', l'.Perm ((rest l.length (seen ++ [i])).filterMap (l[·]?)) → runL body ed (p :: l') s = some r := by
    intro l' hl
    refine h _ ?_
    have h1 := (rest_cons hi hn).filterMap (l[·]?)
    rw [List.filterMap_cons, hp] at h1
    exact (hl.cons p).trans h1.symm
  have h0 := key _ (.refl _)
  unfold runL at h0
  cases hb : body p s with
  | none => rw [hb] at h0; cases h0
  | some o =>
    rw [hb] at h0
    refine ⟨o, rfl, ?_⟩
    cases o with
    | done r' => exact h0
    | next s' =>
      have : MH body ed l r (seen ++ [i]) s' := by
        intro l' hl
        have := key l' hl
        unfold runL at this
        rw [hb] at this
        exact this
      show itH body ed l r (seen ++ [i]) s' = some r
      unfold itH
      rw [if_pos this]
end
end Go.Proofs.Ytmihjbejflcgkaa
