/- Searches in lists, as plain functions. No program is in sight here. -/
import Derived.Test.YtadjcdhcdmiifaaGreatL1
set_option linter.unusedVariables false
set_option linter.unusedSimpArgs false
namespace Go.Proofs.YtadjcdhcdmiifaaGreat
open Go

/-- Small enough for every loop. -/
def Lo {α : Type} (l : List α) : Prop := l.length < 4611686018427387904
/-- The index of the first, or -1. -/
def firstS {α : Type} (l : List α) (p : α → Bool) : Int := match l.findIdx? p with | some i => (i : Int) | none => -1
theorem firstS_any {α : Type} (l : List α) (p : α → Bool) : decide (0 ≤ firstS l p) = l.any p := by
  unfold firstS
  have := List.findIdx?_isSome (xs := l) (p := p)
  cases h : l.findIdx? p with
  | none => rw [h] at this; rw [← this]; rfl
  | some i => rw [h] at this; rw [← this]; simp
/-- A loop that returns the index of the first element of which something holds. -/
theorem loop_first {α : Type} {body : Int → Option (Lp Int Int)} (l : List α) (p : α → Bool) (hl : Lo l) (h1 : ∀ (i : Nat) x, l[i]? = some x → body (i : Int) = some (bif p x then .done (i : Int) else .next (W ((i : Int) + 1)))) (h2 : body (l.length : Int) = some (.done (-1))) : loop body 0 = some (firstS l p) := by
  unfold Lo at hl
  refine (loop_find l (fun i => (i : Int)) p (fun i => (i : Int)) (-1) (fun i x hx => ?_) h2).trans ?_
  · have := at_lt hx
    rw [h1 i x hx, W_succ (by omega)]
  · rfl
/-- A loop that asks whether something holds of an element. -/
theorem loop_has {α R : Type} {body : Int → Option (Lp Int R)} (l : List α) (p : α → Bool) (r1 r2 : R) (hl : Lo l) (h1 : ∀ (i : Nat) x, l[i]? = some x → body (i : Int) = some (bif p x then .done r1 else .next (W ((i : Int) + 1)))) (h2 : body (l.length : Int) = some (.done r2)) : loop body 0 = some (bif l.any p then r1 else r2) := by
  unfold Lo at hl
  refine loop_any l (fun i => (i : Int)) p r1 r2 (fun i x hx => ?_) h2
  have := at_lt hx
  rw [h1 i x hx, W_succ (by omega)]
/-- The same, of indexes. -/
theorem loop_hasN {R : Type} {body : Int → Option (Lp Int R)} (n : Nat) (p : Nat → Bool) (r1 r2 : R) (hl : n < 4611686018427387904) (h1 : ∀ (i : Nat), i < n → body (i : Int) = some (bif p i then .done r1 else .next (W ((i : Int) + 1)))) (h2 : body (n : Int) = some (.done r2)) : loop body 0 = some (bif (List.range n).any p then r1 else r2) := by
  refine loop_anyN n (fun i => (i : Int)) p r1 r2 (fun i hi => ?_) h2
  rw [h1 i hi, W_succ (by omega)]
/-- A loop that folds a list. -/
theorem loop_fold {α S R : Type} {body : S × Int → Option (Lp (S × Int) R)} (l : List α) (f : S → α → S) (s : S) (r : S → R) (hl : Lo l) (h1 : ∀ (i : Nat) x s, l[i]? = some x → body (s, (i : Int)) = some (.next (f s x, W ((i : Int) + 1)))) (h2 : ∀ s, body (s, (l.length : Int)) = some (.done (r s))) : loop body (s, 0) = some (r (l.foldl f s)) := by
  unfold Lo at hl
  refine loop_path l.length (fun i => ((l.take i).foldl f s, (i : Int))) _ (fun i hi => ?_) ?_
  · obtain ⟨x, hx⟩ : ∃ x, l[i]? = some x := ⟨_, List.getElem?_eq_getElem hi⟩
    show body ((l.take i).foldl f s, (i : Int)) = _
    rw [h1 i x _ hx, W_succ (by omega), take_succ' hx, List.foldl_append]
    rfl
  · show body ((l.take l.length).foldl f s, (l.length : Int)) = _
    rw [h2, List.take_length]
/-- The same; what is behind the loop may fail. -/
theorem loop_foldU {α S R : Type} {body : S × Int → Option (Lp (S × Int) R)} (l : List α) (f : S → α → S) (s : S) (r : S → Option R) (hl : Lo l) (h1 : ∀ (i : Nat) x s, l[i]? = some x → body (s, (i : Int)) = some (.next (f s x, W ((i : Int) + 1)))) (h2 : ∀ s, body (s, (l.length : Int)) = up (r s)) : loop body (s, 0) = r (l.foldl f s) := by
  unfold Lo at hl
  have key : ∀ k i, i + k = l.length → loop body ((l.take i).foldl f s, (i : Int)) = r (l.foldl f s) := by
    intro k
    induction k with
    | zero =>
      intro i hi
      have : i = l.length := by omega
      subst this
      rw [List.take_length, loop_up (h2 _)]
    | succ k ih =>
      intro i hi
      obtain ⟨x, hx⟩ : ∃ x, l[i]? = some x := ⟨_, List.getElem?_eq_getElem (by omega)⟩
      rw [loop_next (h1 i x _ hx), W_succ (by omega)]
      have := ih (i + 1) (by omega)
      rw [take_succ' hx, List.foldl_append] at this
      exact this
  exact key l.length 0 (by omega)
/-- The same, with the index ahead. -/
theorem loop_fold' {α S R : Type} {body : Int × S → Option (Lp (Int × S) R)} (l : List α) (f : S → α → S) (s : S) (r : S → R) (hl : Lo l) (h1 : ∀ (i : Nat) x s, l[i]? = some x → body ((i : Int), s) = some (.next (W ((i : Int) + 1), f s x))) (h2 : ∀ s, body ((l.length : Int), s) = some (.done (r s))) : loop body (0, s) = some (r (l.foldl f s)) := by
  unfold Lo at hl
  refine loop_path l.length (fun i => ((i : Int), (l.take i).foldl f s)) _ (fun i hi => ?_) ?_
  · obtain ⟨x, hx⟩ : ∃ x, l[i]? = some x := ⟨_, List.getElem?_eq_getElem hi⟩
    show body ((i : Int), (l.take i).foldl f s) = _
    rw [h1 i x _ hx, W_succ (by omega), take_succ' hx, List.foldl_append]
    rfl
  · show body ((l.length : Int), (l.take l.length).foldl f s) = _
    rw [h2, List.take_length]
theorem any_range_zero (n : Nat) (b : Bool) (h : 0 < n) : (List.range n).any (fun i => decide (i = 0) && b) = b := by
  cases n with
  | zero => omega
  | succ n =>
    rw [List.range_succ_eq_map, List.any_cons, List.any_map]
    cases b <;> simp
theorem any_range_last (n : Nat) (b : Bool) (h : 0 < n) : (List.range n).any (fun i => decide (i + 1 = n) && b) = b := by
  cases b with
  | false => simp
  | true =>
    rw [List.any_eq_true]
    exact ⟨n - 1, List.mem_range.2 (by omega), by simp; omega⟩
theorem any_range_congr {n : Nat} {p q : Nat → Bool} (h : ∀ i, i < n → p i = q i) : (List.range n).any p = (List.range n).any q := by
  rw [Bool.eq_iff_iff, List.any_eq_true, List.any_eq_true]
  constructor
  · rintro ⟨i, hi, hp⟩; exact ⟨i, hi, by rw [← h i (List.mem_range.1 hi)]; exact hp⟩
  · rintro ⟨i, hi, hp⟩; exact ⟨i, hi, by rw [h i (List.mem_range.1 hi)]; exact hp⟩
theorem getI_z {α : Type} {l : List α} : getI l 0 = l[0]? := getI_nat (j := 0)
end Go.Proofs.YtadjcdhcdmiifaaGreat
