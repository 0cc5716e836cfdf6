/- Loops over lists, as plain functions. No program is in sight here. -/
import Derived.Test.YtfkgbfhpibiheaaPC
set_option linter.unusedVariables false
set_option linter.unusedSimpArgs false
namespace Go.Proofs.Ytfkgbfhpibiheaa
open Go
theorem loop_next {S R : Type} {body : S → Option (Lp S R)} {s s' : S} (h : body s = some (.next s')) : loop body s = loop body s' := by rw [loop_eq, h]; rfl
theorem loop_done {S R : Type} {body : S → Option (Lp S R)} {s : S} {r : R} (h : body s = some (.done r)) : loop body s = some r := by rw [loop_eq, h]; rfl
theorem loop_up {S R : Type} {body : S → Option (Lp S R)} {s : S} {x : Option R} (h : body s = up x) : loop body s = x := by rw [loop_eq, h]; cases x <;> rfl
theorem loop_path {S R : Type} {body : S → Option (Lp S R)} (n : Nat) (G : Nat → S) (r : R) (h1 : ∀ i, i < n → body (G i) = some (.next (G (i + 1)))) (h2 : body (G n) = some (.done r)) : loop body (G 0) = some r := by
  have key : ∀ k i, i + k = n → loop body (G i) = some r := by
    intro k
    induction k with
    | zero => intro i hi; rw [loop_eq, show i = n by omega, h2]; rfl
    | succ k ih => intro i hi; rw [loop_eq, h1 i (by omega)]; exact ih (i + 1) (by omega)
  exact key n 0 (by omega)
theorem loop_anyN {S R : Type} {body : S → Option (Lp S R)} (n : Nat) (G : Nat → S) (p : Nat → Bool) (r1 r2 : R) (h1 : ∀ i, i < n → body (G i) = some (bif p i then .done r1 else .next (G (i + 1)))) (h2 : body (G n) = some (.done r2)) : loop body (G 0) = some (bif (List.range n).any p then r1 else r2) := by
  have key : ∀ k i, i + k = n → loop body (G i) = some (bif (List.range' i k).any p then r1 else r2) := by
    intro k
    induction k with
    | zero => intro i hi; rw [loop_eq, show i = n by omega, h2]; rfl
    | succ k ih =>
      intro i hi
      rw [loop_eq, h1 i (by omega), List.range'_succ, List.any_cons]
      cases hp : p i
      · exact ih (i + 1) (by omega)
      · rfl
  have := key n 0 (by omega)
  rw [this, List.range_eq_range']
theorem range_any {α : Type} (l : List α) (p : α → Bool) (q : Nat → Bool) (h : ∀ i x, l[i]? = some x → q i = p x) : (List.range l.length).any q = l.any p := by
  induction l generalizing q with
  | nil => rfl
  | cons x l ih =>
    rw [List.length_cons, List.range_succ_eq_map, List.any_cons, List.any_cons, h 0 x rfl, List.any_map]
    congr 1
    exact ih _ fun i y hy => h (i + 1) y hy
theorem loop_any {α S R : Type} {body : S → Option (Lp S R)} (l : List α) (G : Nat → S) (p : α → Bool) (r1 r2 : R) (h1 : ∀ i x, l[i]? = some x → body (G i) = some (bif p x then .done r1 else .next (G (i + 1)))) (h2 : body (G l.length) = some (.done r2)) : loop body (G 0) = some (bif l.any p then r1 else r2) := by
  cases l with
  | nil => rw [loop_eq, show body (G 0) = some (.done r2) from h2]; rfl
  | cons y l =>
    rw [loop_anyN (y :: l).length G (fun i => p ((y :: l).getD i y)) r1 r2 (fun i hi => ?_) h2, range_any (y :: l) p _ fun i x hx => by simp [hx]]
    obtain ⟨x, hx⟩ : ∃ x, (y :: l)[i]? = some x := ⟨_, List.getElem?_eq_getElem hi⟩
    rw [h1 i x hx]
    simp [hx]
theorem loop_find {α S R : Type} {body : S → Option (Lp S R)} (l : List α) (G : Nat → S) (p : α → Bool) (f : Nat → R) (r2 : R) (h1 : ∀ i x, l[i]? = some x → body (G i) = some (bif p x then .done (f i) else .next (G (i + 1)))) (h2 : body (G l.length) = some (.done r2)) : loop body (G 0) = some (match l.findIdx? p with | some i => f i | none => r2) := by
  have key : ∀ (m : List α) i, l.drop i = m → i ≤ l.length → loop body (G i) = some (match m.findIdx? p with | some j => f (i + j) | none => r2) := by
    intro m
    induction m with
    | nil =>
      intro i hi hl
      have : l.length ≤ i := List.drop_eq_nil_iff.1 hi
      rw [loop_eq, show i = l.length by omega, h2]; rfl
    | cons x m ih =>
      intro i hi hl
      have hx : l[i]? = some x := by
        have := congrArg (fun q => q[0]?) hi
        simpa using this
      have hl' := (List.getElem?_eq_some_iff.1 hx).1
      rw [loop_eq, h1 i x hx, List.findIdx?_cons]
      cases hp : p x
      · have := ih (i + 1) (by rw [← List.drop_drop, hi]; rfl) hl'
        show loop body (G (i + 1)) = _
        rw [this]
        cases hq : m.findIdx? p with
        | none => simp
        | some j => simp only [Bool.false_eq_true, if_false, Option.map_some]; congr 2; omega
      · simp; rfl
  have := key l 0 (by simp) (Nat.zero_le _)
  rw [this]
  cases l.findIdx? p <;> simp
theorem for_in {α T : Type} {l : List α} {i : Nat} {x : α} {k : α → Option T} {e : Option T} (h : l[i]? = some x) : cond (decide ((i : Int) < (l.length : Int))) ((getI l (i : Int)).bind k) e = k x := by
  have hl := (List.getElem?_eq_some_iff.1 h).1
  rw [decide_eq_true (by omega), getI_nat, h]; rfl
theorem for_out {T : Type} {n : Nat} {a e : Option T} : cond (decide ((n : Int) < (n : Int))) a e = e := by
  rw [decide_eq_false (by omega)]; rfl
theorem W_succ {i : Nat} (h : i < 4611686018427387904) : W ((i : Int) + 1) = ((i + 1 : Nat) : Int) := by
  rw [W_id (by omega)]; omega
theorem appI_ok {α : Type} {k : Nat} {l m : List α} (h : (l.length + m.length) * k ≤ 140737488355328) : appI k l m = some (l ++ m) := by unfold appI; rw [if_pos h]
theorem at_lt {α : Type} {l : List α} {i : Nat} {x : α} (h : l[i]? = some x) : i < l.length := (List.getElem?_eq_some_iff.1 h).1
theorem take_succ' {α : Type} {l : List α} {i : Nat} {x : α} (h : l[i]? = some x) : l.take (i + 1) = l.take i ++ [x] := by
  obtain ⟨hk, e⟩ := List.getElem?_eq_some_iff.1 h
  rw [List.take_succ_eq_append_getElem hk, e]
end Go.Proofs.Ytfkgbfhpibiheaa
