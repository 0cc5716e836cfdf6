/- Plain texts, joined. No program is in sight here. -/
import Derived.Test.YtmbhoimeiahbaaaGreatPC
set_option linter.unusedVariables false
set_option linter.unusedSimpArgs false
namespace Go.Proofs.YtmbhoimeiahbaaaGreat
section
open Go
theorem loop_next {S R : Type} {body : S → Option (Lp S R)} {s s' : S} (h : body s = some (.next s')) : loop body s = loop body s' := by rw [loop_eq, h]; rfl
theorem loop_done {S R : Type} {body : S → Option (Lp S R)} {s : S} {r : R} (h : body s = some (.done r)) : loop body s = some r := by rw [loop_eq, h]; rfl
theorem loop_up {S R : Type} {body : S → Option (Lp S R)} {s : S} {x : Option R} (h : body s = up x) : loop body s = x := by rw [loop_eq, h]; cases x <;> rfl
theorem loop_path {S R : Type} {body : S → Option (Lp S R)} (n : Nat) (G : Nat → S) (r : R) (h1 : ∀ i, i < n → body (G i) = some (.next (G (i + 1)))) (h2 : body (G n) = some (.done r)) : loop body (G 0) = some r := by
  have key : ∀ k i, i + k = n → loop body (G i) = some r := by
    intro k
    induction k with
    | zero => intro i hi; rw [loop_eq, show i = n by omega, h2]; rfl
    | succ k ih => intro i hi; rw [loop_eq, h1 i (by omega)]; exact ih (i + 1) (by omega)
  exact key n 0 (by omega)
theorem loop_anyN {S R : Type} {body : S → Option (Lp S R)} (n : Nat) (G : Nat → S) (p : Nat → Bool) (r1 r2 : R) (h1 : ∀ i, i < n → body (G i) = some (bif p i then .done r1 else .next (G (i + 1)))) (h2 : body (G n) = some (.done r2)) : loop body (G 0) = some (bif (List.range n).any p then r1 else r2) := by
  have key : ∀ k i, i + k = n → loop body (G i) = some (bif (List.range' i k).any p then r1 else r2) := by
    intro k
    induction k with
    | zero => intro i hi; rw [loop_eq, show i = n by omega, h2]; rfl
    | succ k ih =>
      intro i hi
      rw [loop_eq, h1 i (by omega), List.range'_succ, List.any_cons]
      cases hp : p i
      · exact ih (i + 1) (by omega)
      · rfl
  have := key n 0 (by omega)
  rw [this, List.range_eq_range']
theorem range_any {α : Type} (l : List α) (p : α → Bool) (q : Nat → Bool) (h : ∀ i x, l[i]? = some x → q i = p x) : (List.range l.length).any q = l.any p := by
  induction l generalizing q with
  | nil => rfl
  | cons x l ih =>
    rw [List.length_cons, List.range_succ_eq_map, List.any_cons, List.any_cons, h 0 x rfl, List.any_map]
    congr 1
    exact ih _ fun i y hy => h (i + 1) y hy
theorem loop_any {α S R : Type} {body : S → Option (Lp S R)} (l : List α) (G : Nat → S) (p : α → Bool) (r1 r2 : R) (h1 : ∀ i x, l[i]? = some x → body (G i) = some (bif p x then .done r1 else .next (G (i + 1)))) (h2 : body (G l.length) = some (.done r2)) : loop body (G 0) = some (bif l.any p then r1 else r2) := by
  cases l with
  | nil => rw [loop_eq, show body (G 0) = some (.done r2) from h2]; rfl
  | cons y l =>
    rw [loop_anyN (y :: l).length G (fun i => p ((y :: l).getD i y)) r1 r2 (fun i hi => ?_) h2, range_any (y :: l) p _ fun i x hx => by simp [hx]]
    obtain ⟨x, hx⟩ : ∃ x, (y :: l)[i]? = some x := ⟨_, List.getElem?_eq_getElem hi⟩
    rw [h1 i x hx]
    simp [hx]
theorem loop_find {α S R : Type} {body : S → Option (Lp S R)} (l : List α) (G : Nat → S) (p : α → Bool) (f : Nat → R) (r2 : R) (h1 : ∀ i x, l[i]? = some x → body (G i) = some (bif p x then .done (f i) else .next (G (i + 1)))) (h2 : body (G l.length) = some (.done r2)) : loop body (G 0) = some (match l.findIdx? p with | some i => f i | none => r2) := by
  have key : ∀ (m : List α) i, l.drop i = m → i ≤ l.length → loop body (G i) = some (match m.findIdx? p with | some j => f (i + j) | none => r2) := by
    intro m
    induction m with
    | nil =>
      intro i hi hl
      have : l.length ≤ i := List.drop_eq_nil_iff.1 hi
      rw [loop_eq, show i = l.length by omega, h2]; rfl
    | cons x m ih =>
      intro i hi hl
      have hx : l[i]? = some x := by
        have := congrArg (fun q => q[0]?) hi
        simpa using this
      have hl' := (List.getElem?_eq_some_iff.1 hx).1
      rw [loop_eq, h1 i x hx, List.findIdx?_cons]
      cases hp : p x
      · have := ih (i + 1) (by rw [← List.drop_drop, hi]; rfl) hl'
        show loop body (G (i + 1)) = _
        rw [this]
        cases hq : m.findIdx? p with
        | none => simp
        | some j => simp only [Bool.false_eq_true, if_false, Option.map_some]; congr 2; omega
      · simp; rfl
  have := key l 0 (by simp) (Nat.zero_le _)
  rw [this]
  cases l.findIdx? p <;> simp
theorem for_in {α T : Type} {l : List α} {i : Nat} {x : α} {k : α → Option T} {e : Option T} (h : l[i]? = some x) : cond (decide ((i : Int) < (l.length : Int))) ((getI l (i : Int)).bind k) e = k x := by
  have hl := (List.getElem?_eq_some_iff.1 h).1
  rw [decide_eq_true (by omega), getI_nat, h]; rfl
theorem for_out {T : Type} {n : Nat} {a e : Option T} : cond (decide ((n : Int) < (n : Int))) a e = e := by
  rw [decide_eq_false (by omega)]; rfl
theorem W_succ {i : Nat} (h : i < 4611686018427387904) : W ((i : Int) + 1) = ((i + 1 : Nat) : Int) := by
  rw [W_id (by omega)]; omega
theorem W_nat {i : Nat} (h : i < 4611686018427387904) : W (i : Int) = (i : Int) := W_id (by omega)
theorem appI_ok {α : Type} {k : Nat} {l m : List α} (h : (l.length + m.length) * k ≤ 140737488355328) : appI k l m = some (l ++ m) := by unfold appI; rw [if_pos h]
theorem at_lt {α : Type} {l : List α} {i : Nat} {x : α} (h : l[i]? = some x) : i < l.length := (List.getElem?_eq_some_iff.1 h).1
theorem at_mem {α : Type} {l : List α} {i : Nat} {x : α} (h : l[i]? = some x) : x ∈ l := List.mem_of_getElem? h
theorem take_succ' {α : Type} {l : List α} {i : Nat} {x : α} (h : l[i]? = some x) : l.take (i + 1) = l.take i ++ [x] := by
  obtain ⟨hk, e⟩ := List.getElem?_eq_some_iff.1 h
  rw [List.take_succ_eq_append_getElem hk, e]
end
section
open Go
def Lo {α : Type} (l : List α) : Prop := l.length < 4611686018427387904
def firstS {α : Type} (l : List α) (p : α → Bool) : Int := match l.findIdx? p with | some i => (i : Int) | none => -1
theorem firstS_any {α : Type} (l : List α) (p : α → Bool) : decide (0 ≤ firstS l p) = l.any p := by
  unfold firstS
  have := List.findIdx?_isSome (xs := l) (p := p)
  cases h : l.findIdx? p with
  | none => rw [h] at this; rw [← this]; rfl
  | some i => rw [h] at this; rw [← this]; simp
theorem loop_first {α : Type} {body : Int → Option (Lp Int Int)} (l : List α) (p : α → Bool) (hl : Lo l) (h1 : ∀ (i : Nat) x, l[i]? = some x → body (i : Int) = some (bif p x then .done (i : Int) else .next (W ((i : Int) + 1)))) (h2 : body (l.length : Int) = some (.done (-1))) : loop body 0 = some (firstS l p) := by
  unfold Lo at hl
  refine (loop_find l (fun i => (i : Int)) p (fun i => (i : Int)) (-1) (fun i x hx => ?_) h2).trans ?_
  · have := at_lt hx
    rw [h1 i x hx, W_succ (by omega)]
  · rfl
theorem loop_has {α R : Type} {body : Int → Option (Lp Int R)} (l : List α) (p : α → Bool) (r1 r2 : R) (hl : Lo l) (h1 : ∀ (i : Nat) x, l[i]? = some x → body (i : Int) = some (bif p x then .done r1 else .next (W ((i : Int) + 1)))) (h2 : body (l.length : Int) = some (.done r2)) : loop body 0 = some (bif l.any p then r1 else r2) := by
  unfold Lo at hl
  refine loop_any l (fun i => (i : Int)) p r1 r2 (fun i x hx => ?_) h2
  have := at_lt hx
  rw [h1 i x hx, W_succ (by omega)]
theorem loop_hasN {R : Type} {body : Int → Option (Lp Int R)} (n : Nat) (p : Nat → Bool) (r1 r2 : R) (hl : n < 4611686018427387904) (h1 : ∀ (i : Nat), i < n → body (i : Int) = some (bif p i then .done r1 else .next (W ((i : Int) + 1)))) (h2 : body (n : Int) = some (.done r2)) : loop body 0 = some (bif (List.range n).any p then r1 else r2) := by
  refine loop_anyN n (fun i => (i : Int)) p r1 r2 (fun i hi => ?_) h2
  rw [h1 i hi, W_succ (by omega)]
theorem loop_fold {α S R : Type} {body : S × Int → Option (Lp (S × Int) R)} (l : List α) (f : S → α → S) (s : S) (r : S → R) (hl : Lo l) (h1 : ∀ (i : Nat) x s, l[i]? = some x → body (s, (i : Int)) = some (.next (f s x, W ((i : Int) + 1)))) (h2 : ∀ s, body (s, (l.length : Int)) = some (.done (r s))) : loop body (s, 0) = some (r (l.foldl f s)) := by
  unfold Lo at hl
  refine loop_path l.length (fun i => ((l.take i).foldl f s, (i : Int))) _ (fun i hi => ?_) ?_
  · obtain ⟨x, hx⟩ : ∃ x, l[i]? = some x := ⟨_, List.getElem?_eq_getElem hi⟩
    show body ((l.take i).foldl f s, (i : Int)) = _
    rw [h1 i x _ hx, W_succ (by omega), take_succ' hx, List.foldl_append]
    rfl
  · show body ((l.take l.length).foldl f s, (l.length : Int)) = _
    rw [h2, List.take_length]
theorem loop_foldU {α S R : Type} {body : S × Int → Option (Lp (S × Int) R)} (l : List α) (f : S → α → S) (s : S) (r : S → Option R) (hl : Lo l) (h1 : ∀ (i : Nat) x s, l[i]? = some x → body (s, (i : Int)) = some (.next (f s x, W ((i : Int) + 1)))) (h2 : ∀ s, body (s, (l.length : Int)) = up (r s)) : loop body (s, 0) = r (l.foldl f s) := by
  unfold Lo at hl
  have key : ∀ k i, i + k = l.length → loop body ((l.take i).foldl f s, (i : Int)) = r (l.foldl f s) := by
    intro k
    induction k with
    | zero =>
      intro i hi
      have : i = l.length := by omega
      subst this
      rw [List.take_length, loop_up (h2 _)]
    | succ k ih =>
      intro i hi
      obtain ⟨x, hx⟩ : ∃ x, l[i]? = some x := ⟨_, List.getElem?_eq_getElem (by omega)⟩
      rw [loop_next (h1 i x _ hx), W_succ (by omega)]
      have := ih (i + 1) (by omega)
      rw [take_succ' hx, List.foldl_append] at this
      exact this
  exact key l.length 0 (by omega)
end
section
open Go
def Ok {α : Type} (x : Option α) (Q : α → Prop) : Prop := ∃ a, x = some a ∧ Q a
section
variable {α β S R : Type} {x y : Option α} {f : α → Option β} {Q : α → Prop} {T : β → Prop}
theorem Ok.bind (h : Ok x Q) (k : ∀ a, Q a → Ok (f a) T) : Ok (x.bind f) T := by
  obtain ⟨a, rfl, h⟩ := h
  exact k a h
theorem Ok.bindE {a : α} (h : x = some a) (k : Ok (f a) T) : Ok (x.bind f) T := by subst h; exact k
theorem Ok.cond {b : Bool} (h : b = true → Ok x Q) (k : b = false → Ok y Q) : Ok (cond b x y) Q := by
  cases b with
  | true => exact h rfl
  | false => exact k rfl
theorem Ok.ret {a : α} (h : Q a) : Ok (some a) Q := ⟨a, rfl, h⟩
theorem Ok.of {a : α} (h : x = some a) (k : Q a) : Ok x Q := ⟨a, h, k⟩
theorem Ok.mono {Q' : α → Prop} (h : Ok x Q) (k : ∀ a, Q a → Q' a) : Ok x Q' := by
  obtain ⟨a, h, q⟩ := h
  exact ⟨a, h, k a q⟩
def Rd' (Inv : S → Prop) (Q : R → Prop) : Lp S R → Prop
  | .next s => Inv s
  | .done r => Q r
theorem Ok.up {Q : R → Prop} {x : Option R} {I : S → Prop} (h : Ok x Q) : Ok (up x : Option (Lp S R)) (Rd' I Q) := by
  obtain ⟨r, rfl, h⟩ := h
  exact ⟨_, rfl, h⟩
theorem Ok.loop {body : S → Option (Lp S R)} (Inv : S → Prop) (μ : S → Nat) {Q : R → Prop} {s : S} (h : ∀ s, Inv s → Ok (body s) (Rd' (fun s' => Inv s' ∧ μ s' < μ s) Q)) (hs : Inv s) : Ok (loop body s) Q :=
  loop_inv Inv μ Q (fun s hs => by
    obtain ⟨o, h1, h2⟩ := h s hs
    refine ⟨o, h1, ?_⟩
    cases o <;> exact h2) s hs
theorem Ok.and {T' : α → Prop} (h : Ok x Q) (k : Ok x T') : Ok x (fun a => Q a ∧ T' a) := by
  obtain ⟨a, h1, h2⟩ := h
  obtain ⟨b, h3, h4⟩ := k
  rw [h1] at h3
  injection h3 with h3
  subst h3
  exact ⟨a, h1, h2, h4⟩
theorem Ok.true_ {x : Option Bool} (h : Ok x (fun r => r = true)) : x = some true := by
  obtain ⟨a, h1, rfl⟩ := h
  exact h1
end
theorem getI_ok {α : Type} {l : List α} {i : Int} (h0 : 0 ≤ i) (h1 : i < l.length) : Ok (getI l i) (fun x => l[i.toNat]? = some x) := by
  have h2 : i.toNat < l.length := by omega
  refine ⟨l[i.toNat], ?_, List.getElem?_eq_getElem h2⟩
  rw [getI_eq h0]
  exact List.getElem?_eq_getElem h2
theorem getI_mem {α : Type} {l : List α} {i : Int} (h0 : 0 ≤ i) (h1 : i < l.length) : Ok (getI l i) (fun x => x ∈ l) := (getI_ok h0 h1).mono fun _ h => List.mem_of_getElem? h
theorem appI_ok' {α : Type} {k : Nat} {l m : List α} (h : (l.length + m.length) * k ≤ 140737488355328) : Ok (appI k l m) (fun x => x = l ++ m) := ⟨_, appI_ok h, rfl⟩
theorem lo_small {α : Type} {l : List α} (h : l.length ≤ 1000000) : Lo l := by unfold Lo; omega
end
end Go.Proofs.YtmbhoimeiahbaaaGreat
