/- Plain texts, joined. No program is in sight here. -/
import Derived.Test.YtopkgllcjbpdeaaDoorPC
set_option linter.unusedVariables false
set_option linter.unusedSimpArgs false
namespace Go.Proofs.YtopkgllcjbpdeaaDoor
section
open Go
theorem Db {S R : Type} {body : S -> Option (Lp S R)} {s s' : S} (h : body s = some (.next s')) : B2 body s = B2 body s' := by rw [M2, h]; rfl
theorem Rg {S R : Type} {body : S -> Option (Lp S R)} {s : S} {r : R} (h : body s = some (.done r)) : B2 body s = some r := by rw [M2, h]; rfl
theorem Cr {S R : Type} {body : S -> Option (Lp S R)} {s : S} {x : Option R} (h : body s = up x) : B2 body s = x := by rw [M2, h]; cases x <;> rfl
theorem cQ {S R : Type} {body : S -> Option (Lp S R)} (n : Nat) (G : Nat -> S) (p : Nat -> Bool) (r1 r2 : R) (h1 : ∀ i, i < n -> body (G i) = some (bif p i then .done r1 else .next (G (i + 1)))) (h2 : body (G n) = some (.done r2)) : B2 body (G 0) = some (bif (List.range n).any p then r1 else r2) := by
 have key : ∀ k i, i + k = n -> B2 body (G i) = some (bif (List.range' i k).any p then r1 else r2) := by
  intro k
  induction k with
  | zero => intro i hi; rw [M2, show i = n by omega, h2]; rfl
  | succ k ih =>
   intro i hi
   rw [M2, h1 i (by omega), List.range'_succ, List.any_cons]
   cases hp : p i
   ·exact ih (i + 1) (by omega)
   ·rfl
 have := key n 0 (by omega)
 rw [this, List.range_eq_range']
theorem dJ {α : Type} (l : List α) (p : α -> Bool) (q : Nat -> Bool) (h : ∀ i x, l[i]? = some x -> q i = p x) : (List.range l.length).any q = l.any p := by
 induction l generalizing q with
 | nil => rfl
 | cons x l ih =>
  rw [List.length_cons, List.range_succ_eq_map, List.any_cons, List.any_cons, h 0 x rfl, List.any_map]
  congr 1
  exact ih _ fun i y hy => h (i + 1) y hy
theorem iI {α S R : Type} {body : S -> Option (Lp S R)} (l : List α) (G : Nat -> S) (p : α -> Bool) (r1 r2 : R) (h1 : ∀ i x, l[i]? = some x -> body (G i) = some (bif p x then .done r1 else .next (G (i + 1)))) (h2 : body (G l.length) = some (.done r2)) : B2 body (G 0) = some (bif l.any p then r1 else r2) := by
 cases l with
 | nil => rw [M2, show body (G 0) = some (.done r2) from h2]; rfl
 | cons y l =>
  rw [cQ (y :: l).length G (fun i => p ((y :: l).getD i y)) r1 r2 (fun i hi => ?_) h2, dJ (y :: l) p _ fun i x hx => by simp [hx]]
  obtain ⟨x, hx⟩ : ∃ x, (y :: l)[i]? = some x := ⟨_, List.getElem?_eq_getElem hi⟩
  rw [h1 i x hx]
  simp [hx]
theorem Dx {α T : Type} {l : List α} {i : Nat} {x : α} {k : α -> Option T} {e : Option T} (h : l[i]? = some x) : cond (decide ((i : Int) < (l.length : Int))) ((Bz l (i : Int)).bind k) e = k x := by
 have hl := (List.getElem?_eq_some_iff.1 h).1
 rw [decide_eq_true (by omega), E6, h]; rfl
theorem Dt {T : Type} {n : Nat} {a e : Option T} : cond (decide ((n : Int) < (n : Int))) a e = e := by
 rw [decide_eq_false (by omega)]; rfl
theorem Pl {i : Nat} (h : i < 4611686018427387904) : W ((i : Int) + 1) = ((i + 1 : Nat) : Int) := by
 rw [Em (by omega)]; omega
theorem lZ {i : Nat} (h : i < 4611686018427387904) : W (i : Int) = (i : Int) := Em (by omega)
theorem Fk {α : Type} {k : Nat} {l m : List α} (h : (l.length + m.length) * k <= 140737488355328) : G8 k l m = some (l ++ m) := by unfold G8; rw [if_pos h]
theorem qY {α : Type} {l : List α} {i : Nat} {x : α} (h : l[i]? = some x) : i < l.length := (List.getElem?_eq_some_iff.1 h).1
theorem H8 {α : Type} {l : List α} {i : Nat} {x : α} (h : l[i]? = some x) : x ∈ l := List.mem_of_getElem? h
theorem Dq {α : Type} {l : List α} {i : Nat} {x : α} (h : l[i]? = some x) : l.take (i + 1) = l.take i ++ [x] := by
 obtain ⟨hk, e⟩ := List.getElem?_eq_some_iff.1 h
 rw [List.take_succ_eq_append_getElem hk, e]
end
section
open Go
def Lo {α : Type} (l : List α) : Prop := l.length < 4611686018427387904
theorem Py {α R : Type} {body : Int -> Option (Lp Int R)} (l : List α) (p : α -> Bool) (r1 r2 : R) (hl : Lo l) (h1 : ∀ (i : Nat) x, l[i]? = some x -> body (i : Int) = some (bif p x then .done r1 else .next (W ((i : Int) + 1)))) (h2 : body (l.length : Int) = some (.done r2)) : B2 body 0 = some (bif l.any p then r1 else r2) := by
 unfold Lo at hl
 refine iI l (fun i => (i : Int)) p r1 r2 (fun i x hx => ?_) h2
 have := qY hx
 rw [h1 i x hx, Pl (by omega)]
theorem fD {α : Type} {l : List α} : Bz l 0 = l[0]? := E6 (j := 0)
end
section
open Go
def Ok {α : Type} (x : Option α) (Q : α -> Prop) : Prop := ∃ a, x = some a /\ Q a
section
variable {α β S R : Type} {x y : Option α} {f : α -> Option β} {Q : α -> Prop} {T : β -> Prop}
theorem Ok.bind (h : Ok x Q) (k : ∀ a, Q a -> Ok (f a) T) : Ok (x.bind f) T := by
 obtain ⟨a, rfl, h⟩ := h
 exact k a h
theorem Ok.bindE {a : α} (h : x = some a) (k : Ok (f a) T) : Ok (x.bind f) T := by subst h; exact k
theorem Ok.cond {b : Bool} (h : b = true -> Ok x Q) (k : b = false -> Ok y Q) : Ok (cond b x y) Q := by
 cases b with
 | true => exact h rfl
 | false => exact k rfl
theorem Ok.ret {a : α} (h : Q a) : Ok (some a) Q := ⟨a, rfl, h⟩
theorem Ok.of {a : α} (h : x = some a) (k : Q a) : Ok x Q := ⟨a, h, k⟩
theorem Ok.mono {Q' : α -> Prop} (h : Ok x Q) (k : ∀ a, Q a -> Q' a) : Ok x Q' := by
 obtain ⟨a, h, q⟩ := h
 exact ⟨a, h, k a q⟩
def Ub (Inv : S -> Prop) (Q : R -> Prop) : Lp S R -> Prop
 | .next s => Inv s
 | .done r => Q r
theorem Ok.up {Q : R -> Prop} {x : Option R} {I : S -> Prop} (h : Ok x Q) : Ok (up x : Option (Lp S R)) (Ub I Q) := by
 obtain ⟨r, rfl, h⟩ := h
 exact ⟨_, rfl, h⟩
theorem Ok.loop {body : S -> Option (Lp S R)} (Inv : S -> Prop) (μ : S -> Nat) {Q : R -> Prop} {s : S} (h : ∀ s, Inv s -> Ok (body s) (Ub (fun s' => Inv s' /\ μ s' < μ s) Q)) (hs : Inv s) : Ok (B2 body s) Q :=
 fQ Inv μ Q (fun s hs => by
  obtain ⟨o, h1, h2⟩ := h s hs
  refine ⟨o, h1, ?_⟩
  cases o <;> exact h2) s hs
theorem Ok.and {T' : α -> Prop} (h : Ok x Q) (k : Ok x T') : Ok x (fun a => Q a /\ T' a) := by
 obtain ⟨a, h1, h2⟩ := h
 obtain ⟨b, h3, h4⟩ := k
 rw [h1] at h3
 injection h3 with h3
 subst h3
 exact ⟨a, h1, h2, h4⟩
theorem kO {A B : Type} {F : (A -> Option B) -> A -> Option B} (hm : Yc F) (μ : A -> Nat) (Pre : A -> Prop) (Post : A -> B -> Prop) (h : ∀ rec a, Pre a -> (∀ b, Pre b -> μ b < μ a -> Ok (rec b) (Post b)) -> Ok (F rec a) (Post a)) (a : A) (ha : Pre a) : Ok (Z0 F a) (Post a) := by
 have key : ∀ n a, Pre a -> μ a < n -> Ok (S8 F n a) (Post a) := by
  intro n
  induction n with
  | zero => intro a _ h0; exact absurd h0 (Nat.not_lt_zero _)
  | succ n ih => intro a ha hn; exact h _ a ha fun b hb hl => ih b hb (by omega)
 obtain ⟨r, h1, h2⟩ := key (μ a + 1) a ha (Nat.lt_succ_self _)
 exact ⟨r, jJ hm h1, h2⟩
theorem Ok.true_ {x : Option Bool} (h : Ok x (fun r => r = true)) : x = some true := by
 obtain ⟨a, h1, rfl⟩ := h
 exact h1
end
theorem jA {α : Type} {l : List α} {i : Int} (h0 : 0 <= i) (h1 : i < l.length) : Ok (Bz l i) (fun x => l[i.toNat]? = some x) := by
 have h2 : i.toNat < l.length := by omega
 refine ⟨l[i.toNat], ?_, List.getElem?_eq_getElem h2⟩
 rw [jB h0]
 exact List.getElem?_eq_getElem h2
theorem Qk {α : Type} {l : List α} (h : l.length <= 1000000) : Lo l := by unfold Lo; omega
end
end Go.Proofs.YtopkgllcjbpdeaaDoor
