import Derived.Test.YtjomajedgbcngaaPU
set_option linter.unusedVariables false
set_option linter.unusedSimpArgs false
namespace Go.Proofs.Ytjomajedgbcngaa
structure Ot {α : Type} (lt : α -> α -> Bool) : Prop where
 irrefl : ∀ a, lt a a = false
 trans : ∀ a b c, lt a b = true -> lt b c = true -> lt a c = true
 tot : ∀ a b, lt a b = false -> lt b a = false -> a = b
section
variable {α : Type} {lt : α -> α -> Bool}
theorem Ot.asymm (h : Ot lt) {a b : α} (hab : lt a b = true) : lt b a = false := by
 cases hb : lt b a with
 | false => rfl
 | true => have := h.trans _ _ _ hab hb; rw [h.irrefl] at this; cases this
abbrev Z8 (lt : α -> α -> Bool) (l : List α) : Prop := l.Pairwise fun x y => lt x y = true
theorem Qo (h : Ot lt) : ∀ {l m : List α}, Z8 lt l -> Z8 lt m -> (∀ x, x ∈ l ↔ x ∈ m) -> l = m
 | [], [], _, _, _ => rfl
 | [], y :: m, _, _, he => by have := (he y).2 (.head _); cases this
 | x :: l, [], _, _, he => by have := (he x).1 (.head _); cases this
 | x :: l, y :: m, hl, hm, he => by
  obtain ⟨l1, l2⟩ := List.pairwise_cons.1 hl
  obtain ⟨m1, m2⟩ := List.pairwise_cons.1 hm
  have hxy : x = y := by
   rcases List.mem_cons.1 ((he x).1 (.head _)) with h1 | h1
   ·exact h1
   ·rcases List.mem_cons.1 ((he y).2 (.head _)) with h2 | h2
    ·exact h2.symm
    ·have a1 := m1 x h1
     have a2 := l1 y h2
     rw [h.asymm a1] at a2
     cases a2
  subst hxy
  rw [Qo h l2 m2 fun z => ⟨fun hz => ?_, fun hz => ?_⟩]
  ·rcases List.mem_cons.1 ((he z).1 (.tail _ hz)) with rfl | h1
   ·have := l1 z hz
    rw [h.irrefl] at this; cases this
   ·exact h1
  ·rcases List.mem_cons.1 ((he z).2 (.tail _ hz)) with rfl | h1
   ·have := m1 z hz
    rw [h.irrefl] at this; cases this
   ·exact h1
def Mq (lt : α -> α -> Bool) : List α -> α -> List α
 | [], x => [x]
 | y :: l, x => bif lt y x then y :: Mq lt l x else bif lt x y then x :: y :: l else y :: l
theorem Me (h : Ot lt) {x z : α} : ∀ {l : List α}, z ∈ Mq lt l x ↔ z = x \/ z ∈ l
 | [] => by simp [Mq]
 | y :: l => by
  unfold Mq
  cases h1 : lt y x with
  | true => rw [cond_true, List.mem_cons, Me h (l := l), List.mem_cons]; exact ⟨fun h => h.elim (fun h => .inr (.inl h)) fun h => h.elim .inl fun h => .inr (.inr h), fun h => h.elim (fun h => .inr (.inl h)) fun h => h.elim .inl fun h => .inr (.inr h)⟩
  | false =>
   cases h2 : lt x y with
   | true => rw [cond_false, cond_true, List.mem_cons]
   | false =>
    rw [cond_false, cond_false, h.tot y x h1 h2]
    exact ⟨.inr, fun hh => hh.elim (fun e => by rw [e]; exact .head _) id⟩
theorem Mk (h : Ot lt) {x : α} : ∀ {l : List α}, Z8 lt l -> Z8 lt (Mq lt l x)
 | [], _ => by simp [Mq]
 | y :: l, hl => by
  obtain ⟨l1, l2⟩ := List.pairwise_cons.1 hl
  unfold Mq
  cases h1 : lt y x with
  | true =>
   rw [cond_true]
   refine List.pairwise_cons.2 ⟨fun z hz => ?_, Mk h l2⟩
   rcases (Me h).1 hz with rfl | hz
   ·exact h1
   ·exact l1 z hz
  | false =>
   cases h2 : lt x y with
   | true =>
    rw [cond_false, cond_true]
    refine List.pairwise_cons.2 ⟨fun z hz => ?_, hl⟩
    rcases List.mem_cons.1 hz with rfl | hz
    ·exact h2
    ·exact h.trans _ _ _ h2 (l1 z hz)
   | false => exact hl
def D2 (lt : α -> α -> Bool) (l : List α) : List α := l.foldl (Mq lt) []
theorem Ts (h : Ot lt) : ∀ (l a : List α), Z8 lt a -> Z8 lt (l.foldl (Mq lt) a) /\ ∀ z, z ∈ l.foldl (Mq lt) a ↔ z ∈ a \/ z ∈ l
 | [], a, ha => ⟨ha, fun z => by simp⟩
 | x :: l, a, ha => by
  obtain ⟨h1, h2⟩ := Ts h l (Mq lt a x) (Mk h ha)
  refine ⟨h1, fun z => ?_⟩
  rw [List.foldl_cons, h2 z, Me h, List.mem_cons]
  exact ⟨fun h => h.elim (fun h => h.elim (fun h => .inr (.inl h)) .inl) fun h => .inr (.inr h), fun h => h.elim (fun h => .inl (.inr h)) fun h => h.elim (fun h => .inl (.inl h)) .inr⟩
theorem O4 (h : Ot lt) (l : List α) : Z8 lt (D2 lt l) := (Ts h l [] .nil).1
theorem Kh (h : Ot lt) {l : List α} {z : α} : z ∈ D2 lt l ↔ z ∈ l := by
 have := (Ts h l [] .nil).2 z
 simpa [D2] using this
theorem Tk (h : Ot lt) {l m : List α} (hm : Z8 lt m) (he : ∀ z, z ∈ m ↔ z ∈ l) : m = D2 lt l := Qo h hm (O4 h l) fun z => (he z).trans (Kh h).symm
theorem T6 (h : Ot lt) {l : List α} (hl : Z8 lt l) : D2 lt l = l := (Tk h hl fun _ => Iff.rfl).symm
theorem Jn (h : Ot lt) {l m : List α} (he : ∀ z, z ∈ l ↔ z ∈ m) : D2 lt l = D2 lt m := Tk h (O4 h l) fun z => (Kh h).trans (he z)
theorem Tp (lt : α -> α -> Bool) (x : α) : ∀ l : List α, (Mq lt l x).length <= l.length + 1
 | [] => by simp [Mq]
 | y :: l => by
  unfold Mq
  cases lt y x with
  | true => have := Tp lt x l; simp only [cond_true, List.length_cons]; omega
  | false => cases lt x y <;> simp
theorem Wx (lt : α -> α -> Bool) : ∀ l a : List α, (l.foldl (Mq lt) a).length <= a.length + l.length
 | [], a => by simp
 | x :: l, a => by
  have h1 := Wx lt l (Mq lt a x)
  have h2 := Tp lt x a
  rw [List.foldl_cons, List.length_cons]
  omega
theorem Ht (lt : α -> α -> Bool) (l : List α) : (D2 lt l).length <= l.length := by
 have := Wx lt l []
 simpa [D2] using this
def I5 [DecidableEq α] : List α -> List α
 | [] => []
 | [x] => [x]
 | x :: y :: l => if x = y then I5 (y :: l) else x :: I5 (y :: l)
theorem T5 [DecidableEq α] {z : α} : ∀ {l : List α}, z ∈ I5 l ↔ z ∈ l
 | [] => by simp [I5]
 | [x] => by simp [I5]
 | x :: y :: l => by
  unfold I5
  have ih := T5 (z := z) (l := y :: l)
  split
  ·rename_i e
   rw [ih, e]
   simp
  ·simp only [List.mem_cons] at ih ⊢
   rw [ih]
theorem Wi [DecidableEq α] (h : Ot lt) : ∀ {l : List α}, (l.Pairwise fun x y => lt y x = false) -> Z8 lt (I5 l)
 | [], _ => .nil
 | [x], _ => by simp [I5]
 | x :: y :: l, hl => by
  obtain ⟨l1, l2⟩ := List.pairwise_cons.1 hl
  have ih := Wi h l2
  unfold I5
  split
  ·exact ih
  ·rename_i hne
   refine List.pairwise_cons.2 ⟨fun z hz => ?_, ih⟩
   have hz := T5.1 hz
   have hxy : lt x y = true := by
    cases hh : lt x y with
    | true => rfl
    | false => exact absurd (h.tot x y hh (l1 y (.head _))) hne
   rcases List.mem_cons.1 hz with rfl | hz
   ·exact hxy
   ·have h3 := (List.pairwise_cons.1 l2).1 z hz
    cases hh : lt y z with
    | true => exact h.trans _ _ _ hxy hh
    | false => rw [<- h.tot y z hh h3]; exact hxy
theorem V6 [DecidableEq α] (h : Ot lt) {l r : List α} (hp : r.Perm l) (hr : r.Pairwise fun x y => lt y x = false) : I5 r = D2 lt l := Tk h (Wi h hr) fun z => T5.trans hp.mem_iff
end
end Go.Proofs.Ytjomajedgbcngaa
