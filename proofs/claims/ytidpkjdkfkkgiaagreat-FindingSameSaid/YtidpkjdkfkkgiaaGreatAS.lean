import Derived.Test.YtidpkjdkfkkgiaaGreatPU
set_option linter.unusedVariables false
set_option linter.unusedSimpArgs false
namespace Go.Proofs.YtidpkjdkfkkgiaaGreat
structure R6 {α : Type} (lt : α -> α -> Bool) : Prop where
 irrefl : ∀ a, lt a a = false
 trans : ∀ a b c, lt a b = true -> lt b c = true -> lt a c = true
 tot : ∀ a b, lt a b = false -> lt b a = false -> a = b
section
variable {α : Type} {lt : α -> α -> Bool}
theorem R6.asymm (h : R6 lt) {a b : α} (hab : lt a b = true) : lt b a = false := by
 cases hb : lt b a with
 | false => rfl
 | true => have := h.trans _ _ _ hab hb; rw [h.irrefl] at this; cases this
abbrev rW (lt : α -> α -> Bool) (l : List α) : Prop := l.Pairwise fun x y => lt x y = true
theorem kO (h : R6 lt) : ∀ {l m : List α}, rW lt l -> rW lt m -> (∀ x, x ∈ l ↔ x ∈ m) -> l = m
 | [], [], _, _, _ => rfl
 | [], y :: m, _, _, he => by have := (he y).2 (.head _); cases this
 | x :: l, [], _, _, he => by have := (he x).1 (.head _); cases this
 | x :: l, y :: m, hl, hm, he => by
  obtain ⟨l1, l2⟩ := List.pairwise_cons.1 hl
  obtain ⟨m1, m2⟩ := List.pairwise_cons.1 hm
  have hxy : x = y := by
   rcases List.mem_cons.1 ((he x).1 (.head _)) with h1 | h1
   ·exact h1
   ·rcases List.mem_cons.1 ((he y).2 (.head _)) with h2 | h2
    ·exact h2.symm
    ·have a1 := m1 x h1
     have a2 := l1 y h2
     rw [h.asymm a1] at a2
     cases a2
  subst hxy
  rw [kO h l2 m2 fun z => ⟨fun hz => ?_, fun hz => ?_⟩]
  ·rcases List.mem_cons.1 ((he z).1 (.tail _ hz)) with rfl | h1
   ·have := l1 z hz
    rw [h.irrefl] at this; cases this
   ·exact h1
  ·rcases List.mem_cons.1 ((he z).2 (.tail _ hz)) with rfl | h1
   ·have := m1 z hz
    rw [h.irrefl] at this; cases this
   ·exact h1
def S2 (lt : α -> α -> Bool) : List α -> α -> List α
 | [], x => [x]
 | y :: l, x => bif lt y x then y :: S2 lt l x else bif lt x y then x :: y :: l else y :: l
theorem Zd (h : R6 lt) {x z : α} : ∀ {l : List α}, z ∈ S2 lt l x ↔ z = x \/ z ∈ l
 | [] => by simp [S2]
 | y :: l => by
  unfold S2
  cases h1 : lt y x with
  | true => rw [cond_true, List.mem_cons, Zd h (l := l), List.mem_cons]; exact ⟨fun h => h.elim (fun h => .inr (.inl h)) fun h => h.elim .inl fun h => .inr (.inr h), fun h => h.elim (fun h => .inr (.inl h)) fun h => h.elim .inl fun h => .inr (.inr h)⟩
  | false =>
   cases h2 : lt x y with
   | true => rw [cond_false, cond_true, List.mem_cons]
   | false =>
    rw [cond_false, cond_false, h.tot y x h1 h2]
    exact ⟨.inr, fun hh => hh.elim (fun e => by rw [e]; exact .head _) id⟩
theorem dP (h : R6 lt) {x : α} : ∀ {l : List α}, rW lt l -> rW lt (S2 lt l x)
 | [], _ => by simp [S2]
 | y :: l, hl => by
  obtain ⟨l1, l2⟩ := List.pairwise_cons.1 hl
  unfold S2
  cases h1 : lt y x with
  | true =>
   rw [cond_true]
   refine List.pairwise_cons.2 ⟨fun z hz => ?_, dP h l2⟩
   rcases (Zd h).1 hz with rfl | hz
   ·exact h1
   ·exact l1 z hz
  | false =>
   cases h2 : lt x y with
   | true =>
    rw [cond_false, cond_true]
    refine List.pairwise_cons.2 ⟨fun z hz => ?_, hl⟩
    rcases List.mem_cons.1 hz with rfl | hz
    ·exact h2
    ·exact h.trans _ _ _ h2 (l1 z hz)
   | false => exact hl
def Jf (lt : α -> α -> Bool) (l : List α) : List α := l.foldl (S2 lt) []
theorem Yi (h : R6 lt) : ∀ (l a : List α), rW lt a -> rW lt (l.foldl (S2 lt) a) /\ ∀ z, z ∈ l.foldl (S2 lt) a ↔ z ∈ a \/ z ∈ l
 | [], a, ha => ⟨ha, fun z => by simp⟩
 | x :: l, a, ha => by
  obtain ⟨h1, h2⟩ := Yi h l (S2 lt a x) (dP h ha)
  refine ⟨h1, fun z => ?_⟩
  rw [List.foldl_cons, h2 z, Zd h, List.mem_cons]
  exact ⟨fun h => h.elim (fun h => h.elim (fun h => .inr (.inl h)) .inl) fun h => .inr (.inr h), fun h => h.elim (fun h => .inl (.inr h)) fun h => h.elim (fun h => .inl (.inl h)) .inr⟩
theorem Z4 (h : R6 lt) (l : List α) : rW lt (Jf lt l) := (Yi h l [] .nil).1
theorem Sk (h : R6 lt) {l : List α} {z : α} : z ∈ Jf lt l ↔ z ∈ l := by
 have := (Yi h l [] .nil).2 z
 simpa [Jf] using this
theorem Ye (h : R6 lt) {l m : List α} (hm : rW lt m) (he : ∀ z, z ∈ m ↔ z ∈ l) : m = Jf lt l := kO h hm (Z4 h l) fun z => (he z).trans (Sk h).symm
theorem gM (h : R6 lt) {l : List α} (hl : rW lt l) : Jf lt l = l := (Ye h hl fun _ => Iff.rfl).symm
theorem Wc (h : R6 lt) {l m : List α} (he : ∀ z, z ∈ l ↔ z ∈ m) : Jf lt l = Jf lt m := Ye h (Z4 h l) fun z => (Sk h).trans (he z)
theorem fJ (lt : α -> α -> Bool) (x : α) : ∀ l : List α, (S2 lt l x).length <= l.length + 1
 | [] => by simp [S2]
 | y :: l => by
  unfold S2
  cases lt y x with
  | true => have := fJ lt x l; simp only [cond_true, List.length_cons]; omega
  | false => cases lt x y <;> simp
theorem fF (lt : α -> α -> Bool) : ∀ l a : List α, (l.foldl (S2 lt) a).length <= a.length + l.length
 | [], a => by simp
 | x :: l, a => by
  have h1 := fF lt l (S2 lt a x)
  have h2 := fJ lt x a
  rw [List.foldl_cons, List.length_cons]
  omega
theorem Sp (lt : α -> α -> Bool) (l : List α) : (Jf lt l).length <= l.length := by
 have := fF lt l []
 simpa [Jf] using this
def Lb [DecidableEq α] : List α -> List α
 | [] => []
 | [x] => [x]
 | x :: y :: l => if x = y then Lb (y :: l) else x :: Lb (y :: l)
theorem Xv [DecidableEq α] {z : α} : ∀ {l : List α}, z ∈ Lb l ↔ z ∈ l
 | [] => by simp [Lb]
 | [x] => by simp [Lb]
 | x :: y :: l => by
  unfold Lb
  have ih := Xv (z := z) (l := y :: l)
  split
  ·rename_i e
   rw [ih, e]
   simp
  ·simp only [List.mem_cons] at ih ⊢
   rw [ih]
theorem dZ [DecidableEq α] (h : R6 lt) : ∀ {l : List α}, (l.Pairwise fun x y => lt y x = false) -> rW lt (Lb l)
 | [], _ => .nil
 | [x], _ => by simp [Lb]
 | x :: y :: l, hl => by
  obtain ⟨l1, l2⟩ := List.pairwise_cons.1 hl
  have ih := dZ h l2
  unfold Lb
  split
  ·exact ih
  ·rename_i hne
   refine List.pairwise_cons.2 ⟨fun z hz => ?_, ih⟩
   have hz := Xv.1 hz
   have hxy : lt x y = true := by
    cases hh : lt x y with
    | true => rfl
    | false => exact absurd (h.tot x y hh (l1 y (.head _))) hne
   rcases List.mem_cons.1 hz with rfl | hz
   ·exact hxy
   ·have h3 := (List.pairwise_cons.1 l2).1 z hz
    cases hh : lt y z with
    | true => exact h.trans _ _ _ hxy hh
    | false => rw [<- h.tot y z hh h3]; exact hxy
theorem dG [DecidableEq α] (h : R6 lt) {l r : List α} (hp : r.Perm l) (hr : r.Pairwise fun x y => lt y x = false) : Lb r = Jf lt l := Ye h (dZ h hr) fun z => Xv.trans hp.mem_iff
end
end Go.Proofs.YtidpkjdkfkkgiaaGreat
