import Derived.Test.YtkoflhimdenjaaaGreatPU
set_option linter.unusedVariables false
set_option linter.unusedSimpArgs false
namespace Go.Proofs.YtkoflhimdenjaaaGreat
structure Sw {α : Type} (lt : α -> α -> Bool) : Prop where
 irrefl : ∀ a, lt a a = false
 trans : ∀ a b c, lt a b = true -> lt b c = true -> lt a c = true
 tot : ∀ a b, lt a b = false -> lt b a = false -> a = b
section
variable {α : Type} {lt : α -> α -> Bool}
theorem Sw.asymm (h : Sw lt) {a b : α} (hab : lt a b = true) : lt b a = false := by
 cases hb : lt b a with
 | false => rfl
 | true => have := h.trans _ _ _ hab hb; rw [h.irrefl] at this; cases this
abbrev tZ (lt : α -> α -> Bool) (l : List α) : Prop := l.Pairwise fun x y => lt x y = true
theorem iD (h : Sw lt) : ∀ {l m : List α}, tZ lt l -> tZ lt m -> (∀ x, x ∈ l ↔ x ∈ m) -> l = m
 | [], [], _, _, _ => rfl
 | [], y :: m, _, _, he => by have := (he y).2 (.head _); cases this
 | x :: l, [], _, _, he => by have := (he x).1 (.head _); cases this
 | x :: l, y :: m, hl, hm, he => by
  obtain ⟨l1, l2⟩ := List.pairwise_cons.1 hl
  obtain ⟨m1, m2⟩ := List.pairwise_cons.1 hm
  have hxy : x = y := by
   rcases List.mem_cons.1 ((he x).1 (.head _)) with h1 | h1
   ·exact h1
   ·rcases List.mem_cons.1 ((he y).2 (.head _)) with h2 | h2
    ·exact h2.symm
    ·have a1 := m1 x h1
     have a2 := l1 y h2
     rw [h.asymm a1] at a2
     cases a2
  subst hxy
  rw [iD h l2 m2 fun z => ⟨fun hz => ?_, fun hz => ?_⟩]
  ·rcases List.mem_cons.1 ((he z).1 (.tail _ hz)) with rfl | h1
   ·have := l1 z hz
    rw [h.irrefl] at this; cases this
   ·exact h1
  ·rcases List.mem_cons.1 ((he z).2 (.tail _ hz)) with rfl | h1
   ·have := m1 z hz
    rw [h.irrefl] at this; cases this
   ·exact h1
def Sf (lt : α -> α -> Bool) : List α -> α -> List α
 | [], x => [x]
 | y :: l, x => bif lt y x then y :: Sf lt l x else bif lt x y then x :: y :: l else y :: l
theorem Xw (h : Sw lt) {x z : α} : ∀ {l : List α}, z ∈ Sf lt l x ↔ z = x \/ z ∈ l
 | [] => by simp [Sf]
 | y :: l => by
  unfold Sf
  cases h1 : lt y x with
  | true => rw [cond_true, List.mem_cons, Xw h (l := l), List.mem_cons]; exact ⟨fun h => h.elim (fun h => .inr (.inl h)) fun h => h.elim .inl fun h => .inr (.inr h), fun h => h.elim (fun h => .inr (.inl h)) fun h => h.elim .inl fun h => .inr (.inr h)⟩
  | false =>
   cases h2 : lt x y with
   | true => rw [cond_false, cond_true, List.mem_cons]
   | false =>
    rw [cond_false, cond_false, h.tot y x h1 h2]
    exact ⟨.inr, fun hh => hh.elim (fun e => by rw [e]; exact .head _) id⟩
theorem eC (h : Sw lt) {x : α} : ∀ {l : List α}, tZ lt l -> tZ lt (Sf lt l x)
 | [], _ => by simp [Sf]
 | y :: l, hl => by
  obtain ⟨l1, l2⟩ := List.pairwise_cons.1 hl
  unfold Sf
  cases h1 : lt y x with
  | true =>
   rw [cond_true]
   refine List.pairwise_cons.2 ⟨fun z hz => ?_, eC h l2⟩
   rcases (Xw h).1 hz with rfl | hz
   ·exact h1
   ·exact l1 z hz
  | false =>
   cases h2 : lt x y with
   | true =>
    rw [cond_false, cond_true]
    refine List.pairwise_cons.2 ⟨fun z hz => ?_, hl⟩
    rcases List.mem_cons.1 hz with rfl | hz
    ·exact h2
    ·exact h.trans _ _ _ h2 (l1 z hz)
   | false => exact hl
def Q5 (lt : α -> α -> Bool) (l : List α) : List α := l.foldl (Sf lt) []
theorem Yj (h : Sw lt) : ∀ (l a : List α), tZ lt a -> tZ lt (l.foldl (Sf lt) a) /\ ∀ z, z ∈ l.foldl (Sf lt) a ↔ z ∈ a \/ z ∈ l
 | [], a, ha => ⟨ha, fun z => by simp⟩
 | x :: l, a, ha => by
  obtain ⟨h1, h2⟩ := Yj h l (Sf lt a x) (eC h ha)
  refine ⟨h1, fun z => ?_⟩
  rw [List.foldl_cons, h2 z, Xw h, List.mem_cons]
  exact ⟨fun h => h.elim (fun h => h.elim (fun h => .inr (.inl h)) .inl) fun h => .inr (.inr h), fun h => h.elim (fun h => .inl (.inr h)) fun h => h.elim (fun h => .inl (.inl h)) .inr⟩
theorem Zh (h : Sw lt) (l : List α) : tZ lt (Q5 lt l) := (Yj h l [] .nil).1
theorem Zo (h : Sw lt) {l : List α} {z : α} : z ∈ Q5 lt l ↔ z ∈ l := by
 have := (Yj h l [] .nil).2 z
 simpa [Q5] using this
theorem oR (h : Sw lt) {l m : List α} (hm : tZ lt m) (he : ∀ z, z ∈ m ↔ z ∈ l) : m = Q5 lt l := iD h hm (Zh h l) fun z => (he z).trans (Zo h).symm
theorem dX (lt : α -> α -> Bool) (x : α) : ∀ l : List α, (Sf lt l x).length <= l.length + 1
 | [] => by simp [Sf]
 | y :: l => by
  unfold Sf
  cases lt y x with
  | true => have := dX lt x l; simp only [cond_true, List.length_cons]; omega
  | false => cases lt x y <;> simp
theorem eJ (lt : α -> α -> Bool) : ∀ l a : List α, (l.foldl (Sf lt) a).length <= a.length + l.length
 | [], a => by simp
 | x :: l, a => by
  have h1 := eJ lt l (Sf lt a x)
  have h2 := dX lt x a
  rw [List.foldl_cons, List.length_cons]
  omega
theorem Zg (lt : α -> α -> Bool) (l : List α) : (Q5 lt l).length <= l.length := by
 have := eJ lt l []
 simpa [Q5] using this
def K3 [DecidableEq α] : List α -> List α
 | [] => []
 | [x] => [x]
 | x :: y :: l => if x = y then K3 (y :: l) else x :: K3 (y :: l)
theorem X8 [DecidableEq α] {z : α} : ∀ {l : List α}, z ∈ K3 l ↔ z ∈ l
 | [] => by simp [K3]
 | [x] => by simp [K3]
 | x :: y :: l => by
  unfold K3
  have ih := X8 (z := z) (l := y :: l)
  split
  ·rename_i e
   rw [ih, e]
   simp
  ·simp only [List.mem_cons] at ih ⊢
   rw [ih]
theorem cM [DecidableEq α] (h : Sw lt) : ∀ {l : List α}, (l.Pairwise fun x y => lt y x = false) -> tZ lt (K3 l)
 | [], _ => .nil
 | [x], _ => by simp [K3]
 | x :: y :: l, hl => by
  obtain ⟨l1, l2⟩ := List.pairwise_cons.1 hl
  have ih := cM h l2
  unfold K3
  split
  ·exact ih
  ·rename_i hne
   refine List.pairwise_cons.2 ⟨fun z hz => ?_, ih⟩
   have hz := X8.1 hz
   have hxy : lt x y = true := by
    cases hh : lt x y with
    | true => rfl
    | false => exact absurd (h.tot x y hh (l1 y (.head _))) hne
   rcases List.mem_cons.1 hz with rfl | hz
   ·exact hxy
   ·have h3 := (List.pairwise_cons.1 l2).1 z hz
    cases hh : lt y z with
    | true => exact h.trans _ _ _ hxy hh
    | false => rw [<- h.tot y z hh h3]; exact hxy
theorem qL [DecidableEq α] (h : Sw lt) {l r : List α} (hp : r.Perm l) (hr : r.Pairwise fun x y => lt y x = false) : K3 r = Q5 lt l := oR h (cM h hr) fun z => X8.trans hp.mem_iff
end
end Go.Proofs.YtkoflhimdenjaaaGreat
