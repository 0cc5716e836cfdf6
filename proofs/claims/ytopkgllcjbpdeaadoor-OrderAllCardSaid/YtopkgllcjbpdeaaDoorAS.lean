import Derived.Test.YtopkgllcjbpdeaaDoorPF
set_option linter.unusedVariables false
set_option linter.unusedSimpArgs false
namespace Go.Proofs.YtopkgllcjbpdeaaDoor
structure Nt {α : Type} (lt : α -> α -> Bool) : Prop where
 irrefl : ∀ a, lt a a = false
 trans : ∀ a b c, lt a b = true -> lt b c = true -> lt a c = true
 tot : ∀ a b, lt a b = false -> lt b a = false -> a = b
section
variable {α : Type} {lt : α -> α -> Bool}
theorem Nt.asymm (h : Nt lt) {a b : α} (hab : lt a b = true) : lt b a = false := by
 cases hb : lt b a with
 | false => rfl
 | true => have := h.trans _ _ _ hab hb; rw [h.irrefl] at this; cases this
theorem Nt.ne (h : Nt lt) {a b : α} (hab : lt a b = true) : a ≠ b := fun e => by
 rw [e, h.irrefl] at hab
 cases hab
abbrev bN (lt : α -> α -> Bool) (l : List α) : Prop := l.Pairwise fun x y => lt x y = true
theorem bN.nodup (h : Nt lt) {l : List α} (hl : bN lt l) : l.Nodup := hl.imp fun hab => h.ne hab
theorem Sv (h : Nt lt) : ∀ {l m : List α}, bN lt l -> bN lt m -> (∀ x, x ∈ l ↔ x ∈ m) -> l = m
 | [], [], _, _, _ => rfl
 | [], y :: m, _, _, he => by have := (he y).2 (.head _); cases this
 | x :: l, [], _, _, he => by have := (he x).1 (.head _); cases this
 | x :: l, y :: m, hl, hm, he => by
  obtain ⟨l1, l2⟩ := List.pairwise_cons.1 hl
  obtain ⟨m1, m2⟩ := List.pairwise_cons.1 hm
  have hxy : x = y := by
   rcases List.mem_cons.1 ((he x).1 (.head _)) with h1 | h1
   ·exact h1
   ·rcases List.mem_cons.1 ((he y).2 (.head _)) with h2 | h2
    ·exact h2.symm
    ·have a1 := m1 x h1
     have a2 := l1 y h2
     rw [h.asymm a1] at a2
     cases a2
  subst hxy
  rw [Sv h l2 m2 fun z => ⟨fun hz => ?_, fun hz => ?_⟩]
  ·rcases List.mem_cons.1 ((he z).1 (.tail _ hz)) with rfl | h1
   ·have := l1 z hz
    rw [h.irrefl] at this; cases this
   ·exact h1
  ·rcases List.mem_cons.1 ((he z).2 (.tail _ hz)) with rfl | h1
   ·have := m1 z hz
    rw [h.irrefl] at this; cases this
   ·exact h1
def Gj (lt : α -> α -> Bool) : List α -> α -> List α
 | [], x => [x]
 | y :: l, x => bif lt y x then y :: Gj lt l x else bif lt x y then x :: y :: l else y :: l
theorem Q0 (h : Nt lt) {x z : α} : ∀ {l : List α}, z ∈ Gj lt l x ↔ z = x \/ z ∈ l
 | [] => by simp [Gj]
 | y :: l => by
  unfold Gj
  cases h1 : lt y x with
  | true => rw [cond_true, List.mem_cons, Q0 h (l := l), List.mem_cons]; exact ⟨fun h => h.elim (fun h => .inr (.inl h)) fun h => h.elim .inl fun h => .inr (.inr h), fun h => h.elim (fun h => .inr (.inl h)) fun h => h.elim .inl fun h => .inr (.inr h)⟩
  | false =>
   cases h2 : lt x y with
   | true => rw [cond_false, cond_true, List.mem_cons]
   | false =>
    rw [cond_false, cond_false, h.tot y x h1 h2]
    exact ⟨.inr, fun hh => hh.elim (fun e => by rw [e]; exact .head _) id⟩
theorem Np (h : Nt lt) {x : α} : ∀ {l : List α}, bN lt l -> bN lt (Gj lt l x)
 | [], _ => by simp [Gj]
 | y :: l, hl => by
  obtain ⟨l1, l2⟩ := List.pairwise_cons.1 hl
  unfold Gj
  cases h1 : lt y x with
  | true =>
   rw [cond_true]
   refine List.pairwise_cons.2 ⟨fun z hz => ?_, Np h l2⟩
   rcases (Q0 h).1 hz with rfl | hz
   ·exact h1
   ·exact l1 z hz
  | false =>
   cases h2 : lt x y with
   | true =>
    rw [cond_false, cond_true]
    refine List.pairwise_cons.2 ⟨fun z hz => ?_, hl⟩
    rcases List.mem_cons.1 hz with rfl | hz
    ·exact h2
    ·exact h.trans _ _ _ h2 (l1 z hz)
   | false => exact hl
def Ex (lt : α -> α -> Bool) (l : List α) : List α := l.foldl (Gj lt) []
theorem Tu (h : Nt lt) : ∀ (l a : List α), bN lt a -> bN lt (l.foldl (Gj lt) a) /\ ∀ z, z ∈ l.foldl (Gj lt) a ↔ z ∈ a \/ z ∈ l
 | [], a, ha => ⟨ha, fun z => by simp⟩
 | x :: l, a, ha => by
  obtain ⟨h1, h2⟩ := Tu h l (Gj lt a x) (Np h ha)
  refine ⟨h1, fun z => ?_⟩
  rw [List.foldl_cons, h2 z, Q0 h, List.mem_cons]
  exact ⟨fun h => h.elim (fun h => h.elim (fun h => .inr (.inl h)) .inl) fun h => .inr (.inr h), fun h => h.elim (fun h => .inl (.inr h)) fun h => h.elim (fun h => .inl (.inl h)) .inr⟩
theorem Ki (h : Nt lt) (l : List α) : bN lt (Ex lt l) := (Tu h l [] .nil).1
theorem Fa (h : Nt lt) {l : List α} {z : α} : z ∈ Ex lt l ↔ z ∈ l := by
 have := (Tu h l [] .nil).2 z
 simpa [Ex] using this
theorem Nx (lt : α -> α -> Bool) (x : α) : ∀ l : List α, (Gj lt l x).length <= l.length + 1
 | [] => by simp [Gj]
 | y :: l => by
  unfold Gj
  cases lt y x with
  | true => have := Nx lt x l; simp only [cond_true, List.length_cons]; omega
  | false => cases lt x y <;> simp
theorem Yk (lt : α -> α -> Bool) : ∀ l a : List α, (l.foldl (Gj lt) a).length <= a.length + l.length
 | [], a => by simp
 | x :: l, a => by
  have h1 := Yk lt l (Gj lt a x)
  have h2 := Nx lt x a
  rw [List.foldl_cons, List.length_cons]
  omega
theorem L8 (lt : α -> α -> Bool) (l : List α) : (Ex lt l).length <= l.length := by
 have := Yk lt l []
 simpa [Ex] using this
end
end Go.Proofs.YtopkgllcjbpdeaaDoor
