/- Ascending lists: what they hold says what they are; elements put in; neighbours that are equal left out. No program is in sight here. -/
import Derived.Test.YtkpcbnnlefcebaaPU
set_option linter.unusedVariables false
set_option linter.unusedSimpArgs false
namespace Go.Proofs.Ytkpcbnnlefcebaa
structure LinO {α : Type} (lt : α → α → Bool) : Prop where
  irrefl : ∀ a, lt a a = false
  trans : ∀ a b c, lt a b = true → lt b c = true → lt a c = true
  tot : ∀ a b, lt a b = false → lt b a = false → a = b
section
variable {α : Type} {lt : α → α → Bool}
theorem LinO.asymm (h : LinO lt) {a b : α} (hab : lt a b = true) : lt b a = false := by
  cases hb : lt b a with
  | false => rfl
  | true => have := h.trans _ _ _ hab hb; rw [h.irrefl] at this; cases this
theorem LinO.ne (h : LinO lt) {a b : α} (hab : lt a b = true) : a ≠ b := fun e => by
  rw [e, h.irrefl] at hab
  cases hab
abbrev Asc (lt : α → α → Bool) (l : List α) : Prop := l.Pairwise fun x y => lt x y = true
theorem Asc.nodup (h : LinO lt) {l : List α} (hl : Asc lt l) : l.Nodup := hl.imp fun hab => h.ne hab
theorem asc_ext (h : LinO lt) : ∀ {l m : List α}, Asc lt l → Asc lt m → (∀ x, x ∈ l ↔ x ∈ m) → l = m
  | [], [], _, _, _ => rfl
  | [], y :: m, _, _, he => by have := (he y).2 (.head _); cases this
  | x :: l, [], _, _, he => by have := (he x).1 (.head _); cases this
  | x :: l, y :: m, hl, hm, he => by
    obtain ⟨l1, l2⟩ := List.pairwise_cons.1 hl
    obtain ⟨m1, m2⟩ := List.pairwise_cons.1 hm
    have hxy : x = y := by
      rcases List.mem_cons.1 ((he x).1 (.head _)) with h1 | h1
      · exact h1
      · rcases List.mem_cons.1 ((he y).2 (.head _)) with h2 | h2
        · exact h2.symm
        · have a1 := m1 x h1
          have a2 := l1 y h2
          rw [h.asymm a1] at a2
          cases a2
    subst hxy
    rw [asc_ext h l2 m2 fun z => ⟨fun hz => ?_, fun hz => ?_⟩]
    · rcases List.mem_cons.1 ((he z).1 (.tail _ hz)) with rfl | h1
      · have := l1 z hz
        rw [h.irrefl] at this; cases this
      · exact h1
    · rcases List.mem_cons.1 ((he z).2 (.tail _ hz)) with rfl | h1
      · have := m1 z hz
        rw [h.irrefl] at this; cases this
      · exact h1
def putS (lt : α → α → Bool) : List α → α → List α
  | [], x => [x]
  | y :: l, x => bif lt y x then y :: putS lt l x else bif lt x y then x :: y :: l else y :: l
theorem putS_mem (h : LinO lt) {x z : α} : ∀ {l : List α}, z ∈ putS lt l x ↔ z = x ∨ z ∈ l
  | [] => by simp [putS]
  | y :: l => by
    unfold putS
    cases h1 : lt y x with
    | true => rw [cond_true, List.mem_cons, putS_mem h (l := l), List.mem_cons]; exact ⟨fun h => h.elim (fun h => .inr (.inl h)) fun h => h.elim .inl fun h => .inr (.inr h), fun h => h.elim (fun h => .inr (.inl h)) fun h => h.elim .inl fun h => .inr (.inr h)⟩
    | false =>
      cases h2 : lt x y with
      | true => rw [cond_false, cond_true, List.mem_cons]
      | false =>
        rw [cond_false, cond_false, h.tot y x h1 h2]
        exact ⟨.inr, fun hh => hh.elim (fun e => by rw [e]; exact .head _) id⟩
theorem putS_asc (h : LinO lt) {x : α} : ∀ {l : List α}, Asc lt l → Asc lt (putS lt l x)
  | [], _ => by simp [putS]
  | y :: l, hl => by
    obtain ⟨l1, l2⟩ := List.pairwise_cons.1 hl
    unfold putS
    cases h1 : lt y x with
    | true =>
      rw [cond_true]
      refine List.pairwise_cons.2 ⟨fun z hz => ?_, putS_asc h l2⟩
      rcases (putS_mem h).1 hz with rfl | hz
      · exact h1
      · exact l1 z hz
    | false =>
      cases h2 : lt x y with
      | true =>
        rw [cond_false, cond_true]
        refine List.pairwise_cons.2 ⟨fun z hz => ?_, hl⟩
        rcases List.mem_cons.1 hz with rfl | hz
        · exact h2
        · exact h.trans _ _ _ h2 (l1 z hz)
      | false => exact hl
def sortS (lt : α → α → Bool) (l : List α) : List α := l.foldl (putS lt) []
theorem fold_put (h : LinO lt) : ∀ (l a : List α), Asc lt a → Asc lt (l.foldl (putS lt) a) ∧ ∀ z, z ∈ l.foldl (putS lt) a ↔ z ∈ a ∨ z ∈ l
  | [], a, ha => ⟨ha, fun z => by simp⟩
  | x :: l, a, ha => by
    obtain ⟨h1, h2⟩ := fold_put h l (putS lt a x) (putS_asc h ha)
    refine ⟨h1, fun z => ?_⟩
    rw [List.foldl_cons, h2 z, putS_mem h, List.mem_cons]
    exact ⟨fun h => h.elim (fun h => h.elim (fun h => .inr (.inl h)) .inl) fun h => .inr (.inr h), fun h => h.elim (fun h => .inl (.inr h)) fun h => h.elim (fun h => .inl (.inl h)) .inr⟩
theorem sortS_asc (h : LinO lt) (l : List α) : Asc lt (sortS lt l) := (fold_put h l [] .nil).1
theorem sortS_mem (h : LinO lt) {l : List α} {z : α} : z ∈ sortS lt l ↔ z ∈ l := by
  have := (fold_put h l [] .nil).2 z
  simpa [sortS] using this
theorem sortS_of (h : LinO lt) {l m : List α} (hm : Asc lt m) (he : ∀ z, z ∈ m ↔ z ∈ l) : m = sortS lt l := asc_ext h hm (sortS_asc h l) fun z => (he z).trans (sortS_mem h).symm
theorem sortS_self (h : LinO lt) {l : List α} (hl : Asc lt l) : sortS lt l = l := (sortS_of h hl fun _ => Iff.rfl).symm
theorem putS_len (lt : α → α → Bool) (x : α) : ∀ l : List α, (putS lt l x).length ≤ l.length + 1
  | [] => by simp [putS]
  | y :: l => by
    unfold putS
    cases lt y x with
    | true => have := putS_len lt x l; simp only [cond_true, List.length_cons]; omega
    | false => cases lt x y <;> simp
theorem fold_len (lt : α → α → Bool) : ∀ l a : List α, (l.foldl (putS lt) a).length ≤ a.length + l.length
  | [], a => by simp
  | x :: l, a => by
    have h1 := fold_len lt l (putS lt a x)
    have h2 := putS_len lt x a
    rw [List.foldl_cons, List.length_cons]
    omega
theorem sortS_len (lt : α → α → Bool) (l : List α) : (sortS lt l).length ≤ l.length := by
  have := fold_len lt l []
  simpa [sortS] using this
def cmpS [DecidableEq α] : List α → List α
  | [] => []
  | [x] => [x]
  | x :: y :: l => if x = y then cmpS (y :: l) else x :: cmpS (y :: l)
theorem cmpS_mem [DecidableEq α] {z : α} : ∀ {l : List α}, z ∈ cmpS l ↔ z ∈ l
  | [] => by simp [cmpS]
  | [x] => by simp [cmpS]
  | x :: y :: l => by
    unfold cmpS
    have ih := cmpS_mem (z := z) (l := y :: l)
    split
    · rename_i e
      rw [ih, e]
      simp
    · simp only [List.mem_cons] at ih ⊢
      rw [ih]
theorem cmpS_asc [DecidableEq α] (h : LinO lt) : ∀ {l : List α}, (l.Pairwise fun x y => lt y x = false) → Asc lt (cmpS l)
  | [], _ => .nil
  | [x], _ => by simp [cmpS]
  | x :: y :: l, hl => by
    obtain ⟨l1, l2⟩ := List.pairwise_cons.1 hl
    have ih := cmpS_asc h l2
    unfold cmpS
    split
    · exact ih
    · rename_i hne
      refine List.pairwise_cons.2 ⟨fun z hz => ?_, ih⟩
      have hz := cmpS_mem.1 hz
      have hxy : lt x y = true := by
        cases hh : lt x y with
        | true => rfl
        | false => exact absurd (h.tot x y hh (l1 y (.head _))) hne
      rcases List.mem_cons.1 hz with rfl | hz
      · exact hxy
      · have h3 := (List.pairwise_cons.1 l2).1 z hz
        cases hh : lt y z with
        | true => exact h.trans _ _ _ hxy hh
        | false => rw [← h.tot y z hh h3]; exact hxy
theorem sort_cmp [DecidableEq α] (h : LinO lt) {l r : List α} (hp : r.Perm l) (hr : r.Pairwise fun x y => lt y x = false) : cmpS r = sortS lt l := sortS_of h (cmpS_asc h hr) fun z => cmpS_mem.trans hp.mem_iff
end
end Go.Proofs.Ytkpcbnnlefcebaa
