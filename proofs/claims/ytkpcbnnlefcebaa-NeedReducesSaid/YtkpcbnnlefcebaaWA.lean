/- Ways in a graph: Warshall's closure, what is left of a graph without loops, and that no part of it does. No program is in sight here. -/
import Derived.Test.YtkpcbnnlefcebaaPU
set_option linter.unusedVariables false
set_option linter.unusedSimpArgs false
namespace Go.Proofs.Ytkpcbnnlefcebaa
inductive TC (R : Nat → Nat → Prop) : Nat → Nat → Prop
  | one {a b} (h : R a b) : TC R a b
  | step {a b c} (h : R a b) (hs : TC R b c) : TC R a c
theorem TC.trans {R : Nat → Nat → Prop} {a b c : Nat} (h : TC R a b) (h' : TC R b c) : TC R a c := by
  induction h with
  | one h => exact .step h h'
  | step h _ ih => exact .step h (ih h')
theorem TC.mono {R S : Nat → Nat → Prop} (hRS : ∀ a b, R a b → S a b) {a b : Nat} (h : TC R a b) : TC S a b := by
  induction h with
  | one h => exact .one (hRS _ _ h)
  | step h _ ih => exact .step (hRS _ _ h) ih
theorem TC.lt {R : Nat → Nat → Prop} {n : Nat} (hR : ∀ a b, R a b → a < n ∧ b < n) {a b : Nat} (h : TC R a b) : a < n ∧ b < n := by
  induction h with
  | one h => exact hR _ _ h
  | step h _ ih => exact ⟨(hR _ _ h).1, ih.2⟩
theorem TC.up {R : Nat → Nat → Prop} (hR : ∀ a b, R a b → a < b) {a b : Nat} (h : TC R a b) : a < b := by
  induction h with
  | one h => exact hR _ _ h
  | step h _ ih => exact Nat.lt_trans (hR _ _ h) ih
theorem TC.cases_ {R : Nat → Nat → Prop} {a b : Nat} (h : TC R a b) : R a b ∨ ∃ c, R a c ∧ TC R c b := by
  cases h with
  | one h => exact .inl h
  | step h hs => exact .inr ⟨_, h, hs⟩
def wst (k : Nat) (w : Nat → Nat → Bool) : Nat → Nat → Bool := fun i j => w i j || (w i k && w k j)
def warsh (w : Nat → Nat → Bool) : Nat → Nat → Nat → Bool
  | 0 => w
  | k + 1 => wst k (warsh w k)
theorem warsh_sound {w : Nat → Nat → Bool} : ∀ {k i j : Nat}, warsh w k i j = true → TC (fun a b => w a b = true) i j
  | 0, _, _, h => .one h
  | k + 1, i, j, h => by
    have h : (warsh w k i j || (warsh w k i k && warsh w k k j)) = true := h
    rw [Bool.or_eq_true, Bool.and_eq_true] at h
    rcases h with h | ⟨h1, h2⟩
    · exact warsh_sound h
    · exact (warsh_sound h1).trans (warsh_sound h2)
theorem warsh_ext {w : Nat → Nat → Bool} : ∀ {k i j : Nat}, w i j = true → warsh w k i j = true
  | 0, _, _, h => h
  | k + 1, i, j, h => by
    show (warsh w k i j || (warsh w k i k && warsh w k k j)) = true
    rw [warsh_ext h]
    rfl
theorem warsh_closed {w : Nat → Nat → Bool} : ∀ {k i j m : Nat}, m < k → warsh w k i m = true → warsh w k m j = true → warsh w k i j = true
  | 0, _, _, _, h, _, _ => by omega
  | k + 1, i, j, m, hm, h1, h2 => by
    have P : ∀ i j m, m < k → warsh w k i m = true → warsh w k m j = true → warsh w k i j = true := fun i j m => warsh_closed
    have h1 : (warsh w k i m || (warsh w k i k && warsh w k k m)) = true := h1
    have h2 : (warsh w k m j || (warsh w k m k && warsh w k k j)) = true := h2
    show (warsh w k i j || (warsh w k i k && warsh w k k j)) = true
    simp only [Bool.or_eq_true, Bool.and_eq_true] at h1 h2 ⊢
    rcases Nat.lt_or_ge m k with hk | hk
    · rcases h1 with h1 | ⟨h1, h3⟩ <;> rcases h2 with h2 | ⟨h2, h4⟩
      · exact .inl (P i j m hk h1 h2)
      · exact .inr ⟨P i k m hk h1 h2, h4⟩
      · exact .inr ⟨h1, P k j m hk h3 h2⟩
      · exact .inr ⟨h1, h4⟩
    · have : m = k := by omega
      subst this
      have h1 : warsh w m i m = true := h1.elim id And.left
      have h2 : warsh w m m j = true := h2.elim id And.right
      exact .inr ⟨h1, h2⟩
theorem warsh_iff {w : Nat → Nat → Bool} {n : Nat} (hw : ∀ a b, w a b = true → a < n ∧ b < n) {i j : Nat} : warsh w n i j = true ↔ TC (fun a b => w a b = true) i j := by
  refine ⟨warsh_sound, fun h => ?_⟩
  induction h with
  | one h => exact warsh_ext h
  | step h hs ih => exact warsh_closed (hw _ _ h).2 (warsh_ext h) ih
def Rdu (R : Nat → Nat → Prop) (a b : Nat) : Prop := R a b ∧ ¬ ∃ k, TC R a k ∧ TC R k b
theorem rd_tc {R : Nat → Nat → Prop} {n : Nat} (hR : ∀ a b, R a b → a < n ∧ b < n) (hacy : ∀ a, ¬ TC R a a) {a b : Nat} (h : TC R a b) : TC (Rdu R) a b := by
  classical
  have key : ∀ m a b, ((List.range n).filter fun k => decide (TC R a k ∧ TC R k b)).length ≤ m → TC R a b → TC (Rdu R) a b := by
    intro m
    induction m with
    | zero =>
      intro a b hm h
      have h0 := List.eq_nil_of_length_eq_zero (Nat.le_zero.1 hm)
      have hno : ¬ ∃ k, TC R a k ∧ TC R k b := by
        rintro ⟨k, h1, h2⟩
        have : k ∈ (List.range n).filter fun k => decide (TC R a k ∧ TC R k b) := List.mem_filter.2 ⟨List.mem_range.2 (h1.lt hR).2, decide_eq_true ⟨h1, h2⟩⟩
        rw [h0] at this
        cases this
      rcases h.cases_ with h | ⟨c, h1, h2⟩
      · exact .one ⟨h, hno⟩
      · exact (hno ⟨c, .one h1, h2⟩).elim
    | succ m ih =>
      intro a b hm h
      by_cases hk : ∃ k, TC R a k ∧ TC R k b
      · obtain ⟨k, h1, h2⟩ := hk
        have less : ∀ a' b', (∀ x, TC R a' x ∧ TC R x b' → TC R a x ∧ TC R x b) → ¬ (TC R a' k ∧ TC R k b') → ((List.range n).filter fun k => decide (TC R a' k ∧ TC R k b')).length ≤ m := by
          intro a' b' hsub hnk
          have hlt : ((List.range n).filter fun k => decide (TC R a' k ∧ TC R k b')).length < ((List.range n).filter fun k => decide (TC R a k ∧ TC R k b)).length := by
            have hkn : k ∈ List.range n := List.mem_range.2 (h1.lt hR).2
            have gen : ∀ l : List Nat, k ∈ l → (l.filter fun k => decide (TC R a' k ∧ TC R k b')).length < (l.filter fun k => decide (TC R a k ∧ TC R k b)).length := by
              intro l
              have hle : ∀ l : List Nat, (l.filter fun k => decide (TC R a' k ∧ TC R k b')).length ≤ (l.filter fun k => decide (TC R a k ∧ TC R k b)).length := by
                intro l
                induction l with
                | nil => exact Nat.le_refl _
                | cons x l ih2 =>
                  rw [List.filter_cons, List.filter_cons]
                  by_cases hx : TC R a' x ∧ TC R x b'
                  · rw [if_pos (decide_eq_true hx), if_pos (decide_eq_true (hsub x hx)), List.length_cons, List.length_cons]
                    omega
                  · rw [if_neg (by simpa using hx)]
                    split
                    · rw [List.length_cons]; omega
                    · exact ih2
              induction l with
              | nil => intro h; cases h
              | cons x l ih2 =>
                intro hx
                rw [List.filter_cons, List.filter_cons]
                rcases List.mem_cons.1 hx with rfl | hx
                · rw [if_neg (by simpa using hnk), if_pos (decide_eq_true ⟨h1, h2⟩), List.length_cons]
                  have := hle l
                  omega
                · have := ih2 hx
                  by_cases hx : TC R a' x ∧ TC R x b'
                  · rw [if_pos (decide_eq_true hx), if_pos (decide_eq_true (hsub x hx)), List.length_cons, List.length_cons]
                    omega
                  · rw [if_neg (by simpa using hx)]
                    split
                    · rw [List.length_cons]; omega
                    · exact this
            exact gen _ hkn
          omega
        refine (ih a k (less a k (fun x hx => ⟨hx.1, hx.2.trans h2⟩) fun hx => hacy k hx.2) h1).trans (ih k b (less k b (fun x hx => ⟨h1.trans hx.1, hx.2⟩) fun hx => hacy k hx.1) h2)
      · rcases h.cases_ with h | ⟨c, h1, h2⟩
        · exact .one ⟨h, hk⟩
        · exact (hk ⟨c, .one h1, h2⟩).elim
  exact key _ a b (Nat.le_refl _) h
theorem rd_iff {R : Nat → Nat → Prop} {n : Nat} (hR : ∀ a b, R a b → a < n ∧ b < n) (hacy : ∀ a, ¬ TC R a a) {a b : Nat} : TC (Rdu R) a b ↔ TC R a b := ⟨TC.mono fun _ _ h => h.1, rd_tc hR hacy⟩
theorem rd_min {R S : Nat → Nat → Prop} {n : Nat} (hR : ∀ a b, R a b → a < n ∧ b < n) (hacy : ∀ a, ¬ TC R a a) {a b : Nat} (h : Rdu R a b) (hS : ∀ x y, S x y → Rdu R x y) (hab : ¬ S a b) : ¬ TC S a b := fun ht => by
  rcases ht.cases_ with h1 | ⟨c, h1, h2⟩
  · exact hab h1
  · exact h.2 ⟨c, .one (hS _ _ h1).1, (h2.mono hS).mono fun _ _ h => h.1⟩
end Go.Proofs.Ytkpcbnnlefcebaa
