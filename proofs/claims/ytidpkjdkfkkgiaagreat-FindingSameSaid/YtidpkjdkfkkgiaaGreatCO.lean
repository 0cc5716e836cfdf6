import Derived.Test.YtidpkjdkfkkgiaaGreatAS
set_option linter.unusedVariables false
set_option linter.unusedSimpArgs false
namespace Go.Proofs.YtidpkjdkfkkgiaaGreat
structure T7 {α : Type} (c : α -> α -> Int) : Prop where
 anti : ∀ a b, c b a = - c a b
 tr : ∀ a b d, c a b <= 0 -> c b d <= 0 -> c a d <= 0
section
variable {α β : Type} {c c' : α -> α -> Int}
theorem T7.self (h : T7 c) (a : α) : c a a = 0 := by have := h.anti a a; omega
theorem T7.lt_le (h : T7 c) {a b d : α} (h1 : c a b < 0) (h2 : c b d <= 0) : c a d < 0 := by
 have h3 := h.tr a b d (by omega) h2
 by_cases h4 : c a d = 0
 ·have h5 := h.tr b d a h2 (by have := h.anti a d; omega)
  have := h.anti a b
  omega
 ·omega
theorem T7.le_lt (h : T7 c) {a b d : α} (h1 : c a b <= 0) (h2 : c b d < 0) : c a d < 0 := by
 have h3 := h.tr a b d h1 (by omega)
 by_cases h4 : c a d = 0
 ·have h5 := h.tr d a b (by have := h.anti a d; omega) h1
  have := h.anti b d
  omega
 ·omega
def Qb (c c' : α -> α -> Int) (a b : α) : Int := bif decide (c a b = 0) then c' a b else c a b
theorem Vk {a b : α} (h : c a b = 0) : Qb c c' a b = c' a b := by unfold Qb; rw [decide_eq_true h]; rfl
theorem R1 {a b : α} (h : c a b ≠ 0) : Qb c c' a b = c a b := by unfold Qb; rw [decide_eq_false h]; rfl
theorem T7.lex (h : T7 c) (h' : T7 c') : T7 (Qb c c') where
 anti a b := by
  have h1 := h.anti a b
  by_cases hz : c a b = 0
  ·rw [Vk hz, Vk (by omega)]; exact h'.anti a b
  ·rw [R1 hz, R1 (by omega)]; exact h1
 tr a b d h1 h2 := by
  by_cases z1 : c a b = 0
  ·rw [Vk z1] at h1
   by_cases z2 : c b d = 0
   ·rw [Vk z2] at h2
    have z3 : c a d = 0 := by
     have e1 := h.tr a b d (by omega) (by omega)
     have e2 := h.tr d b a (by have := h.anti b d; omega) (by have := h.anti a b; omega)
     have := h.anti a d
     omega
    rw [Vk z3]
    exact h'.tr a b d h1 h2
   ·rw [R1 z2] at h2
    have := h.le_lt (a := a) (b := b) (d := d) (by omega) (by omega)
    rw [R1 (by omega)]
    omega
  ·rw [R1 z1] at h1
   have h2' : c b d <= 0 := by
    by_cases z2 : c b d = 0
    ·omega
    ·rw [R1 z2] at h2; exact h2
   have := h.lt_le (a := a) (b := b) (d := d) (by omega) h2'
   rw [R1 (by omega)]
   omega
theorem Ky {a b : α} (h : Qb c c' a b = 0) : c a b = 0 /\ c' a b = 0 := by
 by_cases hz : c a b = 0
 ·rw [Vk hz] at h; exact ⟨hz, h⟩
 ·rw [R1 hz] at h; exact absurd h hz
theorem T7.by_ (f : α -> β) {d : β -> β -> Int} (h : T7 d) : T7 fun a b => d (f a) (f b) := ⟨fun a b => h.anti _ _, fun a b d' h1 h2 => h.tr _ _ _ h1 h2⟩
theorem T7.lin (h : T7 c) (h0 : ∀ a b, c a b = 0 -> a = b) : R6 fun a b => decide (c a b < 0) where
 irrefl a := decide_eq_false (by rw [h.self]; omega)
 trans a b d h1 h2 := decide_eq_true (h.lt_le (of_decide_eq_true h1) (by have := of_decide_eq_true h2; omega))
 tot a b h1 h2 := by
  have h1 := of_decide_eq_false h1
  have h2 := of_decide_eq_false h2
  have := h.anti a b
  exact h0 a b (by omega)
end
def S8 (x y : Int) : Int := bif decide (x < y) then -1 else bif decide (y < x) then 1 else 0
theorem Lt : T7 S8 where
 anti a b := by
  unfold S8
  by_cases h1 : a < b
  ·rw [decide_eq_true h1, decide_eq_false (by omega)]; rfl
  ·by_cases h2 : b < a
   ·rw [decide_eq_true h2, decide_eq_false h1]; rfl
   ·rw [decide_eq_false h2, decide_eq_false h1]; rfl
 tr a b d h1 h2 := by
  have key : ∀ x y, S8 x y <= 0 ↔ x <= y := fun x y => by
   unfold S8
   by_cases h1 : x < y
   ·rw [decide_eq_true h1]; simp; omega
   ·by_cases h2 : y < x
    ·rw [decide_eq_true h2, decide_eq_false h1]; simp; omega
    ·rw [decide_eq_false h2, decide_eq_false h1]; simp; omega
  rw [key] at *
  omega
theorem Oo {x y : Int} (h : S8 x y = 0) : x = y := by
 unfold S8 at h
 by_cases h1 : x < y
 ·rw [decide_eq_true h1] at h; cases h
 ·by_cases h2 : y < x
  ·rw [decide_eq_true h2, decide_eq_false h1] at h; cases h
  ·omega
theorem vA (a : List UInt8) : K1 a a = false := by
 have := bV a a
 rw [decide_eq_true rfl, Bool.or_true] at this
 exact this.symm
theorem iI : ∀ (a b c : List UInt8), K1 a b = true -> K1 b c = true -> K1 a c = true
 | a, [], c, h, k => by cases a <;> cases h
 | a, b :: bs, [], h, k => by cases k
 | [], b :: bs, c :: cs, h, k => rfl
 | a :: u, b :: v, c :: w, h, k => by
  simp only [K1, Bool.or_eq_true, decide_eq_true_eq, Bool.and_eq_true, beq_iff_eq] at h k ⊢
  rcases h with h | ⟨rfl, h⟩
  ·rcases k with k | ⟨rfl, k⟩
   ·exact .inl (UInt8.lt_trans h k)
   ·exact .inl h
  ·rcases k with k | ⟨rfl, k⟩
   ·exact .inl k
   ·exact .inr ⟨rfl, iI u v w h k⟩
theorem jJ {a b : List UInt8} (h : K1 a b = false) (k : K1 b a = false) : a = b := by
 have := bV a b
 rw [h, k, Bool.false_or] at this
 by_cases e : a = b
 ·exact e
 ·rw [decide_eq_false e] at this; cases this
theorem oF {a b : List UInt8} (h : K1 a b = true) : K1 b a = false := by
 cases k : K1 b a with
 | false => rfl
 | true => have := iI _ _ _ h k; rw [vA] at this; cases this
def Xp (x y : ByteArray) : Int := bif K1 (Im x) (Im y) then -1 else bif K1 (Im y) (Im x) then 1 else 0
theorem Yx : T7 Xp where
 anti a b := by
  unfold Xp
  cases h1 : K1 (Im a) (Im b) with
  | true => rw [oF h1]; rfl
  | false => cases K1 (Im b) (Im a) <;> rfl
 tr a b d h1 h2 := by
  have key : ∀ x y, Xp x y <= 0 ↔ K1 (Im y) (Im x) = false := fun x y => by
   unfold Xp
   cases h1 : K1 (Im x) (Im y) with
   | true => rw [oF h1]; simp
   | false => cases K1 (Im y) (Im x) <;> simp
  rw [key] at *
  cases h3 : K1 (Im d) (Im a) with
  | false => rfl
  | true =>
   cases h4 : K1 (Im a) (Im b) with
   | true => have := iI _ _ _ h3 h4; rw [h2] at this; cases this
   | false =>
    rw [jJ h4 h1] at h3
    rw [h2] at h3; cases h3
theorem aAs {a b : ByteArray} (h : Im a = Im b) : a = b := by
 cases a with | mk a => cases b with | mk b =>
 unfold Im at h
 exact congrArg ByteArray.mk (Array.toList_inj.1 h)
theorem cP {x y : ByteArray} (h : Xp x y = 0) : x = y := by
 unfold Xp at h
 cases h1 : K1 (Im x) (Im y) with
 | true => rw [h1] at h; cases h
 | false =>
  cases h2 : K1 (Im y) (Im x) with
  | true => rw [h1, h2] at h; cases h
  | false => exact aAs (jJ h1 h2)
end Go.Proofs.YtidpkjdkfkkgiaaGreat
