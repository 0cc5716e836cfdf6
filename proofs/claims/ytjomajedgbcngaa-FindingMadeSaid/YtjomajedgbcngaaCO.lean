import Derived.Test.YtjomajedgbcngaaAS
set_option linter.unusedVariables false
set_option linter.unusedSimpArgs false
namespace Go.Proofs.Ytjomajedgbcngaa
structure Sg {α : Type} (c : α -> α -> Int) : Prop where
 anti : ∀ a b, c b a = - c a b
 tr : ∀ a b d, c a b <= 0 -> c b d <= 0 -> c a d <= 0
section
variable {α β : Type} {c c' : α -> α -> Int}
theorem Sg.self (h : Sg c) (a : α) : c a a = 0 := by have := h.anti a a; omega
theorem Sg.lt_le (h : Sg c) {a b d : α} (h1 : c a b < 0) (h2 : c b d <= 0) : c a d < 0 := by
 have h3 := h.tr a b d (by omega) h2
 by_cases h4 : c a d = 0
 ·have h5 := h.tr b d a h2 (by have := h.anti a d; omega)
  have := h.anti a b
  omega
 ·omega
theorem Sg.le_lt (h : Sg c) {a b d : α} (h1 : c a b <= 0) (h2 : c b d < 0) : c a d < 0 := by
 have h3 := h.tr a b d h1 (by omega)
 by_cases h4 : c a d = 0
 ·have h5 := h.tr d a b (by have := h.anti a d; omega) h1
  have := h.anti b d
  omega
 ·omega
def M4 (c c' : α -> α -> Int) (a b : α) : Int := bif decide (c a b = 0) then c' a b else c a b
theorem Hl {a b : α} (h : c a b = 0) : M4 c c' a b = c' a b := by unfold M4; rw [decide_eq_true h]; rfl
theorem G8 {a b : α} (h : c a b ≠ 0) : M4 c c' a b = c a b := by unfold M4; rw [decide_eq_false h]; rfl
theorem Sg.lex (h : Sg c) (h' : Sg c') : Sg (M4 c c') where
 anti a b := by
  have h1 := h.anti a b
  by_cases hz : c a b = 0
  ·rw [Hl hz, Hl (by omega)]; exact h'.anti a b
  ·rw [G8 hz, G8 (by omega)]; exact h1
 tr a b d h1 h2 := by
  by_cases z1 : c a b = 0
  ·rw [Hl z1] at h1
   by_cases z2 : c b d = 0
   ·rw [Hl z2] at h2
    have z3 : c a d = 0 := by
     have e1 := h.tr a b d (by omega) (by omega)
     have e2 := h.tr d b a (by have := h.anti b d; omega) (by have := h.anti a b; omega)
     have := h.anti a d
     omega
    rw [Hl z3]
    exact h'.tr a b d h1 h2
   ·rw [G8 z2] at h2
    have := h.le_lt (a := a) (b := b) (d := d) (by omega) (by omega)
    rw [G8 (by omega)]
    omega
  ·rw [G8 z1] at h1
   have h2' : c b d <= 0 := by
    by_cases z2 : c b d = 0
    ·omega
    ·rw [G8 z2] at h2; exact h2
   have := h.lt_le (a := a) (b := b) (d := d) (by omega) h2'
   rw [G8 (by omega)]
   omega
theorem Iq {a b : α} (h : M4 c c' a b = 0) : c a b = 0 /\ c' a b = 0 := by
 by_cases hz : c a b = 0
 ·rw [Hl hz] at h; exact ⟨hz, h⟩
 ·rw [G8 hz] at h; exact absurd h hz
theorem Sg.by_ (f : α -> β) {d : β -> β -> Int} (h : Sg d) : Sg fun a b => d (f a) (f b) := ⟨fun a b => h.anti _ _, fun a b d' h1 h2 => h.tr _ _ _ h1 h2⟩
theorem Sg.lin (h : Sg c) (h0 : ∀ a b, c a b = 0 -> a = b) : Ot fun a b => decide (c a b < 0) where
 irrefl a := decide_eq_false (by rw [h.self]; omega)
 trans a b d h1 h2 := decide_eq_true (h.lt_le (of_decide_eq_true h1) (by have := of_decide_eq_true h2; omega))
 tot a b h1 h2 := by
  have h1 := of_decide_eq_false h1
  have h2 := of_decide_eq_false h2
  have := h.anti a b
  exact h0 a b (by omega)
end
def Fj (x y : Int) : Int := bif decide (x < y) then -1 else bif decide (y < x) then 1 else 0
theorem Jm : Sg Fj where
 anti a b := by
  unfold Fj
  by_cases h1 : a < b
  ·rw [decide_eq_true h1, decide_eq_false (by omega)]; rfl
  ·by_cases h2 : b < a
   ·rw [decide_eq_true h2, decide_eq_false h1]; rfl
   ·rw [decide_eq_false h2, decide_eq_false h1]; rfl
 tr a b d h1 h2 := by
  have key : ∀ x y, Fj x y <= 0 ↔ x <= y := fun x y => by
   unfold Fj
   by_cases h1 : x < y
   ·rw [decide_eq_true h1]; simp; omega
   ·by_cases h2 : y < x
    ·rw [decide_eq_true h2, decide_eq_false h1]; simp; omega
    ·rw [decide_eq_false h2, decide_eq_false h1]; simp; omega
  rw [key] at *
  omega
theorem Lx {x y : Int} (h : Fj x y = 0) : x = y := by
 unfold Fj at h
 by_cases h1 : x < y
 ·rw [decide_eq_true h1] at h; cases h
 ·by_cases h2 : y < x
  ·rw [decide_eq_true h2, decide_eq_false h1] at h; cases h
  ·omega
theorem eX (a : List UInt8) : Iz a a = false := by
 have := Sn a a
 rw [decide_eq_true rfl, Bool.or_true] at this
 exact this.symm
theorem Xd : ∀ (a b c : List UInt8), Iz a b = true -> Iz b c = true -> Iz a c = true
 | a, [], c, h, k => by cases a <;> cases h
 | a, b :: bs, [], h, k => by cases k
 | [], b :: bs, c :: cs, h, k => rfl
 | a :: u, b :: v, c :: w, h, k => by
  simp only [Iz, Bool.or_eq_true, decide_eq_true_eq, Bool.and_eq_true, beq_iff_eq] at h k ⊢
  rcases h with h | ⟨rfl, h⟩
  ·rcases k with k | ⟨rfl, k⟩
   ·exact .inl (UInt8.lt_trans h k)
   ·exact .inl h
  ·rcases k with k | ⟨rfl, k⟩
   ·exact .inl k
   ·exact .inr ⟨rfl, Xd u v w h k⟩
theorem Yj {a b : List UInt8} (h : Iz a b = false) (k : Iz b a = false) : a = b := by
 have := Sn a b
 rw [h, k, Bool.false_or] at this
 by_cases e : a = b
 ·exact e
 ·rw [decide_eq_false e] at this; cases this
theorem cC {a b : List UInt8} (h : Iz a b = true) : Iz b a = false := by
 cases k : Iz b a with
 | false => rfl
 | true => have := Xd _ _ _ h k; rw [eX] at this; cases this
def Ka (x y : ByteArray) : Int := bif Iz (Hk x) (Hk y) then -1 else bif Iz (Hk y) (Hk x) then 1 else 0
theorem T3 : Sg Ka where
 anti a b := by
  unfold Ka
  cases h1 : Iz (Hk a) (Hk b) with
  | true => rw [cC h1]; rfl
  | false => cases Iz (Hk b) (Hk a) <;> rfl
 tr a b d h1 h2 := by
  have key : ∀ x y, Ka x y <= 0 ↔ Iz (Hk y) (Hk x) = false := fun x y => by
   unfold Ka
   cases h1 : Iz (Hk x) (Hk y) with
   | true => rw [cC h1]; simp
   | false => cases Iz (Hk y) (Hk x) <;> simp
  rw [key] at *
  cases h3 : Iz (Hk d) (Hk a) with
  | false => rfl
  | true =>
   cases h4 : Iz (Hk a) (Hk b) with
   | true => have := Xd _ _ _ h3 h4; rw [h2] at this; cases this
   | false =>
    rw [Yj h4 h1] at h3
    rw [h2] at h3; cases h3
theorem jV {a b : ByteArray} (h : Hk a = Hk b) : a = b := by
 cases a with | mk a => cases b with | mk b =>
 unfold Hk at h
 exact congrArg ByteArray.mk (Array.toList_inj.1 h)
theorem Vk {x y : ByteArray} (h : Ka x y = 0) : x = y := by
 unfold Ka at h
 cases h1 : Iz (Hk x) (Hk y) with
 | true => rw [h1] at h; cases h
 | false =>
  cases h2 : Iz (Hk y) (Hk x) with
  | true => rw [h1, h2] at h; cases h
  | false => exact jV (Yj h1 h2)
end Go.Proofs.Ytjomajedgbcngaa
