import Derived.Test.YtkoflhimdenjaaaGreatAS
set_option linter.unusedVariables false
set_option linter.unusedSimpArgs false
namespace Go.Proofs.YtkoflhimdenjaaaGreat
structure Tx {α : Type} (c : α -> α -> Int) : Prop where
 anti : ∀ a b, c b a = - c a b
 tr : ∀ a b d, c a b <= 0 -> c b d <= 0 -> c a d <= 0
section
variable {α β : Type} {c c' : α -> α -> Int}
theorem Tx.self (h : Tx c) (a : α) : c a a = 0 := by have := h.anti a a; omega
theorem Tx.lt_le (h : Tx c) {a b d : α} (h1 : c a b < 0) (h2 : c b d <= 0) : c a d < 0 := by
 have h3 := h.tr a b d (by omega) h2
 by_cases h4 : c a d = 0
 ·have h5 := h.tr b d a h2 (by have := h.anti a d; omega)
  have := h.anti a b
  omega
 ·omega
theorem Tx.le_lt (h : Tx c) {a b d : α} (h1 : c a b <= 0) (h2 : c b d < 0) : c a d < 0 := by
 have h3 := h.tr a b d h1 (by omega)
 by_cases h4 : c a d = 0
 ·have h5 := h.tr d a b (by have := h.anti a d; omega) h1
  have := h.anti b d
  omega
 ·omega
def Pw (c c' : α -> α -> Int) (a b : α) : Int := bif decide (c a b = 0) then c' a b else c a b
theorem Vh {a b : α} (h : c a b = 0) : Pw c c' a b = c' a b := by unfold Pw; rw [decide_eq_true h]; rfl
theorem Qk {a b : α} (h : c a b ≠ 0) : Pw c c' a b = c a b := by unfold Pw; rw [decide_eq_false h]; rfl
theorem Tx.lex (h : Tx c) (h' : Tx c') : Tx (Pw c c') where
 anti a b := by
  have h1 := h.anti a b
  by_cases hz : c a b = 0
  ·rw [Vh hz, Vh (by omega)]; exact h'.anti a b
  ·rw [Qk hz, Qk (by omega)]; exact h1
 tr a b d h1 h2 := by
  by_cases z1 : c a b = 0
  ·rw [Vh z1] at h1
   by_cases z2 : c b d = 0
   ·rw [Vh z2] at h2
    have z3 : c a d = 0 := by
     have e1 := h.tr a b d (by omega) (by omega)
     have e2 := h.tr d b a (by have := h.anti b d; omega) (by have := h.anti a b; omega)
     have := h.anti a d
     omega
    rw [Vh z3]
    exact h'.tr a b d h1 h2
   ·rw [Qk z2] at h2
    have := h.le_lt (a := a) (b := b) (d := d) (by omega) (by omega)
    rw [Qk (by omega)]
    omega
  ·rw [Qk z1] at h1
   have h2' : c b d <= 0 := by
    by_cases z2 : c b d = 0
    ·omega
    ·rw [Qk z2] at h2; exact h2
   have := h.lt_le (a := a) (b := b) (d := d) (by omega) h2'
   rw [Qk (by omega)]
   omega
theorem Kg {a b : α} (h : Pw c c' a b = 0) : c a b = 0 /\ c' a b = 0 := by
 by_cases hz : c a b = 0
 ·rw [Vh hz] at h; exact ⟨hz, h⟩
 ·rw [Qk hz] at h; exact absurd h hz
theorem Tx.by_ (f : α -> β) {d : β -> β -> Int} (h : Tx d) : Tx fun a b => d (f a) (f b) := ⟨fun a b => h.anti _ _, fun a b d' h1 h2 => h.tr _ _ _ h1 h2⟩
theorem Tx.lin (h : Tx c) (h0 : ∀ a b, c a b = 0 -> a = b) : Sw fun a b => decide (c a b < 0) where
 irrefl a := decide_eq_false (by rw [h.self]; omega)
 trans a b d h1 h2 := decide_eq_true (h.lt_le (of_decide_eq_true h1) (by have := of_decide_eq_true h2; omega))
 tot a b h1 h2 := by
  have h1 := of_decide_eq_false h1
  have h2 := of_decide_eq_false h2
  have := h.anti a b
  exact h0 a b (by omega)
end
def Se (x y : Int) : Int := bif decide (x < y) then -1 else bif decide (y < x) then 1 else 0
theorem Lk : Tx Se where
 anti a b := by
  unfold Se
  by_cases h1 : a < b
  ·rw [decide_eq_true h1, decide_eq_false (by omega)]; rfl
  ·by_cases h2 : b < a
   ·rw [decide_eq_true h2, decide_eq_false h1]; rfl
   ·rw [decide_eq_false h2, decide_eq_false h1]; rfl
 tr a b d h1 h2 := by
  have key : ∀ x y, Se x y <= 0 ↔ x <= y := fun x y => by
   unfold Se
   by_cases h1 : x < y
   ·rw [decide_eq_true h1]; simp; omega
   ·by_cases h2 : y < x
    ·rw [decide_eq_true h2, decide_eq_false h1]; simp; omega
    ·rw [decide_eq_false h2, decide_eq_false h1]; simp; omega
  rw [key] at *
  omega
theorem Nx {x y : Int} (h : Se x y = 0) : x = y := by
 unfold Se at h
 by_cases h1 : x < y
 ·rw [decide_eq_true h1] at h; cases h
 ·by_cases h2 : y < x
  ·rw [decide_eq_true h2, decide_eq_false h1] at h; cases h
  ·omega
theorem tW (a : List UInt8) : Lu a a = false := by
 have := bS a a
 rw [decide_eq_true rfl, Bool.or_true] at this
 exact this.symm
theorem gM : ∀ (a b c : List UInt8), Lu a b = true -> Lu b c = true -> Lu a c = true
 | a, [], c, h, k => by cases a <;> cases h
 | a, b :: bs, [], h, k => by cases k
 | [], b :: bs, c :: cs, h, k => rfl
 | a :: u, b :: v, c :: w, h, k => by
  simp only [Lu, Bool.or_eq_true, decide_eq_true_eq, Bool.and_eq_true, beq_iff_eq] at h k ⊢
  rcases h with h | ⟨rfl, h⟩
  ·rcases k with k | ⟨rfl, k⟩
   ·exact .inl (UInt8.lt_trans h k)
   ·exact .inl h
  ·rcases k with k | ⟨rfl, k⟩
   ·exact .inl k
   ·exact .inr ⟨rfl, gM u v w h k⟩
theorem hQ {a b : List UInt8} (h : Lu a b = false) (k : Lu b a = false) : a = b := by
 have := bS a b
 rw [h, k, Bool.false_or] at this
 by_cases e : a = b
 ·exact e
 ·rw [decide_eq_false e] at this; cases this
theorem mF {a b : List UInt8} (h : Lu a b = true) : Lu b a = false := by
 cases k : Lu b a with
 | false => rfl
 | true => have := gM _ _ _ h k; rw [tW] at this; cases this
def Yi (x y : ByteArray) : Int := bif Lu (Jc x) (Jc y) then -1 else bif Lu (Jc y) (Jc x) then 1 else 0
theorem Yc : Tx Yi where
 anti a b := by
  unfold Yi
  cases h1 : Lu (Jc a) (Jc b) with
  | true => rw [mF h1]; rfl
  | false => cases Lu (Jc b) (Jc a) <;> rfl
 tr a b d h1 h2 := by
  have key : ∀ x y, Yi x y <= 0 ↔ Lu (Jc y) (Jc x) = false := fun x y => by
   unfold Yi
   cases h1 : Lu (Jc x) (Jc y) with
   | true => rw [mF h1]; simp
   | false => cases Lu (Jc y) (Jc x) <;> simp
  rw [key] at *
  cases h3 : Lu (Jc d) (Jc a) with
  | false => rfl
  | true =>
   cases h4 : Lu (Jc a) (Jc b) with
   | true => have := gM _ _ _ h3 h4; rw [h2] at this; cases this
   | false =>
    rw [hQ h4 h1] at h3
    rw [h2] at h3; cases h3
theorem zG {a b : ByteArray} (h : Jc a = Jc b) : a = b := by
 cases a with | mk a => cases b with | mk b =>
 unfold Jc at h
 exact congrArg ByteArray.mk (Array.toList_inj.1 h)
theorem aF {x y : ByteArray} (h : Yi x y = 0) : x = y := by
 unfold Yi at h
 cases h1 : Lu (Jc x) (Jc y) with
 | true => rw [h1] at h; cases h
 | false =>
  cases h2 : Lu (Jc y) (Jc x) with
  | true => rw [h1, h2] at h; cases h
  | false => exact zG (hQ h1 h2)
end Go.Proofs.YtkoflhimdenjaaaGreat
