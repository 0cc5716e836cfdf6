import Derived.Test.YtidpkjdkfkkgiaaGreatSEapi_Finding
import Derived.Test.YtidpkjdkfkkgiaaGreatSCapi_Finding
import Derived.Test.YtidpkjdkfkkgiaaGreatCO
set_option autoImplicit false
set_option linter.unusedVariables false
set_option linter.unusedSimpArgs false
namespace Go.Proofs.YtidpkjdkfkkgiaaGreat
open Go
theorem aM : ∀ a b : List UInt8, Uw a b = bif K1 a b then -1 else bif K1 b a then 1 else 0
 | [], [] => rfl
 | [], y :: b => rfl
 | x :: a, [] => rfl
 | x :: a, y :: b => by
  have ih := aM a b
  unfold Uw
  by_cases h1 : x < y
  ·rw [if_pos h1]
   have : K1 (x :: a) (y :: b) = true := by simp [K1, h1]
   rw [this]; rfl
  ·rw [if_neg h1]
   by_cases h2 : y < x
   ·rw [if_pos h2]
    have e1 : K1 (x :: a) (y :: b) = false := by
     have : ¬ x = y := fun e => by subst e; exact h1 h2
     simp [K1, h1, this]
    have e2 : K1 (y :: b) (x :: a) = true := by simp [K1, h2]
    rw [e1, e2]; rfl
   ·rw [if_neg h2]
    have hxy : x = y := UInt8.le_antisymm (UInt8.not_lt.1 h2) (UInt8.not_lt.1 h1)
    subst hxy
    have e1 : K1 (x :: a) (x :: b) = K1 a b := by simp [K1, h1]
    have e2 : K1 (x :: b) (x :: a) = K1 b a := by simp [K1, h1]
    rw [e1, e2, ih]
theorem vD (a b : ByteArray) : kU a b = Xp a b := aM _ _
theorem sO (x y : Int) : Dv x y = some (S8 x y) := by
 unfold Dv I3 S8
 by_cases h1 : x < y
 ·simp [h1]
 ·by_cases h2 : y < x <;> simp [h1, h2]
theorem oA (x y : ByteArray) : Fs x y = some (Xp x y) := by
 unfold Fs E0
 rw [vD]; rfl
def qC : Aa -> Aa -> Int :=
 Qb (fun a b => Xp a.Host b.Host) (Qb (fun a b => S8 a.Machine b.Machine) (Qb (fun a b => S8 a.Day b.Day) (Qb (fun a b => Xp a.Subject b.Subject) (Qb (fun a b => S8 a.Kind b.Kind) (Qb (fun a b => S8 a.Use.Alg b.Use.Alg) (Qb (fun a b => S8 a.Use.Bits b.Use.Bits) (Qb (fun a b => S8 a.Number b.Number) (Qb (fun a b => Xp a.Text b.Text) (Qb (fun a b => S8 a.Source b.Source) (Qb (fun a b => S8 a.Confidence b.Confidence) (fun _ _ => 0)))))))))))
theorem sT (c r : Int) : cond (!decide (c = 0)) (some c) (some r) = some (bif decide (c = 0) then r else c) := by
 cases decide (c = 0) <;> rfl
theorem pS (a b : Aa) : Ha a b = some (qC a b) := by
 unfold Ha G0 G6 G7 Gy G5 G8 G4 Gz G1 G2 G3
 unfold Ft Fw Fv F9 Fr Fz Fy F2 F3 Ga Fx
 unfold Hu H1 Hz H3 Hw Hv Hx Hg Hi Hj Hf
 simp only [Option.bind_some, oA, sO, sT]
 rfl
theorem aEl : T7 (fun _ _ : Aa => (0 : Int)) := ⟨fun _ _ => rfl, fun _ _ _ _ _ => Int.le_refl _⟩
theorem rA : T7 qC :=
 (Yx.by_ (fun f : Aa => f.Host)).lex ((Lt.by_ (fun f : Aa => f.Machine)).lex ((Lt.by_ (fun f : Aa => f.Day)).lex ((Yx.by_ (fun f : Aa => f.Subject)).lex ((Lt.by_ (fun f : Aa => f.Kind)).lex ((Lt.by_ (fun f : Aa => f.Use.Alg)).lex ((Lt.by_ (fun f : Aa => f.Use.Bits)).lex ((Lt.by_ (fun f : Aa => f.Number)).lex ((Yx.by_ (fun f : Aa => f.Text)).lex ((Lt.by_ (fun f : Aa => f.Source)).lex ((Lt.by_ (fun f : Aa => f.Confidence)).lex aEl))))))))))
theorem tA (a b : Aa) (h : qC a b = 0) : a = b := by
 unfold qC at h
 obtain ⟨h1, h⟩ := Ky h
 obtain ⟨h2, h⟩ := Ky h
 obtain ⟨h3, h⟩ := Ky h
 obtain ⟨h4, h⟩ := Ky h
 obtain ⟨h5, h⟩ := Ky h
 obtain ⟨h6, h⟩ := Ky h
 obtain ⟨h7, h⟩ := Ky h
 obtain ⟨h8, h⟩ := Ky h
 obtain ⟨h9, h⟩ := Ky h
 obtain ⟨h10, h⟩ := Ky h
 obtain ⟨h11, -⟩ := Ky h
 have h1 := cP h1
 have h2 := Oo h2
 have h3 := Oo h3
 have h4 := cP h4
 have h5 := Oo h5
 have h6 := Oo h6
 have h7 := Oo h7
 have h8 := Oo h8
 have h9 := cP h9
 have h10 := Oo h10
 have h11 := Oo h11
 obtain ⟨a1, a2, a3, a4, a5, a6, a7, ⟨a8, a9⟩, a10, a11⟩ := a
 obtain ⟨b1, b2, b3, b4, b5, b6, b7, ⟨b8, b9⟩, b10, b11⟩ := b
 simp only at h1 h2 h3 h4 h5 h6 h7 h8 h9 h10 h11
 rw [h1, h2, h3, h4, h5, h6, h7, h8, h9, h10, h11]
def xU {α : Type} (c : α -> α -> Int) : Prop := ∀ a b, -1 <= c a b /\ c a b <= 1
theorem xU.lex {α : Type} {c c' : α -> α -> Int} (h : xU c) (h' : xU c') : xU (Qb c c') := fun a b => by
 unfold Qb
 cases decide (c a b = 0) with
 | true => exact h' a b
 | false => exact h a b
theorem xU.by_ {α β : Type} {c : β -> β -> Int} (f : α -> β) (h : xU c) : xU fun a b => c (f a) (f b) := fun a b => h _ _
def aK (a b : Aa) : Bool := decide (qC a b < 0)
theorem bS : R6 aK := rA.lin tA
theorem R6.swo {α : Type} {lt : α -> α -> Bool} (h : R6 lt) : Sort.SWO lt where
 irrefl a := h.irrefl a
 trans a b c h1 h2 := h.trans _ _ _ h1 h2
 ntrans a b c h1 h2 := by
  cases h0 : lt a c with
  | false => rfl
  | true =>
   cases h3 : lt b a with
   | true => have := h.trans _ _ _ h3 h0; rw [h2] at this; cases this
   | false =>
    rw [h.tot _ _ h1 h3] at h0
    rw [h2] at h0; cases h0
theorem pY : Bf (fun x0 x1 => Ha x0 x1) aK (fun _ => True) := fun x y _ _ => ⟨_, pS x y, rfl⟩
theorem aE (s : List Aa) (h : s.length < 1000000) : B6 s = some s := by
 have e : ∀ b, B6.j1 s b = some (bif b then [] else s) := fun b => by
  unfold B6.j1
  cases b with
  | true => rfl
  | false => rw [cond_false, Hm (by simp; omega)]; rfl
 unfold B6
 rw [e, e]
 unfold eX
 cases s with
 | nil => rw [if_pos rfl]; exact if_pos rfl
 | cons x s => rw [if_neg (by simp)]; rfl
theorem kN : H9 <= 65535 := by unfold H9; omega
theorem uW (l : List Aa) (hl : l.length <= H9) (h4 : l.length <= 400) (hc : ∀ f ∈ l, Bd f = some 0) : Ce l = some (Jf aK l, 0) := by
 have hcap := kN
 obtain ⟨r, hr1, hr2, hr3⟩ := Ot bS.swo pY l hl (fun _ _ => trivial)
 have hrl : r.length = l.length := hr2.length_eq
 obtain ⟨c, hc1, rfl⟩ := Mh r (by omega)
 rw [dG bS hr2 hr3] at hc1
 have hsl := Sp aK l
 unfold Ce
 refine (T1 l (fun _ => false) (([] : List Aa), (0 : Int)) (Jf aK l, (0 : Int)) (by unfold Lo; omega) (fun i x hx => ?_) ?_).trans ?_
 ·show Ce.l1 l (i : Int) = _
  unfold Ce.l1
  rw [H8 hx, hc x (Ja hx)]
  rfl
 ·show Ce.l1 l (l.length : Int) = _
  unfold Ce.l1
  rw [Ge, aE l (by omega), Option.bind_some, hr1, Option.bind_some, hc1, Option.bind_some, decide_eq_false (by omega)]
  rfl
 ·have : l.any (fun _ => false) = false := by simp
  rw [this]; rfl
end Go.Proofs.YtidpkjdkfkkgiaaGreat
