import Derived.Test.YtjomajedgbcngaaSEapi_Finding
import Derived.Test.YtjomajedgbcngaaSCapi_Finding
import Derived.Test.YtjomajedgbcngaaCO
set_option autoImplicit false
set_option linter.unusedVariables false
set_option linter.unusedSimpArgs false
namespace Go.Proofs.Ytjomajedgbcngaa
open Go
theorem Uh : ∀ a b : List UInt8, Qb a b = bif Iz a b then -1 else bif Iz b a then 1 else 0
 | [], [] => rfl
 | [], y :: b => rfl
 | x :: a, [] => rfl
 | x :: a, y :: b => by
  have ih := Uh a b
  unfold Qb
  by_cases h1 : x < y
  ·rw [if_pos h1]
   have : Iz (x :: a) (y :: b) = true := by simp [Iz, h1]
   rw [this]; rfl
  ·rw [if_neg h1]
   by_cases h2 : y < x
   ·rw [if_pos h2]
    have e1 : Iz (x :: a) (y :: b) = false := by
     have : ¬ x = y := fun e => by subst e; exact h1 h2
     simp [Iz, h1, this]
    have e2 : Iz (y :: b) (x :: a) = true := by simp [Iz, h2]
    rw [e1, e2]; rfl
   ·rw [if_neg h2]
    have hxy : x = y := UInt8.le_antisymm (UInt8.not_lt.1 h2) (UInt8.not_lt.1 h1)
    subst hxy
    have e1 : Iz (x :: a) (x :: b) = Iz a b := by simp [Iz, h1]
    have e2 : Iz (x :: b) (x :: a) = Iz b a := by simp [Iz, h1]
    rw [e1, e2, ih]
theorem fQ (a b : ByteArray) : Y7 a b = Ka a b := Uh _ _
theorem eJ (x y : Int) : De x y = some (Fj x y) := by
 unfold De Hb Fj
 by_cases h1 : x < y
 ·simp [h1]
 ·by_cases h2 : y < x <;> simp [h1, h2]
theorem bS (x y : ByteArray) : Ei x y = some (Ka x y) := by
 unfold Ei Dy
 rw [fQ]; rfl
def Ph : Aa -> Aa -> Int :=
 M4 (fun a b => Ka a.Host b.Host) (M4 (fun a b => Fj a.Machine b.Machine) (M4 (fun a b => Fj a.Day b.Day) (M4 (fun a b => Ka a.Subject b.Subject) (M4 (fun a b => Fj a.Kind b.Kind) (M4 (fun a b => Fj a.Use.Alg b.Use.Alg) (M4 (fun a b => Fj a.Use.Bits b.Use.Bits) (M4 (fun a b => Fj a.Number b.Number) (M4 (fun a b => Ka a.Text b.Text) (M4 (fun a b => Fj a.Source b.Source) (M4 (fun a b => Fj a.Confidence b.Confidence) (fun _ _ => 0)))))))))))
theorem Yw (c r : Int) : cond (!decide (c = 0)) (some c) (some r) = some (bif decide (c = 0) then r else c) := by
 cases decide (c = 0) <;> rfl
theorem Jl (a b : Aa) : Df a b = some (Ph a b) := by
 unfold Df F2 Fs F1 F0 Fu Fx Fq Fv Ft Fw Fr
 unfold Ez Ev Er Eu Ex Eo Et Ew En Es Ey
 unfold F7 F9 Ga F5 Gf Gg Ge Fm Fi Fo Fl
 simp only [Option.bind_some, bS, eJ, Yw]
 rfl
theorem pE : Sg (fun _ _ : Aa => (0 : Int)) := ⟨fun _ _ => rfl, fun _ _ _ _ _ => Int.le_refl _⟩
theorem Mg : Sg Ph :=
 (T3.by_ (fun f : Aa => f.Host)).lex ((Jm.by_ (fun f : Aa => f.Machine)).lex ((Jm.by_ (fun f : Aa => f.Day)).lex ((T3.by_ (fun f : Aa => f.Subject)).lex ((Jm.by_ (fun f : Aa => f.Kind)).lex ((Jm.by_ (fun f : Aa => f.Use.Alg)).lex ((Jm.by_ (fun f : Aa => f.Use.Bits)).lex ((Jm.by_ (fun f : Aa => f.Number)).lex ((T3.by_ (fun f : Aa => f.Text)).lex ((Jm.by_ (fun f : Aa => f.Source)).lex ((Jm.by_ (fun f : Aa => f.Confidence)).lex pE))))))))))
theorem U8 (a b : Aa) (h : Ph a b = 0) : a = b := by
 unfold Ph at h
 obtain ⟨h1, h⟩ := Iq h
 obtain ⟨h2, h⟩ := Iq h
 obtain ⟨h3, h⟩ := Iq h
 obtain ⟨h4, h⟩ := Iq h
 obtain ⟨h5, h⟩ := Iq h
 obtain ⟨h6, h⟩ := Iq h
 obtain ⟨h7, h⟩ := Iq h
 obtain ⟨h8, h⟩ := Iq h
 obtain ⟨h9, h⟩ := Iq h
 obtain ⟨h10, h⟩ := Iq h
 obtain ⟨h11, -⟩ := Iq h
 have h1 := Vk h1
 have h2 := Lx h2
 have h3 := Lx h3
 have h4 := Vk h4
 have h5 := Lx h5
 have h6 := Lx h6
 have h7 := Lx h7
 have h8 := Lx h8
 have h9 := Vk h9
 have h10 := Lx h10
 have h11 := Lx h11
 obtain ⟨a1, a2, a3, a4, a5, a6, a7, ⟨a8, a9⟩, a10, a11⟩ := a
 obtain ⟨b1, b2, b3, b4, b5, b6, b7, ⟨b8, b9⟩, b10, b11⟩ := b
 simp only at h1 h2 h3 h4 h5 h6 h7 h8 h9 h10 h11
 rw [h1, h2, h3, h4, h5, h6, h7, h8, h9, h10, h11]
def aS {α : Type} (c : α -> α -> Int) : Prop := ∀ a b, -1 <= c a b /\ c a b <= 1
theorem Tm : aS Ka := fun a b => by
 unfold Ka
 cases Iz (Hk a) (Hk b) <;> cases Iz (Hk b) (Hk a) <;> simp
theorem Js : aS Fj := fun a b => by
 unfold Fj
 cases decide (a < b) <;> cases decide (b < a) <;> simp
theorem aS.lex {α : Type} {c c' : α -> α -> Int} (h : aS c) (h' : aS c') : aS (M4 c c') := fun a b => by
 unfold M4
 cases decide (c a b = 0) with
 | true => exact h' a b
 | false => exact h a b
theorem aS.by_ {α β : Type} {c : β -> β -> Int} (f : α -> β) (h : aS c) : aS fun a b => c (f a) (f b) := fun a b => h _ _
theorem pX : aS (fun _ _ : Aa => (0 : Int)) := fun _ _ => by simp
theorem dR : aS Ph :=
 (Tm.by_ (fun f : Aa => f.Host)).lex ((Js.by_ (fun f : Aa => f.Machine)).lex ((Js.by_ (fun f : Aa => f.Day)).lex ((Tm.by_ (fun f : Aa => f.Subject)).lex ((Js.by_ (fun f : Aa => f.Kind)).lex ((Js.by_ (fun f : Aa => f.Use.Alg)).lex ((Js.by_ (fun f : Aa => f.Use.Bits)).lex ((Js.by_ (fun f : Aa => f.Number)).lex ((Tm.by_ (fun f : Aa => f.Text)).lex ((Js.by_ (fun f : Aa => f.Source)).lex ((Js.by_ (fun f : Aa => f.Confidence)).lex pX))))))))))
def Ir (a b : Aa) : Bool := decide (Ph a b < 0)
theorem Ix : Ot Ir := Mg.lin U8
theorem Ot.swo {α : Type} {lt : α -> α -> Bool} (h : Ot lt) : Sort.SWO lt where
 irrefl a := h.irrefl a
 trans a b c h1 h2 := h.trans _ _ _ h1 h2
 ntrans a b c h1 h2 := by
  cases h0 : lt a c with
  | false => rfl
  | true =>
   cases h3 : lt b a with
   | true => have := h.trans _ _ _ h3 h0; rw [h2] at this; cases this
   | false =>
    rw [h.tot _ _ h1 h3] at h0
    rw [h2] at h0; cases h0
theorem aA : Bf (fun x0 x1 => Df x0 x1) Ir (fun _ => True) := fun x y _ _ => ⟨_, Jl x y, rfl⟩
theorem U5 (s : List Aa) (h : s.length < 1000000) : Bz s = some s := by
 have e : ∀ b, Bz.j1 s b = some (bif b then [] else s) := fun b => by
  unfold Bz.j1
  cases b with
  | true => rfl
  | false => rw [cond_false, Kd (by simp; omega)]; rfl
 unfold Bz
 rw [e, e]
 unfold Wn
 cases s with
 | nil => rw [if_pos rfl]; exact if_pos rfl
 | cons x s => rw [if_neg (by simp)]; rfl
theorem Yr : Fh <= 65535 := by unfold Fh; omega
theorem Yb (l : List Aa) (hl : l.length <= Fh) (h4 : l.length <= 400) (hc : ∀ f ∈ l, Be f = some 0) : B4 l = some (D2 Ir l, 0) := by
 have hcap := Yr
 obtain ⟨r, hr1, hr2, hr3⟩ := Lw Ix.swo aA l hl (fun _ _ => trivial)
 have hrl : r.length = l.length := hr2.length_eq
 obtain ⟨c, hc1, rfl⟩ := J7 r (by omega)
 rw [V6 Ix hr2 hr3] at hc1
 have hsl := Ht Ir l
 unfold B4
 refine (Sv l (fun _ => false) (([] : List Aa), (0 : Int)) (D2 Ir l, (0 : Int)) (by unfold Lo; omega) (fun i x hx => ?_) ?_).trans ?_
 ·show B4.l1 l (i : Int) = _
  unfold B4.l1
  rw [K5 hx, hc x (Q9 hx)]
  rfl
 ·show B4.l1 l (l.length : Int) = _
  unfold B4.l1
  rw [J9, U5 l (by omega), Option.bind_some, hr1, Option.bind_some, hc1, Option.bind_some, decide_eq_false (by omega)]
  rfl
 ·have : l.any (fun _ => false) = false := by simp
  rw [this]; rfl
end Go.Proofs.Ytjomajedgbcngaa
