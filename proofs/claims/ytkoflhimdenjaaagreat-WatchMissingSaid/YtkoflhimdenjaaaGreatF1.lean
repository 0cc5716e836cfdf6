import Derived.Test.YtkoflhimdenjaaaGreatSEapi_Finding
import Derived.Test.YtkoflhimdenjaaaGreatSCapi_Finding
import Derived.Test.YtkoflhimdenjaaaGreatCO
set_option autoImplicit false
set_option linter.unusedVariables false
set_option linter.unusedSimpArgs false
namespace Go.Proofs.YtkoflhimdenjaaaGreat
open Go
theorem Y0 : ∀ a b : List UInt8, Tu a b = bif Lu a b then -1 else bif Lu b a then 1 else 0
 | [], [] => rfl
 | [], y :: b => rfl
 | x :: a, [] => rfl
 | x :: a, y :: b => by
  have ih := Y0 a b
  unfold Tu
  by_cases h1 : x < y
  ·rw [if_pos h1]
   have : Lu (x :: a) (y :: b) = true := by simp [Lu, h1]
   rw [this]; rfl
  ·rw [if_neg h1]
   by_cases h2 : y < x
   ·rw [if_pos h2]
    have e1 : Lu (x :: a) (y :: b) = false := by
     have : ¬ x = y := fun e => by subst e; exact h1 h2
     simp [Lu, h1, this]
    have e2 : Lu (y :: b) (x :: a) = true := by simp [Lu, h2]
    rw [e1, e2]; rfl
   ·rw [if_neg h2]
    have hxy : x = y := UInt8.le_antisymm (UInt8.not_lt.1 h2) (UInt8.not_lt.1 h1)
    subst hxy
    have e1 : Lu (x :: a) (x :: b) = Lu a b := by simp [Lu, h1]
    have e2 : Lu (x :: b) (x :: a) = Lu b a := by simp [Lu, h1]
    rw [e1, e2, ih]
theorem sX (a b : ByteArray) : kH a b = Yi a b := Y0 _ _
theorem qZ (x y : Int) : De x y = some (Se x y) := by
 unfold De Iw Se
 by_cases h1 : x < y
 ·simp [h1]
 ·by_cases h2 : y < x <;> simp [h1, h2]
theorem qG (x y : ByteArray) : E7 x y = some (Yi x y) := by
 unfold E7 Ea
 rw [sX]; rfl
def oK : Aa -> Aa -> Int :=
 Pw (fun a b => Yi a.Host b.Host) (Pw (fun a b => Se a.Machine b.Machine) (Pw (fun a b => Se a.Day b.Day) (Pw (fun a b => Yi a.Subject b.Subject) (Pw (fun a b => Se a.Kind b.Kind) (Pw (fun a b => Se a.Use.Alg b.Use.Alg) (Pw (fun a b => Se a.Use.Bits b.Use.Bits) (Pw (fun a b => Se a.Number b.Number) (Pw (fun a b => Yi a.Text b.Text) (Pw (fun a b => Se a.Source b.Source) (Pw (fun a b => Se a.Confidence b.Confidence) (fun _ _ => 0)))))))))))
theorem uB (c r : Int) : cond (!decide (c = 0)) (some c) (some r) = some (bif decide (c = 0) then r else c) := by
 cases decide (c = 0) <;> rfl
theorem nA (a b : Aa) : Gp a b = some (oK a b) := by
 unfold Gp Ga Gi Gc Ge Gd Gj Gf Gb Gg F8 Gh
 unfold Fc Ff Fh Fj Fk E5 Fi E4 Fa E6 E8
 unfold Hk Hm Ha Hb He Hd Hl Gs Gw Gu Gy
 simp only [Option.bind_some, qG, qZ, uB]
 rfl
theorem aEx : Tx (fun _ _ : Aa => (0 : Int)) := ⟨fun _ _ => rfl, fun _ _ _ _ _ => Int.le_refl _⟩
theorem oH : Tx oK :=
 (Yc.by_ (fun f : Aa => f.Host)).lex ((Lk.by_ (fun f : Aa => f.Machine)).lex ((Lk.by_ (fun f : Aa => f.Day)).lex ((Yc.by_ (fun f : Aa => f.Subject)).lex ((Lk.by_ (fun f : Aa => f.Kind)).lex ((Lk.by_ (fun f : Aa => f.Use.Alg)).lex ((Lk.by_ (fun f : Aa => f.Use.Bits)).lex ((Lk.by_ (fun f : Aa => f.Number)).lex ((Yc.by_ (fun f : Aa => f.Text)).lex ((Lk.by_ (fun f : Aa => f.Source)).lex ((Lk.by_ (fun f : Aa => f.Confidence)).lex aEx))))))))))
theorem rB (a b : Aa) (h : oK a b = 0) : a = b := by
 unfold oK at h
 obtain ⟨h1, h⟩ := Kg h
 obtain ⟨h2, h⟩ := Kg h
 obtain ⟨h3, h⟩ := Kg h
 obtain ⟨h4, h⟩ := Kg h
 obtain ⟨h5, h⟩ := Kg h
 obtain ⟨h6, h⟩ := Kg h
 obtain ⟨h7, h⟩ := Kg h
 obtain ⟨h8, h⟩ := Kg h
 obtain ⟨h9, h⟩ := Kg h
 obtain ⟨h10, h⟩ := Kg h
 obtain ⟨h11, -⟩ := Kg h
 have h1 := aF h1
 have h2 := Nx h2
 have h3 := Nx h3
 have h4 := aF h4
 have h5 := Nx h5
 have h6 := Nx h6
 have h7 := Nx h7
 have h8 := Nx h8
 have h9 := aF h9
 have h10 := Nx h10
 have h11 := Nx h11
 obtain ⟨a1, a2, a3, a4, a5, a6, a7, ⟨a8, a9⟩, a10, a11⟩ := a
 obtain ⟨b1, b2, b3, b4, b5, b6, b7, ⟨b8, b9⟩, b10, b11⟩ := b
 simp only at h1 h2 h3 h4 h5 h6 h7 h8 h9 h10 h11
 rw [h1, h2, h3, h4, h5, h6, h7, h8, h9, h10, h11]
def vT {α : Type} (c : α -> α -> Int) : Prop := ∀ a b, -1 <= c a b /\ c a b <= 1
theorem vT.lex {α : Type} {c c' : α -> α -> Int} (h : vT c) (h' : vT c') : vT (Pw c c') := fun a b => by
 unfold Pw
 cases decide (c a b = 0) with
 | true => exact h' a b
 | false => exact h a b
theorem vT.by_ {α β : Type} {c : β -> β -> Int} (f : α -> β) (h : vT c) : vT fun a b => c (f a) (f b) := fun a b => h _ _
def vD (a b : Aa) : Bool := decide (oK a b < 0)
theorem mU : Sw vD := oH.lin rB
theorem Sw.swo {α : Type} {lt : α -> α -> Bool} (h : Sw lt) : Sort.SWO lt where
 irrefl a := h.irrefl a
 trans a b c h1 h2 := h.trans _ _ _ h1 h2
 ntrans a b c h1 h2 := by
  cases h0 : lt a c with
  | false => rfl
  | true =>
   cases h3 : lt b a with
   | true => have := h.trans _ _ _ h3 h0; rw [h2] at this; cases this
   | false =>
    rw [h.tot _ _ h1 h3] at h0
    rw [h2] at h0; cases h0
theorem yT : Bh (fun x0 x1 => Gp x0 x1) vD (fun _ => True) := fun x y _ _ => ⟨_, nA x y, rfl⟩
theorem jQ (s : List Aa) (h : s.length < 1000000) : B2 s = some s := by
 have e : ∀ b, B2.j1 s b = some (bif b then [] else s) := fun b => by
  unfold B2.j1
  cases b with
  | true => rfl
  | false => rw [cond_false, Im (by simp; omega)]; rfl
 unfold B2
 rw [e, e]
 unfold dY
 cases s with
 | nil => rw [if_pos rfl]; exact if_pos rfl
 | cons x s => rw [if_neg (by simp)]; rfl
theorem rP : Ix <= 65535 := by unfold Ix; omega
end Go.Proofs.YtkoflhimdenjaaaGreat
