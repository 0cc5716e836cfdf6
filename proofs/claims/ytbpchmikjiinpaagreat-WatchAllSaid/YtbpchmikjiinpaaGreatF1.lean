import Derived.Test.YtbpchmikjiinpaaGreatSEapi_Finding
import Derived.Test.YtbpchmikjiinpaaGreatSCapi_Finding
import Derived.Test.YtbpchmikjiinpaaGreatCO
set_option autoImplicit false
set_option linter.unusedVariables false
set_option linter.unusedSimpArgs false
namespace Go.Proofs.YtbpchmikjiinpaaGreat
open Go
theorem gB:∀ a b:List UInt8,Xa a b=bif Mc a b then -1 else bif Mc b a then 1 else 0
 | [],[]=>rfl
 | [],y :: b=>rfl
 | x :: a,[]=>rfl
 | x :: a,y :: b=>by
  have ih:=gB a b
  unfold Xa
  by_cases h1:x < y
  ·rw [if_pos h1]
   have:Mc (x :: a) (y :: b)=true:=by simp [Mc,h1]
   rw [this]; rfl
  ·rw [if_neg h1]
   by_cases h2:y < x
   ·rw [if_pos h2]
    have e1:Mc (x :: a) (y :: b)=false:=by
     have:¬ x=y:=fun e=>by subst e; exact h1 h2
     simp [Mc,h1,this]
    have e2:Mc (y :: b) (x :: a)=true:=by simp [Mc,h2]
    rw [e1,e2]; rfl
   ·rw [if_neg h2]
    have hxy:x=y:=UInt8.le_antisymm (UInt8.not_lt.1 h2) (UInt8.not_lt.1 h1)
    subst hxy
    have e1:Mc (x :: a) (x :: b)=Mc a b:=by simp [Mc,h1]
    have e2:Mc (x :: b) (x :: a)=Mc b a:=by simp [Mc,h1]
    rw [e1,e2,ih]
theorem zY (a b:ByteArray):sY a b=Qo a b:=gB _ _
theorem aBz (x y:Int):Ed x y=some (Iq x y):=by
 unfold Ed Kw Iq
 by_cases h1:x < y
 ·simp [h1]
 ·by_cases h2:y < x <;> simp [h1,h2]
theorem vX (x y:ByteArray):G1 x y=some (Qo x y):=by
 unfold G1 Ft
 rw [zY]; rfl
def eC:Aa->Aa->Int:=
 S5 (fun a b=>Qo a.Host b.Host) (S5 (fun a b=>Iq a.Machine b.Machine) (S5 (fun a b=>Iq a.Day b.Day) (S5 (fun a b=>Qo a.Subject b.Subject) (S5 (fun a b=>Iq a.Kind b.Kind) (S5 (fun a b=>Iq a.Use.Alg b.Use.Alg) (S5 (fun a b=>Iq a.Use.Bits b.Use.Bits) (S5 (fun a b=>Iq a.Number b.Number) (S5 (fun a b=>Qo a.Text b.Text) (S5 (fun a b=>Iq a.Source b.Source) (S5 (fun a b=>Iq a.Confidence b.Confidence) (fun _ _=>0)))))))))))
theorem pY (c r:Int):cond (!decide (c=0)) (some c) (some r)=some (bif decide (c=0) then r else c):=by
 cases decide (c=0) <;> rfl
theorem wO (a b:Aa):H6 a b=some (eC a b):=by
 unfold H6 H2 H0 Hr Hu H1 Ht Hy Hx Hs Hw Hz
 unfold Gz Gs Gt G5 Gv Gx Gy G4 Gr G0 G6
 unfold I1 Is I4 Iv I5 I3 Iz Ie H9 H7 Ib
 simp only [aAc,vX,aBz,pY]
 rfl
theorem aM6:Pre (fun _ _:Aa=>(0:Int)):=⟨fun _ _=>rfl,fun _ _ _ _ _=>aR9 _⟩
theorem kZ:Pre eC:=
 (bX.by_ (fun f:Aa=>f.Host)).lex ((Oj.by_ (fun f:Aa=>f.Machine)).lex ((Oj.by_ (fun f:Aa=>f.Day)).lex ((bX.by_ (fun f:Aa=>f.Subject)).lex ((Oj.by_ (fun f:Aa=>f.Kind)).lex ((Oj.by_ (fun f:Aa=>f.Use.Alg)).lex ((Oj.by_ (fun f:Aa=>f.Use.Bits)).lex ((Oj.by_ (fun f:Aa=>f.Number)).lex ((bX.by_ (fun f:Aa=>f.Text)).lex ((Oj.by_ (fun f:Aa=>f.Source)).lex ((Oj.by_ (fun f:Aa=>f.Confidence)).lex aM6))))))))))
theorem pU (a b:Aa) (h:eC a b=0):a=b:=by
 unfold eC at h
 obtain⟨h1,h⟩:=M9 h
 obtain⟨h2,h⟩:=M9 h
 obtain⟨h3,h⟩:=M9 h
 obtain⟨h4,h⟩:=M9 h
 obtain⟨h5,h⟩:=M9 h
 obtain⟨h6,h⟩:=M9 h
 obtain⟨h7,h⟩:=M9 h
 obtain⟨h8,h⟩:=M9 h
 obtain⟨h9,h⟩:=M9 h
 obtain⟨h10,h⟩:=M9 h
 obtain⟨h11,-⟩:=M9 h
 have h1:=gM h1
 have h2:=Q5 h2
 have h3:=Q5 h3
 have h4:=gM h4
 have h5:=Q5 h5
 have h6:=Q5 h6
 have h7:=Q5 h7
 have h8:=Q5 h8
 have h9:=gM h9
 have h10:=Q5 h10
 have h11:=Q5 h11
 obtain⟨a1,a2,a3,a4,a5,a6,a7,⟨a8,a9⟩,a10,a11⟩:=a
 obtain⟨b1,b2,b3,b4,b5,b6,b7,⟨b8,b9⟩,b10,b11⟩:=b
 simp only at h1 h2 h3 h4 h5 h6 h7 h8 h9 h10 h11
 rw [h1,h2,h3,h4,h5,h6,h7,h8,h9,h10,h11]
def Sgn {α:Type} (c:α->α->Int):Prop:=∀ a b,-1<=c a b/\c a b<=1
theorem Sgn.lex {α:Type} {c c':α->α->Int} (h:Sgn c) (h':Sgn c'):Sgn (S5 c c'):=fun a b=>by
 unfold S5
 cases decide (c a b=0) with
 | true=>exact h' a b
 | false=>exact h a b
theorem Sgn.by_ {α β:Type} {c:β->β->Int} (f:α->β) (h:Sgn c):Sgn fun a b=>c (f a) (f b):=fun a b=>h _ _
def dJ (a b:Aa):Bool:=decide (eC a b < 0)
theorem V7:V3 dJ:=kZ.lin pU
theorem V3.swo {α:Type} {lt:α->α->Bool} (h:V3 lt):Sort.SWO lt where
 irrefl a:=h.irrefl a
 trans a b c h1 h2:=h.trans _ _ _ h1 h2
 ntrans a b c h1 h2:=by
  cases h0:lt a c with
  | false=>rfl
  | true=>
   cases h3:lt b a with
   | true=>have:=h.trans _ _ _ h3 h0; rw [h2] at this; cases this
   | false=>
    rw [h.tot _ _ h1 h3] at h0
    rw [h2] at h0; cases h0
theorem aFm:Bl (fun x0 x1=>H6 x0 x1) dJ (fun _=>True):=fun x y _ _=>⟨_,wO x y,rfl⟩
theorem qR (s:List Aa) (h:s.length < 1000000):Cq s=some s:=by
 have e:∀ b,Cq.j1 s b=some (bif b then [] else s):=fun b=>by
  unfold Cq.j1
  cases b with
  | true=>rfl
  | false=>rw [aCv,Dw (by simp; omega)]; rfl
 unfold Cq
 rw [e,e]
 unfold lE
 cases s with
 | nil=>rw [if_pos rfl]; exact if_pos rfl
 | cons x s=>rw [if_neg (by simp)]; rfl
theorem aBy:Kr<=65535:=by unfold Kr; omega
end Go.Proofs.YtbpchmikjiinpaaGreat
