import Derived.Test.YtchpcpaacenodaaGreatSEapi_Finding
import Derived.Test.YtchpcpaacenodaaGreatSCapi_Finding
import Derived.Test.YtchpcpaacenodaaGreatCO
set_option autoImplicit false
set_option linter.unusedVariables false
set_option linter.unusedSimpArgs false
namespace Go.Proofs.YtchpcpaacenodaaGreat
open Go
theorem dG:∀ a b:List UInt8,Wu a b=bif Kz a b then -1 else bif Kz b a then 1 else 0
 | [],[]=>rfl
 | [],y :: b=>rfl
 | x :: a,[]=>rfl
 | x :: a,y :: b=>by
  have ih:=dG a b
  unfold Wu
  by_cases h1:x < y
  ·rw [if_pos h1]
   have:Kz (x :: a) (y :: b)=true:=by simp [Kz,h1]
   rw [this]; rfl
  ·rw [if_neg h1]
   by_cases h2:y < x
   ·rw [if_pos h2]
    have e1:Kz (x :: a) (y :: b)=false:=by
     have:¬ x=y:=fun e=>by subst e; exact h1 h2
     simp [Kz,h1,this]
    have e2:Kz (y :: b) (x :: a)=true:=by simp [Kz,h2]
    rw [e1,e2]; rfl
   ·rw [if_neg h2]
    have hxy:x=y:=UInt8.le_antisymm (UInt8.not_lt.1 h2) (UInt8.not_lt.1 h1)
    subst hxy
    have e1:Kz (x :: a) (x :: b)=Kz a b:=by simp [Kz,h1]
    have e2:Kz (x :: b) (x :: a)=Kz b a:=by simp [Kz,h1]
    rw [e1,e2,ih]
theorem vY (a b:ByteArray):pQ a b=Pw a b:=dG _ _
theorem wO (x y:Int):Ek x y=some (Ie x y):=by
 unfold Ek J7 Ie
 by_cases h1:x < y
 ·simp [h1]
 ·by_cases h2:y < x <;> simp [h1,h2]
theorem vR (x y:ByteArray):Gk x y=some (Pw x y):=by
 unfold Gk Fj
 rw [vY]; rfl
def cC:Aa->Aa->Int:=
 Sb (fun a b=>Pw a.Host b.Host) (Sb (fun a b=>Ie a.Machine b.Machine) (Sb (fun a b=>Ie a.Day b.Day) (Sb (fun a b=>Pw a.Subject b.Subject) (Sb (fun a b=>Ie a.Kind b.Kind) (Sb (fun a b=>Ie a.Use.Alg b.Use.Alg) (Sb (fun a b=>Ie a.Use.Bits b.Use.Bits) (Sb (fun a b=>Ie a.Number b.Number) (Sb (fun a b=>Pw a.Text b.Text) (Sb (fun a b=>Ie a.Source b.Source) (Sb (fun a b=>Ie a.Confidence b.Confidence) (fun _ _=>0)))))))))))
theorem mY (c r:Int):cond (!decide (c=0)) (some c) (some r)=some (bif decide (c=0) then r else c):=by
 cases decide (c=0) <;> rfl
theorem sQ (a b:Aa):Hw a b=some (cC a b):=by
 unfold Hw H6 H9 Hm Hk Hi Hq Hp Hl Hr Hn Ho
 unfold G4 G3 Gq G0 Gu Gv Gs Gw Gl G1 Gt
 unfold Ip In Ir Im Io Iu Il H3 H0 Hy H1
 simp only [aAc,vR,wO,mY]
 rfl
theorem aHb:Pre (fun _ _:Aa=>(0:Int)):=⟨fun _ _=>rfl,fun _ _ _ _ _=>aJ5 _⟩
theorem iR:Pre cC:=
 (aG.by_ (fun f:Aa=>f.Host)).lex ((Nf.by_ (fun f:Aa=>f.Machine)).lex ((Nf.by_ (fun f:Aa=>f.Day)).lex ((aG.by_ (fun f:Aa=>f.Subject)).lex ((Nf.by_ (fun f:Aa=>f.Kind)).lex ((Nf.by_ (fun f:Aa=>f.Use.Alg)).lex ((Nf.by_ (fun f:Aa=>f.Use.Bits)).lex ((Nf.by_ (fun f:Aa=>f.Number)).lex ((aG.by_ (fun f:Aa=>f.Text)).lex ((Nf.by_ (fun f:Aa=>f.Source)).lex ((Nf.by_ (fun f:Aa=>f.Confidence)).lex aHb))))))))))
theorem nV (a b:Aa) (h:cC a b=0):a=b:=by
 unfold cC at h
 obtain⟨h1,h⟩:=Lr h
 obtain⟨h2,h⟩:=Lr h
 obtain⟨h3,h⟩:=Lr h
 obtain⟨h4,h⟩:=Lr h
 obtain⟨h5,h⟩:=Lr h
 obtain⟨h6,h⟩:=Lr h
 obtain⟨h7,h⟩:=Lr h
 obtain⟨h8,h⟩:=Lr h
 obtain⟨h9,h⟩:=Lr h
 obtain⟨h10,h⟩:=Lr h
 obtain⟨h11,-⟩:=Lr h
 have h1:=eY h1
 have h2:=P3 h2
 have h3:=P3 h3
 have h4:=eY h4
 have h5:=P3 h5
 have h6:=P3 h6
 have h7:=P3 h7
 have h8:=P3 h8
 have h9:=eY h9
 have h10:=P3 h10
 have h11:=P3 h11
 obtain⟨a1,a2,a3,a4,a5,a6,a7,⟨a8,a9⟩,a10,a11⟩:=a
 obtain⟨b1,b2,b3,b4,b5,b6,b7,⟨b8,b9⟩,b10,b11⟩:=b
 simp only at h1 h2 h3 h4 h5 h6 h7 h8 h9 h10 h11
 rw [h1,h2,h3,h4,h5,h6,h7,h8,h9,h10,h11]
def Sgn {α:Type} (c:α->α->Int):Prop:=∀ a b,-1<=c a b/\c a b<=1
theorem Sgn.lex {α:Type} {c c':α->α->Int} (h:Sgn c) (h':Sgn c'):Sgn (Sb c c'):=fun a b=>by
 unfold Sb
 cases decide (c a b=0) with
 | true=>exact h' a b
 | false=>exact h a b
theorem Sgn.by_ {α β:Type} {c:β->β->Int} (f:α->β) (h:Sgn c):Sgn fun a b=>c (f a) (f b):=fun a b=>h _ _
def cA (a b:Aa):Bool:=decide (cC a b < 0)
theorem T6:Tx cA:=iR.lin nV
theorem Tx.swo {α:Type} {lt:α->α->Bool} (h:Tx lt):Sort.SWO lt where
 irrefl a:=h.irrefl a
 trans a b c h1 h2:=h.trans _ _ _ h1 h2
 ntrans a b c h1 h2:=by
  cases h0:lt a c with
  | false=>rfl
  | true=>
   cases h3:lt b a with
   | true=>have:=h.trans _ _ _ h3 h0; rw [h2] at this; cases this
   | false=>
    rw [h.tot _ _ h1 h3] at h0
    rw [h2] at h0; cases h0
theorem tK:Bl (fun x0 x1=>Hw x0 x1) cA (fun _=>True):=fun x y _ _=>⟨_,sQ x y,rfl⟩
theorem eH (s:List Aa) (h:s.length < 1000000):Co s=some s:=by
 have e:∀ b,Co.j1 s b=some (bif b then [] else s):=fun b=>by
  unfold Co.j1
  cases b with
  | true=>rfl
  | false=>rw [aCx,Fr (by simp; omega)]; rfl
 unfold Co
 rw [e,e]
 unfold kF
 cases s with
 | nil=>rw [if_pos rfl]; exact if_pos rfl
 | cons x s=>rw [if_neg (by simp)]; rfl
theorem nT:I0<=65535:=by unfold I0; omega
theorem wC (l:List Aa) (hl:l.length<=I0) (h4:l.length<=400) (hc:∀ f∈l,Bj f=some 0):Cg l=some (Nm cA l,0):=by
 have hcap:=nT
 obtain⟨r,hr1,hr2,hr3⟩:=P1 T6.swo tK l hl (fun _ _=>trivial)
 have hrl:r.length=l.length:=hr2.length_eq
 obtain⟨c,hc1,rfl⟩:=Nq r (by omega)
 rw [hY T6 hr2 hr3] at hc1
 have hsl:=Xl cA l
 unfold Cg
 refine (Re l (fun _=>false) (([]:List Aa),(0:Int)) (Nm cA l,(0:Int)) (by unfold Lo; omega) (fun i x hx=>?_) ?_).trans ?_
 ·show Cg.l1 l (i:Int)=_
  unfold Cg.l1
  rw [G7 hx,hc x (Ia hx)]
  rfl
 ·show Cg.l1 l (l.length:Int)=_
  unfold Cg.l1
  rw [Fs,eH l (by omega),aAc,hr1,aAc,hc1,aAc,aAg (by omega)]
  rfl
 ·have:l.any (fun _=>false)=false:=by simp
  rw [this]; rfl
end Go.Proofs.YtchpcpaacenodaaGreat
