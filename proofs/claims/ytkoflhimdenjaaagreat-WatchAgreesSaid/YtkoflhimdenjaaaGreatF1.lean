import Derived.Test.YtkoflhimdenjaaaGreatSEapi_Finding
import Derived.Test.YtkoflhimdenjaaaGreatSCapi_Finding
import Derived.Test.YtkoflhimdenjaaaGreatCO
set_option autoImplicit false
set_option linter.unusedVariables false
set_option linter.unusedSimpArgs false
namespace Go.Proofs.YtkoflhimdenjaaaGreat
open Go
theorem dF:∀ a b:List UInt8,Vy a b=bif L4 a b then -1 else bif L4 b a then 1 else 0
 | [],[]=>rfl
 | [],y :: b=>rfl
 | x :: a,[]=>rfl
 | x :: a,y :: b=>by
  have ih:=dF a b
  unfold Vy
  by_cases h1:x < y
  ·rw [if_pos h1]
   have:L4 (x :: a) (y :: b)=true:=by simp [L4,h1]
   rw [this]; rfl
  ·rw [if_neg h1]
   by_cases h2:y < x
   ·rw [if_pos h2]
    have e1:L4 (x :: a) (y :: b)=false:=by
     have:¬ x=y:=fun e=>by subst e; exact h1 h2
     simp [L4,h1,this]
    have e2:L4 (y :: b) (x :: a)=true:=by simp [L4,h2]
    rw [e1,e2]; rfl
   ·rw [if_neg h2]
    have hxy:x=y:=UInt8.le_antisymm (UInt8.not_lt.1 h2) (UInt8.not_lt.1 h1)
    subst hxy
    have e1:L4 (x :: a) (x :: b)=L4 a b:=by simp [L4,h1]
    have e2:L4 (x :: b) (x :: a)=L4 b a:=by simp [L4,h1]
    rw [e1,e2,ih]
theorem zH (a b:ByteArray):pU a b=aZ a b:=dF _ _
theorem yU (x y:Int):D7 x y=some (Ul x y):=by
 unfold D7 Jx Ul
 by_cases h1:x < y
 ·simp [h1]
 ·by_cases h2:y < x <;> simp [h1,h2]
theorem vA (x y:ByteArray):Ga x y=some (aZ x y):=by
 unfold Ga Fc
 rw [zH]; rfl
def sI:Aa->Aa->Int:=
 Rv (fun a b=>aZ a.Host b.Host) (Rv (fun a b=>Ul a.Machine b.Machine) (Rv (fun a b=>Ul a.Day b.Day) (Rv (fun a b=>aZ a.Subject b.Subject) (Rv (fun a b=>Ul a.Kind b.Kind) (Rv (fun a b=>Ul a.Use.Alg b.Use.Alg) (Rv (fun a b=>Ul a.Use.Bits b.Use.Bits) (Rv (fun a b=>Ul a.Number b.Number) (Rv (fun a b=>aZ a.Text b.Text) (Rv (fun a b=>Ul a.Source b.Source) (Rv (fun a b=>Ul a.Confidence b.Confidence) (fun _ _=>0)))))))))))
theorem vU (c r:Int):cond (!decide (c=0)) (some c) (some r)=some (bif decide (c=0) then r else c):=by
 cases decide (c=0) <;> rfl
theorem uG (a b:Aa):Hn a b=some (sI a b):=by
 unfold Hn Hc Hj Hd Hk Hl Hb Hm He Ha Hg Hf
 unfold Gd Gf Gi F7 Gn Gk Gh F9 Gl Gc Gj
 unfold Il Ie If Ir Ij Is Ih Ht Hw Hu Hz
 simp only [aAf,vA,yU,vU]
 rfl
theorem aI4:Pre (fun _ _:Aa=>(0:Int)):=⟨fun _ _=>rfl,fun _ _ _ _ _=>aK0 _⟩
theorem qH:Pre sI:=
 (aN.by_ (fun f:Aa=>f.Host)).lex ((Mw.by_ (fun f:Aa=>f.Machine)).lex ((Mw.by_ (fun f:Aa=>f.Day)).lex ((aN.by_ (fun f:Aa=>f.Subject)).lex ((Mw.by_ (fun f:Aa=>f.Kind)).lex ((Mw.by_ (fun f:Aa=>f.Use.Alg)).lex ((Mw.by_ (fun f:Aa=>f.Use.Bits)).lex ((Mw.by_ (fun f:Aa=>f.Number)).lex ((aN.by_ (fun f:Aa=>f.Text)).lex ((Mw.by_ (fun f:Aa=>f.Source)).lex ((Mw.by_ (fun f:Aa=>f.Confidence)).lex aI4))))))))))
theorem yX (a b:Aa) (h:sI a b=0):a=b:=by
 unfold sI at h
 obtain⟨h1,h⟩:=Ly h
 obtain⟨h2,h⟩:=Ly h
 obtain⟨h3,h⟩:=Ly h
 obtain⟨h4,h⟩:=Ly h
 obtain⟨h5,h⟩:=Ly h
 obtain⟨h6,h⟩:=Ly h
 obtain⟨h7,h⟩:=Ly h
 obtain⟨h8,h⟩:=Ly h
 obtain⟨h9,h⟩:=Ly h
 obtain⟨h10,h⟩:=Ly h
 obtain⟨h11,-⟩:=Ly h
 have h1:=gK h1
 have h2:=P0 h2
 have h3:=P0 h3
 have h4:=gK h4
 have h5:=P0 h5
 have h6:=P0 h6
 have h7:=P0 h7
 have h8:=P0 h8
 have h9:=gK h9
 have h10:=P0 h10
 have h11:=P0 h11
 obtain⟨a1,a2,a3,a4,a5,a6,a7,⟨a8,a9⟩,a10,a11⟩:=a
 obtain⟨b1,b2,b3,b4,b5,b6,b7,⟨b8,b9⟩,b10,b11⟩:=b
 simp only at h1 h2 h3 h4 h5 h6 h7 h8 h9 h10 h11
 rw [h1,h2,h3,h4,h5,h6,h7,h8,h9,h10,h11]
def Sgn {α:Type} (c:α->α->Int):Prop:=∀ a b,-1<=c a b/\c a b<=1
theorem Sgn.lex {α:Type} {c c':α->α->Int} (h:Sgn c) (h':Sgn c'):Sgn (Rv c c'):=fun a b=>by
 unfold Rv
 cases decide (c a b=0) with
 | true=>exact h' a b
 | false=>exact h a b
theorem Sgn.by_ {α β:Type} {c:β->β->Int} (f:α->β) (h:Sgn c):Sgn fun a b=>c (f a) (f b):=fun a b=>h _ _
def xN (a b:Aa):Bool:=decide (sI a b < 0)
theorem aC3:U1 xN:=qH.lin yX
theorem U1.swo {α:Type} {lt:α->α->Bool} (h:U1 lt):Sort.SWO lt where
 irrefl a:=h.irrefl a
 trans a b c h1 h2:=h.trans _ _ _ h1 h2
 ntrans a b c h1 h2:=by
  cases h0:lt a c with
  | false=>rfl
  | true=>
   cases h3:lt b a with
   | true=>have:=h.trans _ _ _ h3 h0; rw [h2] at this; cases this
   | false=>
    rw [h.tot _ _ h1 h3] at h0
    rw [h2] at h0; cases h0
theorem aA3:Bp (fun x0 x1=>Hn x0 x1) xN (fun _=>True):=fun x y _ _=>⟨_,uG x y,rfl⟩
theorem oG (s:List Aa) (h:s.length < 1000000):Cl s=some s:=by
 have e:∀ b,Cl.j1 s b=some (bif b then [] else s):=fun b=>by
  unfold Cl.j1
  cases b with
  | true=>rfl
  | false=>rw [aDk,Ek (by simp; omega)]; rfl
 unfold Cl
 rw [e,e]
 unfold jI
 cases s with
 | nil=>rw [if_pos rfl]; exact if_pos rfl
 | cons x s=>rw [if_neg (by simp)]; rfl
theorem xQ:Jv<=65535:=by unfold Jv; omega
end Go.Proofs.YtkoflhimdenjaaaGreat
