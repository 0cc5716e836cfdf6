/- Plain texts, joined. No program is in sight here. -/
import Derived.Test.YtkoflhimdenjaaaGreatF1
import Derived.Test.YtkoflhimdenjaaaGreatK4
import Derived.Test.YtkoflhimdenjaaaGreatM1
set_option autoImplicit false
set_option linter.unusedVariables false
set_option linter.unusedSimpArgs false
namespace Go.Proofs.YtkoflhimdenjaaaGreat
section
open Go
structure Vw (f:Aa):Prop where
 host:f.Host.size<=9223372036854775807
 subj:f.Subject.size<=9223372036854775807
 text:f.Text.size<=9223372036854775807
end
section
open Go
end
section
open Go
theorem aEu (b x:Bool):cond b (some x) (some false)=some (b && x):=by cases b <;> rfl
def Vx (f:Aa):Bool:=decide (f.Use=⟨0,0⟩) && decide (f.Text=⟨#[]⟩)
def Vg (f:Aa):Bool:=
 bif decide (f.Kind=1) || decide (f.Kind=8) then decide (0 < Pw f.Use) && (decide (f.Number=0) && decide (f.Text=⟨#[]⟩))
 else bif decide (f.Kind=2) then Vx f && (decide (0<=f.Number) && decide (f.Number<=65535))
 else bif decide (f.Kind=3) then decide (0 < Pw f.Use) && (decide (Px f.Use.Alg=2) && (decide (0<=f.Number) && (decide (f.Number<=2147483648) && decide (f.Text=⟨#[]⟩))))
 else bif decide (f.Kind=4) || decide (f.Kind=5) then Vx f && (decide (1<=f.Number) && decide (f.Number<=4))
 else bif decide (f.Kind=6) then Vx f && (decide (0<=f.Number) && decide (f.Number<=2147483648))
 else bif decide (f.Kind=7) then decide (f.Use=⟨0,0⟩) && (decide (f.Number=0) && F8 f.Text) else false
def Ur (f:Aa):Int:=
 bif (F8 f.Host && (F8 f.Subject && (decide (0<=f.Machine) && decide (f.Machine<=1099511627776)))) && ((decide (0<=f.Day) && (decide (f.Day<=40000) && (decide (1<=f.Confidence) && decide (f.Confidence<=100)))) && (decide (1<=f.Source) && (decide (f.Source<=7) && Vg f))) then 0 else 24
theorem fA {f:Aa} (h:Vw f):B7 f=some (Vg f):=by
 unfold B7 B7.j1 B7.j2 B7.j3
 simp only [W7,Vs,N3 _ h.text,aAf,aEu]
 unfold Vg Vx
 generalize decide (f.Use=⟨0,0⟩)=b0
 generalize decide (f.Kind=1)=k1
 generalize decide (f.Kind=8)=k8
 generalize decide (f.Kind=2)=k2
 generalize decide (f.Kind=3)=k3
 generalize decide (f.Kind=4)=k4
 generalize decide (f.Kind=5)=k5
 generalize decide (f.Kind=6)=k6
 generalize decide (f.Kind=7)=k7
 cases b0 <;> cases k1 <;> first | rfl | (cases k8 <;> first | rfl | (cases k2 <;> first | rfl | (cases k3 <;> first | rfl | (cases k4 <;> first | rfl | (cases k5 <;> first | rfl | (cases k6 <;> first | rfl | (cases k7 <;> rfl)))))))
theorem aIi (a b:Int):decide (a < b)=!decide (b<=a):=by
 by_cases h:a < b
 ·rw [aAv h,aAy (by omega)]; rfl
 ·rw [aAy h,aAv (by omega)]; rfl
theorem aV {f:Aa} (h:Vw f):Bx f=some (Ur f):=by
 unfold Bx Bx.j1 Bx.j2 Bx.j3
 simp only [N3 _ h.host,N3 _ h.subj,fA h,aAf,aIi]
 unfold Ur
 generalize F8 f.Host=a1
 generalize F8 f.Subject=a2
 generalize decide (0<=f.Machine)=a3
 generalize decide (f.Machine<=1099511627776)=a4
 generalize decide (0<=f.Day)=a5
 generalize decide (f.Day<=40000)=a6
 generalize decide (1<=f.Confidence)=a7
 generalize decide (f.Confidence<=100)=a8
 generalize decide (1<=f.Source)=a9
 generalize decide (f.Source<=7)=a10
 generalize Vg f=a11
 cases a1 <;> cases a2 <;> cases a3 <;> cases a4 <;> first | (cases a5 <;> cases a6 <;> cases a7 <;> cases a8 <;> rfl) | (cases a5 <;> cases a6 <;> cases a7 <;> cases a8 <;> first | rfl | (cases a9 <;> cases a10 <;> cases a11 <;> rfl))
def Xr (f:Aa):Bool:=!decide (Ur f=0)
def iI (l:List Aa):List Aa×Int:=bif l.any Xr then ([],24) else (S0 xN l,0)
theorem jD {f:Aa} (h:Xr f=true):Ur f=24:=by
 unfold Xr at h
 unfold Ur at h ⊢
 revert h
 cases (F8 f.Host && (F8 f.Subject && (decide (0<=f.Machine) && decide (f.Machine<=1099511627776)))) && ((decide (0<=f.Day) && (decide (f.Day<=40000) && (decide (1<=f.Confidence) && decide (f.Confidence<=100)))) && (decide (1<=f.Source) && (decide (f.Source<=7) && Vg f))) with
 | true=>intro h; cases h
 | false=>intro _; rfl
theorem aGt (l:List Aa) (h4:l.length<=400) (hf:∀ f∈l,Vw f):D9 l=some (iI l):=by
 have hcap:=xQ
 obtain⟨r,hr1,hr2,hr3⟩:=Wj aC3.swo aA3 l (by unfold Jv; omega) (fun _ _=>trivial)
 have hrl:r.length=l.length:=hr2.length_eq
 obtain⟨c,hc1,rfl⟩:=Uf r (by omega)
 rw [tN aC3 hr2 hr3] at hc1
 have hsl:=W6 xN l
 unfold D9 iI
 refine Vt l Xr (([]:List Aa),(24:Int)) (S0 xN l,(0:Int)) (by unfold Lo; omega) (fun i x hx=>?_) ?_
 ·show D9.l1 l (i:Int)=_
  unfold D9.l1
  rw [Gt hx,aV (hf x (Ff hx)),aAf]
  cases hb:Xr x with
  | true=>
   have e1:(!decide (Ur x=0))=true:=hb
   rw [e1,jD hb]; rfl
  | false=>
   have e1:(!decide (Ur x=0))=false:=hb
   rw [e1]; rfl
 ·show D9.l1 l (l.length:Int)=_
  unfold D9.l1
  rw [E4,oG l (by omega),aAf,hr1,aAf,hc1,aAf,aAy (by omega)]
  rfl
end
section
open Go
def Ux (l:List Aa):Prop:=∀ f∈l,Vw f/\Ur f=0
theorem Ux.fit {l:List Aa} (h:Ux l):∀ f∈l,Vw f:=fun f hf=>(h f hf).1
theorem Ux.norm {l:List Aa} (h:Ux l):iI l=(S0 xN l,0):=by
 have:l.any Xr=false:=by
  rw [<- Bool.not_eq_true,aIc]
  rintro⟨f,hf,hb⟩
  unfold Xr at hb
  rw [(h f hf).2] at hb
  cases hb
 unfold iI
 rw [this]; rfl
theorem Ux.app {a b:List Aa} (ha:Ux a) (hb:Ux b):Ux (a ++ b):=fun f hf=>by
 rcases aHm.1 hf with h | h
 ·exact ha f h
 ·exact hb f h
end
end Go.Proofs.YtkoflhimdenjaaaGreat
