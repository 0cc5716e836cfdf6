/- Plain texts, joined. No program is in sight here. -/
import Derived.Test.YtchpcpaacenodaaGreatF1
import Derived.Test.YtchpcpaacenodaaGreatK4
import Derived.Test.YtchpcpaacenodaaGreatM1
set_option autoImplicit false
set_option linter.unusedVariables false
set_option linter.unusedSimpArgs false
namespace Go.Proofs.YtchpcpaacenodaaGreat
section
open Go
theorem bM {f:Aa} (h1:Ev f.Host=true/\f.Host.size<=1000) (h2:Ev f.Subject=true/\f.Subject.size<=1000) (h3:0<=f.Machine/\f.Machine<=1000) (h4:0<=f.Day/\f.Day<=40000) (h5:1<=f.Confidence/\f.Confidence<=100) (h6:1<=f.Source/\f.Source<=7) (h7:A6 f=some true):Bj f=some 0:=by
 unfold Bj
 rw [Jq _ (by omega),aAc,h1.1,aD8,Jq _ (by omega),aAc,h2.1,aD8,aAe h3.1,aD8,aAe (by omega)]
 unfold Bj.j1
 rw [aAe h4.1,aD8,aAe h4.2,aD8,aAe h5.1,aD8,aAe h5.2]
 unfold Bj.j2
 rw [aG4,aCx,aCx,aAg (by omega),aCx,aAg (by omega),aCx,h7]
 rfl
def noU:Am:=⟨0,0⟩
def noT:ByteArray:=⟨#[]⟩
theorem yS {f:Aa} (hk:f.Kind=1\/f.Kind=8) (hu:decide (0 < Kq f.Use)=true) (hn:f.Number=0) (ht:f.Text=noT):A6 f=some true:=by
 have J2:∀ b,A6.j2 f b true=some true:=fun b=>by
  unfold A6.j2
  rw [aD8,Mr,aAc,hu,aD8,aAe hn,aD8,ht]
  rfl
 have J1:∀ b,A6.j1 f b=some true:=fun b=>by
  unfold A6.j1
  rcases hk with hk | hk
  ·rw [aAe hk,aD8]; exact J2 b
  ·rw [aAg (by omega),aCx,aAe hk]; exact J2 b
 unfold A6
 rw [J1,J1]
 cases decide (f.Use=⟨0,0⟩) <;> rfl
theorem Wb {f:Aa} (hu:f.Use=noU) (ht:f.Text=noT) (hk:(f.Kind=2/\0<=f.Number/\f.Number<=65535)\/((f.Kind=4\/f.Kind=5)/\1<=f.Number/\f.Number<=4)\/(f.Kind=6/\0<=f.Number/\f.Number<=1000)):A6 f=some true:=by
 unfold A6
 rw [show decide (f.Use=⟨0,0⟩)=true from aAe hu,aD8,show decide (f.Text=(⟨#[]⟩:ByteArray))=true from aAe ht]
 unfold A6.j1
 rw [aAg (by omega),aCx,aAg (by omega)]
 unfold A6.j2
 rw [aCx]
 rcases hk with ⟨hk,h1,h2⟩ | ⟨hk,h1,h2⟩ | ⟨hk,h1,h2⟩
 ·rw [aAe hk,aD8,aD8,aAe h1,aD8,aAe h2]
 ·rw [aAg (by omega),aCx,aAg (by omega),aCx]
  have J:A6.j3 f true true=some true:=by
   unfold A6.j3
   rw [aD8,aD8,aAe h1,aD8,aAe h2]
  rcases hk with hk | hk
  ·rw [aAe hk,aD8]; exact J
  ·rw [aAg (by omega),aCx,aAe hk]; exact J
 ·rw [aAg (by omega),aCx,aAg (by omega),aCx,aAg (by omega),aCx,aAg (by omega)]
  unfold A6.j3
  rw [aCx,aAe hk,aD8,aD8,aAe h1,aD8,aAe (by omega)]
theorem mR {f:Aa} (hk:f.Kind=3) (hu:decide (0 < Kq f.Use)=true) (hs:Mf f.Use.Alg=2) (hn:0<=f.Number/\f.Number<=1000) (ht:f.Text=noT):A6 f=some true:=by
 have J1:∀ b,A6.j1 f b=some true:=fun b=>by
  unfold A6.j1
  rw [aAg (by omega),aCx,aAg (by omega)]
  unfold A6.j2
  rw [aCx,aAg (by omega),aCx,aAe hk,aD8,Mr,aAc,hu,aD8,Qv,aAc,hs,aAe rfl,aD8,aAe hn.1,aD8,aAe (by omega),aD8,ht]
  rfl
 unfold A6
 rw [J1,J1]
 cases decide (f.Use=⟨0,0⟩) <;> rfl
theorem tZ {f:Aa} (hk:f.Kind=7) (hu:f.Use=noU) (hn:f.Number=0) (ht:Ev f.Text=true/\f.Text.size<=1000):A6 f=some true:=by
 have hu':decide (f.Use=⟨0,0⟩)=true:=aAe hu
 have J1:∀ b,A6.j1 f b=some true:=fun b=>by
  unfold A6.j1
  rw [aAg (by omega),aCx,aAg (by omega)]
  unfold A6.j2
  rw [aCx,aAg (by omega),aCx,aAg (by omega),aCx,aAg (by omega),aCx,aAg (by omega)]
  unfold A6.j3
  rw [aCx,aAg (by omega),aCx,aAe hk,aD8,hu',aD8,aAe hn,aD8,Jq _ (by omega),aAc,ht.1]
 unfold A6
 rw [J1,J1]
 cases decide (f.Use=⟨0,0⟩) <;> rfl
structure Kf (f:Aa):Prop where
 host:f.Host.size<=9223372036854775807
 subj:f.Subject.size<=9223372036854775807
 text:f.Text.size<=9223372036854775807
def FOK (f:Aa):Prop:=Bj f=some 0/\Kf f
theorem Sz {d:Ac} (h:Lj d):Ok (B0 d) (fun y=>FOK y.1/\Lj y.2):=by
 unfold B0
 refine Ok.bind (Fq h 7 (by omega) (by omega)) fun y1 h1=>?_
 refine Ok.bind (Uy h1.2 _ (by decide) (by decide)) fun y2 h2=>?_
 refine Ok.bind (Iw h2.2 _ (by decide) (by decide)) fun y3 h3=>?_
 refine Ok.bind (Fq h3.2 12 (by omega) (by omega)) fun y4 h4=>?_
 refine Ok.bind (Iw h4.2 _ (by decide) (by decide)) fun y5 h5=>?_
 refine Ok.bind (Fq h5.2 8 (by omega) (by omega)) fun y6 h6=>?_
 refine Ok.bind (Uy h6.2 _ (by decide) (by decide)) fun y7 h7=>?_
 have b1:=h1.1
 have b4:=h4.1
 have b6:=h6.1
 have n2:Ev y2.1=true/\y2.1.size<=1000:=by
  have:=h2.1
  simp only [aFt,aGi,aIe] at this
  rcases this with e | e | e <;> rw [e] <;> decide +kernel
 have n7:Ev y7.1=true/\y7.1.size<=1000:=by
  have:=h7.1
  simp only [aFt,aGi,aIe] at this
  rcases this with e | e <;> rw [e] <;> decide +kernel
 have n3:0<=y3.1/\y3.1<=1000:=by
  have:=h3.1
  simp only [aFt,aGi,aIe] at this
  omega
 have n5:1<=y5.1/\y5.1<=100:=by
  have:=h5.1
  simp only [aFt,aGi,aIe] at this
  omega
 have w1:W (1 + y1.1)=1 + y1.1:=Es (by omega)
 have w6:W (1 + y6.1)=1 + y6.1:=Es (by omega)
 have fin:∀ (u:Am) (n:Int) (t:ByteArray) (d':Ac),Lj d'->t.size<=1000->A6 ⟨1 + y1.1,y2.1,y3.1,y4.1,y5.1,1 + y6.1,y7.1,u,n,t⟩=some true->Ok (B0.j3 d' ⟨1 + y1.1,y2.1,y3.1,y4.1,y5.1,1 + y6.1,y7.1,u,n,t⟩) (fun y=>FOK y.1/\Lj y.2):=fun u n t d' hd ht hc=>by
  unfold B0.j3
  exact Ok.ret ⟨⟨bM n2 n7 n3 ⟨b4.1,by show y4.1<=40000; omega⟩ n5 ⟨by show 1<=1 + y1.1; omega,by show 1 + y1.1<=7; omega⟩ hc,⟨by show y2.1.size<=_; omega,by show y7.1.size<=_; omega,by show t.size<=_; omega⟩⟩,hd⟩
 have J1:∀ b,(b=true->1 + y6.1=1\/1 + y6.1=8)->(b=false->1 + y6.1≠1/\1 + y6.1≠8)->Ok (B0.j1 y1 y2 y3 y4 y5 y6 y7 b) (fun y=>FOK y.1/\Lj y.2):=by
  intro b hb1 hb2
  unfold B0.j1
  rw [w1,w6]
  refine Ok.cond (fun hb=>?_) (fun hb=>?_)
  ·have hk:=hb1 hb
   refine Ok.bind (Fq h7.2 4 (by omega) (by omega)) fun y8 h8=>?_
   refine Ok.bind (K8 h8.1.1 (by show y8.1 < (4:Int); exact h8.1.2)) fun u hu=>?_
   have hu2:decide (0 < Kq u)=true:=by
    simp only [aFt,aGi,aIe] at hu
    rcases hu with rfl | rfl | rfl | rfl <;> decide +kernel
   exact fin _ _ _ _ h8.2 (by decide) (yS hk hu2 rfl rfl)
  ·have hk:=hb2 hb
   refine Ok.cond (fun h=>?_) (fun h=>?_)
   ·have h:=aCl h
    refine Ok.bind (Fq h7.2 5 (by omega) (by omega)) fun y9 h9=>?_
    have b9:=h9.1
    rw [Es (x:=1 + y9.1) (by omega)]
    exact fin _ _ _ _ h9.2 (by decide) (Wb rfl rfl (.inl ⟨h,by show 0<=1 + y9.1; omega,by show 1 + y9.1<=65535; omega⟩))
   ·have q2:=aD7 h
    refine Ok.cond (fun h=>?_) (fun h=>?_)
    ·have h:=aCl h
     refine Ok.bind (Iw h7.2 _ (by decide) (by decide)) fun y10 h10=>?_
     refine Ok.bind (Fq h10.2 3 (by omega) (by omega)) fun y11 h11=>?_
     have b11:=h11.1
     rw [Es (x:=100 + y11.1) (by omega)]
     have hu:=h10.1
     simp only [aFt,aGi,aIe] at hu
     refine fin _ _ _ _ h11.2 (by decide) (mR h ?_ (show Mf 5=2 by decide +kernel) ⟨by show 0<=100 + y11.1; omega,by show 100 + y11.1<=1000; omega⟩ rfl)
     show decide (0 < Kq ⟨5,y10.1⟩)=true
     rcases hu with e | e <;> rw [e] <;> decide +kernel
    ·have q3:=aD7 h
     have J2:∀ b,(b=true->1 + y6.1=4\/1 + y6.1=5)->(b=false->1 + y6.1≠4/\1 + y6.1≠5)->Ok (B0.j2 y1 y2 y3 y4 y5 y6 y7 b) (fun y=>FOK y.1/\Lj y.2):=by
      intro b hc1 hc2
      unfold B0.j2
      rw [w1,w6]
      refine Ok.cond (fun hb=>?_) (fun hb=>?_)
      ·have hk:=hc1 hb
       refine Ok.bind (Fq h7.2 4 (by omega) (by omega)) fun y12 h12=>?_
       have b12:=h12.1
       rw [Es (x:=1 + y12.1) (by omega)]
       exact fin _ _ _ _ h12.2 (by decide) (Wb rfl rfl (.inr (.inl ⟨hk,by show 1<=1 + y12.1; omega,by show 1 + y12.1<=4; omega⟩)))
      ·have q4:=hc2 hb
       refine Ok.cond (fun h=>?_) (fun h=>?_)
       ·have h:=aCl h
        refine Ok.bind (Fq h7.2 3 (by omega) (by omega)) fun y13 h13=>?_
        have b13:=h13.1
        exact fin _ _ _ _ h13.2 (by decide) (Wb rfl rfl (.inr (.inr ⟨h,b13.1,by show y13.1<=1000; omega⟩)))
       ·have q5:=aD7 h
        refine Ok.cond (fun h=>?_) (fun h=>?_)
        ·have h:=aCl h
         refine Ok.bind (Uy h7.2 _ (by decide) (by decide)) fun y14 h14=>?_
         have n14:Ev y14.1=true/\y14.1.size<=1000:=by
          have:=h14.1
          simp only [aFt,aGi,aIe] at this
          rcases this with e | e <;> rw [e] <;> decide +kernel
         exact fin _ _ _ _ h14.2 n14.2 (tZ h rfl rfl n14)
        ·have q6:=aD7 h
         omega
     refine Ok.cond (fun h=>J2 _ (fun _=>.inl (aCl h)) (fun h2=>absurd (aCl h) (aD7 h2))) (fun h=>J2 _ (fun h2=>.inr (aCl h2)) (fun h2=>⟨aD7 h,aD7 h2⟩))
 rw [w6]
 refine Ok.cond (fun h=>J1 _ (fun _=>.inl (aCl h)) (fun h2=>absurd (aCl h) (aD7 h2))) (fun h=>J1 _ (fun h2=>.inr (aCl h2)) (fun h2=>⟨aD7 h,aD7 h2⟩))
end
section
open Go
theorem iG {s:ByteArray} (h:Ev s=true/\s.size<=1000):B2 s=some true:=by rw [Jq _ (by omega),h.1]
def rsa:Am:=⟨5,2048⟩
theorem jU:Bx rsa 7 []=some true:=by
 unfold Bx
 rw [Mr,aAc,show decide (0 < Kq rsa)=true by decide +kernel,aG4,aCx,Qv,aAc,show Mf rsa.Alg=2 by decide +kernel,aAe rfl,aG4,aCx]
 have hk:E4 7=some true:=rfl
 rw [hk,aAc,aG4,aCx]
 unfold Bx.j1
 rw [show decide ((8:Int) < ((([]:List Af).length:Nat):Int))=false from rfl,aCx]
 exact D0 (x:=some true) rfl
def T7:Ax:=⟨⟨#[120]⟩,rsa,7,false,[]⟩
def U0:Ax:=⟨⟨#[121]⟩,rsa,7,false,[]⟩
theorem rE:Bz [T7,U0]=some 0:=by
 have n1:B2 T7.Alias=some true:=iG (by decide +kernel)
 have n2:B2 U0.Alias=some true:=iG (by decide +kernel)
 have s1:Bx T7.Key T7.KeyId T7.Chain=some true:=jU
 have s2:Bx U0.Key U0.KeyId U0.Chain=some true:=jU
 have o:Kz (Hg T7.Alias) (Hg U0.Alias)=true:=by decide +kernel
 unfold Bz
 have e0:Bz.l1 [T7,U0] 0=some (.next 1):=by
  show ((B2 T7.Alias).bind _)=_
  rw [n1,aAc,aG4,aCx]
  show cond (decide ((0:Int) < 0)) _ _=_
  rw [show decide ((0:Int) < 0)=false from rfl,aCx,s1]
  rfl
 have e1:Bz.l1 [T7,U0] ((1:Nat):Int)=some (.next 2):=by
  unfold Bz.l1
  rw [G7 (show [T7,U0][1]?=some U0 from rfl),n2,aAc,aG4,aCx,aAe (by decide),aD8,Es (by decide),show ((1:Nat):Int) - 1=((0:Nat):Int) from rfl,D6,show [T7,U0][0]?=some T7 from rfl,aAc,o,aG4,aCx,s2]
  rfl
 rw [Ej (body:=fun q'=>Bz.l1 [T7,U0] q') e0,show (1:Int)=((1:Nat):Int) from rfl,Ej (body:=fun q'=>Bz.l1 [T7,U0] q') e1]
 exact D0 (x:=some (0:Int)) rfl
def jH:Aa:=⟨2,⟨#[97]⟩,0,3,90,3,⟨#[115]⟩,rsa,7,⟨#[]⟩⟩
theorem vN:Bj jH=some 0:=bM (by decide +kernel) (by decide +kernel) (by decide) (by decide) (by decide) (by decide) (mR rfl (by decide +kernel) (by decide +kernel) (by decide) rfl)
theorem aAx:Bj ⟨2,⟨#[97]⟩,0,3,90,4,⟨#[115]⟩,⟨0,0⟩,1,⟨#[]⟩⟩=some 0:=bM (by decide +kernel) (by decide +kernel) (by decide) (by decide) (by decide) (by decide) (Wb rfl rfl (.inr (.inl ⟨.inl rfl,by decide⟩)))
theorem wJ:Cg [jH,jH]=some ([jH],0):=by
 rw [wC [jH,jH] (by decide) (by decide) (fun f hf=>by
  simp only [aFt,aGi,aIe] at hf
  rcases hf with rfl | rfl <;> exact vN)]
 have:Nm cA [jH,jH]=[jH]:=by
  rw [jZ T6 (m:=[jH]) (fun z=>by simp),kR T6 (by exact .cons (fun _ h=>by cases h) .nil)]
 rw [this]
theorem mS:J8=some true:=by
 unfold J8
 have hs:Ca ⟨2,⟨#[97]⟩,0,3,90,0,⟨#[115]⟩,⟨0,0⟩,0,⟨#[]⟩⟩ [T7,U0]=some ([jH],0):=by
  unfold Ca Gx
  show ((Option.bind (Bj ⟨2,⟨#[97]⟩,0,3,90,4,⟨#[115]⟩,⟨0,0⟩,1,⟨#[]⟩⟩) _).bind _)=_
  rw [aAx,aAc,aAc]
  show cond (decide ((0:Int)=0)) ((Bz [T7,U0]).bind _) _=_
  rw [rE,aAc,aAe rfl,aD8]
  unfold Ca.j1
  rw [aAe rfl,aG4,aCx]
  refine (Ej (s':=(1,2,⟨#[97]⟩,0,3,90,4,⟨#[115]⟩,0,0,1,⟨#[]⟩,[jH])) rfl).trans ?_
  refine (Ej (s':=(2,2,⟨#[97]⟩,0,3,90,4,⟨#[115]⟩,0,0,1,⟨#[]⟩,[jH,jH])) rfl).trans ?_
  refine (D0 (x:=(Cg [jH,jH]).bind fun y=>some (y.1,y.2)) ?_).trans ?_
  ·rfl
  rw [wJ]; rfl
 show (Ca ⟨2,⟨#[97]⟩,0,3,90,0,⟨#[115]⟩,⟨0,0⟩,0,⟨#[]⟩⟩ [T7,U0]).bind _=_
 rw [hs,aAc]
 show (Bj jH).bind _=_
 rw [vN]
 rfl
theorem aBy {t:List Int} (h:t.length<=400):Ok (Pz t) Lj:=Ok.ret ⟨by unfold Lo; show t.length < _; omega,aJ5 _,by show (0:Int)<=(t.length:Int); omega⟩
end
section
open Go
theorem zQ (b x:Bool):cond b (some x) (some false)=some (b && x):=by cases b <;> rfl
def iT (f:Aa):Bool:=decide (f.Use=⟨0,0⟩) && decide (f.Text=⟨#[]⟩)
def cP (f:Aa):Bool:=
 bif decide (f.Kind=1) || decide (f.Kind=8) then decide (0 < Kq f.Use) && (decide (f.Number=0) && decide (f.Text=⟨#[]⟩))
 else bif decide (f.Kind=2) then iT f && (decide (0<=f.Number) && decide (f.Number<=65535))
 else bif decide (f.Kind=3) then decide (0 < Kq f.Use) && (decide (Mf f.Use.Alg=2) && (decide (0<=f.Number) && (decide (f.Number<=2147483648) && decide (f.Text=⟨#[]⟩))))
 else bif decide (f.Kind=4) || decide (f.Kind=5) then iT f && (decide (1<=f.Number) && decide (f.Number<=4))
 else bif decide (f.Kind=6) then iT f && (decide (0<=f.Number) && decide (f.Number<=2147483648))
 else bif decide (f.Kind=7) then decide (f.Use=⟨0,0⟩) && (decide (f.Number=0) && Ev f.Text) else false
def Tq (f:Aa):Int:=
 bif (Ev f.Host && (Ev f.Subject && (decide (0<=f.Machine) && decide (f.Machine<=1099511627776)))) && ((decide (0<=f.Day) && (decide (f.Day<=40000) && (decide (1<=f.Confidence) && decide (f.Confidence<=100)))) && (decide (1<=f.Source) && (decide (f.Source<=7) && cP f))) then 0 else 24
theorem gV {f:Aa} (h:Kf f):A6 f=some (cP f):=by
 unfold A6 A6.j1 A6.j2 A6.j3
 simp only [Mr,Qv,Jq _ h.text,aAc,zQ]
 unfold cP iT
 generalize decide (f.Use=⟨0,0⟩)=b0
 generalize decide (f.Kind=1)=k1
 generalize decide (f.Kind=8)=k8
 generalize decide (f.Kind=2)=k2
 generalize decide (f.Kind=3)=k3
 generalize decide (f.Kind=4)=k4
 generalize decide (f.Kind=5)=k5
 generalize decide (f.Kind=6)=k6
 generalize decide (f.Kind=7)=k7
 cases b0 <;> cases k1 <;> first | rfl | (cases k8 <;> first | rfl | (cases k2 <;> first | rfl | (cases k3 <;> first | rfl | (cases k4 <;> first | rfl | (cases k5 <;> first | rfl | (cases k6 <;> first | rfl | (cases k7 <;> rfl)))))))
theorem aFm (a b:Int):decide (a < b)=!decide (b<=a):=by
 by_cases h:a < b
 ·rw [aAe h,aAg (by omega)]; rfl
 ·rw [aAg h,aAe (by omega)]; rfl
theorem aS {f:Aa} (h:Kf f):Bj f=some (Tq f):=by
 unfold Bj Bj.j1 Bj.j2 Bj.j3
 simp only [Jq _ h.host,Jq _ h.subj,gV h,aAc,aFm]
 unfold Tq
 generalize Ev f.Host=a1
 generalize Ev f.Subject=a2
 generalize decide (0<=f.Machine)=a3
 generalize decide (f.Machine<=1099511627776)=a4
 generalize decide (0<=f.Day)=a5
 generalize decide (f.Day<=40000)=a6
 generalize decide (1<=f.Confidence)=a7
 generalize decide (f.Confidence<=100)=a8
 generalize decide (1<=f.Source)=a9
 generalize decide (f.Source<=7)=a10
 generalize cP f=a11
 cases a1 <;> cases a2 <;> cases a3 <;> cases a4 <;> first | (cases a5 <;> cases a6 <;> cases a7 <;> cases a8 <;> rfl) | (cases a5 <;> cases a6 <;> cases a7 <;> cases a8 <;> first | rfl | (cases a9 <;> cases a10 <;> cases a11 <;> rfl))
theorem c4 (b x:Bool):cond b (A1.j4 x) (A1.j4 false)=A1.j4 (b && x):=by cases b <;> rfl
theorem pW (u:Am):Fl u=some (decide (0 < Kq u) && decide (Mf u.Alg=2)):=by
 unfold Fl
 simp only [Qu,Wo,aAc,zQ]
theorem cD {f:Aa} (h:Kf f):A1.j1 f false=A1.j4 (cP f):=by
 unfold A1.j1 A1.j2 A1.j3
 simp only [Qu,pW,Ps _ h.text,aAc,c4,aCx]
 unfold cP iT
 generalize decide (f.Use=⟨0,0⟩)=b0
 generalize decide (f.Text=(⟨#[]⟩:ByteArray))=b1
 generalize decide (f.Kind=1)=k1
 generalize decide (f.Kind=8)=k8
 generalize decide (f.Kind=2)=k2
 generalize decide (f.Kind=3)=k3
 generalize decide (f.Kind=4)=k4
 generalize decide (f.Kind=5)=k5
 generalize decide (f.Kind=6)=k6
 generalize decide (f.Kind=7)=k7
 generalize decide (0 < Kq f.Use)=u1
 generalize decide (Mf f.Use.Alg=2)=u2
 generalize decide (0<=f.Number)=n1
 generalize decide (f.Number=0)=n0
 generalize decide (f.Number<=65535)=n2
 generalize decide (f.Number<=2147483648)=n3
 generalize decide (1<=f.Number)=n4
 generalize decide (f.Number<=4)=n5
 have L3:∀ a b c d:Bool,(a && (b && (c && d)))=((a && d) && (b && c)):=by decide
 have L4:∀ a b c d e:Bool,((a && b) && (c && (d && e)))=(a && (b && (c && (d && e)))):=by decide
 cases k1
 ·cases k8
  ·cases k2
   ·cases k3
    ·cases k4
     ·cases k5
      ·cases k6
       ·cases k7 <;> rfl
       ·exact congrArg A1.j4 (L3 _ _ _ _)
      ·exact congrArg A1.j4 (L3 _ _ _ _)
     ·exact congrArg A1.j4 (L3 _ _ _ _)
    ·exact congrArg A1.j4 (L4 _ _ _ _ _)
   ·exact congrArg A1.j4 (L3 _ _ _ _)
  ·rfl
 ·rfl
theorem Yk {f:Aa} (h:Kf f):A1 f=some (Tq f):=by
 have ht:A1.j1 f true=some 24:=rfl
 have hj:∀ b,A1.j1 f b=bif b then some 24 else some (bif cP f then 0 else 24):=fun b=>by
  cases b
  ·rw [cD h]
   unfold A1.j4
   cases cP f <;> rfl
  ·rfl
 unfold A1
 simp only [Ps _ h.host,Ps _ h.subj,hj,aAc,aFm]
 unfold Tq
 generalize Ev f.Host=a1
 generalize Ev f.Subject=a2
 generalize decide (0<=f.Machine)=a3
 generalize decide (f.Machine<=1099511627776)=a4
 generalize decide (0<=f.Day)=a5
 generalize decide (f.Day<=40000)=a6
 generalize decide (1<=f.Confidence)=a7
 generalize decide (f.Confidence<=100)=a8
 generalize decide (1<=f.Source)=a9
 generalize decide (f.Source<=7)=a10
 generalize cP f=a11
 cases a9 <;> cases a10 <;> cases a1 <;> first | rfl | (cases a3 <;> cases a4 <;> cases a5 <;> cases a6 <;> first | (cases a7 <;> cases a8 <;> cases a2 <;> rfl) | (cases a7 <;> cases a8 <;> cases a2 <;> cases a11 <;> rfl))
theorem Vr (a b:ByteArray):Jb a b=some (Pw a b):=by
 unfold Jb Pw
 cases Kz (Hg a) (Hg b) with
 | true=>rfl
 | false=>cases Kz (Hg b) (Hg a) <;> rfl
def lK:List Int->List Int->Int
 | x :: a,y :: b=>bif decide (Ie x y=0) then lK a b else Ie x y
 | _,_=>0
theorem Xj (a b:List Int) (hl:a.length=b.length) (h:a.length<=1000):D3 a b=some (lK a b):=by
 have key:∀ (m n p q:List Int),p ++ m=a->q ++ n=b->p.length=q.length->m.length=n.length->Cl (fun i=>D3.l1 a b i) (p.length:Int)=some (lK m n):=by
  intro m
  induction m with
  | nil=>
   intro n p q h1 h2 h3 h4
   have:a.length=p.length:=by rw [<- h1]; simp
   refine D0 (x:=some 0) ?_
   show D3.l1 a b (p.length:Int)=_
   unfold D3.l1
   rw [aAg (by omega),aCx]
  | cons x m ih=>
   intro n p q h1 h2 h3 h4
   cases n with
   | nil=>cases h4
   | cons y n=>
    have hx:a[p.length]?=some x:=by rw [<- h1]; simp
    have hy:b[p.length]?=some y:=by rw [<- h2,h3]; simp
    have hlt:=Lb hx
    by_cases c1:x < y
    ·have e:D3.l1 a b (p.length:Int)=up (some (-1)):=by
      unfold D3.l1
      rw [aAe (by omega),aD8,D6,hx,aAc,D6,hy,aAc,aAe c1,aD8]
     rw [D0 e]
     unfold lK Ie
     rw [aAe c1]; rfl
    ·by_cases c2:y < x
     ·have e:D3.l1 a b (p.length:Int)=up (some 1):=by
       unfold D3.l1
       rw [aAe (by omega),aD8,D6,hx,aAc,D6,hy,aAc,aAg c1,aCx,aAe c2,aD8]
      rw [D0 e]
      unfold lK Ie
      rw [aAg c1,aAe c2]; rfl
     ·have e:D3.l1 a b (p.length:Int)=some (.next (((p ++ [x]).length:Nat):Int)):=by
       unfold D3.l1
       rw [aAe (by omega),aD8,D6,hx,aAc,D6,hy,aAc,aAg c1,aCx,aAg c2,aCx,Es (by omega)]
       simp
      rw [Ej (body:=fun i=>D3.l1 a b i) e,ih n (p ++ [x]) (q ++ [y]) (by simp [h1]) (by simp [h2]) (by simp [h3]) (by simpa using h4)]
      show _=some (bif decide (Ie x y=0) then lK m n else Ie x y)
      have:Ie x y=0:=by unfold Ie; rw [aAg c1,aAg c2]; rfl
      rw [this]; rfl
 exact key a b [] [] rfl rfl rfl hl
theorem Yb (a b:Aa):J9 a b=some (cC a b):=by
 unfold J9
 rw [Vr,aAc,Xj [a.Machine,a.Day] [b.Machine,b.Day] rfl (by simp),aAc,Vr,aAc,Xj [a.Kind,a.Use.Alg,a.Use.Bits,a.Number] [b.Kind,b.Use.Alg,b.Use.Bits,b.Number] rfl (by simp),aAc,Vr,aAc,Xj [a.Source,a.Confidence] [b.Source,b.Confidence] rfl (by simp),aAc]
 simp only [mY]
 unfold cC
 simp only [lK]
 by_cases h1:¬ Pw a.Host b.Host=0
 ·refine aIg ?_ (congrArg some (Jt (c:=fun a b:Aa=>Pw a.Host b.Host) (a:=a) (b:=b) h1).symm)
  simp [h1]
 rw [aG7] at h1
 refine aIg ?_ (congrArg some (Kr (c:=fun a b:Aa=>Pw a.Host b.Host) (a:=a) (b:=b) h1).symm)
 by_cases h2:¬ Ie a.Machine b.Machine=0
 ·refine aIg ?_ (congrArg some (Jt (c:=fun a b:Aa=>Ie a.Machine b.Machine) (a:=a) (b:=b) h2).symm)
  simp [h1,h2]
 rw [aG7] at h2
 refine aIg ?_ (congrArg some (Kr (c:=fun a b:Aa=>Ie a.Machine b.Machine) (a:=a) (b:=b) h2).symm)
 by_cases h3:¬ Ie a.Day b.Day=0
 ·refine aIg ?_ (congrArg some (Jt (c:=fun a b:Aa=>Ie a.Day b.Day) (a:=a) (b:=b) h3).symm)
  simp [h1,h2,h3]
 rw [aG7] at h3
 refine aIg ?_ (congrArg some (Kr (c:=fun a b:Aa=>Ie a.Day b.Day) (a:=a) (b:=b) h3).symm)
 by_cases h4:¬ Pw a.Subject b.Subject=0
 ·refine aIg ?_ (congrArg some (Jt (c:=fun a b:Aa=>Pw a.Subject b.Subject) (a:=a) (b:=b) h4).symm)
  simp [h1,h2,h3,h4]
 rw [aG7] at h4
 refine aIg ?_ (congrArg some (Kr (c:=fun a b:Aa=>Pw a.Subject b.Subject) (a:=a) (b:=b) h4).symm)
 by_cases h5:¬ Ie a.Kind b.Kind=0
 ·refine aIg ?_ (congrArg some (Jt (c:=fun a b:Aa=>Ie a.Kind b.Kind) (a:=a) (b:=b) h5).symm)
  simp [h1,h2,h3,h4,h5]
 rw [aG7] at h5
 refine aIg ?_ (congrArg some (Kr (c:=fun a b:Aa=>Ie a.Kind b.Kind) (a:=a) (b:=b) h5).symm)
 by_cases h6:¬ Ie a.Use.Alg b.Use.Alg=0
 ·refine aIg ?_ (congrArg some (Jt (c:=fun a b:Aa=>Ie a.Use.Alg b.Use.Alg) (a:=a) (b:=b) h6).symm)
  simp [h1,h2,h3,h4,h5,h6]
 rw [aG7] at h6
 refine aIg ?_ (congrArg some (Kr (c:=fun a b:Aa=>Ie a.Use.Alg b.Use.Alg) (a:=a) (b:=b) h6).symm)
 by_cases h7:¬ Ie a.Use.Bits b.Use.Bits=0
 ·refine aIg ?_ (congrArg some (Jt (c:=fun a b:Aa=>Ie a.Use.Bits b.Use.Bits) (a:=a) (b:=b) h7).symm)
  simp [h1,h2,h3,h4,h5,h6,h7]
 rw [aG7] at h7
 refine aIg ?_ (congrArg some (Kr (c:=fun a b:Aa=>Ie a.Use.Bits b.Use.Bits) (a:=a) (b:=b) h7).symm)
 by_cases h8:¬ Ie a.Number b.Number=0
 ·refine aIg ?_ (congrArg some (Jt (c:=fun a b:Aa=>Ie a.Number b.Number) (a:=a) (b:=b) h8).symm)
  simp [h1,h2,h3,h4,h5,h6,h7,h8]
 rw [aG7] at h8
 refine aIg ?_ (congrArg some (Kr (c:=fun a b:Aa=>Ie a.Number b.Number) (a:=a) (b:=b) h8).symm)
 by_cases h9:¬ Pw a.Text b.Text=0
 ·refine aIg ?_ (congrArg some (Jt (c:=fun a b:Aa=>Pw a.Text b.Text) (a:=a) (b:=b) h9).symm)
  simp [h1,h2,h3,h4,h5,h6,h7,h8,h9]
 rw [aG7] at h9
 refine aIg ?_ (congrArg some (Kr (c:=fun a b:Aa=>Pw a.Text b.Text) (a:=a) (b:=b) h9).symm)
 by_cases h10:¬ Ie a.Source b.Source=0
 ·refine aIg ?_ (congrArg some (Jt (c:=fun a b:Aa=>Ie a.Source b.Source) (a:=a) (b:=b) h10).symm)
  simp [h1,h2,h3,h4,h5,h6,h7,h8,h9,h10]
 rw [aG7] at h10
 refine aIg ?_ (congrArg some (Kr (c:=fun a b:Aa=>Ie a.Source b.Source) (a:=a) (b:=b) h10).symm)
 by_cases h11:¬ Ie a.Confidence b.Confidence=0
 ·refine aIg ?_ (congrArg some (Jt (c:=fun a b:Aa=>Ie a.Confidence b.Confidence) (a:=a) (b:=b) h11).symm)
  simp [h1,h2,h3,h4,h5,h6,h7,h8,h9,h10,h11]
 rw [aG7] at h11
 refine aIg ?_ (congrArg some (Kr (c:=fun a b:Aa=>Ie a.Confidence b.Confidence) (a:=a) (b:=b) h11).symm)
 simp [h1,h2,h3,h4,h5,h6,h7,h8,h9,h10,h11]
theorem zU {α:Type} {l:List α} {a b:Int} (h:0<=a/\a<=b/\b<=l.length):bZ l a b=some ((l.drop a.toNat).take (b.toNat - a.toNat)):=if_pos h
theorem xP (l:List Aa) (x:Aa) (hl:l.length < 1000000) (hs:qP cA l):Cs l x=some (Qk cA l x):=by
 have lay:∀ p m:List Aa,p ++ m=l->Cs.j3 l x (p.length:Int) false=some (p ++ x :: m):=fun p m h=>by
  unfold Cs.j3
  have hlen:l.length=p.length + m.length:=by rw [<- h]; simp
  have e1:(l.drop (0:Int).toNat).take ((p.length:Int).toNat - (0:Int).toNat)=p:=by
   show (l.drop 0).take (p.length - 0)=p
   rw [<- h]; simp
  have e2:(l.drop (p.length:Int).toNat).take (((l.length:Nat):Int).toNat - (p.length:Int).toNat)=m:=by
   show (l.drop p.length).take (l.length - p.length)=m
   rw [<- h]; simp
  rw [aCx,zU (by omega),aAc,e1,Fr (by simp; omega),aAc,Fr (by simp; omega),aAc,zU (by omega),aAc,e2,Fr (by simp; omega),aAc]
  simp
 have key:∀ (n:Nat) (p m:List Aa),p.length=n->p ++ m=l->(∀ y∈m,cA x y=true)->Cl (fun q'=>Cs.l1 l x q') (p.length:Int)=some (Qk cA l x):=by
  intro n
  induction n with
  | zero=>
   intro p m hp h hm
   have:p=[]:=aGb hp
   subst this
   have h:m=l:=h
   subst h
   have e:Cs.l1 m x ((0:Nat):Int)=up (some (x :: m)):=by
    unfold Cs.l1
    rw [aAg (by omega),aCx]
    unfold Cs.j2
    rw [aCx,aAg (by omega),aCx]
    have:=lay [] m rfl
    rw [show (([]:List Aa).length:Int)=((0:Nat):Int) from rfl] at this
    rw [this]; rfl
   show Cl (fun q'=>Cs.l1 m x q') ((0:Nat):Int)=_
   rw [D0 e]
   refine congrArg some (Wt T6 (.cons hm hs) (Qp T6 hs) fun z=>?_)
   rw [Rm T6,aFt]
  | succ n ih=>
   intro p m hp h hm
   obtain⟨q,y,rfl⟩:∃ q y,p=q ++ [y]:=by
    rcases List.eq_nil_or_concat p with h0 | ⟨q,y,h0⟩
    ·rw [h0] at hp; cases hp
    ·exact⟨q,y,by rw [h0]; simp⟩
   have hql:(q ++ [y]).length=q.length + 1:=by simp
   have hy:l[q.length]?=some y:=by rw [<- h]; simp
   have hlen:=Lb hy
   have e0:W (((q ++ [y]).length:Int) - 1)=(q.length:Int):=by rw [Es (by omega)]; omega
   have hasc:=hs
   rw [<- h] at hasc
   obtain⟨ha1,ha2,ha3⟩:=aJa.1 hasc
   obtain⟨hb1,hb2,hb3⟩:=aJa.1 ha1
   by_cases c1:0 < cC y x
   ·have hxy:cA x y=true:=aAe (by have:=iR.anti y x; omega)
    have e:Cs.l1 l x ((q ++ [y]).length:Int)=some (.next (q.length:Int)):=by
     unfold Cs.l1
     rw [aAe (by omega),aD8,e0,D6,hy,aAc,Yb,aAc,aAe c1]
     unfold Cs.j2
     rw [aD8,e0]
    rw [Ej (body:=fun q'=>Cs.l1 l x q') e]
    refine ih q (y :: m) (by omega) (by rw [<- h]; simp) fun z hz=>?_
    rcases aFt.1 hz with rfl | hz
    ·exact hxy
    ·exact hm z hz
   ·have e:∀ R,Cs.j3 l x ((q ++ [y]).length:Int) (decide (cC y x=0))=some R->Cs.l1 l x ((q ++ [y]).length:Int)=up (some R):=fun R hR=>by
     unfold Cs.l1
     rw [aAe (by omega),aD8,e0,D6,hy,aAc,Yb,aAc,aAg c1]
     unfold Cs.j2
     rw [aCx,aAe (by omega),aD8,e0,D6,hy,aAc,Yb,aAc,hR]
    by_cases c2:cC y x=0
    ·have hyx:=nV y x c2
     subst hyx
     rw [D0 (e l (by rw [aAe c2]; rfl))]
     refine congrArg some (Wt T6 hs (Qp T6 hs) fun z=>?_)
     rw [Rm T6]
     constructor
     ·exact .inr
     ·rintro (rfl | h1)
      ·exact Ia hy
      ·exact h1
    ·have hyx:cA y x=true:=aAe (by omega)
     rw [D0 (e _ (by rw [aAg c2]; exact lay _ m h))]
     have hall:∀ z∈q ++ [y],cA z x=true:=fun z hz=>by
      rcases aHv.1 hz with hz | hz
      ·exact T6.trans _ _ _ (hb3 z hz y (by simp)) hyx
      ·rw [aGh.1 hz]; exact hyx
     refine congrArg some (Wt T6 (aJa.2 ⟨ha1,.cons hm ha2,fun z hz w hw=>?_⟩) (Qp T6 hs) fun z=>?_)
     ·rcases aFt.1 hw with rfl | hw
      ·exact hall z hz
      ·exact ha3 z hz w hw
     ·rw [Rm T6,<- h]
      simp only [aHv,aFt]
      constructor
      ·rintro (h1 | h1 | h1)
       ·exact .inr (.inl h1)
       ·exact .inl h1
       ·exact .inr (.inr h1)
      ·rintro (h1 | h1 | h1)
       ·exact .inr (.inl h1)
       ·exact .inl h1
       ·exact .inr (.inr h1)
 exact key l.length l [] rfl (by simp) (fun _ h=>by cases h)
def M8 (f:Aa):Bool:=!decide (Tq f=0)
def M6 (l:List Aa):List Aa×Int:=bif l.any M8 then ([],24) else (Nm cA l,0)
theorem Pr {f:Aa} (h:M8 f=true):Tq f=24:=by
 unfold M8 at h
 unfold Tq at h ⊢
 revert h
 cases (Ev f.Host && (Ev f.Subject && (decide (0<=f.Machine) && decide (f.Machine<=1099511627776)))) && ((decide (0<=f.Day) && (decide (f.Day<=40000) && (decide (1<=f.Confidence) && decide (f.Confidence<=100)))) && (decide (1<=f.Source) && (decide (f.Source<=7) && cP f))) with
 | true=>intro h; cases h
 | false=>intro _; rfl
theorem nM (l:List Aa) (h4:l.length<=400) (hf:∀ f∈l,Kf f):Cg l=some (M6 l):=by
 have hcap:=nT
 obtain⟨r,hr1,hr2,hr3⟩:=P1 T6.swo tK l (by unfold I0; omega) (fun _ _=>trivial)
 have hrl:r.length=l.length:=hr2.length_eq
 obtain⟨c,hc1,rfl⟩:=Nq r (by omega)
 rw [hY T6 hr2 hr3] at hc1
 have hsl:=Xl cA l
 unfold Cg M6
 refine Re l M8 (([]:List Aa),(24:Int)) (Nm cA l,(0:Int)) (by unfold Lo; omega) (fun i x hx=>?_) ?_
 ·show Cg.l1 l (i:Int)=_
  unfold Cg.l1
  rw [G7 hx,aS (hf x (Ia hx)),aAc]
  cases hb:M8 x with
  | true=>
   have e1:(!decide (Tq x=0))=true:=hb
   rw [e1,Pr hb]; rfl
  | false=>
   have e1:(!decide (Tq x=0))=false:=hb
   rw [e1]; rfl
 ·show Cg.l1 l (l.length:Int)=_
  unfold Cg.l1
  rw [Fs,eH l (by omega),aAc,hr1,aAc,hc1,aAc,aAg (by omega)]
  rfl
theorem mT (l:List Aa) (h4:l.length<=400) (hf:∀ f∈l,Kf f):Cr l=some (M6 l):=by
 have l2:∀ (m p acc:List Aa),p ++ m=l->qP cA acc->acc.length + m.length<=400->Cl (fun q'=>Cr.l2 l q'.1 q'.2) ((p.length:Int),acc)=some (m.foldl (Qk cA) acc,0):=by
  intro m
  induction m with
  | nil=>
   intro p acc hp hs hl
   have:l.length=p.length:=by rw [<- hp]; simp
   refine D0 (x:=some (acc,0)) ?_
   show Cr.l2 l (p.length:Int) acc=_
   unfold Cr.l2
   rw [aAg (by omega),aCx]
  | cons y m ih=>
   intro p acc hp hs hl
   rw [aH2] at hl
   have hy:l[p.length]?=some y:=by rw [<- hp]; simp
   have hlen:=Lb hy
   have hq:=aH cA y acc
   have e1:Cr.l2 l (p.length:Int) acc=some (.next ((((p ++ [y]).length:Nat):Int),Qk cA acc y)):=by
    unfold Cr.l2
    rw [aAe (by omega),aD8,D6,hy,aAc,xP acc y (by omega) hs,aAc,aAg (by omega),aCx,Es (by omega)]
    simp
   rw [Ej (body:=fun q'=>Cr.l2 l q'.1 q'.2) e1,ih (p ++ [y]) _ (by simp [hp]) (Qp T6 hs) (by omega)]
   rfl
 unfold Cr M6
 refine Re l M8 (([]:List Aa),(24:Int)) (Nm cA l,(0:Int)) (by unfold Lo; omega) (fun i x hx=>?_) ?_
 ·show Cr.l1 l (i:Int)=_
  unfold Cr.l1
  rw [G7 hx,Yk (hf x (Ia hx)),aAc]
  cases hb:M8 x with
  | true=>
   have e1:(!decide (Tq x=0))=true:=hb
   rw [e1,Pr hb]; rfl
  | false=>
   have e1:(!decide (Tq x=0))=false:=hb
   rw [e1]; rfl
 ·show Cr.l1 l (l.length:Int)=_
  unfold Cr.l1
  have:=l2 l [] [] rfl .nil (by simpa using h4)
  rw [show ((([]:List Aa).length:Nat):Int)=0 from rfl] at this
  rw [Fs,this]
  rfl
theorem Zg (a b:List Aa) (h:a.length < 1000000):Eh a b=some (decide (a=b)):=by
 unfold Eh
 by_cases hl:a.length=b.length
 ·rw [aAe (show (a.length:Int)=(b.length:Int) by omega),aG4,aCx]
  have key:∀ (m n p:List Aa),p ++ m=a->p ++ n=b->Cl (fun q'=>Eh.l1 a b q') (p.length:Int)=some (decide (m=n)):=by
   intro m
   induction m with
   | nil=>
    intro n p h1 h2
    have hn:n=[]:=aGb (by have e1:=congrArg List.length h1; have e2:=congrArg List.length h2; simp at e1 e2; omega)
    subst hn
    refine D0 (x:=some true) ?_
    show Eh.l1 a b (p.length:Int)=_
    unfold Eh.l1
    rw [aAg (by rw [<- h1]; simp),aCx]
   | cons x m ih=>
    intro n p h1 h2
    cases n with
    | nil=>have e1:=congrArg List.length h1; have e2:=congrArg List.length h2; simp at e1 e2; omega
    | cons y n=>
     have hx:a[p.length]?=some x:=by rw [<- h1]; simp
     have hy:b[p.length]?=some y:=by rw [<- h2]; simp
     have hlen:=(aD1.1 hx).1
     by_cases hxy:x=y
     ·subst hxy
      have e1:Eh.l1 a b (p.length:Int)=some (.next (((p ++ [x]).length:Nat):Int)):=by
       unfold Eh.l1
       rw [aAe (by omega),aD8,D6,hx,aAc,D6,hy,aAc,aAe rfl,aG4,aCx,Es (by omega)]
       simp
      rw [Ej e1,ih n (p ++ [x]) (by simp [h1]) (by simp [h2])]
      simp
     ·have e1:Eh.l1 a b (p.length:Int)=up (some false):=by
       unfold Eh.l1
       rw [aAe (by omega),aD8,D6,hx,aAc,D6,hy,aAc,aAg hxy,aJg,aD8]
      rw [D0 e1]
      simp [hxy]
  exact key a b [] rfl rfl
 ·rw [aAg (show ¬ (a.length:Int)=(b.length:Int) by omega),aJg,aD8,aAg (fun e=>hl (by rw [e]))]
end
section
open Go
def cU (l:List Aa):Prop:=∀ f∈l,Kf f/\Tq f=0
theorem cU.fit {l:List Aa} (h:cU l):∀ f∈l,Kf f:=fun f hf=>(h f hf).1
theorem cU.app {a b:List Aa} (ha:cU a) (hb:cU b):cU (a ++ b):=fun f hf=>by
 rcases aHv.1 hf with h | h
 ·exact ha f h
 ·exact hb f h
end
end Go.Proofs.YtchpcpaacenodaaGreat
