/- Plain texts, joined. No program is in sight here. -/
import Derived.Test.YtboglmbblmakjaaGreatDoorK4
import Derived.Test.YtboglmbblmakjaaGreatDoorD7
import Derived.Test.YtboglmbblmakjaaGreatDoorL3
set_option linter.unusedVariables false
set_option linter.unusedSimpArgs false
namespace Go.Proofs.YtboglmbblmakjaaGreatDoor
section
open Go
def Sk (s:ByteArray):Aa:=.mk 12 (Q2 s) false []
def tJ (b:Bool):Aa:=.mk 1 [bif b then 255 else 0] false []
def mU (l:List Aa):Aa:=.mk 48 [] true l
def qX (u:Ah):Aa:=mU [Vs u.Alg,Vs u.Bits]
def iJ (c:Ab):List Aa:=[Vs c.Serial,Sk c.Issuer,Sk c.Subject,qX c.Key,Vs c.KeyId,qX c.Hash,Vs c.From,Vs c.To,tJ c.Authority,Vs c.Path,mU (c.Names.map Sk)]
def iP (c:Ab):Aa:=mU (iJ c)
theorem Rf {s:ByteArray} (h:Mh s=true):s.size<=32:=by
 unfold Mh at h
 simp only [aF5,aU9] at h
 omega
theorem tD {l:List ByteArray} (h:R8 l=true):∀ s∈l,s.size<=32:=by
 intro s hs
 obtain⟨i,hi,e⟩:=aUt hs
 unfold R8 at h
 have h1:(List.range l.length).any (oI l)=false:=by simpa using h
 rw [aWz] at h1
 have h2:=h1 i (bA1.2 hi)
 unfold oI at h2
 rw [Vz (aBb hi),e] at h2
 refine Rf ?_
 cases hn:Mh s with
 | true=>rfl
 | false=>rw [hn] at h2; simp at h2
theorem X2 {c:Ab} (h:Is c=true):c.Issuer.size<=32/\c.Subject.size<=32/\c.Names.length<=8/\∀ s∈c.Names,s.size<=32:=by
 unfold Is bC at h
 simp only [aXx,List.any_nil,id,aWr,Bool.or_eq_false_iff] at h
 obtain⟨-,-,h3,h4,h5,h6,-⟩:=h
 refine⟨Rf (by simpa using h3),Rf (by simpa using h4),?_,tD (by simpa using h5)⟩
 have:=aF4 h6
 omega
theorem xJ (s:ByteArray):(Sk s).sz=s.size + 1:=by
 unfold Sk
 rw [Si]
 show (Q2 s).length + Wy [] + 1=_
 rw [aH,Wy]
theorem aO:∀ l:List ByteArray,(∀ s∈l,s.size<=32)->Wy (l.map Sk)<=33 * l.length
 | [],_=>aKp _
 | s :: l,h=>by
  have h1:=aO l fun x hx=>h x (aIz _ hx)
  have h2:=h s (aKw ..)
  rw [aUl,Wy,xJ,aP9]; omega
theorem pO (u:Ah):(qX u).sz<=19:=by
 unfold qX mU
 have h1:=Vu u.Alg
 have h2:=Vu u.Bits
 rw [Si]
 show 0 + Wy [Vs u.Alg,Vs u.Bits] + 1<=19
 simp only [Wy]; omega
theorem gV (l:List Aa):(mU l).sz=Wy l + 1:=by
 unfold mU
 rw [Si]
 show 0 + Wy l + 1=_
 omega
theorem oP {c:Ab} (h:Is c=true):Wy (iJ c)<=1000:=by
 obtain⟨h1,h2,h3,h4⟩:=X2 h
 have t:=aO c.Names h4
 have a1:=Vu c.Serial
 have a2:=pO c.Key
 have a3:=Vu c.KeyId
 have a4:=pO c.Hash
 have a5:=Vu c.From
 have a6:=Vu c.To
 have a7:=Vu c.Path
 have a8:(tJ c.Authority).sz=2:=by unfold tJ; rw [Si]; simp [Wy]
 unfold iJ
 simp only [Wy,xJ,gV,a8]
 omega
theorem aG2 (u:Ah):Jx u=some (qX u):=by
 have:=pO u
 unfold qX at this
 rw [gV] at this
 unfold Jx
 rw [pL,aAy,pL,aAy,uS _ (by omega)]; rfl
theorem wQ (u:Ah) (h1:-9223372036854775808<=u.Alg/\u.Alg<=9223372036854775807) (h2:-9223372036854775808<=u.Bits/\u.Bits<=9223372036854775807):P1 u=some (qX u):=by
 have:=pO u
 unfold qX at this
 rw [gV] at this
 unfold P1
 rw [Rg _ h1.1 h1.2,aAy,Rg _ h2.1 h2.2,aAy,Zh _ (by omega)]; rfl
theorem aDc (b:Bool):Vq b=some (tJ b):=by cases b <;> rfl
theorem uJ (b:Bool):S0 b=some (tJ b):=by cases b <;> rfl
theorem aDv (c:Ab) (h:Is c=true):E2 c=some (iP c):=by
 obtain⟨h1,h2,h3,h4⟩:=X2 h
 have t:=aO c.Names h4
 have hb:=oP h
 unfold E2
 refine Je (body:=fun q'=>E2.l1 c q'.1 q'.2) c.Names.length (fun i=>((i:Int),(c.Names.take i).map Sk)) (iP c) ?_ ?_
 ·intro i hi
  obtain⟨s,hx⟩:∃ s,c.Names[i]?=some s:=⟨_,aBb hi⟩
  show E2.l1 c (i:Int) ((c.Names.take i).map Sk)=_
  unfold E2.l1
  rw [G0 hx,show N1 s=some (Sk s) from rfl,aAy,Gd (by simp; omega),aAy,Kf (by omega),M1 hx,aUk]
  rfl
 ·show E2.l1 c (c.Names.length:Int) ((c.Names.take c.Names.length).map Sk)=_
  unfold E2.l1
  have hT:∀ s,N1 s=some (Sk s):=fun _=>rfl
  rw [Fq,aQa]
  simp only [pL,hT,aG2,aDc,aAy]
  rw [aE6 _ (by omega)]
  simp only [aAy]
  show up ((Q0 (iJ c)).bind fun y=>some y)=_
  rw [uS _ (show Wy (iJ c) < 1073741824 by omega)]
  rfl
theorem aCz (c:Ab) (hf:T1 c) (h:Is c=true):G5 c=some (iP c):=by
 obtain⟨h1,h2,h3,h4⟩:=X2 h
 have t:=aO c.Names h4
 have hb:=oP h
 have hi:=hf.ints
 simp only [aF6,aGr,aSy,forall_eq_or_imp,forall_eq] at hi
 obtain⟨i1,i2,i3,i4,i5,i6,i7,i8,i9,-⟩:=hi
 unfold G5
 refine Je (body:=fun q'=>G5.l1 c q'.1 q'.2) c.Names.length (fun i=>((i:Int),(c.Names.take i).map Sk)) (iP c) ?_ ?_
 ·intro i hi
  obtain⟨s,hx⟩:∃ s,c.Names[i]?=some s:=⟨_,aBb hi⟩
  show G5.l1 c (i:Int) ((c.Names.take i).map Sk)=_
  unfold G5.l1
  rw [G0 hx,show M0 s=some (Sk s) from rfl,aAy,Gd (by simp; omega),aAy,Kf (by omega),M1 hx,aUk]
  rfl
 ·show G5.l1 c (c.Names.length:Int) ((c.Names.take c.Names.length).map Sk)=_
  unfold G5.l1
  have hT:∀ s,M0 s=some (Sk s):=fun _=>rfl
  rw [Fq,aQa,Rg _ i1.1 i1.2,Rg _ i4.1 i4.2,Rg _ i7.1 i7.2,Rg _ i8.1 i8.2,Rg _ i9.1 i9.2,wQ _ i2 i3,wQ _ i5 i6]
  simp only [hT,uJ,aAy]
  rw [Zh _ (by omega)]
  simp only [aAy]
  show up ((Lb (iJ c)).bind fun y=>some y)=_
  rw [Zh _ (show Wy (iJ c) < 1073741824 by omega)]
  rfl
def Ov (c:Ab):List UInt8×Int:=bif Is c then vY (iP c) else ([],9)
theorem qO {c:Ab} (h:Is c=true):(iP c).sz < 67108864:=by
 have:=oP h
 unfold iP
 rw [gV]; omega
theorem zK (c:Ab) (hf:T1 c):Kc c=some (Ov c):=by
 unfold Kc Ov
 rw [mW c hf,aAy]
 cases h:Is c with
 | false=>rfl
 | true=>rw [aI7,aE8,aDv c h,aAy,vP _ (qO h)]; rfl
theorem yO (c:Ab) (hf:T1 c):Nh c=some (Ov c):=by
 unfold Nh Ov
 rw [nK c hf,aAy]
 cases h:Is c with
 | false=>rfl
 | true=>
  show (G5 c).bind _=_
  rw [aCz c hf h,aAy,pB _ (qO h)]; rfl
end
section
open Go
def fB (b:List UInt8):Int:=W (b.foldl (fun s e=>IntKind.wrap .u32 ((bS .u32 s (IntKind.wrap .u32 (e.toNat:Int))) * 16777619)) 2166136261)
theorem aJ1 (b:List UInt8) (h:Lo b):Ez b=some (fB b):=by
 unfold Ez
 refine mF (body:=fun q'=>Ez.l1 b q'.1 q'.2) b _ 2166136261 W h (fun i x s hx=>?_) (fun s=>?_)
 ·show Ez.l1 b s (i:Int)=_
  unfold Ez.l1; rw [G0 hx]
 ·show Ez.l1 b s (b.length:Int)=_
  unfold Ez.l1; rw [Fq]; rfl
theorem aGt (b:List UInt8) (h:Lo b):Ib b=some (fB b):=by
 unfold Ib
 refine mF (body:=fun q'=>Ib.l1 b q'.1 q'.2) b _ 2166136261 W h (fun i x s hx=>?_) (fun s=>?_)
 ·show Ib.l1 b s (i:Int)=_
  unfold Ib.l1; rw [G0 hx]
 ·show Ib.l1 b s (b.length:Int)=_
  unfold Ib.l1; rw [Fq]; rfl
theorem aBj (v:Aa):(vY v).1.length<=4096:=by
 unfold vY
 split
 ·split
  ·exact aLi _
  ·split
   ·exact aLi _
   ·simp; omega
 ·exact aLi _
theorem vG (c:Ab):(Ov c).1.length<=4096:=by
 unfold Ov
 cases Is c with
 | false=>exact aLi _
 | true=>exact aBj _
theorem lX (c:Ab):Lo (Ov c).1:=by
 have:=vG c
 unfold Lo; omega
def aFi (c:Ab) (key:Int):Bool:=decide ((Ov c).2=0) && (decide (c.Seal.Key=key) && decide (c.Seal.Sum=fB (Ov c).1))
theorem iI (c:Ab) (hf:T1 c) (key:Int):Jo c key=some (aFi c key):=by
 unfold Jo aFi
 rw [zK c hf,aAy,aJ1 _ (lX c),aAy]
 generalize fB (Ov c).1=x
 have e:decide (c.Seal=⟨key,x⟩)=(decide (c.Seal.Key=key) && decide (c.Seal.Sum=x)):=by
  cases c.Seal; simp
 rw [e]
 cases decide ((Ov c).2=0) <;> rfl
theorem nR (s:List Int) (v:Int) (h:Lo s):C0 s v=some (Mg s fun e=>decide (v=e)):=by
 unfold C0
 refine Kp s _ h (fun i x hx=>?_) ?_ <;> show C0.l1 _ _ _=_ <;> unfold C0.l1
 ·rw [G0 hx]; cases decide (v=x) <;> rfl
 ·rw [Fq]; rfl
theorem Wb (s:List Int) (v:Int) (h:Lo s):Ds s v=some (s.any fun e=>decide (v=e)):=by
 unfold Ds
 rw [nR s v h,aAy,Of]
theorem fL (s:List ByteArray) (v:ByteArray) (h:Lo s):Fi s v=some (Mg s fun e=>decide (v=e)):=by
 unfold Fi
 refine Kp s _ h (fun i x hx=>?_) ?_ <;> show Fi.l1 _ _ _=_ <;> unfold Fi.l1
 ·rw [G0 hx]; cases decide (v=x) <;> rfl
 ·rw [Fq]; rfl
theorem Z1 (s:List ByteArray) (v:ByteArray) (h:Lo s):Hy s v=some (s.any fun e=>decide (v=e)):=by
 unfold Hy
 rw [fL s v h,aAy,Of]
theorem kB (s:List Ab) (f:Ab->Option Bool) (p:Ab->Bool) (h:Lo s) (hf:∀ x∈s,f x=some (p x)):Bf s f=some (Mg s p):=by
 unfold Bf
 refine Kp s _ h (fun i x hx=>?_) ?_ <;> show Bf.l1 _ _ _=_ <;> unfold Bf.l1
 ·rw [G0 hx,hf x (E7 hx),aAy]; cases p x <;> rfl
 ·rw [Fq]; rfl
theorem Qr (s:List Ab) (f:Ab->Option Bool) (p:Ab->Bool) (h:Lo s) (hf:∀ x∈s,f x=some (p x)):Dl s f=some (s.any p):=by
 unfold Dl
 rw [kB s f p h hf,aAy,Of]
def aBg (l:List Ab) (i:Nat):Bool:=match l[i]? with
 | some c=>decide (i=0) || (c.Authority && decide ((i:Int) - 1<=c.Path))
 | none=>false
theorem tY (l:List Ab) (i:Nat) (hi:i < 4611686018427387904):Iv l (i:Int)=some (aBg l i):=by
 unfold Iv Iv.j1 aBg
 rw [aBc (show ¬ (i:Int) < 0 by omega),aE8]
 by_cases h:l.length<=i
 ·rw [aBd (by omega),aUv h]; rfl
 ·rw [aBc (by omega),aE8]
  obtain⟨c,hc⟩:∃ c,l[i]?=some c:=⟨_,aBb (by omega)⟩
  rw [F4,hc,aAy]
  by_cases h0:i=0
  ·subst h0; rfl
  ·rw [aBc (by omega),aE8,Hh (by omega)]
   dsimp only
   rw [aBc h0]
   cases c.Authority <;> rfl
def aTi (l:List Ab) (i:Nat):Bool:=match l[i]?,l[i + 1]? with
 | some a,some b=>!decide (a.Issuer=b.Subject)
 | _,_=>false
def aS2 (l:List Ab) (i:Nat):Int:=match l[i + 1]? with
 | some d=>d.KeyId
 | none=>match l[i]? with
  | some c=>c.Seal.Key
  | none=>0
def aLe (l:List Ab) (i:Nat):Bool:=match l[i]? with
 | some c=>!aFi c (aS2 l i)
 | none=>false
def oO (e:Int) (l:List Ab) (i:Nat):Bool:=if e=11 then aTi l i else if e=15 then !aBg l i else aLe l i
def R4 (e:Int) (l:List Ab):Bool:=(List.range l.length).any (oO e l)
theorem Xt (l:List Ab) (e:Int) (hl:Lo l) (hf:∀ c∈l,T1 c):Ew l e=some (R4 e l):=by
 unfold Ew R4
 unfold Lo at hl
 have key:∀ (i:Nat) (b:Bool),Ew.j2 (i:Int) b=some (bif b then .done true else .next (W ((i:Int) + 1))):=by
  intro i b; cases b <;> rfl
 refine (zS l.length (oO e l) true false hl (fun i hi=>?_) ?_).trans ?_
 ·obtain⟨c,hc⟩:∃ c,l[i]?=some c:=⟨_,aBb hi⟩
  show Ew.l1 l e (i:Int)=_
  unfold Ew.l1 oO Qc
  rw [aBd (by omega),aHj]
  simp only [key]
  rw [Kf (by omega),F4,F4,hc]
  have hn:decide (((i + 1:Nat):Int) < (l.length:Int))=decide (i + 1 < l.length):=by
   by_cases h:i + 1 < l.length
   ·rw [aBd h,aBd (by omega)]
   ·rw [aBc h,aBc (by omega)]
  rw [hn]
  by_cases h1:e=11
  ·rw [aBd h1,if_pos h1,aHj]
   unfold aTi
   rw [hc]
   by_cases h2:i + 1 < l.length
   ·obtain⟨d,hd⟩:∃ d,l[i + 1]?=some d:=⟨_,aBb h2⟩
    rw [aBd h2,hd]; rfl
   ·rw [aBc h2,aUv (by omega)]; rfl
  ·rw [aBc h1,if_neg h1,aE8]
   by_cases h3:e=15
   ·rw [aBd h3,if_pos h3,aHj,tY l i (by omega)]; rfl
   ·rw [aBc h3,if_neg h3,aE8]
    unfold aLe aS2
    rw [hc]
    by_cases h2:i + 1 < l.length
    ·obtain⟨d,hd⟩:∃ d,l[i + 1]?=some d:=⟨_,aBb h2⟩
     rw [aBd h2,hd]
     simp only [aAy,aHj]
     rw [iI c (hf c (E7 hc))]; rfl
    ·rw [aBc h2,aUv (by omega)]
     simp only [aAy,aE8]
     rw [iI c (hf c (E7 hc))]; rfl
 ·show Ew.l1 l e (l.length:Int)=_
  unfold Ew.l1
  rw [Fq]; rfl
 ·cases (List.range l.length).any (oO e l) <;> rfl
def aAf (day:Int) (c:Ab):Bool:=decide (day < c.From) || decide (c.To<=day)
def aGz (h:List Int) (n:Int):Bool:=h.any fun e=>decide (n=e)
def mN (hashes:List Int) (c:Ab):Bool:=!aGz hashes c.Hash.Alg
def vT (l:List Ab) (name:ByteArray):Bool:=match l[0]? with
 | some c=>c.Names.any fun e=>decide (name=e)
 | none=>false
def wN (l:List Ab) (anchors:List Int):Bool:=match l[l.length - 1]? with
 | some c=>aGz anchors c.Seal.Key
 | none=>false
def aEn (l:List Ab) (anchors hashes:List Int) (day:Int) (name:ByteArray):Int:=
 bif decide (l.length=0) then 4 else bif decide (8 < l.length) then 3 else
 bif l.any (fun c=>!Is c) then 9 else bif !vT l name then 14 else bif l.any (aAf day) then 13 else bif l.any (mN hashes) then 7 else
 bif R4 11 l then 11 else bif R4 15 l then 15 else bif R4 10 l then 10 else bif !wN l anchors then 12 else 0
theorem rN (l:List Ab) (anchors hashes:List Int) (day:Int) (name:ByteArray) (ha:Lo anchors) (hh:Lo hashes) (hf:∀ c∈l,T1 c):Db l anchors hashes day name=some (aEn l anchors hashes day name):=by
 unfold Db aEn
 by_cases h0:l.length=0
 ·rw [aBd h0,aBd (by omega)]; rfl
 rw [aBc h0,aBc (by omega),aE8,aE8]
 by_cases h8:8 < l.length
 ·rw [aBd h8,aBd (by omega)]; rfl
 rw [aBc h8,aBc (by omega),aE8,aE8]
 have hl:Lo l:=by unfold Lo; omega
 rw [Qr l _ (fun c=>!Is c) hl (fun x hx=>by
  show (Gz x).bind _=_
  unfold Gz
  rw [mW x (hf x hx)]
  cases Is x <;> rfl),aAy]
 cases l.any (fun c=>!Is c)
 case true=>rfl
 rw [aE8,aE8]
 obtain⟨c,hc⟩:∃ c,l[0]?=some c:=⟨_,aBb (by omega)⟩
 have hN:=(hf c (E7 hc)).names
 rw [vU,hc,aAy,Z1 _ _ (by unfold Lo; omega),aAy]
 have hn:vT l name=c.Names.any fun e=>decide (name=e):=by unfold vT; rw [hc]
 rw [hn]
 cases c.Names.any (fun e=>decide (name=e))
 case false=>rfl
 rw [aI7,aE8,aE8]
 obtain⟨z,hz⟩:∃ z,l[l.length - 1]?=some z:=⟨_,aBb (by omega)⟩
 have h3:C7 (fun q'=>Db.l3 l anchors q') 0=some (bif R4 11 l then 11 else bif R4 15 l then 15 else bif R4 10 l then 10 else bif !wN l anchors then 12 else 0):=by
  have s0:Db.l3 l anchors 0=some (bif R4 11 l then .done 11 else .next 1):=by
   unfold Db.l3
   rw [show decide ((0:Int) < 3)=true from rfl,aHj,show Bn ([11,15,10]:List Int) 0=some 11 from rfl,aAy,Xt l 11 hl hf]
   cases R4 11 l <;> rfl
  have s1:Db.l3 l anchors 1=some (bif R4 15 l then .done 15 else .next 2):=by
   unfold Db.l3
   rw [show decide ((1:Int) < 3)=true from rfl,aHj,show Bn ([11,15,10]:List Int) 1=some 15 from rfl,aAy,Xt l 15 hl hf]
   cases R4 15 l <;> rfl
  have s2:Db.l3 l anchors 2=some (bif R4 10 l then .done 10 else .next 3):=by
   unfold Db.l3
   rw [show decide ((2:Int) < 3)=true from rfl,aHj,show Bn ([11,15,10]:List Int) 2=some 10 from rfl,aAy,Xt l 10 hl hf]
   cases R4 10 l <;> rfl
  have s3:Db.l3 l anchors 3=some (.done (bif !wN l anchors then 12 else 0)):=by
   show up ((Bn l (W ((l.length:Int) - 1))).bind _)=_
   rw [Hh (by omega),show (l.length:Int) - 1=((l.length - 1:Nat):Int) by omega,F4,hz,aAy,Wb _ _ ha,aAy]
   unfold wN aGz
   rw [hz]
   dsimp only
   cases anchors.any fun e=>decide (z.Seal.Key=e) <;> rfl
  rw [G8,s0]
  cases R4 11 l
  case true=>rfl
  show C7 (fun q'=>Db.l3 l anchors q') 1=_
  rw [G8,s1]
  cases R4 15 l
  case true=>rfl
  show C7 (fun q'=>Db.l3 l anchors q') 2=_
  rw [G8,s2]
  cases R4 10 l
  case true=>rfl
  show C7 (fun q'=>Db.l3 l anchors q') 3=_
  rw [G8,s3]; rfl
 have t0:Db.l1 l anchors hashes day 0=some (bif l.any (aAf day) then .done 13 else .next 1):=by
  unfold Db.l1
  rw [show decide ((0:Int) < 2)=true from rfl,aHj,show Bn ([13,7]:List Int) 0=some 13 from rfl,aAy,Qr l _ (aAf day) hl (fun x hx=>by
   show (Mt x hashes day 13).bind _=_
   unfold Mt aAf
   rw [aBd rfl,aHj]
   cases decide (day < x.From) <;> rfl),aAy]
  cases l.any (aAf day) <;> rfl
 have t1:Db.l1 l anchors hashes day 1=some (bif l.any (mN hashes) then .done 7 else .next 2):=by
  unfold Db.l1
  rw [show decide ((1:Int) < 2)=true from rfl,aHj,show Bn ([13,7]:List Int) 1=some 7 from rfl,aAy,Qr l _ (mN hashes) hl (fun x hx=>by
   show (Mt x hashes day 7).bind _=_
   unfold Mt mN aGz
   rw [aBc (by omega),aE8,Wb _ _ hh]; rfl),aAy]
  cases l.any (mN hashes) <;> rfl
 rw [G8,t0]
 cases l.any (aAf day)
 case true=>rfl
 show C7 (fun q'=>Db.l1 l anchors hashes day q') 1=_
 rw [G8,t1]
 cases l.any (mN hashes)
 case true=>rfl
 show C7 (fun q'=>Db.l1 l anchors hashes day q') 2=_
 rw [G8,show Db.l1 l anchors hashes day 2=up (C7 (fun q'=>Db.l3 l anchors q') 0) from rfl,h3]; rfl
end
end Go.Proofs.YtboglmbblmakjaaGreatDoor
