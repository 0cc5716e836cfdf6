/- Plain texts, joined. No program is in sight here. -/
import Derived.Test.YtobamahlipiakaaGreatK4
import Derived.Test.YtobamahlipiakaaGreatD7
import Derived.Test.YtobamahlipiakaaGreatL3
set_option linter.unusedVariables false
set_option linter.unusedSimpArgs false
namespace Go.Proofs.YtobamahlipiakaaGreat
section
open Go
def Nf (s:ByteArray):Ab:=.mk 12 (Oz s) false []
def sK (b:Bool):Ab:=.mk 1 [bif b then 255 else 0] false []
def R6 (l:List Ab):Ab:=.mk 48 [] true l
def sR (u:Ao):Ab:=R6 [Po u.Alg,Po u.Bits]
def iM (c:Ae):List Ab:=[Po c.Serial,Nf c.Issuer,Nf c.Subject,sR c.Key,Po c.KeyId,sR c.Hash,Po c.From,Po c.To,sK c.Authority,Po c.Path,R6 (c.Names.map Nf)]
def iZ (c:Ae):Ab:=R6 (iM c)
theorem T6 {s:ByteArray} (h:Ha s=true):s.size<=32:=by
 unfold Ha at h
 simp only [aF1,aJc] at h
 omega
theorem rU {l:List ByteArray} (h:Oi l=true):∀ s∈l,s.size<=32:=by
 intro s hs
 obtain⟨i,hi,e⟩:=aUb hs
 unfold Oi at h
 have h1:(List.range l.length).any (pE l)=false:=by simpa using h
 rw [aR8] at h1
 have h2:=h1 i (aSn.2 hi)
 unfold pE at h2
 rw [Ph (aCv hi),e] at h2
 refine T6 ?_
 cases hn:Ha s with
 | true=>rfl
 | false=>rw [hn] at h2; simp at h2
theorem Vv {c:Ae} (h:F6 c=true):c.Issuer.size<=32/\c.Subject.size<=32/\c.Names.length<=8/\∀ s∈c.Names,s.size<=32:=by
 unfold F6 Wr at h
 simp only [aS9,bBh,id,aR1,bAe] at h
 obtain⟨-,-,h3,h4,h5,h6,-⟩:=h
 refine⟨T6 (by simpa using h3),T6 (by simpa using h4),?_,rU (by simpa using h5)⟩
 have:=aJb h6
 omega
theorem pB (s:ByteArray):(Nf s).sz=s.size + 1:=by
 unfold Nf
 rw [P7]
 show (Oz s).length + Th [] + 1=_
 rw [T3,Th]
theorem Yf:∀ l:List ByteArray,(∀ s∈l,s.size<=32)->Th (l.map Nf)<=33 * l.length
 | [],_=>aJf _
 | s :: l,h=>by
  have h1:=Yf l fun x hx=>h x (aHu _ hx)
  have h2:=h s (aI4 ..)
  rw [aWq,Th,pB,aJw]; omega
theorem nA (u:Ao):(sR u).sz<=19:=by
 unfold sR R6
 have h1:=Ni u.Alg
 have h2:=Ni u.Bits
 rw [P7]
 show 0 + Th [Po u.Alg,Po u.Bits] + 1<=19
 simp only [Th]; omega
theorem T8 (l:List Ab):(R6 l).sz=Th l + 1:=by
 unfold R6
 rw [P7]
 show 0 + Th l + 1=_
 omega
theorem nZ {c:Ae} (h:F6 c=true):Th (iM c)<=1000:=by
 obtain⟨h1,h2,h3,h4⟩:=Vv h
 have t:=Yf c.Names h4
 have a1:=Ni c.Serial
 have a2:=nA c.Key
 have a3:=Ni c.KeyId
 have a4:=nA c.Hash
 have a5:=Ni c.From
 have a6:=Ni c.To
 have a7:=Ni c.Path
 have a8:(sK c.Authority).sz=2:=by unfold sK; rw [P7]; simp [Th]
 unfold iM
 simp only [Th,pB,T8,a8]
 omega
theorem aIa (u:Ao):Ic u=some (sR u):=by
 have:=nA u
 unfold sR at this
 rw [T8] at this
 unfold Ic
 rw [Rs,aAg,Rs,aAg,oM _ (by omega)]; rfl
theorem yG (u:Ao) (h1:-9223372036854775808<=u.Alg/\u.Alg<=9223372036854775807) (h2:-9223372036854775808<=u.Bits/\u.Bits<=9223372036854775807):Ns u=some (sR u):=by
 have:=nA u
 unfold sR at this
 rw [T8] at this
 unfold Ns
 rw [Jk _ h1.1 h1.2,aAg,Jk _ h2.1 h2.2,aAg,Tr _ (by omega)]; rfl
theorem aBm (b:Bool):Ua b=some (sK b):=by cases b <;> rfl
theorem uB (b:Bool):Qa b=some (sK b):=by cases b <;> rfl
theorem aCl (c:Ae) (h:F6 c=true):Em c=some (iZ c):=by
 obtain⟨h1,h2,h3,h4⟩:=Vv h
 have t:=Yf c.Names h4
 have hb:=nZ h
 unfold Em
 refine Gs (body:=fun q'=>Em.l1 c q'.1 q'.2) c.Names.length (fun i=>((i:Int),(c.Names.take i).map Nf)) (iZ c) ?_ ?_
 ·intro i hi
  obtain⟨s,hx⟩:∃ s,c.Names[i]?=some s:=⟨_,aCv hi⟩
  show Em.l1 c (i:Int) ((c.Names.take i).map Nf)=_
  unfold Em.l1
  rw [Dz hx,show Lh s=some (Nf s) from rfl,aAg,D1 (by simp; omega),aAg,Fo (by omega),I9 hx,aXg]
  rfl
 ·show Em.l1 c (c.Names.length:Int) ((c.Names.take c.Names.length).map Nf)=_
  unfold Em.l1
  have hT:∀ s,Lh s=some (Nf s):=fun _=>rfl
  rw [Cy,aR2]
  simp only [Rs,hT,aIa,aBm,aAg]
  rw [aCz _ (by omega)]
  simp only [aAg]
  show up ((Nd (iM c)).bind fun y=>some y)=_
  rw [oM _ (show Th (iM c) < 1073741824 by omega)]
  rfl
theorem aBg (c:Ae) (hf:Nl c) (h:F6 c=true):Gk c=some (iZ c):=by
 obtain⟨h1,h2,h3,h4⟩:=Vv h
 have t:=Yf c.Names h4
 have hb:=nZ h
 have hi:=hf.ints
 simp only [aF2,aF6,aQe,forall_eq_or_imp,forall_eq] at hi
 obtain⟨i1,i2,i3,i4,i5,i6,i7,i8,i9,-⟩:=hi
 unfold Gk
 refine Gs (body:=fun q'=>Gk.l1 c q'.1 q'.2) c.Names.length (fun i=>((i:Int),(c.Names.take i).map Nf)) (iZ c) ?_ ?_
 ·intro i hi
  obtain⟨s,hx⟩:∃ s,c.Names[i]?=some s:=⟨_,aCv hi⟩
  show Gk.l1 c (i:Int) ((c.Names.take i).map Nf)=_
  unfold Gk.l1
  rw [Dz hx,show Ir s=some (Nf s) from rfl,aAg,D1 (by simp; omega),aAg,Fo (by omega),I9 hx,aXg]
  rfl
 ·show Gk.l1 c (c.Names.length:Int) ((c.Names.take c.Names.length).map Nf)=_
  unfold Gk.l1
  have hT:∀ s,Ir s=some (Nf s):=fun _=>rfl
  rw [Cy,aR2,Jk _ i1.1 i1.2,Jk _ i4.1 i4.2,Jk _ i7.1 i7.2,Jk _ i8.1 i8.2,Jk _ i9.1 i9.2,yG _ i2 i3,yG _ i5 i6]
  simp only [hT,uB,aAg]
  rw [Tr _ (by omega)]
  simp only [aAg]
  show up ((H2 (iM c)).bind fun y=>some y)=_
  rw [Tr _ (show Th (iM c) < 1073741824 by omega)]
  rfl
def L1 (c:Ae):List UInt8×Int:=bif F6 c then qG (iZ c) else ([],9)
theorem tI {c:Ae} (h:F6 c=true):(iZ c).sz < 67108864:=by
 have:=nZ h
 unfold iZ
 rw [T8]; omega
theorem zV (c:Ae) (hf:Nl c):In c=some (L1 c):=by
 unfold In L1
 rw [kY c hf,aAg]
 cases h:F6 c with
 | false=>rfl
 | true=>rw [aHl,aDb,aCl c h,aAg,Xl _ (tI h)]; rfl
theorem lA (c:Ae) (hf:Nl c):Jz c=some (L1 c):=by
 unfold Jz L1
 rw [Z3 c hf,aAg]
 cases h:F6 c with
 | false=>rfl
 | true=>
  show (Gk c).bind _=_
  rw [aBg c hf h,aAg,Zo _ (tI h)]; rfl
end
section
open Go
def Ih (b:List UInt8):Int:=W (b.foldl (fun s e=>IntKind.wrap .u32 ((Sr .u32 s (IntKind.wrap .u32 (e.toNat:Int))) * 16777619)) 2166136261)
theorem xI (b:List UInt8) (h:Lo b):D7 b=some (Ih b):=by
 unfold D7
 refine mQ (body:=fun q'=>D7.l1 b q'.1 q'.2) b _ 2166136261 W h (fun i x s hx=>?_) (fun s=>?_)
 ·show D7.l1 b s (i:Int)=_
  unfold D7.l1; rw [Dz hx]
 ·show D7.l1 b s (b.length:Int)=_
  unfold D7.l1; rw [Cy]; rfl
theorem dM (b:List UInt8) (h:Lo b):F7 b=some (Ih b):=by
 unfold F7
 refine mQ (body:=fun q'=>F7.l1 b q'.1 q'.2) b _ 2166136261 W h (fun i x s hx=>?_) (fun s=>?_)
 ·show F7.l1 b s (i:Int)=_
  unfold F7.l1; rw [Dz hx]
 ·show F7.l1 b s (b.length:Int)=_
  unfold F7.l1; rw [Cy]; rfl
theorem aEc (v:Ab):(qG v).1.length<=4096:=by
 unfold qG
 split
 ·split
  ·exact aOm _
  ·split
   ·exact aOm _
   ·simp; omega
 ·exact aOm _
theorem vU (c:Ae):(L1 c).1.length<=4096:=by
 unfold L1
 cases F6 c with
 | false=>exact aOm _
 | true=>exact aEc _
theorem aT (c:Ae):Lo (L1 c).1:=by
 have:=vU c
 unfold Lo; omega
def rL (c:Ae) (key:Int):Bool:=decide ((L1 c).2=0) && (decide (c.Seal.Key=key) && decide (c.Seal.Sum=Ih (L1 c).1))
theorem fE (c:Ae) (hf:Nl c) (key:Int):H7 c key=some (rL c key):=by
 unfold H7 rL
 rw [zV c hf,aAg,xI _ (aT c),aAg]
 generalize Ih (L1 c).1=x
 have e:decide (c.Seal=⟨key,x⟩)=(decide (c.Seal.Key=key) && decide (c.Seal.Sum=x)):=by
  cases c.Seal; simp
 rw [e]
 cases decide ((L1 c).2=0) <;> rfl
theorem iT (c:Ae) (hf:Nl c) (key:Int):Kv c key=some (rL c key):=by
 unfold Kv rL
 rw [lA c hf,aAg,dM _ (aT c),aAg]
 cases decide ((L1 c).2=0) <;> cases decide (c.Seal.Key=key) <;> rfl
theorem pV (s:List Int) (v:Int) (h:Lo s):Ch s v=some (Ja s fun e=>decide (v=e)):=by
 unfold Ch
 refine J7 s _ h (fun i x hx=>?_) ?_ <;> show Ch.l1 _ _ _=_ <;> unfold Ch.l1
 ·rw [Dz hx]; cases decide (v=x) <;> rfl
 ·rw [Cy]; rfl
theorem Uh (s:List Int) (v:Int) (h:Lo s):Cz s v=some (s.any fun e=>decide (v=e)):=by
 unfold Cz
 rw [pV s v h,aAg,Mj]
theorem cC (s:List ByteArray) (v:ByteArray) (h:Lo s):E4 s v=some (Ja s fun e=>decide (v=e)):=by
 unfold E4
 refine J7 s _ h (fun i x hx=>?_) ?_ <;> show E4.l1 _ _ _=_ <;> unfold E4.l1
 ·rw [Dz hx]; cases decide (v=x) <;> rfl
 ·rw [Cy]; rfl
theorem X6 (s:List ByteArray) (v:ByteArray) (h:Lo s):G1 s v=some (s.any fun e=>decide (v=e)):=by
 unfold G1
 rw [cC s v h,aAg,Mj]
theorem gZ (s:List Ae) (f:Ae->Option Bool) (p:Ae->Bool) (h:Lo s) (hf:∀ x∈s,f x=some (p x)):Bh s f=some (Ja s p):=by
 unfold Bh
 refine J7 s _ h (fun i x hx=>?_) ?_ <;> show Bh.l1 _ _ _=_ <;> unfold Bh.l1
 ·rw [Dz hx,hf x (Fr hx),aAg]; cases p x <;> rfl
 ·rw [Cy]; rfl
theorem Oa (s:List Ae) (f:Ae->Option Bool) (p:Ae->Bool) (h:Lo s) (hf:∀ x∈s,f x=some (p x)):C7 s f=some (s.any p):=by
 unfold C7
 rw [gZ s f p h hf,aAg,Mj]
theorem lZ {α:Type} [DecidableEq α] (a b:α):decide (a=b)=decide (b=a):=by
 by_cases h:a=b
 ·rw [aA4 h,aA4 h.symm]
 ·rw [aAw h,aAw fun e=>h e.symm]
theorem nL (s:List Int) (v:Int) (h:Lo s):Dv s v=some (s.any fun e=>decide (v=e)):=by
 unfold Dv
 refine (M7 s (fun e=>decide (v=e)) true false h (fun i x hx=>?_) ?_).trans ?_
 ·show Dv.l1 _ _ _=_; unfold Dv.l1; rw [Dz hx,lZ]; cases decide (v=x) <;> rfl
 ·show Dv.l1 _ _ _=_; unfold Dv.l1; rw [Cy]; rfl
 ·cases s.any fun e=>decide (v=e) <;> rfl
theorem aEd (s:List ByteArray) (v:ByteArray) (h:Lo s):G7 s v=some (s.any fun e=>decide (v=e)):=by
 unfold G7
 refine (M7 s (fun e=>decide (v=e)) true false h (fun i x hx=>?_) ?_).trans ?_
 ·show G7.l1 _ _ _=_; unfold G7.l1; rw [Dz hx,lZ]; cases decide (v=x) <;> rfl
 ·show G7.l1 _ _ _=_; unfold G7.l1; rw [Cy]; rfl
 ·cases s.any fun e=>decide (v=e) <;> rfl
def sY (l:List Ae) (i:Nat):Bool:=match l[i]? with
 | some c=>decide (i=0) || (c.Authority && decide ((i:Int) - 1<=c.Path))
 | none=>false
theorem gQ (l:List Ae) (i:Nat) (hi:i < 4611686018427387904):Hp l (i:Int)=some (sY l i):=by
 unfold Hp Hp.j1 sY
 rw [aAw (show ¬ (i:Int) < 0 by omega),aDb]
 by_cases h:l.length<=i
 ·rw [aA4 (by omega),aQg h]; rfl
 ·rw [aAw (by omega),aDb]
  obtain⟨c,hc⟩:∃ c,l[i]?=some c:=⟨_,aCv (by omega)⟩
  rw [Ef,hc,aAg]
  by_cases h0:i=0
  ·subst h0; rfl
  ·rw [aAw (by omega),aDb,Ej (by omega)]
   dsimp only
   rw [aAw h0]
   cases c.Authority <;> rfl
theorem aCc (l:List Ae) (i:Nat) (hi:i < 4611686018427387904):Ip l (i:Int)=some (sY l i):=gQ l i hi
def aH4 (l:List Ae) (i:Nat):Bool:=match l[i]?,l[i + 1]? with
 | some a,some b=>!decide (a.Issuer=b.Subject)
 | _,_=>false
def aLj (l:List Ae) (i:Nat):Int:=match l[i + 1]? with
 | some d=>d.KeyId
 | none=>match l[i]? with
  | some c=>c.Seal.Key
  | none=>0
def xP (l:List Ae) (i:Nat):Bool:=match l[i]? with
 | some c=>!rL c (aLj l i)
 | none=>false
def mX (e:Int) (l:List Ae) (i:Nat):Bool:=if e=11 then aH4 l i else if e=15 then !sY l i else xP l i
def Mm (e:Int) (l:List Ae):Bool:=(List.range l.length).any (mX e l)
theorem Vf (l:List Ae) (e:Int) (hl:Lo l) (hf:∀ c∈l,Nl c):Ec l e=some (Mm e l):=by
 unfold Ec Mm
 unfold Lo at hl
 have key:∀ (i:Nat) (b:Bool),Ec.j2 (i:Int) b=some (bif b then .done true else .next (W ((i:Int) + 1))):=by
  intro i b; cases b <;> rfl
 refine (V6 l.length (mX e l) true false hl (fun i hi=>?_) ?_).trans ?_
 ·obtain⟨c,hc⟩:∃ c,l[i]?=some c:=⟨_,aCv hi⟩
  show Ec.l1 l e (i:Int)=_
  unfold Ec.l1 mX Od
  rw [aA4 (by omega),aEa]
  simp only [key]
  rw [Fo (by omega),Ef,Ef,hc]
  have hn:decide (((i + 1:Nat):Int) < (l.length:Int))=decide (i + 1 < l.length):=by
   by_cases h:i + 1 < l.length
   ·rw [aA4 h,aA4 (by omega)]
   ·rw [aAw h,aAw (by omega)]
  rw [hn]
  by_cases h1:e=11
  ·rw [aA4 h1,if_pos h1,aEa]
   unfold aH4
   rw [hc]
   by_cases h2:i + 1 < l.length
   ·obtain⟨d,hd⟩:∃ d,l[i + 1]?=some d:=⟨_,aCv h2⟩
    rw [aA4 h2,hd]; rfl
   ·rw [aAw h2,aQg (by omega)]; rfl
  ·rw [aAw h1,if_neg h1,aDb]
   by_cases h3:e=15
   ·rw [aA4 h3,if_pos h3,aEa,gQ l i (by omega)]; rfl
   ·rw [aAw h3,if_neg h3,aDb]
    unfold xP aLj
    rw [hc]
    by_cases h2:i + 1 < l.length
    ·obtain⟨d,hd⟩:∃ d,l[i + 1]?=some d:=⟨_,aCv h2⟩
     rw [aA4 h2,hd]
     simp only [aAg,aEa]
     rw [fE c (hf c (Fr hc))]; rfl
    ·rw [aAw h2,aQg (by omega)]
     simp only [aAg,aDb]
     rw [fE c (hf c (Fr hc))]; rfl
 ·show Ec.l1 l e (l.length:Int)=_
  unfold Ec.l1
  rw [Cy]; rfl
 ·cases (List.range l.length).any (mX e l) <;> rfl
def jP (day:Int) (c:Ae):Bool:=decide (day < c.From) || decide (c.To<=day)
def aEj (h:List Int) (n:Int):Bool:=h.any fun e=>decide (n=e)
def Yq (hashes:List Int) (c:Ae):Bool:=!aEj hashes c.Hash.Alg
def Xr (l:List Ae) (name:ByteArray):Bool:=match l[0]? with
 | some c=>c.Names.any fun e=>decide (name=e)
 | none=>false
def bO (l:List Ae) (anchors:List Int):Bool:=match l[l.length - 1]? with
 | some c=>aEj anchors c.Seal.Key
 | none=>false
def Tm (l:List Ae) (anchors hashes:List Int) (day:Int) (name:ByteArray):Int:=
 bif decide (l.length=0) then 4 else bif decide (8 < l.length) then 3 else
 bif l.any (fun c=>!F6 c) then 9 else bif !Xr l name then 14 else bif l.any (jP day) then 13 else bif l.any (Yq hashes) then 7 else
 bif Mm 11 l then 11 else bif Mm 15 l then 15 else bif Mm 10 l then 10 else bif !bO l anchors then 12 else 0
theorem tM (l:List Ae) (anchors hashes:List Int) (day:Int) (name:ByteArray) (ha:Lo anchors) (hh:Lo hashes) (hf:∀ c∈l,Nl c):Cn l anchors hashes day name=some (Tm l anchors hashes day name):=by
 unfold Cn Tm
 by_cases h0:l.length=0
 ·rw [aA4 h0,aA4 (by omega)]; rfl
 rw [aAw h0,aAw (by omega),aDb,aDb]
 by_cases h8:8 < l.length
 ·rw [aA4 h8,aA4 (by omega)]; rfl
 rw [aAw h8,aAw (by omega),aDb,aDb]
 have hl:Lo l:=by unfold Lo; omega
 rw [Oa l _ (fun c=>!F6 c) hl (fun x hx=>by
  show (Gh x).bind _=_
  unfold Gh
  rw [kY x (hf x hx)]
  cases F6 x <;> rfl),aAg]
 cases l.any (fun c=>!F6 c)
 case true=>rfl
 rw [aDb,aDb]
 obtain⟨c,hc⟩:∃ c,l[0]?=some c:=⟨_,aCv (by omega)⟩
 have hN:=(hf c (Fr hc)).names
 rw [aKo,hc,aAg,X6 _ _ (by unfold Lo; omega),aAg]
 have hn:Xr l name=c.Names.any fun e=>decide (name=e):=by unfold Xr; rw [hc]
 rw [hn]
 cases c.Names.any (fun e=>decide (name=e))
 case false=>rfl
 rw [aHl,aDb,aDb]
 obtain⟨z,hz⟩:∃ z,l[l.length - 1]?=some z:=⟨_,aCv (by omega)⟩
 have h3:Bz (fun q'=>Cn.l3 l anchors q') 0=some (bif Mm 11 l then 11 else bif Mm 15 l then 15 else bif Mm 10 l then 10 else bif !bO l anchors then 12 else 0):=by
  have s0:Cn.l3 l anchors 0=some (bif Mm 11 l then .done 11 else .next 1):=by
   unfold Cn.l3
   rw [show decide ((0:Int) < 3)=true from rfl,aEa,show Bm ([11,15,10]:List Int) 0=some 11 from rfl,aAg,Vf l 11 hl hf]
   cases Mm 11 l <;> rfl
  have s1:Cn.l3 l anchors 1=some (bif Mm 15 l then .done 15 else .next 2):=by
   unfold Cn.l3
   rw [show decide ((1:Int) < 3)=true from rfl,aEa,show Bm ([11,15,10]:List Int) 1=some 15 from rfl,aAg,Vf l 15 hl hf]
   cases Mm 15 l <;> rfl
  have s2:Cn.l3 l anchors 2=some (bif Mm 10 l then .done 10 else .next 3):=by
   unfold Cn.l3
   rw [show decide ((2:Int) < 3)=true from rfl,aEa,show Bm ([11,15,10]:List Int) 2=some 10 from rfl,aAg,Vf l 10 hl hf]
   cases Mm 10 l <;> rfl
  have s3:Cn.l3 l anchors 3=some (.done (bif !bO l anchors then 12 else 0)):=by
   show up ((Bm l (W ((l.length:Int) - 1))).bind _)=_
   rw [Ej (by omega),show (l.length:Int) - 1=((l.length - 1:Nat):Int) by omega,Ef,hz,aAg,Uh _ _ ha,aAg]
   unfold bO aEj
   rw [hz]
   dsimp only
   cases anchors.any fun e=>decide (z.Seal.Key=e) <;> rfl
  rw [Fj,s0]
  cases Mm 11 l
  case true=>rfl
  show Bz (fun q'=>Cn.l3 l anchors q') 1=_
  rw [Fj,s1]
  cases Mm 15 l
  case true=>rfl
  show Bz (fun q'=>Cn.l3 l anchors q') 2=_
  rw [Fj,s2]
  cases Mm 10 l
  case true=>rfl
  show Bz (fun q'=>Cn.l3 l anchors q') 3=_
  rw [Fj,s3]; rfl
 have t0:Cn.l1 l anchors hashes day 0=some (bif l.any (jP day) then .done 13 else .next 1):=by
  unfold Cn.l1
  rw [show decide ((0:Int) < 2)=true from rfl,aEa,show Bm ([13,7]:List Int) 0=some 13 from rfl,aAg,Oa l _ (jP day) hl (fun x hx=>by
   show (Lf x hashes day 13).bind _=_
   unfold Lf jP
   rw [aA4 rfl,aEa]
   cases decide (day < x.From) <;> rfl),aAg]
  cases l.any (jP day) <;> rfl
 have t1:Cn.l1 l anchors hashes day 1=some (bif l.any (Yq hashes) then .done 7 else .next 2):=by
  unfold Cn.l1
  rw [show decide ((1:Int) < 2)=true from rfl,aEa,show Bm ([13,7]:List Int) 1=some 7 from rfl,aAg,Oa l _ (Yq hashes) hl (fun x hx=>by
   show (Lf x hashes day 7).bind _=_
   unfold Lf Yq aEj
   rw [aAw (by omega),aDb,Uh _ _ hh]; rfl),aAg]
  cases l.any (Yq hashes) <;> rfl
 rw [Fj,t0]
 cases l.any (jP day)
 case true=>rfl
 show Bz (fun q'=>Cn.l1 l anchors hashes day q') 1=_
 rw [Fj,t1]
 cases l.any (Yq hashes)
 case true=>rfl
 show Bz (fun q'=>Cn.l1 l anchors hashes day q') 2=_
 rw [Fj,show Cn.l1 l anchors hashes day 2=up (Bz (fun q'=>Cn.l3 l anchors q') 0) from rfl,h3]; rfl
theorem aAe (n i:Nat) (hi:i < n) (hn:n < 4611686018427387904):decide ((i:Int)=W ((n:Int) - 1))=decide (i + 1=n):=by
 rw [Ej (by omega)]
 by_cases h:i + 1=n
 ·rw [aA4 h,aA4 (by omega)]
 ·rw [aAw h,aAw (by omega)]
def Ke (e:Int) (l:List Ae) (i:Nat) (anchors hashes:List Int) (day:Int) (name:ByteArray):Bool:=match l[i]? with
 | some c=>if e=9 then !F6 c else if e=14 then decide (i=0) && !(c.Names.any fun e=>decide (name=e)) else if e=13 then jP day c else if e=7 then Yq hashes c else
   if e=11 then aH4 l i else if e=15 then !sY l i else if e=10 then xP l i else decide (i + 1=l.length) && !aEj anchors c.Seal.Key
 | none=>false
theorem zD (e:Int) (l:List Ae) (i:Nat) (anchors hashes:List Int) (day:Int) (name:ByteArray) (hi:i < l.length) (hl:Lo l) (ha:Lo anchors) (hh:Lo hashes) (hf:∀ c∈l,Nl c):M5 e l (i:Int) anchors hashes day name=some (Ke e l i anchors hashes day name):=by
 obtain⟨c,hc⟩:∃ c,l[i]?=some c:=⟨_,aCv hi⟩
 have hfc:=hf c (Fr hc)
 have hN:=hfc.names
 unfold Lo at hl
 unfold M5 Ke
 rw [Ef,hc,aAg,aAe _ _ hi hl,Fo (by omega)]
 dsimp only
 by_cases h:e=9
 ·rw [aA4 h,if_pos h,aEa,Z3 c hfc]; cases F6 c <;> rfl
 rw [aAw h,if_neg h,aDb]; clear h
 by_cases h:e=14
 ·rw [aA4 h,if_pos h,aEa,aEd _ _ (by unfold Lo; omega)]
  by_cases h0:i=0
  ·subst h0; simp
  ·rw [aAw h0,aAw (by omega)]; rfl
 rw [aAw h,if_neg h,aDb]; clear h
 by_cases h:e=13
 ·rw [aA4 h,if_pos h,aEa]; unfold jP; cases decide (day < c.From) <;> rfl
 rw [aAw h,if_neg h,aDb]; clear h
 by_cases h:e=7
 ·rw [aA4 h,if_pos h,aEa,nL _ _ hh]; rfl
 rw [aAw h,if_neg h,aDb]; clear h
 have hk:∀ h2:i + 1 < l.length,∃ d,l[i + 1]?=some d:=fun h2=>⟨_,aCv h2⟩
 by_cases h:e=11
 ·rw [aA4 h,if_pos h,aEa]
  unfold aH4
  rw [hc]
  by_cases h2:i + 1=l.length
  ·rw [aA4 h2,aQg (by omega)]; rfl
  ·obtain⟨d,hd⟩:=hk (by omega)
   rw [aAw h2,aR0,aEa,Ef,hd]; rfl
 rw [aAw h,if_neg h,aDb]; clear h
 by_cases h:e=15
 ·rw [aA4 h,if_pos h,aEa,aCc _ _ (by omega)]; rfl
 rw [aAw h,if_neg h,aDb]; clear h
 by_cases h:e=10
 ·rw [aA4 h,if_pos h,aEa]
  unfold xP aLj
  rw [hc]
  by_cases h2:i + 1=l.length
  ·rw [aA4 h2,aQg (by omega),aEa,iT c hfc]; rfl
  ·obtain⟨d,hd⟩:=hk (by omega)
   rw [aAw h2,aDb,Ef,hd,aAg,iT c hfc]; rfl
 rw [aAw h,if_neg h,aDb,nL _ _ ha]
 cases decide (i + 1=l.length) <;> rfl
theorem zH (l:List Ae) (anchors hashes:List Int) (day:Int) (name:ByteArray) (hl:Lo l) (ha:Lo anchors) (hh:Lo hashes) (hf:∀ c∈l,Nl c) (k e:Int) (hk:decide (k < 8)=true) (he:Bm ([9,14,13,7,11,15,10,12]:List Int) k=some e) (hw:W (k + 1)=k + 1):Dg.l1 l anchors hashes day name k=some (bif (List.range l.length).any (fun i=>Ke e l i anchors hashes day name) then .done e else .next (k + 1)):=by
 unfold Dg.l1
 rw [show decide (k < (([9,14,13,7,11,15,10,12]:List Int).length:Int))=true from hk,aEa]
 refine V6 (R:=Lp Int Int) l.length (fun i=>Ke e l i anchors hashes day name) (.done e) (.next (k + 1)) hl (fun i hi=>?_) ?_
 ·show Dg.l2 l anchors hashes day name k (i:Int)=_
  unfold Dg.l2
  rw [aA4 (by omega),aEa,he,aAg,zD e l i anchors hashes day name hi hl ha hh hf,aAg]
  cases Ke e l i anchors hashes day name <;> rfl
 ·show Dg.l2 l anchors hashes day name k (l.length:Int)=_
  unfold Dg.l2
  rw [Cy,hw]; rfl
theorem bN (l:List Ae) (anchors hashes:List Int) (day:Int) (name:ByteArray) (ha:Lo anchors) (hh:Lo hashes) (hf:∀ c∈l,Nl c):Dg l anchors hashes day name=some (Tm l anchors hashes day name):=by
 unfold Dg Tm
 by_cases h0:l.length=0
 ·rw [aA4 h0,aA4 (by omega)]; rfl
 rw [aAw h0,aAw (by omega),aDb,aDb]
 by_cases h8:8 < l.length
 ·rw [aA4 h8,aA4 (by omega)]; rfl
 rw [aAw h8,aAw (by omega),aDb,aDb]
 have hl:Lo l:=by unfold Lo; omega
 have R:=zH l anchors hashes day name hl ha hh hf
 have rfl':∀ {a b:Int},a=b->(a:Int)=b:=fun h=>h
 have r0:=R 0 9 rfl rfl rfl
 have r1:=R 1 14 rfl rfl rfl
 have r2:=R 2 13 rfl rfl rfl
 have r3:=R 3 7 rfl rfl rfl
 have r4:=R 4 11 rfl rfl rfl
 have r5:=R 5 15 rfl rfl rfl
 have r6:=R 6 10 rfl rfl rfl
 have r7:=R 7 12 rfl rfl rfl
 have a0:(List.range l.length).any (fun i=>Ke 9 l i anchors hashes day name)=l.any (fun c=>!F6 c):=Ws l _ _ fun i x hx=>by unfold Ke; rw [hx]; rfl
 have a2:(List.range l.length).any (fun i=>Ke 13 l i anchors hashes day name)=l.any (jP day):=Ws l _ _ fun i x hx=>by unfold Ke; rw [hx]; rfl
 have a3:(List.range l.length).any (fun i=>Ke 7 l i anchors hashes day name)=l.any (Yq hashes):=Ws l _ _ fun i x hx=>by unfold Ke; rw [hx]; rfl
 have a1:(List.range l.length).any (fun i=>Ke 14 l i anchors hashes day name)=!Xr l name:=by
  refine (Lr (q:=fun i=>decide (i=0) && !Xr l name) fun i hi=>?_).trans (fY _ _ (by omega))
  obtain⟨c,hc⟩:∃ c,l[i]?=some c:=⟨_,aCv hi⟩
  unfold Ke Xr
  rw [hc]
  by_cases hz:i=0
  ·subst hz; rw [hc]; rfl
  ·rw [aAw hz]; simp [hz]
 have a7:(List.range l.length).any (fun i=>Ke 12 l i anchors hashes day name)=!bO l anchors:=by
  refine (Lr (q:=fun i=>decide (i + 1=l.length) && !bO l anchors) fun i hi=>?_).trans (gY _ _ (by omega))
  obtain⟨c,hc⟩:∃ c,l[i]?=some c:=⟨_,aCv hi⟩
  unfold Ke bO
  rw [hc]
  by_cases hz:i + 1=l.length
  ·rw [show l.length - 1=i by omega,hc]; rfl
  ·rw [aAw hz]; simp [hz]
 have a4:(List.range l.length).any (fun i=>Ke 11 l i anchors hashes day name)=Mm 11 l:=Lr fun i hi=>by
  obtain⟨c,hc⟩:∃ c,l[i]?=some c:=⟨_,aCv hi⟩
  unfold Ke; rw [hc]; rfl
 have a5:(List.range l.length).any (fun i=>Ke 15 l i anchors hashes day name)=Mm 15 l:=Lr fun i hi=>by
  obtain⟨c,hc⟩:∃ c,l[i]?=some c:=⟨_,aCv hi⟩
  unfold Ke; rw [hc]; rfl
 have a6:(List.range l.length).any (fun i=>Ke 10 l i anchors hashes day name)=Mm 10 l:=Lr fun i hi=>by
  obtain⟨c,hc⟩:∃ c,l[i]?=some c:=⟨_,aCv hi⟩
  unfold Ke; rw [hc]; rfl
 rw [a0] at r0
 rw [a1] at r1
 rw [a2] at r2
 rw [a3] at r3
 rw [a4] at r4
 rw [a5] at r5
 rw [a6] at r6
 rw [a7] at r7
 rw [Fj,r0]
 cases l.any (fun c=>!F6 c)
 case true=>rfl
 show Bz (fun q'=>Dg.l1 l anchors hashes day name q') 1=_
 rw [Fj,r1]
 cases Xr l name
 case false=>rfl
 show Bz (fun q'=>Dg.l1 l anchors hashes day name q') 2=_
 rw [Fj,r2]
 cases l.any (jP day)
 case true=>rfl
 show Bz (fun q'=>Dg.l1 l anchors hashes day name q') 3=_
 rw [Fj,r3]
 cases l.any (Yq hashes)
 case true=>rfl
 show Bz (fun q'=>Dg.l1 l anchors hashes day name q') 4=_
 rw [Fj,r4]
 cases Mm 11 l
 case true=>rfl
 show Bz (fun q'=>Dg.l1 l anchors hashes day name q') 5=_
 rw [Fj,r5]
 cases Mm 15 l
 case true=>rfl
 show Bz (fun q'=>Dg.l1 l anchors hashes day name q') 6=_
 rw [Fj,r6]
 cases Mm 10 l
 case true=>rfl
 show Bz (fun q'=>Dg.l1 l anchors hashes day name q') 7=_
 rw [Fj,r7]
 cases bO l anchors
 case false=>rfl
 show Bz (fun q'=>Dg.l1 l anchors hashes day name q') 8=_
 rw [Fj]; rfl
end
end Go.Proofs.YtobamahlipiakaaGreat
