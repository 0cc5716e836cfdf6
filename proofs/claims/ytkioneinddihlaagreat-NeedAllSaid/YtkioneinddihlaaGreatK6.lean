/- Plain texts, joined. No program is in sight here. -/
import Derived.Test.YtkioneinddihlaaGreatK4
import Derived.Test.YtkioneinddihlaaGreatD7
import Derived.Test.YtkioneinddihlaaGreatL3
set_option linter.unusedVariables false
set_option linter.unusedSimpArgs false
namespace Go.Proofs.YtkioneinddihlaaGreat
section
open Go
def Rg (s:ByteArray):Ai:=.mk 12 (K0 s) false []
def lW (b:Bool):Ai:=.mk 1 [bif b then 255 else 0] false []
def bZ (l:List Ai):Ai:=.mk 48 [] true l
def oA (u:Av):Ai:=bZ [Rh u.Alg,Rh u.Bits]
def iB (c:Ah):List Ai:=[Rh c.Serial,Rg c.Issuer,Rg c.Subject,oA c.Key,Rh c.KeyId,oA c.Hash,Rh c.From,Rh c.To,lW c.Authority,Rh c.Path,bZ (c.Names.map Rg)]
def iJ (c:Ah):Ai:=bZ (iB c)
theorem L7 {s:ByteArray} (h:Fm s=true):s.size<=32:=by
 unfold Fm at h
 simp only [aEs,aKi] at h
 omega
theorem iW {l:List ByteArray} (h:Li l=true):∀ s∈l,s.size<=32:=by
 intro s hs
 obtain⟨i,hi,e⟩:=aOg hs
 unfold Li at h
 have h1:(List.range l.length).any (cW l)=false:=by simpa using h
 rw [aPw] at h1
 have h2:=h1 i (aPb.2 hi)
 unfold cW at h2
 rw [Ur (aAy hi),e] at h2
 refine L7 ?_
 cases hn:Fm s with
 | true=>rfl
 | false=>rw [hn] at h2; simp at h2
theorem W8 {c:Ah} (h:Ge c=true):c.Issuer.size<=32/\c.Subject.size<=32/\c.Names.length<=8/\∀ s∈c.Names,s.size<=32:=by
 unfold Ge Vf at h
 simp only [aOh,aP4,id,aNb,Bool.or_eq_false_iff] at h
 obtain⟨-,-,h3,h4,h5,h6,-⟩:=h
 refine⟨L7 (by simpa using h3),L7 (by simpa using h4),?_,iW (by simpa using h5)⟩
 have:=aDs h6
 omega
theorem lY (s:ByteArray):(Rg s).sz=s.size + 1:=by
 unfold Rg
 rw [Qt]
 show (K0 s).length + Tu [] + 1=_
 rw [Qi,Tu]
theorem Zr:∀ l:List ByteArray,(∀ s∈l,s.size<=32)->Tu (l.map Rg)<=33 * l.length
 | [],_=>aHy _
 | s :: l,h=>by
  have h1:=Zr l fun x hx=>h x (aH0 _ hx)
  have h2:=h s (aH6 ..)
  rw [aLx,Tu,lY,aIx]; omega
theorem kZ (u:Av):(oA u).sz<=19:=by
 unfold oA bZ
 have h1:=P9 u.Alg
 have h2:=P9 u.Bits
 rw [Qt]
 show 0 + Tu [Rh u.Alg,Rh u.Bits] + 1<=19
 simp only [Tu]; omega
theorem dD (l:List Ai):(bZ l).sz=Tu l + 1:=by
 unfold bZ
 rw [Qt]
 show 0 + Tu l + 1=_
 omega
theorem lV {c:Ah} (h:Ge c=true):Tu (iB c)<=1000:=by
 obtain⟨h1,h2,h3,h4⟩:=W8 h
 have t:=Zr c.Names h4
 have a1:=P9 c.Serial
 have a2:=kZ c.Key
 have a3:=P9 c.KeyId
 have a4:=kZ c.Hash
 have a5:=P9 c.From
 have a6:=P9 c.To
 have a7:=P9 c.Path
 have a8:(lW c.Authority).sz=2:=by unfold lW; rw [Qt]; simp [Tu]
 unfold iB
 simp only [Tu,lY,dD,a8]
 omega
theorem mP (u:Av) (h1:-9223372036854775808<=u.Alg/\u.Alg<=9223372036854775807) (h2:-9223372036854775808<=u.Bits/\u.Bits<=9223372036854775807):Lc u=some (oA u):=by
 have:=kZ u
 unfold oA at this
 rw [dD] at this
 unfold Lc
 rw [Me _ h1.1 h1.2,aAc,Me _ h2.1 h2.2,aAc,Tr _ (by omega)]; rfl
theorem kQ (b:Bool):M5 b=some (lW b):=by cases b <;> rfl
theorem uU (c:Ah) (hf:Px c) (h:Ge c=true):Ff c=some (iJ c):=by
 obtain⟨h1,h2,h3,h4⟩:=W8 h
 have t:=Zr c.Names h4
 have hb:=lV h
 have hi:=hf.ints
 simp only [aE7,aHp,aLl,forall_eq_or_imp,forall_eq] at hi
 obtain⟨i1,i2,i3,i4,i5,i6,i7,i8,i9,-⟩:=hi
 unfold Ff
 refine Pn (body:=fun q'=>Ff.l1 c q'.1 q'.2) c.Names.length (fun i=>((i:Int),(c.Names.take i).map Rg)) (iJ c) ?_ ?_
 ·intro i hi
  obtain⟨s,hx⟩:∃ s,c.Names[i]?=some s:=⟨_,aAy hi⟩
  show Ff.l1 c (i:Int) ((c.Names.take i).map Rg)=_
  unfold Ff.l1
  rw [H3 hx,show Jj s=some (Rg s) from rfl,aAc,Fv (by simp; omega),aAc,Ia (by omega),Hf hx,aOk]
  rfl
 ·show Ff.l1 c (c.Names.length:Int) ((c.Names.take c.Names.length).map Rg)=_
  unfold Ff.l1
  have hT:∀ s,Jj s=some (Rg s):=fun _=>rfl
  rw [Fz,aKf,Me _ i1.1 i1.2,Me _ i4.1 i4.2,Me _ i7.1 i7.2,Me _ i8.1 i8.2,Me _ i9.1 i9.2,mP _ i2 i3,mP _ i5 i6]
  simp only [hT,kQ,aAc]
  rw [Tr _ (by omega)]
  simp only [aAc]
  show up ((Ii (iB c)).bind fun y=>some y)=_
  rw [Tr _ (show Tu (iB c) < 1073741824 by omega)]
  rfl
def Mc (c:Ah):List UInt8×Int:=bif Ge c then uW (iJ c) else ([],9)
theorem qU {c:Ah} (h:Ge c=true):(iJ c).sz < 67108864:=by
 have:=lV h
 unfold iJ
 rw [dD]; omega
theorem oZ (c:Ah) (hf:Px c):Jo c=some (Mc c):=by
 unfold Jo Mc
 rw [cH c hf,aAc]
 cases h:Ge c with
 | false=>rfl
 | true=>
  show (Ff c).bind _=_
  rw [uU c hf h,aAc,cZ _ (qU h)]; rfl
end
section
open Go
def Zm (b:List UInt8):Int:=W (b.foldl (fun s e=>IntKind.wrap .u32 ((Qj .u32 s (IntKind.wrap .u32 (e.toNat:Int))) * 16777619)) 2166136261)
theorem zJ (b:List UInt8) (h:Lo b):F8 b=some (Zm b):=by
 unfold F8
 refine qA (body:=fun q'=>F8.l1 b q'.1 q'.2) b _ 2166136261 W h (fun i x s hx=>?_) (fun s=>?_)
 ·show F8.l1 b s (i:Int)=_
  unfold F8.l1; rw [H3 hx]
 ·show F8.l1 b s (b.length:Int)=_
  unfold F8.l1; rw [Fz]; rfl
theorem sT (v:Ai):(uW v).1.length<=4096:=by
 unfold uW
 split
 ·split
  ·exact aFf _
  ·split
   ·exact aFf _
   ·simp; omega
 ·exact aFf _
theorem kM (c:Ah):(Mc c).1.length<=4096:=by
 unfold Mc
 cases Ge c with
 | false=>exact aFf _
 | true=>exact sT _
theorem oK (c:Ah):Lo (Mc c).1:=by
 have:=kM c
 unfold Lo; omega
end
end Go.Proofs.YtkioneinddihlaaGreat
