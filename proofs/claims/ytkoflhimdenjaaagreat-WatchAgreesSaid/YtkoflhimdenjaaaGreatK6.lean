/- Plain texts, joined. No program is in sight here. -/
import Derived.Test.YtkoflhimdenjaaaGreatK4
import Derived.Test.YtkoflhimdenjaaaGreatD7
import Derived.Test.YtkoflhimdenjaaaGreatL3
set_option linter.unusedVariables false
set_option linter.unusedSimpArgs false
namespace Go.Proofs.YtkoflhimdenjaaaGreat
section
open Go
def Tm (s:ByteArray):Ai:=.mk 12 (Iv s) false []
def nR (b:Bool):Ai:=.mk 1 [bif b then 255 else 0] false []
def cK (l:List Ai):Ai:=.mk 48 [] true l
def oR (u:Ar):Ai:=cK [Td u.Alg,Td u.Bits]
def jF (c:Ae):List Ai:=[Td c.Serial,Tm c.Issuer,Tm c.Subject,oR c.Key,Td c.KeyId,oR c.Hash,Td c.From,Td c.To,nR c.Authority,Td c.Path,cK (c.Names.map Tm)]
def hO (c:Ae):Ai:=cK (jF c)
theorem Od {s:ByteArray} (h:F8 s=true):s.size<=32:=by
 unfold F8 at h
 simp only [aEw,aJr] at h
 omega
theorem iP {l:List ByteArray} (h:Nh l=true):∀ s∈l,s.size<=32:=by
 intro s hs
 obtain⟨i,hi,e⟩:=aJs hs
 unfold Nh at h
 have h1:(List.range l.length).any (dT l)=false:=by simpa using h
 rw [aKr] at h1
 have h2:=h1 i (aKe.2 hi)
 unfold dT at h2
 rw [R4 (aA9 hi),e] at h2
 refine Od ?_
 cases hn:F8 s with
 | true=>rfl
 | false=>rw [hn] at h2; simp at h2
theorem X7 {c:Ae} (h:G2 c=true):c.Issuer.size<=32/\c.Subject.size<=32/\c.Names.length<=8/\∀ s∈c.Names,s.size<=32:=by
 unfold G2 Vk at h
 simp only [aJ7,aLi,id,aJ1,aLe] at h
 obtain⟨-,-,h3,h4,h5,h6,-⟩:=h
 refine⟨Od (by simpa using h3),Od (by simpa using h4),?_,iP (by simpa using h5)⟩
 have:=aDm h6
 omega
theorem mQ (s:ByteArray):(Tm s).sz=s.size + 1:=by
 unfold Tm
 rw [Sa]
 show (Iv s).length + Vh [] + 1=_
 rw [Ro,Vh]
theorem aU:∀ l:List ByteArray,(∀ s∈l,s.size<=32)->Vh (l.map Tm)<=33 * l.length
 | [],_=>aHl _
 | s :: l,h=>by
  have h1:=aU l fun x hx=>h x (aHk _ hx)
  have h2:=h s (aHt ..)
  rw [aJl,Vh,mQ,aJg]; omega
theorem kE (u:Ar):(oR u).sz<=19:=by
 unfold oR cK
 have h1:=Rs u.Alg
 have h2:=Rs u.Bits
 rw [Sa]
 show 0 + Vh [Td u.Alg,Td u.Bits] + 1<=19
 simp only [Vh]; omega
theorem fC (l:List Ai):(cK l).sz=Vh l + 1:=by
 unfold cK
 rw [Sa]
 show 0 + Vh l + 1=_
 omega
theorem mR {c:Ae} (h:G2 c=true):Vh (jF c)<=1000:=by
 obtain⟨h1,h2,h3,h4⟩:=X7 h
 have t:=aU c.Names h4
 have a1:=Rs c.Serial
 have a2:=kE c.Key
 have a3:=Rs c.KeyId
 have a4:=kE c.Hash
 have a5:=Rs c.From
 have a6:=Rs c.To
 have a7:=Rs c.Path
 have a8:(nR c.Authority).sz=2:=by unfold nR; rw [Sa]; simp [Vh]
 unfold jF
 simp only [Vh,mQ,fC,a8]
 omega
theorem nG (u:Ar) (h1:-9223372036854775808<=u.Alg/\u.Alg<=9223372036854775807) (h2:-9223372036854775808<=u.Bits/\u.Bits<=9223372036854775807):Ll u=some (oR u):=by
 have:=kE u
 unfold oR at this
 rw [fC] at this
 unfold Ll
 rw [Mm _ h1.1 h1.2,aAf,Mm _ h2.1 h2.2,aAf,Vb _ (by omega)]; rfl
theorem kH (b:Bool):Nt b=some (nR b):=by cases b <;> rfl
theorem sU (c:Ae) (hf:S3 c) (h:G2 c=true):E0 c=some (hO c):=by
 obtain⟨h1,h2,h3,h4⟩:=X7 h
 have t:=aU c.Names h4
 have hb:=mR h
 have hi:=hf.ints
 simp only [aDv,aFr,aJh,forall_eq_or_imp,forall_eq] at hi
 obtain⟨i1,i2,i3,i4,i5,i6,i7,i8,i9,-⟩:=hi
 unfold E0
 refine Q4 (body:=fun q'=>E0.l1 c q'.1 q'.2) c.Names.length (fun i=>((i:Int),(c.Names.take i).map Tm)) (hO c) ?_ ?_
 ·intro i hi
  obtain⟨s,hx⟩:∃ s,c.Names[i]?=some s:=⟨_,aA9 hi⟩
  show E0.l1 c (i:Int) ((c.Names.take i).map Tm)=_
  unfold E0.l1
  rw [Gt hx,show Jt s=some (Tm s) from rfl,aAf,Ek (by simp; omega),aAf,H6 (by omega),Fw hx,aJ3]
  rfl
 ·show E0.l1 c (c.Names.length:Int) ((c.Names.take c.Names.length).map Tm)=_
  unfold E0.l1
  have hT:∀ s,Jt s=some (Tm s):=fun _=>rfl
  rw [E4,aI7,Mm _ i1.1 i1.2,Mm _ i4.1 i4.2,Mm _ i7.1 i7.2,Mm _ i8.1 i8.2,Mm _ i9.1 i9.2,nG _ i2 i3,nG _ i5 i6]
  simp only [hT,kH,aAf]
  rw [Vb _ (by omega)]
  simp only [aAf]
  show up ((I3 (jF c)).bind fun y=>some y)=_
  rw [Vb _ (show Vh (jF c) < 1073741824 by omega)]
  rfl
def P7 (c:Ae):List UInt8×Int:=bif G2 c then tX (hO c) else ([],9)
theorem uV {c:Ae} (h:G2 c=true):(hO c).sz < 67108864:=by
 have:=mR h
 unfold hO
 rw [fC]; omega
theorem pJ (c:Ae) (hf:S3 c):J9 c=some (P7 c):=by
 unfold J9 P7
 rw [cO c hf,aAf]
 cases h:G2 c with
 | false=>rfl
 | true=>
  show (E0 c).bind _=_
  rw [sU c hf h,aAf,dW _ (uV h)]; rfl
end
section
open Go
def fK (b:List UInt8):Int:=W (b.foldl (fun s e=>IntKind.wrap .u32 ((Qy .u32 s (IntKind.wrap .u32 (e.toNat:Int))) * 16777619)) 2166136261)
theorem yV (b:List UInt8) (h:Lo b):Fq b=some (fK b):=by
 unfold Fq
 refine nW (body:=fun q'=>Fq.l1 b q'.1 q'.2) b _ 2166136261 W h (fun i x s hx=>?_) (fun s=>?_)
 ·show Fq.l1 b s (i:Int)=_
  unfold Fq.l1; rw [Gt hx]
 ·show Fq.l1 b s (b.length:Int)=_
  unfold Fq.l1; rw [E4]; rfl
theorem qN (v:Ai):(tX v).1.length<=4096:=by
 unfold tX
 split
 ·split
  ·exact aI3 _
  ·split
   ·exact aI3 _
   ·simp; omega
 ·exact aI3 _
theorem kO (c:Ae):(P7 c).1.length<=4096:=by
 unfold P7
 cases G2 c with
 | false=>exact aI3 _
 | true=>exact qN _
theorem pT (c:Ae):Lo (P7 c).1:=by
 have:=kO c
 unfold Lo; omega
end
end Go.Proofs.YtkoflhimdenjaaaGreat
