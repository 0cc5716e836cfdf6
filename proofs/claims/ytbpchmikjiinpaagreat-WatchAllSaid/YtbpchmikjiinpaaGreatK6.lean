/- Plain texts, joined. No program is in sight here. -/
import Derived.Test.YtbpchmikjiinpaaGreatK4
import Derived.Test.YtbpchmikjiinpaaGreatD7
import Derived.Test.YtbpchmikjiinpaaGreatL3
set_option linter.unusedVariables false
set_option linter.unusedSimpArgs false
namespace Go.Proofs.YtbpchmikjiinpaaGreat
section
open Go
def Ug (s:ByteArray):Ae:=.mk 12 (Hq s) false []
def oU (b:Bool):Ae:=.mk 1 [bif b then 255 else 0] false []
def eZ (l:List Ae):Ae:=.mk 48 [] true l
def sE (u:Aq):Ae:=eZ [Ts u.Alg,Ts u.Bits]
def kL (c:Ah):List Ae:=[Ts c.Serial,Ug c.Issuer,Ug c.Subject,sE c.Key,Ts c.KeyId,sE c.Hash,Ts c.From,Ts c.To,oU c.Authority,Ts c.Path,eZ (c.Names.map Ug)]
def mK (c:Ah):Ae:=eZ (kL c)
theorem Nu {s:ByteArray} (h:Es s=true):s.size<=32:=by
 unfold Es at h
 simp only [aFx,aN6] at h
 omega
theorem kG {l:List ByteArray} (h:M8 l=true):∀ s∈l,s.size<=32:=by
 intro s hs
 obtain⟨i,hi,e⟩:=aP6 hs
 unfold M8 at h
 have h1:(List.range l.length).any (gW l)=false:=by simpa using h
 rw [aS6] at h1
 have h2:=h1 i (aSv.2 hi)
 unfold gW at h2
 rw [Xi (aBx hi),e] at h2
 refine Nu ?_
 cases hn:Es s with
 | true=>rfl
 | false=>rw [hn] at h2; simp at h2
theorem Zf {c:Ah} (h:Gu c=true):c.Issuer.size<=32/\c.Subject.size<=32/\c.Names.length<=8/\∀ s∈c.Names,s.size<=32:=by
 unfold Gu Wy at h
 simp only [aR2,aTf,id,aQ0,Bool.or_eq_false_iff] at h
 obtain⟨-,-,h3,h4,h5,h6,-⟩:=h
 refine⟨Nu (by simpa using h3),Nu (by simpa using h4),?_,kG (by simpa using h5)⟩
 have:=aCn h6
 omega
theorem oV (s:ByteArray):(Ug s).sz=s.size + 1:=by
 unfold Ug
 rw [Td]
 show (Hq s).length + Wg [] + 1=_
 rw [S2,Wg]
theorem dD:∀ l:List ByteArray,(∀ s∈l,s.size<=32)->Wg (l.map Ug)<=33 * l.length
 | [],_=>aHx _
 | s :: l,h=>by
  have h1:=dD l fun x hx=>h x (aHy _ hx)
  have h2:=h s (aKd ..)
  rw [aM9,Wg,oV,aLg]; omega
theorem nJ (u:Aq):(sE u).sz<=19:=by
 unfold sE eZ
 have h1:=Ss u.Alg
 have h2:=Ss u.Bits
 rw [Td]
 show 0 + Wg [Ts u.Alg,Ts u.Bits] + 1<=19
 simp only [Wg]; omega
theorem jB (l:List Ae):(eZ l).sz=Wg l + 1:=by
 unfold eZ
 rw [Td]
 show 0 + Wg l + 1=_
 omega
theorem qK {c:Ah} (h:Gu c=true):Wg (kL c)<=1000:=by
 obtain⟨h1,h2,h3,h4⟩:=Zf h
 have t:=dD c.Names h4
 have a1:=Ss c.Serial
 have a2:=nJ c.Key
 have a3:=Ss c.KeyId
 have a4:=nJ c.Hash
 have a5:=Ss c.From
 have a6:=Ss c.To
 have a7:=Ss c.Path
 have a8:(oU c.Authority).sz=2:=by unfold oU; rw [Td]; simp [Wg]
 unfold kL
 simp only [Wg,oV,jB,a8]
 omega
theorem pO (u:Aq) (h1:-9223372036854775808<=u.Alg/\u.Alg<=9223372036854775807) (h2:-9223372036854775808<=u.Bits/\u.Bits<=9223372036854775807):My u=some (sE u):=by
 have:=nJ u
 unfold sE at this
 rw [jB] at this
 unfold My
 rw [Nx _ h1.1 h1.2,aAc,Nx _ h2.1 h2.2,aAc,Vz _ (by omega)]; rfl
theorem oH (b:Bool):O2 b=some (oU b):=by cases b <;> rfl
theorem vM (c:Ah) (hf:Rc c) (h:Gu c=true):Fs c=some (mK c):=by
 obtain⟨h1,h2,h3,h4⟩:=Zf h
 have t:=dD c.Names h4
 have hb:=qK h
 have hi:=hf.ints
 simp only [aC6,aD5,aLd,forall_eq_or_imp,forall_eq] at hi
 obtain⟨i1,i2,i3,i4,i5,i6,i7,i8,i9,-⟩:=hi
 unfold Fs
 refine Je (body:=fun q'=>Fs.l1 c q'.1 q'.2) c.Names.length (fun i=>((i:Int),(c.Names.take i).map Ug)) (mK c) ?_ ?_
 ·intro i hi
  obtain⟨s,hx⟩:∃ s,c.Names[i]?=some s:=⟨_,aBx hi⟩
  show Fs.l1 c (i:Int) ((c.Names.take i).map Ug)=_
  unfold Fs.l1
  rw [Er hx,show Kp s=some (Ug s) from rfl,aAc,Dw (by simp; omega),aAc,Fm (by omega),Fl hx,aQj]
  rfl
 ·show Fs.l1 c (c.Names.length:Int) ((c.Names.take c.Names.length).map Ug)=_
  unfold Fs.l1
  have hT:∀ s,Kp s=some (Ug s):=fun _=>rfl
  rw [De,aLc,Nx _ i1.1 i1.2,Nx _ i4.1 i4.2,Nx _ i7.1 i7.2,Nx _ i8.1 i8.2,Nx _ i9.1 i9.2,pO _ i2 i3,pO _ i5 i6]
  simp only [hT,oH,aAc]
  rw [Vz _ (by omega)]
  simp only [aAc]
  show up ((Jk (kL c)).bind fun y=>some y)=_
  rw [Vz _ (show Wg (kL c) < 1073741824 by omega)]
  rfl
def N1 (c:Ah):List UInt8×Int:=bif Gu c then yG (mK c) else ([],9)
theorem wK {c:Ah} (h:Gu c=true):(mK c).sz < 67108864:=by
 have:=qK h
 unfold mK
 rw [jB]; omega
theorem sR (c:Ah) (hf:Rc c):K0 c=some (N1 c):=by
 unfold K0 N1
 rw [fG c hf,aAc]
 cases h:Gu c with
 | false=>rfl
 | true=>
  show (Fs c).bind _=_
  rw [vM c hf h,aAc,jJ _ (wK h)]; rfl
end
section
open Go
def cE (b:List UInt8):Int:=W (b.foldl (fun s e=>IntKind.wrap .u32 ((S0 .u32 s (IntKind.wrap .u32 (e.toNat:Int))) * 16777619)) 2166136261)
theorem aBr (b:List UInt8) (h:Lo b):Gh b=some (cE b):=by
 unfold Gh
 refine sB (body:=fun q'=>Gh.l1 b q'.1 q'.2) b _ 2166136261 W h (fun i x s hx=>?_) (fun s=>?_)
 ·show Gh.l1 b s (i:Int)=_
  unfold Gh.l1; rw [Er hx]
 ·show Gh.l1 b s (b.length:Int)=_
  unfold Gh.l1; rw [De]; rfl
theorem tL (v:Ae):(yG v).1.length<=4096:=by
 unfold yG
 split
 ·split
  ·exact aI3 _
  ·split
   ·exact aI3 _
   ·simp; omega
 ·exact aI3 _
theorem nR (c:Ah):(N1 c).1.length<=4096:=by
 unfold N1
 cases Gu c with
 | false=>exact aI3 _
 | true=>exact tL _
theorem qY (c:Ah):Lo (N1 c).1:=by
 have:=nR c
 unfold Lo; omega
end
end Go.Proofs.YtbpchmikjiinpaaGreat
