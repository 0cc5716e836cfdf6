/- Plain texts, joined. No program is in sight here. -/
import Derived.Test.YtchpcpaacenodaaGreatK4
import Derived.Test.YtchpcpaacenodaaGreatD7
import Derived.Test.YtchpcpaacenodaaGreatL3
set_option linter.unusedVariables false
set_option linter.unusedSimpArgs false
namespace Go.Proofs.YtchpcpaacenodaaGreat
section
open Go
def T5 (s:ByteArray):Ah:=.mk 12 (Hg s) false []
def nU (b:Bool):Ah:=.mk 1 [bif b then 255 else 0] false []
def cW (l:List Ah):Ah:=.mk 48 [] true l
def qO (u:Am):Ah:=cW [Tz u.Alg,Tz u.Bits]
def kD (c:Af):List Ah:=[Tz c.Serial,T5 c.Issuer,T5 c.Subject,qO c.Key,Tz c.KeyId,qO c.Hash,Tz c.From,Tz c.To,nU c.Authority,Tz c.Path,cW (c.Names.map T5)]
def jR (c:Af):Ah:=cW (kD c)
theorem Ph {s:ByteArray} (h:Ev s=true):s.size<=32:=by
 unfold Ev at h
 simp only [aGc,aId] at h
 omega
theorem jX {l:List ByteArray} (h:Lu l=true):∀ s∈l,s.size<=32:=by
 intro s hs
 obtain⟨i,hi,e⟩:=aI1 hs
 unfold Lu at h
 have h1:(List.range l.length).any (gP l)=false:=by simpa using h
 rw [aJs] at h1
 have h2:=h1 i (aI6.2 hi)
 unfold gP at h2
 rw [Kk (aBo hi),e] at h2
 refine Ph ?_
 cases hn:Ev s with
 | true=>rfl
 | false=>rw [hn] at h2; simp at h2
theorem P6 {c:Af} (h:Fx c=true):c.Issuer.size<=32/\c.Subject.size<=32/\c.Names.length<=8/\∀ s∈c.Names,s.size<=32:=by
 unfold Fx V8 at h
 simp only [aIz,List.any_nil,id,aIm,aJv] at h
 obtain⟨-,-,h3,h4,h5,h6,-⟩:=h
 refine⟨Ph (by simpa using h3),Ph (by simpa using h4),?_,jX (by simpa using h5)⟩
 have:=aD7 h6
 omega
theorem nP (s:ByteArray):(T5 s).sz=s.size + 1:=by
 unfold T5
 rw [Sq]
 show (Hg s).length + V1 [] + 1=_
 rw [Se,V1]
theorem aF:∀ l:List ByteArray,(∀ s∈l,s.size<=32)->V1 (l.map T5)<=33 * l.length
 | [],_=>aGz _
 | s :: l,h=>by
  have h1:=aF l fun x hx=>h x (aGv _ hx)
  have h2:=h s (aHr ..)
  rw [aIi,V1,nP,aH2]; omega
theorem lM (u:Am):(qO u).sz<=19:=by
 unfold qO cW
 have h1:=R0 u.Alg
 have h2:=R0 u.Bits
 rw [Sq]
 show 0 + V1 [Tz u.Alg,Tz u.Bits] + 1<=19
 simp only [V1]; omega
theorem fM (l:List Ah):(cW l).sz=V1 l + 1:=by
 unfold cW
 rw [Sq]
 show 0 + V1 l + 1=_
 omega
theorem mU {c:Af} (h:Fx c=true):V1 (kD c)<=1000:=by
 obtain⟨h1,h2,h3,h4⟩:=P6 h
 have t:=aF c.Names h4
 have a1:=R0 c.Serial
 have a2:=lM c.Key
 have a3:=R0 c.KeyId
 have a4:=lM c.Hash
 have a5:=R0 c.From
 have a6:=R0 c.To
 have a7:=R0 c.Path
 have a8:(nU c.Authority).sz=2:=by unfold nU; rw [Sq]; simp [V1]
 unfold kD
 simp only [V1,nP,fM,a8]
 omega
theorem mQ (u:Am) (h1:-9223372036854775808<=u.Alg/\u.Alg<=9223372036854775807) (h2:-9223372036854775808<=u.Bits/\u.Bits<=9223372036854775807):Lk u=some (qO u):=by
 have:=lM u
 unfold qO at this
 rw [fM] at this
 unfold Lk
 rw [Ms _ h1.1 h1.2,aAc,Ms _ h2.1 h2.2,aAc,Vy _ (by omega)]; rfl
theorem lB (b:Bool):N4 b=some (nU b):=by cases b <;> rfl
theorem sR (c:Af) (hf:P7 c) (h:Fx c=true):E9 c=some (jR c):=by
 obtain⟨h1,h2,h3,h4⟩:=P6 h
 have t:=aF c.Names h4
 have hb:=mU h
 have hi:=hf.ints
 simp only [aFt,aGi,aIe,forall_eq_or_imp,forall_eq] at hi
 obtain⟨i1,i2,i3,i4,i5,i6,i7,i8,i9,-⟩:=hi
 unfold E9
 refine Q5 (body:=fun q'=>E9.l1 c q'.1 q'.2) c.Names.length (fun i=>((i:Int),(c.Names.take i).map T5)) (jR c) ?_ ?_
 ·intro i hi
  obtain⟨s,hx⟩:∃ s,c.Names[i]?=some s:=⟨_,aBo hi⟩
  show E9.l1 c (i:Int) ((c.Names.take i).map T5)=_
  unfold E9.l1
  rw [G7 hx,show Jv s=some (T5 s) from rfl,aAc,Fr (by simp; omega),aAc,Iq (by omega),I9 hx,aIt]
  rfl
 ·show E9.l1 c (c.Names.length:Int) ((c.Names.take c.Names.length).map T5)=_
  unfold E9.l1
  have hT:∀ s,Jv s=some (T5 s):=fun _=>rfl
  rw [Fs,aIc,Ms _ i1.1 i1.2,Ms _ i4.1 i4.2,Ms _ i7.1 i7.2,Ms _ i8.1 i8.2,Ms _ i9.1 i9.2,mQ _ i2 i3,mQ _ i5 i6]
  simp only [hT,lB,aAc]
  rw [Vy _ (by omega)]
  simp only [aAc]
  show up ((I7 (kD c)).bind fun y=>some y)=_
  rw [Vy _ (show V1 (kD c) < 1073741824 by omega)]
  rfl
def O9 (c:Af):List UInt8×Int:=bif Fx c then rU (jR c) else ([],9)
theorem tV {c:Af} (h:Fx c=true):(jR c).sz < 67108864:=by
 have:=mU h
 unfold jR
 rw [fM]; omega
theorem qN (c:Af) (hf:P7 c):Ka c=some (O9 c):=by
 unfold Ka O9
 rw [dT c hf,aAc]
 cases h:Fx c with
 | false=>rfl
 | true=>
  show (E9 c).bind _=_
  rw [sR c hf h,aAc,gN _ (tV h)]; rfl
end
section
open Go
def cN (b:List UInt8):Int:=W (b.foldl (fun s e=>IntKind.wrap .u32 ((Rq .u32 s (IntKind.wrap .u32 (e.toNat:Int))) * 16777619)) 2166136261)
theorem yX (b:List UInt8) (h:Lo b):Fz b=some (cN b):=by
 unfold Fz
 refine oY (body:=fun q'=>Fz.l1 b q'.1 q'.2) b _ 2166136261 W h (fun i x s hx=>?_) (fun s=>?_)
 ·show Fz.l1 b s (i:Int)=_
  unfold Fz.l1; rw [G7 hx]
 ·show Fz.l1 b s (b.length:Int)=_
  unfold Fz.l1; rw [Fs]; rfl
theorem sO (v:Ah):(rU v).1.length<=4096:=by
 unfold rU
 split
 ·split
  ·exact aHc _
  ·split
   ·exact aHc _
   ·simp; omega
 ·exact aHc _
theorem lJ (c:Af):(O9 c).1.length<=4096:=by
 unfold O9
 cases Fx c with
 | false=>exact aHc _
 | true=>exact sO _
theorem qB (c:Af):Lo (O9 c).1:=by
 have:=lJ c
 unfold Lo; omega
end
end Go.Proofs.YtchpcpaacenodaaGreat
