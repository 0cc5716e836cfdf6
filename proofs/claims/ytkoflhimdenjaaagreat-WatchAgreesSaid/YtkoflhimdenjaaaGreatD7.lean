/- Plain texts, joined. No program is in sight here. -/
import Derived.Test.YtkoflhimdenjaaaGreatL3
import Derived.Test.YtkoflhimdenjaaaGreatC1
import Derived.Test.YtkoflhimdenjaaaGreatD1
set_option linter.unusedVariables false
set_option linter.unusedSimpArgs false
namespace Go.Proofs.YtkoflhimdenjaaaGreat
section
open Go
mutual
def Ai.sz:Ai->Nat
 | .mk _ b _ es=>b.length + Vh es + 1
def Vh:List Ai->Nat
 | []=>0
 | v :: vs=>v.sz + Vh vs
end
theorem Sa (v:Ai):v.sz=v.Bytes.length + Vh v.Elements + 1:=by cases v; rw [Ai.sz]
theorem dX:∀ {es:List Ai} {d:Ai},d∈es->d.sz<=Vh es
 | v :: vs,d,h=>by
  rw [Vh]
  rcases aDv.1 h with rfl | h
  ·omega
  ·have:=dX h; omega
theorem Wg:∀ es:List Ai,es.length<=Vh es
 | []=>aHl _
 | v :: vs=>by
  have:=Wg vs
  rw [Vh,aJg,Sa]; omega
theorem V4 {v d:Ai} (h:d∈v.Elements):d.sz < v.sz:=by
 have:=dX h
 rw [Sa v]; omega
theorem dU (l:List Ai) (h:Vh l < 1073741824):C0 l=some l:=
 T8 V3 id Vh (fun l=>Vh l < 1073741824) (fun rec l hl hr=>by
  show C0.F rec l=some l
  unfold C0.F
  have hn:=Wg l
  refine (Q4 l.length (fun i=>((i:Int),l.take i)) l ?_ ?_).trans ?_
  ·intro i hi
   obtain⟨e,he⟩:∃ e,l[i]?=some e:=⟨_,aA9 hi⟩
   have h1:=dX (Ff he)
   have h2:=Sa e
   show C0.l1 rec l (i:Int) (l.take i)=_
   unfold C0.l1
   rw [Gt he,Ek (by simp; omega)]
   simp only [aIz,aAf]
   rw [hr e.Elements (by omega) (by omega)]
   simp only [id,aAf]
   rw [Ek (by simp; omega),H6 (by omega),Fw he]
   cases e; rfl
  ·show C0.l1 rec l (l.length:Int) (l.take l.length)=_
   unfold C0.l1
   rw [E4,aI7]; rfl
  ·rfl) l h
theorem Vb (l:List Ai) (h:Vh l < 1073741824):I3 l=some (.mk 48 [] true l):=by unfold I3; rw [dU l h]; rfl
theorem lR {n:Int} (h1:1<=n) (h2:n<=255):∃ m:Fin 256,n=(m.val:Int):=⟨⟨n.toNat,by omega⟩,by simp; omega⟩
theorem oC:∀ m:Fin 256,(!decide ((m.val:Int).tmod 32=31))=((m.val:Int) % 32 != 31):=by decide +kernel
theorem oX:∀ m:Fin 256,((M2 (m.val:Int) 32).bind fun q=>(Wy q 2).bind fun r=>some (decide (r=1)))=some (mH (m.val:Int)):=by decide +kernel
theorem pI (n:Int):Nb n=some (kI n):=by
 unfold Nb kI
 by_cases h1:1<=n
 ·by_cases h2:n<=255
  ·obtain⟨m,rfl⟩:=lR h1 h2
   rw [<- oC m,aAv h1,aAv h2]; rfl
  ·simp [h1,h2]
 ·simp [h1]
theorem Rw {n:Int} (h:kI n=true):1<=n/\n<=255:=by
 unfold kI at h
 simp only [aEw,aJr] at h
 exact⟨h.1.1,h.1.2⟩
theorem Uc (v:Ai):v.formed=(kI v.Tag && (v.Nested == mH v.Tag) && !(v.Nested && decide (0 < v.Bytes.length)) && !(!v.Nested && decide (0 < v.Elements.length)) && Lk v.Elements):=by cases v; rw [Ai.formed]
theorem jQ (l:List Ai):(!l.any fun v=>!v.formed)=Lk l:=by
 rw [Ri]
 induction l with
 | nil=>rfl
 | cons v l ih=>rw [aJ7,List.all_cons,<- ih]; cases v.formed <;> simp
theorem eG (v:Ai) (h:v.sz < 1073741824):Bz v=some v.formed:=
 T8 Vm Ai.formed Ai.sz (fun v=>v.sz < 1073741824) (fun rec v hv hr=>by
  show Bz.F rec v=some v.formed
  have hn:=Wg v.Elements
  have h0:=Sa v
  have hj1:Bz.j1 rec v true=some false:=rfl
  have hj2:Bz.j1 rec v false=some (Lk v.Elements):=by
   unfold Bz.j1
   have hl:=Qr (body:=fun q'=>Bz.l2 rec v q') v.Elements (fun i=>(i:Int)) (fun v=>!v.formed) false true (fun i x hx=>by
     have h1:=V4 (Ff hx)
     have h2:=Jo hx
     unfold Bz.l2
     rw [Gt hx,hr x (by omega) h1,H6 (by omega)]
     cases x.formed <;> rfl) (by unfold Bz.l2; rw [E4]; rfl)
   rw [aDk]
   refine Eq.trans hl ?_
   rw [<- jQ]
   cases v.Elements.any fun v=>!v.formed <;> rfl
  unfold Bz.F
  rw [pI,hj1,hj2,Uc]
  cases ht:kI v.Tag
  ·rfl
  ·obtain⟨m,hm⟩:=lR (Rw ht).1 (Rw ht).2
   have hq:=oX m
   rw [hm]
   cases h1:M2 (m.val:Int) 32 with
   | none=>rw [h1] at hq; cases hq
   | some q=>
    rw [h1] at hq
    simp only [aAf] at hq
    cases h2:Wy q 2 with
    | none=>rw [h2] at hq; cases hq
    | some r=>
     rw [h2] at hq
     simp only [aAf,Option.some.injEq] at hq
     simp only [aAf,h2,hq]
     cases v.Nested <;> cases mH (m.val:Int) <;> by_cases hb:0 < v.Bytes.length <;> by_cases he:0 < v.Elements.length <;> simp [hb,he,hj1,hj2]) v h
theorem Sz:∀ es:List Ai,Gv es<=Vh es
 | []=>aHl _
 | v :: vs=>by
  obtain⟨t,b,n,es⟩:=v
  have h1:=Sz es
  have h2:=Sz vs
  rw [Gv,Vh,Ai.depth,Ai.sz]; omega
theorem sX (v:Ai):v.depth<=v.sz:=by
 obtain⟨t,b,n,es⟩:=v
 have:=Sz es
 rw [Ai.depth,Ai.sz]; omega
theorem tA (v:Ai):v.depth=Gv v.Elements + 1:=by cases v; rw [Ai.depth]
theorem gT (v:Ai) (h:v.sz < 1073741824):Db v=some (v.depth:Int):=
 T8 Xa (fun v=>(v.depth:Int)) Ai.sz (fun v=>v.sz < 1073741824) (fun rec v hv hr=>by
  show Db.F rec v=some (v.depth:Int)
  unfold Db.F
  have hn:=Wg v.Elements
  have h0:=Sa v
  have hd:=sX v
  have hq:=tA v
  refine (Q4 v.Elements.length (fun i=>((Gv (v.Elements.take i):Int),(i:Int))) (v.depth:Int) ?_ ?_).trans ?_
  ·intro i hi
   obtain⟨e,he⟩:∃ e,v.Elements[i]?=some e:=⟨_,aA9 hi⟩
   have h1:=V4 (Ff he)
   show Db.l1 rec v (Gv (v.Elements.take i):Int) (i:Int)=_
   unfold Db.l1
   rw [Gt he,hr e (by omega) h1,H6 (by omega),U7 he]
   simp only [aAf]
   congr 3
   omega
  ·show Db.l1 rec v (Gv (v.Elements.take v.Elements.length):Int) (v.Elements.length:Int)=_
   unfold Db.l1
   rw [E4,aI7,Ex (by omega),hq]; rfl
  ·rfl) v h
end
section
open Go
theorem dV (m:Nat):u8 (m:Int)=UInt8.ofNat m:=by
 apply UInt8.toNat_inj.1
 have:=hX (m:Int)
 rw [aK4]
 omega
theorem rE (n:Int) (k:Nat):u8 (n / 256 ^ k)=Eb n k:=rfl
theorem wS {k:IntKind} {x y:Int} (e:Nat) (hy:y=(e:Int)) (he:e<=k.bits):Uo k x y=some (x / 2 ^ e):=by
 subst hy
 unfold Uo
 rw [if_neg (by omega),aId,aKh he,aKs]
 exact Int.pow_nonneg (by omega)
theorem aFn {x:Int}:Uo .i64 x 8=some (x / 256):=wS (k:=.i64) 8 rfl (by decide)
theorem mL (n:Int) (k:Nat):(pP n k).length=k:=by unfold pP; simp
theorem aB (x:Int) (y:UInt8) (r:List UInt8):Cq.l1 x (y :: r)=Cq.j2 x (y :: r) (!((decide (x=0) && decide ((y.toNat:Int) < 128)) || (decide (x=-1) && decide (128<=(y.toNat:Int))))):=by
 have G:B5 (y :: r) 0=some y:=rfl
 unfold Cq.l1
 by_cases h0:x=0
 ·have h1:¬ x=-1:=by omega
  by_cases c:(y.toNat:Int) < 128
  ·have c':¬ (128:Int)<=(y.toNat:Int):=by omega
   simp [h0,G,c,c']
  ·have c':(128:Int)<=(y.toNat:Int):=by omega
   simp [h0,G,c,c']
 ·by_cases h1:x=-1
  ·by_cases c:(y.toNat:Int) < 128
   ·have c':¬ (128:Int)<=(y.toNat:Int):=by omega
    simp [h1,G,c,c']
   ·have c':(128:Int)<=(y.toNat:Int):=by omega
    simp [h1,G,c,c']
  ·simp [h0,h1]
theorem eM (n:Int) (h1:-9223372036854775808<=n) (h2:n<=9223372036854775807):∀ d k,k + d=7->(∀ j,1<=j->j<=k->F4 n j=false)->Cp (fun q'=>Cq.l1 q'.1 q'.2) (n / 256 ^ (k + 1),(pP n 8).drop (7 - k))=some (Td n):=by
 intro d
 induction d with
 | zero=>
  intro k hk hn
  obtain rfl:k=7:=by omega
  have hf:=(iW n h1 h2 7 (by omega)).1 rfl
  rw [H2]
  dsimp only
  rw [Ud n 7 (by omega),aB]
  have hs:=iY n 7 (by omega) hn rfl
  have hc:((decide (n / 256 ^ (7 + 1)=0) && decide (((Eb n 7).toNat:Int) < 128)) || (decide (n / 256 ^ (7 + 1)=-1) && decide (128<=((Eb n 7).toNat:Int))))=true:=by simpa using hf
  rw [hc]
  show some (Ai.mk 2 (Eb n 7 :: (pP n 8).drop (8 - 7)) false [])=some (Td n)
  unfold Td
  rw [mE n h1 h2,hs,<- Ud n 7 (by omega)]
 | succ d ih=>
  intro k hk hn
  have FI:=iW n h1 h2 k (by omega)
  rw [H2]
  dsimp only
  rw [Ud n k (by omega),aB]
  cases hf:F4 n (k + 1) with
  | true=>
   have hs:=iY n k (by omega) hn hf
   have hc:((decide (n / 256 ^ (k + 1)=0) && decide (((Eb n k).toNat:Int) < 128)) || (decide (n / 256 ^ (k + 1)=-1) && decide (128<=((Eb n k).toNat:Int))))=true:=by simpa using FI.1 hf
   rw [hc]
   show some (Ai.mk 2 (Eb n k :: (pP n 8).drop (8 - k)) false [])=some (Td n)
   unfold Td
   rw [mE n h1 h2,hs,<- Ud n k (by omega),show 8 - (k + 1)=7 - k by omega]
  | false=>
   have hc:((decide (n / 256 ^ (k + 1)=0) && decide (((Eb n k).toNat:Int) < 128)) || (decide (n / 256 ^ (k + 1)=-1) && decide (128<=((Eb n k).toNat:Int))))=false:=by
    cases hq:((decide (n / 256 ^ (k + 1)=0) && decide (((Eb n k).toNat:Int) < 128)) || (decide (n / 256 ^ (k + 1)=-1) && decide (128<=((Eb n k).toNat:Int)))) with
    | false=>rfl
    | true=>
     have:=FI.2 (by simpa using hq)
     rw [hf] at this; cases this
   rw [hc]
   have e:=ih (k + 1) (by omega) fun j a b=>by
    rcases aJv k j with h | h
    ·obtain rfl:j=k + 1:=by omega
     exact hf
    ·exact hn j a h
   rw [Ud n (k + 1) (by omega),show 8 - (k + 1)=7 - k by omega,<- vD] at e
   unfold Cq.j2
   rw [aKf,aEn,Ek (by simp [mL]; omega),aFn,<- Ud n k (by omega)]
   exact e
theorem Mm (n:Int) (h1:-9223372036854775808<=n) (h2:n<=9223372036854775807):Cq n=some (Td n):=by
 unfold Cq
 rw [aFn]
 have:=eM n h1 h2 7 0 (by omega) (fun j a b=>by omega)
 rw [show (pP n 8).drop (7 - 0)=[Eb n 0] by rw [be8]; rfl] at this
 rw [aAf,show u8 n=Eb n 0 by rw [<- rE]; simp]
 exact this
theorem Rs (n:Int):(Td n).sz<=9:=by
 unfold Td
 rw [Sa]
 have h:=iK (pP n 8)
 rw [mL] at h
 show (rS n).length + Vh [] + 1<=9
 unfold rS
 rw [Vh]; omega
end
section
open Go
mutual
theorem lG:∀ v:Ai,v.sz < 67108864->v.put.length<=8 * v.sz
 | .mk t b n es,h=>by
  rw [Ai.sz] at h ⊢
  have h1:=Xp es (by omega)
  rw [Ai.put]
  cases n
  ·have h2:=eJ (n:=b.length) (by omega)
   simp; omega
  ·have h2:=eJ (n:=(G1 es).length) (by omega)
   simp; omega
theorem Xp:∀ es:List Ai,Vh es < 67108864->(G1 es).length<=8 * Vh es
 | [],_=>by simp [G1]
 | v :: vs,h=>by
  rw [Vh] at h ⊢
  have h1:=lG v (by omega)
  have h2:=Xp vs (by omega)
  rw [G1,aEm]; omega
end
theorem qS (n k:Nat) (hk:0 < k):Wy (n:Int) (k:Int)=some ((n % k:Nat):Int):=by
 unfold Wy
 rw [if_neg (by omega),Int.tmod_eq_emod_of_nonneg (by omega)]; rfl
theorem sF (n k:Nat) (hk:0 < k) (hn:n < 4611686018427387904):M2 (n:Int) (k:Int)=some ((n / k:Nat):Int):=by
 unfold M2
 have:n / k<=n:=Nat.div_le_self n k
 rw [if_neg (by omega),Int.tdiv_eq_ediv_of_nonneg (by omega),show ((n:Int) / (k:Int))=((n / k:Nat):Int) from rfl,aFw (by omega)]
theorem gA (n:Nat):∀ (b:List UInt8),n < 281474976710656->zA n + b.length<=1000->Cp (fun q'=>Eh.l1 q'.1 q'.2) ((n:Int),b)=some (UInt8.ofNat (128 + (be n ++ b).length) :: (be n ++ b)):=by
 induction n using Nat.strongRecOn with
 | _ n ih=>
  intro b hn hb
  rcases aHp n with h0 | h0
  ·subst h0
   refine T0 ?_
   show Eh.l1 ((0:Nat):Int) b=_
   unfold Eh.l1
   rw [aAy (by omega),aDk,Ex (by omega),Ek (by simp; omega),show (128:Int) + (b.length:Int)=((128 + b.length:Nat):Int) by omega,dV,aGy]
   rfl
  ·have hc:=mV h0
   have e:=ih (n / 256) (Nat.div_lt_self h0 (by omega)) ([UInt8.ofNat (n % 256)] ++ b) (Nat.lt_of_le_of_lt (Nat.div_le_self n 256) hn) (by simp; omega)
   refine (Fl (s':=(((n / 256:Nat):Int),[UInt8.ofNat (n % 256)] ++ b)) ?_).trans (e.trans ?_)
   ·show Eh.l1 (n:Int) b=_
    unfold Eh.l1
    rw [aAv (by omega),aEn,show (256:Int)=((256:Nat):Int) from rfl,qS n 256 (by omega),aAf,Ek (by simp; omega),aAf,sF n 256 (by omega) (by omega),aAf,dV]
   ·rw [sW h0]
    simp
theorem fL {n:Nat} (hn:n < 281474976710656):Eh (n:Int)=some (kR n):=by
 unfold Eh kR
 by_cases h:n < 128
 ·rw [aAv (by omega),if_pos h,dV]; rfl
 ·rw [aAy (by omega),if_neg h,aDk]
  have hc:=tT 6 n (by simpa using hn)
  refine (gA n [] hn (by simp; omega)).trans ?_
  rw [aLg]; rfl
end
section
open Go
theorem iL (v:Ai):v.put=UInt8.ofNat (v.Tag.toNat % 256) :: (kR v.body.length ++ v.body):=by cases v; exact aAq _ _ _ _
theorem yF (v:Ai):v.body=if v.Nested then G1 v.Elements else v.Bytes:=by cases v; rfl
theorem wP (v:Ai) (h:v.sz < 67108864):v.body.length<=8 * v.sz:=by
 have h1:=lG v h
 rw [iL] at h1
 simp at h1
 omega
theorem lY {v:Ai} (h:v.formed=true):u8 v.Tag=UInt8.ofNat (v.Tag.toNat % 256):=by
 rw [Uc] at h
 simp only [aEw] at h
 obtain⟨m,hm⟩:=lR (Rw h.1.1.1.1).1 (Rw h.1.1.1.1).2
 rw [hm,dV,aId,aKc m.2]
theorem kB {v:Ai} (h:v.formed=true):v.Bytes ++ G1 v.Elements=v.body:=by
 rw [Uc] at h
 simp only [aEw] at h
 obtain⟨⟨⟨-,h1⟩,h2⟩,-⟩:=h
 rw [yF]
 cases hn:v.Nested with
 | true=>
  rw [hn] at h1
  have:v.Bytes=[]:=aEp (by simp at h1; simpa using h1)
  rw [this]; rfl
 | false=>
  rw [hn] at h2
  have:v.Elements=[]:=aEp (by simp at h2; simpa using h2)
  rw [this]; simp [G1]
theorem kJ {v e:Ai} (h:v.formed=true) (he:e∈v.Elements):e.formed=true:=by
 rw [Uc] at h
 simp only [aEw] at h
 have:=h.2
 rw [Ri,aHi] at this
 exact this e he
def Fit (v:Ai):Prop:=v.formed=true/\v.sz < 67108864
theorem Fit.elem {v e:Ai} (h:Fit v) (he:e∈v.Elements):Fit e:=⟨kJ h.1 he,Nat.lt_trans (V4 he) h.2⟩
theorem Yi {v:Ai} (h:Fit v) (i:Nat):(G1 (v.Elements.take i)).length<=536870912:=by
 have h1:=aQ (es:=v.Elements) i
 have h0:=Sa v
 have h2:=h.2
 have h3:=Xp v.Elements (by omega)
 omega
theorem oT (v:Ai) (h:Fit v):Dt v=some v.put:=
 T8 bF Ai.put Ai.sz Fit (fun rec v hv hr=>by
  show Dt.F rec v=some v.put
  unfold Dt.F
  have hn:=Wg v.Elements
  have h0:=Sa v
  have hz:=hv.2
  rw [Ek (by simp; omega),aIz,aAf]
  refine Eq.trans (congrArg (Cp _) ?_) (Q4 v.Elements.length (fun i=>((i:Int),v.Bytes ++ G1 (v.Elements.take i))) v.put ?_ ?_)
  ·simp [G1]
  ·intro i hi
   obtain⟨e,he⟩:∃ e,v.Elements[i]?=some e:=⟨_,aA9 hi⟩
   have h1:=V4 (Ff he)
   have h2:=Yi hv i
   have h3:=lG e (by omega)
   show Dt.l1 rec v (i:Int) (v.Bytes ++ G1 (v.Elements.take i))=_
   unfold Dt.l1
   rw [Gt he,hr e (hv.elem (Ff he)) h1,aAf,Ek (by simp; omega),H6 (by omega),W3 he,aJj]
   rfl
  ·show Dt.l1 rec v (v.Elements.length:Int) (v.Bytes ++ G1 (v.Elements.take v.Elements.length))=_
   have h4:=wP v hz
   have h5:=eJ (n:=v.body.length) (by omega)
   unfold Dt.l1
   rw [E4,aI7,kB hv.1,fL (by omega),aAf,Ek (by simp; omega),aAf,Ek (by simp; omega),aAf,lY hv.1,iL]
   simp [up]) v h
def tX (v:Ai):List UInt8×Int:=if v.formed then (if 16 < v.depth then ([],3) else if 4096 < v.put.length then ([],3) else (v.put,0)) else ([],1)
theorem dW (v:Ai) (h:v.sz < 67108864):Ko v=some (tX v):=by
 unfold Ko tX
 rw [eG v (by omega),aAf]
 cases hf:v.formed with
 | false=>rfl
 | true=>
  rw [aI6,aDk,if_pos rfl,gT v (by omega),aAf]
  by_cases hd:16 < v.depth
  ·rw [aAv (by omega),if_pos hd]; rfl
  ·rw [aAy (by omega),if_neg hd,aDk,oT v ⟨hf,h⟩,aAf]
   by_cases hl:4096 < v.put.length
   ·rw [aAv (by omega),if_pos hl]; rfl
   ·rw [aAy (by omega),if_neg hl]; rfl
end
end Go.Proofs.YtkoflhimdenjaaaGreat
