/- Plain texts, joined. No program is in sight here. -/
import Derived.Test.YtchpcpaacenodaaGreatSH
import Derived.Test.YtchpcpaacenodaaGreatM1
import Derived.Test.YtchpcpaacenodaaGreatT1
import Derived.KernelRfl
import Derived.Test.YtchpcpaacenodaaGreatOW
import Derived.Test.YtchpcpaacenodaaGreatSG1
import Derived.Test.YtchpcpaacenodaaGreatCH
set_option linter.unusedVariables false
set_option linter.unusedSimpArgs false
namespace Go.Proofs.YtchpcpaacenodaaGreat
section
open Go
end
section
open Go
structure kA (e:Ax):Prop where
 alias:e.Alias.size<=9223372036854775807
 chain:∀ c∈e.Chain,Yv c
def zE:Ax:=Ax.mk ⟨#[]⟩ (Am.mk 0 0) 0 false []
def zJ (x y:Ax):Bool:=Kz (Hg x.Alias) (Hg y.Alias)
def tC (e:Ax):Bool:=Ev e.Alias && Ja e.Key e.KeyId e.Chain
def Wz (l:List Ax) (i:Nat):Bool:=!Ev (l.getD i zE).Alias || ((decide (0 < i) && !zJ (l.getD (i - 1) zE) (l.getD i zE)) || !Ja (l.getD i zE).Key (l.getD i zE).KeyId (l.getD i zE).Chain)
def Mv (l:List Ax):Int:=bif (List.range l.length).any (Wz l) || decide (64 < (l.length:Int)) then 16 else 0
theorem tJ (l:List Ax) (hl:l.length<=1000000) (hf:∀ e∈l,kA e):Bz l=some (Mv l):=by
 unfold Bz
 refine (dM (body:=fun q'=>Bz.l1 l q') l.length (Wz l) (16:Int) (bif decide (64 < (l.length:Int)) then 16 else 0) (by omega) (fun i hi=>?_) ?_).trans ?_
 ·obtain⟨e,he⟩:∃ e,l[i]?=some e:=⟨_,aBo hi⟩
  have hfe:=hf e (Ia he)
  show Bz.l1 l (i:Int)=_
  unfold Bz.l1 Wz
  rw [G7 he,Jq _ hfe.alias,aAc,Kk he,eD _ _ _ hfe.chain]
  cases Ev e.Alias with
  | false=>rfl
  | true=>
   rw [aG4,aCx,aJ0]
   cases i with
   | zero=>
    show cond false _ ((some (Ja e.Key e.KeyId e.Chain)).bind _)=_
    cases Ja e.Key e.KeyId e.Chain <;> rfl
   | succ i=>
    obtain⟨p,hp⟩:∃ p,l[i]?=some p:=⟨_,aBo (by omega)⟩
    rw [aAe (by omega),aD8,Es (by omega),show ((i + 1:Nat):Int) - 1=(i:Int) by omega,D6,hp,aAc,show i + 1 - 1=i from rfl,Kk hp,aAe (by omega),aIj,aAc]
    show cond (!zJ p e) _ _=_
    cases zJ p e with
    | false=>rfl
    | true=>cases Ja e.Key e.KeyId e.Chain <;> rfl
 ·show Bz.l1 l (l.length:Int)=_
  unfold Bz.l1
  rw [Fs]
  cases decide (64 < (l.length:Int)) <;> rfl
 ·unfold Mv
  cases (List.range l.length).any (Wz l) <;> cases decide (64 < (l.length:Int)) <;> rfl
theorem mM (l:List Ax) (hf:∀ e∈l,kA e):Dr l=some (Mv l):=by
 unfold Dr Mv
 by_cases h64:64 < (l.length:Int)
 ·rw [aAe h64,aD8,Bool.or_true]; rfl
 rw [aAg h64,aCx,Bool.or_false]
 refine (dM (body:=fun q'=>Dr.l1 l q') l.length (Wz l) (16:Int) 0 (by omega) (fun i hi=>?_) ?_)
 ·obtain⟨e,he⟩:∃ e,l[i]?=some e:=⟨_,aBo hi⟩
  have hfe:=hf e (Ia he)
  show Dr.l1 l (i:Int)=_
  unfold Dr.l1 Wz
  rw [G7 he,Ps _ hfe.alias,aAc,Kk he,dW _ _ _ hfe.chain]
  cases Ev e.Alias with
  | false=>rfl
  | true=>
   rw [aG4,aCx,aJ0]
   cases i with
   | zero=>
    show cond false _ ((some (Ja e.Key e.KeyId e.Chain)).bind _)=_
    cases Ja e.Key e.KeyId e.Chain <;> rfl
   | succ i=>
    obtain⟨p,hp⟩:∃ p,l[i]?=some p:=⟨_,aBo (by omega)⟩
    rw [aAe (by omega),aD8,Es (by omega),show ((i + 1:Nat):Int) - 1=(i:Int) by omega,D6,hp,aAc,show i + 1 - 1=i from rfl,Kk hp,aAe (by omega),aIj,aAc]
    show cond (!zJ p e) _ _=_
    cases zJ p e with
    | false=>rfl
    | true=>cases Ja e.Key e.KeyId e.Chain <;> rfl
 ·show Dr.l1 l (l.length:Int)=_
  unfold Dr.l1
  rw [Fs]
  rfl
def aFf (l:List Af):Prop:=l.length<=20/\∀ c∈l,c.Names.length<=1000
end
section
open Go
theorem dZ:∀ (a b c:List UInt8),Kz a b=true->Kz b c=true->Kz a c=true
 | a,[],c,h,k=>by cases a <;> cases h
 | a,b :: bs,[],h,k=>by cases k
 | [],b :: bs,c :: cs,h,k=>rfl
 | a :: u,b :: v,c :: w,h,k=>by
  simp only [Kz,aH8,aId,aGc,beq_iff_eq] at h k ⊢
  rcases h with h | ⟨rfl,h⟩
  ·rcases k with k | ⟨rfl,k⟩
   ·exact .inl (UInt8.lt_trans h k)
   ·exact .inl h
  ·rcases k with k | ⟨rfl,k⟩
   ·exact .inl k
   ·exact .inr ⟨rfl,dZ u v w h k⟩
abbrev yA (l:List Ax):Prop:=l.Pairwise (fun x y=>zJ x y=true)
theorem tN {e:Ax} (h:tC e=true):aFf e.Chain:=by
 unfold tC Ja at h
 simp only [aGc,aIm,aJc] at h
 obtain⟨_,_,_,h1,h2,_⟩:=h
 refine⟨by omega,fun c hc=>?_⟩
 have:Fx c=true:=by
  cases hb:Fx c with
  | true=>rfl
  | false=>
   have:(e.Chain.any fun c=>!Fx c)=true:=aHy.2 ⟨c,hc,by rw [hb]; rfl⟩
   rw [this] at h2; cases h2
 have:=(P6 this).2.2.1
 omega
theorem kV {l:List Ax}:Mv l=0↔l.length<=64/\(∀ e∈l,tC e=true)/\yA l:=by
 have key:(List.range l.length).any (Wz l)=false↔(∀ e∈l,tC e=true)/\yA l:=by
  rw [aJs]
  constructor
  ·intro h
   have hb:∀ (i:Nat) (e:Ax),l[i]?=some e->Wz l i=false:=fun i e he=>by
    have:=h i (aI6.2 (Lb he))
    cases hx:Wz l i with
    | false=>rfl
    | true=>exact absurd hx this
   refine⟨fun e he=>?_,?_⟩
   ·obtain⟨i,hi⟩:=aJp.1 he
    have:=hb i e hi
    unfold Wz at this
    rw [Kk hi] at this
    simp only [aJv,Bool.not_eq_false'] at this
    unfold tC
    rw [this.1,this.2.2]; rfl
   ·have adj:∀ i,i + 1 < l.length->zJ (l.getD i zE) (l.getD (i + 1) zE)=true:=fun i hi=>by
     obtain⟨e,he⟩:∃ e,l[i + 1]?=some e:=⟨_,aBo hi⟩
     have:=hb (i + 1) e he
     unfold Wz at this
     simp only [aJv,Bool.not_eq_false',Bool.and_eq_false_iff,aJc] at this
     rcases this.2.1 with h2 | h2
     ·omega
     ·exact h2
    have all:∀ k i,i + k + 1 < l.length->zJ (l.getD i zE) (l.getD (i + k + 1) zE)=true:=fun k=>by
     induction k with
     | zero=>exact fun i hi=>adj i hi
     | succ k ih=>exact fun i hi=>dZ _ _ _ (ih i (by omega)) (adj (i + k + 1) hi)
    rw [yA,aIs]
    intro i j hi hj hij
    have:=all (j - i - 1) i (by omega)
    rw [show i + (j - i - 1) + 1=j by omega] at this
    rw [Kk (aBo hi),Kk (aBo hj)] at this
    exact this
  ·rintro⟨h1,h2⟩ i hi
   have hi:=aI6.1 hi
   have:=h1 l[i] (List.getElem_mem hi)
   unfold tC at this
   rw [aGc] at this
   unfold Wz
   rw [Kk (aBo hi),this.1,this.2]
   cases i with
   | zero=>simp
   | succ i=>
    rw [show i + 1 - 1=i from rfl,Kk (aBo (show i < l.length by omega))]
    have h2:=aIs.1 h2
    rw [h2 i (i + 1) (by omega) hi (by omega)]
    simp
 unfold Mv
 by_cases h64:64 < (l.length:Int)
 ·rw [aAe h64,Bool.or_true]
  constructor
  ·intro h; cases h
  ·intro h; omega
 ·rw [aAg h64,Bool.or_false]
  cases hb:(List.range l.length).any (Wz l) with
  | true=>
   constructor
   ·intro h; cases h
   ·intro h; rw [key.2 h.2] at hb; cases hb
  | false=>exact⟨fun _=>⟨by omega,key.1 hb⟩,fun _=>rfl⟩
end
section
open Go
end
section
open Go
def oW (l:List Af):Prop:=∀ c∈l,P7 c
theorem oW.set {l:List Af} (h:oW l) (j:Nat) {x:Af} (hx:P7 x):oW (Db l j x):=by
 intro c hc
 rcases aI7 hc with hc | rfl
 ·exact h c hc
 ·exact hx
theorem oW.part {l:List Af} (h:oW l) (a n:Nat):oW ((l.drop a).take n):=fun c hc=>h c (aIq (aIx hc))
end
section
open Go
def zX (e:Ax):Prop:=(Qi e.Key.Alg/\Qi e.Key.Bits/\Qi e.KeyId)/\∀ c∈e.Chain,P7 c
theorem vO {d:Ac} (h:Lj d) {alias name:ByteArray} {id:Int} (ha:Ev alias=true) (hs:Ev name=true) (hs31:name.size<=31) (hid:0<=id/\id<=2147483648) :
  Ok (Gr d alias name id) (fun y=>(y.1.Alias=alias/\tC y.1=true/\zX y.1)/\Lj y.2):=by
 unfold Gr
 refine Ok.bind (oA h) fun y1 h1=>?_
 refine Ok.bind (Vs h1.2 2 (by omega) (by omega)) fun y2 h2=>?_
 refine Ok.bind (Vs h2 5 (by omega) (by omega)) fun y3 h3=>?_
 refine Ok.cond (fun _=>?_) fun _=>?_
 ·refine Ok.bind (X3 h3 hs hs31 h1.1 hid) fun y4 h4=>?_
  refine Ok.ret ⟨⟨rfl,?_,⟨h1.1.1.1.i64,h1.1.1.2.i64,show Qi id by unfold Qi; omega⟩,fun c hc=>(h4.1.2.1 c hc).2⟩,h4.2⟩
  show (Ev alias && Ja y1.1 id y4.1)=true
  rw [ha,jP h1.1.2 hid (by have:=h4.1.1; omega) (fun c hc=>(h4.1.2.1 c hc).1) h4.1.2.2]
  rfl
 ·refine Ok.ret ⟨⟨rfl,?_,⟨h1.1.1.1.i64,h1.1.1.2.i64,show Qi id by unfold Qi; omega⟩,fun c hc=>by cases hc⟩,h3⟩
  show (Ev alias && Ja y1.1 id [])=true
  rw [ha,jP h1.1.2 hid (aHc _) (fun c hc=>by cases hc) rfl]
  rfl
def k4:List ByteArray:=[(⟨#[107,49]⟩:ByteArray),(⟨#[107,50]⟩:ByteArray),(⟨#[107,51]⟩:ByteArray),(⟨#[107,52]⟩:ByteArray)]
def zK (l:List Ax):Prop:=l.length<=4/\∀ (j:Nat) (e:Ax),l[j]?=some e->k4[j]?=some e.Alias/\tC e=true/\zX e
theorem qK {d:Ac} (h:Lj d) {name:ByteArray} (hs:Ev name=true) (hs31:name.size<=31):Ok (Gn d name) (fun y=>(1<=y.1.length/\zK y.1)/\Lj y.2):=by
 unfold Gn
 refine Ok.bind (Fq h 4 (by omega) (by omega)) fun y1 h1=>?_
 have hy1:=h1.1
 rw [Es (by omega)]
 refine Ok.loop (fun s=>0<=s.1/\s.1 + s.2.2.length=1 + y1.1/\Lj s.2.1/\zK s.2.2) (fun s=>s.1.toNat) (fun s hs'=>?_) ⟨by show 0<=1 + y1.1; omega,by show 1 + y1.1 + ((([]:List Ax).length:Nat):Int)=1 + y1.1; simp,h1.2,⟨aHc _,fun j e he=>by cases he⟩⟩
 obtain⟨i,d1,l⟩:=s
 obtain⟨a1,a2,a3,a4⟩:=hs'
 dsimp only at a1 a2 a3 a4
 show Ok (Gn.l1 name i d1 l) _
 unfold Gn.l1
 refine Ok.cond (fun hb=>?_) fun hb=>?_
 ·have hb:=aCl hb
  obtain⟨e,he⟩:∃ e,k4[l.length]?=some e:=⟨_,aBo (show l.length < 4 by omega)⟩
  refine Ok.bindE (a:=e) (by rw [D6]; exact he) ?_
  have hes:Ev e=true:=by
   have:=aHo he
   unfold k4 at this
   simp only [aFt,aGi,aIe] at this
   rcases this with rfl | rfl | rfl | rfl <;> decide +kernel
  refine Ok.bind (Fq a3 3 (by omega) (by omega)) fun y2 h2=>?_
  have hy2:=h2.1
  rw [Es (x:=y2.1 * 10) (by omega),Es (x:=100 + (l.length:Int)) (by omega),Es (by omega)]
  refine Ok.bind (vO h2.2 hes hs hs31 (by omega)) fun y3 h3=>?_
  refine Ok.bind (J5 (by rw [aGs]; omega)) fun l' hl'=>?_
  subst hl'
  rw [Es (by omega)]
  refine Ok.ret ⟨⟨by show 0<=i - 1; omega,?_,h3.2,?_⟩,?_⟩
  ·show i - 1 + ((l ++ [y3.1]).length:Int)=1 + y1.1
   rw [aGd,aGs]; omega
  ·refine⟨by show (l ++ [y3.1]).length<=4; rw [aGd,aGs]; omega,fun j x hx=>?_⟩
   have hx:(l ++ [y3.1])[j]?=some x:=hx
   rw [aKa] at hx
   split at hx
   ·exact a4.2 j x hx
   ·rename_i hj
    have hj0:j - l.length=0:=by
     have:=Lb hx
     rw [aGs] at this
     omega
    rw [hj0] at hx
    injection hx with hx
    subst hx
    rw [show j=l.length by omega,he,h3.1.1]
    exact⟨rfl,h3.1.2⟩
  ·show (i - 1).toNat < i.toNat; omega
 ·have hb:=aD7 hb
  exact Ok.up (Ok.ret ⟨⟨by show 1<=l.length; omega,a4⟩,a3⟩)
structure Wy (n:Nat) (l:List Ax):Prop where
 len:l.length<=n
 ok:∀ e∈l,tC e=true
 str:yA l
theorem Wy.zero {n:Nat} {l:List Ax} (h:Wy n l) (hn:n<=64):Mv l=0:=kV.2 ⟨by have:=h.len; omega,h.ok,h.str⟩
theorem Wy.few {n:Nat} {l:List Ax} (h:Wy n l):∀ e∈l,aFf e.Chain:=fun e he=>tN (h.ok e he)
theorem Wy.drop {n:Nat} {l:List Ax} (h:Wy n l) (k:Nat):Wy n (l.drop k):=⟨by rw [aGx]; have:=h.len; omega,fun e he=>h.ok e (aIq he),h.str.sublist (List.drop_sublist k l)⟩
theorem nJ {e:Ax} (h:tC e=true):kA e:=by
 have hf:=tN h
 unfold tC at h
 rw [aGc] at h
 refine⟨by have:=Ph h.1; omega,fun c hc=>?_⟩
 have h2:=h.2
 unfold Ja at h2
 simp only [aGc,aIm] at h2
 obtain⟨_,_,_,h3,_⟩:=h2
 have hcs:Fx c=true:=by
  cases hb:Fx c with
  | true=>rfl
  | false=>
   have:(e.Chain.any fun c=>!Fx c)=true:=aHy.2 ⟨c,hc,by rw [hb]; rfl⟩
   rw [this] at h3; cases h3
 obtain⟨v1,v2,v3,v4⟩:=P6 hcs
 exact⟨by omega,fun s hs=>by have:=v4 s hs; omega,by omega,by omega⟩
theorem Wy.fit {n:Nat} {l:List Ax} (h:Wy n l):∀ e∈l,kA e:=fun e he=>nJ (h.ok e he)
end
end Go.Proofs.YtchpcpaacenodaaGreat
