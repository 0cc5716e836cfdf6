/- Plain texts, joined. No program is in sight here. -/
import Derived.Test.YtfanepojdefdpaaGreatB0
import Derived.Test.YtfanepojdefdpaaGreatK8
import Derived.Test.YtfanepojdefdpaaGreatM2
import Derived.Test.YtfanepojdefdpaaGreatOP
import Derived.Test.YtfanepojdefdpaaGreatSEapi_Entry
set_option linter.unusedVariables false
set_option linter.unusedSimpArgs false
set_option autoImplicit false
set_option maxRecDepth 100000
namespace Go.Proofs.YtfanepojdefdpaaGreat
section
open Go
structure Nj (e:Ac):Prop where
 alias:e.Alias.size<=9223372036854775807
 chain:∀ c∈e.Chain,W9 c
def zE:Ac:=Ac.mk ⟨#[]⟩ (Ax.mk 0 0) 0 false []
def Oa (x y:Ac):Bool:=Ns (Hs x.Alias) (Hs y.Alias)
def S1 (e:Ac):Bool:=Eh e.Alias && F2 e.Key e.KeyId e.Chain
def P1 (l:List Ac) (i:Nat):Bool:=!Eh (l.getD i zE).Alias || ((decide (0 < i) && !Oa (l.getD (i - 1) zE) (l.getD i zE)) || !F2 (l.getD i zE).Key (l.getD i zE).KeyId (l.getD i zE).Chain)
def Gb (l:List Ac):Int:=bif (List.range l.length).any (P1 l) || decide (64 < (l.length:Int)) then 16 else 0
theorem Lx (l:List Ac) (hl:l.length<=1000000) (hf:∀ e∈l,Nj e):Bl l=some (Gb l):=by
 unfold Bl
 refine (Vn (body:=fun q'=>Bl.l1 l q') l.length (P1 l) (16:Int) (bif decide (64 < (l.length:Int)) then 16 else 0) (by omega) (fun i hi=>?_) ?_).trans ?_
 ·obtain⟨e,he⟩:∃ e,l[i]?=some e:=⟨_,vJ hi⟩
  have hfe:=hf e (Ef he)
  show Bl.l1 l (i:Int)=_
  unfold Bl.l1 P1
  rw [Dw he,Nt _ hfe.alias,vI,Hh he,dV _ _ _ hfe.chain]
  cases Eh e.Alias with
  | false=>rfl
  | true=>
   rw [wM,vQ,xX]
   cases i with
   | zero=>
    show cond false _ ((some (F2 e.Key e.KeyId e.Chain)).bind _)=_
    cases F2 e.Key e.KeyId e.Chain <;> rfl
   | succ i=>
    obtain⟨p,hp⟩:∃ p,l[i]?=some p:=⟨_,vJ (by omega)⟩
    rw [vL (by omega),wD,Hy (by omega),show ((i + 1:Nat):Int) - 1=(i:Int) by omega,Ec,hp,vI,show i + 1 - 1=i from rfl,Hh hp,vL (by omega),aAl,vI]
    show cond (!Oa p e) _ _=_
    cases Oa p e with
    | false=>rfl
    | true=>cases F2 e.Key e.KeyId e.Chain <;> rfl
 ·show Bl.l1 l (l.length:Int)=_
  unfold Bl.l1
  rw [Db]
  cases decide (64 < (l.length:Int)) <;> rfl
 ·unfold Gb
  cases (List.range l.length).any (P1 l) <;> cases decide (64 < (l.length:Int)) <;> rfl
theorem K0 (l:List Ac) (hf:∀ e∈l,Nj e):B5 l=some (Gb l):=by
 unfold B5 Gb
 by_cases h64:64 < (l.length:Int)
 ·rw [vL h64,wD,Bool.or_true]; rfl
 rw [vK h64,vQ,Bool.or_false]
 refine (Vn (body:=fun q'=>B5.l1 l q') l.length (P1 l) (16:Int) 0 (by omega) (fun i hi=>?_) ?_)
 ·obtain⟨e,he⟩:∃ e,l[i]?=some e:=⟨_,vJ hi⟩
  have hfe:=hf e (Ef he)
  show B5.l1 l (i:Int)=_
  unfold B5.l1 P1
  rw [Dw he,P5 _ hfe.alias,vI,Hh he,cU _ _ _ hfe.chain]
  cases Eh e.Alias with
  | false=>rfl
  | true=>
   rw [wM,vQ,xX]
   cases i with
   | zero=>
    show cond false _ ((some (F2 e.Key e.KeyId e.Chain)).bind _)=_
    cases F2 e.Key e.KeyId e.Chain <;> rfl
   | succ i=>
    obtain⟨p,hp⟩:∃ p,l[i]?=some p:=⟨_,vJ (by omega)⟩
    rw [vL (by omega),wD,Hy (by omega),show ((i + 1:Nat):Int) - 1=(i:Int) by omega,Ec,hp,vI,show i + 1 - 1=i from rfl,Hh hp,vL (by omega),aAl,vI]
    show cond (!Oa p e) _ _=_
    cases Oa p e with
    | false=>rfl
    | true=>cases F2 e.Key e.KeyId e.Chain <;> rfl
 ·show B5.l1 l (l.length:Int)=_
  unfold B5.l1
  rw [Db]
  rfl
def Ng (l:List Ab):Prop:=l.length<=20/\∀ c∈l,c.Names.length<=1000
theorem rH {l:List Ab} (h:Ng l):Cn l=some l:=by
 have hlo:=h.1
 unfold Cn
 refine D8 (body:=fun q'=>Cn.l1 l q'.1 q'.2) l.length (fun i=>((i:Int),l.take i)) l (fun i hi=>?_) ?_
 ·obtain⟨c,hc⟩:∃ c,l[i]?=some c:=⟨_,vJ hi⟩
  have hf:=h.2 c (vZ hc)
  show Cn.l1 l (i:Int) (l.take i)=_
  unfold Cn.l1
  rw [Dw hc,Sk _ (by omega),vI,Dj (by simp; omega),vI,Du (by omega),En hc]
 ·show Cn.l1 l (l.length:Int) (l.take l.length)=_
  unfold Cn.l1
  rw [Db,wP]; rfl
theorem tE {e:Ac} (h:Ng e.Chain):Gh e=some e:=by
 unfold Gh
 rw [rH h]
 rfl
theorem copyR {l:List Ab} (h:Ng l):Cu l=some l:=by
 have hlo:=h.1
 unfold Cu
 refine D8 (body:=fun q'=>Cu.l1 l q'.1 q'.2) l.length (fun i=>((i:Int),l.take i)) l (fun i hi=>?_) ?_
 ·obtain⟨c,hc⟩:∃ c,l[i]?=some c:=⟨_,vJ hi⟩
  have hf:=h.2 c (vZ hc)
  show Cu.l1 l (i:Int) (l.take i)=_
  unfold Cu.l1 G0
  rw [Dw hc,Dj (by simp; omega),vI,vI,Dj (by simp; omega),vI,Du (by omega),En hc]
  rfl
 ·show Cu.l1 l (l.length:Int) (l.take l.length)=_
  unfold Cu.l1
  rw [Db,wP]; rfl
theorem Xd {e:Ac} (h:Ng e.Chain):Fx e=some e:=by
 unfold Fx
 rw [copyR h]
 rfl
end
section
open Go
theorem Td (a:List UInt8):Ns a a=false:=by
 have:=Wh a a
 rw [vL rfl,Bool.or_true] at this
 exact this.symm
theorem I7:∀ (a b c:List UInt8),Ns a b=true->Ns b c=true->Ns a c=true
 | a,[],c,h,k=>by cases a <;> cases h
 | a,b :: bs,[],h,k=>by cases k
 | [],b :: bs,c :: cs,h,k=>rfl
 | a :: u,b :: v,c :: w,h,k=>by
  simp only [Ns,yA,xF,vN,beq_iff_eq] at h k ⊢
  rcases h with h | ⟨rfl,h⟩
  ·rcases k with k | ⟨rfl,k⟩
   ·exact .inl (UInt8.lt_trans h k)
   ·exact .inl h
  ·rcases k with k | ⟨rfl,k⟩
   ·exact .inl k
   ·exact .inr ⟨rfl,I7 u v w h k⟩
theorem Yv {a b:List UInt8} (h:Ns a b=false) (k:Ns b a=false):a=b:=by
 have:=Wh a b
 rw [h,k,xX] at this
 by_cases e:a=b
 ·exact e
 ·rw [vK e] at this; cases this
theorem kT:Sort.SWO Oa where
 irrefl x:=Td _
 trans x y z h k:=I7 _ _ _ h k
 ntrans x y z h k:=by
  cases e:Oa x z with
  | false=>rfl
  | true=>
   unfold Oa at *
   cases h2:Ns (Hs y.Alias) (Hs x.Alias) with
   | true=>
    have:=I7 _ _ _ h2 e
    rw [k] at this; cases this
   | false=>
    rw [Yv h h2] at e
    rw [k] at e; cases e
theorem fC {a b:ByteArray} (h:Hs a=Hs b):a=b:=by
 cases a with | mk a=>cases b with | mk b=>
 unfold Hs at h
 exact congrArg ByteArray.mk (Array.toList_inj.1 h)
theorem W5 {x y:Ac} (h:Oa x y=true):x.Alias≠y.Alias:=fun e=>by
 unfold Oa at h
 rw [e,Td] at h
 cases h
abbrev U4 (l:List Ac):Prop:=l.Pairwise (fun x y=>Oa x y=true)
theorem Mj {e:Ac} (h:S1 e=true):Ng e.Chain:=by
 unfold S1 F2 at h
 simp only [vN,xG,xT] at h
 obtain⟨_,_,_,h1,h2,_⟩:=h
 refine⟨by omega,fun c hc=>?_⟩
 have:Dq c=true:=by
  cases hb:Dq c with
  | true=>rfl
  | false=>
   have:(e.Chain.any fun c=>!Dq c)=true:=wY.2 ⟨c,hc,by rw [hb]; rfl⟩
   rw [this] at h2; cases h2
 have:=(Ja this).2.2.1
 omega
theorem G1 {l:List Ac}:Gb l=0↔l.length<=64/\(∀ e∈l,S1 e=true)/\U4 l:=by
 have key:(List.range l.length).any (P1 l)=false↔(∀ e∈l,S1 e=true)/\U4 l:=by
  rw [yF]
  constructor
  ·intro h
   have hb:∀ (i:Nat) (e:Ac),l[i]?=some e->P1 l i=false:=fun i e he=>by
    have:=h i (yQ.2 (Jc he))
    cases hx:P1 l i with
    | false=>rfl
    | true=>exact absurd hx this
   refine⟨fun e he=>?_,?_⟩
   ·obtain⟨i,hi⟩:=List.mem_iff_getElem?.1 he
    have:=hb i e hi
    unfold P1 at this
    rw [Hh hi] at this
    simp only [yE,aAa] at this
    unfold S1
    rw [this.1,this.2.2]; rfl
   ·have adj:∀ i,i + 1 < l.length->Oa (l.getD i zE) (l.getD (i + 1) zE)=true:=fun i hi=>by
     obtain⟨e,he⟩:∃ e,l[i + 1]?=some e:=⟨_,vJ hi⟩
     have:=hb (i + 1) e he
     unfold P1 at this
     simp only [yE,aAa,aAh,xT] at this
     rcases this.2.1 with h2 | h2
     ·omega
     ·exact h2
    have all:∀ k i,i + k + 1 < l.length->Oa (l.getD i zE) (l.getD (i + k + 1) zE)=true:=fun k=>by
     induction k with
     | zero=>exact fun i hi=>adj i hi
     | succ k ih=>exact fun i hi=>I7 _ _ _ (ih i (by omega)) (adj (i + k + 1) hi)
    rw [U4,zR]
    intro i j hi hj hij
    have:=all (j - i - 1) i (by omega)
    rw [show i + (j - i - 1) + 1=j by omega] at this
    rw [Hh (vJ hi),Hh (vJ hj)] at this
    exact this
  ·rintro⟨h1,h2⟩ i hi
   have hi:=yQ.1 hi
   have:=h1 l[i] (List.getElem_mem hi)
   unfold S1 at this
   rw [vN] at this
   unfold P1
   rw [Hh (vJ hi),this.1,this.2]
   cases i with
   | zero=>simp
   | succ i=>
    rw [show i + 1 - 1=i from rfl,Hh (vJ (show i < l.length by omega))]
    have h2:=zR.1 h2
    rw [h2 i (i + 1) (by omega) hi (by omega)]
    simp
 unfold Gb
 by_cases h64:64 < (l.length:Int)
 ·rw [vL h64,Bool.or_true]
  constructor
  ·intro h; cases h
  ·intro h; omega
 ·rw [vK h64,Bool.or_false]
  cases hb:(List.range l.length).any (P1 l) with
  | true=>
   constructor
   ·intro h; cases h
   ·intro h; rw [key.2 h.2] at hb; cases hb
  | false=>exact⟨fun _=>⟨by omega,key.1 hb⟩,fun _=>rfl⟩
def Kl (b:List Ac) (s:ByteArray):Bool:=b.any fun x=>decide (x.Alias=s)
def D6:List Ac->List Ac->List Ac
 | [],b=>b
 | a,[]=>a
 | x :: a,y :: b=>if Oa x y=true then x :: D6 a (y :: b) else if x.Alias=y.Alias then y :: D6 a b else y :: D6 (x :: a) b
termination_by a b=>a.length + b.length
theorem Ox (a:List Ac):D6 a []=a:=by cases a <;> rw [D6] <;> intro h <;> cases h
theorem Z5 {b:List Ac} {s:ByteArray}:Kl b s=false↔∀ y∈b,y.Alias≠s:=by
 unfold Kl
 rw [yF]
 constructor
 ·intro h y hy e
  exact h y hy (vL e)
 ·intro h y hy e
  exact h y hy (xB e)
theorem Lt:∀ (n:Nat) (a b:List Ac),a.length + b.length<=n->U4 a->U4 b->(D6 a b).Perm (b ++ a.filter (fun e=>!Kl b e.Alias))/\U4 (D6 a b)
 | _,[],b,_,_,hb=>by
  rw [D6]
  exact⟨by rw [List.filter_nil,zY],hb⟩
 | _,x :: a,[],_,ha,_=>by
  rw [Ox]
  refine⟨?_,ha⟩
  have e:(x :: a).filter (fun e=>!Kl [] e.Alias)=x :: a:=List.filter_eq_self.2 (fun e _=>rfl)
  rw [zX,e]
 | 0,x :: a,y :: b,hn,_,_=>by simp only [xA] at hn; omega
 | n + 1,x :: a,y :: b,hn,ha,hb=>by
  simp only [xA] at hn
  have hax:∀ z∈a,Oa x z=true:=(wX.1 ha).1
  have ha':U4 a:=(wX.1 ha).2
  have hby:∀ z∈b,Oa y z=true:=(wX.1 hb).1
  have hb':U4 b:=(wX.1 hb).2
  rw [D6]
  by_cases h1:Oa x y=true
  ·rw [if_pos h1]
   obtain⟨p1,p2⟩:=Lt n a (y :: b) (by simp only [xA]; omega) ha' hb
   have hx:Kl (y :: b) x.Alias=false:=Z5.2 fun z hz=>by
    rcases wA.1 hz with rfl | hz
    ·exact (W5 h1).symm
    ·exact (W5 (I7 _ _ _ h1 (hby z hz))).symm
   refine⟨?_,wX.2 ⟨fun z hz=>?_,p2⟩⟩
   ·rw [List.filter_cons_of_pos (by rw [hx]; rfl)]
    exact (List.Perm.cons x p1).trans List.perm_middle.symm
   ·rcases wW.1 (p1.mem_iff.1 hz) with hz | hz
    ·rcases wA.1 hz with rfl | hz
     ·exact h1
     ·exact I7 _ _ _ h1 (hby z hz)
    ·exact hax z (yW.1 hz).1
  ·rw [if_neg h1]
   have h1':Oa x y=false:=by cases h:Oa x y with | false=>rfl | true=>exact absurd h h1
   by_cases h2:x.Alias=y.Alias
   ·rw [if_pos h2]
    obtain⟨p1,p2⟩:=Lt n a b (by omega) ha' hb'
    have hx:Kl (y :: b) x.Alias=true:=wY.2 ⟨y,.head _,vL h2.symm⟩
    have hya:∀ z∈a,Oa y z=true:=fun z hz=>by
     have:=hax z hz
     unfold Oa at this ⊢
     rw [<- h2]; exact this
    refine⟨?_,wX.2 ⟨fun z hz=>?_,p2⟩⟩
    ·rw [List.filter_cons_of_neg (by rw [hx]; simp)]
     have e:a.filter (fun e=>!Kl (y :: b) e.Alias)=a.filter (fun e=>!Kl b e.Alias):=List.filter_congr fun z hz=>by
      unfold Kl
      rw [xY,vK (W5 (hya z hz)),xX]
     rw [e]
     exact List.Perm.cons y p1
    ·rcases wW.1 (p1.mem_iff.1 hz) with hz | hz
     ·exact hby z hz
     ·exact hya z (yW.1 hz).1
   ·rw [if_neg h2]
    obtain⟨p1,p2⟩:=Lt n (x :: a) b (by simp only [xA]; omega) ha hb'
    have hyx:Oa y x=true:=by
     cases h:Oa y x with
     | true=>rfl
     | false=>exact absurd (fC (Yv h1' h)) h2
    have hya:∀ z∈x :: a,Oa y z=true:=fun z hz=>by
     rcases wA.1 hz with rfl | hz
     ·exact hyx
     ·exact I7 _ _ _ hyx (hax z hz)
    refine⟨?_,wX.2 ⟨fun z hz=>?_,p2⟩⟩
    ·have e:(x :: a).filter (fun e=>!Kl (y :: b) e.Alias)=(x :: a).filter (fun e=>!Kl b e.Alias):=List.filter_congr fun z hz=>by
      unfold Kl
      rw [xY,vK (W5 (hya z hz)),xX]
     rw [e]
     exact List.Perm.cons y p1
    ·rcases wW.1 (p1.mem_iff.1 hz) with hz | hz
     ·exact hby z hz
     ·exact hya z (yW.1 hz).1
theorem R6:∀ (l m:List Ac),l.Perm m->l.Pairwise (fun x y=>Oa y x=false)->U4 m->l=m
 | l,[],h,_,_=>h.eq_nil
 | [],y :: m,h,_,_=>by have:=h.length_eq; cases this
 | x :: l,y :: m,h,hl,hm=>by
  by_cases e:x=y
  ·subst e
   rw [R6 l m (List.Perm.cons_inv h) (wX.1 hl).2 (wX.1 hm).2]
  ·have h1:x∈m:=by
    rcases wA.1 (h.mem_iff.1 (.head _)) with h1 | h1
    ·exact absurd h1 e
    ·exact h1
   have h2:y∈l:=by
    rcases wA.1 (h.mem_iff.2 (.head _)) with h2 | h2
    ·exact absurd h2.symm e
    ·exact h2
   have:=(wX.1 hm).1 x h1
   rw [(wX.1 hl).1 y h2] at this
   cases this
def dQ (l:List Ac):List Ac×Int:=bif decide (64 < (l.length:Int)) then ([],3) else (l,0)
def K9 (a b:List Ac):List Ac×Int:=bif !decide (Gb a=0) || !decide (Gb b=0) then ([],16) else dQ (D6 a b)
theorem Z7 {S R:Type} {body:S->Option (Lp S R)} (n:Nat) (G:Nat->S) (x:Option R) (h1:∀ i,i < n->body (G i)=some (.next (G (i + 1)))) (h2:body (G n)=up x):C5 body (G 0)=x:=by
 have key:∀ k i,i + k=n->C5 body (G i)=x:=by
  intro k
  induction k with
  | zero=>intro i hi; rw [show i=n by omega]; exact K6 h2
  | succ k ih=>intro i hi; rw [Gk (h1 i (by omega))]; exact ih (i + 1) (by omega)
 exact key n 0 (by omega)
theorem Uf (s:List Ac) (f:Ac->Option Bool) (p:Ac->Bool) (h:Lo s) (hf:∀ x∈s,f x=some (p x)):A9 s f=some (On s p):=by
 unfold A9
 refine Zd s p h (fun i x hx=>?_) ?_
 ·show A9.l1 s f (i:Int)=_
  unfold A9.l1
  rw [Dw hx,hf x (Ef hx),vI]
  cases p x <;> rfl
 ·show A9.l1 s f (s.length:Int)=_
  unfold A9.l1
  rw [Db]; rfl
def Ni (l:List Ac) (s:ByteArray):Ac×Bool:=match l.find? (fun x=>decide (x.Alias=s)) with
 | some e=>(e,true)
 | none=>(zE,false)
theorem T6 (l:List Ac) (p:Ac->Bool):(l.find? p=none/\On l p=-1)\/∃ (i:Nat) (e:Ac),l[i]?=some e/\l.find? p=some e/\On l p=(i:Int):=by
 unfold On
 cases h:l.findIdx? p with
 | none=>
  refine .inl ⟨?_,rfl⟩
  rw [List.find?_eq_none]
  rw [zP] at h
  intro x hx
  rw [h x hx]; simp
 | some i=>
  obtain⟨hi,h1,h2⟩:=wS.1 h
  refine .inr ⟨i,l[i],vJ hi,?_,rfl⟩
  rw [List.find?_eq_some_iff_getElem]
  exact⟨h1,i,hi,rfl,fun j hj=>by have:=h2 j hj; simpa using this⟩
theorem Xf (l:List Ac) (s:ByteArray) (hl:Lo l) (hw:∀ e∈l,Ng e.Chain):E8 l s=some (Ni l s):=by
 unfold E8 Ni
 rw [Uf l (fun x0=>Fu x0 s) (fun x=>decide (x.Alias=s)) hl (fun x _=>rfl),vI]
 rcases T6 l (fun x=>decide (x.Alias=s)) with ⟨h1,h2⟩ | ⟨i,e,h1,h2,h3⟩
 ·rw [h1,h2]; rfl
 ·rw [h2,h3,vK (by omega),vQ,Ec,h1,vI,tE (hw e (vZ h1))]
  rfl
theorem jZ (l:List Ac) (s:ByteArray):(Ni l s).2=Kl l s:=by
 unfold Ni Kl
 cases h:l.find? (fun x=>decide (x.Alias=s)) with
 | none=>exact (yF.2 (List.find?_eq_none.1 h)).symm
 | some e=>exact (wY.2 ⟨e,List.mem_of_find?_eq_some h,List.find?_some h⟩).symm
theorem kI:F7 (fun x0 x1=>Ee x0 x1) Oa (fun _=>True):=fun x y _ _=>by
 show ∃ n,Ee x y=some n/\decide (n < 0)=Oa x y
 unfold Ee
 show ∃ n,cond (Oa x y) _ _=some n/\_
 cases Oa x y
 ·exact⟨1,rfl,rfl⟩
 ·exact⟨-1,rfl,rfl⟩
theorem Y7 (a b:List Ac) (hcap:a.length<=64->b.length<=64->a.length + b.length<=H4) (ha:a.length<=1000000) (hb:b.length<=1000000) (fa:∀ e∈a,Nj e) (fb:∀ e∈b,Nj e):Az a b=some (K9 a b):=by
 have hj1:Az.j1 a b true=some ([],16):=rfl
 unfold Az K9
 rw [Lx a ha fa,vI,Lx b hb fb,vI]
 by_cases h1:Gb a=0
 ·rw [vL h1,wM,vQ,xX]
  by_cases h2:Gb b=0
  ·rw [vL h2,wM,vQ]
   obtain⟨la,oa,sa⟩:=G1.1 h1
   obtain⟨lb,ob,sb⟩:=G1.1 h2
   obtain⟨m1,m2⟩:=Lt _ a b (wR _) sa sb
   have hm:∀ e∈D6 a b,S1 e=true:=fun e he=>by
    rcases wW.1 (m1.mem_iff.1 he) with h | h
    ·exact ob e h
    ·exact oa e (yW.1 h).1
   unfold Az.j1
   have e1:dR 72 (b.length:Int) (W ((a.length:Int) + (b.length:Int))) (Ac.mk (⟨#[]⟩:ByteArray) (Ax.mk 0 0) 0 false ([]:(List Ab)))=some (List.replicate b.length zE):=by
    rw [Hy (by omega)]
    unfold dR
    rw [if_pos (by omega)]
    rfl
   have e2:cO (List.replicate b.length zE) b=some b:=by
    unfold cO
    rw [if_pos (by simp)]
   rw [vQ,e1,vI,e2,vI]
   have e0:((0:Int),b)=((fun i:Nat=>((i:Int),b ++ (a.take i).filter (fun e=>!Kl b e.Alias))) 0):=by simp
   rw [e0]
   refine Z7 (body:=fun q'=>Az.l2 a b q'.1 q'.2) a.length (fun i=>((i:Int),b ++ (a.take i).filter (fun e=>!Kl b e.Alias))) (some (dQ (D6 a b))) (fun i hi=>?_) ?_ |>.trans ?_
   ·obtain⟨e,he⟩:∃ e,a[i]?=some e:=⟨_,vJ hi⟩
    have hlen:((a.take i).filter (fun e=>!Kl b e.Alias)).length<=64:=wZ (List.length_filter_le _ _) (by rw [vU]; omega)
    show Az.l2 a b (i:Int) (b ++ (a.take i).filter (fun e=>!Kl b e.Alias))=_
    unfold Az.l2 Az.j3
    rw [Dw he,Xf b e.Alias (Gj hb) (fun x hx=>Mj (ob x hx)),vI,jZ,En he,List.filter_append,Du (by omega)]
    cases hh:Kl b e.Alias with
    | true=>
     rw [List.filter_cons_of_neg (by rw [hh]; simp),List.filter_nil,zY]
     rfl
    | false=>
     rw [List.filter_cons_of_pos (by rw [hh]; rfl),List.filter_nil,xD,wD,Dj (by rw [vR,vT]; omega),vI,wT]
   ·show Az.l2 a b (a.length:Int) (b ++ (a.take a.length).filter (fun e=>!Kl b e.Alias))=_
    unfold Az.l2
    rw [Db,wP]
    refine congrArg up ?_
    have hlen:=m1.length_eq
    have hll:(b ++ a.filter (fun e=>!Kl b e.Alias)).length<=H4:=by
     rw [vR]
     have:=List.length_filter_le (fun e=>!Kl b e.Alias) a
     have:=hcap la lb
     omega
    generalize hl:b ++ a.filter (fun e=>!Kl b e.Alias)=l at m1 hlen hll ⊢
    unfold dQ
    rw [hlen]
    by_cases h64:64 < (l.length:Int)
    ·rw [vL h64]; rfl
    ·rw [vK h64,vQ,vQ]
     obtain⟨s,s1,s2,s3⟩:=So kT kI l hll (fun _ _=>trivial)
     rw [s1,vI]
     obtain rfl:=R6 s (D6 a b) (s2.trans m1.symm) s3 m2
     have hs:=s2.length_eq
     refine D8 (body:=fun q'=>Az.l4 (D6 a b) q'.1 q'.2) (D6 a b).length (fun i=>((i:Int),(D6 a b).take i)) _ (fun i hi=>?_) ?_
     ·obtain⟨e,he⟩:∃ e,(D6 a b)[i]?=some e:=⟨_,vJ hi⟩
      show Az.l4 (D6 a b) (i:Int) ((D6 a b).take i)=_
      unfold Az.l4
      rw [Dw he,tE (Mj (hm e (Ef he))),vI,Dj (by rw [vU,vT]; omega),vI,Du (by omega),En he]
     ·show Az.l4 (D6 a b) ((D6 a b).length:Int) ((D6 a b).take (D6 a b).length)=_
      unfold Az.l4
      rw [Db,wP]; rfl
   ·rfl
  ·rw [vK h2,xD,hj1]; rfl
 ·rw [vK h1,xD,wD,hj1]; rfl
end
section
open Go
theorem Nw {α:Type} {l:List α} {i:Nat} {x:α} (h:l[i]?=some x):l.drop i=x :: l.drop (i + 1):=by
 obtain⟨hi,rfl⟩:=vM.1 h
 exact zQ hi
theorem eJ {a b:List Ac} (ha:a.length<=64) (hb:b.length<=64) (fa:∀ e∈a,Ng e.Chain) (fb:∀ e∈b,Ng e.Chain):∀ (n i k:Nat) (out:List Ac),(a.length - i) + (b.length - k)=n->i<=a.length->k<=b.length->out.length<=i + k->
  C5 (fun q'=>Ar.l2 a b q'.1 q'.2.1 q'.2.2) ((i:Int),(k:Int),out)=some (dQ (out ++ D6 (a.drop i) (b.drop k))):=by
 intro n
 induction n using Nat.strongRecOn with
 | _ n ih=>
  intro i k out hn hi hk ho
  have takeA:∀ x,a[i]?=some x->Ar.j4 a b (i:Int) (k:Int) out true=some (.next (((i + 1:Nat):Int),(k:Int),out ++ [x])):=fun x hx=>by
   have:=Jc hx
   unfold Ar.j4
   rw [wD,Ec,hx,vI,Xd (fa x (Ef hx)),vI,Dj (by rw [vT]; omega),vI,Du (by omega)]
  have takeB:∀ (i':Nat) y,b[k]?=some y->Ar.j6 b (k:Int) out (i':Int)=some (.next ((i':Int),((k + 1:Nat):Int),out ++ [y])):=fun i' y hy=>by
   have:=Jc hy
   unfold Ar.j6
   rw [Ec,hy,vI,Xd (fb y (Ef hy)),vI,Dj (by rw [vT]; omega),vI,Du (by omega)]
  by_cases h1:i < a.length
  ·obtain⟨x,hx⟩:∃ x,a[i]?=some x:=⟨_,vJ h1⟩
   have hb0:Ar.l2 a b (i:Int) (k:Int) out=Ar.j3 a b (i:Int) (k:Int) out true:=by
    unfold Ar.l2
    rw [vL (by omega),wD]
   by_cases h2:k < b.length
   ·obtain⟨y,hy⟩:∃ y,b[k]?=some y:=⟨_,vJ h2⟩
    have hb1:Ar.j3 a b (i:Int) (k:Int) out true=Ar.j4 a b (i:Int) (k:Int) out (Oa x y):=by
     unfold Ar.j3
     rw [wD,vK (by omega),vQ,vL (by omega),wD,Ec,hx,vI,Ec,hy,vI]
     rfl
    rw [Nw hx,Nw hy,D6]
    by_cases hl:Oa x y=true
    ·rw [if_pos hl]
     rw [hl] at hb1
     rw [Gk (show (fun q':Int×Int×List Ac=>Ar.l2 a b q'.1 q'.2.1 q'.2.2) ((i:Int),(k:Int),out)=_ from (hb0.trans hb1).trans (takeA x hx)),ih (n - 1) (by omega) (i + 1) k (out ++ [x]) (by omega) (by omega) hk (by rw [vR,vT]; omega),<- Nw hy,wT]
     rfl
    ·rw [if_neg hl]
     have hl':Oa x y=false:=by cases h:Oa x y with | false=>rfl | true=>exact absurd h hl
     rw [hl'] at hb1
     have hb2:Ar.j4 a b (i:Int) (k:Int) out false=Ar.j5 b (i:Int) (k:Int) out (decide (x.Alias=y.Alias)):=by
      unfold Ar.j4
      rw [vQ,vL (by omega),wD,Ec,hx,vI,Ec,hy,vI]
     unfold Ar.j5 at hb2
     by_cases he:x.Alias=y.Alias
     ·rw [if_pos he]
      rw [vL he,wD,Du (by omega)] at hb2
      rw [Gk (show (fun q':Int×Int×List Ac=>Ar.l2 a b q'.1 q'.2.1 q'.2.2) ((i:Int),(k:Int),out)=_ from ((hb0.trans hb1).trans hb2).trans (takeB (i + 1) y hy)),ih (n - 2) (by omega) (i + 1) (k + 1) (out ++ [y]) (by omega) (by omega) (by omega) (by rw [vR,vT]; omega),wT]
      rfl
     ·rw [if_neg he]
      rw [vK he,vQ] at hb2
      rw [Gk (show (fun q':Int×Int×List Ac=>Ar.l2 a b q'.1 q'.2.1 q'.2.2) ((i:Int),(k:Int),out)=_ from ((hb0.trans hb1).trans hb2).trans (takeB i y hy)),ih (n - 1) (by omega) i (k + 1) (out ++ [y]) (by omega) hi (by omega) (by rw [vR,vT]; omega),<- Nw hx,wT]
      rfl
   ·have hkl:k=b.length:=by omega
    have hb1:Ar.j3 a b (i:Int) (k:Int) out true=Ar.j4 a b (i:Int) (k:Int) out true:=by
     unfold Ar.j3
     rw [wD,vL (by omega),wD]
    rw [Gk (show (fun q':Int×Int×List Ac=>Ar.l2 a b q'.1 q'.2.1 q'.2.2) ((i:Int),(k:Int),out)=_ from (hb0.trans hb1).trans (takeA x hx)),ih (n - 1) (by omega) (i + 1) k (out ++ [x]) (by omega) (by omega) hk (by rw [vR,vT]; omega),hkl,yM,Ox,Ox,Nw hx,wT]
    rfl
  ·have hil:i=a.length:=by omega
   have hb0:Ar.l2 a b (i:Int) (k:Int) out=Ar.j3 a b (i:Int) (k:Int) out (decide ((k:Int) < (b.length:Int))):=by
    unfold Ar.l2
    rw [vK (show ¬ (i:Int) < (a.length:Int) by omega),vQ]
   by_cases h2:k < b.length
   ·obtain⟨y,hy⟩:∃ y,b[k]?=some y:=⟨_,vJ h2⟩
    rw [vL (by omega)] at hb0
    have hb1:Ar.j3 a b (i:Int) (k:Int) out true=Ar.j6 b (k:Int) out (i:Int):=by
     unfold Ar.j3 Ar.j4 Ar.j5
     rw [wD,vK (by omega),vQ,vK (by omega),vQ,vQ,vQ,vQ]
    rw [Gk (show (fun q':Int×Int×List Ac=>Ar.l2 a b q'.1 q'.2.1 q'.2.2) ((i:Int),(k:Int),out)=_ from (hb0.trans hb1).trans (takeB i y hy)),ih (n - 1) (by omega) i (k + 1) (out ++ [y]) (by omega) hi (by omega) (by rw [vR,vT]; omega),hil,yM,D6,D6,Nw hy,wT]
    rfl
   ·have hkl:k=b.length:=by omega
    rw [vK (by omega)] at hb0
    refine K6 ?_
    show Ar.l2 a b (i:Int) (k:Int) out=_
    rw [hb0]
    unfold Ar.j3
    rw [vQ,hil,hkl,yM,yM,D6,zY]
    refine congrArg up ?_
    unfold dQ
    cases decide (64 < (out.length:Int)) <;> rfl
theorem aO (a b:List Ac) (fa:∀ e∈a,Nj e) (fb:∀ e∈b,Nj e):Ar a b=some (K9 a b):=by
 have hj1:Ar.j1 a b true=some ([],16):=rfl
 unfold Ar K9
 rw [K0 a fa,vI,K0 b fb,vI]
 by_cases h1:Gb a=0
 ·rw [vL h1,wM,vQ,xX]
  by_cases h2:Gb b=0
  ·rw [vL h2,wM,vQ]
   obtain⟨la,oa,sa⟩:=G1.1 h1
   obtain⟨lb,ob,sb⟩:=G1.1 h2
   unfold Ar.j1
   rw [vQ]
   exact eJ la lb (fun e he=>Mj (oa e he)) (fun e he=>Mj (ob e he)) _ 0 0 [] rfl (wV _) (wV _) (wR _)
  ·rw [vK h2,xD,hj1]; rfl
 ·rw [vK h1,xD,wD,hj1]; rfl
theorem eG (a b:List Ac):(K9 a b).1.length<=128/\(∀ e∈(K9 a b).1,S1 e=true):=by
 unfold K9
 by_cases h1:Gb a=0
 ·rw [vL h1,wM,xX]
  by_cases h2:Gb b=0
  ·rw [vL h2,wM,vQ]
   obtain⟨la,oa,sa⟩:=G1.1 h1
   obtain⟨lb,ob,sb⟩:=G1.1 h2
   obtain⟨m1,m2⟩:=Lt _ a b (wR _) sa sb
   unfold dQ
   cases hd:decide (64 < ((D6 a b).length:Int)) with
   | true=>exact⟨wV _,fun e he=>by cases he⟩
   | false=>
    have:=zF hd
    refine⟨by show (D6 a b).length<=128; omega,fun e he=>?_⟩
    rcases wW.1 (m1.mem_iff.1 he) with h | h
    ·exact ob e h
    ·exact oa e (yW.1 h).1
  ·rw [vK h2]
   exact⟨wV _,fun e he=>by cases he⟩
 ·rw [vK h1]
  exact⟨wV _,fun e he=>by cases he⟩
theorem Z4 {e:Ac} (h1:e.Alias.size<=100) (h2:e.Chain=[]):Nj e:=⟨by omega,fun c hc=>by rw [h2] at hc; cases hc⟩
def oM:List Ac:=[(Ac.mk (⟨#[97]⟩:ByteArray) (Ax.mk 5 2048) 0 false ([]:(List Ab))),(Ac.mk (⟨#[98]⟩:ByteArray) (Ax.mk 5 2048) 1 false ([]:(List Ab)))]
def oY:List Ac:=[(Ac.mk (⟨#[98]⟩:ByteArray) (Ax.mk 5 2048) 2 false ([]:(List Ab))),(Ac.mk (⟨#[99]⟩:ByteArray) (Ax.mk 5 2048) 0 false ([]:(List Ab)))]
def mH:List Ac:=[(Ac.mk (⟨#[97]⟩:ByteArray) (Ax.mk 5 2048) 0 false ([]:(List Ab))),(Ac.mk (⟨#[98]⟩:ByteArray) (Ax.mk 5 2048) 2 false ([]:(List Ab))),(Ac.mk (⟨#[99]⟩:ByteArray) (Ax.mk 5 2048) 0 false ([]:(List Ab)))]
theorem Rf {l:List Ac} (h:l.all (fun e=>decide (e.Alias.size<=100) && decide (e.Chain=[]))=true):∀ e∈l,Nj e:=fun e he=>by
 have:=vY.1 h e he
 rw [vN] at this
 exact Z4 (xB this.1) (xB this.2)
theorem R7:Ha=some true:=by
 have e1:D6 oM oY=mH:=by
  unfold oM oY
  rw [D6,if_pos (by decide +kernel),D6,if_neg (by decide +kernel),if_pos (by rfl),D6]
  rfl
 have a0:Gb oM=0:=by decide +kernel
 have b0:Gb oY=0:=by decide +kernel
 have m0:Gb mH=0:=by decide +kernel
 have fa:∀ e∈oM,Nj e:=Rf (by decide +kernel)
 have fb:∀ e∈oY,Nj e:=Rf (by decide +kernel)
 have fm:∀ e∈mH,Nj e:=Rf (by decide +kernel)
 have hm:Az oM oY=some (mH,0):=by
  rw [Y7 oM oY (fun _ _=>by decide) (by decide) (by decide) fa fb]
  unfold K9
  rw [a0,b0,e1]
  rfl
 unfold Ha
 show (Az oM oY).bind _=_
 rw [hm,vI]
 have hf:E8 mH ⟨#[98]⟩=some (Ni mH ⟨#[98]⟩):=Xf mH _ (Gj (by decide)) (fun e he=>Mj ((G1.1 m0).2.1 e he))
 simp only []
 rw [hf,vI,Lx mH (by decide) fm,m0]
 rfl
end
section
open Go
def mD (e:Ac):Prop:=(Ld e.Key.Alg/\Ld e.Key.Bits/\Ld e.KeyId)/\∀ c∈e.Chain,Kz c
theorem hZ {d:Af} (h:Mo d) {alias name:ByteArray} {id:Int} (ha:Eh alias=true) (hs:Eh name=true) (hs31:name.size<=31) (hid:0<=id/\id<=2147483648) :
  Ok (E3 d alias name id) (fun y=>(y.1.Alias=alias/\S1 y.1=true/\mD y.1)/\Mo y.2):=by
 unfold E3
 refine Ok.bind (kR h) fun y1 h1=>?_
 refine Ok.bind (aE h1.2 2 (by omega) (by omega)) fun y2 h2=>?_
 refine Ok.bind (aE h2 5 (by omega) (by omega)) fun y3 h3=>?_
 refine Ok.cond (fun _=>?_) fun _=>?_
 ·refine Ok.bind (eP h3 hs hs31 h1.1 hid) fun y4 h4=>?_
  refine Ok.ret ⟨⟨rfl,?_,⟨h1.1.1.1.i64,h1.1.1.2.i64,show Ld id by unfold Ld; omega⟩,fun c hc=>(h4.1.2.1 c hc).2⟩,h4.2⟩
  show (Eh alias && F2 y1.1 id y4.1)=true
  rw [ha,Yj h1.1.2 hid (by have:=h4.1.1; omega) (fun c hc=>(h4.1.2.1 c hc).1) h4.1.2.2]
  rfl
 ·refine Ok.ret ⟨⟨rfl,?_,⟨h1.1.1.1.i64,h1.1.1.2.i64,show Ld id by unfold Ld; omega⟩,fun c hc=>by cases hc⟩,h3⟩
  show (Eh alias && F2 y1.1 id [])=true
  rw [ha,Yj h1.1.2 hid (wV _) (fun c hc=>by cases hc) rfl]
  rfl
def k4:List ByteArray:=[(⟨#[107,49]⟩:ByteArray),(⟨#[107,50]⟩:ByteArray),(⟨#[107,51]⟩:ByteArray),(⟨#[107,52]⟩:ByteArray)]
def mN (l:List Ac):Prop:=l.length<=4/\∀ (j:Nat) (e:Ac),l[j]?=some e->k4[j]?=some e.Alias/\S1 e=true/\mD e
structure Mu (n:Nat) (l:List Ac):Prop where
 len:l.length<=n
 ok:∀ e∈l,S1 e=true
 str:U4 l
theorem Mu.zero {n:Nat} {l:List Ac} (h:Mu n l) (hn:n<=64):Gb l=0:=G1.2 ⟨by have:=h.len; omega,h.ok,h.str⟩
theorem Mu.few {n:Nat} {l:List Ac} (h:Mu n l):∀ e∈l,Ng e.Chain:=fun e he=>Mj (h.ok e he)
theorem Mu.drop {n:Nat} {l:List Ac} (h:Mu n l) (k:Nat):Mu n (l.drop k):=⟨by rw [wF]; have:=h.len; omega,fun e he=>h.ok e (xV he),h.str.sublist (List.drop_sublist k l)⟩
theorem Ww {e:Ac} (h:S1 e=true):Nj e:=by
 have hf:=Mj h
 unfold S1 at h
 rw [vN] at h
 refine⟨by have:=I4 h.1; omega,fun c hc=>?_⟩
 have h2:=h.2
 unfold F2 at h2
 simp only [vN,xG] at h2
 obtain⟨_,_,_,h3,_⟩:=h2
 have hcs:Dq c=true:=by
  cases hb:Dq c with
  | true=>rfl
  | false=>
   have:(e.Chain.any fun c=>!Dq c)=true:=wY.2 ⟨c,hc,by rw [hb]; rfl⟩
   rw [this] at h3; cases h3
 obtain⟨v1,v2,v3,v4⟩:=Ja hcs
 exact⟨by omega,fun s hs=>by have:=v4 s hs; omega,by omega,by omega⟩
theorem Mu.fit {n:Nat} {l:List Ac} (h:Mu n l):∀ e∈l,Nj e:=fun e he=>Ww (h.ok e he)
end
section
open Go
def Rh (e:Ac):List Aa:=[F8 e.Alias,Rc e.Key,H3 e.KeyId,Pa e.Secret,Li (e.Chain.map I1)]
def Ie (e:Ac):Aa:=Li (Rh e)
def T3 (l:List Ac):Aa:=Li (l.map Ie)
theorem V7 (n:Int):(H3 n).sz<=18:=by
 have:=Rp ⟨n,n⟩
 unfold Rc at this
 rw [Ge] at this
 simp only [Ij] at this
 omega
theorem kP {c:Ab} (h:Dq c=true):(I1 c).sz<=1024:=by
 have hb:=N3 h
 have hs:=S5 c.Seal
 unfold I1
 rw [Ge]
 have hB:(Jf c).sz=Ij (Kk c) + 1:=Ge _
 simp only [Ij]; omega
theorem Py:∀ l:List Ab,(∀ c∈l,Dq c=true)->Ij (l.map I1)<=1024 * l.length
 | [],_=>wR _
 | c :: l,h=>by
  have h1:=kP (h c (.head _))
  have h2:=Py l fun c hc=>h c (.tail _ hc)
  rw [xL,Ij,xA]; omega
theorem dX {key:Ax} {id:Int} {l:List Ab} (h:F2 key id l=true):l.length<=8/\∀ c∈l,Dq c=true:=by
 unfold F2 at h
 simp only [vN,xG,xT] at h
 obtain⟨_,_,h1,h3,_⟩:=h
 refine⟨by omega,fun c hc=>?_⟩
 cases hb:Dq c with
 | true=>rfl
 | false=>
  have:(l.any fun c=>!Dq c)=true:=wY.2 ⟨c,hc,by rw [hb]; rfl⟩
  rw [this] at h3; cases h3
theorem Nz {e:Ac} (h:S1 e=true):Eh e.Alias=true/\e.Chain.length<=8/\(∀ c∈e.Chain,Dq c=true):=by
 unfold S1 at h
 rw [vN] at h
 obtain⟨h1,h2⟩:=dX h.2
 exact⟨h.1,h1,h2⟩
theorem Tw {e:Ac} (h:S1 e=true):Ij (Rh e)<=9000:=by
 obtain⟨h1,h2,h3⟩:=Nz h
 have a:=I4 h1
 have b:=Wp e.Alias
 have c:=Rp e.Key
 have d:=V7 e.KeyId
 have f:=Py e.Chain h3
 have g:(Pa e.Secret).sz<=10:=by cases e.Secret <;> decide
 unfold Rh
 simp only [Ij,Ge]
 omega
theorem Ov:∀ l:List Ac,(∀ e∈l,S1 e=true)->Ij (l.map Ie)<=9001 * l.length
 | [],_=>wR _
 | e :: l,h=>by
  have h1:=Tw (h e (.head _))
  have h2:=Ov l fun c hc=>h c (.tail _ hc)
  have h3:(Ie e).sz=Ij (Rh e) + 1:=Ge _
  rw [xL,Ij,xA]; omega
theorem gP {c:Ab} (hc:Dq c=true):Fb c=some (I1 c):=by
 have hb:=N3 hc
 have he:=Yd (c:=c) (by omega)
 have hs:=S5 c.Seal
 unfold R1 at hs
 rw [Ge] at hs
 unfold Fb
 rw [iM c hc,vI,N4,vI,N4,vI,Qp _ (by omega),vI]
 have e:Gg [Jf c,Aa.mk 48 [] true [H3 c.Seal.Key,H3 c.Seal.Sum]]=some (I1 c):=Qp [Jf c,R1 c.Seal] (by omega)
 rw [e,vI]
theorem aD {e:Ac} (h:S1 e=true):Cp e=some (Ie e):=by
 obtain⟨h1,h2,h3⟩:=Nz h
 have hz:=Tw h
 have hch:Ij (e.Chain.map I1) < 1073741824:=by have:=Py e.Chain h3; omega
 unfold Cp
 refine D8 (body:=fun q'=>Cp.l1 e q'.1 q'.2) e.Chain.length (fun i=>((i:Int),(e.Chain.take i).map I1)) _ (fun i hi=>?_) ?_
 ·obtain⟨c,hc⟩:∃ c,e.Chain[i]?=some c:=⟨_,vJ hi⟩
  show Cp.l1 e (i:Int) ((e.Chain.take i).map I1)=_
  unfold Cp.l1
  rw [Dw hc,gP (h3 c (Ef hc)),vI,Dj (by rw [yH,vU,vT]; omega),vI,Du (by omega),En hc,xK]
  rfl
 ·show Cp.l1 e (e.Chain.length:Int) ((e.Chain.take e.Chain.length).map I1)=_
  unfold Cp.l1
  rw [Db,wP,show Gv e.Alias=some (F8 e.Alias) from rfl,vI,aZ,vI,N4,vI,Yr,vI,Uy _ hch,vI]
  have e1:Gg [F8 e.Alias,Rc e.Key,H3 e.KeyId,Pa e.Secret,Li (e.Chain.map I1)]=some (Ie e):=Qp (Rh e) (by omega)
  exact (congrArg (fun o=>up (Option.bind o fun y_11=>some y_11)) e1).trans rfl
def kG (l:List Ac):List UInt8×Int:=Yu (T3 l)
theorem cX {n:Nat} {l:List Ac} (h:Mu n l) (hn:n<=64):Cd l=some (kG l):=by
 have hl:=h.len
 have hz:=Ov l h.ok
 unfold Cd
 rw [Lx l (by omega) h.fit,vI,h.zero hn,vL rfl,wM,vQ]
 refine D8 (body:=fun q'=>Cd.l1 l q'.1 q'.2) l.length (fun i=>((i:Int),(l.take i).map Ie)) _ (fun i hi=>?_) ?_
 ·obtain⟨c,hc⟩:∃ c,l[i]?=some c:=⟨_,vJ hi⟩
  show Cd.l1 l (i:Int) ((l.take i).map Ie)=_
  unfold Cd.l1
  rw [Dw hc,aD (h.ok c (Ef hc)),vI,Dj (by rw [yH,vU,vT]; omega),vI,Du (by omega),En hc,xK]
  rfl
 ·show Cd.l1 l (l.length:Int) ((l.take l.length).map Ie)=_
  unfold Cd.l1
  rw [Db,wP,Uy _ (by omega),vI]
  have e1:Hx (Aa.mk 48 [] true (l.map Ie))=some (kG l):=aF (T3 l) (by unfold T3; rw [Ge]; omega)
  rw [e1]
  rfl
end
section
open Go
theorem Pq {u:Ax} (h:0 < M8 u):(1<=u.Alg/\u.Alg<=22)/\0<=u.Bits/\u.Bits<=16384:=by
 rcases u with ⟨a,b⟩
 unfold M8 at h
 by_cases ha:1<=a/\a<=22
 ·rw [if_pos ha] at h
  refine⟨ha,?_⟩
  show 0<=b/\b<=16384
  have key:∀ n:Nat,1<=n->n<=22->0 < F0 n b->0<=b/\b<=16384:=fun n h1 h2 h3=>by
   have e:n=1\/n=2\/n=3\/n=4\/n=5\/n=6\/n=7\/n=8\/n=9\/n=10\/n=11\/n=12\/n=13\/n=14\/n=15\/n=16\/n=17\/n=18\/n=19\/n=20\/n=21\/n=22:=by omega
   have once:∀ s:Int,0 < Ds s b->0<=b/\b<=16384:=fun s q=>by
    unfold Ds at q
    split at q <;> omega
   have modu:0 < Er b->0<=b/\b<=16384:=fun q=>by
    unfold Er at q
    split at q <;> omega
   have curv:0 < Jj b->0<=b/\b<=16384:=fun q=>by
    unfold Jj at q
    split at q <;> omega
   have list:∀ (sz st:List Int),sz.all (fun z=>decide (0<=z) && decide (z<=16384))=true->0 < Mf sz st b->0<=b/\b<=16384:=fun sz st hs q=>by
    unfold Mf at q
    split at q
    ·rename_i i hi
     rw [wS] at hi
     obtain⟨h1,h2,-⟩:=hi
     have h2:=xB h2
     have h3:=vY.1 hs _ (List.getElem_mem h1)
     rw [vN,xF,xF,<- h2] at h3
     exact h3
    ·omega
   rcases e with rfl | rfl | rfl | rfl | rfl | rfl | rfl | rfl | rfl | rfl | rfl | rfl | rfl | rfl | rfl | rfl | rfl | rfl | rfl | rfl | rfl | rfl <;> first | exact once _ h3 | exact modu h3 | exact curv h3 | exact list _ _ (by decide) h3
  exact key a.toNat (by omega) (by omega) h
 ·rw [if_neg ha] at h
  omega
theorem gR {c:Ab} (hw:W9 c) (h:Dq c=true):Kz c:=by
 unfold Dq Nx at h
 simp only [xY,aAs,id,Bool.or_false,xG,yE,xT,aAa,aAh] at h
 obtain⟨h1,h2,-,-,-,h6,h7,h8,h9,h10,h11,h12,h13,h14,h15,h16,h17,h18,h19,-⟩:=h
 have k1:0 < M8 c.Key:=by
  unfold Iw at h7
  rw [vN,xF] at h7
  exact h7.1
 have k2:0 < M8 c.Hash:=by
  unfold Iw at h10
  rw [vN,xF] at h10
  exact h10.1
 have r1:=Pq k1
 have r2:=Pq k2
 refine⟨by omega,hw.name,hw.issuer,hw.subject,fun n hn=>?_⟩
 simp only [wA,xE,zZ] at hn
 rcases hn with rfl | rfl | rfl | rfl | rfl | rfl | rfl | rfl | rfl | rfl | rfl <;> omega
theorem Qa {α:Type} [DecidableEq α] {body:Int->Option (Lp Int Bool)} (a b:List α) (hl:a.length=b.length) (ha:Lo a)
  (h1:∀ (i:Nat) x y,a[i]?=some x->b[i]?=some y->body (i:Int)=some (bif decide (x=y) then .next ((i + 1:Nat):Int) else .done false)) (h2:body (a.length:Int)=some (.done true)):C5 body 0=some (decide (a=b)):=by
 refine (Ly (body:=body) a.length (fun i=>(i:Int)) (fun i=>!decide (a[i]?=b[i]?)) false true (fun i hi=>?_) h2).trans ?_
 ·obtain⟨x,hx⟩:∃ x,a[i]?=some x:=⟨_,vJ hi⟩
  obtain⟨y,hy⟩:∃ y,b[i]?=some y:=⟨_,vJ (by omega)⟩
  rw [h1 i x y hx hy,hx,hy]
  by_cases e:x=y
  ·rw [vL e,vL (congrArg some e)]; rfl
  ·rw [vK e,vK (fun q=>e (oi_ q))]; rfl
 ·congr 1
  cases hq:(List.range a.length).any fun i=>!decide (a[i]?=b[i]?) with
  | false=>
   rw [vQ]
   refine (vL (List.ext_getElem? fun i=>?_)).symm
   by_cases hi:i < a.length
   ·have:=yF.1 hq i (yQ.2 hi)
    simpa using this
   ·rw [xZ (by omega),xZ (by omega)]
  | true=>
   rw [wD]
   obtain⟨i,-,hi⟩:=wY.1 hq
   refine (vK fun e=>?_).symm
   rw [e,vL rfl] at hi
   cases hi
theorem Yz {a b:List Ab} (h:Ng a):C6 a b=some (decide (a=b)):=by
 have hlo:=h.1
 unfold C6
 by_cases hl:a.length=b.length
 ·rw [vL (show (a.length:Int)=b.length by omega),wM,vQ]
  refine Qa a b hl (Gj (by omega)) (fun i x y hx hy=>?_) ?_
  ·have hi:=Jc hx
   show C6.l1 a b (i:Int)=_
   unfold C6.l1
   rw [Dw hx,Ec,hy,vI,gU x y (Gj (by have:=h.2 x (Ef hx); omega)),vI,Du (by omega)]
   cases decide (x=y) <;> rfl
  ·show C6.l1 a b (a.length:Int)=_
   unfold C6.l1
   rw [Db]; rfl
 ·rw [vK (show ¬ (a.length:Int)=b.length by omega),xD,wD,vK fun e=>hl (by rw [e])]
theorem Ys {a b:List Ab} (h:Ng a):Aw a b (fun x0 x1=>Be x0 x1)=some (decide (a=b)):=by
 have hlo:=h.1
 unfold Aw
 by_cases hl:a.length=b.length
 ·rw [vL (show (a.length:Int)=b.length by omega),wM,vQ]
  refine Qa a b hl (Gj (by omega)) (fun i x y hx hy=>?_) ?_
  ·have hi:=Jc hx
   show Aw.l1 a b (fun x0 x1=>Be x0 x1) (i:Int)=_
   unfold Aw.l1
   rw [Dw hx,Ec,hy,vI]
   show ((Be x y).bind _)=_
   rw [jO x y (Gj (by have:=h.2 x (Ef hx); omega)),vI,Du (by omega)]
   cases decide (x=y) <;> rfl
  ·show Aw.l1 a b (fun x0 x1=>Be x0 x1) (a.length:Int)=_
   unfold Aw.l1
   rw [Db]; rfl
 ·rw [vK (show ¬ (a.length:Int)=b.length by omega),xD,wD,vK fun e=>hl (by rw [e])]
theorem iQ (x y:Ac):decide (x=y)=(decide (x.Alias=y.Alias) && (decide (x.Key=y.Key) && (decide (x.KeyId=y.KeyId) && (decide (x.Secret=y.Secret) && decide (x.Chain=y.Chain))))):=by
 rcases x with ⟨x1,x2,x3,x4,x5⟩
 rcases y with ⟨y1,y2,y3,y4,y5⟩
 by_cases h1:x1=y1 <;> by_cases h2:x2=y2 <;> by_cases h3:x3=y3 <;> by_cases h4:x4=y4 <;> by_cases h5:x5=y5 <;> simp [h1,h2,h3,h4,h5]
theorem W6 {a b:List Ac} (ha:a.length<=1000000) (h:∀ e∈a,Ng e.Chain):Cc a b=some (decide (a=b)):=by
 unfold Cc
 by_cases hl:a.length=b.length
 ·rw [vL (show (a.length:Int)=b.length by omega),wM,vQ]
  refine Qa a b hl (Gj (by omega)) (fun i x y hx hy=>?_) ?_
  ·have hi:=Jc hx
   show Cc.l1 a b (i:Int)=_
   unfold Cc.l1
   rw [Dw hx,Ec,hy,vI,Yz (h x (Ef hx)),vI,iQ]
   unfold Cc.j2
   rw [Du (by omega)]
   cases decide (x.Alias=y.Alias) <;> cases decide (x.Key=y.Key) <;> cases decide (x.KeyId=y.KeyId) <;> cases decide (x.Secret=y.Secret) <;> cases decide (x.Chain=y.Chain) <;> rfl
  ·show Cc.l1 a b (a.length:Int)=_
   unfold Cc.l1
   rw [Db]; rfl
 ·rw [vK (show ¬ (a.length:Int)=b.length by omega),xD,wD,vK fun e=>hl (by rw [e])]
theorem bU {a b:List Ac} (ha:a.length<=1000000) (h:∀ e∈a,Ng e.Chain):F5 a b=some (decide (a=b)):=by
 unfold F5
 have:A8 a b (fun x0 x1=>Dn x0 x1)=some (decide (a=b)):=by
  unfold A8
  by_cases hl:a.length=b.length
  ·rw [vL (show (a.length:Int)=b.length by omega),wM,vQ]
   refine Qa a b hl (Gj (by omega)) (fun i x y hx hy=>?_) ?_
   ·have hi:=Jc hx
    show A8.l1 a b (fun x0 x1=>Dn x0 x1) (i:Int)=_
    unfold A8.l1
    rw [Dw hx,Ec,hy,vI]
    have hc:Dn x y=some (decide (x=y)):=by
     unfold Dn
     rw [Ys (h x (Ef hx)),iQ]
     cases decide (x.Alias=y.Alias) <;> cases decide (x.Key=y.Key) <;> cases decide (x.KeyId=y.KeyId) <;> cases decide (x.Secret=y.Secret) <;> cases decide (x.Chain=y.Chain) <;> rfl
    show ((Dn x y).bind _)=_
    rw [hc,vI,Du (by omega)]
    cases decide (x=y) <;> rfl
   ·show A8.l1 a b (fun x0 x1=>Dn x0 x1) (a.length:Int)=_
    unfold A8.l1
    rw [Db]; rfl
  ·rw [vK (show ¬ (a.length:Int)=b.length by omega),xD,wD,vK fun e=>hl (by rw [e])]
 rw [this]
 rfl
theorem eM (l:List Ac) (s:ByteArray) (hl:Lo l) (hw:∀ e∈l,Ng e.Chain):Dz l s=some (Ni l s):=by
 unfold Dz
 refine (L5 (body:=fun q'=>Dz.l1 l s q') l (fun i=>(i:Int)) (fun x=>decide (x.Alias=s)) (fun i=>(l.getD i zE,true)) (zE,false) (fun i x hx=>?_) ?_).trans ?_
 ·have hi:=Jc hx
  show Dz.l1 l s (i:Int)=_
  unfold Dz.l1
  rw [Dw hx,Xd (hw x (Ef hx)),vI,Du (by unfold Lo at hl; omega),yK,hx]
  cases decide (x.Alias=s) <;> rfl
 ·show Dz.l1 l s (l.length:Int)=_
  unfold Dz.l1
  rw [Db]; rfl
 ·unfold Ni
  rcases T6 l (fun x=>decide (x.Alias=s)) with ⟨h1,h2⟩ | ⟨i,e,h1,h2,h3⟩
  ·rw [h1]
   unfold On at h2
   cases hf:l.findIdx? fun x=>decide (x.Alias=s) with
   | none=>rfl
   | some i=>rw [hf] at h2; exact absurd h2 (by show ¬ (i:Int)=-1; omega)
  ·rw [h2]
   unfold On at h3
   cases hf:l.findIdx? fun x=>decide (x.Alias=s) with
   | none=>rw [hf] at h3; exact absurd h3 (by show ¬ (-1:Int)=(i:Int); omega)
   | some k=>
    rw [hf] at h3
    have h3:(k:Int)=(i:Int):=h3
    obtain rfl:k=i:=by omega
    show some (l.getD k zE,true)=_
    rw [yK,h1]; rfl
theorem Yq {e:Ac} (h:S1 e=true):0 < M8 e.Key/\0<=e.KeyId/\e.KeyId<=2147483648:=by
 unfold S1 F2 Iw dE at h
 simp only [vN,xF,xG,yE,xT] at h
 exact⟨h.2.1.1,by omega,by omega⟩
theorem Wt {e:Ac} (h:S1 e=true):Da e=some (Ie e):=by
 obtain⟨h1,h2,h3⟩:=Nz h
 obtain⟨n1,n2,n3⟩:=Yq h
 have n4:=Pq n1
 have hz:=Tw h
 have hch:Ij (e.Chain.map I1) < 1073741824:=by have:=Py e.Chain h3; omega
 have hfit:=Ww h
 unfold Da
 refine D8 (body:=fun q'=>Da.l1 e q'.1 q'.2) e.Chain.length (fun i=>((i:Int),(e.Chain.take i).map I1)) _ (fun i hi=>?_) ?_
 ·obtain⟨c,hc⟩:∃ c,e.Chain[i]?=some c:=⟨_,vJ hi⟩
  have hcs:=h3 c (Ef hc)
  have hb:=N3 hcs
  show Da.l1 e (i:Int) ((e.Chain.take i).map I1)=_
  unfold Da.l1
  rw [Dw hc,jE c (gR (hfit.chain c (Ef hc)) hcs) (by omega),vI,Dj (by rw [yH,vU,vT]; omega),vI,Du (by omega),En hc,xK]
  rfl
 ·show Da.l1 e (e.Chain.length:Int) ((e.Chain.take e.Chain.length).map I1)=_
  unfold Da.l1
  rw [Db,wP,Et _ (by omega) (by omega),vI,Et _ (by omega) (by omega),vI]
  have hu:De [H3 e.Key.Alg,H3 e.Key.Bits]=some (Rc e.Key):=Ft [H3 e.Key.Alg,H3 e.Key.Bits] (by
   have a1:=V7 e.Key.Alg
   have a2:=V7 e.Key.Bits
   simp only [Ij]; omega)
  rw [hu,vI,show E1 e.Alias=some (F8 e.Alias) from rfl,vI,Et _ (by omega) (by omega),vI,Oz,vI,Ft _ hch,vI]
  have e1:De [F8 e.Alias,Rc e.Key,H3 e.KeyId,Pa e.Secret,Li (e.Chain.map I1)]=some (Ie e):=Ft (Rh e) (by omega)
  exact (congrArg (fun o=>up (Option.bind o fun y_11=>some y_11)) e1).trans rfl
theorem X8 {n:Nat} {l:List Ac} (h:Mu n l) (hn:n<=64):C8 l=some (kG l):=by
 have hl:=h.len
 have hz:=Ov l h.ok
 unfold C8
 rw [K0 l h.fit,vI,h.zero hn,vL rfl,wM,vQ]
 refine D8 (body:=fun q'=>C8.l1 l q'.1 q'.2) l.length (fun i=>((i:Int),(l.take i).map Ie)) _ (fun i hi=>?_) ?_
 ·obtain⟨c,hc⟩:∃ c,l[i]?=some c:=⟨_,vJ hi⟩
  show C8.l1 l (i:Int) ((l.take i).map Ie)=_
  unfold C8.l1
  rw [Dw hc,Wt (h.ok c (Ef hc)),vI,Dj (by rw [yH,vU,vT]; omega),vI,Du (by omega),En hc,xK]
  rfl
 ·show C8.l1 l (l.length:Int) ((l.take l.length).map Ie)=_
  unfold C8.l1
  rw [Db,wP,Ft _ (by omega),vI]
  have e1:Fw (Aa.mk 48 [] true (l.map Ie))=some (kG l):=Pl (T3 l) (by unfold T3; rw [Ge]; omega)
  rw [e1]
  rfl
theorem fT {l:List Ac} (hl:l.length<=1000) (hf:∀ e∈l,Nj e):∃ r,Cd l=some r/\C8 l=some r:=by
 by_cases h0:Gb l=0
 ·obtain⟨h1,h2,h3⟩:=G1.1 h0
  have D:Mu 64 l:=⟨h1,h2,h3⟩
  exact⟨_,cX D (wR _),X8 D (wR _)⟩
 ·have h16:Gb l=16:=by
   unfold Gb at h0 ⊢
   cases hq:(List.range l.length).any (P1 l) || decide (64 < (l.length:Int)) with
   | true=>rfl
   | false=>rw [hq] at h0; exact absurd rfl h0
  refine⟨([],16),?_,?_⟩
  ·unfold Cd
   rw [Lx l (by omega) hf,vI,h16]; rfl
  ·unfold C8
   rw [K0 l hf,vI,h16]; rfl
end
section
open Go
theorem cV {d:Af} (h:Mo d) {name:ByteArray} (hs:Eh name=true) (hs31:name.size<=31):Ok (E2 d name) (fun y=>(1<=y.1.length/\mN y.1)/\Mo y.2):=by
 unfold E2
 refine Ok.bind (Jw h 4 (by omega) (by omega)) fun y1 h1=>?_
 have hy1:=h1.1
 rw [Hy (by omega)]
 refine Ok.loop (fun s=>0<=s.1/\s.1 + s.2.2.length=1 + y1.1/\Mo s.2.1/\mN s.2.2) (fun s=>s.1.toNat) (fun s hs'=>?_) ⟨by show 0<=1 + y1.1; omega,by show 1 + y1.1 + ((([]:List Ac).length:Nat):Int)=1 + y1.1; simp,h1.2,⟨wV _,fun j e he=>by cases he⟩⟩
 obtain⟨i,d1,l⟩:=s
 obtain⟨a1,a2,a3,a4⟩:=hs'
 dsimp only at a1 a2 a3 a4
 show Ok (E2.l2 name i d1 l) _
 unfold E2.l2
 refine Ok.cond (fun hb=>?_) fun hb=>?_
 ·have hb:=xB hb
  obtain⟨e,he⟩:∃ e,k4[l.length]?=some e:=⟨_,vJ (show l.length < 4 by omega)⟩
  refine Ok.bindE (a:=e) (by rw [Ec]; exact he) ?_
  have hes:Eh e=true:=by
   have:=vZ he
   unfold k4 at this
   simp only [wA,xE,zZ] at this
   rcases this with rfl | rfl | rfl | rfl <;> decide +kernel
  refine Ok.bind (Jw a3 3 (by omega) (by omega)) fun y2 h2=>?_
  have hy2:=h2.1
  rw [Hy (x:=y2.1 * 10) (by omega),Hy (x:=100 + (l.length:Int)) (by omega),Hy (by omega)]
  refine Ok.bind (hZ h2.2 hes hs hs31 (by omega)) fun y3 h3=>?_
  refine Ok.bind (Qi (by rw [vT]; omega)) fun l' hl'=>?_
  subst hl'
  rw [Hy (by omega)]
  refine Ok.ret ⟨⟨by show 0<=i - 1; omega,?_,h3.2,?_⟩,?_⟩
  ·show i - 1 + ((l ++ [y3.1]).length:Int)=1 + y1.1
   rw [vR,vT]; omega
  ·refine⟨by show (l ++ [y3.1]).length<=4; rw [vR,vT]; omega,fun j x hx=>?_⟩
   have hx:(l ++ [y3.1])[j]?=some x:=hx
   rw [zO] at hx
   split at hx
   ·exact a4.2 j x hx
   ·rename_i hj
    have hj0:j - l.length=0:=by
     have:=Jc hx
     rw [vT] at this
     omega
    rw [hj0] at hx
    injection hx with hx
    subst hx
    rw [show j=l.length by omega,he,h3.1.1]
    exact⟨rfl,h3.1.2⟩
  ·show (i - 1).toNat < i.toNat; omega
 ·have hb:=zF hb
  exact Ok.up (Ok.ret ⟨⟨by show 1<=l.length; omega,a4⟩,a3⟩)
structure Rk (e:Ac):Prop where
 fit:Nj e
 few:Ng e.Chain
theorem Rk.of {e:Ac} (h:S1 e=true):Rk e:=⟨Ww h,Mj h⟩
theorem aT {l:List Ac} {j:Nat} {x:Ac} (h:∀ e∈l,Rk e) (hx:Rk x):∀ e∈Hf l j x,Rk e:=fun e he=>by
 unfold Hf at he
 rcases yS he with q | q
 ·exact h e q
 ·rw [q]; exact hx
theorem Rs {α:Type} (l:List α) (j:Nat) (x:α):(Hf l j x).length=l.length:=by unfold Hf; simp
theorem Yw {d:Af} (hd:Mo d):Ok (Ek d) (fun y=>(y.1.length<=5/\∀ e∈y.1,Rk e)/\Mo y.2):=by
 unfold Ek
 refine Ok.bind (cV hd (by decide +kernel) (by decide)) fun y hy=>?_
 obtain⟨⟨hy1,hy4,hym⟩,hyd⟩:=hy
 have hall:∀ e∈y.1,Rk e:=fun e he=>by
  obtain⟨k,hk,rfl⟩:=xI he
  exact Rk.of (hym k _ (vJ hk)).2.1
 have hokl:∀ e∈y.1,S1 e=true:=fun e he=>by
  obtain⟨k,hk,rfl⟩:=xI he
  exact (hym k _ (vJ hk)).2.1
 refine Ok.bind (Jw hyd _ (by omega) (by omega)) fun y2 h2=>?_
 have b2:=h2.1
 refine Ok.bind (Sw b2.1 (by omega)) fun e he=>?_
 have hm:=Ef he
 have ho:=hall e hm
 have hok:=hokl e hm
 refine Ok.bind (Jw h2.2 12 (by omega) (by omega)) fun y3 h3=>?_
 have fin:∀ (x:Ac) (d':Af),Rk x->Mo d'->Ok (some (Hf y.1 y2.1.toNat x,d')) (fun z=>(z.1.length<=5/\∀ e∈z.1,Rk e)/\Mo z.2):=fun x d' hx hd'=>Ok.ret ⟨⟨by show (Hf y.1 _ x).length<=5; rw [Rs]; omega,aT hall hx⟩,hd'⟩
 have same:∀ d',Mo d'->Ok (some (y.1,d')) (fun z=>(z.1.length<=5/\∀ e∈z.1,Rk e)/\Mo z.2):=fun d' hd'=>Ok.ret ⟨⟨by show y.1.length<=5; omega,hall⟩,hd'⟩
 refine Ok.cond (fun _=>Ok.bind (cE h3.2 _ (by decide) (by decide)) fun z hz=>fin _ _ ⟨⟨?_,ho.fit.chain⟩,ho.few⟩ hz.2) (fun _=>?_)
 ·show z.1.size<=_
  have:=hz.1
  simp only [wA,xE,zZ] at this
  rcases this with q | q | q | q <;> rw [q] <;> decide
 refine Ok.cond (fun _=>Ok.bind (Oj h3.2 _ (by decide) (by decide)) fun z hz=>fin _ _ ⟨⟨ho.fit.alias,ho.fit.chain⟩,ho.few⟩ hz.2) (fun _=>?_)
 refine Ok.cond (fun _=>Ok.bind (Oj h3.2 _ (by decide) (by decide)) fun z hz=>fin _ _ ⟨⟨ho.fit.alias,ho.fit.chain⟩,ho.few⟩ hz.2) (fun _=>?_)
 refine Ok.cond (fun _=>?_) (fun _=>?_)
 ·refine Ok.cond (fun hc=>?_) (fun _=>same _ h3.2)
  have hc:=xB hc
  refine Ok.bind (Sw (by omega) (by omega)) fun c hcx=>?_
  have hcm:=Ef hcx
  have hw:=ho.fit.chain c hcm
  refine fin _ _ ⟨⟨ho.fit.alias,fun q hq=>?_⟩,?_,fun q hq=>?_⟩ h3.2
  ·rcases yS (show q∈List.set _ _ _ from hq) with k | k
   ·exact ho.fit.chain q k
   ·rw [k]; exact⟨hw.names,hw.name,hw.issuer,hw.subject⟩
  ·show (Hf e.Chain _ _).length<=20
   unfold Hf
   rw [aAp]
   exact ho.few.1
  ·rcases yS (show q∈List.set _ _ _ from hq) with k | k
   ·exact ho.few.2 q k
   ·rw [k]; exact ho.few.2 c hcm
 refine Ok.cond (fun _=>?_) (fun _=>?_)
 ·obtain⟨p1,p2,p3⟩:=Nz hok
  obtain⟨n1,n2,n3⟩:=Yq hok
  have n4:=Pq n1
  refine Ok.loop (fun s:Int×Af×List Ac=>(0<=s.1/\s.1<=9)/\Mo s.2.1/\s.2.2.length=y.1.length/\(∀ x∈s.2.2,Rk x)/\∃ x,s.2.2[y2.1.toNat]?=some x/\x.Key=e.Key/\x.KeyId=e.KeyId/\(x.Chain.length:Int)<=8 + s.1) (fun s=>(9 - s.1).toNat) ?_ ⟨by show (0:Int)<=0/\(0:Int)<=9; omega,h3.2,rfl,hall,e,he,rfl,rfl,by show (e.Chain.length:Int)<=8 + 0; omega⟩
  rintro⟨i,d',l⟩ ⟨q1,q2,q3,q4,x,q5,q6,q7,q8⟩
  dsimp only at q1 q2 q3 q4 q5 q8
  show Ok (Ek.l1 y2 i d' l) _
  unfold Ek.l1
  refine Ok.cond (fun hb=>?_) (fun _=>Ok.up (Ok.ret ⟨⟨by show l.length<=5; omega,q4⟩,q2⟩))
  have hb:=xB hb
  have hxo:=q4 x (Ef q5)
  refine Ok.bindE q5 ?_
  have hku:Iw e.Key 2=true:=by
   have:=hok
   unfold S1 F2 at this
   simp only [vN] at this
   exact this.2.1
  refine Ok.bind (Tj q2 true (by decide +kernel) (by decide +kernel) (by decide) (by rw [q6]; exact⟨⟨by unfold Sm; omega,by unfold Sm; omega⟩,hku⟩) (by rw [q7]; omega) (by omega)) fun z hz=>?_
  refine Ok.bindE (Dj (by rw [vT]; omega)) ?_
  rw [Hy (by omega)]
  refine Ok.ret ⟨⟨by show 0<=i + 1/\i + 1<=9; omega,hz.2,by show (Hf l _ _).length=_; rw [Rs]; exact q3,?_,?_⟩,by show (9 - (i + 1)).toNat < (9 - i).toNat; omega⟩
  ·refine aT q4 ⟨⟨hxo.fit.alias,fun c hc=>?_⟩,?_,fun c hc=>?_⟩
   ·rcases wW.1 hc with k | k
    ·exact hxo.fit.chain c k
    ·rw [vX.1 k]; exact hz.1.fit.w
   ·show (x.Chain ++ [z.1]).length<=20
    rw [vR,vT]; omega
   ·rcases wW.1 hc with k | k
    ·exact hxo.few.2 c k
    ·rw [vX.1 k]
     rcases hz.1.names with q | q <;> rw [q] <;> simp
  ·refine⟨_,mC q5,q6,q7,?_⟩
   show (((x.Chain ++ [z.1]).length:Nat):Int)<=8 + (i + 1)
   rw [vR,vT]; omega
 refine Ok.cond (fun _=>?_) (fun _=>same _ h3.2)
 refine Ok.bind (P8 (by omega) (by omega)) fun x hx=>?_
 refine Ok.bindE (Dj (by rw [vT]; omega)) (Ok.ret ⟨⟨by show (y.1 ++ [x]).length<=5; rw [vR,vT]; omega,fun q hq=>?_⟩,h3.2⟩)
 rcases wW.1 hq with k | k
 ·exact hall q k
 ·rw [vX.1 k]; exact hall x hx
theorem iF {l:List Ac} (h:∀ e∈l,Rk e) (s:ByteArray):Ng (Ni l s).1.Chain:=by
 unfold Ni
 cases hf:l.find? (fun x=>decide (x.Alias=s)) with
 | none=>exact⟨by decide,fun c hc=>by cases hc⟩
 | some e=>exact (h e (List.mem_of_find?_eq_some hf)).few
theorem Re (t:List Int) (alias:ByteArray):Cf t alias=some true:=by
 have j1:Cf.j1 t alias true=some true:=by
  unfold Cf.j1
  rw [wD,R7]; rfl
 unfold Cf J2
 rw [vI]
 by_cases hl:(t.length:Int)<=400
 ·rw [vL hl,wM,vQ]
  by_cases ha:100 < (alias.size:Int)
  ·rw [vL ha]; exact j1
  rw [vK ha]
  unfold Cf.j1
  rw [vQ]
  refine Ok.true_ ?_
  refine Ok.bind (lR (by omega)) fun d hd=>?_
  refine Ok.bind (Yw hd) fun x hx=>?_
  refine Ok.bind (Yw hx.2) fun y hy=>?_
  have fx:∀ e∈x.1,Nj e:=fun e he=>(hx.1.2 e he).fit
  have wx:∀ e∈x.1,Ng e.Chain:=fun e he=>(hx.1.2 e he).few
  have fy:∀ e∈y.1,Nj e:=fun e he=>(hy.1.2 e he).fit
  have lx:=hx.1.1
  have ly:=hy.1.1
  obtain⟨r,r1,r2⟩:=fT (l:=x.1) (by omega) fx
  refine Ok.bindE r1 (Ok.bindE r2 ?_)
  refine Ok.bindE (Y7 x.1 y.1 (fun _ _=>by unfold H4; omega) (by omega) (by omega) fx fy) ?_
  refine Ok.bindE (aO x.1 y.1 fx fy) ?_
  refine Ok.bind (cE hy.2 _ (by simp) (by simp)) fun w hw=>?_
  refine Ok.bindE (Xf x.1 w.1 (Gj (by omega)) wx) ?_
  refine Ok.bindE (eM x.1 w.1 (Gj (by omega)) wx) ?_
  refine Ok.bindE (Lx x.1 (by omega) fx) (Ok.bindE (K0 x.1 fx) ?_)
  have hm:=eG x.1 y.1
  have s1:=W6 (a:=(K9 x.1 y.1).1) (b:=(K9 x.1 y.1).1) (by omega) (fun e he=>Mj (hm.2 e he))
  have s2:=W6 (a:=[(Ni x.1 w.1).1]) (b:=[(Ni x.1 w.1).1]) (by simp) (fun e he=>by rw [vX.1 he]; exact iF hx.1.2 w.1)
  have s3:=bU (a:=x.1) (b:=y.1) (by omega) wx
  have s4:=W6 (a:=x.1) (b:=y.1) (by omega) wx
  have s5:=bU (a:=x.1) (b:=x.1) (by omega) wx
  rw [vL rfl] at s1 s2 s5
  refine⟨true,?_,rfl⟩
  simp only [decide_true,wD,s1,s2,s3,s4,s5,vI,R7]
 ·rw [vK hl,xD,wD]
  exact j1
end
end Go.Proofs.YtfanepojdefdpaaGreat
