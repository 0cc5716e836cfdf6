/- Plain texts, joined. No program is in sight here. -/
import Derived.Test.YtfanepojdefdpaaGreatQ3
import Derived.Test.YtfanepojdefdpaaGreatM2
import Derived.Test.YtfanepojdefdpaaGreatOP
import Derived.Test.YtfanepojdefdpaaGreatK8
import Derived.Test.YtfanepojdefdpaaGreatSEapi_Entry
import Derived.Test.YtfanepojdefdpaaGreatR3
set_option linter.unusedVariables false
set_option linter.unusedSimpArgs false
set_option autoImplicit false
set_option maxRecDepth 100000
namespace Go.Proofs.YtfanepojdefdpaaGreat
section
open Go
structure Th (e:Ac):Prop where
 alias:e.Alias.size<=9223372036854775807
 chain:∀ c∈e.Chain,aX c
def zE:Ac:=Ac.mk ⟨#[]⟩ (Aw.mk 0 0) 0 false []
def So (x y:Ac):Bool:=Q3 (J7 x.Alias) (J7 y.Alias)
def Zp (e:Ac):Bool:=Fq e.Alias && H7 e.Key e.KeyId e.Chain
def Us (l:List Ac) (i:Nat):Bool:=!Fq (l.getD i zE).Alias || ((decide (0 < i) && !So (l.getD (i - 1) zE) (l.getD i zE)) || !H7 (l.getD i zE).Key (l.getD i zE).KeyId (l.getD i zE).Chain)
def Jb (l:List Ac):Int:=bif (List.range l.length).any (Us l) || decide (64 < (l.length:Int)) then 16 else 0
theorem Tx (l:List Ac) (hl:l.length<=1000000) (hf:∀ e∈l,Th e):By l=some (Jb l):=by
 unfold By
 refine (aK (body:=fun q'=>By.l1 l q') l.length (Us l) (16:Int) (bif decide (64 < (l.length:Int)) then 16 else 0) (by omega) (fun i hi=>?_) ?_).trans ?_
 ·obtain⟨e,he⟩:∃ e,l[i]?=some e:=⟨_,aA1 hi⟩
  have hfe:=hf e (F5 he)
  show By.l1 l (i:Int)=_
  unfold By.l1 Us
  rw [Fm he,Qs _ hfe.alias,aAo,Jd he,lR _ _ _ hfe.chain]
  cases Fq e.Alias with
  | false=>rfl
  | true=>
   rw [aEv,aCc,aGy]
   cases i with
   | zero=>
    show cond false _ ((some (H7 e.Key e.KeyId e.Chain)).bind _)=_
    cases H7 e.Key e.KeyId e.Chain <;> rfl
   | succ i=>
    obtain⟨p,hp⟩:∃ p,l[i]?=some p:=⟨_,aA1 (by omega)⟩
    rw [aBu (by omega),aEu,Fx (by omega),show ((i + 1:Nat):Int) - 1=(i:Int) by omega,Fs,hp,aAo,show i + 1 - 1=i from rfl,Jd hp,aBu (by omega),aIl,aAo]
    show cond (!So p e) _ _=_
    cases So p e with
    | false=>rfl
    | true=>cases H7 e.Key e.KeyId e.Chain <;> rfl
 ·show By.l1 l (l.length:Int)=_
  unfold By.l1
  rw [D7]
  cases decide (64 < (l.length:Int)) <;> rfl
 ·unfold Jb
  cases (List.range l.length).any (Us l) <;> cases decide (64 < (l.length:Int)) <;> rfl
theorem Yz (l:List Ac) (hf:∀ e∈l,Th e):Cu l=some (Jb l):=by
 unfold Cu Jb
 by_cases h64:64 < (l.length:Int)
 ·rw [aBu h64,aEu,Bool.or_true]; rfl
 rw [aBo h64,aCc,Bool.or_false]
 refine (aK (body:=fun q'=>Cu.l1 l q') l.length (Us l) (16:Int) 0 (by omega) (fun i hi=>?_) ?_)
 ·obtain⟨e,he⟩:∃ e,l[i]?=some e:=⟨_,aA1 hi⟩
  have hfe:=hf e (F5 he)
  show Cu.l1 l (i:Int)=_
  unfold Cu.l1 Us
  rw [Fm he,Tm _ hfe.alias,aAo,Jd he,nA _ _ _ hfe.chain]
  cases Fq e.Alias with
  | false=>rfl
  | true=>
   rw [aEv,aCc,aGy]
   cases i with
   | zero=>
    show cond false _ ((some (H7 e.Key e.KeyId e.Chain)).bind _)=_
    cases H7 e.Key e.KeyId e.Chain <;> rfl
   | succ i=>
    obtain⟨p,hp⟩:∃ p,l[i]?=some p:=⟨_,aA1 (by omega)⟩
    rw [aBu (by omega),aEu,Fx (by omega),show ((i + 1:Nat):Int) - 1=(i:Int) by omega,Fs,hp,aAo,show i + 1 - 1=i from rfl,Jd hp,aBu (by omega),aIl,aAo]
    show cond (!So p e) _ _=_
    cases So p e with
    | false=>rfl
    | true=>cases H7 e.Key e.KeyId e.Chain <;> rfl
 ·show Cu.l1 l (l.length:Int)=_
  unfold Cu.l1
  rw [D7]
  rfl
def Za (l:List Ab):Prop:=l.length<=20/\∀ c∈l,c.Names.length<=1000
theorem aCx {l:List Ab} (h:Za l):Da l=some l:=by
 have hlo:=h.1
 unfold Da
 refine Hi (body:=fun q'=>Da.l1 l q'.1 q'.2) l.length (fun i=>((i:Int),l.take i)) l (fun i hi=>?_) ?_
 ·obtain⟨c,hc⟩:∃ c,l[i]?=some c:=⟨_,aA1 hi⟩
  have hf:=h.2 c (aEy hc)
  show Da.l1 l (i:Int) (l.take i)=_
  unfold Da.l1
  rw [Fm hc,Vy _ (by omega),aAo,E2 (by simp; omega),aAo,F3 (by omega),Dw hc]
 ·show Da.l1 l (l.length:Int) (l.take l.length)=_
  unfold Da.l1
  rw [D7,aFg]; rfl
theorem aCs {e:Ac} (h:Za e.Chain):Ig e=some e:=by
 unfold Ig
 rw [aCx h]
 rfl
end
section
open Go
theorem Xl (a:List UInt8):Q3 a a=false:=by
 have:=cS a a
 rw [aBu rfl,Bool.or_true] at this
 exact this.symm
theorem Ll:∀ (a b c:List UInt8),Q3 a b=true->Q3 b c=true->Q3 a c=true
 | a,[],c,h,k=>by cases a <;> cases h
 | a,b :: bs,[],h,k=>by cases k
 | [],b :: bs,c :: cs,h,k=>rfl
 | a :: u,b :: v,c :: w,h,k=>by
  simp only [Q3,aGd,aFz,aCe,beq_iff_eq] at h k ⊢
  rcases h with h | ⟨rfl,h⟩
  ·rcases k with k | ⟨rfl,k⟩
   ·exact .inl (UInt8.lt_trans h k)
   ·exact .inl h
  ·rcases k with k | ⟨rfl,k⟩
   ·exact .inl k
   ·exact .inr ⟨rfl,Ll u v w h k⟩
theorem dJ {a b:List UInt8} (h:Q3 a b=false) (k:Q3 b a=false):a=b:=by
 have:=cS a b
 rw [h,k,aGy] at this
 by_cases e:a=b
 ·exact e
 ·rw [aBo e] at this; cases this
theorem tF:Sort.SWO So where
 irrefl x:=Xl _
 trans x y z h k:=Ll _ _ _ h k
 ntrans x y z h k:=by
  cases e:So x z with
  | false=>rfl
  | true=>
   unfold So at *
   cases h2:Q3 (J7 y.Alias) (J7 x.Alias) with
   | true=>
    have:=Ll _ _ _ h2 e
    rw [k] at this; cases this
   | false=>
    rw [dJ h h2] at e
    rw [k] at e; cases e
theorem sM {a b:ByteArray} (h:J7 a=J7 b):a=b:=by
 cases a with | mk a=>cases b with | mk b=>
 unfold J7 at h
 exact congrArg ByteArray.mk (aIg.1 h)
theorem bZ {x y:Ac} (h:So x y=true):x.Alias≠y.Alias:=fun e=>by
 unfold So at h
 rw [e,Xl] at h
 cases h
abbrev Wd (l:List Ac):Prop:=l.Pairwise (fun x y=>So x y=true)
theorem Sk {e:Ac} (h:Zp e=true):Za e.Chain:=by
 unfold Zp H7 at h
 simp only [aCe,aF0,aGh] at h
 obtain⟨_,_,_,h1,h2,_⟩:=h
 refine⟨by omega,fun c hc=>?_⟩
 have:Es c=true:=by
  cases hb:Es c with
  | true=>rfl
  | false=>
   have:(e.Chain.any fun c=>!Es c)=true:=aFn.2 ⟨c,hc,by rw [hb]; rfl⟩
   rw [this] at h2; cases h2
 have:=(Nh this).2.2.1
 omega
theorem My {l:List Ac}:Jb l=0↔l.length<=64/\(∀ e∈l,Zp e=true)/\Wd l:=by
 have key:(List.range l.length).any (Us l)=false↔(∀ e∈l,Zp e=true)/\Wd l:=by
  rw [aGv]
  constructor
  ·intro h
   have hb:∀ (i:Nat) (e:Ac),l[i]?=some e->Us l i=false:=fun i e he=>by
    have:=h i (aG2.2 (Oe he))
    cases hx:Us l i with
    | false=>rfl
    | true=>exact absurd hx this
   refine⟨fun e he=>?_,?_⟩
   ·obtain⟨i,hi⟩:=List.mem_iff_getElem?.1 he
    have:=hb i e hi
    unfold Us at this
    rw [Jd hi] at this
    simp only [aGt,aH3] at this
    unfold Zp
    rw [this.1,this.2.2]; rfl
   ·have adj:∀ i,i + 1 < l.length->So (l.getD i zE) (l.getD (i + 1) zE)=true:=fun i hi=>by
     obtain⟨e,he⟩:∃ e,l[i + 1]?=some e:=⟨_,aA1 hi⟩
     have:=hb (i + 1) e he
     unfold Us at this
     simp only [aGt,aH3,aId,aGh] at this
     rcases this.2.1 with h2 | h2
     ·omega
     ·exact h2
    have all:∀ k i,i + k + 1 < l.length->So (l.getD i zE) (l.getD (i + k + 1) zE)=true:=fun k=>by
     induction k with
     | zero=>exact fun i hi=>adj i hi
     | succ k ih=>exact fun i hi=>Ll _ _ _ (ih i (by omega)) (adj (i + k + 1) hi)
    rw [Wd,aG4]
    intro i j hi hj hij
    have:=all (j - i - 1) i (by omega)
    rw [show i + (j - i - 1) + 1=j by omega] at this
    rw [Jd (aA1 hi),Jd (aA1 hj)] at this
    exact this
  ·rintro⟨h1,h2⟩ i hi
   have hi:=aG2.1 hi
   have:=h1 l[i] (List.getElem_mem hi)
   unfold Zp at this
   rw [aCe] at this
   unfold Us
   rw [Jd (aA1 hi),this.1,this.2]
   cases i with
   | zero=>simp
   | succ i=>
    rw [show i + 1 - 1=i from rfl,Jd (aA1 (show i < l.length by omega))]
    have h2:=aG4.1 h2
    rw [h2 i (i + 1) (by omega) hi (by omega)]
    simp
 unfold Jb
 by_cases h64:64 < (l.length:Int)
 ·rw [aBu h64,Bool.or_true]
  constructor
  ·intro h; cases h
  ·intro h; omega
 ·rw [aBo h64,Bool.or_false]
  cases hb:(List.range l.length).any (Us l) with
  | true=>
   constructor
   ·intro h; cases h
   ·intro h; rw [key.2 h.2] at hb; cases hb
  | false=>exact⟨fun _=>⟨by omega,key.1 hb⟩,fun _=>rfl⟩
def M1 (b:List Ac) (s:ByteArray):Bool:=b.any fun x=>decide (x.Alias=s)
def Gp:List Ac->List Ac->List Ac
 | [],b=>b
 | a,[]=>a
 | x :: a,y :: b=>if So x y=true then x :: Gp a (y :: b) else if x.Alias=y.Alias then y :: Gp a b else y :: Gp (x :: a) b
termination_by a b=>a.length + b.length
theorem gR (a:List Ac):Gp a []=a:=by cases a <;> rw [Gp] <;> intro h <;> cases h
theorem iS {b:List Ac} {s:ByteArray}:M1 b s=false↔∀ y∈b,y.Alias≠s:=by
 unfold M1
 rw [aGv]
 constructor
 ·intro h y hy e
  exact h y hy (aBu e)
 ·intro h y hy e
  exact h y hy (aE4 e)
theorem Q1:∀ (n:Nat) (a b:List Ac),a.length + b.length<=n->Wd a->Wd b->(Gp a b).Perm (b ++ a.filter (fun e=>!M1 b e.Alias))/\Wd (Gp a b)
 | _,[],b,_,_,hb=>by
  rw [Gp]
  exact⟨by rw [List.filter_nil,aG9],hb⟩
 | _,x :: a,[],_,ha,_=>by
  rw [gR]
  refine⟨?_,ha⟩
  have e:(x :: a).filter (fun e=>!M1 [] e.Alias)=x :: a:=List.filter_eq_self.2 (fun e _=>rfl)
  rw [aH1,e]
 | 0,x :: a,y :: b,hn,_,_=>by simp only [aEw] at hn; omega
 | n + 1,x :: a,y :: b,hn,ha,hb=>by
  simp only [aEw] at hn
  have hax:∀ z∈a,So x z=true:=(aFm.1 ha).1
  have ha':Wd a:=(aFm.1 ha).2
  have hby:∀ z∈b,So y z=true:=(aFm.1 hb).1
  have hb':Wd b:=(aFm.1 hb).2
  rw [Gp]
  by_cases h1:So x y=true
  ·rw [if_pos h1]
   obtain⟨p1,p2⟩:=Q1 n a (y :: b) (by simp only [aEw]; omega) ha' hb
   have hx:M1 (y :: b) x.Alias=false:=iS.2 fun z hz=>by
    rcases aE1.1 hz with rfl | hz
    ·exact (bZ h1).symm
    ·exact (bZ (Ll _ _ _ h1 (hby z hz))).symm
   refine⟨?_,aFm.2 ⟨fun z hz=>?_,p2⟩⟩
   ·rw [List.filter_cons_of_pos (by rw [hx]; rfl)]
    exact (List.Perm.cons x p1).trans List.perm_middle.symm
   ·rcases aFh.1 (p1.mem_iff.1 hz) with hz | hz
    ·rcases aE1.1 hz with rfl | hz
     ·exact h1
     ·exact Ll _ _ _ h1 (hby z hz)
    ·exact hax z (aHf.1 hz).1
  ·rw [if_neg h1]
   have h1':So x y=false:=by cases h:So x y with | false=>rfl | true=>exact absurd h h1
   by_cases h2:x.Alias=y.Alias
   ·rw [if_pos h2]
    obtain⟨p1,p2⟩:=Q1 n a b (by omega) ha' hb'
    have hx:M1 (y :: b) x.Alias=true:=aFn.2 ⟨y,.head _,aBu h2.symm⟩
    have hya:∀ z∈a,So y z=true:=fun z hz=>by
     have:=hax z hz
     unfold So at this ⊢
     rw [<- h2]; exact this
    refine⟨?_,aFm.2 ⟨fun z hz=>?_,p2⟩⟩
    ·rw [List.filter_cons_of_neg (by rw [hx]; simp)]
     have e:a.filter (fun e=>!M1 (y :: b) e.Alias)=a.filter (fun e=>!M1 b e.Alias):=List.filter_congr fun z hz=>by
      unfold M1
      rw [aGo,aBo (bZ (hya z hz)),aGy]
     rw [e]
     exact List.Perm.cons y p1
    ·rcases aFh.1 (p1.mem_iff.1 hz) with hz | hz
     ·exact hby z hz
     ·exact hya z (aHf.1 hz).1
   ·rw [if_neg h2]
    obtain⟨p1,p2⟩:=Q1 n (x :: a) b (by simp only [aEw]; omega) ha hb'
    have hyx:So y x=true:=by
     cases h:So y x with
     | true=>rfl
     | false=>exact absurd (sM (dJ h1' h)) h2
    have hya:∀ z∈x :: a,So y z=true:=fun z hz=>by
     rcases aE1.1 hz with rfl | hz
     ·exact hyx
     ·exact Ll _ _ _ hyx (hax z hz)
    refine⟨?_,aFm.2 ⟨fun z hz=>?_,p2⟩⟩
    ·have e:(x :: a).filter (fun e=>!M1 (y :: b) e.Alias)=(x :: a).filter (fun e=>!M1 b e.Alias):=List.filter_congr fun z hz=>by
      unfold M1
      rw [aGo,aBo (bZ (hya z hz)),aGy]
     rw [e]
     exact List.Perm.cons y p1
    ·rcases aFh.1 (p1.mem_iff.1 hz) with hz | hz
     ·exact hby z hz
     ·exact hya z (aHf.1 hz).1
theorem Vl:∀ (l m:List Ac),l.Perm m->l.Pairwise (fun x y=>So y x=false)->Wd m->l=m
 | l,[],h,_,_=>h.eq_nil
 | [],y :: m,h,_,_=>by have:=h.length_eq; cases this
 | x :: l,y :: m,h,hl,hm=>by
  by_cases e:x=y
  ·subst e
   rw [Vl l m (List.Perm.cons_inv h) (aFm.1 hl).2 (aFm.1 hm).2]
  ·have h1:x∈m:=by
    rcases aE1.1 (h.mem_iff.1 (.head _)) with h1 | h1
    ·exact absurd h1 e
    ·exact h1
   have h2:y∈l:=by
    rcases aE1.1 (h.mem_iff.2 (.head _)) with h2 | h2
    ·exact absurd h2.symm e
    ·exact h2
   have:=(aFm.1 hm).1 x h1
   rw [(aFm.1 hl).1 y h2] at this
   cases this
def aAj (l:List Ac):List Ac×Int:=bif decide (64 < (l.length:Int)) then ([],3) else (l,0)
def jO (a b:List Ac):List Ac×Int:=bif !decide (Jb a=0) || !decide (Jb b=0) then ([],16) else aAj (Gp a b)
theorem jX {S R:Type} {body:S->Option (Lp S R)} (n:Nat) (G:Nat->S) (x:Option R) (h1:∀ i,i < n->body (G i)=some (.next (G (i + 1)))) (h2:body (G n)=up x):Dp body (G 0)=x:=by
 have key:∀ k i,i + k=n->Dp body (G i)=x:=by
  intro k
  induction k with
  | zero=>intro i hi; rw [show i=n by omega]; exact Ln h2
  | succ k ih=>intro i hi; rw [Hy (h1 i (by omega))]; exact ih (i + 1) (by omega)
 exact key n 0 (by omega)
theorem Yo (s:List Ac) (f:Ac->Option Bool) (p:Ac->Bool) (h:Lo s) (hf:∀ x∈s,f x=some (p x)):Ba s f=some (Sc s p):=by
 unfold Ba
 refine Yl s p h (fun i x hx=>?_) ?_
 ·show Ba.l1 s f (i:Int)=_
  unfold Ba.l1
  rw [Fm hx,hf x (F5 hx),aAo]
  cases p x <;> rfl
 ·show Ba.l1 s f (s.length:Int)=_
  unfold Ba.l1
  rw [D7]; rfl
def dU (l:List Ac) (s:ByteArray):Ac×Bool:=match l.find? (fun x=>decide (x.Alias=s)) with
 | some e=>(e,true)
 | none=>(zE,false)
theorem gU (l:List Ac) (p:Ac->Bool):(l.find? p=none/\Sc l p=-1)\/∃ (i:Nat) (e:Ac),l[i]?=some e/\l.find? p=some e/\Sc l p=(i:Int):=by
 unfold Sc
 cases h:l.findIdx? p with
 | none=>
  refine .inl ⟨?_,rfl⟩
  rw [List.find?_eq_none]
  rw [aHt] at h
  intro x hx
  rw [h x hx]; simp
 | some i=>
  obtain⟨hi,h1,h2⟩:=aFk.1 h
  refine .inr ⟨i,l[i],aA1 hi,?_,rfl⟩
  rw [List.find?_eq_some_iff_getElem]
  exact⟨h1,i,hi,rfl,fun j hj=>by have:=h2 j hj; simpa using this⟩
theorem kB (l:List Ac) (s:ByteArray) (hl:Lo l) (hw:∀ e∈l,Za e.Chain):Gx l s=some (dU l s):=by
 unfold Gx dU
 rw [Yo l (fun x0=>Hn x0 s) (fun x=>decide (x.Alias=s)) hl (fun x _=>rfl),aAo]
 rcases gU l (fun x=>decide (x.Alias=s)) with ⟨h1,h2⟩ | ⟨i,e,h1,h2,h3⟩
 ·rw [h1,h2]; rfl
 ·rw [h2,h3,aBo (by omega),aCc,Fs,h1,aAo,aCs (hw e (aEy h1))]
  rfl
theorem vD (l:List Ac) (s:ByteArray):(dU l s).2=M1 l s:=by
 unfold dU M1
 cases h:l.find? (fun x=>decide (x.Alias=s)) with
 | none=>exact (aGv.2 (List.find?_eq_none.1 h)).symm
 | some e=>exact (aFn.2 ⟨e,List.mem_of_find?_eq_some h,List.find?_some h⟩).symm
theorem tB:Hw (fun x0 x1=>Fl x0 x1) So (fun _=>True):=fun x y _ _=>by
 show ∃ n,Fl x y=some n/\decide (n < 0)=So x y
 unfold Fl
 show ∃ n,cond (So x y) _ _=some n/\_
 cases So x y
 ·exact⟨1,rfl,rfl⟩
 ·exact⟨-1,rfl,rfl⟩
theorem pD (a b:List Ac) (hcap:a.length<=64->b.length<=64->a.length + b.length<=Lq) (ha:a.length<=1000000) (hb:b.length<=1000000) (fa:∀ e∈a,Th e) (fb:∀ e∈b,Th e):A7 a b=some (jO a b):=by
 have hj1:A7.j1 a b true=some ([],16):=rfl
 unfold A7 jO
 rw [Tx a ha fa,aAo,Tx b hb fb,aAo]
 by_cases h1:Jb a=0
 ·rw [aBu h1,aEv,aCc,aGy]
  by_cases h2:Jb b=0
  ·rw [aBu h2,aEv,aCc]
   obtain⟨la,oa,sa⟩:=My.1 h1
   obtain⟨lb,ob,sb⟩:=My.1 h2
   obtain⟨m1,m2⟩:=Q1 _ a b (aFf _) sa sb
   have hm:∀ e∈Gp a b,Zp e=true:=fun e he=>by
    rcases aFh.1 (m1.mem_iff.1 he) with h | h
    ·exact ob e h
    ·exact oa e (aHf.1 h).1
   unfold A7.j1
   have e1:mO 72 (b.length:Int) (W ((a.length:Int) + (b.length:Int))) (Ac.mk (⟨#[]⟩:ByteArray) (Aw.mk 0 0) 0 false ([]:(List Ab)))=some (List.replicate b.length zE):=by
    rw [Fx (by omega)]
    unfold mO
    rw [if_pos (by omega)]
    rfl
   have e2:nD (List.replicate b.length zE) b=some b:=by
    unfold nD
    rw [if_pos (by simp)]
   rw [aCc,e1,aAo,e2,aAo]
   have e0:((0:Int),b)=((fun i:Nat=>((i:Int),b ++ (a.take i).filter (fun e=>!M1 b e.Alias))) 0):=by simp
   rw [e0]
   refine jX (body:=fun q'=>A7.l2 a b q'.1 q'.2) a.length (fun i=>((i:Int),b ++ (a.take i).filter (fun e=>!M1 b e.Alias))) (some (aAj (Gp a b))) (fun i hi=>?_) ?_ |>.trans ?_
   ·obtain⟨e,he⟩:∃ e,a[i]?=some e:=⟨_,aA1 hi⟩
    have hlen:((a.take i).filter (fun e=>!M1 b e.Alias)).length<=64:=aFj (List.length_filter_le _ _) (by rw [aDy]; omega)
    show A7.l2 a b (i:Int) (b ++ (a.take i).filter (fun e=>!M1 b e.Alias))=_
    unfold A7.l2 A7.j3
    rw [Fm he,kB b e.Alias (Lt hb) (fun x hx=>Sk (ob x hx)),aAo,vD,Dw he,List.filter_append,F3 (by omega)]
    cases hh:M1 b e.Alias with
    | true=>
     rw [List.filter_cons_of_neg (by rw [hh]; simp),List.filter_nil,aG9]
     rfl
    | false=>
     rw [List.filter_cons_of_pos (by rw [hh]; rfl),List.filter_nil,aFt,aEu,E2 (by rw [aDw,aEd]; omega),aAo,aFv]
   ·show A7.l2 a b (a.length:Int) (b ++ (a.take a.length).filter (fun e=>!M1 b e.Alias))=_
    unfold A7.l2
    rw [D7,aFg]
    refine congrArg up ?_
    have hlen:=m1.length_eq
    have hll:(b ++ a.filter (fun e=>!M1 b e.Alias)).length<=Lq:=by
     rw [aDw]
     have:=List.length_filter_le (fun e=>!M1 b e.Alias) a
     have:=hcap la lb
     omega
    generalize hl:b ++ a.filter (fun e=>!M1 b e.Alias)=l at m1 hlen hll ⊢
    unfold aAj
    rw [hlen]
    by_cases h64:64 < (l.length:Int)
    ·rw [aBu h64]; rfl
    ·rw [aBo h64,aCc,aCc]
     obtain⟨s,s1,s2,s3⟩:=V5 tF tB l hll (fun _ _=>trivial)
     rw [s1,aAo]
     obtain rfl:=Vl s (Gp a b) (s2.trans m1.symm) s3 m2
     have hs:=s2.length_eq
     refine Hi (body:=fun q'=>A7.l4 (Gp a b) q'.1 q'.2) (Gp a b).length (fun i=>((i:Int),(Gp a b).take i)) _ (fun i hi=>?_) ?_
     ·obtain⟨e,he⟩:∃ e,(Gp a b)[i]?=some e:=⟨_,aA1 hi⟩
      show A7.l4 (Gp a b) (i:Int) ((Gp a b).take i)=_
      unfold A7.l4
      rw [Fm he,aCs (Sk (hm e (F5 he))),aAo,E2 (by rw [aDy,aEd]; omega),aAo,F3 (by omega),Dw he]
     ·show A7.l4 (Gp a b) ((Gp a b).length:Int) ((Gp a b).take (Gp a b).length)=_
      unfold A7.l4
      rw [D7,aFg]; rfl
   ·rfl
  ·rw [aBo h2,aFt,hj1]; rfl
 ·rw [aBo h1,aFt,aEu,hj1]; rfl
end
section
open Go
theorem gJ {e:Ac} (h1:e.Alias.size<=100) (h2:e.Chain=[]):Th e:=⟨by omega,fun c hc=>by rw [h2] at hc; cases hc⟩
def xH:List Ac:=[(Ac.mk (⟨#[97]⟩:ByteArray) (Aw.mk 5 2048) 0 false ([]:(List Ab))),(Ac.mk (⟨#[98]⟩:ByteArray) (Aw.mk 5 2048) 1 false ([]:(List Ab)))]
def zH:List Ac:=[(Ac.mk (⟨#[98]⟩:ByteArray) (Aw.mk 5 2048) 2 false ([]:(List Ab))),(Ac.mk (⟨#[99]⟩:ByteArray) (Aw.mk 5 2048) 0 false ([]:(List Ab)))]
def xC:List Ac:=[(Ac.mk (⟨#[97]⟩:ByteArray) (Aw.mk 5 2048) 0 false ([]:(List Ab))),(Ac.mk (⟨#[98]⟩:ByteArray) (Aw.mk 5 2048) 2 false ([]:(List Ab))),(Ac.mk (⟨#[99]⟩:ByteArray) (Aw.mk 5 2048) 0 false ([]:(List Ab)))]
theorem Uq {l:List Ac} (h:l.all (fun e=>decide (e.Alias.size<=100) && decide (e.Chain=[]))=true):∀ e∈l,Th e:=fun e he=>by
 have:=aEb.1 h e he
 rw [aCe] at this
 exact gJ (aE4 this.1) (aE4 this.2)
theorem dL:H4=some true:=by
 have e1:Gp xH zH=xC:=by
  unfold xH zH
  rw [Gp,if_pos (by decide +kernel),Gp,if_neg (by decide +kernel),if_pos (by rfl),Gp]
  rfl
 have a0:Jb xH=0:=by decide +kernel
 have b0:Jb zH=0:=by decide +kernel
 have m0:Jb xC=0:=by decide +kernel
 have fa:∀ e∈xH,Th e:=Uq (by decide +kernel)
 have fb:∀ e∈zH,Th e:=Uq (by decide +kernel)
 have fm:∀ e∈xC,Th e:=Uq (by decide +kernel)
 have hm:A7 xH zH=some (xC,0):=by
  rw [pD xH zH (fun _ _=>by decide) (by decide) (by decide) fa fb]
  unfold jO
  rw [a0,b0,e1]
  rfl
 unfold H4
 show (A7 xH zH).bind _=_
 rw [hm,aAo]
 have hf:Gx xC ⟨#[98]⟩=some (dU xC ⟨#[98]⟩):=kB xC _ (Lt (by decide)) (fun e he=>Sk ((My.1 m0).2.1 e he))
 simp only []
 rw [hf,aAo,Tx xC (by decide) fm,m0]
 rfl
end
section
open Go
def wG (e:Ac):Prop:=(Mo e.Key.Alg/\Mo e.Key.Bits/\Mo e.KeyId)/\∀ c∈e.Chain,Lr c
theorem pC {d:Al} (h:Sx d) {alias name:ByteArray} {id:Int} (ha:Fq alias=true) (hs:Fq name=true) (hs31:name.size<=31) (hid:0<=id/\id<=2147483648) :
  Ok (F7 d alias name id) (fun y=>(y.1.Alias=alias/\Zp y.1=true/\wG y.1)/\Sx y.2):=by
 unfold F7
 refine Ok.bind (vX h) fun y1 h1=>?_
 refine Ok.bind (iD h1.2 2 (by omega) (by omega)) fun y2 h2=>?_
 refine Ok.bind (iD h2 5 (by omega) (by omega)) fun y3 h3=>?_
 refine Ok.cond (fun _=>?_) fun _=>?_
 ·refine Ok.bind (nE h3 hs hs31 h1.1 hid) fun y4 h4=>?_
  refine Ok.ret ⟨⟨rfl,?_,⟨h1.1.1.1.i64,h1.1.1.2.i64,show Mo id by unfold Mo; omega⟩,fun c hc=>(h4.1.2.1 c hc).2⟩,h4.2⟩
  show (Fq alias && H7 y1.1 id y4.1)=true
  rw [ha,eO h1.1.2 hid (by have:=h4.1.1; omega) (fun c hc=>(h4.1.2.1 c hc).1) h4.1.2.2]
  rfl
 ·refine Ok.ret ⟨⟨rfl,?_,⟨h1.1.1.1.i64,h1.1.1.2.i64,show Mo id by unfold Mo; omega⟩,fun c hc=>by cases hc⟩,h3⟩
  show (Fq alias && H7 y1.1 id [])=true
  rw [ha,eO h1.1.2 hid (aFb _) (fun c hc=>by cases hc) rfl]
  rfl
def k4:List ByteArray:=[(⟨#[107,49]⟩:ByteArray),(⟨#[107,50]⟩:ByteArray),(⟨#[107,51]⟩:ByteArray),(⟨#[107,52]⟩:ByteArray)]
def dV (l:List Ac):Prop:=l.length<=4/\∀ (j:Nat) (e:Ac),l[j]?=some e->k4[j]?=some e.Alias/\Zp e=true/\wG e
theorem aCu:∀ i:_root_.Fin 4,∀ j:_root_.Fin 4,i < j->Q3 (J7 k4[i]!) (J7 k4[j]!)=true:=by decide +kernel
theorem xD {l:List Ac} (h:dV l) {i:Nat} {e:Ac} (he:l[i]?=some e):k4[i]! = e.Alias:=by
 have h1:=(h.2 i e he).1
 rw [List.getElem!_eq_getElem?_getD,h1]; rfl
theorem fT {l:List Ac} (h:dV l):Wd l:=by
 rw [Wd,aG4]
 intro i j hi hj hij
 have:=aCu ⟨i,by have:=h.1; omega⟩ ⟨j,by have:=h.1; omega⟩ hij
 unfold So
 rw [<- xD h (aA1 hi),<- xD h (aA1 hj)]
 exact this
structure Qc (n:Nat) (l:List Ac):Prop where
 len:l.length<=n
 ok:∀ e∈l,Zp e=true
 str:Wd l
theorem Qc.zero {n:Nat} {l:List Ac} (h:Qc n l) (hn:n<=64):Jb l=0:=My.2 ⟨by have:=h.len; omega,h.ok,h.str⟩
theorem Qc.few {n:Nat} {l:List Ac} (h:Qc n l):∀ e∈l,Za e.Chain:=fun e he=>Sk (h.ok e he)
theorem mJ {l:List Ac} (h:dV l):Qc 4 l:=⟨h.1,fun e he=>by
 obtain⟨i,hi⟩:=List.mem_iff_getElem?.1 he
 exact (h.2 i e hi).2.1,fT h⟩
theorem Qc.drop {n:Nat} {l:List Ac} (h:Qc n l) (k:Nat):Qc n (l.drop k):=⟨by rw [aD1]; have:=h.len; omega,fun e he=>h.ok e (aGi he),h.str.sublist (List.drop_sublist k l)⟩
theorem cE {e:Ac} (h:Zp e=true):Th e:=by
 have hf:=Sk h
 unfold Zp at h
 rw [aCe] at h
 refine⟨by have:=Lg h.1; omega,fun c hc=>?_⟩
 have h2:=h.2
 unfold H7 at h2
 simp only [aCe,aF0] at h2
 obtain⟨_,_,_,h3,_⟩:=h2
 have hcs:Es c=true:=by
  cases hb:Es c with
  | true=>rfl
  | false=>
   have:(e.Chain.any fun c=>!Es c)=true:=aFn.2 ⟨c,hc,by rw [hb]; rfl⟩
   rw [this] at h3; cases h3
 obtain⟨v1,v2,v3,v4⟩:=Nh hcs
 exact⟨by omega,fun s hs=>by have:=v4 s hs; omega,by omega,by omega⟩
theorem Qc.fit {n:Nat} {l:List Ac} (h:Qc n l):∀ e∈l,Th e:=fun e he=>cE (h.ok e he)
theorem eG:Ok (H4.bind fun y=>some y) (fun r=>r=true):=Ok.bindE dL (Ok.ret rfl)
end
section
open Go
def Yc (e:Ac):List Aa:=[Jm e.Alias,Y4 e.Key,J6 e.KeyId,S1 e.Secret,Pp (e.Chain.map P2)]
def Ou (e:Ac):Aa:=Pp (Yc e)
def gY (l:List Ac):Aa:=Pp (l.map Ou)
theorem aQ (n:Int):(J6 n).sz<=18:=by
 have:=R6 ⟨n,n⟩
 unfold Y4 at this
 rw [Je] at this
 simp only [G4] at this
 omega
theorem vH {c:Ab} (h:Es c=true):(P2 c).sz<=1024:=by
 have hb:=Wm h
 have hs:=cN c.Seal
 unfold P2
 rw [Je]
 have hB:(Of c).sz=G4 (Mx c) + 1:=Je _
 simp only [G4]; omega
theorem X1:∀ l:List Ab,(∀ c∈l,Es c=true)->G4 (l.map P2)<=1024 * l.length
 | [],_=>aFf _
 | c :: l,h=>by
  have h1:=vH (h c (.head _))
  have h2:=X1 l fun c hc=>h c (.tail _ hc)
  rw [aFl,G4,aEw]; omega
theorem lP {key:Aw} {id:Int} {l:List Ab} (h:H7 key id l=true):l.length<=8/\∀ c∈l,Es c=true:=by
 unfold H7 at h
 simp only [aCe,aF0,aGh] at h
 obtain⟨_,_,h1,h3,_⟩:=h
 refine⟨by omega,fun c hc=>?_⟩
 cases hb:Es c with
 | true=>rfl
 | false=>
  have:(l.any fun c=>!Es c)=true:=aFn.2 ⟨c,hc,by rw [hb]; rfl⟩
  rw [this] at h3; cases h3
theorem Z4 {e:Ac} (h:Zp e=true):Fq e.Alias=true/\e.Chain.length<=8/\(∀ c∈e.Chain,Es c=true):=by
 unfold Zp at h
 rw [aCe] at h
 obtain⟨h1,h2⟩:=lP h.2
 exact⟨h.1,h1,h2⟩
theorem dX {e:Ac} (h:Zp e=true):G4 (Yc e)<=9000:=by
 obtain⟨h1,h2,h3⟩:=Z4 h
 have a:=Lg h1
 have b:=Tv e.Alias
 have c:=R6 e.Key
 have d:=aQ e.KeyId
 have f:=X1 e.Chain h3
 have g:(S1 e.Secret).sz<=10:=by cases e.Secret <;> decide
 unfold Yc
 simp only [G4,Je]
 omega
theorem W0:∀ l:List Ac,(∀ e∈l,Zp e=true)->G4 (l.map Ou)<=9001 * l.length
 | [],_=>aFf _
 | e :: l,h=>by
  have h1:=dX (h e (.head _))
  have h2:=W0 l fun c hc=>h c (.tail _ hc)
  have h3:(Ou e).sz=G4 (Yc e) + 1:=Je _
  rw [aFl,G4,aEw]; omega
def tJ (l:List Ac):List UInt8×Int:=nN (gY l)
end
section
open Go
theorem Yf {u:Aw} (h:0 < Qg u):(1<=u.Alg/\u.Alg<=22)/\0<=u.Bits/\u.Bits<=16384:=by
 rcases u with ⟨a,b⟩
 unfold Qg at h
 by_cases ha:1<=a/\a<=22
 ·rw [if_pos ha] at h
  refine⟨ha,?_⟩
  show 0<=b/\b<=16384
  have key:∀ n:Nat,1<=n->n<=22->0 < Hr n b->0<=b/\b<=16384:=fun n h1 h2 h3=>by
   have e:n=1\/n=2\/n=3\/n=4\/n=5\/n=6\/n=7\/n=8\/n=9\/n=10\/n=11\/n=12\/n=13\/n=14\/n=15\/n=16\/n=17\/n=18\/n=19\/n=20\/n=21\/n=22:=by omega
   have once:∀ s:Int,0 < Er s b->0<=b/\b<=16384:=fun s q=>by
    unfold Er at q
    split at q <;> omega
   have modu:0 < F2 b->0<=b/\b<=16384:=fun q=>by
    unfold F2 at q
    split at q <;> omega
   have curv:0 < Lx b->0<=b/\b<=16384:=fun q=>by
    unfold Lx at q
    split at q <;> omega
   have list:∀ (sz st:List Int),sz.all (fun z=>decide (0<=z) && decide (z<=16384))=true->0 < O4 sz st b->0<=b/\b<=16384:=fun sz st hs q=>by
    unfold O4 at q
    split at q
    ·rename_i i hi
     rw [aFk] at hi
     obtain⟨h1,h2,-⟩:=hi
     have h2:=aE4 h2
     have h3:=aEb.1 hs _ (List.getElem_mem h1)
     rw [aCe,aFz,aFz,<- h2] at h3
     exact h3
    ·omega
   rcases e with rfl | rfl | rfl | rfl | rfl | rfl | rfl | rfl | rfl | rfl | rfl | rfl | rfl | rfl | rfl | rfl | rfl | rfl | rfl | rfl | rfl | rfl <;> first | exact once _ h3 | exact modu h3 | exact curv h3 | exact list _ _ (by decide) h3
  exact key a.toNat (by omega) (by omega) h
 ·rw [if_neg ha] at h
  omega
theorem qT {c:Ab} (hw:aX c) (h:Es c=true):Lr c:=by
 unfold Es Q2 at h
 simp only [aGo,aIp,id,Bool.or_false,aF0,aGt,aGh,aH3,aId] at h
 obtain⟨h1,h2,-,-,-,h6,h7,h8,h9,h10,h11,h12,h13,h14,h15,h16,h17,h18,h19,-⟩:=h
 have k1:0 < Qg c.Key:=by
  unfold Lf at h7
  rw [aCe,aFz] at h7
  exact h7.1
 have k2:0 < Qg c.Hash:=by
  unfold Lf at h10
  rw [aCe,aFz] at h10
  exact h10.1
 have r1:=Yf k1
 have r2:=Yf k2
 refine⟨by omega,hw.name,hw.issuer,hw.subject,fun n hn=>?_⟩
 simp only [aE1,aF7,aH8] at hn
 rcases hn with rfl | rfl | rfl | rfl | rfl | rfl | rfl | rfl | rfl | rfl | rfl <;> omega
theorem gF {α:Type} [DecidableEq α] {body:Int->Option (Lp Int Bool)} (a b:List α) (hl:a.length=b.length) (ha:Lo a)
  (h1:∀ (i:Nat) x y,a[i]?=some x->b[i]?=some y->body (i:Int)=some (bif decide (x=y) then .next ((i + 1:Nat):Int) else .done false)) (h2:body (a.length:Int)=some (.done true)):Dp body 0=some (decide (a=b)):=by
 refine (Od (body:=body) a.length (fun i=>(i:Int)) (fun i=>!decide (a[i]?=b[i]?)) false true (fun i hi=>?_) h2).trans ?_
 ·obtain⟨x,hx⟩:∃ x,a[i]?=some x:=⟨_,aA1 hi⟩
  obtain⟨y,hy⟩:∃ y,b[i]?=some y:=⟨_,aA1 (by omega)⟩
  rw [h1 i x y hx hy,hx,hy]
  by_cases e:x=y
  ·rw [aBu e,aBu (congrArg some e)]; rfl
  ·rw [aBo e,aBo (fun q=>e (oi_ q))]; rfl
 ·congr 1
  cases hq:(List.range a.length).any fun i=>!decide (a[i]?=b[i]?) with
  | false=>
   rw [aCc]
   refine (aBu (List.ext_getElem? fun i=>?_)).symm
   by_cases hi:i < a.length
   ·have:=aGv.1 hq i (aG2.2 hi)
    simpa using this
   ·rw [aF5 (by omega),aF5 (by omega)]
  | true=>
   rw [aEu]
   obtain⟨i,-,hi⟩:=aFn.1 hq
   refine (aBo fun e=>?_).symm
   rw [e,aBu rfl] at hi
   cases hi
theorem dP {a b:List Ab} (h:Za a):Dq a b=some (decide (a=b)):=by
 have hlo:=h.1
 unfold Dq
 by_cases hl:a.length=b.length
 ·rw [aBu (show (a.length:Int)=b.length by omega),aEv,aCc]
  refine gF a b hl (Lt (by omega)) (fun i x y hx hy=>?_) ?_
  ·have hi:=Oe hx
   show Dq.l1 a b (i:Int)=_
   unfold Dq.l1
   rw [Fm hx,Fs,hy,aAo,sT x y (Lt (by have:=h.2 x (F5 hx); omega)),aAo,F3 (by omega)]
   cases decide (x=y) <;> rfl
  ·show Dq.l1 a b (a.length:Int)=_
   unfold Dq.l1
   rw [D7]; rfl
 ·rw [aBo (show ¬ (a.length:Int)=b.length by omega),aFt,aEu,aBo fun e=>hl (by rw [e])]
theorem xF (x y:Ac):decide (x=y)=(decide (x.Alias=y.Alias) && (decide (x.Key=y.Key) && (decide (x.KeyId=y.KeyId) && (decide (x.Secret=y.Secret) && decide (x.Chain=y.Chain))))):=by
 rcases x with ⟨x1,x2,x3,x4,x5⟩
 rcases y with ⟨y1,y2,y3,y4,y5⟩
 by_cases h1:x1=y1 <;> by_cases h2:x2=y2 <;> by_cases h3:x3=y3 <;> by_cases h4:x4=y4 <;> by_cases h5:x5=y5 <;> simp [h1,h2,h3,h4,h5]
theorem tY {a b:List Ac} (ha:a.length<=1000000) (h:∀ e∈a,Za e.Chain):Dc a b=some (decide (a=b)):=by
 unfold Dc
 by_cases hl:a.length=b.length
 ·rw [aBu (show (a.length:Int)=b.length by omega),aEv,aCc]
  refine gF a b hl (Lt (by omega)) (fun i x y hx hy=>?_) ?_
  ·have hi:=Oe hx
   show Dc.l1 a b (i:Int)=_
   unfold Dc.l1
   rw [Fm hx,Fs,hy,aAo,dP (h x (F5 hx)),aAo,xF]
   unfold Dc.j2
   rw [F3 (by omega)]
   cases decide (x.Alias=y.Alias) <;> cases decide (x.Key=y.Key) <;> cases decide (x.KeyId=y.KeyId) <;> cases decide (x.Secret=y.Secret) <;> cases decide (x.Chain=y.Chain) <;> rfl
  ·show Dc.l1 a b (a.length:Int)=_
   unfold Dc.l1
   rw [D7]; rfl
 ·rw [aBo (show ¬ (a.length:Int)=b.length by omega),aFt,aEu,aBo fun e=>hl (by rw [e])]
theorem oB {e:Ac} (h:Zp e=true):0 < Qg e.Key/\0<=e.KeyId/\e.KeyId<=2147483648:=by
 unfold Zp H7 Lf nW at h
 simp only [aCe,aFz,aF0,aGt,aGh] at h
 exact⟨h.2.1.1,by omega,by omega⟩
theorem cI {e:Ac} (h:Zp e=true):Dt e=some (Ou e):=by
 obtain⟨h1,h2,h3⟩:=Z4 h
 obtain⟨n1,n2,n3⟩:=oB h
 have n4:=Yf n1
 have hz:=dX h
 have hch:G4 (e.Chain.map P2) < 1073741824:=by have:=X1 e.Chain h3; omega
 have hfit:=cE h
 unfold Dt
 refine Hi (body:=fun q'=>Dt.l1 e q'.1 q'.2) e.Chain.length (fun i=>((i:Int),(e.Chain.take i).map P2)) _ (fun i hi=>?_) ?_
 ·obtain⟨c,hc⟩:∃ c,e.Chain[i]?=some c:=⟨_,aA1 hi⟩
  have hcs:=h3 c (F5 hc)
  have hb:=Wm hcs
  show Dt.l1 e (i:Int) ((e.Chain.take i).map P2)=_
  unfold Dt.l1
  rw [Fm hc,oM c (qT (hfit.chain c (F5 hc)) hcs) (by omega),aAo,E2 (by rw [aGf,aDy,aEd]; omega),aAo,F3 (by omega),Dw hc,aFw]
  rfl
 ·show Dt.l1 e (e.Chain.length:Int) ((e.Chain.take e.Chain.length).map P2)=_
  unfold Dt.l1
  rw [D7,aFg,Fh _ (by omega) (by omega),aAo,Fh _ (by omega) (by omega),aAo]
  have hu:Dy [J6 e.Key.Alg,J6 e.Key.Bits]=some (Y4 e.Key):=Hq [J6 e.Key.Alg,J6 e.Key.Bits] (by
   have a1:=aQ e.Key.Alg
   have a2:=aQ e.Key.Bits
   simp only [G4]; omega)
  rw [hu,aAo,show Ga e.Alias=some (Jm e.Alias) from rfl,aAo,Fh _ (by omega) (by omega),aAo,R8,aAo,Hq _ hch,aAo]
  have e1:Dy [Jm e.Alias,Y4 e.Key,J6 e.KeyId,S1 e.Secret,Pp (e.Chain.map P2)]=some (Ou e):=Hq (Yc e) (by omega)
  exact (congrArg (fun o=>up (Option.bind o fun y_11=>some y_11)) e1).trans rfl
theorem fL {n:Nat} {l:List Ac} (h:Qc n l) (hn:n<=64):Ea l=some (tJ l):=by
 have hl:=h.len
 have hz:=W0 l h.ok
 unfold Ea
 rw [Yz l h.fit,aAo,h.zero hn,aBu rfl,aEv,aCc]
 refine Hi (body:=fun q'=>Ea.l1 l q'.1 q'.2) l.length (fun i=>((i:Int),(l.take i).map Ou)) _ (fun i hi=>?_) ?_
 ·obtain⟨c,hc⟩:∃ c,l[i]?=some c:=⟨_,aA1 hi⟩
  show Ea.l1 l (i:Int) ((l.take i).map Ou)=_
  unfold Ea.l1
  rw [Fm hc,cI (h.ok c (F5 hc)),aAo,E2 (by rw [aGf,aDy,aEd]; omega),aAo,F3 (by omega),Dw hc,aFw]
  rfl
 ·show Ea.l1 l (l.length:Int) ((l.take l.length).map Ou)=_
  unfold Ea.l1
  rw [D7,aFg,Hq _ (by omega),aAo]
  have e1:Gq (Aa.mk 48 [] true (l.map Ou))=some (tJ l):=Pk (gY l) (by unfold gY; rw [Je]; omega)
  rw [e1]
  rfl
end
section
open Go
theorem mM {d:Al} (h:Sx d) {name:ByteArray} (hs:Fq name=true) (hs31:name.size<=31):Ok (Gc d name) (fun y=>(1<=y.1.length/\dV y.1)/\Sx y.2):=by
 unfold Gc
 refine Ok.bind (Qw h 4 (by omega) (by omega)) fun y1 h1=>?_
 have hy1:=h1.1
 rw [Fx (by omega)]
 refine Ok.loop (fun s=>0<=s.1/\s.1 + s.2.2.length=1 + y1.1/\Sx s.2.1/\dV s.2.2) (fun s=>s.1.toNat) (fun s hs'=>?_) ⟨by show 0<=1 + y1.1; omega,by show 1 + y1.1 + ((([]:List Ac).length:Nat):Int)=1 + y1.1; simp,h1.2,⟨aFb _,fun j e he=>by cases he⟩⟩
 obtain⟨i,d1,l⟩:=s
 obtain⟨a1,a2,a3,a4⟩:=hs'
 dsimp only at a1 a2 a3 a4
 show Ok (Gc.l2 name i d1 l) _
 unfold Gc.l2
 refine Ok.cond (fun hb=>?_) fun hb=>?_
 ·have hb:=aE4 hb
  obtain⟨e,he⟩:∃ e,k4[l.length]?=some e:=⟨_,aA1 (show l.length < 4 by omega)⟩
  refine Ok.bindE (a:=e) (by rw [Fs]; exact he) ?_
  have hes:Fq e=true:=by
   have:=aEy he
   unfold k4 at this
   simp only [aE1,aF7,aH8] at this
   rcases this with rfl | rfl | rfl | rfl <;> decide +kernel
  refine Ok.bind (Qw a3 3 (by omega) (by omega)) fun y2 h2=>?_
  have hy2:=h2.1
  rw [Fx (x:=y2.1 * 10) (by omega),Fx (x:=100 + (l.length:Int)) (by omega),Fx (by omega)]
  refine Ok.bind (pC h2.2 hes hs hs31 (by omega)) fun y3 h3=>?_
  refine Ok.bind (Jr (by rw [aEd]; omega)) fun l' hl'=>?_
  subst hl'
  rw [Fx (by omega)]
  refine Ok.ret ⟨⟨by show 0<=i - 1; omega,?_,h3.2,?_⟩,?_⟩
  ·show i - 1 + ((l ++ [y3.1]).length:Int)=1 + y1.1
   rw [aDw,aEd]; omega
  ·refine⟨by show (l ++ [y3.1]).length<=4; rw [aDw,aEd]; omega,fun j x hx=>?_⟩
   have hx:(l ++ [y3.1])[j]?=some x:=hx
   rw [aIh] at hx
   split at hx
   ·exact a4.2 j x hx
   ·rename_i hj
    have hj0:j - l.length=0:=by
     have:=Oe hx
     rw [aEd] at this
     omega
    rw [hj0] at hx
    injection hx with hx
    subst hx
    rw [show j=l.length by omega,he,h3.1.1]
    exact⟨rfl,h3.1.2⟩
  ·show (i - 1).toNat < i.toNat; omega
 ·have hb:=aFs hb
  exact Ok.up (Ok.ret ⟨⟨by show 1<=l.length; omega,a4⟩,a3⟩)
structure aCr (e:Ac):Prop where
 fit:Th e
 few:Za e.Chain
theorem aCr.of {e:Ac} (h:Zp e=true):aCr e:=⟨cE h,Sk h⟩
end
section
open Go
abbrev pX:=((((Unit×ByteArray)×Aw)×Int)×Bool)×List Aa
def Uh (q:Option (Unit×List Aa)):Option (pX×List Aa):=Gk (Gk (Gk (Gk (Gk q Do) S4) Eo) H0) Cc
theorem vP {l:List Aa} {b:pX} {t:List Aa} (h:Uh (some ((),l))=some (b,t)):l.length=t.length + 5:=by
 unfold Uh at h
 obtain⟨x1,h1,-⟩:=B1 h
 obtain⟨x2,h2,-⟩:=B1 h1
 obtain⟨x3,h3,-⟩:=B1 h2
 obtain⟨x4,h4,-⟩:=B1 h3
 obtain⟨x5,h5,-⟩:=B1 h4
 injection h5 with h5
 injection h5 with _ h5
 rw [h5]; rfl
def iL (v:Aa):Ab:=(F6 v).getD bJ
def K9 (l:List Aa):Option (List Ab):=if l.all (fun v=>(F6 v).isSome) then some (l.map iL) else none
def zJ (b:pX):Option Ac:=(K9 b.2).map fun c=>Ac.mk b.1.1.1.1.2 b.1.1.1.2 b.1.1.2 b.1.2 c
def aZ (q:Option (pX×List Aa)):Option Ac:=match q with
 | some (b,[])=>zJ b
 | _=>none
def Sb (v:Aa):Option Ac:=aZ (Uh (L4 v))
theorem aEs (v:Aa):Sb v=(Uh (Jv 5 v)).bind fun p=>zJ p.1:=by
 unfold Sb L4 Jv
 cases hl:Cc v with
 | none=>rfl
 | some l=>
  show aZ (Uh (some ((),l)))=(Uh (if l.length=5 then some ((),l) else none)).bind _
  cases hq:Uh (some ((),l)) with
  | none=>
   by_cases h:l.length=5
   ·rw [if_pos h,hq]; rfl
   ·rw [if_neg h]; rfl
  | some p=>
   obtain⟨b,t⟩:=p
   have hlen:=vP hq
   cases t with
   | nil=>rw [if_pos (by simpa using hlen),hq]; rfl
   | cons x t=>
    rw [if_neg (by simp at hlen; omega)]; rfl
theorem sG (y2:ByteArray×Aj) (y3:Aw×Aj) (y4:Int×Aj) (y5:Bool×Aj) (y6:List Aa×Aj) (hs:G4 y6.1 < 1073741824) :
  Ok (Dp (fun q'=>D6.l1 y2 y3 y4 y5 y6 q'.1 q'.2) (0,([]:List Ab))) (fun z=>match K9 y6.1 with | some c=>z=(Ac.mk y2.1 y3.1 y4.1 y5.1 c,!y6.2.Failed) | none=>z.2=false):=by
 have hn:=Gj y6.1
 refine Ok.loop (fun s=>∃ k:Nat,k<=y6.1.length/\(y6.1.take k).all (fun v=>(F6 v).isSome)=true/\s=((k:Int),(y6.1.take k).map iL)) (fun s=>y6.1.length - s.1.toNat) (fun s hk=>?_) ⟨0,aFb _,by simp,by simp⟩
 obtain⟨k,hk,ha,rfl⟩:=hk
 show Ok (D6.l1 y2 y3 y4 y5 y6 (k:Int) ((y6.1.take k).map iL)) _
 unfold D6.l1
 refine Ok.cond (fun hc=>?_) fun hc=>?_
 ·have hc:=aE4 hc
  obtain⟨e,he⟩:∃ e,y6.1[k]?=some e:=⟨_,aA1 (by omega)⟩
  have hm:=Iw (F5 he)
  rw [Fs]
  refine Ok.bindE he (Ok.bindE (jY e (by omega)) ?_)
  cases hp:F6 e with
  | none=>
   refine Ok.up (Ok.ret ?_)
   have:K9 y6.1=none:=by
    unfold K9
    rw [if_neg]
    intro h
    have:=aEb.1 h e (F5 he)
    rw [hp] at this; cases this
   rw [this]
  | some c=>
   rw [aEv,aCc,F3 (by omega)]
   have hx:iL e=c:=by unfold iL; rw [hp]; rfl
   have hap:Gl 2280 ((y6.1.take k).map iL) [c]=some ((y6.1.take (k + 1)).map iL):=by
    rw [E2 (by simp; omega),Dw he,aFw,<- hx]; rfl
   refine Ok.bindE hap (Ok.ret ⟨⟨k + 1,by omega,?_,rfl⟩,by show y6.1.length - ((k + 1:Nat):Int).toNat < y6.1.length - (k:Int).toNat; omega⟩)
   rw [Dw he,aHi,ha]
   simp [hp]
 ·have hc:=aFs hc
  have:k=y6.1.length:=by omega
  subst this
  rw [aFg] at ha ⊢
  refine Ok.up (Ok.ret ?_)
  have:K9 y6.1=some (y6.1.map iL):=by unfold K9; rw [if_pos ha]
  rw [this]
theorem mC (v:Aa) (hv:v.sz < 1073741824):Ok (D6 v) (fun z=>match Sb v with | some e=>z=(e,true) | none=>z.2=false):=by
 unfold D6
 refine Ok.bind (Ym v 5 hv) fun y hy=>?_
 refine Ok.bind (jE y _ _ hy) fun y2 h2=>?_
 refine Ok.bind (rM y2.2 _ _ h2) fun y3 h3=>?_
 refine Ok.bind (Ru y3.2 _ _ h3) fun y4 h4=>?_
 refine Ok.bind (sP y4.2 _ _ h4) fun y5 h5=>?_
 refine Ok.bind ((sO y5.2 _ _ h5).and (X6 y5.2 h5.1)) fun y6 h6=>?_
 refine (sG y2 y3 y4 y5 y6 h6.2).mono fun z hz=>?_
 rw [aEs]
 rcases h6.1.2 with ⟨hq,hf⟩ | ⟨t,hq,hr⟩
 ·have hq:Uh (Jv 5 v)=none:=hq
  rw [hq]
  show z.2=false
  cases hc:K9 y6.1 with
  | none=>rw [hc] at hz; exact hz
  | some c=>rw [hc] at hz; dsimp only at hz; rw [hz,hf]; rfl
 ·have hq:Uh (Jv 5 v)=some ((((((((),y2.1),y3.1),y4.1),y5.1),y6.1)),t):=hq
  rw [hq]
  show match zJ ((((((),y2.1),y3.1),y4.1),y5.1),y6.1) with | some e=>z=(e,true) | none=>z.2=false
  unfold zJ
  cases hc:K9 y6.1 with
  | none=>rw [hc] at hz; exact hz
  | some c=>
   rw [hc] at hz
   dsimp only at hz ⊢
   rw [hz,hr]; rfl
theorem uX {v:Aa} (hv:v.sz < 1073741824):Ok (Dn v) (fun z=>z.2=(F6 v).isSome/\(z.2=true->z.1=iL v)):=by
 refine (qK v hv).mono fun z hz=>?_
 unfold iL
 cases hp:F6 v with
 | none=>rw [hp] at hz; exact⟨hz,fun h=>by rw [show z.2=false from hz] at h; cases h⟩
 | some c=>rw [hp] at hz; dsimp only at hz; subst hz; exact⟨rfl,fun _=>rfl⟩
theorem T6 (r:Ad) (h:RB r):r.At < (r.L.length:Int)↔r.L.drop r.At.toNat≠[]:=by
 have h0:=h.a0
 have h1:=h.a1
 rw [Ne,aF9]
 omega
section
variable (out:List Ac) (y3:Ad×Ad) (y4:ByteArray×Ad) (y5:Aw×Ad) (y6:Int×Ad) (y7:Bool×Ad) (y8:Ad×Ad)
theorem mU (q:Option (pX×List Aa)) (hout:out.length < 1073741824) (h8:Rh y8.2 q (((((((),y4.1),y5.1),y6.1),y7.1),y8.1.L))) (h1:Rh y8.1 (q.map fun p=>((),p.1.2)) ()) :
  Ok (Dp (fun q'=>A1.l3 out y3 y4 y5 y6 y7 y8 q'.1 q'.2) (y8.1,([]:List Ab))) (fun z=>match aZ q with | some e=>z=.next (y3.2,out ++ [e]) | none=>z=.done ([],1)):=by
 obtain⟨e2,he2,hE⟩:=Vm y8.2 q _ h8
 have hn:=Gj y8.1.L
 have hsz:=h1.1.sz
 have bad:∀ (c:Ad) (l:List Ab),(e2=false\/∃ r,Ce c=some (false,r))->aZ q=none->Ok (A1.j4 out y3 y4 y5 y6 y7 y8 c l false) (Rd' (fun s'=>False) (fun z=>match aZ q with | some e=>z=.next (y3.2,out ++ [e]) | none=>z=.done ([],1))):=fun c l hb hf=>by
  unfold A1.j4
  rw [aCc]
  refine Ok.up ?_
  rw [hf]
  refine Ok.bindE he2 ?_
  cases e2 with
  | false=>
   rw [aFt,aEu]
   unfold A1.j6
   exact Ok.ret rfl
  | true=>
   rw [aEv,aCc]
   rcases hb with hb | ⟨r,hr⟩
   ·cases hb
   ·refine Ok.bindE hr ?_
    unfold A1.j6
    exact Ok.ret rfl
 rcases h1.2 with ⟨hq0,hok⟩ | ⟨cl,hq0,hok,hcl⟩
 ·-- no list
  have hq:q=none:=by cases q with
   | none=>rfl
   | some p=>cases hq0
  have he:e2=false:=by
   rcases hE with ⟨-,h⟩ | ⟨h,-⟩
   ·rw [hq] at h; cases h
   ·exact h
  refine Ok.loop (fun s=>s=(y8.1,([]:List Ab))) (fun _=>0) (fun s hs=>?_) rfl
  subst hs
  show Ok (A1.l3 out y3 y4 y5 y6 y7 y8 y8.1 []) _
  unfold A1.l3
  rw [hok,aCc]
  refine (bad y8.1 [] (.inl he) (by rw [hq]; rfl)).mono fun z hz=>?_
  cases z with
  | next s=>exact hz.elim
  | done r=>exact hz
 ·obtain⟨p,hp,hcl2⟩:∃ p,q=some p/\p.1.2=cl:=by
   cases q with
   | none=>cases hq0
   | some p=>exact⟨p,rfl,by injection hq0 with h; injection h⟩
  obtain⟨t,hpt,hb⟩:∃ t,p=((((((((),y4.1),y5.1),y6.1),y7.1),y8.1.L)),t)/\(e2=true↔t=[]):=by
   rcases h8.2 with ⟨h,-⟩ | ⟨t,h,-,-⟩
   ·rw [hp] at h; cases h
   ·rw [hp] at h
    injection h with h
    refine⟨t,h,?_⟩
    rcases hE with ⟨h1,h2⟩ | ⟨h1,h2⟩
    ·rw [hp,h] at h2
     injection h2 with h2
     injection h2 with _ h2
     exact⟨fun _=>h2,fun _=>h1⟩
    ·refine⟨fun h3=>(by rw [h1] at h3; cases h3),fun h3=>?_⟩
     subst h3
     exact (h2 _ (by rw [hp,h])).elim
  have hL:y8.1.L=cl:=by rw [<- hcl2,hpt]
  have hnl:=Gj cl
  rw [hL] at hn hsz
  have fin:aZ q=if t=[] then (K9 cl).map fun c=>Ac.mk y4.1 y5.1 y6.1 y7.1 c else none:=by
   rw [hp,hpt]
   cases t with
   | nil=>rw [if_pos rfl]; unfold aZ zJ; rw [hL]
   | cons x t=>rw [if_neg (by simp)]; rfl
  refine Ok.loop (fun s=>∃ k:Nat,k<=cl.length/\s.2.length<=cl.length/\((RB s.1/\s.1.OK=false/\cl.all (fun v=>(F6 v).isSome)=false)\/(Rh s.1 (some ((),cl.drop k)) ()/\(cl.take k).all (fun v=>(F6 v).isSome)=true/\s.2=(cl.take k).map iL)))
   (fun s=>if s.1.OK then (s.1.L.drop s.1.At.toNat).length + 1 else 0) (fun s hk=>?_) ⟨0,aFb _,aFb _,.inr ⟨⟨h1.1,.inr ⟨cl,by simp,hok,hcl⟩⟩,by simp,by simp⟩⟩
  obtain⟨c,l⟩:=s
  obtain⟨k,hk,hll,hs⟩:=hk
  dsimp only at hll hs
  show Ok (A1.l3 out y3 y4 y5 y6 y7 y8 c l) _
  unfold A1.l3
  rcases hs with ⟨hrb,hco,hall⟩ | ⟨hsim,hall,hl⟩
  ·rw [hco,aCc]
   have hce:∃ r,Ce c=some (false,r):=by
    obtain⟨e,h1,h2⟩:=Vm c (none:Option (Unit×List Aa)) () ⟨hrb,.inl ⟨rfl,hco⟩⟩
    rcases h2 with ⟨-,h2⟩ | ⟨h2,-⟩
    ·cases h2
    ·subst h2; exact⟨_,h1⟩
   refine (bad c l (.inr hce) ?_).mono fun z hz=>?_
   ·rw [fin]
    split
    ·unfold K9; rw [if_neg (by rw [hall]; simp)]; rfl
    ·rfl
   ·cases z with
    | next s=>exact hz.elim
    | done r=>exact hz
  ·have hco:c.OK=true:=by
    rcases hsim.2 with ⟨h,-⟩ | ⟨t',h,h2,h3⟩
    ·cases h
    ·exact h2
   have hcd:c.L.drop c.At.toNat=cl.drop k:=by
    rcases hsim.2 with ⟨h,-⟩ | ⟨t',h,h2,h3⟩
    ·cases h
    ·injection h with h; injection h with _ h; rw [h3,<- h]
   rw [hco,aEu]
   by_cases hlt:c.At < (c.L.length:Int)
   ·rw [aBu hlt]
    unfold A1.j4
    rw [aEu]
    refine Ok.bind (gP c hsim.1) fun y9 h9=>?_
    obtain⟨hr9,hz9,h9⟩:=h9
    rcases h9 with ⟨h9 | h9,-⟩ | ⟨x,t',-,hx,hy9,ho9,hd9⟩
    ·rw [hco] at h9; cases h9
    ·exact ((T6 c hsim.1).1 hlt h9).elim
    ·refine Ok.bind (uX hz9) fun y10 h10=>?_
     have hkx:cl[k]?=some x:=by
      rw [hcd] at hx
      have:(cl.drop k)[0]?=some x:=by rw [hx]; rfl
      rwa [aE8,aGz] at this
     have hkl:k < cl.length:=(aBw.1 hkx).1
     have hd':cl.drop (k + 1)=t':=by
      rw [hcd] at hx
      have:=congrArg List.tail hx
      rwa [List.tail_drop,List.tail_cons] at this
     have hμ:(c.L.drop c.At.toNat).length=t'.length + 1:=by rw [hx]; rfl
     have j5:∀ b:Bool,b=y10.2->Ok (A1.j5 l y9 y10 b) (Rd' (fun s'=>(∃ k:Nat,k<=cl.length/\s'.2.length<=cl.length/\((RB s'.1/\s'.1.OK=false/\cl.all (fun v=>(F6 v).isSome)=false)\/(Rh s'.1 (some ((),cl.drop k)) ()/\(cl.take k).all (fun v=>(F6 v).isSome)=true/\s'.2=(cl.take k).map iL)))/\(if s'.1.OK then (s'.1.L.drop s'.1.At.toNat).length + 1 else 0) < (if c.OK then (c.L.drop c.At.toNat).length + 1 else 0)) (fun z=>match aZ q with | some e=>z=.next (y3.2,out ++ [e]) | none=>z=.done ([],1))):=fun b hb=>by
      subst hb
      unfold A1.j5
      have hl':l.length=k:=by rw [hl,aGf,aDy]; omega
      refine Ok.bind (Jr (by rw [aEd]; omega)) fun l2 hl2=>?_
      subst hl2
      refine Ok.ret ⟨⟨k + 1,by omega,by rw [aDw,aEd]; omega,?_⟩,?_⟩
      ·rw [hy9] at h10
       cases hpx:(F6 x).isSome with
       | false=>
        rw [hpx] at h10
        refine .inl ⟨⟨hr9.sz,hr9.a0,hr9.a1⟩,h10.1,?_⟩
        cases ha:cl.all (fun v=>(F6 v).isSome) with
        | false=>rfl
        | true=>
         have:=aEb.1 ha x (F5 hkx)
         rw [hpx] at this; cases this
       | true=>
        rw [hpx] at h10
        refine .inr ⟨⟨⟨hr9.sz,hr9.a0,hr9.a1⟩,.inr ⟨_,rfl,h10.1,by show y9.2.L.drop y9.2.At.toNat=_; rw [hd9,hd']⟩⟩,?_,?_⟩
        ·rw [Dw hkx,aHi,hall]
         simp [hpx]
        ·rw [Dw hkx,aFw,<- hl,h10.2 h10.1]; rfl
      ·rw [hco,if_pos rfl,hμ]
       show (if y10.2 then (y9.2.L.drop y9.2.At.toNat).length + 1 else 0) < _
       rw [hd9]
       split <;> omega
     rw [ho9,aEu]
     have:=j5 _ rfl
     rw [hco] at this
     exact this
   ·have hdn:cl.drop k=[]:=by
     rw [<- hcd]
     exact Classical.byContradiction fun h=>hlt ((T6 c hsim.1).2 h)
    have hkk:cl.take k=cl:=by
     rw [aF9] at hdn
     exact aFd hdn
    rw [hkk] at hall hl
    rw [aBo hlt]
    unfold A1.j4
    rw [aCc]
    refine Ok.up ?_
    refine Ok.bindE he2 ?_
    have hce:Ce c=some (true,c):=by
     obtain⟨e,h1,h2⟩:=Vm c _ () hsim
     rcases h2 with ⟨h2,-⟩ | ⟨-,h2⟩
     ·subst h2; exact h1
     ·exact (h2 () (by rw [hdn])).elim
    have hcq:K9 cl=some (cl.map iL):=by unfold K9; rw [if_pos hall]
    rw [fin,hcq]
    by_cases ht:t=[]
    ·have he:e2=true:=hb.2 ht
     subst he
     rw [aEv,aCc,if_pos ht]
     refine Ok.bindE hce ?_
     unfold A1.j6
     rw [aEv,aCc]
     refine Ok.bind (Jr (by rw [aEd]; omega)) fun l2 hl2=>?_
     subst hl2
     refine Ok.ret ?_
     rw [hl]; rfl
    ·have he:e2=false:=by
      cases e2 with
      | false=>rfl
      | true=>exact (ht (hb.1 rfl)).elim
     subst he
     rw [aFt,aEu,if_neg ht]
     unfold A1.j6
     exact Ok.ret rfl
end
def bS (v:Aa):Ac:=(Sb v).getD zE
def Lm (l:List Aa):Option (List Ac):=if l.all (fun v=>(Sb v).isSome) then some (l.map bS) else none
def Zb (l:List Ac):List Ac×Int:=bif decide (Jb l=0) then (l,0) else ([],16)
def L6 (b:List UInt8):List Ac×Int:=if (Ke b).2=0 then (match Cc (Ke b).1 with
 | none=>([],1)
 | some l=>match Lm l with
  | none=>([],1)
  | some out=>Zb out) else ([],(Ke b).2)
theorem sL {v:Aa} {e:Ac} (hv:v.sz < 1000000) (h:Sb v=some e):Th e:=by
 unfold Sb L4 at h
 cases hl:Cc v with
 | none=>rw [hl] at h; cases h
 | some l=>
  rw [hl] at h
  have hz:=H8 hl
  have h:aZ (Uh (some ((),l)))=some e:=h
  cases hq:Uh (some ((),l)) with
  | none=>rw [hq] at h; cases h
  | some p=>
   obtain⟨b,t⟩:=p
   rw [hq] at h
   cases t with
   | cons x t=>cases h
   | nil=>
    have h:zJ b=some e:=h
    unfold zJ at h
    obtain⟨c,hc,rfl⟩:=aFi.1 h
    unfold Uh at hq
    obtain⟨x1,h1,k1⟩:=B1 hq
    obtain⟨x2,h2,-⟩:=B1 h1
    obtain⟨x3,h3,-⟩:=B1 h2
    obtain⟨x4,h4,-⟩:=B1 h3
    obtain⟨x5,h5,k5⟩:=B1 h4
    injection h5 with h5
    injection h5 with _ h5
    have m5:=Iw (show x5∈l by rw [h5]; simp)
    have m1:=Iw (show x1∈l by rw [h5]; simp)
    have s5:=Nf k5
    have z1:=H8 k1
    refine⟨by show b.1.1.1.1.2.size<=_; omega,fun cc hcc=>?_⟩
    have hcc:cc∈c:=hcc
    unfold K9 at hc
    split at hc
    ·rename_i hall
     injection hc with hc
     subst hc
     obtain⟨w,hw,rfl⟩:=aFr.1 hcc
     have h6:=aEb.1 hall w hw
     have h7:=Iw hw
     cases hp:F6 w with
     | none=>rw [hp] at h6; cases h6
     | some d=>
      have:iL w=d:=by unfold iL; rw [hp]; rfl
      rw [this]
      exact (lW (by omega) hp).w
    ·cases hc
theorem Z7 {l:List Aa} {out:List Ac} (hl:G4 l < 1000000) (h:Lm l=some out):out.length<=1000000/\∀ e∈out,Th e:=by
 have hn:=Gj l
 unfold Lm at h
 split at h
 ·rename_i hall
  injection h with h
  subst h
  refine⟨by rw [aGf]; omega,fun e he=>?_⟩
  obtain⟨w,hw,rfl⟩:=aFr.1 he
  have h6:=aEb.1 hall w hw
  have h7:=Iw hw
  cases hp:Sb w with
  | none=>rw [hp] at h6; cases h6
  | some d=>
   have:bS w=d:=by unfold bS; rw [hp]; rfl
   rw [this]
   exact sL (by omega) hp
 ·cases h
theorem eQ {l:List Aa} {x:Aa} (hx:x∈l) (h:Sb x=none):Lm l=none:=by
 unfold Lm
 rw [if_neg]
 intro h2
 have:=aEb.1 h2 x hx
 rw [h] at this; cases this
theorem iJ (b:List UInt8):Du b=some (L6 b):=by
 refine (?_:Ok (Du b) (fun y=>y=L6 b)) |> fun ⟨a,h1,h2⟩=>h1.trans (congrArg some h2)
 unfold Du
 rw [jF,aAo]
 by_cases h:(Ke b).2=0
 ·have hs:=aW h
  rw [aBu h,aEv,aCc]
  refine Ok.bindE (Pa _ (by omega)) ?_
  have hd:L6 b=(match Cc (Ke b).1 with
   | none=>([],1)
   | some l=>match Lm l with
    | none=>([],1)
    | some out=>Zb out):=by unfold L6; rw [if_pos h]
  cases hl:Cc (Ke b).1 with
  | none=>rw [hd,hl]; exact Ok.ret rfl
  | some l=>
   rw [hl] at hd
   have hd:L6 b=(match Lm l with
    | none=>([],1)
    | some out=>Zb out):=hd
   have hz:=H8 hl
   have hn:=Gj l
   have hO:Md ([]:List Aa) (some l)=(l,0):=rfl
   rw [hO,aBu rfl,aEv,aCc]
   refine Ok.loop (fun s=>∃ k:Nat,k<=l.length/\(l.take k).all (fun v=>(Sb v).isSome)=true/\s=((k:Int),(l.take k).map bS)) (fun s=>l.length - s.1.toNat) (fun s hk=>?_) ⟨0,aFb _,by simp,by simp⟩
   obtain⟨k,hk,ha,rfl⟩:=hk
   show Ok (Du.l1 (l,0) (k:Int) ((l.take k).map bS)) _
   unfold Du.l1
   refine Ok.cond (fun hc=>?_) fun hc=>?_
   ·have hc:(k:Int) < (l.length:Int):=aE4 hc
    obtain⟨e,he⟩:∃ e,l[k]?=some e:=⟨_,aA1 (by omega)⟩
    have hm:=Iw (F5 he)
    rw [Fs]
    refine Ok.bindE he (Ok.bind (mC e (by omega)) fun y3 h3=>?_)
    cases hp:Sb e with
    | none=>
     rw [hp] at h3
     have h3:y3.2=false:=h3
     rw [h3,aFt,aEu]
     refine Ok.up (Ok.ret ?_)
     rw [hd,eQ (F5 he) hp]
    | some c=>
     rw [hp] at h3
     have h3:y3=(c,true):=h3
     subst h3
     rw [aEv,aCc,F3 (by omega)]
     have hx:bS e=c:=by unfold bS; rw [hp]; rfl
     have hap:Gl 432 ((l.take k).map bS) [c]=some ((l.take (k + 1)).map bS):=by
      rw [E2 (by simp; omega),Dw he,aFw,<- hx]; rfl
     refine Ok.bindE hap (Ok.ret ⟨⟨k + 1,by omega,?_,rfl⟩,by show l.length - ((k + 1:Nat):Int).toNat < l.length - (k:Int).toNat; omega⟩)
     rw [Dw he,aHi,ha]
     simp [hp]
   ·have hc:¬ (k:Int) < (l.length:Int):=aFs hc
    have:k=l.length:=by omega
    subst this
    rw [aFg] at ha ⊢
    have hq:Lm l=some (l.map bS):=by unfold Lm; rw [if_pos ha]
    have hf:=Z7 (by omega) hq
    refine Ok.up (Ok.bindE (Tx _ hf.1 hf.2) ?_)
    rw [hd,hq]
    show Ok _ (fun y=>y=Zb (l.map bS))
    unfold Zb
    cases decide (Jb (l.map bS)=0) <;> exact Ok.ret rfl
 ·rw [aBo h]
  unfold L6
  rw [if_neg h]
  exact Ok.ret rfl
theorem eV (b:List UInt8):A1 b=some (L6 b):=by
 refine (?_:Ok (A1 b) (fun y=>y=L6 b)) |> fun ⟨a,h1,h2⟩=>h1.trans (congrArg some h2)
 unfold A1
 rw [Sw,aAo]
 by_cases h:(Ke b).2=0
 ·have hs:=aW h
  rw [aBu h,aEv,aCc]
  refine Ok.bind (iF _ (by omega)) fun y2 h2=>?_
  obtain⟨h2,h2L⟩:=h2
  have hd:L6 b=(match Cc (Ke b).1 with
   | none=>([],1)
   | some l=>match Lm l with
    | none=>([],1)
    | some out=>Zb out):=by unfold L6; rw [if_pos h]
  unfold L4 at h2
  cases hl:Cc (Ke b).1 with
  | none=>
   rw [hl] at h2
   have:y2.OK=false:=by
    rcases h2.2 with ⟨-,h3⟩ | ⟨t,h3,-⟩
    ·exact h3
    ·cases h3
   rw [this,hd,hl]; exact Ok.ret rfl
  | some l=>
   rw [hl] at hd h2
   have hd:L6 b=(match Lm l with
    | none=>([],1)
    | some out=>Zb out):=hd
   have hz:=H8 hl
   have hn:=Gj l
   obtain⟨hok,Zf⟩:y2.OK=true/\y2.L.drop y2.At.toNat=l:=by
    rcases h2.2 with ⟨h3,-⟩ | ⟨t,h3,h4,h5⟩
    ·cases h3
    ·injection h3 with h3
     injection h3 with _ h3
     exact⟨h4,by rw [h5,<- h3]⟩
   rw [hok,aEv,aCc]
   refine Ok.loop (fun s=>∃ k:Nat,k<=l.length/\(l.take k).all (fun v=>(Sb v).isSome)=true/\Rh s.1 (some ((),l.drop k)) ()/\s.2=(l.take k).map bS) (fun s=>(s.1.L.drop s.1.At.toNat).length) (fun s hk=>?_) ⟨0,aFb _,by simp,⟨h2.1,.inr ⟨l,by simp,hok,Zf⟩⟩,by simp⟩
   obtain⟨r,out⟩:=s
   obtain⟨k,hk,ha,hsim,hout⟩:=hk
   have hout:out=(l.take k).map bS:=hout
   have hsim:Rh r (some ((),l.drop k)) ():=hsim
   have hro:r.OK=true:=by
    rcases hsim.2 with ⟨h,-⟩ | ⟨t',h,h2,h3⟩
    ·cases h
    ·exact h2
   have hcd:r.L.drop r.At.toNat=l.drop k:=by
    rcases hsim.2 with ⟨h,-⟩ | ⟨t',h,h2,h3⟩
    ·cases h
    ·injection h with h; injection h with _ h; rw [h3,<- h]
   show Ok (A1.l1 r out) _
   unfold A1.l1
   rw [hro,aEu]
   by_cases hlt:r.At < (r.L.length:Int)
   ·rw [aBu hlt]
    unfold A1.j2
    rw [aEu]
    have hne:=(T6 r hsim.1).1 hlt
    rw [hcd] at hne
    obtain⟨x,t,hx⟩:=List.exists_cons_of_ne_nil hne
    have hkx:l[k]?=some x:=by
     have:(l.drop k)[0]?=some x:=by rw [hx]; rfl
     rwa [aE8,aGz] at this
    have hkl:k < l.length:=(aBw.1 hkx).1
    have hd':l.drop (k + 1)=t:=by
     have:=congrArg List.tail hx
     rwa [List.tail_drop,List.tail_cons] at this
    rw [hx] at hsim
    refine Ok.bind (U9 r _ () hsim) fun y3 h3=>?_
    rw [I6] at h3
    have hq1:((Cc x).map fun a=>(((),a),t)).map (fun p:(Unit×List Aa)×List Aa=>((),p.1.2))=L4 x:=by unfold L4; cases Cc x <;> rfl
    have h31:Rh y3.1 (L4 x) ():=by rw [<- hq1]; exact h3.2
    refine Ok.bind (bT y3.1 _ _ h31) fun y4 h4=>?_
    refine Ok.bind (sU y4.2 _ _ h4) fun y5 h5=>?_
    refine Ok.bind (Rr y5.2 _ _ h5) fun y6 h6=>?_
    refine Ok.bind (pH y6.2 _ _ h6) fun y7 h7=>?_
    refine Ok.bind (U9 y7.2 _ _ h7) fun y8 h8=>?_
    have hol:out.length=k:=by rw [hout,aGf,aDy]; omega
    refine (mU out y3 y4 y5 y6 y7 y8 (Uh (L4 x)) (by omega) h8.1 h8.2).mono fun z hz=>?_
    have hz:match Sb x with | some e=>z=.next (y3.2,out ++ [e]) | none=>z=.done ([],1):=hz
    cases hp:Sb x with
    | none=>
     rw [hp] at hz
     have hz:z=.done ([],1):=hz
     subst hz
     show ([],1)=L6 b
     rw [hd,eQ (F5 hkx) hp]
    | some e=>
     rw [hp] at hz
     have hz:z=.next (y3.2,out ++ [e]):=hz
     subst hz
     have hax:∃ lx,Cc x=some lx:=by
      cases hh:Cc x with
      | none=>unfold Sb L4 at hp; rw [hh] at hp; cases hp
      | some lx=>exact⟨lx,rfl⟩
     obtain⟨lx,hlx⟩:=hax
     rw [hlx] at h3
     obtain⟨hr3,h3⟩:=h3.1
     obtain⟨ho3,hd3⟩:y3.2.OK=true/\y3.2.L.drop y3.2.At.toNat=t:=by
      rcases h3 with ⟨h3,-⟩ | ⟨t',h3,h4,h5⟩
      ·cases h3
      ·injection h3 with h3
       injection h3 with _ h3
       exact⟨h4,by rw [h5,<- h3]⟩
     refine⟨⟨k + 1,by omega,?_,⟨hr3,.inr ⟨_,rfl,ho3,by rw [hd3,hd']⟩⟩,?_⟩,?_⟩
     ·rw [Dw hkx,aHi,ha]
      simp [hp]
     ·show out ++ [e]=_
      have:bS x=e:=by unfold bS; rw [hp]; rfl
      rw [Dw hkx,aFw,<- hout,<- this]; rfl
     ·show (y3.2.L.drop y3.2.At.toNat).length < (r.L.drop r.At.toNat).length
      rw [hd3,hcd,hx,aEw]
      omega
   ·rw [aBo hlt]
    unfold A1.j2
    rw [aCc]
    have hdn:l.drop k=[]:=by
     rw [<- hcd]
     exact Classical.byContradiction fun h=>hlt ((T6 r hsim.1).2 h)
    have hkk:l.take k=l:=by
     rw [aF9] at hdn
     exact aFd hdn
    rw [hkk] at ha hout
    subst hout
    have hre:Ce r=some (true,r):=by
     obtain⟨e,h1,h2⟩:=Vm r _ () hsim
     rcases h2 with ⟨h2,-⟩ | ⟨-,h2⟩
     ·subst h2; exact h1
     ·exact (h2 () (by rw [hdn])).elim
    have hq:Lm l=some (l.map bS):=by unfold Lm; rw [if_pos ha]
    have hf:=Z7 (by omega) hq
    refine Ok.up (Ok.bindE hre ?_)
    rw [aEv,aCc]
    refine Ok.bindE (Yz _ hf.2) ?_
    rw [hd,hq]
    show Ok _ (fun y=>y=Zb (l.map bS))
    unfold Zb
    cases decide (Jb (l.map bS)=0) <;> exact Ok.ret rfl
 ·rw [aBo h]
  unfold L6
  rw [if_neg h]
  exact Ok.ret rfl
theorem mI (b:List UInt8):(L6 b).1.length<=1000000/\∀ e∈(L6 b).1,Za e.Chain:=by
 have hz:∀ n:Int,(([],n):List Ac×Int).1.length<=1000000/\∀ e∈(([],n):List Ac×Int).1,Za e.Chain:=fun n=>⟨aFb _,fun e he=>by cases he⟩
 unfold L6
 split
 ·split
  ·exact hz 1
  ·split
   ·exact hz 1
   ·rename_i out _
    unfold Zb
    cases h:decide (Jb out=0) with
    | false=>exact hz 16
    | true=>
     obtain⟨h1,h2,-⟩:=My.1 (aE4 h)
     exact⟨by show out.length<=_; omega,fun e he=>Sk (h2 e he)⟩
 ·exact hz _
theorem fZ (l:List Aa) (n:Nat) (x:Aa):G4 (Jy l n x)<=G4 l + x.sz:=by
 unfold Jy
 induction l generalizing n with
 | nil=>exact aFb _
 | cons a l ih=>
  cases n with
  | zero=>rw [List.set_cons_zero,G4,G4]; omega
  | succ n=>have:=ih n; rw [List.set_cons_succ,G4,G4]; omega
theorem aDf:Cr=Ck:=rfl
theorem oQ (b:List UInt8):Ej b=some (Ke b):=by
 rw [<- Sw]
 unfold Ej Eh
 rw [aDf]
 rfl
theorem N9 (b:List UInt8):Ok (Be.j3 b) (fun r=>r=true):=by
 unfold Be.j3
 have hf:=mI b
 refine Ok.bindE (iJ b) (Ok.bindE (eV b) ?_)
 rw [aBu rfl,aEu]
 refine Ok.bindE (tY hf.1 hf.2) ?_
 rw [aBu rfl,aEu]
 exact eG
theorem Tp (x0:(List Int)) (x1:Int) (x2:UInt8) (x3:UInt8) (hok:Y5 [.sl 1 (An eI x0),.val (.int .i64 x1),.val (.int .u8 (x2.toNat:Int)),.val (.int .u8 (x3.toNat:Int))]):Be x0 x1 x2 x3=some true:=by
 refine Ok.true_ ?_
 simp only [nK,vG] at hok
 have hat:Mo x1:=hok.2.1
 clear hok
 revert hat
 generalize x0=l,x1=at',x2=by',x3=how
 intro hat
 unfold Be Mc
 rw [aAo]
 refine Ok.cond (fun _=>eG) fun hb=>?_
 have hl:l.length<=400:=by
  have:=aE4 (by simpa using hb)
  omega
 refine Ok.bind (tK hl) fun d hd=>?_
 refine Ok.bind (mM hd (by decide) (by decide)) fun y4 h4=>?_
 have D:=mJ h4.1.2
 refine Ok.bindE (fL D (by omega)) ?_
 have hlen:(tJ y4.1).1.length<=4096:=dK _
 generalize (tJ y4.1).1=b at *
 refine Ok.cond (fun h0=>?_) fun _=>N9 b
 have h0:=aE4 h0
 refine Ok.bind (iM at' _ (by omega) (by omega)) fun i hi=>?_
 refine Ok.bind (Q:=fun _=>True) ⟨how % 5,rfl,trivial⟩ fun q _=>?_
 refine Ok.cond (fun _=>Ok.bind (Oy hi.1 hi.2) fun _ _=>N9 _) fun _=>?_
 refine Ok.cond (fun _=>?_) fun _=>?_
 ·rw [Fx (by omega)]
  refine Ok.bind (bL (by omega)) fun _ _=>Ok.bind (bL (by omega)) fun _ _=>?_
  refine Ok.bind (Jr (by simp only [aDy,aD1]; omega)) fun _ _=>N9 _
 refine Ok.cond (fun _=>?_) fun _=>?_
 ·refine Ok.bind (bL (by omega)) fun _ _=>?_
  refine Ok.bind (Jr (by simp only [aDy,aD1,aIn]; omega)) fun l6 h6=>?_
  subst h6
  refine Ok.bind (Jr (by simp only [aDy,aD1,aDw,aIn,aEd]; omega)) fun l7 h7=>?_
  subst h7
  refine Ok.bind (bL (by omega)) fun _ _=>?_
  refine Ok.bind (Jr (by simp only [aDy,aD1,aDw,aIn,aEd]; omega)) fun _ _=>N9 _
 refine Ok.cond (fun _=>?_) fun _=>N9 b
 refine Ok.bindE (oQ b) ?_
 have hv:(Ke b).1.sz<=4096:=by
  by_cases h:(Ke b).2=0
  ·exact aW h
  ·have:(Ke b).1=Ko:=by
    unfold Ke at h ⊢
    split
    ·rfl
    ·rename_i h1
     rw [if_neg h1] at h
     split
     ·rename_i v m hm
      rw [hm] at h
      dsimp only at h
      split
      ·rename_i h2
       rw [if_pos h2] at h
       split
       ·rfl
       ·rename_i h3
        rw [if_neg h3] at h
        exact (h rfl).elim
      ·rfl
     ·rfl
   rw [this]; decide
 have hes:=In (Ke b).1
 have hn:=Gj (Ke b).1.Elements
 have fin:∀ E:List Aa,G4 E<=3000000->Ok (Be.j2 (Ke b) E) (fun r=>r=true):=fun E hE=>by
  unfold Be.j2
  have k:=In (Aa.mk (Ke b).1.Tag (Ke b).1.Bytes (Ke b).1.Nested E)
  dsimp only at k
  exact Ok.bindE (Pk _ (by omega)) (N9 _)
 refine Ok.cond (fun h1=>?_) fun _=>fin _ (by omega)
 have h1:=aE4 h1
 refine Ok.bind (iM at' _ (by omega) (by omega)) fun j hj=>?_
 refine Ok.bind (Oy hj.1 hj.2) fun e he=>?_
 have hm:=Iw (F5 he)
 have hee:=In e
 have hne:=Gj e.Elements
 refine Ok.bindE (Fh 1 (by omega) (by omega)) ?_
 refine Ok.bind (Jr (by rw [aEd]; omega)) fun l2 hl2=>?_
 subst hl2
 refine Ok.bind (Oy (by omega) (by rw [aDw,aEd]; omega)) fun _ _=>?_
 refine fin _ ?_
 have k1:=fZ (Ke b).1.Elements j.toNat (Aa.mk e.Tag e.Bytes e.Nested (Jy (e.Elements ++ [Aa.mk 0 [] false []]) ((e.Elements.length:Int)).toNat (J6 1)))
 have k2:=In (Aa.mk e.Tag e.Bytes e.Nested (Jy (e.Elements ++ [Aa.mk 0 [] false []]) ((e.Elements.length:Int)).toNat (J6 1)))
 have k3:=fZ (e.Elements ++ [Aa.mk 0 [] false []]) ((e.Elements.length:Int)).toNat (J6 1)
 rw [Xc] at k3
 have k4:G4 [Aa.mk 0 [] false []]<=10:=by simp only [G4,In]; decide
 have k5:=Iq 1
 dsimp only at k2
 omega
end
end Go.Proofs.YtfanepojdefdpaaGreat
