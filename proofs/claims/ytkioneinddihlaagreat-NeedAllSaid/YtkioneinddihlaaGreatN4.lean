import Derived.Test.YtkioneinddihlaaGreatN3
import Derived.Test.YtkioneinddihlaaGreatSD
set_option autoImplicit false
set_option linter.unusedVariables false
set_option linter.unusedSimpArgs false
namespace Go.Proofs.YtkioneinddihlaaGreat
open Go
noncomputable def wM (e:Al) (c:Ae):Int:=(Cs e c).getD 0
theorem Nb (e:Al) (c:Ae):Cs e c=some (wM e c):=by
 have:Ok (Cs e c) (fun _=>True):=by
  unfold Cs Cs.j1 Cs.j2 Cs.j3
  repeat' (first | exact Ok.ret trivial | refine Ok.cond (fun _=>?_) (fun _=>?_))
 obtain⟨v,hv,-⟩:=this
 unfold wM
 rw [hv]; rfl
theorem Ph (s:List Aw) (v:Aw) (h:Lo s):Ey s v=some (s.any fun x=>decide (v=x)):=by
 have hi:De s v=some (Rm s fun x=>decide (v=x)):=by
  unfold De
  refine No s _ h (fun i x hx=>?_) ?_
  ·show De.l1 s v (i:Int)=_
   unfold De.l1
   rw [H3 hx]
   cases decide (v=x) <;> rfl
  ·show De.l1 s v (s.length:Int)=_
   unfold De.l1
   rw [Fz]; rfl
 unfold Ey
 rw [hi,aAc,Np]
theorem Nm (s:List Ae) (f:Ae->Option Bool) (p:Ae->Bool) (h:Lo s) (hf:∀ x∈s,f x=some (p x)):Ej s f=some (s.any p):=by
 have hi:Bq s f=some (Rm s p):=by
  unfold Bq
  refine No s p h (fun i x hx=>?_) ?_
  ·show Bq.l1 s f (i:Int)=_
   unfold Bq.l1
   rw [H3 hx,hf x (Eg hx),aAc]
   cases p x <;> rfl
  ·show Bq.l1 s f (s.length:Int)=_
   unfold Bq.l1
   rw [Fz]; rfl
 unfold Ej
 rw [hi,aAc,Np]
def lkS (e:An) (a b:Int):Bool:=decide (a=b) || ((e.Edges.any fun x=>decide ((⟨a,b⟩:Aw)=x)) || (e.Edges.any fun x=>decide ((⟨b,a⟩:Aw)=x)))
theorem Yp (e:An) (h:Lo e.Edges) (a b:Int):Kt e a b=some (lkS e a b):=by
 unfold Kt lkS
 rw [Ph _ _ h,Ph _ _ h,aAc,aAc]
 cases decide (a=b) with
 | true=>rfl
 | false=>cases e.Edges.any fun x=>decide ((⟨a,b⟩:Aw)=x) <;> rfl
def In (p:Nat->Nat->Bool) (i k:Nat):List Ac:=((List.range k).filter (p i)).map fun (k:Nat)=>⟨(i:Int),(k:Int)⟩
def Jt (p:Nat->Nat->Bool) (m i:Nat):List Ac:=(List.range i).flatMap fun i=>In p i m
theorem Mq (p:Nat->Nat->Bool) (i k:Nat):In p i (k + 1)=In p i k ++ (bif p i k then [⟨(i:Int),(k:Int)⟩] else []):=by
 unfold In
 rw [aMc,aPu,aOk]
 cases h:p i k with
 | true=>rw [aPs h]; rfl
 | false=>rw [aPt (by rw [h]; decide)]; rfl
theorem Td (p:Nat->Nat->Bool) (i k:Nat):(In p i k).length<=k:=by
 unfold In
 rw [aPf]
 have:=aO3 (p i) (List.range k)
 rw [List.length_range] at this
 exact this
theorem Na (p:Nat->Nat->Bool) (m i:Nat):Jt p m (i + 1)=Jt p m i ++ In p i m:=by
 unfold Jt
 rw [aMc,aP8]
 simp
theorem Ot (p:Nat->Nat->Bool) (m:Nat):∀ i,(Jt p m i).length<=i * m
 | 0=>aFf _
 | i + 1=>by
  have:=Ot p m i
  have h2:=Td p i m
  rw [Na,aEq,Nat.succ_mul]
  omega
def iK (e:An) (c:Ae):Al:=e.Endpoints.getD c.Endpoint.toNat default
def Lq (e:An) (c:Ae):Prop:=0<=c.Endpoint/\c.Endpoint < (e.Endpoints.length:Int)
theorem nC {e:An} {c:Ae} (h:Lq e c):Bo e.Endpoints c.Endpoint=some (iK e c):=by
 obtain⟨h1,h2⟩:=h
 obtain⟨j,hj⟩:∃ j:Nat,c.Endpoint=(j:Int):=⟨c.Endpoint.toNat,by omega⟩
 unfold iK
 rw [hj,Cr,aIm,aK8,aAy (by omega)]
 rfl
noncomputable def jnC (e:An) (a b:Ae):Bool:=decide (wM (iK e a) a < wM (iK e b) b) && lkS e a.Endpoint b.Endpoint
noncomputable def Lh (e:An) (l:List Ae) (i k:Nat):Bool:=jnC e (l.getD i default) (l.getD k default)
theorem R5 {α:Type} {l:List α} {i:Nat} {x y:α} (h:l[i]?=some x):l.getD i y=x:=by
 rw [aK8,h]; rfl
theorem qG {e:An} {c:Ae} (h:Lq e c):Hn e c=some true:=by
 unfold Hn
 rw [aAg h.1,aEw,aAg h.2]
theorem pN {e:An} {l:List Ae} (hc:Ca e=some 0) (hE:Lo e.Edges) (hl:l.length<=24) (hn:∀ c∈l,Lq e c) (hcap:(Jt (Lh e l) l.length l.length).length<=Dn):Ok (Ce e l) (fun y=>y=(H4 O0 (Jt (Lh e l) l.length l.length),0)):=by
 have hlo:Lo l:=by unfold Lo; omega
 unfold Ce
 rw [hc,aAc,aAg rfl,aHz,aD6,aAk (by omega),aD6]
 have c1:=Nm l (fun x0=>F4 x0 e) (fun _=>false) hlo (fun x hx=>by
  unfold F4
  rw [qG (hn x hx)]; rfl)
 have hf:l.any (fun _=>false)=false:=by simp
 rw [c1,aAc,hf,aD6]
 have l3:∀ (i:Nat) (c:Ae),l[i]?=some c->∀ out:List Ac,out.length<=600->Ok (B1 (fun q'=>Ce.l3 e l (i:Int) c q'.1 q'.2) (0,out)) (fun o:Lp (Int×List Ac) ((List Ac)×Int)=>o=.next (((i + 1:Nat):Int),out ++ In (Lh e l) i l.length)):=by
  intro i c hic out ho
  have hil:=I9 hic
  refine Ok.loop (fun s:Int×List Ac=>∃ k:Nat,s.1=(k:Int)/\k<=l.length/\s.2=out ++ In (Lh e l) i k) (fun s=>l.length - s.1.toNat) ?_ ⟨0,rfl,aFf _,by show out=out ++ []; rw [aMl]⟩
  rintro⟨_,_⟩ ⟨k,rfl,hk,rfl⟩
  show Ok (Ce.l3 e l (i:Int) c (k:Int) (out ++ In (Lh e l) i k)) _
  unfold Ce.l3
  refine Ok.cond (fun hb=>?_) (fun hb=>?_)
  ·have hkl:k < l.length:=by have:=aCe hb; omega
   obtain⟨b,hkb⟩:∃ b,l[k]?=some b:=⟨_,aAy hkl⟩
   have fin:∀ x:Bool,x=Lh e l i k->Ok (Ce.j4 (i:Int) (k:Int) (out ++ In (Lh e l) i k) x) (S6 (fun s':Int×List Ac=>(∃ k:Nat,s'.1=(k:Int)/\k<=l.length/\s'.2=out ++ In (Lh e l) i k)/\l.length - s'.1.toNat < l.length - ((k:Int)).toNat) (fun o:Lp (Int×List Ac) ((List Ac)×Int)=>o=.next (((i + 1:Nat):Int),out ++ In (Lh e l) i l.length))):=by
    intro x hx
    have hrl:=Td (Lh e l) i k
    unfold Ce.j4 Ce.j5
    rw [Db (by omega)]
    refine Ok.cond (fun h1=>?_) (fun h1=>?_)
    ·refine Ok.bind (E6 (by rw [aEq,aF2]; omega)) fun l' hl'=>?_
     subst hl'
     refine Ok.ret ⟨⟨k + 1,by show (k:Int) + 1=_; omega,hkl,?_⟩,by show l.length - ((k:Int) + 1).toNat < l.length - ((k:Int)).toNat; omega⟩
     show _ ++ _=_
     rw [Mq,<- hx,h1,aJb]; rfl
    ·refine Ok.ret ⟨⟨k + 1,by show (k:Int) + 1=_; omega,hkl,?_⟩,by show l.length - ((k:Int) + 1).toNat < l.length - ((k:Int)).toNat; omega⟩
     show _ ++ _=_
     rw [Mq,<- hx,h1,aD6,aMl]
   rw [Cr,hkb,aAc,nC (hn c (Eg hic)),aAc,Nb,aAc,nC (hn b (Eg hkb)),aAc,Nb,aAc,Yp e hE,aAc]
   have hp:Lh e l i k=(decide (wM (iK e c) c < wM (iK e b) b) && lkS e c.Endpoint b.Endpoint):=by
    unfold Lh jnC
    rw [R5 hic,R5 hkb]
   refine Ok.cond (fun h1=>fin _ ?_) (fun h1=>fin _ ?_)
   ·rw [hp,h1]; rfl
   ·rw [hp,h1]; rfl
  ·have hkl:k=l.length:=by have:=aDs hb; omega
   subst hkl
   rw [Db (by omega)]
   exact Ok.up (Ok.ret rfl)
 refine Ok.loop (fun s:Int×List Ac=>∃ i:Nat,s.1=(i:Int)/\i<=l.length/\s.2=Jt (Lh e l) l.length i) (fun s=>l.length - s.1.toNat) ?_ ⟨0,rfl,aFf _,rfl⟩
 rintro⟨_,_⟩ ⟨i,rfl,hi,rfl⟩
 have hlen:=Ot (Lh e l) l.length i
 have hmul:i * l.length<=24 * 24:=Nat.mul_le_mul (by omega) hl
 show Ok (Ce.l2 e l (i:Int) (Jt (Lh e l) l.length i)) _
 unfold Ce.l2
 refine Ok.cond (fun hb=>?_) (fun hb=>?_)
 ·have hil:i < l.length:=by have:=aCe hb; omega
  obtain⟨c,hic⟩:∃ c,l[i]?=some c:=⟨_,aAy hil⟩
  rw [Cr,hic,aAc]
  refine (l3 i c hic _ (by omega)).mono fun o ho=>?_
  subst ho
  refine⟨⟨i + 1,rfl,hil,?_⟩,by show l.length - (((i + 1:Nat):Int)).toNat < l.length - ((i:Int)).toNat; omega⟩
  show _ ++ _=_
  rw [Na]
 ·have hil:i=l.length:=by have:=aDs hb; omega
  subst hil
  rw [Kf _ hcap,aAc]
  exact Ok.up (Ok.ret rfl)
end Go.Proofs.YtkioneinddihlaaGreat
