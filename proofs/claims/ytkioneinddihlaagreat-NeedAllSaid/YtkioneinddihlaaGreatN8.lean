/- Plain texts, joined. No program is in sight here. -/
import Derived.Test.YtkioneinddihlaaGreatN5
set_option autoImplicit false
set_option linter.unusedVariables false
set_option linter.unusedSimpArgs false
namespace Go.Proofs.YtkioneinddihlaaGreat
section
open Go
theorem oP (e:Al) (c:Ae):Ek e c=Cs e c:=rfl
theorem Rj (e:Al) (c:Ae):Ek e c=some (wM e c):=(oP e c).trans (Nb e c)
theorem gE {α:Type} {x:Option α} {y:α} (h:Ok x (fun z=>z=y)):x=some y:=by
 obtain⟨z,h1,rfl⟩:=h
 exact h1
theorem X6 (p:Nat->Nat->Bool) (i:Nat):∀ k,SA (In p i k)/\∀ r∈In p i k,r.First=(i:Int)/\r.Then < (k:Int)
 | 0=>⟨.nil,fun r hr=>by cases hr⟩
 | k + 1=>by
  obtain⟨h1,h2⟩:=X6 p i k
  rw [Mq]
  cases p i k with
  | false=>
   rw [aD6,aMl]
   exact⟨h1,fun r hr=>by have:=h2 r hr; omega⟩
  | true=>
   rw [aEw]
   refine⟨aPj.2 ⟨h1,List.pairwise_singleton _ _,fun a ha b hb=>?_⟩,fun r hr=>?_⟩
   ·rw [aEp] at hb
    subst hb
    have:=h2 a ha
    exact Xv.2 (.inr ⟨this.1,this.2⟩)
   ·rcases aH5.1 hr with hr | hr
    ·have:=h2 r hr
     omega
    ·rw [aEp] at hr
     subst hr
     exact⟨rfl,by show (k:Int) < ((k + 1:Nat):Int); omega⟩
theorem Wx (p:Nat->Nat->Bool) (m:Nat):∀ i,SA (Jt p m i)/\∀ r∈Jt p m i,r.First < (i:Int)
 | 0=>⟨.nil,fun r hr=>by cases hr⟩
 | i + 1=>by
  obtain⟨h1,h2⟩:=Wx p m i
  obtain⟨h3,h4⟩:=X6 p i m
  rw [Na]
  refine⟨aPj.2 ⟨h1,h3,fun a ha b hb=>?_⟩,fun r hr=>?_⟩
  ·have e1:=h2 a ha
   have e2:=(h4 b hb).1
   exact Xv.2 (.inl (by omega))
  ·rcases aH5.1 hr with hr | hr
   ·have:=h2 r hr
    omega
   ·have:=(h4 r hr).1
    omega
theorem vS {l:List Ac} (h:∀ i,VA (fun a b=>O0 a b=true) l i):SA l:=by
 show l.Pairwise _
 rw [aOi]
 intro i j hi hj hij
 obtain⟨k,rfl⟩:∃ k,j=i + k + 1:=⟨j - i - 1,by omega⟩
 clear hij
 induction k with
 | zero=>exact h (i + 0 + 1) _ _ (by omega) (aAy hi) (aAy hj)
 | succ k ih=>
  have h1:=ih (by omega)
  have h2:=h (i + (k + 1) + 1) _ _ (by omega) (aAy (show i + (k + 1) + 1 - 1 < l.length by omega)) (aAy hj)
  exact Un.trans _ _ _ h1 h2
theorem wH {l:List Ac} (h:SA l) (i:Nat):VA (fun a b=>O0 a b=true) l i:=fun x y h0 hx hy=>by
 have h:l.Pairwise _:=h
 rw [aOi] at h
 have hi:=I9 hy
 have:=h (i - 1) i (by omega) hi (by omega)
 rw [aAy (by omega)] at hx
 rw [aAy hi] at hy
 cases hx; cases hy
 exact this
theorem nS (e:An) (h:Lo e.Edges) (a b:Int):Di e a b=some (lkS e a b):=by
 unfold Di lkS
 by_cases hab:a=b
 ·rw [aAg hab]; rfl
 rw [aAk hab,aD6,Bool.false_or]
 refine (R2 e.Edges (fun x=>decide ((⟨a,b⟩:Aw)=x) || decide ((⟨b,a⟩:Aw)=x)) true false h (fun i x hx=>?_) ?_).trans ?_
 ·show Di.l1 e a b (i:Int)=_
  unfold Di.l1 Di.j2
  rw [H3 hx]
  obtain⟨c,s⟩:=x
  have e1:∀ a b,decide ((⟨a,b⟩:Aw)=⟨c,s⟩)=(decide (c=a) && decide (s=b)):=fun a b=>by
   rw [aP9]
   simp only [aKi,aEs,Aw.mk.injEq]
   exact⟨fun h=>⟨h.1.symm,h.2.symm⟩,fun h=>⟨h.1.symm,h.2.symm⟩⟩
  rw [e1,e1]
  show cond (decide (c=a)) (cond (decide (s=b)) _ (cond (decide (c=b)) _ _)) (cond (decide (c=b)) _ _)=_
  cases decide (c=a) <;> cases decide (s=b) <;> cases decide (c=b) <;> cases decide (s=a) <;> rfl
 ·show Di.l1 e a b (e.Edges.length:Int)=_
  unfold Di.l1
  rw [Fz]; rfl
 ·have:(e.Edges.any fun x=>decide ((⟨a,b⟩:Aw)=x) || decide ((⟨b,a⟩:Aw)=x))=((e.Edges.any fun x=>decide ((⟨a,b⟩:Aw)=x)) || e.Edges.any fun x=>decide ((⟨b,a⟩:Aw)=x)):=by
   induction e.Edges with
   | nil=>rfl
   | cons y l ih=>
    simp only [aOh,ih]
    cases decide ((⟨a,b⟩:Aw)=y) <;> cases decide ((⟨b,a⟩:Aw)=y) <;> simp
  rw [this]
  cases (e.Edges.any fun x=>decide ((⟨a,b⟩:Aw)=x)) || e.Edges.any fun x=>decide ((⟨b,a⟩:Aw)=x) <;> rfl
theorem eV {e:An} {l:List Ae} (hE:Lo e.Edges) (hl:l.length<=24) (hn:∀ c∈l,Lq e c):Ok (B1 (fun q'=>Bi.l3 e l q'.1 q'.2) (0,([]:List Ac))) (fun y=>y=(Jt (Lh e l) l.length l.length,0)):=by
 have l3:∀ (i:Nat) (c:Ae),l[i]?=some c->∀ out:List Ac,out.length<=600->Ok (B1 (fun q'=>Bi.l4 e l (i:Int) c q'.1 q'.2) (0,out)) (fun o:Lp (Int×List Ac) ((List Ac)×Int)=>o=.next (((i + 1:Nat):Int),out ++ In (Lh e l) i l.length)):=by
  intro i c hic out ho
  have hil:=I9 hic
  refine Ok.loop (fun s:Int×List Ac=>∃ k:Nat,s.1=(k:Int)/\k<=l.length/\s.2=out ++ In (Lh e l) i k) (fun s=>l.length - s.1.toNat) ?_ ⟨0,rfl,aFf _,by show out=out ++ []; rw [aMl]⟩
  rintro⟨_,_⟩ ⟨k,rfl,hk,rfl⟩
  show Ok (Bi.l4 e l (i:Int) c (k:Int) (out ++ In (Lh e l) i k)) _
  unfold Bi.l4
  refine Ok.cond (fun hb=>?_) (fun hb=>?_)
  ·have hkl:k < l.length:=by have:=aCe hb; omega
   obtain⟨b,hkb⟩:∃ b,l[k]?=some b:=⟨_,aAy hkl⟩
   have fin:∀ x:Bool,x=Lh e l i k->Ok (Bi.j5 (i:Int) (k:Int) (out ++ In (Lh e l) i k) x) (S6 (fun s':Int×List Ac=>(∃ k:Nat,s'.1=(k:Int)/\k<=l.length/\s'.2=out ++ In (Lh e l) i k)/\l.length - s'.1.toNat < l.length - ((k:Int)).toNat) (fun o:Lp (Int×List Ac) ((List Ac)×Int)=>o=.next (((i + 1:Nat):Int),out ++ In (Lh e l) i l.length))):=by
    intro x hx
    have hrl:=Td (Lh e l) i k
    unfold Bi.j5 Bi.j6
    rw [Db (by omega)]
    refine Ok.cond (fun h1=>?_) (fun h1=>?_)
    ·refine Ok.bind (E6 (by rw [aEq,aF2]; omega)) fun l' hl'=>?_
     subst hl'
     refine Ok.ret ⟨⟨k + 1,by show (k:Int) + 1=_; omega,hkl,?_⟩,by show l.length - ((k:Int) + 1).toNat < l.length - ((k:Int)).toNat; omega⟩
     show _ ++ _=_
     rw [Mq,<- hx,h1,aJb]; rfl
    ·refine Ok.ret ⟨⟨k + 1,by show (k:Int) + 1=_; omega,hkl,?_⟩,by show l.length - ((k:Int) + 1).toNat < l.length - ((k:Int)).toNat; omega⟩
     show _ ++ _=_
     rw [Mq,<- hx,h1,aD6,aMl]
   have hp:Lh e l i k=(decide (wM (iK e c) c < wM (iK e b) b) && lkS e c.Endpoint b.Endpoint):=by
    unfold Lh jnC
    rw [R5 hic,R5 hkb]
   rw [Cr,hkb,aAc,nS e hE,aAc]
   refine Ok.cond (fun h1=>?_) (fun h1=>fin _ ?_)
   ·rw [nC (hn c (Eg hic)),aAc,Rj,aAc,nC (hn b (Eg hkb)),aAc,Rj,aAc]
    refine fin _ ?_
    rw [hp,h1,Bool.and_true]
   ·rw [hp,h1,Bool.and_false]
  ·have hkl:k=l.length:=by have:=aDs hb; omega
   subst hkl
   rw [Db (by omega)]
   exact Ok.up (Ok.ret rfl)
 refine Ok.loop (fun s:Int×List Ac=>∃ i:Nat,s.1=(i:Int)/\i<=l.length/\s.2=Jt (Lh e l) l.length i) (fun s=>l.length - s.1.toNat) ?_ ⟨0,rfl,aFf _,rfl⟩
 rintro⟨_,_⟩ ⟨i,rfl,hi,rfl⟩
 have hlen:=Ot (Lh e l) l.length i
 have hmul:i * l.length<=24 * 24:=Nat.mul_le_mul (by omega) hl
 show Ok (Bi.l3 e l (i:Int) (Jt (Lh e l) l.length i)) _
 unfold Bi.l3
 refine Ok.cond (fun hb=>?_) (fun hb=>?_)
 ·have hil:i < l.length:=by have:=aCe hb; omega
  obtain⟨c,hic⟩:∃ c,l[i]?=some c:=⟨_,aAy hil⟩
  rw [Cr,hic,aAc]
  refine (l3 i c hic _ (by omega)).mono fun o ho=>?_
  subst ho
  refine⟨⟨i + 1,rfl,hil,?_⟩,by show l.length - (((i + 1:Nat):Int)).toNat < l.length - ((i:Int)).toNat; omega⟩
  show _ ++ _=_
  rw [Na]
 ·have hil:i=l.length:=by have:=aDs hb; omega
  subst hil
  exact Ok.up (Ok.ret rfl)
theorem fF (e:An) (c:Ae):Hn e c=some (decide (0<=c.Endpoint) && decide (c.Endpoint < (e.Endpoints.length:Int))):=by
 unfold Hn
 cases decide (0<=c.Endpoint) <;> rfl
theorem oX {e:An} {c:Ae}:(decide (0<=c.Endpoint) && decide (c.Endpoint < (e.Endpoints.length:Int)))=true↔Lq e c:=by
 unfold Lq
 rw [aEs,aKi,aKi]
theorem iM {e:An} (hf:Wu e) {l:List Ae} (hl:l.length<=1000):∃ y,Ce e l=some y/\Bi e l=some y/\y.1.length<=600:=by
 have hsame:=W2 hf
 obtain⟨c,hc,hcv⟩:=Ln hf
 have hlo:Lo l:=by unfold Lo; omega
 rw [hc] at hsame
 by_cases h0:c=0
 ·subst h0
  by_cases h24:24 < l.length
  ·refine⟨([],3),?_,?_,aFf _⟩
   ·unfold Ce
    rw [hc,aAc,aAg rfl,aHz,aD6,aAg (by omega),aEw]
   ·unfold Bi
    rw [hsame,aAc,aAg rfl,aHz,aD6,aAg (by omega),aEw]
  by_cases hn:∀ c∈l,Lq e c
  ·have hlen:=Ot (Lh e l) l.length l.length
   have hmul:l.length * l.length<=24 * 24:=Nat.mul_le_mul (by omega) (by omega)
   obtain⟨y,h1,h2⟩:=pN hc hf.edges (by omega) hn (by unfold Dn; omega)
   obtain⟨z,h3,h4⟩:=eV hf.edges (by omega) hn
   rw [Zy Un (Wx _ _ _).1] at h2
   subst h2
   subst h4
   refine⟨_,h1,?_,by show (Jt _ _ _).length<=600; omega⟩
   unfold Bi
   rw [hsame,aAc,aAg rfl,aHz,aD6,aAk (by omega),aD6]
   refine gE (Hc l.length (fun i=>∀ c,l[i]?=some c->Lq e c) (fun i hi hV=>?_) fun hV=>?_)
   ·obtain⟨x,hx⟩:∃ x,l[i]?=some x:=⟨_,aAy hi⟩
    have hx1:=hn x (Eg hx)
    unfold Lq at hx1
    show Ok (Bi.l1 e l (i:Int)) _
    unfold Bi.l1 Bi.j2
    refine Qm hx ?_
    rw [aAk (show ¬ x.Endpoint < 0 by omega),aD6,aAk (show ¬ (e.Endpoints.length:Int)<=x.Endpoint by omega)]
    exact Fp (by omega) (fun h=>by cases h) fun _ z hz=>by rw [hx] at hz; cases hz; exact hx1
   ·show Ok (Bi.l1 e l (l.length:Int)) _
    unfold Bi.l1
    exact Lg (Ok.up ⟨_,h3,rfl⟩)
  ·refine⟨([],40),?_,?_,aFf _⟩
   ·unfold Ce
    rw [hc,aAc,aAg rfl,aHz,aD6,aAk (by omega),aD6]
    rw [Nm l (fun x0=>F4 x0 e) (fun c=>!(decide (0<=c.Endpoint) && decide (c.Endpoint < (e.Endpoints.length:Int)))) hlo (fun x hx=>by
     unfold F4
     rw [fF]; rfl),aAc]
    have:(l.any fun c=>!(decide (0<=c.Endpoint) && decide (c.Endpoint < (e.Endpoints.length:Int))))=true:=by
     rw [aIi]
     refine aOj fun hno=>hn fun c hcl=>?_
     refine aOj fun hnc=>hno ⟨c,hcl,?_⟩
     rw [aNb,Bool.eq_false_iff]
     exact fun h=>hnc (oX.1 h)
    rw [this,aEw]
   ·unfold Bi
    rw [hsame,aAc,aAg rfl,aHz,aD6,aAk (by omega),aD6]
    refine gE (Hc l.length (fun i=>∀ c,l[i]?=some c->Lq e c) (fun i hi hV=>?_) fun hV=>?_)
    ·obtain⟨x,hx⟩:∃ x,l[i]?=some x:=⟨_,aAy hi⟩
     show Ok (Bi.l1 e l (i:Int)) _
     unfold Bi.l1 Bi.j2
     refine Qm hx (Ok.cond (fun _=>Ok.up (Ok.ret rfl)) fun h1=>?_)
     have h1:=aDs h1
     exact Fp (by omega) (fun _=>rfl) fun h2 z hz=>by rw [hx] at hz; cases hz; have:=aDs h2; exact⟨by omega,by omega⟩
    ·exact absurd (I2 hV) hn
 ·refine⟨([],31),?_,?_,aFf _⟩
  ·unfold Ce
   rw [hc,aAc,aAk h0,aJf,aEw]
  ·unfold Bi
   rw [hsame,aAc,aAk h0,aJf,aEw]
def Ud (q:Nat->Bool) (n:Nat):List Int:=((List.range n).filter q).map fun (k:Nat)=>(k:Int)
theorem cF (q:Nat->Bool) (n:Nat):Ud q (n + 1)=Ud q n ++ (bif q n then [(n:Int)] else []):=by
 unfold Ud
 rw [aMc,aPu,aOk]
 cases h:q n <;> simp [h]
theorem iN (q:Nat->Bool) (n:Nat):(Ud q n).length<=n:=by
 unfold Ud
 rw [aPf]
 exact aH4 (aO3 _ _) (by simp)
def dN (e:An) (a b:Int) (j:Nat):Bool:=decide (e.Edges.getD j default=⟨a,b⟩) || decide (e.Edges.getD j default=⟨b,a⟩)
theorem Om {R:Type} {q:Nat->Bool} {n j:Nat} {x:Bool} {Q:R->Prop} (hj:j < n) (hn:n<=1000) (hx:x=q j) :
  Ok (cond x ((Gs 8 (Ud q j) [(j:Int)]).bind fun l=>(some (.next (W ((j:Int) + 1),l)):Option (Lp (Int×List Int) R))) (some (.next (W ((j:Int) + 1),Ud q j)))) (S6 (fun s':Int×List Int=>(∃ j:Nat,s'.1=(j:Int)/\j<=n/\s'.2=Ud q j)/\n - s'.1.toNat < n - ((j:Nat):Int).toNat) Q):=by
 have hl:=iN q j
 rw [Db (by omega)]
 refine Ok.cond (fun h=>?_) fun h=>?_
 ·refine Ok.bind (E6 (by rw [aF2]; omega)) fun l' hl'=>?_
  subst hl'
  exact Ok.ret ⟨⟨j + 1,by show (j:Int) + 1=_; omega,hj,by show _ ++ _=_; rw [cF,<- hx,h]; rfl⟩,by show n - ((j:Int) + 1).toNat < n - ((j:Nat):Int).toNat; omega⟩
 ·exact Ok.ret ⟨⟨j + 1,by show (j:Int) + 1=_; omega,hj,by show Ud q j=_; rw [cF,<- hx,h,aD6,aMl]⟩,by show n - ((j:Int) + 1).toNat < n - ((j:Nat):Int).toNat; omega⟩
theorem rQ {e:An} (hf:Wu e) (hE:e.Edges.length<=100) {l:List Ae} (hl:l.length<=1000) (r:Ac):∃ y,Cw e l r=some y/\B6 e l r=some y/\y.1.length<=100:=by
 have hsame:=W2 hf
 obtain⟨c,hc,hcv⟩:=Ln hf
 rw [hc] at hsame
 by_cases h0:c=0
 ·have hv:EsV e:=by
   rcases hcv with ⟨-,h⟩ | ⟨h,-⟩
   ·exact h
   ·omega
  subst h0
  unfold Cw B6
  rw [hc,hsame,aAc,aAc,aAg rfl,aHz,aD6,aD6]
  by_cases h24:(24:Int) < l.length
  ·rw [aAg h24,aEw,aEw]
   exact⟨_,rfl,rfl,aFf _⟩
  rw [aAk h24,aD6,aD6]
  unfold Ky
  have no:∃ y,Cw.j2 e l r true=some y/\B6.j1 e l r true=some y/\y.1.length<=100:=⟨_,rfl,rfl,aFf _⟩
  by_cases r1:r.First < 0
  ·rw [aAk (by omega),aD6,aAg r1,aEw]; exact no
  rw [aAg (show (0:Int)<=r.First by omega),aEw,aAk r1,aD6,aAc]
  by_cases r2:r.First < l.length
  case neg=>
   rw [aAk r2,aJf,aEw,aAg (show (l.length:Int)<=r.First by omega),aEw]
   cases decide (r.Then < 0) <;> exact no
  rw [aAg r2,aHz,aD6,aAk (show ¬ (l.length:Int)<=r.First by omega),aD6]
  by_cases r3:r.Then < 0
  ·rw [aAk (by omega),aD6,aAg r3,aEw]; exact no
  rw [aAg (show (0:Int)<=r.Then by omega),aEw,aAk r3,aD6,aAc]
  by_cases r4:r.Then < l.length
  case neg=>
   rw [aAk r4,aJf,aAg (show (l.length:Int)<=r.Then by omega)]
   exact no
  rw [aAg r4,aHz,aAk (show ¬ (l.length:Int)<=r.Then by omega)]
  obtain⟨i,hi⟩:∃ i:Nat,r.First=(i:Int):=⟨r.First.toNat,by omega⟩
  obtain⟨k,hk⟩:∃ k:Nat,r.Then=(k:Int):=⟨r.Then.toNat,by omega⟩
  obtain⟨a,ha⟩:∃ a,l[i]?=some a:=⟨_,aAy (by omega)⟩
  obtain⟨b,hb⟩:∃ b,l[k]?=some b:=⟨_,aAy (by omega)⟩
  unfold Cw.j2 B6.j1
  rw [aD6,aD6,hi,hk,Cr,Cr,ha,hb,aAc,aAc,aAc,aAc,fF,fF,aAc,aAc]
  have nob:∃ y,Cw.j3 e l r true=some y/\B6.j2 e a b true=some y/\y.1.length<=100:=⟨_,rfl,rfl,aFf _⟩
  by_cases a1:a.Endpoint < 0
  ·rw [aAk (show ¬ 0<=a.Endpoint by omega),aLj,aJf,aEw,aAg a1,aEw]; exact nob
  rw [aAg (show 0<=a.Endpoint by omega),aMv,aAk a1,aD6]
  by_cases a2:a.Endpoint < e.Endpoints.length
  case neg=>
   rw [aAk a2,aJf,aEw,aAg (show (e.Endpoints.length:Int)<=a.Endpoint by omega),aEw]
   cases decide (b.Endpoint < 0) <;> exact nob
  rw [aAg a2,aHz,aD6,aAk (show ¬ (e.Endpoints.length:Int)<=a.Endpoint by omega),aD6]
  by_cases b1:b.Endpoint < 0
  ·rw [aAk (show ¬ 0<=b.Endpoint by omega),aLj,aJf,aAg b1,aEw]; exact nob
  rw [aAg (show 0<=b.Endpoint by omega),aMv,aAk b1,aD6]
  by_cases b2:b.Endpoint < e.Endpoints.length
  case neg=>
   rw [aAk b2,aJf,aAg (show (e.Endpoints.length:Int)<=b.Endpoint by omega)]
   exact nob
  rw [aAg b2,aHz,aAk (show ¬ (e.Endpoints.length:Int)<=b.Endpoint by omega)]
  unfold Cw.j3 B6.j2
  rw [aD6,aD6,hi,hk,Cr,Cr,ha,hb,aAc,aAc]
  have N:Ok (B1 (fun q'=>Cw.l4 e a b q'.1 q'.2) (0,([]:List Int))) (fun y=>y=(Ud (dN e a.Endpoint b.Endpoint) e.Edges.length,0)):=by
   refine Ok.loop (fun s:Int×List Int=>∃ j:Nat,s.1=(j:Int)/\j<=e.Edges.length/\s.2=Ud (dN e a.Endpoint b.Endpoint) j) (fun s=>e.Edges.length - s.1.toNat) ?_ ⟨0,rfl,aFf _,rfl⟩
   rintro⟨_,_⟩ ⟨j,rfl,hj,rfl⟩
   show Ok (Cw.l4 e a b (j:Int) _) _
   unfold Cw.l4 Cw.j5 Cw.j6
   refine Ok.cond (fun hb=>?_) (fun hb=>?_)
   ·have hjl:j < e.Edges.length:=by have:=aCe hb; omega
    obtain⟨x,hx⟩:∃ x,e.Edges[j]?=some x:=⟨_,aAy hjl⟩
    have hq:dN e a.Endpoint b.Endpoint j=(decide (x=⟨a.Endpoint,b.Endpoint⟩) || decide (x=⟨b.Endpoint,a.Endpoint⟩)):=by
     unfold dN
     rw [R5 hx]
    rw [Cr,hx,aAc]
    refine Ok.cond (fun h1=>Om hjl (by omega) (by rw [hq,h1]; rfl)) (fun h1=>Om hjl (by omega) (by rw [hq,h1]; rfl))
   ·have hjl:j=e.Edges.length:=by have:=aDs hb; omega
    subst hjl
    exact Ok.up (Ok.ret rfl)
  have R:Ok (B1 (fun q'=>B6.l3 e a b q'.1 q'.2) (0,([]:List Int))) (fun y=>y=(Ud (dN e a.Endpoint b.Endpoint) e.Edges.length,0)):=by
   refine Ok.loop (fun s:Int×List Int=>∃ j:Nat,s.1=(j:Int)/\j<=e.Edges.length/\s.2=Ud (dN e a.Endpoint b.Endpoint) j) (fun s=>e.Edges.length - s.1.toNat) ?_ ⟨0,rfl,aFf _,rfl⟩
   rintro⟨_,_⟩ ⟨j,rfl,hj,rfl⟩
   show Ok (B6.l3 e a b (j:Int) _) _
   unfold B6.l3 B6.j4 B6.j5
   refine Ok.cond (fun hb=>?_) (fun hb=>?_)
   ·have hjl:j < e.Edges.length:=by have:=aCe hb; omega
    obtain⟨x,hx⟩:∃ x,e.Edges[j]?=some x:=⟨_,aAy hjl⟩
    have hne:x.Client≠x.Server:=((hv.ed j).2 x hx).2.2
    have hq:dN e a.Endpoint b.Endpoint j=((decide (x.Client=a.Endpoint) && decide (x.Server=b.Endpoint)) || (decide (x.Client=b.Endpoint) && decide (x.Server=a.Endpoint))):=by
     unfold dN
     rw [R5 hx]
     obtain⟨cl,sv⟩:=x
     rw [aP9]
     simp only [aKa,aEs,aKi,Aw.mk.injEq]
    rw [Cr,hx,aAc]
    refine Ok.cond (fun h1=>?_) (fun h1=>Om hjl (by omega) ?_)
    ·refine Ok.cond (fun h2=>Ok.cond (fun h3=>Om hjl (by omega) (by rw [hq,h2,h3]; rfl)) fun h3=>Ok.cond (fun h4=>Om hjl (by omega) (by rw [hq,h2,h3,h4]; rfl)) fun h4=>Om hjl (by omega) (by rw [hq,h2,h3,h4]; rfl)) fun h2=>Ok.cond (fun h4=>Om hjl (by omega) (by rw [hq,h2,h4]; rfl)) fun h4=>Om hjl (by omega) (by rw [hq,h2,h4]; rfl)
    ·have hab:a.Endpoint=b.Endpoint:=by simpa using h1
     rw [hq,<- hab]
     by_cases e1:x.Client=a.Endpoint
     ·rw [aAg e1,aAk (fun e2=>hne (e1.trans e2.symm))]; rfl
     ·rw [aAk e1]; rfl
   ·have hjl:j=e.Edges.length:=by have:=aDs hb; omega
    subst hjl
    exact Ok.up (Ok.ret rfl)
  have hlen:=iN (dN e a.Endpoint b.Endpoint) e.Edges.length
  exact⟨_,gE N,gE R,by show (Ud _ _).length<=100; omega⟩
 ·refine⟨([],31),?_,?_,aFf _⟩
  ·unfold Cw
   rw [hc,aAc,aAk h0,aJf,aEw]
  ·unfold B6
   rw [hsame,aAc,aAk h0,aJf,aEw]
theorem oN (l:List Int) (h:l.length<=1000):Ei l l=some true:=by
 refine Ok.true_ ?_
 unfold Ei
 rw [aAg rfl,aHz,aD6]
 refine Hc l.length (fun _=>True) (fun i hi _=>?_) fun _=>?_
 ·obtain⟨x,hx⟩:∃ x,l[i]?=some x:=⟨_,aAy hi⟩
  show Ok (Ei.l1 l l (i:Int)) _
  unfold Ei.l1
  refine Qm hx ?_
  rw [Cr,hx,aAc,aAg rfl]
  exact Fp (by omega) (fun h=>by cases h) fun _=>trivial
 ·show Ok (Ei.l1 l l (l.length:Int)) _
  unfold Ei.l1
  exact Lg (Ok.up (Ok.ret rfl))
end
section
open Go
theorem P8 {n:Nat} {r:Ac}:qC n r↔(r.First < 0\/(n:Int)<=r.First\/r.Then < 0\/(n:Int)<=r.Then\/r.First=r.Then):=by
 unfold qC
 constructor
 ·intro h
  refine aOj fun k=>h ?_
  omega
 ·intro h k
  omega
theorem iS {n:Nat} (hn:n<=24) {l:List Ac} (hl:l.length<=1000):Ok (By (n:Int) l) (fun y=>(y=44/\∃ r∈l,qC n r)\/((∀ r∈l,¬ qC n r)/\((y=6/\¬ SA l)\/(SA l/\((y=0/\∀ k,k < n->D3 (Gp l) n k k=false)\/(y=45/\∃ k,k < n/\D3 (Gp l) n k k=true)))))):=by
 unfold By
 rw [aAk (by omega),aD6,aAk (by omega)]
 unfold By.j1
 rw [aD6]
 refine Hc l.length (fun i=>∀ r,l[i]?=some r->¬ qC n r) (fun i hi hV=>?_) fun hV=>?_
 ·obtain⟨r,hr⟩:∃ r,l[i]?=some r:=⟨_,aAy hi⟩
  show Ok (By.l2 (n:Int) l (i:Int)) _
  unfold By.l2 By.j3
  refine Qm hr ?_
  have bad:qC n r->Ok (up (some (44:Int)):Option (Lp Int Int)) (S6 (fun s'=>s'=((i + 1:Nat):Int)/\∀ r,l[i]?=some r->¬ qC n r) (fun y=>(y=44/\∃ r∈l,qC n r)\/((∀ r∈l,¬ qC n r)/\((y=6/\¬ SA l)\/(SA l/\((y=0/\∀ k,k < n->D3 (Gp l) n k k=false)\/(y=45/\∃ k,k < n/\D3 (Gp l) n k k=true))))))):=fun h=>Ok.up (Ok.ret (.inl ⟨rfl,r,Eg hr,h⟩))
  refine Ok.cond (fun c=>bad (P8.2 (by have:=aCe c; omega))) fun c1=>?_
  refine Ok.cond (fun c=>bad (P8.2 (by have:=aCe c; omega))) fun c2=>?_
  refine Ok.cond (fun c=>bad (P8.2 (by have:=aCe c; omega))) fun c3=>?_
  refine Ok.cond (fun c=>bad (P8.2 (by have:=aCe c; omega))) fun c4=>?_
  refine Fp (by omega) (fun c=>.inl ⟨rfl,r,Eg hr,P8.2 (by have:=aCe c; omega)⟩) fun c5 z hz=>?_
  rw [hr] at hz
  cases hz
  rw [P8]
  have c1:=aDs c1
  have c2:=aDs c2
  have c3:=aDs c3
  have c4:=aDs c4
  have c5:=aDs c5
  omega
 have hno:∀ r∈l,¬ qC n r:=I2 hV
 have hfw:∀ r∈l,(0<=r.First/\r.First < n/\0<=r.Then/\r.Then < n)/\r.First≠r.Then:=fun r hr=>aOj fun h=>hno r hr h
 show Ok (By.l2 (n:Int) l (l.length:Int)) _
 unfold By.l2
 refine Lg (Ok.up ?_)
 refine Ok.loop (fun s:Int=>∃ i:Nat,s=(i:Int)/\1<=i/\(i<=l.length\/i=1)/\∀ j,j < i->VA (fun a b=>O0 a b=true) l j) (fun s=>l.length + 1 - s.toNat) ?_ ⟨1,rfl,aHy _,.inr rfl,fun j hj=>VA.zero (by omega)⟩
 rintro _ ⟨i,rfl,h1,h2,h3⟩
 show Ok (By.l4 (n:Int) l (i:Int)) _
 unfold By.l4
 refine Ok.cond (fun hb=>?_) fun hb=>?_
 ·have hil:i < l.length:=by have:=aCe hb; omega
  obtain⟨b,hb⟩:∃ b,l[i]?=some b:=⟨_,aAy hil⟩
  obtain⟨a,ha⟩:∃ a,l[i - 1]?=some a:=⟨_,aAy (by omega)⟩
  rw [Db (by omega),show (i:Int) - 1=((i - 1:Nat):Int) by omega,Cr,ha,aAc,Cr,hb,aAc,O8,aAc]
  refine Ok.cond (fun c=>?_) fun c=>?_
  ·refine Ok.up (Ok.ret (.inr ⟨hno,.inl ⟨rfl,fun hs=>?_⟩⟩))
   have:=wH hs i a b (by omega) ha hb
   rw [this] at c
   cases c
  ·rw [Db (by omega)]
   refine Ok.ret ⟨⟨i + 1,by omega,by omega,.inl (by omega),fun j hj=>?_⟩,by show l.length + 1 - ((i:Int) + 1).toNat < l.length + 1 - ((i:Nat):Int).toNat; omega⟩
   by_cases e:j=i
   ·rw [e]
    exact VA.at ha hb (by simpa using c)
   ·exact h3 j (by omega)
 ·have hil:=aDs hb
  have hsa:SA l:=vS fun j=>if h:j < i then h3 j h else VA.out (by omega)
  refine Ok.up ?_
  refine Ok.bind (lR (by omega) (fun r hr=>(hfw r hr).1) (by omega)) fun M hM=>?_
  refine Hc n (fun k=>D3 (Gp l) n k k=false) (fun k hk hV=>?_) fun hV=>?_
  ·show Ok (By.l5 (n:Int) M (k:Int)) _
   unfold By.l5
   obtain⟨r,g1,g2,g3,g4⟩:=hM.get hk
   rw [aAg (show (k:Int) < (n:Int) by omega),aEw,g1,aAc,g4 k hk,aAc]
   exact Fp (by omega) (fun c=>.inr ⟨hno,.inr ⟨hsa,.inr ⟨rfl,k,hk,c⟩⟩⟩) fun c=>c
  ·show Ok (By.l5 (n:Int) M (n:Int)) _
   unfold By.l5
   exact Lg (Ok.up (Ok.ret (.inr ⟨hno,.inr ⟨hsa,.inl ⟨rfl,hV⟩⟩⟩)))
theorem lJ {n:Nat} (hn:n<=24) {l:List Ac} (hl:l.length<=1000) (hfwd:∀ r∈l,(0<=r.First/\r.First < n/\0<=r.Then/\r.Then < n)/\r.First≠r.Then) {M:List (List Bool)} (hM:Mx n M (D3 (Gp l) n)):Ok (B1 (fun q'=>B3.l1 (n:Int) l M q'.1 q'.2) (0,([]:List Ac))) (fun y=>y=(red n l,0)):=by
 have l5:∀ (i:Nat) (e:Ac),i < l.length->l[i]?=some e->∀ out:List Ac,out.length<=i->Ok (B1 (fun q'=>B3.l2 (n:Int) M (i:Int) out e q'.1 q'.2) (false,0)) (fun o:Lp (Int×List Ac) ((List Ac)×Int)=>o=.next (((i + 1:Nat):Int),out ++ [e].filter (Tf n l))):=by
  intro i e hi he out ho
  have q:=hfwd e (aG3 he)
  obtain⟨a,ha⟩:∃ a:Nat,e.First=(a:Int):=⟨e.First.toNat,by omega⟩
  obtain⟨b,hb⟩:∃ b:Nat,e.Then=(b:Int):=⟨e.Then.toNat,by omega⟩
  refine Ok.loop (fun s:Bool×Int=>∃ k:Nat,s.2=(k:Int)/\k<=n/\s.1=(List.range k).any fun k=>D3 (Gp l) n a k && D3 (Gp l) n k b) (fun s=>n - s.2.toNat) ?_ ⟨0,rfl,aFf _,rfl⟩
  rintro⟨_,_⟩ ⟨k,rfl,hk,rfl⟩
  show Ok (B3.l2 (n:Int) M (i:Int) out e ((List.range k).any fun k=>D3 (Gp l) n a k && D3 (Gp l) n k b) (k:Int)) _
  unfold B3.l2
  refine Ok.cond (fun hc=>?_) (fun hc=>?_)
  ·have hkn:k < n:=by have:=aCe hc; omega
   have fin:∀ x:Bool,x=((List.range (k + 1)).any fun k=>D3 (Gp l) n a k && D3 (Gp l) n k b)->Ok (B3.j3 (k:Int) x) (S6 (fun s':Bool×Int=>(∃ k:Nat,s'.2=(k:Int)/\k<=n/\s'.1=(List.range k).any fun k=>D3 (Gp l) n a k && D3 (Gp l) n k b)/\n - s'.2.toNat < n - ((k:Int)).toNat) (fun o:Lp (Int×List Ac) ((List Ac)×Int)=>o=.next (((i + 1:Nat):Int),out ++ [e].filter (Tf n l)))):=by
    intro x hx
    unfold B3.j3
    rw [Db (by omega)]
    exact Ok.ret ⟨⟨k + 1,by show (k:Int) + 1=_; omega,hkn,hx⟩,by show n - ((k:Int) + 1).toNat < n - ((k:Int)).toNat; omega⟩
   refine Ok.cond (fun h1=>fin _ ?_) (fun h1=>?_)
   ·rw [aMc,aOm,h1]; rfl
   ·obtain⟨ra,a1,a2,a3,a4⟩:=hM.get (i:=a) (by omega)
    obtain⟨rk,k1,k2,k3,k4⟩:=hM.get hkn
    rw [ha,hb,a1,aAc,a4 k hkn,aAc]
    refine Ok.cond (fun h2=>?_) (fun h2=>fin _ ?_)
    ·rw [k1,aAc,k4 b (by omega),aAc]
     refine fin _ ?_
     rw [aMc,aOm,h1]; simp [h2]
    ·rw [aMc,aOm,h1]; simp [h2]
  ·have hkn:k=n:=by have:=aDs hc; omega
   subst hkn
   have hke:Tf k l e=!((List.range k).any fun j=>D3 (Gp l) k a j && D3 (Gp l) k j b):=by
    unfold Tf
    rw [ha,hb]; rfl
   unfold B3.j4
   rw [Db (by omega),<- hke]
   refine Ok.up (Ok.cond (fun h1=>?_) (fun h1=>?_))
   ·rw [Fv (by simp; omega),aAc]
    refine Ok.ret ?_
    rw [aPs h1]; rfl
   ·refine Ok.ret ?_
    rw [aPt (by rw [h1]; decide)]
    simp
 refine Ok.loop (fun s:Int×List Ac=>∃ i:Nat,s.1=(i:Int)/\i<=l.length/\s.2=(l.take i).filter (Tf n l)) (fun s=>l.length - s.1.toNat) ?_ ⟨0,rfl,aFf _,rfl⟩
 rintro⟨_,_⟩ ⟨i,rfl,hi,rfl⟩
 show Ok (B3.l1 (n:Int) l M (i:Int) ((l.take i).filter (Tf n l))) _
 unfold B3.l1
 refine Ok.cond (fun hb=>?_) (fun hb=>?_)
 ·have hil:i < l.length:=by have:=aCe hb; omega
  obtain⟨r,hr⟩:∃ r,l[i]?=some r:=⟨_,aAy hil⟩
  rw [Cr,hr,aAc]
  refine (l5 i r hil hr _ (aH4 (aO3 _ _) (by rw [aGn]; omega))).mono fun o ho=>?_
  subst ho
  refine⟨⟨i + 1,rfl,hil,?_⟩,by show l.length - (((i + 1:Nat):Int)).toNat < l.length - ((i:Int)).toNat; omega⟩
  show _ ++ _=_
  rw [Hf hr,aPu]
 ·have hil:i=l.length:=by have:=aDs hb; omega
  subst hil
  rw [aKf]
  exact Ok.up (Ok.ret rfl)
theorem wL (n:Nat) (l:List Ac):(red n l).length<=l.length:=aO3 _ _
theorem Xj (s:List Ac) (f:Ac->Option Bool) (p:Ac->Bool) (h:Lo s) (hf:∀ x∈s,f x=some (p x)):C8 s f=some (s.any p):=by
 have hi:Bc s f=some (Rm s p):=by
  unfold Bc
  refine No s p h (fun i x hx=>?_) ?_
  ·show Bc.l1 s f (i:Int)=_
   unfold Bc.l1
   rw [H3 hx,hf x (Eg hx),aAc]
   cases p x <;> rfl
  ·show Bc.l1 s f (s.length:Int)=_
   unfold Bc.l1
   rw [Fz]; rfl
 unfold C8
 rw [hi,aAc,Np]
theorem uT (n:Nat) (r:Ac):∃ b,Dt r (n:Int)=some b/\(b=true↔qC n r):=by
 unfold Dt
 rw [P8]
 by_cases h1:r.First < 0
 ·rw [aAg h1]; exact⟨true,rfl,fun _=>.inl h1,fun _=>rfl⟩
 rw [aAk h1,aD6]
 by_cases h2:(n:Int)<=r.First
 ·rw [aAg h2]; exact⟨true,rfl,fun _=>.inr (.inl h2),fun _=>rfl⟩
 rw [aAk h2,aD6]
 by_cases h3:r.Then < 0
 ·rw [aAg h3]; exact⟨true,rfl,fun _=>.inr (.inr (.inl h3)),fun _=>rfl⟩
 rw [aAk h3,aD6]
 by_cases h4:(n:Int)<=r.Then
 ·rw [aAg h4]; exact⟨true,rfl,fun _=>.inr (.inr (.inr (.inl h4))),fun _=>rfl⟩
 rw [aAk h4,aD6]
 refine⟨_,rfl,fun h=>.inr (.inr (.inr (.inr (aCe h)))),fun h=>aAg ?_⟩
 rcases h with h | h | h | h | h
 ·exact absurd h h1
 ·exact absurd h h2
 ·exact absurd h h3
 ·exact absurd h h4
 ·exact h
theorem lL (a b:List Ac):C3 a b=D9 a b:=rfl
theorem gT (n:Int) {l:List Ac} (hl:l.length<=1000):∃ y,Bl n l=some y/\B3 n l=some y/\y.1.length<=1000:=by
 by_cases h0:n < 0
 ·refine⟨([],2),?_,?_,aFf _⟩
  ·unfold Bl
   rw [aAg h0]; rfl
  ·unfold B3 By
   rw [aAg h0]; rfl
 by_cases h24:24 < n
 ·refine⟨([],2),?_,?_,aFf _⟩
  ·unfold Bl
   rw [aAk h0,aAg h24]; rfl
  ·unfold B3 By
   rw [aAk h0,aAg h24]; rfl
 obtain⟨m,rfl⟩:∃ m:Nat,n=(m:Int):=⟨n.toNat,by omega⟩
 have hm:m<=24:=by omega
 have hcap:l.length<=Dn:=by unfold Dn; omega
 obtain⟨v,hv,hvc⟩:=iS hm hl
 have rf:v≠0->B3 (m:Int) l=some ([],v):=fun h=>by
  unfold B3
  rw [hv,aAc,aAk h,aJf,aEw]
 have pr:Bl (m:Int) l=Bl.j2 (m:Int) l false:=by
  unfold Bl
  rw [aAk h0,aAk h24,aD6]
 have pc:∀ b:Bool,(b=true↔∃ r∈l,qC m r)->C8 l (fun x0=>Dt x0 (m:Int))=some b:=fun b hb=>by
  rw [Xj l (fun x0=>Dt x0 (m:Int)) (fun r=>(Dt r (m:Int)).getD false) (by unfold Lo; omega) (fun x _=>by
   obtain⟨c,hc,-⟩:=uT m x
   rw [hc]; rfl)]
  congr 1
  rw [aP9,aIi,hb]
  constructor
  ·rintro⟨r,h1,h2⟩
   obtain⟨c,hc,h3⟩:=uT m r
   rw [hc] at h2
   exact⟨r,h1,h3.1 h2⟩
  ·rintro⟨r,h1,h2⟩
   obtain⟨c,hc,h3⟩:=uT m r
   refine⟨r,h1,?_⟩
   rw [hc]
   exact h3.2 h2
 rcases hvc with ⟨rfl,hx⟩ | ⟨hno,hvc⟩
 ·refine⟨([],44),?_,rf (by omega),aFf _⟩
  rw [pr]
  unfold Bl.j2
  rw [aD6,pc true ⟨fun _=>hx,fun _=>rfl⟩]
  rfl
 have pf:=pc false ⟨fun h=>(by cases h),fun ⟨r,h1,h2⟩=>absurd h2 (hno r h1)⟩
 have hfw:∀ r∈l,(0<=r.First/\r.First < m/\0<=r.Then/\r.Then < m)/\r.First≠r.Then:=fun r hr=>aOj fun h=>hno r hr h
 rcases hvc with ⟨rfl,hsa⟩ | ⟨hsa,hvc⟩
 ·refine⟨([],6),?_,rf (by omega),aFf _⟩
  rw [pr]
  unfold Bl.j2
  have hne:H4 O0 l≠l:=fun e=>hsa (by rw [<- e]; exact Si Un l)
  rw [aD6,pf,aAc,aD6,Kf l hcap,aAc,lL,Us _ _ (by have:=Pv O0 l; omega),aAc,aAk hne]
  rfl
 ·have hrl:=wL m l
  obtain⟨y,hy,hyc⟩:=jT hm hl hcap hsa hfw
  rcases hvc with ⟨rfl,hd⟩ | ⟨rfl,k,hk,hd⟩
  ·rcases hyc with ⟨rfl,-⟩ | ⟨-,k,hk,hk2⟩
   ·refine⟨_,hy,?_,by show (red m l).length<=1000; omega⟩
    refine gE ?_
    unfold B3
    rw [hv,aAc,aAg rfl,aHz,aD6]
    refine Ok.bind (lR (by omega) (fun r hr=>(hfw r hr).1) (by omega)) fun M hM=>lJ hm hl hfw hM
   ·rw [hd k hk] at hk2; cases hk2
  ·rcases hyc with ⟨-,hn⟩ | ⟨rfl,-⟩
   ·rw [hn k hk] at hd; cases hd
   ·exact⟨_,hy,rf (by omega),aFf _⟩
def DQ (y:Ae×Ab):Prop:=Hj y.2
theorem aD8 {i:Nat} {e:Al} (h:aW i e):(1<=e.Suites.length/\e.Suites.length<=5)/\e.Identities.length=1:=by
 obtain⟨c,hc,own,fall,x,hx,rfl⟩:=h
 obtain⟨h1,h2,h3,h4⟩:=Zf hc
 refine⟨⟨?_,h2⟩,rfl⟩
 show 1<=c.2.length
 cases hc2:c.2 with
 | nil=>exact absurd hc2 h3
 | cons a l=>simp
theorem aDb {d:Ab} (hd:Hj d) {e:An} (h1:1<=e.Endpoints.length/\e.Endpoints.length<=3) (hep:∀ (j:Nat) x,e.Endpoints[j]?=some x->aW j x):Ok (Bs d e) DQ:=by
 unfold Bs
 refine Ok.bind (D4 hd _ (by omega) (by omega)) fun y hy=>?_
 refine Ok.bind (Sf hy.1.1 (by have:=hy.1.2; omega)) fun x hx=>?_
 have hi3:=I9 hx
 have hx:=hep _ x hx
 obtain⟨⟨s1,s2⟩,i1⟩:=aD8 hx
 have hnm:Fm x.Name=true:=by rw [lO hx]; exact (Y8 (by omega)).1
 have J7:∀ d c,Hj d->Ok (Bs.j7 d c) DQ:=fun d c h=>Ok.ret h
 refine Ok.bind (D4 hy.2 12 (by omega) (by omega)) fun y2 h2=>?_
 have N:∀ {d:Ab} (n:Int),Hj d->1<=n->n<=1000->∀ {f:Int×Ab->Option (Ae×Ab)},(∀ z,(0<=z.1/\z.1 < n)->Hj z.2->Ok (f z) DQ)->Ok ((A3 d n).bind f) DQ:=fun n hd h1 h2 f hf=>Ok.bind (D4 hd n h1 (by omega)) fun z hz=>hf z hz.1 hz.2
 have J1:∀ y5 b d,Hj d->Ok (Bs.j1 y x y2 y5 b d) DQ:=fun y5 b d hd=>by
  unfold Bs.j1
  refine Ok.cond (fun _=>N _ hd (by omega) (by omega) fun z hz hzd=>?_) fun _=>J7 _ _ hd
  exact Ok.bind (Gr hz.1 hz.2) fun _ _=>J7 _ _ hzd
 have J3:∀ y5 b d,Hj d->Ok (Bs.j3 y x y2 y5 b d) DQ:=fun y5 b d hd=>by
  unfold Bs.j3
  refine Ok.cond (fun _=>N _ hd (by omega) (by omega) fun z hz hzd=>?_) fun _=>J7 _ _ hd
  exact Ok.bind (Gr hz.1 hz.2) fun _ _=>J7 _ _ hzd
 have J6:∀ b,Ok (Bs.j6 y y2 b) DQ:=fun b=>by
  unfold Bs.j6
  exact Ok.cond (fun _=>N _ h2.2 (by omega) (by omega) fun z _ hz=>J7 _ _ hz) fun _=>J7 _ _ h2.2
 have J5:∀ b,Ok (Bs.j5 y y2 b) DQ:=fun b=>by
  unfold Bs.j5
  exact Ok.cond (fun _=>N _ h2.2 (by omega) (by omega) fun z _ hz=>J7 _ _ hz) fun _=>Ok.cond (fun _=>J6 _) fun _=>J6 _
 have J4:∀ b,Ok (Bs.j4 y y2 b) DQ:=fun b=>by
  unfold Bs.j4
  exact Ok.cond (fun _=>N _ h2.2 (by omega) (by omega) fun z _ hz=>J7 _ _ hz) fun _=>Ok.cond (fun _=>J5 _) fun _=>J5 _
 have J2:∀ b,Ok (Bs.j2 y x y2 b) DQ:=fun b=>by
  unfold Bs.j2
  refine Ok.cond (fun _=>N _ h2.2 (by omega) (by omega) fun z _ hz=>J7 _ _ hz) fun _=>Ok.cond (fun _=>?_) fun _=>Ok.cond (fun _=>?_) fun _=>Ok.cond (fun _=>J4 _) fun _=>J4 _
  ·rw [Db (by omega)]
   refine N _ h2.2 (by omega) (by omega) fun z9 b9 h9=>?_
   unfold Ng Jx
   rw [aAc,aAc]
   refine N _ h9 (by omega) (by omega) fun z12 b12 h12=>?_
   refine Ok.bind (Gr b12.1 (by show z12.1 < (2:Int); exact b12.2)) fun u hu=>?_
   have hk:Xp u:=by
    simp only [aE7,aHp,aLl] at hu
    rcases hu with rfl | rfl
    ·exact ecU
    ·exact aAx
   refine N _ h12 (by omega) (by omega) fun z13 b13 h13=>?_
   refine N _ h13 (by omega) (by omega) fun z14 b14 h14=>?_
   rw [Db (x:=200 + z13.1) (by omega),Db (x:=1 + z14.1) (by omega)]
   exact Ok.bind (Uv hnm hk (by omega) (by omega) (by omega)) fun w _=>J7 _ _ h14
  ·refine N _ h2.2 (by omega) (by omega) fun z _ hz=>?_
   refine Ok.cond (fun _=>?_) fun _=>J3 _ _ _ hz
   exact Ok.bind (O7 hz 4 (by omega) (by omega)) fun q hq=>J3 _ _ _ hq
 refine Ok.cond (fun _=>?_) fun _=>Ok.cond (fun _=>?_) fun _=>Ok.cond (fun _=>J2 _) fun _=>J2 _
 ·refine N _ h2.2 (by omega) (by omega) fun z _ hz=>?_
  rw [Db (by omega)]
  exact N _ hz (by omega) (by omega) fun z _ hz=>J7 _ _ hz
 ·refine N _ h2.2 (by omega) (by omega) fun z _ hz=>?_
  refine Ok.cond (fun _=>?_) fun _=>J1 _ _ _ hz
  exact Ok.bind (O7 hz 4 (by omega) (by omega)) fun q hq=>J1 _ _ _ hq
theorem aBh {d:Ab} (hd:Hj d) (c:Ae):Ok (F1 d c) DQ:=by
 have J:∀ d c,Hj d->Ok (F1.j1 d c) DQ:=fun d c h=>Ok.ret h
 unfold F1
 refine Ok.bind (D4 hd 7 (by omega) (by omega)) fun y hy=>?_
 refine Ok.cond (fun _=>Ok.bind (D4 hy.2 15 (by omega) (by omega)) fun z hz=>J _ _ hz.2) fun _=>?_
 refine Ok.cond (fun _=>Ok.bind (Ks hy.2 _ (by decide) (by decide)) fun z hz=>J _ _ hz.2) fun _=>?_
 refine Ok.cond (fun _=>Ok.bind (Ks hy.2 _ (by decide) (by decide)) fun z hz=>J _ _ hz.2) fun _=>?_
 refine Ok.cond (fun _=>?_) fun _=>?_
 ·unfold Jx
  rw [aAc]
  exact Ok.bind (Uv (name:=⟨#[97,112,112]⟩) (Y8 (i:=0) (by omega)).1 aAx (by omega) (by omega) (by omega)) fun w _=>J _ _ hy.2
 ·exact Ok.cond (fun _=>Ok.bind (Ks hy.2 _ (by decide) (by decide)) fun z hz=>J _ _ hz.2) fun _=>J _ _ hy.2
theorem hX (t:List Int) (raw:List Ac) (r':Ac) (n:Int):Ar t raw r' n=some true:=by
 unfold Ar M8
 rw [aAc]
 have aw:Ar.j1 t raw r' n true=some true:=by
  unfold Ar.j1
  rw [aEw,mK]; rfl
 by_cases hl:(t.length:Int)<=400
 case neg=>rw [aAk hl,aJf,aEw]; exact aw
 rw [aAg hl,aHz,aD6]
 by_cases hr:(60:Int) < raw.length
 ·rw [aAg hr]; exact aw
 rw [aAk hr]
 unfold Ar.j1
 rw [aD6]
 refine Ok.true_ ?_
 refine Ok.bind (aDd (by omega)) fun d hd=>?_
 refine Ok.bind (rW hd) fun y4 h4=>?_
 obtain⟨hS,hd4⟩:=h4
 refine Ok.bind (uG hd4 hS) fun y5 h5=>?_
 obtain⟨hM,hd5⟩:=h5
 have hml:=hM.1
 refine Ok.bind (O7 hd5 4 (by omega) (by omega)) fun y6 h6=>?_
 have J2:∀ d l,Hj d->l.length<=20->Ok (Ar.j2 raw r' n y4 d l) (fun r=>r=true):=by
  intro d l hd hl
  unfold Ar.j2
  refine Ok.bind (lK hd) fun y9 h9=>?_
  obtain⟨hE,hd9⟩:=h9
  refine Hc 2 (fun _=>True) (fun i hi _=>?_) fun _=>?_
  ·show Ok (Ar.l3 raw r' n y4 l y9 (i:Int)) _
   unfold Ar.l3
   refine Ok.cond (fun _=>?_) fun h=>absurd (show (i:Int) < 2 by omega) (aDs h)
   refine Ok.bind (Gr (by omega) (by show (i:Int) < 2; omega)) fun e he=>?_
   have hef:Wu e/\e.Edges.length<=100:=by
    simp only [aE7,aHp,aLl] at he
    rcases he with rfl | rfl
    ·exact⟨hS.fit,by have:=hS.edges.len; omega⟩
    ·exact⟨hE.fit,by have:=hE.edges.1; omega⟩
   obtain⟨a,a1,a2,a3⟩:=iM hef.1 (l:=l) (by omega)
   refine Ok.bindE a1 (Ok.bindE a2 ?_)
   rw [aAg rfl,aHz,aD6,Us _ _ (by omega),aAc,aAg rfl,aHz]
   unfold Ar.j4
   rw [aD6]
   refine Ok.bind (dW r'.First 9 (by omega) (by omega)) fun y13 h13=>?_
   refine Ok.bind (dW r'.Then 9 (by omega) (by omega)) fun y14 h14=>?_
   refine Hc 2 (fun _=>True) (fun k hk _=>?_) fun _=>?_
   ·show Ok (Ar.l5 r' l (i:Int) e y13 y14 (k:Int)) _
    unfold Ar.l5
    refine Ok.cond (fun _=>?_) fun h=>absurd (show (k:Int) < 2 by omega) (aDs h)
    refine Ok.bind (Gr (by omega) (by show (k:Int) < 2; omega)) fun q _=>?_
    obtain⟨b,b1,b2,b3⟩:=rQ hef.1 hef.2 (l:=l) (by omega) q
    refine Ok.bindE b1 (Ok.bindE b2 ?_)
    rw [aAg rfl,aHz,aD6,oN _ (by omega),aAc,aHz]
    unfold Ar.j6
    rw [aD6,Ia (by omega)]
    exact Ok.ret ⟨rfl,trivial⟩
   ·show Ok (Ar.l5 r' l (i:Int) e y13 y14 ((2:Nat):Int)) _
    unfold Ar.l5
    refine Ok.cond (fun h=>absurd (aCe h) (show ¬ ((2:Nat):Int) < 2 by omega)) fun _=>?_
    rw [Ia (by omega)]
    exact Ok.up (Ok.ret ⟨rfl,trivial⟩)
  ·show Ok (Ar.l3 raw r' n y4 l y9 ((2:Nat):Int)) _
   unfold Ar.l3
   refine Ok.cond (fun h=>absurd (aCe h) (show ¬ ((2:Nat):Int) < 2 by omega)) fun _=>Ok.up ?_
   refine Hc l.length (fun _=>True) (fun i hi _=>?_) fun _=>?_
   ·obtain⟨c,hc⟩:∃ c,l[i]?=some c:=⟨_,aAy hi⟩
    show Ok (Ar.l7 raw n y4 l y9 (i:Int)) _
    unfold Ar.l7
    refine Qm hc ?_
    have hn2:=hS.n2
    refine Hc y4.1.Endpoints.length (fun _=>True) (fun k hk _=>?_) fun _=>?_
    ·obtain⟨x,hx⟩:∃ x,y4.1.Endpoints[k]?=some x:=⟨_,aAy hk⟩
     show Ok (Ar.l8 y4 (i:Int) c (k:Int)) _
     unfold Ar.l8
     refine Qm hx ?_
     rw [Nb,aAc,Rj,aAc,aAg rfl,aHz,aD6,Ia (by omega)]
     exact Ok.ret ⟨rfl,trivial⟩
    ·show Ok (Ar.l8 y4 (i:Int) c (y4.1.Endpoints.length:Int)) _
     unfold Ar.l8
     refine Lg (Ok.up ?_)
     rw [Ia (by omega)]
     exact Ok.ret ⟨rfl,trivial⟩
   ·show Ok (Ar.l7 raw n y4 l y9 (l.length:Int)) _
    unfold Ar.l7
    refine Lg (Ok.up ?_)
    refine Ok.bind (aO hd9 7 (by omega) (by omega)) fun y20 h20=>?_
    have hq:=h20.1.len
    have hcap:∀ a b:List Ac,a.length + b.length<=300->a.length + b.length<=Dn:=fun a b h=>by unfold Dn; omega
    have hsl:=Pv O0 (y20.1 ++ raw)
    have hsl2:=Pv O0 (raw ++ y20.1)
    rw [aEq] at hsl hsl2
    rw [S7 _ _ (hcap _ _ (by omega)),aAc,Lk _ _ (by omega),aAc,Us _ _ (by omega),aAc,aAg rfl,aHz,aD6,S7 _ _ (hcap _ _ (by omega)),aAc,Lk _ _ (by omega),aAc,Us _ _ (by omega),aAc,aAg rfl,aHz]
    unfold Ar.j9
    rw [aD6]
    refine Ok.bind (dW n 30 (by omega) (by omega)) fun y27 h27=>?_
    refine Hc 3 (fun _=>True) (fun i hi _=>?_) fun _=>?_
    ·show Ok (Ar.l10 raw n y20 y27 (i:Int)) _
     unfold Ar.l10
     refine Ok.cond (fun _=>?_) fun h=>absurd (show (i:Int) < 3 by omega) (aDs h)
     refine Ok.bind (Gr (by omega) (by show (i:Int) < 3; omega)) fun q _=>?_
     rw [Lk _ _ (by omega),aAc]
     refine Hc 3 (fun _=>True) (fun k hk _=>?_) fun _=>?_
     ·show Ok (Ar.l11 raw y20 (i:Int) q (H4 O0 (y20.1 ++ raw)) (k:Int)) _
      unfold Ar.l11
      refine Ok.cond (fun _=>?_) fun h=>absurd (show (k:Int) < 3 by omega) (aDs h)
      refine Ok.bind (Gr (by omega) (by show (k:Int) < 3; omega)) fun z hz=>?_
      have hzl:z.length<=1000:=by
       simp only [aE7,aHp,aLl] at hz
       rcases hz with rfl | rfl | rfl <;> omega
      obtain⟨b,b1,b2,b3⟩:=gT q hzl
      refine Ok.bindE b1 (Ok.bindE b2 ?_)
      rw [aAg rfl,aHz,aD6,Us _ _ (by omega),aAc,aAg rfl,aHz]
      unfold Ar.j12
      rw [aD6,Ia (by omega)]
      exact Ok.ret ⟨rfl,trivial⟩
     ·show Ok (Ar.l11 raw y20 (i:Int) q (H4 O0 (y20.1 ++ raw)) ((3:Nat):Int)) _
      unfold Ar.l11
      refine Ok.cond (fun h=>absurd (aCe h) (show ¬ ((3:Nat):Int) < 3 by omega)) fun _=>?_
      rw [Ia (by omega)]
      exact Ok.up (Ok.ret ⟨rfl,trivial⟩)
    ·show Ok (Ar.l10 raw n y20 y27 ((3:Nat):Int)) _
     unfold Ar.l10
     refine Ok.cond (fun h=>absurd (aCe h) (show ¬ ((3:Nat):Int) < 3 by omega)) fun _=>Ok.up ?_
     rw [mK]
     exact Ok.ret rfl
 refine Ok.cond (fun _=>?_) fun _=>J2 _ _ h6 (by omega)
 refine Ok.bind (aDb h6 ⟨by have:=hS.n2; omega,by have:=hS.n2; omega⟩ hS.eps) fun y7 h7=>?_
 refine Ok.bind (aBh h7 y7.1) fun y8 h8=>?_
 refine Ok.bind (E6 (by rw [aF2]; omega)) fun l' hl'=>?_
 subst hl'
 exact J2 _ _ h8 (by rw [aEq,aF2]; omega)
end
end Go.Proofs.YtkioneinddihlaaGreat
