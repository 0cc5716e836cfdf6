/- Plain texts, joined. No program is in sight here. -/
import Derived.Test.YtboglmbblmakjaaGreatDoorM2
set_option autoImplicit false
set_option linter.unusedVariables false
set_option linter.unusedSimpArgs false
namespace Go.Proofs.YtboglmbblmakjaaGreatDoor
section
open Go
theorem cV {R:Type} {body:Int->Option (Lp Int R)} {Q:R->Prop} (n:Nat) (V:Nat->Prop)
  (h1:∀ i,i < n->(∀ j,j < i->V j)->Ok (body (i:Int)) (gP (fun s'=>s'=((i + 1:Nat):Int)/\V i) Q))
  (h2:(∀ j,j < n->V j)->Ok (body (n:Int)) (gP (fun _=>False) Q)):Ok (C7 body 0) Q:=by
 refine Ok.loop (fun s=>∃ i:Nat,s=(i:Int)/\i<=n/\∀ j,j < i->V j) (fun s=>n - s.toNat) ?_ ⟨0,rfl,aLi _,fun j hj=>absurd hj (Nat.not_lt_zero _)⟩
 rintro _ ⟨i,rfl,hi,hV⟩
 by_cases hn:i < n
 ·refine (h1 i hn hV).mono fun o ho=>?_
  cases o with
  | done r=>exact ho
  | next s'=>
   obtain⟨rfl,hv⟩:=ho
   refine⟨⟨i + 1,rfl,hn,fun j hj=>?_⟩,by show n - ((i + 1:Nat):Int).toNat < n - ((i:Nat):Int).toNat; omega⟩
   by_cases e:j=i
   ·rw [e]; exact hv
   ·exact hV j (by omega)
 ·obtain rfl:i=n:=by omega
  refine (h2 hV).mono fun o ho=>?_
  cases o with
  | done r=>exact ho
  | next s'=>exact ho.elim
theorem Ru {R:Type} {i:Nat} {b:Bool} {r:R} {V:Prop} {Q:R->Prop} (hi:i < 4611686018427387904) (h1:b=true->Q r) (h2:b=false->V):Ok (cond b (up (some r)) (some (.next (W ((i:Int) + 1))))) (gP (fun s'=>s'=((i + 1:Nat):Int)/\V) Q):=by
 refine Ok.cond (fun h=>Ok.up (Ok.ret (h1 h))) fun h=>Ok.ret ⟨Kf hi,h2 h⟩
theorem oF {α T:Type} {l:List α} {i:Nat} (hi:i < l.length) (hl:Lo l) {k:α->Option T} {z:Option T} {Q:T->Prop} (h0:i=0->Ok z Q) (h1:∀ x,0 < i->l[i - 1]?=some x->Ok (k x) Q) :
  Ok (cond (decide (0 < (i:Int))) ((Bn l (W ((i:Int) - 1))).bind k) z) Q:=by
 unfold Lo at hl
 refine Ok.cond (fun h=>?_) fun h=>h0 (by have:=aF4 h; omega)
 have h:=aDm h
 obtain⟨x,hx⟩:∃ x,l[i - 1]?=some x:=⟨_,aBb (by omega)⟩
 rw [Hh (by omega),show (i:Int) - 1=((i - 1:Nat):Int) by omega,F4,hx]
 exact h1 x (by omega) hx
theorem aD6 {α T:Type} {l:List α} {i:Nat} {k:α->Option T} {e:Option T} {Q:T->Prop} {x:α} (hx:l[i]?=some x) (h:Ok (k x) Q):Ok (cond (decide ((i:Int) < (l.length:Int))) ((Bn l (i:Int)).bind k) e) Q:=by
 rw [G0 hx]; exact h
theorem nB {T:Type} {n:Nat} {a e:Option T} {Q:T->Prop} (h:Ok e Q):Ok (cond (decide ((n:Int) < (n:Int))) a e) Q:=by
 rw [Fq]; exact h
def VA {α:Type} (R:α->α->Prop) (l:List α) (i:Nat):Prop:=∀ x y,0 < i->l[i - 1]?=some x->l[i]?=some y->R x y
theorem VA.zero {α:Type} {R:α->α->Prop} {l:List α} {i:Nat} (h:i=0):VA R l i:=fun x y h0=>by omega
theorem VA.at {α:Type} {R:α->α->Prop} {l:List α} {i:Nat} {x y:α} (hx:l[i - 1]?=some x) (hy:l[i]?=some y) (h:R x y):VA R l i:=fun a b _ ha hb=>by
 rw [hx] at ha; rw [hy] at hb
 cases ha; cases hb; exact h
theorem VA.out {α:Type} {R:α->α->Prop} {l:List α} {i:Nat} (h:l.length<=i):VA R l i:=fun x y _ _ hy=>by have:=I3 hy; omega
def Dc (k:Int) (V:Prop) (y:Int):Prop:=(y=0/\V)\/(y=k/\¬ V)
theorem Dc.no {k:Int} {V:Prop} (h:¬ V):Ok (some k) (Dc k V):=Ok.ret (.inr ⟨rfl,h⟩)
theorem Dc.yes {k:Int} {V:Prop} (h:V):Ok (some 0) (Dc k V):=Ok.ret (.inl ⟨rfl,h⟩)
theorem Dc.same {k:Int} {V:Prop} {x y:Option Int} (h:Ok x (Dc k V)) (g:Ok y (Dc k V)):x=y:=by
 obtain⟨a,rfl,h⟩:=h
 obtain⟨b,rfl,g⟩:=g
 rcases h with ⟨rfl,h⟩ | ⟨rfl,h⟩ <;> rcases g with ⟨rfl,g⟩ | ⟨rfl,g⟩
 ·rfl
 ·exact absurd h g
 ·exact absurd g h
 ·rfl
theorem Dc.zero {k:Int} {V:Prop} {x:Option Int} (h:Ok x (Dc k V)) (v:V):x=some 0:=by
 obtain⟨a,rfl,h⟩:=h
 rcases h with ⟨rfl,h⟩ | ⟨rfl,h⟩
 ·rfl
 ·exact absurd v h
def aA0 (c:UInt8):Bool:=(decide ((c.toNat:Int) < 97) || decide (122 < (c.toNat:Int))) && ((decide ((c.toNat:Int) < 65) || decide (90 < (c.toNat:Int))) && ((decide ((c.toNat:Int) < 48) || decide (57 < (c.toNat:Int))) && (!decide ((c.toNat:Int)=45) && (!decide ((c.toNat:Int)=95) && !decide ((c.toNat:Int)=46)))))
def mO (s:ByteArray):Bool:=decide (1<=(s.size:Int)) && decide ((s.size:Int)<=32) && !(Q2 s).any aA0
theorem vZ (c:UInt8):decide (0<=pH ⟨#[45,95,46]⟩ c)=!(!decide ((c.toNat:Int)=45) && (!decide ((c.toNat:Int)=95) && !decide ((c.toNat:Int)=46))):=by
 have h:∀ n:Fin 256,decide (0<=pH ⟨#[45,95,46]⟩ (UInt8.ofNat n.val))=!(!decide (((UInt8.ofNat n.val).toNat:Int)=45) && (!decide (((UInt8.ofNat n.val).toNat:Int)=95) && !decide (((UInt8.ofNat n.val).toNat:Int)=46))):=by decide +kernel
 have:=h ⟨c.toNat,c.toNat_lt⟩
 simpa using this
theorem zD (c:UInt8):Ld c ⟨#[45,95,46]⟩=some (!aA0 c):=by
 have e:∀ a:Int,decide (a<=(c.toNat:Int))=!decide ((c.toNat:Int) < a):=fun a=>by
  by_cases h:(c.toNat:Int) < a
  ·rw [aBd h,aBc (by omega)]; rfl
  ·rw [aBc h,aBd (by omega)]; rfl
 have f:∀ a:Int,decide ((c.toNat:Int)<=a)=!decide (a < (c.toNat:Int)):=fun a=>by
  by_cases h:a < (c.toNat:Int)
  ·rw [aBd h,aBc (by omega)]; rfl
  ·rw [aBc h,aBd (by omega)]; rfl
 have i:∀ k:Bool->Option Bool,((Fo ⟨#[45,95,46]⟩ c).bind fun y=>some (decide (0<=y)))=some (!(!decide ((c.toNat:Int)=45) && (!decide ((c.toNat:Int)=95) && !decide ((c.toNat:Int)=46)))):=fun _=>by
  rw [<- vZ]; rfl
 have i:=i some
 unfold Ld aA0
 simp only [i,e,f]
 generalize decide ((c.toNat:Int) < 97)=a1
 generalize decide (122 < (c.toNat:Int))=a2
 generalize decide ((c.toNat:Int) < 65)=a3
 generalize decide (90 < (c.toNat:Int))=a4
 generalize decide ((c.toNat:Int) < 48)=a5
 generalize decide (57 < (c.toNat:Int))=a6
 generalize (!decide ((c.toNat:Int)=45) && (!decide ((c.toNat:Int)=95) && !decide ((c.toNat:Int)=46)))=a7
 cases a1 <;> cases a2 <;> cases a3 <;> cases a4 <;> cases a5 <;> cases a6 <;> rfl
theorem cK (s:ByteArray) (hs:s.size<=9223372036854775807):F8 s=some (mO s):=by
 unfold F8 mO
 refine (Xk (body:=fun q'=>F8.l1 s q') (Q2 s) (fun i=>(i:Int)) aA0 false (decide (1<=(s.size:Int)) && decide ((s.size:Int)<=32)) (fun i c hc=>?_) ?_).trans ?_
 ·have h1:=I3 hc
  rw [aH] at h1
  show F8.l1 s (i:Int)=_
  unfold F8.l1
  rw [G0 hc,zD,aAy,bD3,aD h1 hs]
  cases aA0 c <;> rfl
 ·show F8.l1 s ((Q2 s).length:Int)=_
  unfold F8.l1
  rw [Fq]
  by_cases a:(1:Int)<=(s.size:Int) <;> simp [a,up]
 ·cases (Q2 s).any aA0 <;> simp
def kI (n:Int):Prop:=1<=n/\n<=16
theorem jA:∃ l,E1=some l/\l.length=16:=by
 unfold E1 Dp
 simp only [aAy]
 refine Ok.loop (fun s:Int×List Am=>∃ i:Nat,s.1=(i:Int)/\i<=16/\s.2.length=16) (fun s=>16 - s.1.toNat) ?_ ⟨0,rfl,by omega,rfl⟩
 rintro⟨_,l⟩ ⟨i,rfl,hi,hl⟩
 dsimp only at hl
 show Ok (E1.l1 _ _ _ _ _ _ _ _ _ _ _ _ _ _ _ _ _ _ _ _ _ _ (i:Int) l) _
 unfold E1.l1
 refine Ok.cond (fun h=>?_) fun _=>Ok.up (Ok.ret hl)
 have h:(i:Int) < 16:=aDm h
 refine Ok.bind (gJ (by omega) (by omega)) fun e _=>Ok.ret ⟨⟨i + 1,by show W ((i:Int) + 1)=_; rw [Hh (by omega)]; omega,by omega,?_⟩,?_⟩
 ·show (Jd l _ _).length=16
  unfold Jd
  rw [bCs]; exact hl
 ·show 16 - (W ((i:Int) + 1)).toNat < 16 - ((i:Nat):Int).toNat
  rw [Hh (by omega)]; omega
theorem Vw (n:Int):Ok (Du n) (fun y=>Dc 8 (kI n) y.2):=by
 obtain⟨l,hl,hlen⟩:∃ l,E1=some l/\l.length=16:=jA
 unfold Du
 rw [hl,aAy]
 refine Ok.cond (fun h=>?_) fun h=>?_
 ·exact Ok.ret (.inr ⟨rfl,fun v=>by have:=aDm h; have:=v.1; omega⟩)
 ·have h:=aF4 h
  refine Ok.cond (fun g=>Ok.ret (.inr ⟨rfl,fun v=>by have:=aDm g; have:=v.2; omega⟩)) fun g=>?_
  have g:=aF4 g
  rw [Hh (by omega)]
  exact Ok.bind (gJ (by omega) (by omega)) fun e _=>Ok.ret (.inl ⟨rfl,by omega,by omega⟩)
def SuV (l:List Int) (i:Nat):Prop:=∀ x,l[i]?=some x->kI x/\x∉l.take i
theorem aFt {l:List Int} (h:∀ i,SuV l i):l.Nodup:=by
 rw [List.nodup_iff_pairwise_ne,bBl]
 intro i j hi hj hij e
 refine (h j l[j] (aBb hj)).2 ?_
 rw [<- e]
 exact List.mem_take_iff_getElem.2 ⟨i,by omega,rfl⟩
theorem aEy:∀ (n:Nat) (l:List Int),l.Nodup->(∀ x∈l,1<=x/\x<=(n:Int))->l.length<=n
 | 0,[],_,_=>aKp _
 | 0,x :: l,_,h=>by have:=h x (.head _); omega
 | n + 1,l,hn,h=>by
  have h1:=aEy n (l.erase ((n:Int) + 1)) (hn.erase _) fun x hx=>by
   have:=h x (List.mem_of_mem_erase hx)
   have:x≠(n:Int) + 1:=((hn.mem_erase_iff).1 hx).1
   omega
  have:=List.length_erase (a:=(n:Int) + 1) (l:=l)
  split at this <;> omega
theorem aM1 {l:List Int} (h:∀ i,SuV l i):l.length<=16:=aEy 16 l (aFt h) fun x hx=>by
 obtain⟨i,hi⟩:=aNn.1 hx
 exact (h i x hi).1
theorem SuV.out {l:List Int} {i:Nat} (h:l.length<=i):SuV l i:=fun x hx=>by have:=I3 hx; omega
theorem aI0 {l:List Int} {i:Nat} (h:i<=l.length):pY l 0 (i:Int)=some (l.take i):=by
 unfold pY
 rw [if_pos (by omega)]
 simp
theorem pN (l:List Int) (hl:Lo l):Ok (D5 l) (fun b=>b=true↔∀ i,SuV l i):=by
 have hl':l.length < 4611686018427387904:=hl
 unfold D5
 refine cV l.length (SuV l) (fun i hi hV=>?_) fun hV=>?_
 ·obtain⟨x,hx⟩:∃ x,l[i]?=some x:=⟨_,aBb hi⟩
  show Ok (D5.l1 l (i:Int)) _
  unfold D5.l1
  refine aD6 hx (Ok.bind (Vw x) fun y hy=>?_)
  refine Ok.cond (fun h=>?_) fun h=>?_
  ·refine Ru (by omega) (fun _=>⟨fun h=>(by cases h),fun v=>?_⟩) fun h=>by cases h
   rcases hy with ⟨e,hs⟩ | ⟨e,hs⟩
   ·rw [e] at h; cases h
   ·exact absurd (v i x hx).1 hs
  ·have hs:kI x:=by
    rcases hy with ⟨e,hs⟩ | ⟨e,hs⟩
    ·exact hs
    ·rw [e] at h; cases h
   rw [aI0 (by omega),aAy,Qd _ _ (by rw [aHg]; omega),aAy]
   refine Ru (by omega) (fun h=>⟨fun h=>(by cases h),fun v=>?_⟩) fun h=>fun z hz=>?_
   ·exact absurd (aDm h) (v i x hx).2
   ·rw [hx] at hz; cases hz
    exact⟨hs,aF4 h⟩
 ·show Ok (D5.l1 l (l.length:Int)) _
  unfold D5.l1
  exact nB (Ok.up (Ok.ret ⟨fun _ i=>if h:i < l.length then hV i h else SuV.out (by omega),fun _=>rfl⟩))
theorem Yz (l:List Int) (hl:Lo l):Ok (Dr l) (fun b=>b=true↔∀ i,VA (fun x y:Int=>x < y) l i):=by
 have hl':l.length < 4611686018427387904:=hl
 unfold Dr
 refine cV l.length (VA (fun x y=>x < y) l) (fun i hi hV=>?_) fun hV=>?_
 ·obtain⟨x,hx⟩:∃ x,l[i]?=some x:=⟨_,aBb hi⟩
  show Ok (Dr.l1 l (i:Int)) _
  unfold Dr.l1
  rw [aBd (by omega:(i:Int) < (l.length:Int)),aHj]
  refine oF hi hl (fun h0=>?_) fun p h0 hp=>?_
  ·exact Ru (by omega) (fun h=>by cases h) fun _=>VA.zero h0
  ·rw [F4,hx,aAy]
   refine Ru (by omega) (fun h=>⟨fun h=>(by cases h),fun v=>?_⟩) fun h=>VA.at hp hx (by have:=aF4 h; omega)
   have:=v i p x h0 hp hx
   have:=aDm h
   omega
 ·show Ok (Dr.l1 l (l.length:Int)) _
  unfold Dr.l1
  exact nB (Ok.up (Ok.ret ⟨fun _ i=>if h:i < l.length then hV i h else VA.out (by omega),fun _=>rfl⟩))
theorem iG (s:List Int) (f:Int->Option Bool) (p:Int->Bool) (h:Lo s) (hf:∀ x∈s,f x=some (p x)):Cs s f=some (s.any p):=by
 have hi:Az s f=some (Mg s p):=by
  unfold Az
  refine Kp s p h (fun i x hx=>?_) ?_
  ·show Az.l1 s f (i:Int)=_
   unfold Az.l1
   rw [G0 hx,hf x (E7 hx),aAy]
   cases p x <;> rfl
  ·show Az.l1 s f (s.length:Int)=_
   unfold Az.l1
   rw [Fq]; rfl
 unfold Cs
 rw [hi,aAy,Of]
structure lV (e:Ad):Prop where
 name:e.Name.size<=9223372036854775807
 suites:Lo e.Suites
 ids:Lo e.Identities
 anchors:Lo e.Anchors
 hashes:Lo e.Hashes
 chain:∀ x∈e.Identities,∀ c∈x.Chain,vF c
structure EpV (e:Ad):Prop where
 name:mO e.Name=true
 least:1<=e.Least
 most:e.Least<=e.Most
 most4:e.Most<=4
 suites:∀ i,SuV e.Suites i
 idn:e.Identities.length<=4
 ann:e.Anchors.length<=16
 ana:∀ i,VA (fun x y:Int=>x < y) e.Anchors i
 haa:∀ i,VA (fun x y:Int=>x < y) e.Hashes i
 ids:∀ x∈e.Identities,Zi x.Key x.KeyId x.Chain=true
 anr:∀ n∈e.Anchors,0<=n/\n<=2147483648
 har:∀ n∈e.Hashes,Y6 n=1
theorem aR {α:Type} {l:List α} {P:α->Prop} (h:∀ i,i < l.length->∀ x,l[i]?=some x->P x):∀ x∈l,P x:=fun x hx=>by
 obtain⟨i,hi⟩:=aNn.1 hx
 exact h i (I3 hi) x hi
theorem T5 {e:Ad} (h:lV e):Ok (Bu e) (Dc 19 (EpV e)):=by
 have hi:=h.ids
 unfold Lo at hi
 unfold Bu
 rw [cK _ h.name,aAy]
 refine Ok.cond (fun c=>Dc.no fun v=>by rw [v.name] at c; cases c) fun c1=>?_
 refine Ok.cond (fun c=>Dc.no fun v=>by have:=aDm c; have:=v.least; omega) fun c2=>?_
 refine Ok.cond (fun c=>Dc.no fun v=>by have:=aDm c; have:=v.most; omega) fun c3=>?_
 refine Ok.cond (fun c=>Dc.no fun v=>by have:=aDm c; have:=v.most4; omega) fun c4=>?_
 refine Ok.bind (pN _ h.suites) fun y2 h2=>?_
 refine Ok.cond (fun c=>Dc.no fun v=>by rw [h2.2 v.suites] at c; cases c) fun c5=>?_
 refine Ok.cond (fun c=>Dc.no fun v=>by have:=aDm c; have:=v.idn; omega) fun c6=>?_
 refine Ok.cond (fun c=>Dc.no fun v=>by have:=aDm c; have:=v.ann; omega) fun c7=>?_
 refine Ok.bind (Yz _ h.anchors) fun y3 h3=>?_
 refine Ok.cond (fun c=>Dc.no fun v=>by rw [h3.2 v.ana] at c; cases c) fun c8=>?_
 refine Ok.bind (Yz _ h.hashes) fun y4 h4=>?_
 refine Ok.cond (fun c=>Dc.no fun v=>by rw [h4.2 v.haa] at c; cases c) fun c9=>?_
 have n2:=h2.1 (by simpa using c5)
 have n3:=h3.1 (by simpa using c8)
 have n4:=h4.1 (by simpa using c9)
 have d2:=aF4 c2
 have d3:=aF4 c3
 have d4:=aF4 c4
 have d6:=aF4 c6
 have d7:=aF4 c7
 refine cV e.Identities.length (fun i=>∀ x,e.Identities[i]?=some x->Zi x.Key x.KeyId x.Chain=true) (fun i hi' hV=>?_) fun hV=>?_
 ·obtain⟨x,hx⟩:∃ x,e.Identities[i]?=some x:=⟨_,aBb hi'⟩
  show Ok (Bu.l3 e (i:Int)) _
  unfold Bu.l3
  refine aD6 hx ?_
  rw [aA3 _ _ _ (h.chain x (E7 hx)),aAy]
  refine Ru (by omega) (fun c=>.inr ⟨rfl,fun v=>by rw [v.ids x (E7 hx)] at c; cases c⟩) fun c z hz=>?_
  rw [hx] at hz; cases hz
  simpa using c
 ·show Ok (Bu.l3 e (e.Identities.length:Int)) _
  unfold Bu.l3
  refine nB (Ok.up ?_)
  refine Ok.bindE (a:=()) rfl (Ok.bindE (iG _ _ (fun n=>decide (n < 0) || decide (2147483648 < n)) h.anchors fun n _=>?_) ?_)
  ·show ((Gn n).bind fun y=>some (!y))=_
   rw [gU,aAy,bD3]
  refine Ok.cond (fun c=>Dc.no fun v=>?_) fun c10=>?_
  ·obtain⟨n,h1,h2⟩:=aLm.1 c
   have:=v.anr n h1
   simp only [aT1,aU9] at h2
   omega
  refine Ok.bindE (a:=()) rfl (Ok.bindE (iG _ _ (fun n=>!decide (Y6 n=1)) h.hashes fun n _=>?_) ?_)
  ·show ((Na n).bind fun y=>some (!y))=_
   unfold Na
   rw [jN]; rfl
  refine Ok.cond (fun c=>Dc.no fun v=>?_) fun c11=>Dc.yes ?_
  ·obtain⟨n,h1,h2⟩:=aLm.1 c
   rw [aBd (v.har n h1)] at h2
   cases h2
  ·refine⟨by simpa using c1,by omega,by omega,by omega,n2,by omega,by omega,n3,n4,aR hV,fun n hn=>?_,fun n hn=>?_⟩
   ·have:=aWz.1 c10 n hn
    simp only [aT1,aU9] at this
    omega
   ·have:=aWz.1 c11 n hn
    simpa using this
end
section
open Go
structure Rx (x:Aq):Prop where
 name:x.Name.size<=9223372036854775807
 links:Lo x.Links
structure mE (x:Aq):Prop where
 name:Mh x.Name=true
 kind:x.Kind=1\/x.Kind=2
 purpose:1<=x.Purpose/\x.Purpose<=4
 len:1<=x.Links.length/\x.Links.length<=8
 asc:∀ i,VA (fun a b:A1=>a.Day < b.Day) x.Links i
 use:∀ a∈x.Links,0 < P8 a.Use
 day:∀ a∈x.Links,0<=a.Day/\a.Day<=40000
 until_:x.Until<=40000
 first:∀ a,x.Links[0]?=some a->a.Day<=x.Until
def LkV (l:List A1) (i:Nat):Prop:=VA (fun a b:A1=>a.Day < b.Day) l i/\∀ a,l[i]?=some a->0 < P8 a.Use/\0<=a.Day/\a.Day<=40000
theorem Ql {x:Aq} (h:Rx x):Ok (A9 x) (Dc 30 (mE x)):=by
 have hl:=h.links
 unfold Lo at hl
 have J:∀ b,(b=true->x.Kind=1\/x.Kind=2)->(b=false->¬ (x.Kind=1\/x.Kind=2))->Ok (A9.j1 x b) (Dc 30 (mE x)):=by
  intro b hb1 hb2
  unfold A9.j1
  rw [Yg _ h.name,aAy]
  refine Ok.cond (fun c=>Dc.no fun v=>by rw [v.name] at c; cases c) fun c1=>?_
  refine Ok.cond (fun c=>Dc.no fun v=>hb2 (by simpa using c) v.kind) fun c2=>?_
  refine Ok.cond (fun c=>Dc.no fun v=>by have:=aDm c; have:=v.purpose; omega) fun c3=>?_
  refine Ok.cond (fun c=>Dc.no fun v=>by have:=aDm c; have:=v.purpose; omega) fun c4=>?_
  refine Ok.cond (fun c=>Dc.no fun v=>by have:=aDm c; have:=v.len; omega) fun c5=>?_
  refine Ok.cond (fun c=>Dc.no fun v=>by have:=aDm c; have:=v.len; omega) fun c6=>?_
  have d3:=aF4 c3
  have d4:=aF4 c4
  have d5:=aF4 c5
  have d6:=aF4 c6
  refine cV x.Links.length (LkV x.Links) (fun i hi hV=>?_) fun hV=>?_
  ·obtain⟨a,ha⟩:∃ a,x.Links[i]?=some a:=⟨_,aBb hi⟩
   show Ok (A9.l3 x (i:Int)) _
   unfold A9.l3
   refine aD6 ha ?_
   rw [Rl,aAy]
   refine Ok.cond (fun c=>Ru (by omega) (fun _=>.inr ⟨rfl,fun v=>by rw [aBd (v.use a (E7 ha))] at c; cases c⟩) fun h=>by cases h) fun e1=>?_
   refine Ok.cond (fun c=>Ru (by omega) (fun _=>.inr ⟨rfl,fun v=>by have:=aDm c; have:=v.day a (E7 ha); omega⟩) fun h=>by cases h) fun e2=>?_
   refine Ok.cond (fun c=>Ru (by omega) (fun _=>.inr ⟨rfl,fun v=>by have:=aDm c; have:=v.day a (E7 ha); omega⟩) fun h=>by cases h) fun e3=>?_
   have e2:=aF4 e2
   have e3:=aF4 e3
   have hr:∀ z,x.Links[i]?=some z->0 < P8 z.Use/\0<=z.Day/\z.Day<=40000:=fun z hz=>by rw [ha] at hz; cases hz; exact⟨by simpa using e1,by omega⟩
   refine oF hi h.links (fun h0=>?_) fun p h0 hp=>?_
   ·exact Ru (by omega) (fun h=>by cases h) fun _=>⟨VA.zero h0,hr⟩
   ·refine Ru (by omega) (fun c=>.inr ⟨rfl,fun v=>?_⟩) fun c=>⟨VA.at hp ha (by have:=aF4 c; omega),hr⟩
    have:=v.asc i p a h0 hp ha
    have:=aDm c
    omega
  ·show Ok (A9.l3 x (x.Links.length:Int)) _
   unfold A9.l3
   refine nB (Ok.up ?_)
   obtain⟨a,ha⟩:∃ a,x.Links[0]?=some a:=⟨_,aBb (by omega)⟩
   rw [vU,ha,aAy]
   refine Ok.cond (fun c=>Dc.no fun v=>by have:=aDm c; have:=v.first a ha; omega) fun c7=>?_
   refine Ok.cond (fun c=>Dc.no fun v=>by have:=aDm c; have:=v.until_; omega) fun c8=>Dc.yes ?_
   have d7:=aF4 c7
   have d8:=aF4 c8
   exact⟨by simpa using c1,hb1 (by simpa using c2),by omega,by omega,fun i=>if h:i < x.Links.length then (hV i h).1 else VA.out (by omega),aR fun i hi a ha=>((hV i hi).2 a ha).1,aR fun i hi a ha=>((hV i hi).2 a ha).2,by omega,fun b hb=>by rw [ha] at hb; cases hb; omega⟩
 unfold A9
 refine Ok.cond (fun c=>J _ (fun _=>.inl (aDm c)) fun h=>by cases h) fun c=>J _ (fun h=>.inr (aDm h)) fun h=>?_
 have c:=aF4 c
 have h:=aF4 h
 rintro (k | k)
 ·exact c k
 ·exact h k
theorem bQ (s:List Aq) (f:Aq->Option Bool) (p:Aq->Bool) (h:Lo s) (hf:∀ x∈s,f x=some (p x)):Gg s f=some (s.any p):=by
 have hi:B6 s f=some (Mg s p):=by
  unfold B6
  refine Kp s p h (fun i x hx=>?_) ?_
  ·show B6.l1 s f (i:Int)=_
   unfold B6.l1
   rw [G0 hx,hf x (E7 hx),aAy]
   cases p x <;> rfl
  ·show B6.l1 s f (s.length:Int)=_
   unfold B6.l1
   rw [Fq]; rfl
 unfold Gg
 rw [hi,aAy,Of]
def EdR (a b:Bi):Prop:=a.Client < b.Client\/(a.Client=b.Client/\a.Server < b.Server)
def EdS (n:Int) (x:Bi):Prop:=(0<=x.Client/\x.Client < n)/\(0<=x.Server/\x.Server < n)/\x.Client≠x.Server
def EdV (n:Int) (l:List Bi) (i:Nat):Prop:=VA EdR l i/\∀ x,l[i]?=some x->EdS n x
theorem EdV.out {n:Int} {l:List Bi} {i:Nat} (h:l.length<=i):EdV n l i:=⟨VA.out h,fun x hx=>by have:=I3 hx; omega⟩
theorem yV (l:List Bi) (n:Int) (hl:Lo l):Ok (B8 l n) (fun b=>b=true↔l.length<=40/\∀ i,EdV n l i):=by
 have hl':l.length < 4611686018427387904:=hl
 unfold B8
 refine cV l.length (EdV n l) (fun i hi hV=>?_) fun hV=>?_
 ·obtain⟨x,hx⟩:∃ x,l[i]?=some x:=⟨_,aBb hi⟩
  show Ok (B8.l1 l n (i:Int)) _
  unfold B8.l1
  refine aD6 hx ?_
  have no:¬ EdS n x->Ok (B8.j2 l (i:Int) x true) (gP (fun s'=>s'=((i + 1:Nat):Int)/\EdV n l i) fun b=>b=true↔l.length<=40/\∀ i,EdV n l i):=fun h=>by
   unfold B8.j2
   rw [aHj]
   exact Ok.up (Ok.ret ⟨fun h=>(by cases h),fun v=>absurd ((v.2 i).2 x hx) h⟩)
  refine Ok.cond (fun c=>no fun v=>by have:=aDm c; have:=v.1; omega) fun c1=>?_
  refine Ok.cond (fun c=>no fun v=>by have:=aDm c; have:=v.1; omega) fun c2=>?_
  refine Ok.cond (fun c=>no fun v=>by have:=aDm c; have:=v.2.1; omega) fun c3=>?_
  refine Ok.cond (fun c=>no fun v=>by have:=aDm c; have:=v.2.1; omega) fun c4=>?_
  have c1:=aF4 c1
  have c2:=aF4 c2
  have c3:=aF4 c3
  have c4:=aF4 c4
  by_cases c5:x.Client=x.Server
  ·rw [aBd c5]
   exact no fun v=>v.2.2 c5
  rw [aBc c5]
  have hr:∀ z,l[i]?=some z->EdS n z:=fun z hz=>by rw [hx] at hz; cases hz; exact⟨by omega,by omega,c5⟩
  unfold B8.j2
  rw [aE8]
  refine oF hi hl (fun h0=>?_) fun p h0 hp=>?_
  ·exact Ru (by omega) (fun h=>by cases h) fun _=>⟨VA.zero h0,hr⟩
  ·have up:¬ EdR p x->(true=true↔l.length<=40/\∀ i,EdV n l i)->True:=fun _ _=>trivial
   refine Ok.cond (fun c=>?_) fun c6=>?_
   ·refine Ru (by omega) (fun _=>⟨fun h=>(by cases h),fun v=>?_⟩) fun h=>by cases h
    have:=aDm c
    rcases (v.2 i).1 p x h0 hp hx with h | h <;> omega
   have c6:=aF4 c6
   refine Ok.cond (fun c=>?_) fun c=>?_
   ·have c:=aDm c
    refine Ru (by omega) (fun d=>⟨fun h=>(by cases h),fun v=>?_⟩) fun d=>⟨VA.at hp hx (.inr ⟨c,by have:=aF4 d; omega⟩),hr⟩
    have d:=aDm d
    rcases (v.2 i).1 p x h0 hp hx with h | h <;> omega
   ·have c:=aF4 c
    exact Ru (by omega) (fun h=>by cases h) fun _=>⟨VA.at hp hx (.inl (by omega)),hr⟩
 ·show Ok (B8.l1 l n (l.length:Int)) _
  unfold B8.l1
  refine nB (Ok.up (Ok.ret ⟨fun h=>⟨by have:=aDm h; omega,fun i=>if h:i < l.length then hV i h else EdV.out (by omega)⟩,fun v=>aBd (by have:=v.1; omega)⟩))
structure xS (e:Ak):Prop where
 n:Lo e.Endpoints
 edges:Lo e.Edges
 m:Lo e.Items
 ep:∀ x∈e.Endpoints,lV x
 it:∀ x∈e.Items,Rx x
def NmR (a b:Ad):Prop:=tP (Q2 a.Name) (Q2 b.Name)=true
structure EsV (e:Ak):Prop where
 ep:∀ x∈e.Endpoints,EpV x
 names:∀ i,VA NmR e.Endpoints i
 n:e.Endpoints.length<=16
 it:∀ x∈e.Items,mE x
 m:e.Items.length<=30
 edges:e.Edges.length<=40
 ed:∀ i,EdV (e.Endpoints.length:Int) e.Edges i
theorem aN {e:Ak} (h:xS e):Ok (Cp e) (Dc 31 (EsV e)):=by
 have hn:=h.n
 unfold Lo at hn
 unfold Cp
 refine cV e.Endpoints.length (fun i=>VA NmR e.Endpoints i/\∀ x,e.Endpoints[i]?=some x->EpV x) (fun i hi hV=>?_) fun hV=>?_
 ·obtain⟨x,hx⟩:∃ x,e.Endpoints[i]?=some x:=⟨_,aBb hi⟩
  show Ok (Cp.l1 e (i:Int)) _
  unfold Cp.l1
  refine aD6 hx (Ok.bind (T5 (h.ep x (E7 hx))) fun y hy=>?_)
  refine Ok.cond (fun c=>Ru (by omega) (fun _=>.inr ⟨rfl,fun v=>?_⟩) fun h=>by cases h) fun c1=>?_
  ·rcases hy with ⟨rfl,hy⟩ | ⟨rfl,hy⟩
   ·cases c
   ·exact hy (v.ep x (E7 hx))
  have hx1:EpV x:=by
   rcases hy with ⟨rfl,hy⟩ | ⟨rfl,hy⟩
   ·exact hy
   ·cases c1
  have hr:∀ z,e.Endpoints[i]?=some z->EpV z:=fun z hz=>by rw [hx] at hz; cases hz; exact hx1
  refine oF hi h.n (fun h0=>?_) fun p h0 hp=>?_
  ·exact Ru (by omega) (fun h=>by cases h) fun _=>⟨VA.zero h0,hr⟩
  ·refine Ru (by omega) (fun c=>.inr ⟨rfl,fun v=>?_⟩) fun c=>⟨VA.at hp hx (by unfold NmR; simpa using c),hr⟩
   have:tP (Q2 p.Name) (Q2 x.Name)=true:=v.names i p x h0 hp hx
   rw [this] at c; cases c
 ·show Ok (Cp.l1 e (e.Endpoints.length:Int)) _
  unfold Cp.l1
  refine nB (Ok.up ?_)
  have hit:∀ x∈e.Items,Ho x=some (!decide (A9 x=some 0)):=fun x hx=>by
   unfold Ho
   obtain⟨y,h1,h2⟩:=Ql (h.it x hx)
   rw [h1,aAy]
   by_cases e:y=0
   ·rw [e,aBd rfl,aBd rfl]
   ·rw [aBc e,aBc fun q=>e (oi_ q)]
  have hv:∀ x∈e.Items,(A9 x=some 0↔mE x):=fun x hx=>by
   obtain⟨y,h1,h2⟩:=Ql (h.it x hx)
   rw [h1]
   rcases h2 with ⟨rfl,h2⟩ | ⟨rfl,h2⟩
   ·exact⟨fun _=>h2,fun _=>rfl⟩
   ·exact⟨fun q=>(by cases q),fun q=>absurd q h2⟩
  rw [bQ e.Items (fun x0=>Ho x0) (fun x=>!decide (A9 x=some 0)) h.m hit,aAy]
  refine Ok.cond (fun c=>Dc.no fun v=>?_) fun c1=>?_
  ·obtain⟨x,h1,h2⟩:=aLm.1 c
   rw [aBd ((hv x h1).2 (v.it x h1))] at h2
   cases h2
  refine Ok.cond (fun c=>Dc.no fun v=>by have:=aDm c; have:=v.n; omega) fun c2=>?_
  refine Ok.cond (fun c=>Dc.no fun v=>by have:=aDm c; have:=v.m; omega) fun c3=>?_
  refine Ok.bind (yV _ _ h.edges) fun y hy=>?_
  refine Ok.cond (fun c=>Dc.no fun v=>by rw [hy.2 ⟨v.edges,v.ed⟩] at c; cases c) fun c4=>Dc.yes ?_
  have c2:=aF4 c2
  have c3:=aF4 c3
  obtain⟨h1,h2⟩:=hy.1 (by simpa using c4)
  exact⟨aR fun i hi=>(hV i hi).2,fun i=>if h:i < e.Endpoints.length then (hV i h).1 else VA.out (by omega),by omega,fun x hx=>(hv x hx).1 (by have:=aWz.1 c1 x hx; simpa using this),by omega,h1,h2⟩
end
section
open Go
theorem aA6 {l:List Int} (h:l.Nodup) (hr:∀ x∈l,kI x) (i:Nat):SuV l i:=fun x hx=>by
 refine⟨hr x (E7 hx),fun hm=>?_⟩
 obtain⟨j,hj,he⟩:=List.mem_take_iff_getElem.1 hm
 rw [List.nodup_iff_pairwise_ne,bBl] at h
 have hi:=I3 hx
 have:=h j i (by omega) hi (by omega)
 rw [aBb hi] at hx
 exact this (by rw [he]; exact (oi_ hx).symm)
structure IdM (x:Av):Prop where
 key:aMj x.Key
 id:0<=x.KeyId/\x.KeyId<=1000
 len:x.Chain.length<=3
 chain:∀ c∈x.Chain,Is c=true/\T1 c
 head:kW x.Key x.KeyId x.Chain=true
theorem IdM.shows {x:Av} (h:IdM x):Zi x.Key x.KeyId x.Chain=true:=tH h.key.2 (by have:=h.id; omega) (by have:=h.len; omega) (fun c hc=>(h.chain c hc).1) h.head
def aM6:List (List Int):=[[1,2],[1,2],[1],[2,11],[]]
def aNr:List (List Int):=[[1,2,3,4],[2,3,4],[3,4]]
structure EpM (name:ByteArray) (e:Ad):Prop where
 name:e.Name=name
 least:1<=e.Least
 most:e.Least<=e.Most
 most4:e.Most<=4
 sn:e.Suites.length<=10
 suites:∀ i,SuV e.Suites i
 idn:e.Identities.length<=3
 ids:∀ x∈e.Identities,IdM x
 anchors:e.Anchors∈aM6
 hashes:e.Hashes∈aNr
theorem xI {l:List Int} (h:(List.range l.length).all (fun i=>decide (i=0) || decide (l.getD (i - 1) 0 < l.getD i 0))=true) (i:Nat):VA (fun x y:Int=>x < y) l i:=fun x y h0 hx hy=>by
 have hi:=I3 hy
 have:=aGo.1 h i (bA1.2 hi)
 rw [aBc (by omega),bB6,Vz hx,Vz hy] at this
 exact aDm this
theorem EpM.fit {name:ByteArray} (hn:name.size<=32) {e:Ad} (h:EpM name e):lV e:=by
 have h1:=h.sn
 have h2:=h.idn
 refine⟨by rw [h.name]; omega,by unfold Lo; omega,by unfold Lo; omega,?_,?_,fun x hx c hc=>((h.ids x hx).chain c hc).2.w⟩
 ·have:=h.anchors
  unfold aM6 at this
  simp only [aF6,aGr,aSy] at this
  rcases this with e | e | e | e | e <;> rw [e] <;> (unfold Lo; decide)
 ·have:=h.hashes
  unfold aNr at this
  simp only [aF6,aGr,aSy] at this
  rcases this with e | e | e <;> rw [e] <;> (unfold Lo; decide)
theorem EpM.valid {name:ByteArray} (hw:mO name=true) {e:Ad} (h:EpM name e):EpV e:=by
 have hi:=h.idn
 have ha:=h.anchors
 have hh:=h.hashes
 unfold aM6 at ha
 unfold aNr at hh
 simp only [aF6,aGr,aSy] at ha hh
 refine⟨by rw [h.name]; exact hw,h.least,h.most,h.most4,h.suites,by omega,?_,?_,?_,fun x hx=>(h.ids x hx).shows,?_,?_⟩
 ·rcases ha with e | e | e | e | e <;> rw [e] <;> decide
 ·rcases ha with e | e | e | e | e <;> rw [e] <;> exact xI (by decide)
 ·rcases hh with e | e | e <;> rw [e] <;> exact xI (by decide)
 ·rcases ha with e | e | e | e | e <;> rw [e] <;> decide
 ·rcases hh with e | e | e <;> rw [e] <;> decide +kernel
theorem aRr {n:Int} (h:0<=n/\n<=100000):Sm n:=h
theorem LkV.snoc {l:List A1} {a:A1} (h:∀ i,LkV l i) (hr:0 < P8 a.Use/\0<=a.Day/\a.Day<=40000) (hd:∀ b∈l,b.Day < a.Day) (i:Nat):LkV (l ++ [a]) i:=by
 refine⟨fun x y h0 hx hy=>?_,fun b hb=>?_⟩
 ·have hi:=I3 hy
  rw [aF3,aFu] at hi
  rw [aF7 (by omega)] at hx
  by_cases hl:i < l.length
  ·rw [aF7 hl] at hy
   exact (h i).1 x y h0 hx hy
  ·rw [aIp (by omega),show i - l.length=0 by omega] at hy
   cases hy
   exact hd x (E7 hx)
 ·by_cases hl:i < l.length
  ·rw [aF7 hl] at hb
   exact (h i).2 b hb
  ·rw [aIp (by omega)] at hb
   have:=aIm hb
   rw [aF2] at this
   subst this
   exact hr
structure ItM (x:Aq):Prop where
 ok:mE x
 fit:Rx x
 few:x.Links.length<=3
theorem aDl {d:Ae} (h:eX d) {name:ByteArray} (hn:Mh name=true):Ok (Kk d name) (fun y=>ItM y.1/\eX y.2):=by
 have hns:=Rf hn
 unfold Kk
 refine Ok.bind (Pd h 2 (by omega) (by omega)) fun y1 h1=>?_
 refine Ok.bind (Pd h1.2 4 (by omega) (by omega)) fun y2 h2=>?_
 refine Ok.bind (Pd h2.2 20 (by omega) (by omega)) fun y3 h3=>?_
 refine Ok.bind (Pd h3.2 3 (by omega) (by omega)) fun y4 h4=>?_
 have b1:=h1.1
 have b2:=h2.1
 have b3:=h3.1
 have b4:=h4.1
 rw [Hh (x:=1 + y4.1) (by omega)]
 refine Ok.loop (fun s:Int×Int×Ae×List A1=>0<=s.2.1/\s.2.1 + (s.2.2.2.length:Int)=1 + y4.1/\eX s.2.2.1/\(0<=s.1/\s.1<=20 + 101 * (s.2.2.2.length:Int))/\(∀ i,LkV s.2.2.2 i)/\∀ b∈s.2.2.2,b.Day < s.1/\b.Day<=1000) (fun s=>s.2.1.toNat) ?_ ⟨by show 0<=1 + y4.1; omega,by show 1 + y4.1 + ((([]:List A1).length:Nat):Int)=_; simp,h4.2,⟨b3.1,by show y3.1<=20 + 101 * ((([]:List A1).length:Nat):Int); simp; omega⟩,fun i=>⟨fun x y _ hx=>(by cases hx),fun a ha=>(by cases ha)⟩,fun b hb=>(by cases hb)⟩
 rintro⟨day,i,d1,l⟩ ⟨a1,a2,a3,a4,a5,a6⟩
 dsimp only at a1 a2 a3 a4 a5 a6
 show Ok (Kk.l1 name y1 y2 day i d1 l) _
 unfold Kk.l1
 refine Ok.cond (fun hb=>?_) fun hb=>?_
 ·have hb:=aDm hb
  refine Ok.bind (Pd a3 6 (by omega) (by omega)) fun y5 h5=>?_
  have b5:=h5.1
  refine Ok.bind (If (by omega) (by show y5.1 < (6:Int); omega)) fun e he=>?_
  refine Ok.bind (Nc (by rw [aFu]; omega)) fun l' hl'=>?_
  subst hl'
  refine Ok.bind (sF h5.2 _ (by decide) (by decide)) fun y6 h6=>?_
  have b6:0<=y6.1/\y6.1<=100:=by
   have:=h6.1
   simp only [aF6,aGr,aSy] at this
   omega
  have he0:0 < P8 e:=by
   simp only [aF6,aGr,aSy] at he
   rcases he with rfl | rfl | rfl | rfl | rfl | rfl <;> decide +kernel
  rw [Hh (x:=day + 1) (by omega),Hh (x:=day + 1 + y6.1) (by omega),Hh (x:=i - 1) (by omega)]
  refine Ok.ret ⟨⟨by show 0<=i - 1; omega,?_,h6.2,⟨by show 0<=day + 1 + y6.1; omega,?_⟩,LkV.snoc a5 ⟨he0,by show 0<=day; omega,by show day<=40000; omega⟩ fun b hb=>(a6 b hb).1,fun b hb=>?_⟩,by show (i - 1).toNat < i.toNat; omega⟩
  ·show i - 1 + ((l ++ [A1.mk e day]).length:Int)=1 + y4.1
   rw [aF3,aFu]; omega
  ·show day + 1 + y6.1<=20 + 101 * ((l ++ [A1.mk e day]).length:Int)
   rw [aF3,aFu]; omega
  ·show b.Day < day + 1 + y6.1/\_
   rcases aKi.1 hb with hb | hb
   ·have:=a6 b hb
    omega
   ·rw [aF2] at hb
    subst hb
    show day < day + 1 + y6.1/\day<=1000
    omega
 ·have hb:=aF4 hb
  have hl1:1<=l.length:=by omega
  obtain⟨a,ha⟩:∃ a,l[0]?=some a:=⟨_,aBb (by omega)⟩
  refine Ok.up ?_
  rw [vU,ha,aAy]
  refine Ok.bind (sF a3 _ (by decide) (by decide)) fun y7 h7=>?_
  have b7:0<=y7.1/\y7.1<=3000:=by
   have:=h7.1
   simp only [aF6,aGr,aSy] at this
   omega
  have hd:=a6 a (E7 ha)
  have hd0:=((a5 0).2 a ha).2
  rw [Hh (x:=1 + y1.1) (by omega),Hh (x:=1 + y2.1) (by omega),Hh (x:=a.Day + y7.1) (by omega)]
  refine Ok.ret ⟨⟨⟨hn,by show 1 + y1.1=1\/1 + y1.1=2; omega,by show 1<=1 + y2.1/\1 + y2.1<=4; omega,by show 1<=l.length/\l.length<=8; omega,fun i=>(a5 i).1,fun b hb=>?_,fun b hb=>?_,by show a.Day + y7.1<=40000; omega,fun b hb=>?_⟩,⟨by show name.size<=_; omega,by show l.length < _; omega⟩,by show l.length<=3; omega⟩,h7.2⟩
  ·obtain⟨j,hj⟩:=aNn.1 hb
   exact ((a5 j).2 b hj).1
  ·obtain⟨j,hj⟩:=aNn.1 hb
   exact ((a5 j).2 b hj).2
  ·have hb:l[0]?=some b:=hb
   rw [ha] at hb
   cases hb
   show a.Day<=a.Day + y7.1
   omega
def nmE:List ByteArray:=[⟨#[97,112,112]⟩,⟨#[100,98]⟩,⟨#[109,97,105,108]⟩,⟨#[119,101,98]⟩]
theorem aCv {n:ByteArray} (h:n∈nmE):Mh n=true/\n.size<=31/\mO n=true:=by
 unfold nmE at h
 simp only [aF6,aGr,aSy] at h
 rcases h with rfl | rfl | rfl | rfl <;> exact⟨by decide +kernel,by decide,by decide +kernel⟩
theorem aKc:∀ i:Fin 4,0 < i.val->tP (Q2 (nmE.getD (i.val - 1) ⟨#[]⟩)) (Q2 (nmE.getD i.val ⟨#[]⟩))=true:=by decide +kernel
structure EsM (e:Ak):Prop where
 n:2<=e.Endpoints.length/\e.Endpoints.length<=4
 ep:∀ (i:Nat) x,e.Endpoints[i]?=some x->EpM (nmE.getD i ⟨#[]⟩) x
 edges:e.Edges.length<=16/\∀ i,EdV (e.Endpoints.length:Int) e.Edges i
 items:e.Items.length<=2/\∀ x∈e.Items,ItM x
theorem xE {i:Nat} (h:i < 4):nmE.getD i ⟨#[]⟩∈nmE:=by
 rcases i with _ | _ | _ | _ | i
 ·exact .head _
 ·exact .tail _ (.head _)
 ·exact .tail _ (.tail _ (.head _))
 ·exact .tail _ (.tail _ (.tail _ (.head _)))
 ·omega
theorem EsM.fit {e:Ak} (h:EsM e):xS e:=by
 have h1:=h.n
 have h2:=h.edges.1
 have h3:=h.items.1
 refine⟨by unfold Lo; omega,by unfold Lo; omega,by unfold Lo; omega,fun x hx=>?_,fun x hx=>(h.items.2 x hx).fit⟩
 obtain⟨i,hi⟩:=aNn.1 hx
 have:=aCv (xE (i:=i) (by have:=I3 hi; omega))
 exact (h.ep i x hi).fit (by omega)
theorem EsM.valid {e:Ak} (h:EsM e):EsV e:=by
 have h1:=h.n
 have h2:=h.edges.1
 have h3:=h.items.1
 refine⟨fun x hx=>?_,fun i x y h0 hx hy=>?_,by omega,fun x hx=>(h.items.2 x hx).ok,by omega,by omega,h.edges.2⟩
 ·obtain⟨i,hi⟩:=aNn.1 hx
  exact (h.ep i x hi).valid (aCv (xE (i:=i) (by have:=I3 hi; omega))).2.2
 ·have hi:=I3 hy
  show tP (Q2 x.Name) (Q2 y.Name)=true
  rw [(h.ep _ x hx).name,(h.ep _ y hy).name]
  exact aKc ⟨i,by omega⟩ h0
end
section
open Go
def nmL:List ByteArray:=[⟨#[97,112,112]⟩,⟨#[100,98]⟩,⟨#[119,101,98]⟩]
def wK (i:Nat):ByteArray:=nmL.getD i ⟨#[]⟩
theorem oQ {i:Nat} (h:i < 3):Mh (wK i)=true/\(wK i).size<=31/\mO (wK i)=true:=by
 rcases i with _ | _ | _ | i
 ·exact⟨by decide +kernel,by decide,by decide +kernel⟩
 ·exact⟨by decide +kernel,by decide,by decide +kernel⟩
 ·exact⟨by decide +kernel,by decide,by decide +kernel⟩
 ·omega
structure LfM (name:ByteArray) (key:Ah) (id:Int) (x:Av):Prop where
 key_:x.Key=key
 id_:x.KeyId=id
 len:x.Chain.length=1
 chain:∀ c∈x.Chain,Is c=true/\T1 c
 head:kW key id x.Chain=true
theorem aRl:Mh ⟨#[114,111,111,116]⟩=true:=by decide +kernel
theorem aQ8:W5 (Ah.mk 3 0) 1=true:=by decide +kernel
theorem va1:∀ i,VA (fun x y:Int=>x < y) [1] i:=xI (by decide)
theorem aW6:∀ i,VA (fun x y:Int=>x < y) [2,3] i:=xI (by decide)
theorem aC7 {name:ByteArray} {key:Ah} {id a to:Int} (hn:Mh name=true) (hk:aMj key) (hid:0<=id/\id<=1000000) (ha:0<=a/\a<=2147483648) (hto:0<=to/\to<=40000):Ok (Pu name key id a to) (LfM name key id):=by
 have hns:=Rf hn
 generalize hc:Ab.mk id (⟨#[114,111,111,116]⟩:ByteArray) name key id (Ah.mk 3 0) 0 to false 0 ([name]:List ByteArray) (E9.mk 0 0)=c
 have hf:T1 c:=by
  subst hc
  exact aFx (by show (1:Nat) < 1000000000; omega) (fun s hs=>by rw [aF2.1 hs]; omega) (by show (4:Nat)<=_; omega) (by show name.size<=_; omega) (show Wl id by unfold Wl; omega) hk.1.1.i64 hk.1.2.i64 (show Wl id by unfold Wl; omega) (show Wl 3 by unfold Wl; omega) hY hY (show Wl to by unfold Wl; omega) hY hY hY
 have hv:Is c=true:=by
  subst hc
  rw [mK]
  exact⟨⟨hid.1,by dsimp only; omega⟩,aRl,hn,aD4 hn,by show (1:Int)<=8; omega,hk.2,⟨hid.1,by dsimp only; omega⟩,aQ8,aW9,aV0,⟨by show (0:Int)<=0; omega,hto.1,hto.2⟩,⟨by show (0:Int)<=0; omega,by show (0:Int)<=8; omega⟩,.inr rfl⟩
 have hu:kL c=c:=by subst hc; rfl
 have hr:=wE (Ov c).1
 have hsg:xH c a=(iR c ⟨a,fB (Ov c).1⟩,0):=by
  unfold xH
  rw [hu,hv,aBd ha.1,aBd ha.2]; rfl
 unfold Pu
 rw [hc]
 refine Ok.bindE (aBk _ hf a) ?_
 rw [hsg]
 refine Ok.ret ⟨rfl,rfl,rfl,fun x hx=>?_,?_⟩
 ·rw [aF2.1 hx]
  exact⟨qG (by rw [hu]; exact hv) ha hr,iU hf (show Wl a by unfold Wl; omega) (aFg _)⟩
 ·subst hc
  show (decide (key=key) && decide (id=id))=true
  rw [aBd rfl,aBd rfl]; rfl
theorem aSr:aMj (Ah.mk 5 2048):=⟨⟨aRr (by decide),aRr (by decide)⟩,by decide +kernel⟩
theorem aH0 {i:Nat} (h:i < 3):Ok (Pu (wK i) (Ah.mk 5 2048) (W (100 + (i:Int))) 1 901) (LfM (wK i) (Ah.mk 5 2048) (100 + (i:Int))):=by
 rw [Hh (by omega)]
 exact aC7 (oQ h).1 aSr (by omega) (by omega) (by omega)
def cJ:List (Int×List Int):=[(3,[10,8,2]),(3,[8,2]),(3,[2,10,8,3]),(4,[14,10,8,2]),(4,[14,8,2]),(4,[14,2,10,8,3])]
def qU (i:Nat) (e:Ad):Prop:=∃ c∈cJ,∃ own fall x,LfM (wK i) (Ah.mk 5 2048) (100 + (i:Int)) x/\e=Ad.mk (wK i) 1 c.1 c.2 own [x] [1] [2,3] fall
theorem jV {c:Int×List Int} (h:c∈cJ):(3<=c.1/\c.1<=4)/\c.2.length<=5/\c.2≠[]/\(c.2.Nodup/\∀ x∈c.2,kI x):=by
 unfold cJ at h
 simp only [aF6,aGr,aSy] at h
 rcases h with rfl | rfl | rfl | rfl | rfl | rfl <;> exact⟨by decide,by decide,by decide,by decide,by unfold kI; decide⟩
theorem aEi {i:Nat} {e:Ad} (hi:i < 3) (h:qU i e):lV e:=by
 obtain⟨c,hc,own,fall,x,hx,rfl⟩:=h
 obtain⟨h1,h2,h3,h4⟩:=jV hc
 have hn:=(oQ hi).2.1
 refine⟨by show (wK i).size<=_; omega,by show c.2.length < _; omega,by show (1:Nat) < _; omega,by show (1:Nat) < _; omega,by show (2:Nat) < _; omega,fun y hy d hd=>?_⟩
 rw [aF2.1 hy] at hd
 exact (hx.chain d hd).2.w
theorem rZ {i:Nat} {e:Ad} (hi:i < 3) (h:qU i e):EpV e:=by
 obtain⟨c,hc,own,fall,x,hx,rfl⟩:=h
 obtain⟨h1,h2,h3,h4,h5⟩:=jV hc
 refine⟨(oQ hi).2.2,by show (1:Int)<=1; omega,by show (1:Int)<=c.1; omega,by show c.1<=4; omega,aA6 h4 h5,by show (1:Nat)<=4; omega,by show (1:Nat)<=16; omega,va1,aW6,fun y hy=>?_,fun n hn=>?_,fun n hn=>?_⟩
 ·rw [aF2.1 hy,hx.key_,hx.id_]
  exact tH aSr.2 (by omega) (by rw [hx.len]; omega) (fun c hc=>(hx.chain c hc).1) hx.head
 ·rw [aF2.1 hn]; omega
 ·simp only [aF6,aGr,aSy] at hn
  rcases hn with rfl | rfl <;> decide +kernel
theorem pD {i:Nat} {e:Ad} (h:qU i e):e.Name=wK i:=by
 obtain⟨c,hc,own,fall,x,hx,rfl⟩:=h
 rfl
theorem yX {i:Nat} (h:i + 1 < 3):tP (Q2 (wK i)) (Q2 (wK (i + 1)))=true:=by
 rcases i with _ | _ | i
 ·decide +kernel
 ·decide +kernel
 ·omega
structure Ud (n:Nat) (l:List Bi):Prop where
 len:l.length<=3
 rng:∀ e∈l,(0<=e.Client/\e.Client < (n:Int))/\(0<=e.Server/\e.Server < (n:Int))/\e.Client≠e.Server
 asc:∀ (j:Nat) x y,l[j]?=some x->l[j + 1]?=some y->x.Client < y.Client\/(x.Client=y.Client/\x.Server < y.Server)
def kK (i k:Int) (l:List Bi):Prop:=∀ e∈l,e.Client < i\/(e.Client=i/\e.Server < k)
theorem Ud.v {n:Nat} {l:List Bi} (h:Ud n l) (i:Nat):EdV (n:Int) l i:=by
 refine⟨fun x y h0 hx hy=>?_,fun x hx=>h.rng x (E7 hx)⟩
 obtain⟨j,rfl⟩:∃ j,i=j + 1:=⟨i - 1,by omega⟩
 exact h.asc j x y hx hy
structure Zz (s:Ak):Prop where
 n2:2<=s.Endpoints.length/\s.Endpoints.length<=3
 eps:∀ (j:Nat) e,s.Endpoints[j]?=some e->qU j e
 edges:Ud s.Endpoints.length s.Edges
 items:s.Items.length<=2/\∀ x∈s.Items,ItM x
theorem Zz.fit {s:Ak} (h:Zz s):xS s:=by
 have h1:=h.n2
 have h2:=h.edges.len
 have h3:=h.items.1
 refine⟨by unfold Lo; omega,by unfold Lo; omega,by unfold Lo; omega,fun x hx=>?_,fun x hx=>(h.items.2 x hx).fit⟩
 obtain⟨i,hi⟩:=aNn.1 hx
 exact aEi (by have:=I3 hi; omega) (h.eps i x hi)
theorem Zz.valid {s:Ak} (h:Zz s):EsV s:=by
 have h1:=h.n2
 have h2:=h.edges.len
 have h3:=h.items.1
 refine⟨fun x hx=>?_,fun i x y h0 hx hy=>?_,by omega,fun x hx=>(h.items.2 x hx).ok,by omega,by omega,h.edges.v⟩
 ·obtain⟨i,hi⟩:=aNn.1 hx
  exact rZ (by have:=I3 hi; omega) (h.eps i x hi)
 ·have hi:=I3 hy
  obtain⟨j,rfl⟩:∃ j,i=j + 1:=⟨i - 1,by omega⟩
  show tP (Q2 x.Name) (Q2 y.Name)=true
  rw [pD (h.eps _ x hx),pD (h.eps _ y hy)]
  exact yX (by omega)
theorem aD2 {n:Nat} {l:List Bi} {i k:Int} (h:Ud n l) (ha:kK i k l) (h3:l.length < 3) (hi:0<=i/\i < (n:Int)) (hk:0<=k/\k < (n:Int)) (hne:i≠k):Ud n (l ++ [Bi.mk i k])/\kK i (k + 1) (l ++ [Bi.mk i k]):=by
 refine⟨⟨by rw [aF3,aFu]; omega,fun e he=>?_,fun j x y hx hy=>?_⟩,fun e he=>?_⟩
 ·rcases aKi.1 he with he | he
  ·exact h.rng e he
  ·rw [aF2.1 he]; exact⟨hi,hk,hne⟩
 ·have hj:=I3 hy
  rw [aF3,aFu] at hj
  rw [aF7 (by omega)] at hx
  by_cases hj2:j + 1 < l.length
  ·rw [aF7 hj2] at hy
   exact h.asc j x y hx hy
  ·rw [aIp (by omega),show j + 1 - l.length=0 by omega] at hy
   injection hy with hy
   subst hy
   exact ha x (E7 hx)
 ·rcases aKi.1 he with he | he
  ·rcases ha e he with h1 | ⟨h1,h2⟩
   ·exact .inl h1
   ·exact .inr ⟨h1,by omega⟩
  ·rw [aF2.1 he]
   exact .inr ⟨rfl,by show k < k + 1; omega⟩
theorem uO {l:List Bi} {i k:Int} (h:kK i k l):kK i (k + 1) l:=fun e he=>by
 rcases h e he with h1 | ⟨h1,h2⟩
 ·exact .inl h1
 ·exact .inr ⟨h1,by omega⟩
theorem zU {l:List Bi} {i k:Int} (h:kK i k l):kK (i + 1) 0 l:=fun e he=>by
 rcases h e he with h1 | ⟨h1,h2⟩
 ·exact .inl (by omega)
 ·exact .inl (by omega)
theorem aCu {y:Int×Ae} {n:Nat} (hn:2 + y.1=(n:Int)) (h:n<=3):((((W (2 + y.1):Int).toNat - (0:Int).toNat):Nat):Int)=(n:Int):=by
 rw [hn,Hh (by omega),aQb]
 show ((n - 0:Nat):Int)=_
 rw [Nat.sub_zero]
def EQ (n:Nat) (i k:Int) (d:Ae) (l:List Bi):Prop:=eX d/\Ud n l/\kK i k l
theorem aFd {y:Int×Ae} {n:Nat} (hn:2 + y.1=(n:Int)) (h3:n<=3) {i:Int} (hi:0<=i/\i < (n:Int)) {d:Ae} {l:List Bi} (h:EQ n i 0 d l) :
  Ok (C7 (fun q'=>Bp.l7 y i q'.1 q'.2.1 q'.2.2) (0,d,l)) (fun o=>∃ d' l',o=.next (i + 1,d',l')/\EQ n (i + 1) 0 d' l'):=by
 refine Ok.loop (fun s:Int×Ae×List Bi=>(0<=s.1/\s.1<=(n:Int))/\EQ n i s.1 s.2.1 s.2.2) (fun s=>((n:Int) - s.1).toNat) (fun s hs=>?_) ⟨⟨aUn _,by show (0:Int)<=(n:Int); omega⟩,h⟩
 obtain⟨k,d1,l1⟩:=s
 obtain⟨hk,hd,he,ha⟩:=hs
 dsimp only at hk hd he ha
 have hl3:=he.len
 show Ok (Bp.l7 y i k d1 l1) _
 unfold Bp.l7
 rw [aCu hn h3]
 refine Ok.cond (fun hb=>?_) fun hb=>?_
 ·have hb:=aDm hb
  have hw:W (k + 1)=k + 1:=Hh (by omega)
  have J8:∀ (d':Ae) (b:Bool),eX d'->(b=true->l1.length < 3/\i≠k)->Ok (Bp.j8 i k l1 b d') (gP (fun s:Int×Ae×List Bi=>((0<=s.1/\s.1<=(n:Int))/\EQ n i s.1 s.2.1 s.2.2)/\((n:Int) - s.1).toNat < ((n:Int) - k).toNat) (fun o=>∃ d' l',o=.next (i + 1,d',l')/\EQ n (i + 1) 0 d' l')):=fun d' b hd' hb'=>by
   unfold Bp.j8 Bp.j9
   rw [hw]
   refine Ok.cond (fun hbt=>?_) fun _=>?_
   ·obtain⟨c1,c2⟩:=hb' hbt
    refine Ok.bind (Nc (by rw [aFu]; omega)) fun l' hl'=>?_
    subst hl'
    obtain⟨e1,e2⟩:=aD2 he ha c1 hi ⟨hk.1,hb⟩ c2
    exact Ok.ret ⟨⟨⟨by show 0<=k + 1; omega,by show k + 1<=(n:Int); omega⟩,hd',e1,e2⟩,by show ((n:Int) - (k + 1)).toNat < ((n:Int) - k).toNat; omega⟩
   ·exact Ok.ret ⟨⟨⟨by show 0<=k + 1; omega,by show k + 1<=(n:Int); omega⟩,hd',he,uO ha⟩,by show ((n:Int) - (k + 1)).toNat < ((n:Int) - k).toNat; omega⟩
  clear hw
  refine Ok.cond (fun hne=>?_) fun _=>J8 d1 false hd (fun h=>by cases h)
  have hne':i≠k:=fun e=>by rw [aBd e] at hne; cases hne
  refine Ok.bind (Pd hd 3 (by omega) (by omega)) fun y8 h8=>?_
  refine Ok.cond (fun _=>J8 y8.2 _ h8.2 fun h=>⟨by have:=aDm h; omega,hne'⟩) fun _=>J8 y8.2 false h8.2 (fun h=>by cases h)
 ·refine Ok.up ?_
  rw [Hh (by omega)]
  exact Ok.ret ⟨d1,l1,rfl,hd,he,zU ha⟩
def qD (s:Ak):Prop:=Zz s/\s.Edges≠[]
theorem nG {E:List Ad} {L:List Bi} {n:Nat} (h2:2<=n/\n<=3) (hE:E.length=n) (hep:∀ (j:Nat) e,E[j]?=some e->qU j e) (hL:Ud n L) (hne:L≠[]) {d:Ae} (hd:eX d):Ok (Bp.j10 E d L) (fun y=>qD y.1/\eX y.2):=by
 unfold Bp.j10
 refine Ok.bind (Pd hd 3 (by omega) (by omega)) fun y9 h9=>?_
 have b9:=h9.1
 refine Ok.loop (fun s:Int×Ae×List Aq=>(0<=s.1/\s.1 + (s.2.2.length:Int)<=2)/\eX s.2.1/\∀ x∈s.2.2,ItM x) (fun s=>s.1.toNat) (fun s hs=>?_) ⟨⟨b9.1,by show y9.1 + ((([]:List Aq).length:Nat):Int)<=2; simp; omega⟩,h9.2,fun x hx=>(by cases hx)⟩
 obtain⟨i,d1,l⟩:=s
 obtain⟨⟨a1,a2⟩,a3,a4⟩:=hs
 dsimp only at a1 a2 a3 a4
 show Ok (Bp.l11 E L i d1 l) _
 unfold Bp.l11
 refine Ok.cond (fun hb=>?_) fun hb=>?_
 ·have hb:=aDm hb
  refine Ok.bind (aI5 a3 _ (by decide) (by decide)) fun y10 h10=>?_
  have hnm:Mh y10.1=true:=by
   have:=h10.1
   simp only [aF6,aGr,aSy] at this
   rcases this with h | h <;> rw [h] <;> decide +kernel
  refine Ok.bind (aDl h10.2 hnm) fun y11 h11=>?_
  refine Ok.bind (Nc (by rw [aFu]; omega)) fun l' hl'=>?_
  subst hl'
  rw [Hh (by omega)]
  refine Ok.ret ⟨⟨⟨by show 0<=i - 1; omega,?_⟩,h11.2,fun x hx=>?_⟩,by show (i - 1).toNat < i.toNat; omega⟩
  ·show i - 1 + ((l ++ [y11.1]).length:Int)<=2
   rw [aF3,aFu]; omega
  ·rcases aKi.1 hx with hx | hx
   ·exact a4 x hx
   ·rw [aF2.1 hx]; exact h11.1
 ·exact Ok.up (Ok.ret ⟨⟨⟨by show 2<=E.length/\E.length<=3; omega,hep,by show Ud E.length L; rw [hE]; exact hL,by show l.length<=2; omega,a4⟩,hne⟩,a3⟩)
theorem aCo {y:Int×Ae} {n:Nat} (hn:2 + y.1=(n:Int)) (h2:2<=n/\n<=3) {E:List Ad} (hE:E.length=n) (hep:∀ (j:Nat) e,E[j]?=some e->qU j e) {d:Ae} (hd:eX d) :
  Ok (C7 (fun q'=>Bp.l6 y E q'.1 q'.2.1 q'.2.2) (0,d,([]:List Bi))) (fun y=>qD y.1/\eX y.2):=by
 refine Ok.loop (fun s:Int×Ae×List Bi=>(0<=s.1/\s.1<=(n:Int))/\EQ n s.1 0 s.2.1 s.2.2) (fun s=>((n:Int) - s.1).toNat) (fun s hs=>?_) ⟨⟨aUn _,by show (0:Int)<=(n:Int); omega⟩,hd,⟨aLi _,fun x hx=>(by cases hx),fun j x y hx=>(by cases hx)⟩,fun x hx=>(by cases hx)⟩
 obtain⟨i,d1,l1⟩:=s
 obtain⟨hk,hq⟩:=hs
 dsimp only at hk hq
 show Ok (Bp.l6 y E i d1 l1) _
 unfold Bp.l6
 rw [aCu hn h2.2]
 refine Ok.cond (fun hb=>?_) fun hb=>?_
 ·have hb:=aDm hb
  refine (aFd hn h2.2 ⟨hk.1,hb⟩ hq).mono fun o ho=>?_
  obtain⟨d',l',rfl,ho⟩:=ho
  exact⟨⟨⟨by show 0<=i + 1; omega,by show i + 1<=(n:Int); omega⟩,ho⟩,by show ((n:Int) - (i + 1)).toNat < ((n:Int) - i).toNat; omega⟩
 ·refine Ok.up (Ok.cond (fun _=>?_) fun hl0=>nG h2 hE hep hq.2.1 (fun e0=>by rw [e0] at hl0; exact absurd rfl (aF4 hl0)) hq.1)
  refine nG h2 hE hep ⟨by decide,fun e he=>?_,fun j x y hx hy=>?_⟩ (by simp) hq.1
  ·rw [aF2.1 he]
   exact⟨⟨by show (0:Int)<=0; omega,by show (0:Int) < (n:Int); omega⟩,⟨by show (0:Int)<=1; omega,by show (1:Int) < (n:Int); omega⟩,by show (0:Int)≠1; omega⟩
  ·have:=I3 hy
   rw [aFu] at this
   omega
theorem yU {d:Ae} (h:eX d):Ok (Bp d) (fun y=>qD y.1/\eX y.2):=by
 unfold Bp
 refine Ok.bind (Pd h 2 (by omega) (by omega)) fun y hy=>?_
 have by1:=hy.1
 obtain⟨n,hn⟩:∃ n:Nat,2 + y.1=(n:Int):=⟨(2 + y.1).toNat,by omega⟩
 have h2:2<=n/\n<=3:=by omega
 have hw:W (2 + y.1)=(n:Int):=by rw [hn,Hh (by omega)]
 refine Ok.bind (aMs ⟨by omega,by rw [hw]; omega,by rw [hw]; show (n:Int)<=3; omega⟩) fun l hl=>?_
 clear hl
 refine Ok.loop (fun s:Int×Ae×List Ad=>(0<=s.1/\s.1<=(n:Int))/\eX s.2.1/\(s.2.2.length:Int)=s.1/\∀ (j:Nat) e,s.2.2[j]?=some e->qU j e) (fun s=>((n:Int) - s.1).toNat) (fun s hs=>?_) ⟨⟨aUn _,by show (0:Int)<=(n:Int); omega⟩,hy.2,rfl,fun j e he=>(by cases he)⟩
 obtain⟨i,d1,E⟩:=s
 obtain⟨hk,hd,hlen,hep⟩:=hs
 dsimp only at hk hd hlen hep
 show Ok (Bp.l1 y i d1 E) _
 unfold Bp.l1
 rw [aCu hn h2.2]
 refine Ok.cond (fun hb=>?_) fun hb=>?_
 ·have hb:=aDm hb
  have hnm:Bn ((([(⟨#[97,112,112]⟩:ByteArray),(⟨#[100,98]⟩:ByteArray),(⟨#[119,101,98]⟩:ByteArray)]:List ByteArray).drop ((0:Int).toNat)).take ((W (2 + y.1):Int).toNat - (0:Int).toNat)) i=some (wK E.length):=by
   rw [hw,aQb,<- hlen,F4]
   show ((nmL.drop 0).take (n - 0))[E.length]?=_
   rw [bDb,Nat.sub_zero,aK0,if_pos (by omega)]
   unfold wK
   rw [aVq,aBb (show E.length < nmL.length by show E.length < 3; omega)]
   rfl
  refine Ok.bindE hnm ?_
  refine Ok.bind (sF hd _ (by decide) (by decide)) fun y2 k2=>?_
  refine Ok.bind (Pd k2.2 3 (by omega) (by omega)) fun y3 k3=>?_
  have b3:=k3.1
  refine Ok.bind (If (by omega) (by show y3.1 < (3:Int); omega)) fun S hS=>?_
  refine Ok.bind (aCa k3.2 2 (by omega) (by omega)) fun y4 k4=>?_
  refine Ok.bind (aCa k4 3 (by omega) (by omega)) fun y5 k5=>?_
  have hm:y2.1=3\/y2.1=4:=by
   have:=k2.1
   simp only [aF6,aGr,aSy] at this
   omega
  simp only [aF6,aGr,aSy] at hS
  have J:∀ x,(y2.1,x)∈cJ->Ok (Bp.j2 i E (wK E.length) y2 y4 y5 x) (gP (fun s:Int×Ae×List Ad=>((0<=s.1/\s.1<=(n:Int))/\eX s.2.1/\(s.2.2.length:Int)=s.1/\∀ (j:Nat) e,s.2.2[j]?=some e->qU j e)/\((n:Int) - s.1).toNat < ((n:Int) - i).toNat) (fun y=>qD y.1/\eX y.2)):=fun x hx=>by
   unfold Bp.j2 V2
   rw [aAy,<- hlen]
   refine Ok.bind (aH0 (i:=E.length) (by omega)) fun lf hlf=>?_
   refine Ok.bind (Nc (by rw [aFu]; omega)) fun l' hl'=>?_
   subst hl'
   rw [Hh (by omega)]
   refine Ok.ret ⟨⟨⟨by show 0<=(E.length:Int) + 1; omega,by show (E.length:Int) + 1<=(n:Int); omega⟩,k5,?_,fun j e he=>?_⟩,by show ((n:Int) - ((E.length:Int) + 1)).toNat < ((n:Int) - (E.length:Int)).toNat; omega⟩
   ·show ((E ++ [_]).length:Int)=(E.length:Int) + 1
    rw [aF3,aFu]; omega
   ·have he:(E ++ [_])[j]?=some e:=he
    rw [bAv] at he
    split at he
    ·exact hep j e he
    ·have hj0:j - E.length=0:=by
      have:=I3 he
      rw [aFu] at this
      omega
     rw [hj0] at he
     injection he with he
     subst he
     rw [show j=E.length by omega]
     exact⟨(y2.1,x),hx,_,_,lf,hlf,rfl⟩
  rcases hm with hm | hm
  ·rw [hm,aBc (by omega),aE8]
   refine J S ?_
   rw [hm]
   unfold cJ
   rcases hS with rfl | rfl | rfl <;> simp
  ·rw [hm,aBd rfl,aHj]
   refine Ok.bind (Nc (by rcases hS with rfl | rfl | rfl <;> decide)) fun l' hl'=>?_
   subst hl'
   refine J _ ?_
   rw [hm]
   unfold cJ
   rcases hS with rfl | rfl | rfl <;> simp
 ·have hb:=aF4 hb
  exact Ok.up (aCo hn h2 (by omega) hep hd)
theorem aFj {d:Ae} (h:eX d):Ok (Bp d) (fun y=>Zz y.1/\eX y.2):=(yU h).mono fun _ h=>⟨h.1.1,h.2⟩
end
end Go.Proofs.YtboglmbblmakjaaGreatDoor
