/- Plain texts, joined. No program is in sight here. -/
import Derived.Test.YtbpchmikjiinpaaGreatM2
set_option autoImplicit false
set_option linter.unusedVariables false
set_option linter.unusedSimpArgs false
namespace Go.Proofs.YtbpchmikjiinpaaGreat
section
open Go
theorem M6 {R:Type} {body:Int->Option (Lp Int R)} {Q:R->Prop} (n:Nat) (V:Nat->Prop)
  (h1:∀ i,i < n->(∀ j,j < i->V j)->Ok (body (i:Int)) (jV (fun s'=>s'=((i + 1:Nat):Int)/\V i) Q))
  (h2:(∀ j,j < n->V j)->Ok (body (n:Int)) (jV (fun _=>False) Q)):Ok (B2 body 0) Q:=by
 refine Ok.loop (fun s=>∃ i:Nat,s=(i:Int)/\i<=n/\∀ j,j < i->V j) (fun s=>n - s.toNat) ?_ ⟨0,rfl,aI3 _,fun j hj=>absurd hj (Nat.not_lt_zero _)⟩
 rintro _ ⟨i,rfl,hi,hV⟩
 by_cases hn:i < n
 ·refine (h1 i hn hV).mono fun o ho=>?_
  cases o with
  | done r=>exact ho
  | next s'=>
   obtain⟨rfl,hv⟩:=ho
   refine⟨⟨i + 1,rfl,hn,fun j hj=>?_⟩,by show n - ((i + 1:Nat):Int).toNat < n - ((i:Nat):Int).toNat; omega⟩
   by_cases e:j=i
   ·rw [e]; exact hv
   ·exact hV j (by omega)
 ·obtain rfl:i=n:=by omega
  refine (h2 hV).mono fun o ho=>?_
  cases o with
  | done r=>exact ho
  | next s'=>exact ho.elim
theorem Gq {R:Type} {i:Nat} {b:Bool} {r:R} {V:Prop} {Q:R->Prop} (hi:i < 4611686018427387904) (h1:b=true->Q r) (h2:b=false->V):Ok (cond b (up (some r)) (some (.next (W ((i:Int) + 1))))) (jV (fun s'=>s'=((i + 1:Nat):Int)/\V) Q):=by
 refine Ok.cond (fun h=>Ok.up (Ok.ret (h1 h))) fun h=>Ok.ret ⟨Fm hi,h2 h⟩
theorem Sp {α T:Type} {l:List α} {i:Nat} (hi:i < l.length) (hl:Lo l) {k:α->Option T} {z:Option T} {Q:T->Prop} (h0:i=0->Ok z Q) (h1:∀ x,0 < i->l[i - 1]?=some x->Ok (k x) Q) :
  Ok (cond (decide (0 < (i:Int))) ((Bu l (W ((i:Int) - 1))).bind k) z) Q:=by
 unfold Lo at hl
 refine Ok.cond (fun h=>?_) fun h=>h0 (by have:=aCn h; omega)
 have h:=aCm h
 obtain⟨x,hx⟩:∃ x,l[i - 1]?=some x:=⟨_,aBx (by omega)⟩
 rw [Dz (by omega),show (i:Int) - 1=((i - 1:Nat):Int) by omega,Dr,hx]
 exact h1 x (by omega) hx
theorem Yi {α T:Type} {l:List α} {i:Nat} {k:α->Option T} {e:Option T} {Q:T->Prop} {x:α} (hx:l[i]?=some x) (h:Ok (k x) Q):Ok (cond (decide ((i:Int) < (l.length:Int))) ((Bu l (i:Int)).bind k) e) Q:=by
 rw [Er hx]; exact h
theorem Q3 {T:Type} {n:Nat} {a e:Option T} {Q:T->Prop} (h:Ok e Q):Ok (cond (decide ((n:Int) < (n:Int))) a e) Q:=by
 rw [De]; exact h
def VA {α:Type} (R:α->α->Prop) (l:List α) (i:Nat):Prop:=∀ x y,0 < i->l[i - 1]?=some x->l[i]?=some y->R x y
theorem VA.zero {α:Type} {R:α->α->Prop} {l:List α} {i:Nat} (h:i=0):VA R l i:=fun x y h0=>by omega
theorem VA.at {α:Type} {R:α->α->Prop} {l:List α} {i:Nat} {x y:α} (hx:l[i - 1]?=some x) (hy:l[i]?=some y) (h:R x y):VA R l i:=fun a b _ ha hb=>by
 rw [hx] at ha; rw [hy] at hb
 cases ha; cases hb; exact h
theorem VA.out {α:Type} {R:α->α->Prop} {l:List α} {i:Nat} (h:l.length<=i):VA R l i:=fun x y _ _ hy=>by have:=Il hy; omega
def Dc (k:Int) (V:Prop) (y:Int):Prop:=(y=0/\V)\/(y=k/\¬ V)
theorem Dc.no {k:Int} {V:Prop} (h:¬ V):Ok (some k) (Dc k V):=Ok.ret (.inr ⟨rfl,h⟩)
theorem Dc.yes {k:Int} {V:Prop} (h:V):Ok (some 0) (Dc k V):=Ok.ret (.inl ⟨rfl,h⟩)
theorem Dc.same {k:Int} {V:Prop} {x y:Option Int} (h:Ok x (Dc k V)) (g:Ok y (Dc k V)):x=y:=by
 obtain⟨a,rfl,h⟩:=h
 obtain⟨b,rfl,g⟩:=g
 rcases h with ⟨rfl,h⟩ | ⟨rfl,h⟩ <;> rcases g with ⟨rfl,g⟩ | ⟨rfl,g⟩
 ·rfl
 ·exact absurd h g
 ·exact absurd g h
 ·rfl
theorem Dc.zero {k:Int} {V:Prop} {x:Option Int} (h:Ok x (Dc k V)) (v:V):x=some 0:=by
 obtain⟨a,rfl,h⟩:=h
 rcases h with ⟨rfl,h⟩ | ⟨rfl,h⟩
 ·rfl
 ·exact absurd v h
def eQ (c:UInt8):Bool:=(decide ((c.toNat:Int) < 97) || decide (122 < (c.toNat:Int))) && ((decide ((c.toNat:Int) < 65) || decide (90 < (c.toNat:Int))) && ((decide ((c.toNat:Int) < 48) || decide (57 < (c.toNat:Int))) && (!decide ((c.toNat:Int)=45) && (!decide ((c.toNat:Int)=95) && !decide ((c.toNat:Int)=46)))))
def bM (s:ByteArray):Bool:=decide (1<=(s.size:Int)) && decide ((s.size:Int)<=32) && !(Hq s).any eQ
theorem mX (c:UInt8):decide (0<=iH ⟨#[45,95,46]⟩ c)=!(!decide ((c.toNat:Int)=45) && (!decide ((c.toNat:Int)=95) && !decide ((c.toNat:Int)=46))):=by
 have h:∀ n:Fin 256,decide (0<=iH ⟨#[45,95,46]⟩ (UInt8.ofNat n.val))=!(!decide (((UInt8.ofNat n.val).toNat:Int)=45) && (!decide (((UInt8.ofNat n.val).toNat:Int)=95) && !decide (((UInt8.ofNat n.val).toNat:Int)=46))):=by decide +kernel
 have:=h ⟨c.toNat,c.toNat_lt⟩
 simpa using this
theorem tD (c:UInt8):Jh c ⟨#[45,95,46]⟩=some (!eQ c):=by
 have e:∀ a:Int,decide (a<=(c.toNat:Int))=!decide ((c.toNat:Int) < a):=fun a=>by
  by_cases h:(c.toNat:Int) < a
  ·rw [aBe h,aBv (by omega)]; rfl
  ·rw [aBv h,aBe (by omega)]; rfl
 have f:∀ a:Int,decide ((c.toNat:Int)<=a)=!decide (a < (c.toNat:Int)):=fun a=>by
  by_cases h:a < (c.toNat:Int)
  ·rw [aBe h,aBv (by omega)]; rfl
  ·rw [aBv h,aBe (by omega)]; rfl
 have i:∀ k:Bool->Option Bool,((D5 ⟨#[45,95,46]⟩ c).bind fun y=>some (decide (0<=y)))=some (!(!decide ((c.toNat:Int)=45) && (!decide ((c.toNat:Int)=95) && !decide ((c.toNat:Int)=46)))):=fun _=>by
  rw [<- mX]; rfl
 have i:=i some
 unfold Jh eQ
 simp only [i,e,f]
 generalize decide ((c.toNat:Int) < 97)=a1
 generalize decide (122 < (c.toNat:Int))=a2
 generalize decide ((c.toNat:Int) < 65)=a3
 generalize decide (90 < (c.toNat:Int))=a4
 generalize decide ((c.toNat:Int) < 48)=a5
 generalize decide (57 < (c.toNat:Int))=a6
 generalize (!decide ((c.toNat:Int)=45) && (!decide ((c.toNat:Int)=95) && !decide ((c.toNat:Int)=46)))=a7
 cases a1 <;> cases a2 <;> cases a3 <;> cases a4 <;> cases a5 <;> cases a6 <;> rfl
theorem X1 (s:ByteArray) (hs:s.size<=9223372036854775807):Ev s=some (bM s):=by
 unfold Ev bM
 refine (Rl (body:=fun q'=>Ev.l1 s q') (Hq s) (fun i=>(i:Int)) eQ false (decide (1<=(s.size:Int)) && decide ((s.size:Int)<=32)) (fun i c hc=>?_) ?_).trans ?_
 ·have h1:=Il hc
  rw [S2] at h1
  show Ev.l1 s (i:Int)=_
  unfold Ev.l1
  rw [Er hc,tD,aAc,Bool.not_not,U7 h1 hs]
  cases eQ c <;> rfl
 ·show Ev.l1 s ((Hq s).length:Int)=_
  unfold Ev.l1
  rw [De]
  by_cases a:(1:Int)<=(s.size:Int) <;> simp [a,up]
 ·cases (Hq s).any eQ <;> simp
theorem eV (s:ByteArray) (hs:s.size<=9223372036854775807):Bn s=some (bM s):=by
 unfold Bn bM
 have hl:Bn.j1 s false=some (!(Hq s).any eQ):=by
  unfold Bn.j1
  rw [aCv]
  refine (Rl (body:=fun q'=>Bn.l2 s q') (Hq s) (fun i=>(i:Int)) eQ false true (fun i c hc=>?_) ?_).trans ?_
  ·have h1:=Il hc
   rw [S2] at h1
   show Bn.l2 s (i:Int)=_
   unfold Bn.l2 Bn.j3 eQ
   rw [aBe (by omega),aDb,qH hc,aAc,U7 h1 hs]
   generalize decide ((c.toNat:Int) < 97)=a1
   generalize decide (122 < (c.toNat:Int))=a2
   generalize decide ((c.toNat:Int) < 65)=a3
   generalize decide (90 < (c.toNat:Int))=a4
   generalize decide ((c.toNat:Int) < 48)=a5
   generalize decide (57 < (c.toNat:Int))=a6
   generalize decide ((c.toNat:Int)=45)=a7
   generalize decide ((c.toNat:Int)=95)=a8
   generalize decide ((c.toNat:Int)=46)=a9
   cases a7 <;> cases a8 <;> cases a9 <;> cases a1 <;> cases a2 <;> cases a3 <;> cases a4 <;> cases a5 <;> cases a6 <;> rfl
  ·show Bn.l2 s ((Hq s).length:Int)=_
   unfold Bn.l2
   rw [S2,De]; rfl
  ·cases (Hq s).any eQ <;> rfl
 by_cases a:(s.size:Int) < 1
 ·rw [aBe a,aBv (show ¬ (1:Int)<=(s.size:Int) by omega)]; rfl
 ·rw [aBv a,aBe (show (1:Int)<=(s.size:Int) by omega),aCv]
  by_cases b:32 < (s.size:Int)
  ·rw [aBe b,aBv (show ¬ (s.size:Int)<=32 by omega)]; rfl
  ·rw [aBv b,aBe (show (s.size:Int)<=32 by omega),hl]; rfl
def SuC (n:Int):Prop:=1<=n/\n<=16
theorem bH:∃ l,E5=some l/\l.length=16:=by
 unfold E5 C0
 simp only [aAc]
 refine Ok.loop (fun s:Int×List A1=>∃ i:Nat,s.1=(i:Int)/\i<=16/\s.2.length=16) (fun s=>16 - s.1.toNat) ?_ ⟨0,rfl,by omega,rfl⟩
 rintro⟨_,l⟩ ⟨i,rfl,hi,hl⟩
 dsimp only at hl
 show Ok (E5.l1 _ _ _ _ _ _ _ _ _ _ _ _ _ _ _ _ _ _ _ _ _ _ (i:Int) l) _
 unfold E5.l1
 refine Ok.cond (fun h=>?_) fun _=>Ok.up (Ok.ret hl)
 have h:(i:Int) < 16:=aCm h
 refine Ok.bind (Wx (by omega) (by omega)) fun e _=>Ok.ret ⟨⟨i + 1,by show W ((i:Int) + 1)=_; rw [Dz (by omega)]; omega,by omega,?_⟩,?_⟩
 ·show (C3 l _ _).length=16
  unfold C3
  rw [aTe]; exact hl
 ·show 16 - (W ((i:Int) + 1)).toNat < 16 - ((i:Nat):Int).toNat
  rw [Dz (by omega)]; omega
theorem aZ:∃ l,Ln=some l/\l.length=16:=⟨_,rfl,rfl⟩
theorem gL (n:Int):Ok (Fx n) (fun y=>Dc 8 (SuC n) y.2):=by
 obtain⟨l,hl,hlen⟩:∃ l,E5=some l/\l.length=16:=bH
 unfold Fx
 rw [hl,aAc]
 refine Ok.cond (fun h=>?_) fun h=>?_
 ·exact Ok.ret (.inr ⟨rfl,fun v=>by have:=aCm h; have:=v.1; omega⟩)
 ·have h:=aCn h
  refine Ok.cond (fun g=>Ok.ret (.inr ⟨rfl,fun v=>by have:=aCm g; have:=v.2; omega⟩)) fun g=>?_
  have g:=aCn g
  rw [Dz (by omega)]
  exact Ok.bind (Wx (by omega) (by omega)) fun e _=>Ok.ret (.inl ⟨rfl,by omega,by omega⟩)
theorem W4 (n:Int):Ok (F8 n) (fun y=>Dc 8 (SuC n) y.2):=by
 obtain⟨l,hl,hlen⟩:∃ l,Ln=some l/\l.length=16:=aZ
 unfold F8
 refine Ok.cond (fun h=>?_) fun h=>?_
 ·exact Ok.ret (.inr ⟨rfl,fun v=>by have:=aCm h; have:=v.1; omega⟩)
 ·have h:=aCn h
  refine Ok.cond (fun g=>Ok.ret (.inr ⟨rfl,fun v=>by have:=aCm g; have:=v.2; omega⟩)) fun g=>?_
  have g:=aCn g
  rw [hl,aAc,Dz (by omega)]
  exact Ok.bind (Wx (by omega) (by omega)) fun e _=>Ok.ret (.inl ⟨rfl,by omega,by omega⟩)
theorem aQ (l:List Int) (n:Int) (h:Lo l):Gi l n=some (decide (n∈l)):=by
 unfold Gi
 refine (M2 l (fun x=>decide (x=n)) true false h (fun i x hx=>?_) ?_).trans ?_
 ·show Gi.l1 l n (i:Int)=_
  unfold Gi.l1
  rw [Er hx]
  cases decide (x=n) <;> rfl
 ·show Gi.l1 l n (l.length:Int)=_
  unfold Gi.l1
  rw [De]; rfl
 ·have:(l.any fun x=>decide (x=n))=decide (n∈l):=by
   rw [Bool.eq_iff_iff]; simp
  rw [this]; cases decide (n∈l) <;> rfl
def pQ (l:List Int) (i:Nat):Prop:=∀ x,l[i]?=some x->SuC x/\x∉l.take i
theorem xY {l:List Int} (h:∀ i,pQ l i):l.Nodup:=by
 rw [List.nodup_iff_pairwise_ne,aSw]
 intro i j hi hj hij e
 refine (h j l[j] (aBx hj)).2 ?_
 rw [<- e]
 exact List.mem_take_iff_getElem.2 ⟨i,by omega,rfl⟩
theorem tZ:∀ (n:Nat) (l:List Int),l.Nodup->(∀ x∈l,1<=x/\x<=(n:Int))->l.length<=n
 | 0,[],_,_=>aHx _
 | 0,x :: l,_,h=>by have:=h x (.head _); omega
 | n + 1,l,hn,h=>by
  have h1:=tZ n (l.erase ((n:Int) + 1)) (hn.erase _) fun x hx=>by
   have:=h x (List.mem_of_mem_erase hx)
   have:x≠(n:Int) + 1:=((hn.mem_erase_iff).1 hx).1
   omega
  have:=List.length_erase (a:=(n:Int) + 1) (l:=l)
  split at this <;> omega
theorem aGz {l:List Int} (h:∀ i,pQ l i):l.length<=16:=tZ 16 l (xY h) fun x hx=>by
 obtain⟨i,hi⟩:=aMo.1 hx
 exact (h i x hi).1
theorem pQ.out {l:List Int} {i:Nat} (h:l.length<=i):pQ l i:=fun x hx=>by have:=Il hx; omega
theorem pA {l:List Int} {i:Nat} (h:i<=l.length):Zo l 0 (i:Int)=some (l.take i):=by
 unfold Zo
 rw [if_pos (by omega)]
 simp
theorem iS (l:List Int) (hl:Lo l):Ok (C4 l) (fun b=>b=true↔∀ i,pQ l i):=by
 have hl':l.length < 4611686018427387904:=hl
 unfold C4
 refine M6 l.length (pQ l) (fun i hi hV=>?_) fun hV=>?_
 ·obtain⟨x,hx⟩:∃ x,l[i]?=some x:=⟨_,aBx hi⟩
  show Ok (C4.l1 l (i:Int)) _
  unfold C4.l1
  refine Yi hx (Ok.bind (gL x) fun y hy=>?_)
  refine Ok.cond (fun h=>?_) fun h=>?_
  ·refine Gq (by omega) (fun _=>⟨fun h=>(by cases h),fun v=>?_⟩) fun h=>by cases h
   rcases hy with ⟨e,hs⟩ | ⟨e,hs⟩
   ·rw [e] at h; cases h
   ·exact absurd (v i x hx).1 hs
  ·have hs:SuC x:=by
    rcases hy with ⟨e,hs⟩ | ⟨e,hs⟩
    ·exact hs
    ·rw [e] at h; cases h
   rw [pA (by omega),aAc,Km _ _ (by rw [aFl]; omega),aAc]
   refine Gq (by omega) (fun h=>⟨fun h=>(by cases h),fun v=>?_⟩) fun h=>fun z hz=>?_
   ·exact absurd (aCm h) (v i x hx).2
   ·rw [hx] at hz; cases hz
    exact⟨hs,aCn h⟩
 ·show Ok (C4.l1 l (l.length:Int)) _
  unfold C4.l1
  exact Q3 (Ok.up (Ok.ret ⟨fun _ i=>if h:i < l.length then hV i h else pQ.out (by omega),fun _=>rfl⟩))
theorem Vt (l:List Int) (hl:Lo l):Ok (Ct l) (fun b=>b=true↔∀ i,VA (fun x y:Int=>x < y) l i):=by
 have hl':l.length < 4611686018427387904:=hl
 unfold Ct
 refine M6 l.length (VA (fun x y=>x < y) l) (fun i hi hV=>?_) fun hV=>?_
 ·obtain⟨x,hx⟩:∃ x,l[i]?=some x:=⟨_,aBx hi⟩
  show Ok (Ct.l1 l (i:Int)) _
  unfold Ct.l1
  rw [aBe (by omega:(i:Int) < (l.length:Int)),aDb]
  refine Sp hi hl (fun h0=>?_) fun p h0 hp=>?_
  ·exact Gq (by omega) (fun h=>by cases h) fun _=>VA.zero h0
  ·rw [Dr,hx,aAc]
   refine Gq (by omega) (fun h=>⟨fun h=>(by cases h),fun v=>?_⟩) fun h=>VA.at hp hx (by have:=aCn h; omega)
   have:=v i p x h0 hp hx
   have:=aCm h
   omega
 ·show Ok (Ct.l1 l (l.length:Int)) _
  unfold Ct.l1
  exact Q3 (Ok.up (Ok.ret ⟨fun _ i=>if h:i < l.length then hV i h else VA.out (by omega),fun _=>rfl⟩))
theorem bZ (s:List Int) (f:Int->Option Bool) (p:Int->Bool) (h:Lo s) (hf:∀ x∈s,f x=some (p x)):D3 s f=some (s.any p):=by
 have hi:Bz s f=some (Sq s p):=by
  unfold Bz
  refine Po s p h (fun i x hx=>?_) ?_
  ·show Bz.l1 s f (i:Int)=_
   unfold Bz.l1
   rw [Er hx,hf x (Dv hx),aAc]
   cases p x <;> rfl
  ·show Bz.l1 s f (s.length:Int)=_
   unfold Bz.l1
   rw [De]; rfl
 unfold D3
 rw [hi,aAc,Qf]
structure Mu (e:Ad):Prop where
 name:e.Name.size<=9223372036854775807
 suites:Lo e.Suites
 ids:Lo e.Identities
 anchors:Lo e.Anchors
 hashes:Lo e.Hashes
 chain:∀ x∈e.Identities,∀ c∈x.Chain,bA c
structure EpV (e:Ad):Prop where
 name:bM e.Name=true
 least:1<=e.Least
 most:e.Least<=e.Most
 most4:e.Most<=4
 suites:∀ i,pQ e.Suites i
 idn:e.Identities.length<=4
 ann:e.Anchors.length<=16
 ana:∀ i,VA (fun x y:Int=>x < y) e.Anchors i
 haa:∀ i,VA (fun x y:Int=>x < y) e.Hashes i
 ids:∀ x∈e.Identities,Wa x.Key x.KeyId x.Chain=true
 anr:∀ n∈e.Anchors,0<=n/\n<=2147483648
 har:∀ n∈e.Hashes,Oi n=1
theorem Ld {α:Type} {l:List α} {P:α->Prop} (h:∀ i,i < l.length->∀ x,l[i]?=some x->P x):∀ x∈l,P x:=fun x hx=>by
 obtain⟨i,hi⟩:=aMo.1 hx
 exact h i (Il hi) x hi
theorem K5 {e:Ad} (h:Mu e):Ok (Bq e) (Dc 19 (EpV e)):=by
 have hi:=h.ids
 unfold Lo at hi
 unfold Bq
 rw [X1 _ h.name,aAc]
 refine Ok.cond (fun c=>Dc.no fun v=>by rw [v.name] at c; cases c) fun c1=>?_
 refine Ok.cond (fun c=>Dc.no fun v=>by have:=aCm c; have:=v.least; omega) fun c2=>?_
 refine Ok.cond (fun c=>Dc.no fun v=>by have:=aCm c; have:=v.most; omega) fun c3=>?_
 refine Ok.cond (fun c=>Dc.no fun v=>by have:=aCm c; have:=v.most4; omega) fun c4=>?_
 refine Ok.bind (iS _ h.suites) fun y2 h2=>?_
 refine Ok.cond (fun c=>Dc.no fun v=>by rw [h2.2 v.suites] at c; cases c) fun c5=>?_
 refine Ok.cond (fun c=>Dc.no fun v=>by have:=aCm c; have:=v.idn; omega) fun c6=>?_
 refine Ok.cond (fun c=>Dc.no fun v=>by have:=aCm c; have:=v.ann; omega) fun c7=>?_
 refine Ok.bind (Vt _ h.anchors) fun y3 h3=>?_
 refine Ok.cond (fun c=>Dc.no fun v=>by rw [h3.2 v.ana] at c; cases c) fun c8=>?_
 refine Ok.bind (Vt _ h.hashes) fun y4 h4=>?_
 refine Ok.cond (fun c=>Dc.no fun v=>by rw [h4.2 v.haa] at c; cases c) fun c9=>?_
 have n2:=h2.1 (by simpa using c5)
 have n3:=h3.1 (by simpa using c8)
 have n4:=h4.1 (by simpa using c9)
 have d2:=aCn c2
 have d3:=aCn c3
 have d4:=aCn c4
 have d6:=aCn c6
 have d7:=aCn c7
 refine M6 e.Identities.length (fun i=>∀ x,e.Identities[i]?=some x->Wa x.Key x.KeyId x.Chain=true) (fun i hi' hV=>?_) fun hV=>?_
 ·obtain⟨x,hx⟩:∃ x,e.Identities[i]?=some x:=⟨_,aBx hi'⟩
  show Ok (Bq.l3 e (i:Int)) _
  unfold Bq.l3
  refine Yi hx ?_
  rw [qW _ _ _ (h.chain x (Dv hx)),aAc]
  refine Gq (by omega) (fun c=>.inr ⟨rfl,fun v=>by rw [v.ids x (Dv hx)] at c; cases c⟩) fun c z hz=>?_
  rw [hx] at hz; cases hz
  simpa using c
 ·show Ok (Bq.l3 e (e.Identities.length:Int)) _
  unfold Bq.l3
  refine Q3 (Ok.up ?_)
  refine Ok.bindE (a:=()) rfl (Ok.bindE (bZ _ _ (fun n=>decide (n < 0) || decide (2147483648 < n)) h.anchors fun n _=>?_) ?_)
  ·show ((Fv n).bind fun y=>some (!y))=_
   rw [aK,aAc,Bool.not_not]
  refine Ok.cond (fun c=>Dc.no fun v=>?_) fun c10=>?_
  ·obtain⟨n,h1,h2⟩:=aK8.1 c
   have:=v.anr n h1
   simp only [aMt,aN6] at h2
   omega
  refine Ok.bindE (a:=()) rfl (Ok.bindE (bZ _ _ (fun n=>!decide (Oi n=1)) h.hashes fun n _=>?_) ?_)
  ·show ((Kv n).bind fun y=>some (!y))=_
   unfold Kv
   rw [Tw]; rfl
  refine Ok.cond (fun c=>Dc.no fun v=>?_) fun c11=>Dc.yes ?_
  ·obtain⟨n,h1,h2⟩:=aK8.1 c
   rw [aBe (v.har n h1)] at h2
   cases h2
  ·refine⟨by simpa using c1,by omega,by omega,by omega,n2,by omega,by omega,n3,n4,Ld hV,fun n hn=>?_,fun n hn=>?_⟩
   ·have:=aS6.1 c10 n hn
    simp only [aMt,aN6] at this
    omega
   ·have:=aS6.1 c11 n hn
    simpa using this
theorem Tv {e:Ad} (h:Mu e):Ok (A7 e) (Dc 19 (EpV e)):=by
 have hs:=h.suites
 have hi:=h.ids
 have ha:=h.anchors
 have hh:=h.hashes
 unfold Lo at hs hi ha hh
 unfold A7
 rw [eV _ h.name,aAc]
 refine Ok.cond (fun c=>Dc.no fun v=>by rw [v.name] at c; cases c) fun c1=>?_
 refine Ok.cond (fun c=>Dc.no fun v=>by have:=aCm c; have:=v.least; omega) fun c2=>?_
 refine Ok.cond (fun c=>Dc.no fun v=>by have:=aCm c; have:=v.most; omega) fun c3=>?_
 refine Ok.cond (fun c=>Dc.no fun v=>by have:=aCm c; have:=v.most4; omega) fun c4=>?_
 refine Ok.cond (fun c=>Dc.no fun v=>by have:=aCm c; have:=aGz v.suites; omega) fun c5=>?_
 refine Ok.cond (fun c=>Dc.no fun v=>by have:=aCm c; have:=v.idn; omega) fun c6=>?_
 refine Ok.cond (fun c=>Dc.no fun v=>by have:=aCm c; have:=v.ann; omega) fun c7=>?_
 have d2:=aCn c2
 have d3:=aCn c3
 have d4:=aCn c4
 have d6:=aCn c6
 have d7:=aCn c7
 refine M6 e.Suites.length (pQ e.Suites) (fun i hi' hV=>?_) fun hV=>?_
 ·obtain⟨x,hx⟩:∃ x,e.Suites[i]?=some x:=⟨_,aBx hi'⟩
  show Ok (A7.l2 e (i:Int)) _
  unfold A7.l2
  refine Yi hx (Ok.bind (W4 x) fun y hy=>?_)
  refine Ok.cond (fun c=>?_) fun c=>?_
  ·refine Gq (by omega) (fun _=>.inr ⟨rfl,fun v=>?_⟩) fun h=>by cases h
   rcases hy with ⟨e,hs⟩ | ⟨e,hs⟩
   ·rw [e] at c; cases c
   ·exact absurd (v.suites i x hx).1 hs
  ·have hs:SuC x:=by
    rcases hy with ⟨e,hs⟩ | ⟨e,hs⟩
    ·exact hs
    ·rw [e] at c; cases c
   rw [pA (by omega),aAc,aQ _ _ (by unfold Lo; rw [aFl]; omega),aAc]
   refine Gq (by omega) (fun c=>.inr ⟨rfl,fun v=>absurd (aCm c) (v.suites i x hx).2⟩) fun c=>fun z hz=>?_
   rw [hx] at hz; cases hz
   exact⟨hs,aCn c⟩
 have n2:∀ i,pQ e.Suites i:=fun i=>if h:i < e.Suites.length then hV i h else pQ.out (by omega)
 show Ok (A7.l2 e (e.Suites.length:Int)) _
 unfold A7.l2
 refine Q3 (Ok.up ?_)
 refine M6 e.Identities.length (fun i=>∀ x,e.Identities[i]?=some x->Wa x.Key x.KeyId x.Chain=true) (fun i hi' hV=>?_) fun hI=>?_
 ·obtain⟨x,hx⟩:∃ x,e.Identities[i]?=some x:=⟨_,aBx hi'⟩
  show Ok (A7.l4 e (i:Int)) _
  unfold A7.l4
  refine Yi hx ?_
  rw [rV _ _ _ (h.chain x (Dv hx)),aAc]
  refine Gq (by omega) (fun c=>.inr ⟨rfl,fun v=>by rw [v.ids x (Dv hx)] at c; cases c⟩) fun c z hz=>?_
  rw [hx] at hz; cases hz
  simpa using c
 show Ok (A7.l4 e (e.Identities.length:Int)) _
 unfold A7.l4
 refine Q3 (Ok.up ?_)
 refine M6 e.Anchors.length (fun i=>VA (fun x y:Int=>x < y) e.Anchors i/\∀ x,e.Anchors[i]?=some x->0<=x/\x<=2147483648) (fun i hi' hV=>?_) fun hA=>?_
 ·obtain⟨x,hx⟩:∃ x,e.Anchors[i]?=some x:=⟨_,aBx hi'⟩
  show Ok (A7.l5 e (i:Int)) _
  unfold A7.l5
  refine Yi hx ?_
  refine Ok.cond (fun c=>Gq (by omega) (fun _=>.inr ⟨rfl,fun v=>by have:=aCm c; have:=v.anr x (Dv hx); omega⟩) fun h=>by cases h) fun e1=>?_
  refine Ok.cond (fun c=>Gq (by omega) (fun _=>.inr ⟨rfl,fun v=>by have:=aCm c; have:=v.anr x (Dv hx); omega⟩) fun h=>by cases h) fun e2=>?_
  have e1:=aCn e1
  have e2:=aCn e2
  have hr:∀ z,e.Anchors[i]?=some z->0<=z/\z<=2147483648:=fun z hz=>by rw [hx] at hz; cases hz; omega
  refine Sp hi' h.anchors (fun h0=>?_) fun p h0 hp=>?_
  ·exact Gq (by omega) (fun h=>by cases h) fun _=>⟨VA.zero h0,hr⟩
  ·refine Gq (by omega) (fun c=>.inr ⟨rfl,fun v=>?_⟩) fun c=>⟨VA.at hp hx (by have:=aCn c; omega),hr⟩
   have:=v.ana i p x h0 hp hx
   have:=aCm c
   omega
 show Ok (A7.l5 e (e.Anchors.length:Int)) _
 unfold A7.l5
 refine Q3 (Ok.up ?_)
 refine M6 e.Hashes.length (fun i=>VA (fun x y:Int=>x < y) e.Hashes i/\∀ x,e.Hashes[i]?=some x->Oi x=1) (fun i hi' hV=>?_) fun hH=>?_
 ·obtain⟨x,hx⟩:∃ x,e.Hashes[i]?=some x:=⟨_,aBx hi'⟩
  show Ok (A7.l7 e (i:Int)) _
  unfold A7.l7
  refine Yi hx ?_
  rw [Wl,aAc]
  refine Ok.cond (fun c=>Gq (by omega) (fun _=>.inr ⟨rfl,fun v=>by rw [aBe (v.har x (Dv hx))] at c; cases c⟩) fun h=>by cases h) fun e1=>?_
  have hr:∀ z,e.Hashes[i]?=some z->Oi z=1:=fun z hz=>by rw [hx] at hz; cases hz; simpa using e1
  refine Sp hi' h.hashes (fun h0=>?_) fun p h0 hp=>?_
  ·exact Gq (by omega) (fun h=>by cases h) fun _=>⟨VA.zero h0,hr⟩
  ·refine Gq (by omega) (fun c=>.inr ⟨rfl,fun v=>?_⟩) fun c=>⟨VA.at hp hx (by have:=aCn c; omega),hr⟩
   have:=v.haa i p x h0 hp hx
   have:=aCm c
   omega
 show Ok (A7.l7 e (e.Hashes.length:Int)) _
 unfold A7.l7
 refine Q3 (Ok.up (Dc.yes ?_))
 exact⟨by simpa using c1,by omega,by omega,by omega,n2,by omega,by omega,fun i=>if h:i < e.Anchors.length then (hA i h).1 else VA.out (by omega),fun i=>if h:i < e.Hashes.length then (hH i h).1 else VA.out (by omega),Ld hI,Ld fun i hi=>(hA i hi).2,Ld fun i hi=>(hH i hi).2⟩
theorem eG {e:Ad} (h:Mu e):A7 e=Bq e:=Dc.same (Tv h) (K5 h)
end
section
open Go
structure pR (x:Bf):Prop where
 name:x.Name.size<=9223372036854775807
 links:Lo x.Links
structure zS (x:Bf):Prop where
 name:Es x.Name=true
 kind:x.Kind=1\/x.Kind=2
 purpose:1<=x.Purpose/\x.Purpose<=4
 len:1<=x.Links.length/\x.Links.length<=8
 asc:∀ i,VA (fun a b:Dh=>a.Day < b.Day) x.Links i
 use:∀ a∈x.Links,0 < N9 a.Use
 day:∀ a∈x.Links,0<=a.Day/\a.Day<=40000
 until_:x.Until<=40000
 first:∀ a,x.Links[0]?=some a->a.Day<=x.Until
def LkV (l:List Dh) (i:Nat):Prop:=VA (fun a b:Dh=>a.Day < b.Day) l i/\∀ a,l[i]?=some a->0 < N9 a.Use/\0<=a.Day/\a.Day<=40000
theorem Q4 {x:Bf} (h:pR x):Ok (Be x) (Dc 30 (zS x)):=by
 have hl:=h.links
 unfold Lo at hl
 have J:∀ b,(b=true->x.Kind=1\/x.Kind=2)->(b=false->¬ (x.Kind=1\/x.Kind=2))->Ok (Be.j1 x b) (Dc 30 (zS x)):=by
  intro b hb1 hb2
  unfold Be.j1
  rw [Kx _ h.name,aAc]
  refine Ok.cond (fun c=>Dc.no fun v=>by rw [v.name] at c; cases c) fun c1=>?_
  refine Ok.cond (fun c=>Dc.no fun v=>hb2 (by simpa using c) v.kind) fun c2=>?_
  refine Ok.cond (fun c=>Dc.no fun v=>by have:=aCm c; have:=v.purpose; omega) fun c3=>?_
  refine Ok.cond (fun c=>Dc.no fun v=>by have:=aCm c; have:=v.purpose; omega) fun c4=>?_
  refine Ok.cond (fun c=>Dc.no fun v=>by have:=aCm c; have:=v.len; omega) fun c5=>?_
  refine Ok.cond (fun c=>Dc.no fun v=>by have:=aCm c; have:=v.len; omega) fun c6=>?_
  have d3:=aCn c3
  have d4:=aCn c4
  have d5:=aCn c5
  have d6:=aCn c6
  refine M6 x.Links.length (LkV x.Links) (fun i hi hV=>?_) fun hV=>?_
  ·obtain⟨a,ha⟩:∃ a,x.Links[i]?=some a:=⟨_,aBx hi⟩
   show Ok (Be.l3 x (i:Int)) _
   unfold Be.l3
   refine Yi ha ?_
   rw [Pb,aAc]
   refine Ok.cond (fun c=>Gq (by omega) (fun _=>.inr ⟨rfl,fun v=>by rw [aBe (v.use a (Dv ha))] at c; cases c⟩) fun h=>by cases h) fun e1=>?_
   refine Ok.cond (fun c=>Gq (by omega) (fun _=>.inr ⟨rfl,fun v=>by have:=aCm c; have:=v.day a (Dv ha); omega⟩) fun h=>by cases h) fun e2=>?_
   refine Ok.cond (fun c=>Gq (by omega) (fun _=>.inr ⟨rfl,fun v=>by have:=aCm c; have:=v.day a (Dv ha); omega⟩) fun h=>by cases h) fun e3=>?_
   have e2:=aCn e2
   have e3:=aCn e3
   have hr:∀ z,x.Links[i]?=some z->0 < N9 z.Use/\0<=z.Day/\z.Day<=40000:=fun z hz=>by rw [ha] at hz; cases hz; exact⟨by simpa using e1,by omega⟩
   refine Sp hi h.links (fun h0=>?_) fun p h0 hp=>?_
   ·exact Gq (by omega) (fun h=>by cases h) fun _=>⟨VA.zero h0,hr⟩
   ·refine Gq (by omega) (fun c=>.inr ⟨rfl,fun v=>?_⟩) fun c=>⟨VA.at hp ha (by have:=aCn c; omega),hr⟩
    have:=v.asc i p a h0 hp ha
    have:=aCm c
    omega
  ·show Ok (Be.l3 x (x.Links.length:Int)) _
   unfold Be.l3
   refine Q3 (Ok.up ?_)
   obtain⟨a,ha⟩:∃ a,x.Links[0]?=some a:=⟨_,aBx (by omega)⟩
   rw [oR,ha,aAc]
   refine Ok.cond (fun c=>Dc.no fun v=>by have:=aCm c; have:=v.first a ha; omega) fun c7=>?_
   refine Ok.cond (fun c=>Dc.no fun v=>by have:=aCm c; have:=v.until_; omega) fun c8=>Dc.yes ?_
   have d7:=aCn c7
   have d8:=aCn c8
   exact⟨by simpa using c1,hb1 (by simpa using c2),by omega,by omega,fun i=>if h:i < x.Links.length then (hV i h).1 else VA.out (by omega),Ld fun i hi a ha=>((hV i hi).2 a ha).1,Ld fun i hi a ha=>((hV i hi).2 a ha).2,by omega,fun b hb=>by rw [ha] at hb; cases hb; omega⟩
 unfold Be
 refine Ok.cond (fun c=>J _ (fun _=>.inl (aCm c)) fun h=>by cases h) fun c=>J _ (fun h=>.inr (aCm h)) fun h=>?_
 have c:=aCn c
 have h:=aCn h
 rintro (k | k)
 ·exact c k
 ·exact h k
theorem aV {x:Bf} (h:pR x):Ok (Bs x) (Dc 30 (zS x)):=by
 have hl:=h.links
 unfold Lo at hl
 have J:Es x.Name=true->(x.Kind=1\/x.Kind=2)->(1<=x.Purpose/\x.Purpose<=4)->(1<=x.Links.length/\x.Links.length<=8)->x.Until<=40000->(∀ a,x.Links[0]?=some a->a.Day<=x.Until)->Ok (Bs.j1 x false) (Dc 30 (zS x)):=by
  intro q1 q2 q3 q4 q5 q6
  unfold Bs.j1
  rw [aCv]
  refine M6 x.Links.length (LkV x.Links) (fun i hi hV=>?_) fun hV=>?_
  ·obtain⟨a,ha⟩:∃ a,x.Links[i]?=some a:=⟨_,aBx hi⟩
   show Ok (Bs.l2 x (i:Int)) _
   unfold Bs.l2
   refine Yi ha ?_
   rw [Sl,aAc]
   refine Ok.cond (fun c=>Gq (by omega) (fun _=>.inr ⟨rfl,fun v=>by rw [aBe (v.use a (Dv ha))] at c; cases c⟩) fun h=>by cases h) fun e1=>?_
   refine Ok.cond (fun c=>Gq (by omega) (fun _=>.inr ⟨rfl,fun v=>by have:=aCm c; have:=v.day a (Dv ha); omega⟩) fun h=>by cases h) fun e2=>?_
   refine Ok.cond (fun c=>Gq (by omega) (fun _=>.inr ⟨rfl,fun v=>by have:=aCm c; have:=v.day a (Dv ha); omega⟩) fun h=>by cases h) fun e3=>?_
   have e2:=aCn e2
   have e3:=aCn e3
   have hr:∀ z,x.Links[i]?=some z->0 < N9 z.Use/\0<=z.Day/\z.Day<=40000:=fun z hz=>by rw [ha] at hz; cases hz; exact⟨by simpa using e1,by omega⟩
   refine Sp hi h.links (fun h0=>?_) fun p h0 hp=>?_
   ·exact Gq (by omega) (fun h=>by cases h) fun _=>⟨VA.zero h0,hr⟩
   ·refine Gq (by omega) (fun c=>.inr ⟨rfl,fun v=>?_⟩) fun c=>⟨VA.at hp ha (by have:=aCn c; omega),hr⟩
    have:=v.asc i p a h0 hp ha
    have:=aCm c
    omega
  ·show Ok (Bs.l2 x (x.Links.length:Int)) _
   unfold Bs.l2
   exact Q3 (Ok.up (Dc.yes ⟨q1,q2,q3,q4,fun i=>if h:i < x.Links.length then (hV i h).1 else VA.out (by omega),Ld fun i hi a ha=>((hV i hi).2 a ha).1,Ld fun i hi a ha=>((hV i hi).2 a ha).2,q5,q6⟩))
 have K:Es x.Name=true->(x.Kind=1\/x.Kind=2)->Ok (cond (decide (x.Purpose < 1)) (Bs.j1 x true) (cond (decide (4 < x.Purpose)) (Bs.j1 x true) (cond (decide ((x.Links.length:Int) < 1)) (Bs.j1 x true) (cond (decide (8 < (x.Links.length:Int))) (Bs.j1 x true) (cond (decide (40000 < x.Until)) (Bs.j1 x true) ((Bu x.Links 0).bind fun e=>Bs.j1 x (decide (x.Until < e.Day)))))))) (Dc 30 (zS x)):=by
  intro q1 q2
  refine Ok.cond (fun c=>Dc.no fun v=>by have:=aCm c; have:=v.purpose; omega) fun c3=>?_
  refine Ok.cond (fun c=>Dc.no fun v=>by have:=aCm c; have:=v.purpose; omega) fun c4=>?_
  refine Ok.cond (fun c=>Dc.no fun v=>by have:=aCm c; have:=v.len; omega) fun c5=>?_
  refine Ok.cond (fun c=>Dc.no fun v=>by have:=aCm c; have:=v.len; omega) fun c6=>?_
  refine Ok.cond (fun c=>Dc.no fun v=>by have:=aCm c; have:=v.until_; omega) fun c7=>?_
  have d3:=aCn c3
  have d4:=aCn c4
  have d5:=aCn c5
  have d6:=aCn c6
  have d7:=aCn c7
  obtain⟨a,ha⟩:∃ a,x.Links[0]?=some a:=⟨_,aBx (by omega)⟩
  rw [oR,ha,aAc]
  by_cases c8:x.Until < a.Day
  ·rw [aBe c8]
   exact Dc.no fun v=>by have:=v.first a ha; omega
  ·rw [aBv c8]
   exact J q1 q2 (by omega) (by omega) (by omega) fun b hb=>by rw [ha] at hb; cases hb; omega
 unfold Bs
 rw [Pt _ h.name,aAc]
 refine Ok.cond (fun c=>Dc.no fun v=>by rw [v.name] at c; cases c) fun c1=>?_
 have q1:Es x.Name=true:=by simpa using c1
 refine Ok.cond (fun c2=>?_) fun c2=>K q1 (.inl (by simpa using c2))
 refine Ok.cond (fun c=>Dc.no fun v=>?_) fun c=>K q1 (.inr (by simpa using c))
 have e1:¬ x.Kind=1:=by simpa using c2
 have e2:¬ x.Kind=2:=by simpa using c
 exact v.kind.elim e1 e2
theorem Xh (s:List Bf) (f:Bf->Option Bool) (p:Bf->Bool) (h:Lo s) (hf:∀ x∈s,f x=some (p x)):E6 s f=some (s.any p):=by
 have hi:Bw s f=some (Sq s p):=by
  unfold Bw
  refine Po s p h (fun i x hx=>?_) ?_
  ·show Bw.l1 s f (i:Int)=_
   unfold Bw.l1
   rw [Er hx,hf x (Dv hx),aAc]
   cases p x <;> rfl
  ·show Bw.l1 s f (s.length:Int)=_
   unfold Bw.l1
   rw [De]; rfl
 unfold E6
 rw [hi,aAc,Qf]
def EdR (a b:A3):Prop:=a.Client < b.Client\/(a.Client=b.Client/\a.Server < b.Server)
def EdS (n:Int) (x:A3):Prop:=(0<=x.Client/\x.Client < n)/\(0<=x.Server/\x.Server < n)/\x.Client≠x.Server
def fC (n:Int) (l:List A3) (i:Nat):Prop:=VA EdR l i/\∀ x,l[i]?=some x->EdS n x
theorem fC.out {n:Int} {l:List A3} {i:Nat} (h:l.length<=i):fC n l i:=⟨VA.out h,fun x hx=>by have:=Il hx; omega⟩
theorem rC (l:List A3) (n:Int) (hl:Lo l):Ok (Bx l n) (fun b=>b=true↔l.length<=40/\∀ i,fC n l i):=by
 have hl':l.length < 4611686018427387904:=hl
 unfold Bx
 refine M6 l.length (fC n l) (fun i hi hV=>?_) fun hV=>?_
 ·obtain⟨x,hx⟩:∃ x,l[i]?=some x:=⟨_,aBx hi⟩
  show Ok (Bx.l1 l n (i:Int)) _
  unfold Bx.l1
  refine Yi hx ?_
  have no:¬ EdS n x->Ok (Bx.j2 l (i:Int) x true) (jV (fun s'=>s'=((i + 1:Nat):Int)/\fC n l i) fun b=>b=true↔l.length<=40/\∀ i,fC n l i):=fun h=>by
   unfold Bx.j2
   rw [aDb]
   exact Ok.up (Ok.ret ⟨fun h=>(by cases h),fun v=>absurd ((v.2 i).2 x hx) h⟩)
  refine Ok.cond (fun c=>no fun v=>by have:=aCm c; have:=v.1; omega) fun c1=>?_
  refine Ok.cond (fun c=>no fun v=>by have:=aCm c; have:=v.1; omega) fun c2=>?_
  refine Ok.cond (fun c=>no fun v=>by have:=aCm c; have:=v.2.1; omega) fun c3=>?_
  refine Ok.cond (fun c=>no fun v=>by have:=aCm c; have:=v.2.1; omega) fun c4=>?_
  have c1:=aCn c1
  have c2:=aCn c2
  have c3:=aCn c3
  have c4:=aCn c4
  by_cases c5:x.Client=x.Server
  ·rw [aBe c5]
   exact no fun v=>v.2.2 c5
  rw [aBv c5]
  have hr:∀ z,l[i]?=some z->EdS n z:=fun z hz=>by rw [hx] at hz; cases hz; exact⟨by omega,by omega,c5⟩
  unfold Bx.j2
  rw [aCv]
  refine Sp hi hl (fun h0=>?_) fun p h0 hp=>?_
  ·exact Gq (by omega) (fun h=>by cases h) fun _=>⟨VA.zero h0,hr⟩
  ·have up:¬ EdR p x->(true=true↔l.length<=40/\∀ i,fC n l i)->True:=fun _ _=>trivial
   refine Ok.cond (fun c=>?_) fun c6=>?_
   ·refine Gq (by omega) (fun _=>⟨fun h=>(by cases h),fun v=>?_⟩) fun h=>by cases h
    have:=aCm c
    rcases (v.2 i).1 p x h0 hp hx with h | h <;> omega
   have c6:=aCn c6
   refine Ok.cond (fun c=>?_) fun c=>?_
   ·have c:=aCm c
    refine Gq (by omega) (fun d=>⟨fun h=>(by cases h),fun v=>?_⟩) fun d=>⟨VA.at hp hx (.inr ⟨c,by have:=aCn d; omega⟩),hr⟩
    have d:=aCm d
    rcases (v.2 i).1 p x h0 hp hx with h | h <;> omega
   ·have c:=aCn c
    exact Gq (by omega) (fun h=>by cases h) fun _=>⟨VA.at hp hx (.inl (by omega)),hr⟩
 ·show Ok (Bx.l1 l n (l.length:Int)) _
  unfold Bx.l1
  refine Q3 (Ok.up (Ok.ret ⟨fun h=>⟨by have:=aCm h; omega,fun i=>if h:i < l.length then hV i h else fC.out (by omega)⟩,fun v=>aBe (by have:=v.1; omega)⟩))
structure Ui (e:Ap):Prop where
 n:Lo e.Endpoints
 edges:Lo e.Edges
 m:Lo e.Items
 ep:∀ x∈e.Endpoints,Mu x
 it:∀ x∈e.Items,pR x
def NmR (a b:Ad):Prop:=Mc (Hq a.Name) (Hq b.Name)=true
structure EsV (e:Ap):Prop where
 ep:∀ x∈e.Endpoints,EpV x
 names:∀ i,VA NmR e.Endpoints i
 n:e.Endpoints.length<=16
 it:∀ x∈e.Items,zS x
 m:e.Items.length<=30
 edges:e.Edges.length<=40
 ed:∀ i,fC (e.Endpoints.length:Int) e.Edges i
theorem Q9 {e:Ap} (h:Ui e):Ok (Ca e) (Dc 31 (EsV e)):=by
 have hn:=h.n
 unfold Lo at hn
 unfold Ca
 refine M6 e.Endpoints.length (fun i=>VA NmR e.Endpoints i/\∀ x,e.Endpoints[i]?=some x->EpV x) (fun i hi hV=>?_) fun hV=>?_
 ·obtain⟨x,hx⟩:∃ x,e.Endpoints[i]?=some x:=⟨_,aBx hi⟩
  show Ok (Ca.l1 e (i:Int)) _
  unfold Ca.l1
  refine Yi hx (Ok.bind (K5 (h.ep x (Dv hx))) fun y hy=>?_)
  refine Ok.cond (fun c=>Gq (by omega) (fun _=>.inr ⟨rfl,fun v=>?_⟩) fun h=>by cases h) fun c1=>?_
  ·rcases hy with ⟨rfl,hy⟩ | ⟨rfl,hy⟩
   ·cases c
   ·exact hy (v.ep x (Dv hx))
  have hx1:EpV x:=by
   rcases hy with ⟨rfl,hy⟩ | ⟨rfl,hy⟩
   ·exact hy
   ·cases c1
  have hr:∀ z,e.Endpoints[i]?=some z->EpV z:=fun z hz=>by rw [hx] at hz; cases hz; exact hx1
  refine Sp hi h.n (fun h0=>?_) fun p h0 hp=>?_
  ·exact Gq (by omega) (fun h=>by cases h) fun _=>⟨VA.zero h0,hr⟩
  ·refine Gq (by omega) (fun c=>.inr ⟨rfl,fun v=>?_⟩) fun c=>⟨VA.at hp hx (by unfold NmR; simpa using c),hr⟩
   have:Mc (Hq p.Name) (Hq x.Name)=true:=v.names i p x h0 hp hx
   rw [this] at c; cases c
 ·show Ok (Ca.l1 e (e.Endpoints.length:Int)) _
  unfold Ca.l1
  refine Q3 (Ok.up ?_)
  have hit:∀ x∈e.Items,F4 x=some (!decide (Be x=some 0)):=fun x hx=>by
   unfold F4
   obtain⟨y,h1,h2⟩:=Q4 (h.it x hx)
   rw [h1,aAc]
   by_cases e:y=0
   ·rw [e,aBe rfl,aBe rfl]
   ·rw [aBv e,aBv fun q=>e (oi_ q)]
  have hv:∀ x∈e.Items,(Be x=some 0↔zS x):=fun x hx=>by
   obtain⟨y,h1,h2⟩:=Q4 (h.it x hx)
   rw [h1]
   rcases h2 with ⟨rfl,h2⟩ | ⟨rfl,h2⟩
   ·exact⟨fun _=>h2,fun _=>rfl⟩
   ·exact⟨fun q=>(by cases q),fun q=>absurd q h2⟩
  rw [Xh e.Items (fun x0=>F4 x0) (fun x=>!decide (Be x=some 0)) h.m hit,aAc]
  refine Ok.cond (fun c=>Dc.no fun v=>?_) fun c1=>?_
  ·obtain⟨x,h1,h2⟩:=aK8.1 c
   rw [aBe ((hv x h1).2 (v.it x h1))] at h2
   cases h2
  refine Ok.cond (fun c=>Dc.no fun v=>by have:=aCm c; have:=v.n; omega) fun c2=>?_
  refine Ok.cond (fun c=>Dc.no fun v=>by have:=aCm c; have:=v.m; omega) fun c3=>?_
  refine Ok.bind (rC _ _ h.edges) fun y hy=>?_
  refine Ok.cond (fun c=>Dc.no fun v=>by rw [hy.2 ⟨v.edges,v.ed⟩] at c; cases c) fun c4=>Dc.yes ?_
  have c2:=aCn c2
  have c3:=aCn c3
  obtain⟨h1,h2⟩:=hy.1 (by simpa using c4)
  exact⟨Ld fun i hi=>(hV i hi).2,fun i=>if h:i < e.Endpoints.length then (hV i h).1 else VA.out (by omega),by omega,fun x hx=>(hv x hx).1 (by have:=aS6.1 c1 x hx; simpa using this),by omega,h1,h2⟩
theorem bR {e:Ap} (h:Ui e):Ok (Bd e) (Dc 31 (EsV e)):=by
 have hn:=h.n
 have hE:=h.edges
 have hm:=h.m
 unfold Lo at hn hE hm
 unfold Bd
 refine Ok.cond (fun c=>Dc.no fun v=>by have:=aCm c; have:=v.n; omega) fun c2=>?_
 refine Ok.cond (fun c=>Dc.no fun v=>by have:=aCm c; have:=v.edges; omega) fun c3=>?_
 refine Ok.cond (fun c=>Dc.no fun v=>by have:=aCm c; have:=v.m; omega) fun c4=>?_
 have c2:=aCn c2
 have c3:=aCn c3
 have c4:=aCn c4
 refine M6 e.Endpoints.length (fun i=>VA NmR e.Endpoints i/\∀ x,e.Endpoints[i]?=some x->EpV x) (fun i hi hV=>?_) fun hV=>?_
 ·obtain⟨x,hx⟩:∃ x,e.Endpoints[i]?=some x:=⟨_,aBx hi⟩
  show Ok (Bd.l2 e (i:Int)) _
  unfold Bd.l2
  refine Yi hx (Ok.bind (Tv (h.ep x (Dv hx))) fun y hy=>?_)
  refine Ok.cond (fun c=>Gq (by omega) (fun _=>.inr ⟨rfl,fun v=>?_⟩) fun h=>by cases h) fun c1=>?_
  ·rcases hy with ⟨rfl,hy⟩ | ⟨rfl,hy⟩
   ·cases c
   ·exact hy (v.ep x (Dv hx))
  have hx1:EpV x:=by
   rcases hy with ⟨rfl,hy⟩ | ⟨rfl,hy⟩
   ·exact hy
   ·cases c1
  have hr:∀ z,e.Endpoints[i]?=some z->EpV z:=fun z hz=>by rw [hx] at hz; cases hz; exact hx1
  refine Sp hi h.n (fun h0=>?_) fun p h0 hp=>?_
  ·exact Gq (by omega) (fun h=>by cases h) fun _=>⟨VA.zero h0,hr⟩
  ·refine Gq (by omega) (fun c=>.inr ⟨rfl,fun v=>?_⟩) fun c=>⟨VA.at hp hx (by unfold NmR; simpa using c),hr⟩
   have:Mc (Hq p.Name) (Hq x.Name)=true:=v.names i p x h0 hp hx
   rw [this] at c; cases c
 show Ok (Bd.l2 e (e.Endpoints.length:Int)) _
 unfold Bd.l2
 refine Q3 (Ok.up ?_)
 refine M6 e.Edges.length (fC (e.Endpoints.length:Int) e.Edges) (fun i hi hV=>?_) fun hD=>?_
 ·obtain⟨x,hx⟩:∃ x,e.Edges[i]?=some x:=⟨_,aBx hi⟩
  show Ok (Bd.l4 e (i:Int)) _
  unfold Bd.l4
  refine Yi hx ?_
  have no:¬ EdS (e.Endpoints.length:Int) x->Ok (Bd.j5 e (i:Int) x true) (jV (fun s'=>s'=((i + 1:Nat):Int)/\fC (e.Endpoints.length:Int) e.Edges i) (Dc 31 (EsV e))):=fun h=>by
   unfold Bd.j5
   rw [aDb]
   exact Ok.up (Dc.no fun v=>h ((v.ed i).2 x hx))
  refine Ok.cond (fun c=>no fun v=>by have:=aCm c; have:=v.1; omega) fun c1=>?_
  refine Ok.cond (fun c=>no fun v=>by have:=aCm c; have:=v.1; omega) fun c2=>?_
  refine Ok.cond (fun c=>no fun v=>by have:=aCm c; have:=v.2.1; omega) fun c3=>?_
  refine Ok.cond (fun c=>no fun v=>by have:=aCm c; have:=v.2.1; omega) fun c4=>?_
  have c1:=aCn c1
  have c2:=aCn c2
  have c3:=aCn c3
  have c4:=aCn c4
  by_cases c5:x.Client=x.Server
  ·rw [aBe c5]
   exact no fun v=>v.2.2 c5
  rw [aBv c5]
  have hr:∀ z,e.Edges[i]?=some z->EdS (e.Endpoints.length:Int) z:=fun z hz=>by rw [hx] at hz; cases hz; exact⟨by omega,by omega,c5⟩
  unfold Bd.j5
  rw [aCv]
  refine Sp hi h.edges (fun h0=>?_) fun p h0 hp=>?_
  ·exact Gq (by omega) (fun h=>by cases h) fun _=>⟨VA.zero h0,hr⟩
  ·refine Ok.cond (fun c=>?_) fun c6=>?_
   ·refine Gq (by omega) (fun _=>.inr ⟨rfl,fun v=>?_⟩) fun h=>by cases h
    have:=aCm c
    rcases (v.ed i).1 p x h0 hp hx with h | h <;> omega
   have c6:=aCn c6
   refine Ok.cond (fun c=>?_) fun c=>?_
   ·have c:=aCm c
    refine Gq (by omega) (fun d=>.inr ⟨rfl,fun v=>?_⟩) fun d=>⟨VA.at hp hx (.inr ⟨c,by have:=aCn d; omega⟩),hr⟩
    have d:=aCm d
    rcases (v.ed i).1 p x h0 hp hx with h | h <;> omega
   ·have c:=aCn c
    exact Gq (by omega) (fun h=>by cases h) fun _=>⟨VA.at hp hx (.inl (by omega)),hr⟩
 show Ok (Bd.l4 e (e.Edges.length:Int)) _
 unfold Bd.l4
 refine Q3 (Ok.up ?_)
 refine M6 e.Items.length (fun i=>∀ x,e.Items[i]?=some x->zS x) (fun i hi hV=>?_) fun hI=>?_
 ·obtain⟨x,hx⟩:∃ x,e.Items[i]?=some x:=⟨_,aBx hi⟩
  show Ok (Bd.l7 e (i:Int)) _
  unfold Bd.l7
  refine Yi hx (Ok.bind (aV (h.it x (Dv hx))) fun y hy=>?_)
  refine Gq (by omega) (fun c=>.inr ⟨rfl,fun v=>?_⟩) fun c z hz=>?_
  ·rcases hy with ⟨rfl,hy⟩ | ⟨rfl,hy⟩
   ·cases c
   ·exact hy (v.it x (Dv hx))
  ·rw [hx] at hz; cases hz
   rcases hy with ⟨rfl,hy⟩ | ⟨rfl,hy⟩
   ·exact hy
   ·cases c
 show Ok (Bd.l7 e (e.Items.length:Int)) _
 unfold Bd.l7
 exact Q3 (Ok.up (Dc.yes ⟨Ld fun i hi=>(hV i hi).2,fun i=>if h:i < e.Endpoints.length then (hV i h).1 else VA.out (by omega),by omega,Ld hI,by omega,by omega,fun i=>if h:i < e.Edges.length then hD i h else fC.out (by omega)⟩))
theorem lT {e:Ap} (h:Ui e):Bd e=Ca e:=Dc.same (bR h) (Q9 h)
end
end Go.Proofs.YtbpchmikjiinpaaGreat
