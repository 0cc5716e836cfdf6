/- Plain texts, joined. No program is in sight here. -/
import Derived.Test.YtkioneinddihlaaGreatM2
set_option autoImplicit false
set_option linter.unusedVariables false
set_option linter.unusedSimpArgs false
namespace Go.Proofs.YtkioneinddihlaaGreat
section
open Go
theorem Hc {R:Type} {body:Int->Option (Lp Int R)} {Q:R->Prop} (n:Nat) (V:Nat->Prop)
  (h1:∀ i,i < n->(∀ j,j < i->V j)->Ok (body (i:Int)) (S6 (fun s'=>s'=((i + 1:Nat):Int)/\V i) Q))
  (h2:(∀ j,j < n->V j)->Ok (body (n:Int)) (S6 (fun _=>False) Q)):Ok (B1 body 0) Q:=by
 refine Ok.loop (fun s=>∃ i:Nat,s=(i:Int)/\i<=n/\∀ j,j < i->V j) (fun s=>n - s.toNat) ?_ ⟨0,rfl,aFf _,fun j hj=>absurd hj (Nat.not_lt_zero _)⟩
 rintro _ ⟨i,rfl,hi,hV⟩
 by_cases hn:i < n
 ·refine (h1 i hn hV).mono fun o ho=>?_
  cases o with
  | done r=>exact ho
  | next s'=>
   obtain⟨rfl,hv⟩:=ho
   refine⟨⟨i + 1,rfl,hn,fun j hj=>?_⟩,by show n - ((i + 1:Nat):Int).toNat < n - ((i:Nat):Int).toNat; omega⟩
   by_cases e:j=i
   ·rw [e]; exact hv
   ·exact hV j (by omega)
 ·obtain rfl:i=n:=by omega
  refine (h2 hV).mono fun o ho=>?_
  cases o with
  | done r=>exact ho
  | next s'=>exact ho.elim
theorem Fp {R:Type} {i:Nat} {b:Bool} {r:R} {V:Prop} {Q:R->Prop} (hi:i < 4611686018427387904) (h1:b=true->Q r) (h2:b=false->V):Ok (cond b (up (some r)) (some (.next (W ((i:Int) + 1))))) (S6 (fun s'=>s'=((i + 1:Nat):Int)/\V) Q):=by
 refine Ok.cond (fun h=>Ok.up (Ok.ret (h1 h))) fun h=>Ok.ret ⟨Ia hi,h2 h⟩
theorem Ql {α T:Type} {l:List α} {i:Nat} (hi:i < l.length) (hl:Lo l) {k:α->Option T} {z:Option T} {Q:T->Prop} (h0:i=0->Ok z Q) (h1:∀ x,0 < i->l[i - 1]?=some x->Ok (k x) Q) :
  Ok (cond (decide (0 < (i:Int))) ((Bo l (W ((i:Int) - 1))).bind k) z) Q:=by
 unfold Lo at hl
 refine Ok.cond (fun h=>?_) fun h=>h0 (by have:=aDs h; omega)
 have h:=aCe h
 obtain⟨x,hx⟩:∃ x,l[i - 1]?=some x:=⟨_,aAy (by omega)⟩
 rw [Db (by omega),show (i:Int) - 1=((i - 1:Nat):Int) by omega,Cr,hx]
 exact h1 x (by omega) hx
theorem Qm {α T:Type} {l:List α} {i:Nat} {k:α->Option T} {e:Option T} {Q:T->Prop} {x:α} (hx:l[i]?=some x) (h:Ok (k x) Q):Ok (cond (decide ((i:Int) < (l.length:Int))) ((Bo l (i:Int)).bind k) e) Q:=by
 rw [H3 hx]; exact h
theorem Lg {T:Type} {n:Nat} {a e:Option T} {Q:T->Prop} (h:Ok e Q):Ok (cond (decide ((n:Int) < (n:Int))) a e) Q:=by
 rw [Fz]; exact h
def VA {α:Type} (R:α->α->Prop) (l:List α) (i:Nat):Prop:=∀ x y,0 < i->l[i - 1]?=some x->l[i]?=some y->R x y
theorem VA.zero {α:Type} {R:α->α->Prop} {l:List α} {i:Nat} (h:i=0):VA R l i:=fun x y h0=>by omega
theorem VA.at {α:Type} {R:α->α->Prop} {l:List α} {i:Nat} {x y:α} (hx:l[i - 1]?=some x) (hy:l[i]?=some y) (h:R x y):VA R l i:=fun a b _ ha hb=>by
 rw [hx] at ha; rw [hy] at hb
 cases ha; cases hb; exact h
theorem VA.out {α:Type} {R:α->α->Prop} {l:List α} {i:Nat} (h:l.length<=i):VA R l i:=fun x y _ _ hy=>by have:=I9 hy; omega
def Dc (k:Int) (V:Prop) (y:Int):Prop:=(y=0/\V)\/(y=k/\¬ V)
theorem Dc.no {k:Int} {V:Prop} (h:¬ V):Ok (some k) (Dc k V):=Ok.ret (.inr ⟨rfl,h⟩)
theorem Dc.yes {k:Int} {V:Prop} (h:V):Ok (some 0) (Dc k V):=Ok.ret (.inl ⟨rfl,h⟩)
theorem Dc.same {k:Int} {V:Prop} {x y:Option Int} (h:Ok x (Dc k V)) (g:Ok y (Dc k V)):x=y:=by
 obtain⟨a,rfl,h⟩:=h
 obtain⟨b,rfl,g⟩:=g
 rcases h with ⟨rfl,h⟩ | ⟨rfl,h⟩ <;> rcases g with ⟨rfl,g⟩ | ⟨rfl,g⟩
 ·rfl
 ·exact absurd h g
 ·exact absurd g h
 ·rfl
theorem Dc.zero {k:Int} {V:Prop} {x:Option Int} (h:Ok x (Dc k V)) (v:V):x=some 0:=by
 obtain⟨a,rfl,h⟩:=h
 rcases h with ⟨rfl,h⟩ | ⟨rfl,h⟩
 ·rfl
 ·exact absurd v h
def bH (c:UInt8):Bool:=(decide ((c.toNat:Int) < 97) || decide (122 < (c.toNat:Int))) && ((decide ((c.toNat:Int) < 65) || decide (90 < (c.toNat:Int))) && ((decide ((c.toNat:Int) < 48) || decide (57 < (c.toNat:Int))) && (!decide ((c.toNat:Int)=45) && (!decide ((c.toNat:Int)=95) && !decide ((c.toNat:Int)=46)))))
def Zl (s:ByteArray):Bool:=decide (1<=(s.size:Int)) && decide ((s.size:Int)<=32) && !(K0 s).any bH
theorem kR (c:UInt8):decide (0<=eO ⟨#[45,95,46]⟩ c)=!(!decide ((c.toNat:Int)=45) && (!decide ((c.toNat:Int)=95) && !decide ((c.toNat:Int)=46))):=by
 have h:∀ n:Fin 256,decide (0<=eO ⟨#[45,95,46]⟩ (UInt8.ofNat n.val))=!(!decide (((UInt8.ofNat n.val).toNat:Int)=45) && (!decide (((UInt8.ofNat n.val).toNat:Int)=95) && !decide (((UInt8.ofNat n.val).toNat:Int)=46))):=by decide +kernel
 have:=h ⟨c.toNat,c.toNat_lt⟩
 simpa using this
theorem pY (c:UInt8):Im c ⟨#[45,95,46]⟩=some (!bH c):=by
 have e:∀ a:Int,decide (a<=(c.toNat:Int))=!decide ((c.toNat:Int) < a):=fun a=>by
  by_cases h:(c.toNat:Int) < a
  ·rw [aAg h,aAk (by omega)]; rfl
  ·rw [aAk h,aAg (by omega)]; rfl
 have f:∀ a:Int,decide ((c.toNat:Int)<=a)=!decide (a < (c.toNat:Int)):=fun a=>by
  by_cases h:a < (c.toNat:Int)
  ·rw [aAg h,aAk (by omega)]; rfl
  ·rw [aAk h,aAg (by omega)]; rfl
 have i:∀ k:Bool->Option Bool,((D5 ⟨#[45,95,46]⟩ c).bind fun y=>some (decide (0<=y)))=some (!(!decide ((c.toNat:Int)=45) && (!decide ((c.toNat:Int)=95) && !decide ((c.toNat:Int)=46)))):=fun _=>by
  rw [<- kR]; rfl
 have i:=i some
 unfold Im bH
 simp only [i,e,f]
 generalize decide ((c.toNat:Int) < 97)=a1
 generalize decide (122 < (c.toNat:Int))=a2
 generalize decide ((c.toNat:Int) < 65)=a3
 generalize decide (90 < (c.toNat:Int))=a4
 generalize decide ((c.toNat:Int) < 48)=a5
 generalize decide (57 < (c.toNat:Int))=a6
 generalize (!decide ((c.toNat:Int)=45) && (!decide ((c.toNat:Int)=95) && !decide ((c.toNat:Int)=46)))=a7
 cases a1 <;> cases a2 <;> cases a3 <;> cases a4 <;> cases a5 <;> cases a6 <;> rfl
theorem Vh (s:ByteArray) (hs:s.size<=9223372036854775807):Eh s=some (Zl s):=by
 unfold Eh Zl
 refine (Pu (body:=fun q'=>Eh.l1 s q') (K0 s) (fun i=>(i:Int)) bH false (decide (1<=(s.size:Int)) && decide ((s.size:Int)<=32)) (fun i c hc=>?_) ?_).trans ?_
 ·have h1:=I9 hc
  rw [Qi] at h1
  show Eh.l1 s (i:Int)=_
  unfold Eh.l1
  rw [H3 hc,pY,aAc,Bool.not_not,Sd h1 hs]
  cases bH c <;> rfl
 ·show Eh.l1 s ((K0 s).length:Int)=_
  unfold Eh.l1
  rw [Fz]
  by_cases a:(1:Int)<=(s.size:Int) <;> simp [a,up]
 ·cases (K0 s).any bH <;> simp
theorem aF (s:ByteArray) (hs:s.size<=9223372036854775807):Bm s=some (Zl s):=by
 unfold Bm Zl
 have hl:Bm.j1 s false=some (!(K0 s).any bH):=by
  unfold Bm.j1
  rw [aD6]
  refine (Pu (body:=fun q'=>Bm.l2 s q') (K0 s) (fun i=>(i:Int)) bH false true (fun i c hc=>?_) ?_).trans ?_
  ·have h1:=I9 hc
   rw [Qi] at h1
   show Bm.l2 s (i:Int)=_
   unfold Bm.l2 Bm.j3 bH
   rw [aAg (by omega),aEw,lU hc,aAc,Sd h1 hs]
   generalize decide ((c.toNat:Int) < 97)=a1
   generalize decide (122 < (c.toNat:Int))=a2
   generalize decide ((c.toNat:Int) < 65)=a3
   generalize decide (90 < (c.toNat:Int))=a4
   generalize decide ((c.toNat:Int) < 48)=a5
   generalize decide (57 < (c.toNat:Int))=a6
   generalize decide ((c.toNat:Int)=45)=a7
   generalize decide ((c.toNat:Int)=95)=a8
   generalize decide ((c.toNat:Int)=46)=a9
   cases a7 <;> cases a8 <;> cases a9 <;> cases a1 <;> cases a2 <;> cases a3 <;> cases a4 <;> cases a5 <;> cases a6 <;> rfl
  ·show Bm.l2 s ((K0 s).length:Int)=_
   unfold Bm.l2
   rw [Qi,Fz]; rfl
  ·cases (K0 s).any bH <;> rfl
 by_cases a:(s.size:Int) < 1
 ·rw [aAg a,aAk (show ¬ (1:Int)<=(s.size:Int) by omega)]; rfl
 ·rw [aAk a,aAg (show (1:Int)<=(s.size:Int) by omega),aD6]
  by_cases b:32 < (s.size:Int)
  ·rw [aAg b,aAk (show ¬ (s.size:Int)<=32 by omega)]; rfl
  ·rw [aAk b,aAg (show (s.size:Int)<=32 by omega),hl]; rfl
def yN (n:Int):Prop:=1<=n/\n<=16
theorem Z2:∃ l,Ev=some l/\l.length=16:=by
 unfold Ev Da
 simp only [aAc]
 refine Ok.loop (fun s:Int×List A7=>∃ i:Nat,s.1=(i:Int)/\i<=16/\s.2.length=16) (fun s=>16 - s.1.toNat) ?_ ⟨0,rfl,by omega,rfl⟩
 rintro⟨_,l⟩ ⟨i,rfl,hi,hl⟩
 dsimp only at hl
 show Ok (Ev.l1 _ _ _ _ _ _ _ _ _ _ _ _ _ _ _ _ _ _ _ _ _ _ (i:Int) l) _
 unfold Ev.l1
 refine Ok.cond (fun h=>?_) fun _=>Ok.up (Ok.ret hl)
 have h:(i:Int) < 16:=aCe h
 refine Ok.bind (Sf (by omega) (by omega)) fun e _=>Ok.ret ⟨⟨i + 1,by show W ((i:Int) + 1)=_; rw [Db (by omega)]; omega,by omega,?_⟩,?_⟩
 ·show (Dj l _ _).length=16
  unfold Dj
  rw [aOc]; exact hl
 ·show 16 - (W ((i:Int) + 1)).toNat < 16 - ((i:Nat):Int).toNat
  rw [Db (by omega)]; omega
theorem Zx:∃ l,Jy=some l/\l.length=16:=⟨_,rfl,rfl⟩
theorem dB (n:Int):Ok (Fk n) (fun y=>Dc 8 (yN n) y.2):=by
 obtain⟨l,hl,hlen⟩:∃ l,Ev=some l/\l.length=16:=Z2
 unfold Fk
 rw [hl,aAc]
 refine Ok.cond (fun h=>?_) fun h=>?_
 ·exact Ok.ret (.inr ⟨rfl,fun v=>by have:=aCe h; have:=v.1; omega⟩)
 ·have h:=aDs h
  refine Ok.cond (fun g=>Ok.ret (.inr ⟨rfl,fun v=>by have:=aCe g; have:=v.2; omega⟩)) fun g=>?_
  have g:=aDs g
  rw [Db (by omega)]
  exact Ok.bind (Sf (by omega) (by omega)) fun e _=>Ok.ret (.inl ⟨rfl,by omega,by omega⟩)
theorem Ve (n:Int):Ok (Fx n) (fun y=>Dc 8 (yN n) y.2):=by
 obtain⟨l,hl,hlen⟩:∃ l,Jy=some l/\l.length=16:=Zx
 unfold Fx
 refine Ok.cond (fun h=>?_) fun h=>?_
 ·exact Ok.ret (.inr ⟨rfl,fun v=>by have:=aCe h; have:=v.1; omega⟩)
 ·have h:=aDs h
  refine Ok.cond (fun g=>Ok.ret (.inr ⟨rfl,fun v=>by have:=aCe g; have:=v.2; omega⟩)) fun g=>?_
  have g:=aDs g
  rw [hl,aAc,Db (by omega)]
  exact Ok.bind (Sf (by omega) (by omega)) fun e _=>Ok.ret (.inl ⟨rfl,by omega,by omega⟩)
theorem Yi (l:List Int) (n:Int) (h:Lo l):F6 l n=some (decide (n∈l)):=by
 unfold F6
 refine (R2 l (fun x=>decide (x=n)) true false h (fun i x hx=>?_) ?_).trans ?_
 ·show F6.l1 l n (i:Int)=_
  unfold F6.l1
  rw [H3 hx]
  cases decide (x=n) <;> rfl
 ·show F6.l1 l n (l.length:Int)=_
  unfold F6.l1
  rw [Fz]; rfl
 ·have:(l.any fun x=>decide (x=n))=decide (n∈l):=by
   rw [aP9]; simp
  rw [this]; cases decide (n∈l) <;> rfl
def nG (l:List Int) (i:Nat):Prop:=∀ x,l[i]?=some x->yN x/\x∉l.take i
theorem sB {l:List Int} (h:∀ i,nG l i):l.Nodup:=by
 rw [List.nodup_iff_pairwise_ne,aOi]
 intro i j hi hj hij e
 refine (h j l[j] (aAy hj)).2 ?_
 rw [<- e]
 exact List.mem_take_iff_getElem.2 ⟨i,by omega,rfl⟩
theorem rA:∀ (n:Nat) (l:List Int),l.Nodup->(∀ x∈l,1<=x/\x<=(n:Int))->l.length<=n
 | 0,[],_,_=>aHy _
 | 0,x :: l,_,h=>by have:=h x (.head _); omega
 | n + 1,l,hn,h=>by
  have h1:=rA n (l.erase ((n:Int) + 1)) (hn.erase _) fun x hx=>by
   have:=h x (List.mem_of_mem_erase hx)
   have:x≠(n:Int) + 1:=((hn.mem_erase_iff).1 hx).1
   omega
  have:=List.length_erase (a:=(n:Int) + 1) (l:=l)
  split at this <;> omega
theorem aCx {l:List Int} (h:∀ i,nG l i):l.length<=16:=rA 16 l (sB h) fun x hx=>by
 obtain⟨i,hi⟩:=aOn.1 hx
 exact (h i x hi).1
theorem nG.out {l:List Int} {i:Nat} (h:l.length<=i):nG l i:=fun x hx=>by have:=I9 hx; omega
theorem nH {l:List Int} {i:Nat} (h:i<=l.length):Xx l 0 (i:Int)=some (l.take i):=by
 unfold Xx
 rw [if_pos (by omega)]
 simp
theorem eN (l:List Int) (hl:Lo l):Ok (Dg l) (fun b=>b=true↔∀ i,nG l i):=by
 have hl':l.length < 4611686018427387904:=hl
 unfold Dg
 refine Hc l.length (nG l) (fun i hi hV=>?_) fun hV=>?_
 ·obtain⟨x,hx⟩:∃ x,l[i]?=some x:=⟨_,aAy hi⟩
  show Ok (Dg.l1 l (i:Int)) _
  unfold Dg.l1
  refine Qm hx (Ok.bind (dB x) fun y hy=>?_)
  refine Ok.cond (fun h=>?_) fun h=>?_
  ·refine Fp (by omega) (fun _=>⟨fun h=>(by cases h),fun v=>?_⟩) fun h=>by cases h
   rcases hy with ⟨e,hs⟩ | ⟨e,hs⟩
   ·rw [e] at h; cases h
   ·exact absurd (v i x hx).1 hs
  ·have hs:yN x:=by
    rcases hy with ⟨e,hs⟩ | ⟨e,hs⟩
    ·exact hs
    ·rw [e] at h; cases h
   rw [nH (by omega),aAc,Qc _ _ (by rw [aGn]; omega),aAc]
   refine Fp (by omega) (fun h=>⟨fun h=>(by cases h),fun v=>?_⟩) fun h=>fun z hz=>?_
   ·exact absurd (aCe h) (v i x hx).2
   ·rw [hx] at hz; cases hz
    exact⟨hs,aDs h⟩
 ·show Ok (Dg.l1 l (l.length:Int)) _
  unfold Dg.l1
  exact Lg (Ok.up (Ok.ret ⟨fun _ i=>if h:i < l.length then hV i h else nG.out (by omega),fun _=>rfl⟩))
theorem S5 (l:List Int) (hl:Lo l):Ok (C0 l) (fun b=>b=true↔∀ i,VA (fun x y:Int=>x < y) l i):=by
 have hl':l.length < 4611686018427387904:=hl
 unfold C0
 refine Hc l.length (VA (fun x y=>x < y) l) (fun i hi hV=>?_) fun hV=>?_
 ·obtain⟨x,hx⟩:∃ x,l[i]?=some x:=⟨_,aAy hi⟩
  show Ok (C0.l1 l (i:Int)) _
  unfold C0.l1
  rw [aAg (by omega:(i:Int) < (l.length:Int)),aEw]
  refine Ql hi hl (fun h0=>?_) fun p h0 hp=>?_
  ·exact Fp (by omega) (fun h=>by cases h) fun _=>VA.zero h0
  ·rw [Cr,hx,aAc]
   refine Fp (by omega) (fun h=>⟨fun h=>(by cases h),fun v=>?_⟩) fun h=>VA.at hp hx (by have:=aDs h; omega)
   have:=v i p x h0 hp hx
   have:=aCe h
   omega
 ·show Ok (C0.l1 l (l.length:Int)) _
  unfold C0.l1
  exact Lg (Ok.up (Ok.ret ⟨fun _ i=>if h:i < l.length then hV i h else VA.out (by omega),fun _=>rfl⟩))
theorem Yy (s:List Int) (f:Int->Option Bool) (p:Int->Bool) (h:Lo s) (hf:∀ x∈s,f x=some (p x)):D2 s f=some (s.any p):=by
 have hi:B2 s f=some (Rm s p):=by
  unfold B2
  refine No s p h (fun i x hx=>?_) ?_
  ·show B2.l1 s f (i:Int)=_
   unfold B2.l1
   rw [H3 hx,hf x (Eg hx),aAc]
   cases p x <;> rfl
  ·show B2.l1 s f (s.length:Int)=_
   unfold B2.l1
   rw [Fz]; rfl
 unfold D2
 rw [hi,aAc,Np]
structure iL (e:Al):Prop where
 name:e.Name.size<=9223372036854775807
 suites:Lo e.Suites
 ids:Lo e.Identities
 anchors:Lo e.Anchors
 hashes:Lo e.Hashes
 chain:∀ x∈e.Identities,∀ c∈x.Chain,iR c
structure xT (e:Al):Prop where
 name:Zl e.Name=true
 least:1<=e.Least
 most:e.Least<=e.Most
 most4:e.Most<=4
 suites:∀ i,nG e.Suites i
 idn:e.Identities.length<=4
 ann:e.Anchors.length<=16
 ana:∀ i,VA (fun x y:Int=>x < y) e.Anchors i
 haa:∀ i,VA (fun x y:Int=>x < y) e.Hashes i
 ids:∀ x∈e.Identities,Tg x.Key x.KeyId x.Chain=true
 anr:∀ n∈e.Anchors,0<=n/\n<=2147483648
 har:∀ n∈e.Hashes,Qp n=1
theorem I2 {α:Type} {l:List α} {P:α->Prop} (h:∀ i,i < l.length->∀ x,l[i]?=some x->P x):∀ x∈l,P x:=fun x hx=>by
 obtain⟨i,hi⟩:=aOn.1 hx
 exact h i (I9 hi) x hi
theorem Up {e:Al} (h:iL e):Ok (Bz e) (Dc 19 (xT e)):=by
 have hi:=h.ids
 unfold Lo at hi
 unfold Bz
 rw [Vh _ h.name,aAc]
 refine Ok.cond (fun c=>Dc.no fun v=>by rw [v.name] at c; cases c) fun c1=>?_
 refine Ok.cond (fun c=>Dc.no fun v=>by have:=aCe c; have:=v.least; omega) fun c2=>?_
 refine Ok.cond (fun c=>Dc.no fun v=>by have:=aCe c; have:=v.most; omega) fun c3=>?_
 refine Ok.cond (fun c=>Dc.no fun v=>by have:=aCe c; have:=v.most4; omega) fun c4=>?_
 refine Ok.bind (eN _ h.suites) fun y2 h2=>?_
 refine Ok.cond (fun c=>Dc.no fun v=>by rw [h2.2 v.suites] at c; cases c) fun c5=>?_
 refine Ok.cond (fun c=>Dc.no fun v=>by have:=aCe c; have:=v.idn; omega) fun c6=>?_
 refine Ok.cond (fun c=>Dc.no fun v=>by have:=aCe c; have:=v.ann; omega) fun c7=>?_
 refine Ok.bind (S5 _ h.anchors) fun y3 h3=>?_
 refine Ok.cond (fun c=>Dc.no fun v=>by rw [h3.2 v.ana] at c; cases c) fun c8=>?_
 refine Ok.bind (S5 _ h.hashes) fun y4 h4=>?_
 refine Ok.cond (fun c=>Dc.no fun v=>by rw [h4.2 v.haa] at c; cases c) fun c9=>?_
 have n2:=h2.1 (by simpa using c5)
 have n3:=h3.1 (by simpa using c8)
 have n4:=h4.1 (by simpa using c9)
 have d2:=aDs c2
 have d3:=aDs c3
 have d4:=aDs c4
 have d6:=aDs c6
 have d7:=aDs c7
 refine Hc e.Identities.length (fun i=>∀ x,e.Identities[i]?=some x->Tg x.Key x.KeyId x.Chain=true) (fun i hi' hV=>?_) fun hV=>?_
 ·obtain⟨x,hx⟩:∃ x,e.Identities[i]?=some x:=⟨_,aAy hi'⟩
  show Ok (Bz.l3 e (i:Int)) _
  unfold Bz.l3
  refine Qm hx ?_
  rw [pI _ _ _ (h.chain x (Eg hx)),aAc]
  refine Fp (by omega) (fun c=>.inr ⟨rfl,fun v=>by rw [v.ids x (Eg hx)] at c; cases c⟩) fun c z hz=>?_
  rw [hx] at hz; cases hz
  simpa using c
 ·show Ok (Bz.l3 e (e.Identities.length:Int)) _
  unfold Bz.l3
  refine Lg (Ok.up ?_)
  refine Ok.bindE (a:=()) rfl (Ok.bindE (Yy _ _ (fun n=>decide (n < 0) || decide (2147483648 < n)) h.anchors fun n _=>?_) ?_)
  ·show ((Fc n).bind fun y=>some (!y))=_
   rw [Xy,aAc,Bool.not_not]
  refine Ok.cond (fun c=>Dc.no fun v=>?_) fun c10=>?_
  ·obtain⟨n,h1,h2⟩:=aIi.1 c
   have:=v.anr n h1
   simp only [aKa,aKi] at h2
   omega
  refine Ok.bindE (a:=()) rfl (Ok.bindE (Yy _ _ (fun n=>!decide (Qp n=1)) h.hashes fun n _=>?_) ?_)
  ·show ((Jm n).bind fun y=>some (!y))=_
   unfold Jm
   rw [Yv]; rfl
  refine Ok.cond (fun c=>Dc.no fun v=>?_) fun c11=>Dc.yes ?_
  ·obtain⟨n,h1,h2⟩:=aIi.1 c
   rw [aAg (v.har n h1)] at h2
   cases h2
  ·refine⟨by simpa using c1,by omega,by omega,by omega,n2,by omega,by omega,n3,n4,I2 hV,fun n hn=>?_,fun n hn=>?_⟩
   ·have:=aPw.1 c10 n hn
    simp only [aKa,aKi] at this
    omega
   ·have:=aPw.1 c11 n hn
    simpa using this
theorem Yz {e:Al} (h:iL e):Ok (Bb e) (Dc 19 (xT e)):=by
 have hs:=h.suites
 have hi:=h.ids
 have ha:=h.anchors
 have hh:=h.hashes
 unfold Lo at hs hi ha hh
 unfold Bb
 rw [aF _ h.name,aAc]
 refine Ok.cond (fun c=>Dc.no fun v=>by rw [v.name] at c; cases c) fun c1=>?_
 refine Ok.cond (fun c=>Dc.no fun v=>by have:=aCe c; have:=v.least; omega) fun c2=>?_
 refine Ok.cond (fun c=>Dc.no fun v=>by have:=aCe c; have:=v.most; omega) fun c3=>?_
 refine Ok.cond (fun c=>Dc.no fun v=>by have:=aCe c; have:=v.most4; omega) fun c4=>?_
 refine Ok.cond (fun c=>Dc.no fun v=>by have:=aCe c; have:=aCx v.suites; omega) fun c5=>?_
 refine Ok.cond (fun c=>Dc.no fun v=>by have:=aCe c; have:=v.idn; omega) fun c6=>?_
 refine Ok.cond (fun c=>Dc.no fun v=>by have:=aCe c; have:=v.ann; omega) fun c7=>?_
 have d2:=aDs c2
 have d3:=aDs c3
 have d4:=aDs c4
 have d6:=aDs c6
 have d7:=aDs c7
 refine Hc e.Suites.length (nG e.Suites) (fun i hi' hV=>?_) fun hV=>?_
 ·obtain⟨x,hx⟩:∃ x,e.Suites[i]?=some x:=⟨_,aAy hi'⟩
  show Ok (Bb.l2 e (i:Int)) _
  unfold Bb.l2
  refine Qm hx (Ok.bind (Ve x) fun y hy=>?_)
  refine Ok.cond (fun c=>?_) fun c=>?_
  ·refine Fp (by omega) (fun _=>.inr ⟨rfl,fun v=>?_⟩) fun h=>by cases h
   rcases hy with ⟨e,hs⟩ | ⟨e,hs⟩
   ·rw [e] at c; cases c
   ·exact absurd (v.suites i x hx).1 hs
  ·have hs:yN x:=by
    rcases hy with ⟨e,hs⟩ | ⟨e,hs⟩
    ·exact hs
    ·rw [e] at c; cases c
   rw [nH (by omega),aAc,Yi _ _ (by unfold Lo; rw [aGn]; omega),aAc]
   refine Fp (by omega) (fun c=>.inr ⟨rfl,fun v=>absurd (aCe c) (v.suites i x hx).2⟩) fun c=>fun z hz=>?_
   rw [hx] at hz; cases hz
   exact⟨hs,aDs c⟩
 have n2:∀ i,nG e.Suites i:=fun i=>if h:i < e.Suites.length then hV i h else nG.out (by omega)
 show Ok (Bb.l2 e (e.Suites.length:Int)) _
 unfold Bb.l2
 refine Lg (Ok.up ?_)
 refine Hc e.Identities.length (fun i=>∀ x,e.Identities[i]?=some x->Tg x.Key x.KeyId x.Chain=true) (fun i hi' hV=>?_) fun hI=>?_
 ·obtain⟨x,hx⟩:∃ x,e.Identities[i]?=some x:=⟨_,aAy hi'⟩
  show Ok (Bb.l4 e (i:Int)) _
  unfold Bb.l4
  refine Qm hx ?_
  rw [pA _ _ _ (h.chain x (Eg hx)),aAc]
  refine Fp (by omega) (fun c=>.inr ⟨rfl,fun v=>by rw [v.ids x (Eg hx)] at c; cases c⟩) fun c z hz=>?_
  rw [hx] at hz; cases hz
  simpa using c
 show Ok (Bb.l4 e (e.Identities.length:Int)) _
 unfold Bb.l4
 refine Lg (Ok.up ?_)
 refine Hc e.Anchors.length (fun i=>VA (fun x y:Int=>x < y) e.Anchors i/\∀ x,e.Anchors[i]?=some x->0<=x/\x<=2147483648) (fun i hi' hV=>?_) fun hA=>?_
 ·obtain⟨x,hx⟩:∃ x,e.Anchors[i]?=some x:=⟨_,aAy hi'⟩
  show Ok (Bb.l5 e (i:Int)) _
  unfold Bb.l5
  refine Qm hx ?_
  refine Ok.cond (fun c=>Fp (by omega) (fun _=>.inr ⟨rfl,fun v=>by have:=aCe c; have:=v.anr x (Eg hx); omega⟩) fun h=>by cases h) fun e1=>?_
  refine Ok.cond (fun c=>Fp (by omega) (fun _=>.inr ⟨rfl,fun v=>by have:=aCe c; have:=v.anr x (Eg hx); omega⟩) fun h=>by cases h) fun e2=>?_
  have e1:=aDs e1
  have e2:=aDs e2
  have hr:∀ z,e.Anchors[i]?=some z->0<=z/\z<=2147483648:=fun z hz=>by rw [hx] at hz; cases hz; omega
  refine Ql hi' h.anchors (fun h0=>?_) fun p h0 hp=>?_
  ·exact Fp (by omega) (fun h=>by cases h) fun _=>⟨VA.zero h0,hr⟩
  ·refine Fp (by omega) (fun c=>.inr ⟨rfl,fun v=>?_⟩) fun c=>⟨VA.at hp hx (by have:=aDs c; omega),hr⟩
   have:=v.ana i p x h0 hp hx
   have:=aCe c
   omega
 show Ok (Bb.l5 e (e.Anchors.length:Int)) _
 unfold Bb.l5
 refine Lg (Ok.up ?_)
 refine Hc e.Hashes.length (fun i=>VA (fun x y:Int=>x < y) e.Hashes i/\∀ x,e.Hashes[i]?=some x->Qp x=1) (fun i hi' hV=>?_) fun hH=>?_
 ·obtain⟨x,hx⟩:∃ x,e.Hashes[i]?=some x:=⟨_,aAy hi'⟩
  show Ok (Bb.l7 e (i:Int)) _
  unfold Bb.l7
  refine Qm hx ?_
  rw [Z3,aAc]
  refine Ok.cond (fun c=>Fp (by omega) (fun _=>.inr ⟨rfl,fun v=>by rw [aAg (v.har x (Eg hx))] at c; cases c⟩) fun h=>by cases h) fun e1=>?_
  have hr:∀ z,e.Hashes[i]?=some z->Qp z=1:=fun z hz=>by rw [hx] at hz; cases hz; simpa using e1
  refine Ql hi' h.hashes (fun h0=>?_) fun p h0 hp=>?_
  ·exact Fp (by omega) (fun h=>by cases h) fun _=>⟨VA.zero h0,hr⟩
  ·refine Fp (by omega) (fun c=>.inr ⟨rfl,fun v=>?_⟩) fun c=>⟨VA.at hp hx (by have:=aDs c; omega),hr⟩
   have:=v.haa i p x h0 hp hx
   have:=aCe c
   omega
 show Ok (Bb.l7 e (e.Hashes.length:Int)) _
 unfold Bb.l7
 refine Lg (Ok.up (Dc.yes ?_))
 exact⟨by simpa using c1,by omega,by omega,by omega,n2,by omega,by omega,fun i=>if h:i < e.Anchors.length then (hA i h).1 else VA.out (by omega),fun i=>if h:i < e.Hashes.length then (hH i h).1 else VA.out (by omega),I2 hI,I2 fun i hi=>(hA i hi).2,I2 fun i hi=>(hH i hi).2⟩
end
section
open Go
structure lT (x:Bp):Prop where
 name:x.Name.size<=9223372036854775807
 links:Lo x.Links
structure wW (x:Bp):Prop where
 name:Fm x.Name=true
 kind:x.Kind=1\/x.Kind=2
 purpose:1<=x.Purpose/\x.Purpose<=4
 len:1<=x.Links.length/\x.Links.length<=8
 asc:∀ i,VA (fun a b:Dy=>a.Day < b.Day) x.Links i
 use:∀ a∈x.Links,0 < Q1 a.Use
 day:∀ a∈x.Links,0<=a.Day/\a.Day<=40000
 until_:x.Until<=40000
 first:∀ a,x.Links[0]?=some a->a.Day<=x.Until
def LkV (l:List Dy) (i:Nat):Prop:=VA (fun a b:Dy=>a.Day < b.Day) l i/\∀ a,l[i]?=some a->0 < Q1 a.Use/\0<=a.Day/\a.Day<=40000
theorem Oq {x:Bp} (h:lT x):Ok (Bh x) (Dc 30 (wW x)):=by
 have hl:=h.links
 unfold Lo at hl
 have J:∀ b,(b=true->x.Kind=1\/x.Kind=2)->(b=false->¬ (x.Kind=1\/x.Kind=2))->Ok (Bh.j1 x b) (Dc 30 (wW x)):=by
  intro b hb1 hb2
  unfold Bh.j1
  rw [Sb _ h.name,aAc]
  refine Ok.cond (fun c=>Dc.no fun v=>by rw [v.name] at c; cases c) fun c1=>?_
  refine Ok.cond (fun c=>Dc.no fun v=>hb2 (by simpa using c) v.kind) fun c2=>?_
  refine Ok.cond (fun c=>Dc.no fun v=>by have:=aCe c; have:=v.purpose; omega) fun c3=>?_
  refine Ok.cond (fun c=>Dc.no fun v=>by have:=aCe c; have:=v.purpose; omega) fun c4=>?_
  refine Ok.cond (fun c=>Dc.no fun v=>by have:=aCe c; have:=v.len; omega) fun c5=>?_
  refine Ok.cond (fun c=>Dc.no fun v=>by have:=aCe c; have:=v.len; omega) fun c6=>?_
  have d3:=aDs c3
  have d4:=aDs c4
  have d5:=aDs c5
  have d6:=aDs c6
  refine Hc x.Links.length (LkV x.Links) (fun i hi hV=>?_) fun hV=>?_
  ·obtain⟨a,ha⟩:∃ a,x.Links[i]?=some a:=⟨_,aAy hi⟩
   show Ok (Bh.l3 x (i:Int)) _
   unfold Bh.l3
   refine Qm ha ?_
   rw [V8,aAc]
   refine Ok.cond (fun c=>Fp (by omega) (fun _=>.inr ⟨rfl,fun v=>by rw [aAg (v.use a (Eg ha))] at c; cases c⟩) fun h=>by cases h) fun e1=>?_
   refine Ok.cond (fun c=>Fp (by omega) (fun _=>.inr ⟨rfl,fun v=>by have:=aCe c; have:=v.day a (Eg ha); omega⟩) fun h=>by cases h) fun e2=>?_
   refine Ok.cond (fun c=>Fp (by omega) (fun _=>.inr ⟨rfl,fun v=>by have:=aCe c; have:=v.day a (Eg ha); omega⟩) fun h=>by cases h) fun e3=>?_
   have e2:=aDs e2
   have e3:=aDs e3
   have hr:∀ z,x.Links[i]?=some z->0 < Q1 z.Use/\0<=z.Day/\z.Day<=40000:=fun z hz=>by rw [ha] at hz; cases hz; exact⟨by simpa using e1,by omega⟩
   refine Ql hi h.links (fun h0=>?_) fun p h0 hp=>?_
   ·exact Fp (by omega) (fun h=>by cases h) fun _=>⟨VA.zero h0,hr⟩
   ·refine Fp (by omega) (fun c=>.inr ⟨rfl,fun v=>?_⟩) fun c=>⟨VA.at hp ha (by have:=aDs c; omega),hr⟩
    have:=v.asc i p a h0 hp ha
    have:=aCe c
    omega
  ·show Ok (Bh.l3 x (x.Links.length:Int)) _
   unfold Bh.l3
   refine Lg (Ok.up ?_)
   obtain⟨a,ha⟩:∃ a,x.Links[0]?=some a:=⟨_,aAy (by omega)⟩
   rw [kG,ha,aAc]
   refine Ok.cond (fun c=>Dc.no fun v=>by have:=aCe c; have:=v.first a ha; omega) fun c7=>?_
   refine Ok.cond (fun c=>Dc.no fun v=>by have:=aCe c; have:=v.until_; omega) fun c8=>Dc.yes ?_
   have d7:=aDs c7
   have d8:=aDs c8
   exact⟨by simpa using c1,hb1 (by simpa using c2),by omega,by omega,fun i=>if h:i < x.Links.length then (hV i h).1 else VA.out (by omega),I2 fun i hi a ha=>((hV i hi).2 a ha).1,I2 fun i hi a ha=>((hV i hi).2 a ha).2,by omega,fun b hb=>by rw [ha] at hb; cases hb; omega⟩
 unfold Bh
 refine Ok.cond (fun c=>J _ (fun _=>.inl (aCe c)) fun h=>by cases h) fun c=>J _ (fun h=>.inr (aCe h)) fun h=>?_
 have c:=aDs c
 have h:=aDs h
 rintro (k | k)
 ·exact c k
 ·exact h k
theorem Z0 {x:Bp} (h:lT x):Ok (Br x) (Dc 30 (wW x)):=by
 have hl:=h.links
 unfold Lo at hl
 have J:Fm x.Name=true->(x.Kind=1\/x.Kind=2)->(1<=x.Purpose/\x.Purpose<=4)->(1<=x.Links.length/\x.Links.length<=8)->x.Until<=40000->(∀ a,x.Links[0]?=some a->a.Day<=x.Until)->Ok (Br.j1 x false) (Dc 30 (wW x)):=by
  intro q1 q2 q3 q4 q5 q6
  unfold Br.j1
  rw [aD6]
  refine Hc x.Links.length (LkV x.Links) (fun i hi hV=>?_) fun hV=>?_
  ·obtain⟨a,ha⟩:∃ a,x.Links[i]?=some a:=⟨_,aAy hi⟩
   show Ok (Br.l2 x (i:Int)) _
   unfold Br.l2
   refine Qm ha ?_
   rw [Wn,aAc]
   refine Ok.cond (fun c=>Fp (by omega) (fun _=>.inr ⟨rfl,fun v=>by rw [aAg (v.use a (Eg ha))] at c; cases c⟩) fun h=>by cases h) fun e1=>?_
   refine Ok.cond (fun c=>Fp (by omega) (fun _=>.inr ⟨rfl,fun v=>by have:=aCe c; have:=v.day a (Eg ha); omega⟩) fun h=>by cases h) fun e2=>?_
   refine Ok.cond (fun c=>Fp (by omega) (fun _=>.inr ⟨rfl,fun v=>by have:=aCe c; have:=v.day a (Eg ha); omega⟩) fun h=>by cases h) fun e3=>?_
   have e2:=aDs e2
   have e3:=aDs e3
   have hr:∀ z,x.Links[i]?=some z->0 < Q1 z.Use/\0<=z.Day/\z.Day<=40000:=fun z hz=>by rw [ha] at hz; cases hz; exact⟨by simpa using e1,by omega⟩
   refine Ql hi h.links (fun h0=>?_) fun p h0 hp=>?_
   ·exact Fp (by omega) (fun h=>by cases h) fun _=>⟨VA.zero h0,hr⟩
   ·refine Fp (by omega) (fun c=>.inr ⟨rfl,fun v=>?_⟩) fun c=>⟨VA.at hp ha (by have:=aDs c; omega),hr⟩
    have:=v.asc i p a h0 hp ha
    have:=aCe c
    omega
  ·show Ok (Br.l2 x (x.Links.length:Int)) _
   unfold Br.l2
   exact Lg (Ok.up (Dc.yes ⟨q1,q2,q3,q4,fun i=>if h:i < x.Links.length then (hV i h).1 else VA.out (by omega),I2 fun i hi a ha=>((hV i hi).2 a ha).1,I2 fun i hi a ha=>((hV i hi).2 a ha).2,q5,q6⟩))
 have K:Fm x.Name=true->(x.Kind=1\/x.Kind=2)->Ok (cond (decide (x.Purpose < 1)) (Br.j1 x true) (cond (decide (4 < x.Purpose)) (Br.j1 x true) (cond (decide ((x.Links.length:Int) < 1)) (Br.j1 x true) (cond (decide (8 < (x.Links.length:Int))) (Br.j1 x true) (cond (decide (40000 < x.Until)) (Br.j1 x true) ((Bo x.Links 0).bind fun e=>Br.j1 x (decide (x.Until < e.Day)))))))) (Dc 30 (wW x)):=by
  intro q1 q2
  refine Ok.cond (fun c=>Dc.no fun v=>by have:=aCe c; have:=v.purpose; omega) fun c3=>?_
  refine Ok.cond (fun c=>Dc.no fun v=>by have:=aCe c; have:=v.purpose; omega) fun c4=>?_
  refine Ok.cond (fun c=>Dc.no fun v=>by have:=aCe c; have:=v.len; omega) fun c5=>?_
  refine Ok.cond (fun c=>Dc.no fun v=>by have:=aCe c; have:=v.len; omega) fun c6=>?_
  refine Ok.cond (fun c=>Dc.no fun v=>by have:=aCe c; have:=v.until_; omega) fun c7=>?_
  have d3:=aDs c3
  have d4:=aDs c4
  have d5:=aDs c5
  have d6:=aDs c6
  have d7:=aDs c7
  obtain⟨a,ha⟩:∃ a,x.Links[0]?=some a:=⟨_,aAy (by omega)⟩
  rw [kG,ha,aAc]
  by_cases c8:x.Until < a.Day
  ·rw [aAg c8]
   exact Dc.no fun v=>by have:=v.first a ha; omega
  ·rw [aAk c8]
   exact J q1 q2 (by omega) (by omega) (by omega) fun b hb=>by rw [ha] at hb; cases hb; omega
 unfold Br
 rw [Tx _ h.name,aAc]
 refine Ok.cond (fun c=>Dc.no fun v=>by rw [v.name] at c; cases c) fun c1=>?_
 have q1:Fm x.Name=true:=by simpa using c1
 refine Ok.cond (fun c2=>?_) fun c2=>K q1 (.inl (by simpa using c2))
 refine Ok.cond (fun c=>Dc.no fun v=>?_) fun c=>K q1 (.inr (by simpa using c))
 have e1:¬ x.Kind=1:=by simpa using c2
 have e2:¬ x.Kind=2:=by simpa using c
 exact v.kind.elim e1 e2
theorem U8 (s:List Bp) (f:Bp->Option Bool) (p:Bp->Bool) (h:Lo s) (hf:∀ x∈s,f x=some (p x)):Et s f=some (s.any p):=by
 have hi:Bw s f=some (Rm s p):=by
  unfold Bw
  refine No s p h (fun i x hx=>?_) ?_
  ·show Bw.l1 s f (i:Int)=_
   unfold Bw.l1
   rw [H3 hx,hf x (Eg hx),aAc]
   cases p x <;> rfl
  ·show Bw.l1 s f (s.length:Int)=_
   unfold Bw.l1
   rw [Fz]; rfl
 unfold Et
 rw [hi,aAc,Np]
def EdR (a b:Aw):Prop:=a.Client < b.Client\/(a.Client=b.Client/\a.Server < b.Server)
def EdS (n:Int) (x:Aw):Prop:=(0<=x.Client/\x.Client < n)/\(0<=x.Server/\x.Server < n)/\x.Client≠x.Server
def cC (n:Int) (l:List Aw) (i:Nat):Prop:=VA EdR l i/\∀ x,l[i]?=some x->EdS n x
theorem cC.out {n:Int} {l:List Aw} {i:Nat} (h:l.length<=i):cC n l i:=⟨VA.out h,fun x hx=>by have:=I9 hx; omega⟩
theorem nZ (l:List Aw) (n:Int) (hl:Lo l):Ok (Bx l n) (fun b=>b=true↔l.length<=40/\∀ i,cC n l i):=by
 have hl':l.length < 4611686018427387904:=hl
 unfold Bx
 refine Hc l.length (cC n l) (fun i hi hV=>?_) fun hV=>?_
 ·obtain⟨x,hx⟩:∃ x,l[i]?=some x:=⟨_,aAy hi⟩
  show Ok (Bx.l1 l n (i:Int)) _
  unfold Bx.l1
  refine Qm hx ?_
  have no:¬ EdS n x->Ok (Bx.j2 l (i:Int) x true) (S6 (fun s'=>s'=((i + 1:Nat):Int)/\cC n l i) fun b=>b=true↔l.length<=40/\∀ i,cC n l i):=fun h=>by
   unfold Bx.j2
   rw [aEw]
   exact Ok.up (Ok.ret ⟨fun h=>(by cases h),fun v=>absurd ((v.2 i).2 x hx) h⟩)
  refine Ok.cond (fun c=>no fun v=>by have:=aCe c; have:=v.1; omega) fun c1=>?_
  refine Ok.cond (fun c=>no fun v=>by have:=aCe c; have:=v.1; omega) fun c2=>?_
  refine Ok.cond (fun c=>no fun v=>by have:=aCe c; have:=v.2.1; omega) fun c3=>?_
  refine Ok.cond (fun c=>no fun v=>by have:=aCe c; have:=v.2.1; omega) fun c4=>?_
  have c1:=aDs c1
  have c2:=aDs c2
  have c3:=aDs c3
  have c4:=aDs c4
  by_cases c5:x.Client=x.Server
  ·rw [aAg c5]
   exact no fun v=>v.2.2 c5
  rw [aAk c5]
  have hr:∀ z,l[i]?=some z->EdS n z:=fun z hz=>by rw [hx] at hz; cases hz; exact⟨by omega,by omega,c5⟩
  unfold Bx.j2
  rw [aD6]
  refine Ql hi hl (fun h0=>?_) fun p h0 hp=>?_
  ·exact Fp (by omega) (fun h=>by cases h) fun _=>⟨VA.zero h0,hr⟩
  ·have up:¬ EdR p x->(true=true↔l.length<=40/\∀ i,cC n l i)->True:=fun _ _=>trivial
   refine Ok.cond (fun c=>?_) fun c6=>?_
   ·refine Fp (by omega) (fun _=>⟨fun h=>(by cases h),fun v=>?_⟩) fun h=>by cases h
    have:=aCe c
    rcases (v.2 i).1 p x h0 hp hx with h | h <;> omega
   have c6:=aDs c6
   refine Ok.cond (fun c=>?_) fun c=>?_
   ·have c:=aCe c
    refine Fp (by omega) (fun d=>⟨fun h=>(by cases h),fun v=>?_⟩) fun d=>⟨VA.at hp hx (.inr ⟨c,by have:=aDs d; omega⟩),hr⟩
    have d:=aCe d
    rcases (v.2 i).1 p x h0 hp hx with h | h <;> omega
   ·have c:=aDs c
    exact Fp (by omega) (fun h=>by cases h) fun _=>⟨VA.at hp hx (.inl (by omega)),hr⟩
 ·show Ok (Bx.l1 l n (l.length:Int)) _
  unfold Bx.l1
  refine Lg (Ok.up (Ok.ret ⟨fun h=>⟨by have:=aCe h; omega,fun i=>if h:i < l.length then hV i h else cC.out (by omega)⟩,fun v=>aAg (by have:=v.1; omega)⟩))
structure Wu (e:An):Prop where
 n:Lo e.Endpoints
 edges:Lo e.Edges
 m:Lo e.Items
 ep:∀ x∈e.Endpoints,iL x
 it:∀ x∈e.Items,lT x
def NmR (a b:Al):Prop:=fS (K0 a.Name) (K0 b.Name)=true
structure EsV (e:An):Prop where
 ep:∀ x∈e.Endpoints,xT x
 names:∀ i,VA NmR e.Endpoints i
 n:e.Endpoints.length<=16
 it:∀ x∈e.Items,wW x
 m:e.Items.length<=30
 edges:e.Edges.length<=40
 ed:∀ i,cC (e.Endpoints.length:Int) e.Edges i
theorem Ln {e:An} (h:Wu e):Ok (Ca e) (Dc 31 (EsV e)):=by
 have hn:=h.n
 unfold Lo at hn
 unfold Ca
 refine Hc e.Endpoints.length (fun i=>VA NmR e.Endpoints i/\∀ x,e.Endpoints[i]?=some x->xT x) (fun i hi hV=>?_) fun hV=>?_
 ·obtain⟨x,hx⟩:∃ x,e.Endpoints[i]?=some x:=⟨_,aAy hi⟩
  show Ok (Ca.l1 e (i:Int)) _
  unfold Ca.l1
  refine Qm hx (Ok.bind (Up (h.ep x (Eg hx))) fun y hy=>?_)
  refine Ok.cond (fun c=>Fp (by omega) (fun _=>.inr ⟨rfl,fun v=>?_⟩) fun h=>by cases h) fun c1=>?_
  ·rcases hy with ⟨rfl,hy⟩ | ⟨rfl,hy⟩
   ·cases c
   ·exact hy (v.ep x (Eg hx))
  have hx1:xT x:=by
   rcases hy with ⟨rfl,hy⟩ | ⟨rfl,hy⟩
   ·exact hy
   ·cases c1
  have hr:∀ z,e.Endpoints[i]?=some z->xT z:=fun z hz=>by rw [hx] at hz; cases hz; exact hx1
  refine Ql hi h.n (fun h0=>?_) fun p h0 hp=>?_
  ·exact Fp (by omega) (fun h=>by cases h) fun _=>⟨VA.zero h0,hr⟩
  ·refine Fp (by omega) (fun c=>.inr ⟨rfl,fun v=>?_⟩) fun c=>⟨VA.at hp hx (by unfold NmR; simpa using c),hr⟩
   have:fS (K0 p.Name) (K0 x.Name)=true:=v.names i p x h0 hp hx
   rw [this] at c; cases c
 ·show Ok (Ca.l1 e (e.Endpoints.length:Int)) _
  unfold Ca.l1
  refine Lg (Ok.up ?_)
  have hit:∀ x∈e.Items,Fs x=some (!decide (Bh x=some 0)):=fun x hx=>by
   unfold Fs
   obtain⟨y,h1,h2⟩:=Oq (h.it x hx)
   rw [h1,aAc]
   by_cases e:y=0
   ·rw [e,aAg rfl,aAg rfl]
   ·rw [aAk e,aAk fun q=>e (oi_ q)]
  have hv:∀ x∈e.Items,(Bh x=some 0↔wW x):=fun x hx=>by
   obtain⟨y,h1,h2⟩:=Oq (h.it x hx)
   rw [h1]
   rcases h2 with ⟨rfl,h2⟩ | ⟨rfl,h2⟩
   ·exact⟨fun _=>h2,fun _=>rfl⟩
   ·exact⟨fun q=>(by cases q),fun q=>absurd q h2⟩
  rw [U8 e.Items (fun x0=>Fs x0) (fun x=>!decide (Bh x=some 0)) h.m hit,aAc]
  refine Ok.cond (fun c=>Dc.no fun v=>?_) fun c1=>?_
  ·obtain⟨x,h1,h2⟩:=aIi.1 c
   rw [aAg ((hv x h1).2 (v.it x h1))] at h2
   cases h2
  refine Ok.cond (fun c=>Dc.no fun v=>by have:=aCe c; have:=v.n; omega) fun c2=>?_
  refine Ok.cond (fun c=>Dc.no fun v=>by have:=aCe c; have:=v.m; omega) fun c3=>?_
  refine Ok.bind (nZ _ _ h.edges) fun y hy=>?_
  refine Ok.cond (fun c=>Dc.no fun v=>by rw [hy.2 ⟨v.edges,v.ed⟩] at c; cases c) fun c4=>Dc.yes ?_
  have c2:=aDs c2
  have c3:=aDs c3
  obtain⟨h1,h2⟩:=hy.1 (by simpa using c4)
  exact⟨I2 fun i hi=>(hV i hi).2,fun i=>if h:i < e.Endpoints.length then (hV i h).1 else VA.out (by omega),by omega,fun x hx=>(hv x hx).1 (by have:=aPw.1 c1 x hx; simpa using this),by omega,h1,h2⟩
theorem Zw {e:An} (h:Wu e):Ok (Bd e) (Dc 31 (EsV e)):=by
 have hn:=h.n
 have hE:=h.edges
 have hm:=h.m
 unfold Lo at hn hE hm
 unfold Bd
 refine Ok.cond (fun c=>Dc.no fun v=>by have:=aCe c; have:=v.n; omega) fun c2=>?_
 refine Ok.cond (fun c=>Dc.no fun v=>by have:=aCe c; have:=v.edges; omega) fun c3=>?_
 refine Ok.cond (fun c=>Dc.no fun v=>by have:=aCe c; have:=v.m; omega) fun c4=>?_
 have c2:=aDs c2
 have c3:=aDs c3
 have c4:=aDs c4
 refine Hc e.Endpoints.length (fun i=>VA NmR e.Endpoints i/\∀ x,e.Endpoints[i]?=some x->xT x) (fun i hi hV=>?_) fun hV=>?_
 ·obtain⟨x,hx⟩:∃ x,e.Endpoints[i]?=some x:=⟨_,aAy hi⟩
  show Ok (Bd.l2 e (i:Int)) _
  unfold Bd.l2
  refine Qm hx (Ok.bind (Yz (h.ep x (Eg hx))) fun y hy=>?_)
  refine Ok.cond (fun c=>Fp (by omega) (fun _=>.inr ⟨rfl,fun v=>?_⟩) fun h=>by cases h) fun c1=>?_
  ·rcases hy with ⟨rfl,hy⟩ | ⟨rfl,hy⟩
   ·cases c
   ·exact hy (v.ep x (Eg hx))
  have hx1:xT x:=by
   rcases hy with ⟨rfl,hy⟩ | ⟨rfl,hy⟩
   ·exact hy
   ·cases c1
  have hr:∀ z,e.Endpoints[i]?=some z->xT z:=fun z hz=>by rw [hx] at hz; cases hz; exact hx1
  refine Ql hi h.n (fun h0=>?_) fun p h0 hp=>?_
  ·exact Fp (by omega) (fun h=>by cases h) fun _=>⟨VA.zero h0,hr⟩
  ·refine Fp (by omega) (fun c=>.inr ⟨rfl,fun v=>?_⟩) fun c=>⟨VA.at hp hx (by unfold NmR; simpa using c),hr⟩
   have:fS (K0 p.Name) (K0 x.Name)=true:=v.names i p x h0 hp hx
   rw [this] at c; cases c
 show Ok (Bd.l2 e (e.Endpoints.length:Int)) _
 unfold Bd.l2
 refine Lg (Ok.up ?_)
 refine Hc e.Edges.length (cC (e.Endpoints.length:Int) e.Edges) (fun i hi hV=>?_) fun hD=>?_
 ·obtain⟨x,hx⟩:∃ x,e.Edges[i]?=some x:=⟨_,aAy hi⟩
  show Ok (Bd.l4 e (i:Int)) _
  unfold Bd.l4
  refine Qm hx ?_
  have no:¬ EdS (e.Endpoints.length:Int) x->Ok (Bd.j5 e (i:Int) x true) (S6 (fun s'=>s'=((i + 1:Nat):Int)/\cC (e.Endpoints.length:Int) e.Edges i) (Dc 31 (EsV e))):=fun h=>by
   unfold Bd.j5
   rw [aEw]
   exact Ok.up (Dc.no fun v=>h ((v.ed i).2 x hx))
  refine Ok.cond (fun c=>no fun v=>by have:=aCe c; have:=v.1; omega) fun c1=>?_
  refine Ok.cond (fun c=>no fun v=>by have:=aCe c; have:=v.1; omega) fun c2=>?_
  refine Ok.cond (fun c=>no fun v=>by have:=aCe c; have:=v.2.1; omega) fun c3=>?_
  refine Ok.cond (fun c=>no fun v=>by have:=aCe c; have:=v.2.1; omega) fun c4=>?_
  have c1:=aDs c1
  have c2:=aDs c2
  have c3:=aDs c3
  have c4:=aDs c4
  by_cases c5:x.Client=x.Server
  ·rw [aAg c5]
   exact no fun v=>v.2.2 c5
  rw [aAk c5]
  have hr:∀ z,e.Edges[i]?=some z->EdS (e.Endpoints.length:Int) z:=fun z hz=>by rw [hx] at hz; cases hz; exact⟨by omega,by omega,c5⟩
  unfold Bd.j5
  rw [aD6]
  refine Ql hi h.edges (fun h0=>?_) fun p h0 hp=>?_
  ·exact Fp (by omega) (fun h=>by cases h) fun _=>⟨VA.zero h0,hr⟩
  ·refine Ok.cond (fun c=>?_) fun c6=>?_
   ·refine Fp (by omega) (fun _=>.inr ⟨rfl,fun v=>?_⟩) fun h=>by cases h
    have:=aCe c
    rcases (v.ed i).1 p x h0 hp hx with h | h <;> omega
   have c6:=aDs c6
   refine Ok.cond (fun c=>?_) fun c=>?_
   ·have c:=aCe c
    refine Fp (by omega) (fun d=>.inr ⟨rfl,fun v=>?_⟩) fun d=>⟨VA.at hp hx (.inr ⟨c,by have:=aDs d; omega⟩),hr⟩
    have d:=aCe d
    rcases (v.ed i).1 p x h0 hp hx with h | h <;> omega
   ·have c:=aDs c
    exact Fp (by omega) (fun h=>by cases h) fun _=>⟨VA.at hp hx (.inl (by omega)),hr⟩
 show Ok (Bd.l4 e (e.Edges.length:Int)) _
 unfold Bd.l4
 refine Lg (Ok.up ?_)
 refine Hc e.Items.length (fun i=>∀ x,e.Items[i]?=some x->wW x) (fun i hi hV=>?_) fun hI=>?_
 ·obtain⟨x,hx⟩:∃ x,e.Items[i]?=some x:=⟨_,aAy hi⟩
  show Ok (Bd.l7 e (i:Int)) _
  unfold Bd.l7
  refine Qm hx (Ok.bind (Z0 (h.it x (Eg hx))) fun y hy=>?_)
  refine Fp (by omega) (fun c=>.inr ⟨rfl,fun v=>?_⟩) fun c z hz=>?_
  ·rcases hy with ⟨rfl,hy⟩ | ⟨rfl,hy⟩
   ·cases c
   ·exact hy (v.it x (Eg hx))
  ·rw [hx] at hz; cases hz
   rcases hy with ⟨rfl,hy⟩ | ⟨rfl,hy⟩
   ·exact hy
   ·cases c
 show Ok (Bd.l7 e (e.Items.length:Int)) _
 unfold Bd.l7
 exact Lg (Ok.up (Dc.yes ⟨I2 fun i hi=>(hV i hi).2,fun i=>if h:i < e.Endpoints.length then (hV i h).1 else VA.out (by omega),by omega,I2 hI,by omega,by omega,fun i=>if h:i < e.Edges.length then hD i h else cC.out (by omega)⟩))
theorem W2 {e:An} (h:Wu e):Bd e=Ca e:=Dc.same (Zw h) (Ln h)
end
end Go.Proofs.YtkioneinddihlaaGreat
