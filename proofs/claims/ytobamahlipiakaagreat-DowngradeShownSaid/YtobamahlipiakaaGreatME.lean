/- Plain texts, joined. No program is in sight here. -/
import Derived.Test.YtobamahlipiakaaGreatM2
set_option autoImplicit false
set_option linter.unusedVariables false
set_option linter.unusedSimpArgs false
namespace Go.Proofs.YtobamahlipiakaaGreat
section
open Go
theorem Xf {R:Type} {body:Int->Option (Lp Int R)} {Q:R->Prop} (n:Nat) (V:Nat->Prop)
  (h1:∀ i,i < n->(∀ j,j < i->V j)->Ok (body (i:Int)) (Rd' (fun s'=>s'=((i + 1:Nat):Int)/\V i) Q))
  (h2:(∀ j,j < n->V j)->Ok (body (n:Int)) (Rd' (fun _=>False) Q)):Ok (Bz body 0) Q:=by
 refine Ok.loop (fun s=>∃ i:Nat,s=(i:Int)/\i<=n/\∀ j,j < i->V j) (fun s=>n - s.toNat) ?_ ⟨0,rfl,aOm _,fun j hj=>absurd hj (Nat.not_lt_zero _)⟩
 rintro _ ⟨i,rfl,hi,hV⟩
 by_cases hn:i < n
 ·refine (h1 i hn hV).mono fun o ho=>?_
  cases o with
  | done r=>exact ho
  | next s'=>
   obtain⟨rfl,hv⟩:=ho
   refine⟨⟨i + 1,rfl,hn,fun j hj=>?_⟩,by show n - ((i + 1:Nat):Int).toNat < n - ((i:Nat):Int).toNat; omega⟩
   by_cases e:j=i
   ·rw [e]; exact hv
   ·exact hV j (by omega)
 ·obtain rfl:i=n:=by omega
  refine (h2 hV).mono fun o ho=>?_
  cases o with
  | done r=>exact ho
  | next s'=>exact ho.elim
theorem Qo {R:Type} {i:Nat} {b:Bool} {r:R} {V:Prop} {Q:R->Prop} (hi:i < 4611686018427387904) (h1:b=true->Q r) (h2:b=false->V):Ok (cond b (up (some r)) (some (.next (W ((i:Int) + 1))))) (Rd' (fun s'=>s'=((i + 1:Nat):Int)/\V) Q):=by
 refine Ok.cond (fun h=>Ok.up (Ok.ret (h1 h))) fun h=>Ok.ret ⟨Fo hi,h2 h⟩
theorem uK {α T:Type} {l:List α} {i:Nat} (hi:i < l.length) (hl:Lo l) {k:α->Option T} {z:Option T} {Q:T->Prop} (h0:i=0->Ok z Q) (h1:∀ x,0 < i->l[i - 1]?=some x->Ok (k x) Q) :
  Ok (cond (decide (0 < (i:Int))) ((Bm l (W ((i:Int) - 1))).bind k) z) Q:=by
 unfold Lo at hl
 refine Ok.cond (fun h=>?_) fun h=>h0 (by have:=aJb h; omega)
 have h:=aEk h
 obtain⟨x,hx⟩:∃ x,l[i - 1]?=some x:=⟨_,aCv (by omega)⟩
 rw [Ej (by omega),show (i:Int) - 1=((i - 1:Nat):Int) by omega,Ef,hx]
 exact h1 x (by omega) hx
theorem yN {α T:Type} {l:List α} {i:Nat} {k:α->Option T} {e:Option T} {Q:T->Prop} {x:α} (hx:l[i]?=some x) (h:Ok (k x) Q):Ok (cond (decide ((i:Int) < (l.length:Int))) ((Bm l (i:Int)).bind k) e) Q:=by
 rw [Dz hx]; exact h
theorem iU {T:Type} {n:Nat} {a e:Option T} {Q:T->Prop} (h:Ok e Q):Ok (cond (decide ((n:Int) < (n:Int))) a e) Q:=by
 rw [Cy]; exact h
def VA {α:Type} (R:α->α->Prop) (l:List α) (i:Nat):Prop:=∀ x y,0 < i->l[i - 1]?=some x->l[i]?=some y->R x y
theorem VA.zero {α:Type} {R:α->α->Prop} {l:List α} {i:Nat} (h:i=0):VA R l i:=fun x y h0=>by omega
theorem VA.at {α:Type} {R:α->α->Prop} {l:List α} {i:Nat} {x y:α} (hx:l[i - 1]?=some x) (hy:l[i]?=some y) (h:R x y):VA R l i:=fun a b _ ha hb=>by
 rw [hx] at ha; rw [hy] at hb
 cases ha; cases hb; exact h
theorem VA.out {α:Type} {R:α->α->Prop} {l:List α} {i:Nat} (h:l.length<=i):VA R l i:=fun x y _ _ hy=>by have:=G3 hy; omega
def Dc (k:Int) (V:Prop) (y:Int):Prop:=(y=0/\V)\/(y=k/\¬ V)
theorem Dc.no {k:Int} {V:Prop} (h:¬ V):Ok (some k) (Dc k V):=Ok.ret (.inr ⟨rfl,h⟩)
theorem Dc.yes {k:Int} {V:Prop} (h:V):Ok (some 0) (Dc k V):=Ok.ret (.inl ⟨rfl,h⟩)
theorem Dc.same {k:Int} {V:Prop} {x y:Option Int} (h:Ok x (Dc k V)) (g:Ok y (Dc k V)):x=y:=by
 obtain⟨a,rfl,h⟩:=h
 obtain⟨b,rfl,g⟩:=g
 rcases h with ⟨rfl,h⟩ | ⟨rfl,h⟩ <;> rcases g with ⟨rfl,g⟩ | ⟨rfl,g⟩
 ·rfl
 ·exact absurd h g
 ·exact absurd g h
 ·rfl
theorem Dc.zero {k:Int} {V:Prop} {x:Option Int} (h:Ok x (Dc k V)) (v:V):x=some 0:=by
 obtain⟨a,rfl,h⟩:=h
 rcases h with ⟨rfl,h⟩ | ⟨rfl,h⟩
 ·rfl
 ·exact absurd v h
def jO (c:UInt8):Bool:=(decide ((c.toNat:Int) < 97) || decide (122 < (c.toNat:Int))) && ((decide ((c.toNat:Int) < 65) || decide (90 < (c.toNat:Int))) && ((decide ((c.toNat:Int) < 48) || decide (57 < (c.toNat:Int))) && (!decide ((c.toNat:Int)=45) && (!decide ((c.toNat:Int)=95) && !decide ((c.toNat:Int)=46)))))
def fI (s:ByteArray):Bool:=decide (1<=(s.size:Int)) && decide ((s.size:Int)<=32) && !(Oz s).any jO
theorem uT (c:UInt8):decide (0<=pS ⟨#[45,95,46]⟩ c)=!(!decide ((c.toNat:Int)=45) && (!decide ((c.toNat:Int)=95) && !decide ((c.toNat:Int)=46))):=by
 have h:∀ n:Fin 256,decide (0<=pS ⟨#[45,95,46]⟩ (UInt8.ofNat n.val))=!(!decide (((UInt8.ofNat n.val).toNat:Int)=45) && (!decide (((UInt8.ofNat n.val).toNat:Int)=95) && !decide (((UInt8.ofNat n.val).toNat:Int)=46))):=by decide +kernel
 have:=h ⟨c.toNat,c.toNat_lt⟩
 simpa using this
theorem zS (c:UInt8):Jv c ⟨#[45,95,46]⟩=some (!jO c):=by
 have e:∀ a:Int,decide (a<=(c.toNat:Int))=!decide ((c.toNat:Int) < a):=fun a=>by
  by_cases h:(c.toNat:Int) < a
  ·rw [aA4 h,aAw (by omega)]; rfl
  ·rw [aAw h,aA4 (by omega)]; rfl
 have f:∀ a:Int,decide ((c.toNat:Int)<=a)=!decide (a < (c.toNat:Int)):=fun a=>by
  by_cases h:a < (c.toNat:Int)
  ·rw [aA4 h,aAw (by omega)]; rfl
  ·rw [aAw h,aA4 (by omega)]; rfl
 have i:∀ k:Bool->Option Bool,((Fa ⟨#[45,95,46]⟩ c).bind fun y=>some (decide (0<=y)))=some (!(!decide ((c.toNat:Int)=45) && (!decide ((c.toNat:Int)=95) && !decide ((c.toNat:Int)=46)))):=fun _=>by
  rw [<- uT]; rfl
 have i:=i some
 unfold Jv jO
 simp only [i,e,f]
 generalize decide ((c.toNat:Int) < 97)=a1
 generalize decide (122 < (c.toNat:Int))=a2
 generalize decide ((c.toNat:Int) < 65)=a3
 generalize decide (90 < (c.toNat:Int))=a4
 generalize decide ((c.toNat:Int) < 48)=a5
 generalize decide (57 < (c.toNat:Int))=a6
 generalize (!decide ((c.toNat:Int)=45) && (!decide ((c.toNat:Int)=95) && !decide ((c.toNat:Int)=46)))=a7
 cases a1 <;> cases a2 <;> cases a3 <;> cases a4 <;> cases a5 <;> cases a6 <;> rfl
theorem aR (s:ByteArray) (hs:s.size<=9223372036854775807):Ft s=some (fI s):=by
 unfold Ft fI
 refine (Qs (body:=fun q'=>Ft.l1 s q') (Oz s) (fun i=>(i:Int)) jO false (decide (1<=(s.size:Int)) && decide ((s.size:Int)<=32)) (fun i c hc=>?_) ?_).trans ?_
 ·have h1:=G3 hc
  rw [T3] at h1
  show Ft.l1 s (i:Int)=_
  unfold Ft.l1
  rw [Dz hc,zS,aAg,bBq,V3 h1 hs]
  cases jO c <;> rfl
 ·show Ft.l1 s ((Oz s).length:Int)=_
  unfold Ft.l1
  rw [Cy]
  by_cases a:(1:Int)<=(s.size:Int) <;> simp [a,up]
 ·cases (Oz s).any jO <;> simp
theorem kT (s:ByteArray) (hs:s.size<=9223372036854775807):Bn s=some (fI s):=by
 unfold Bn fI
 have hl:Bn.j1 s false=some (!(Oz s).any jO):=by
  unfold Bn.j1
  rw [aDb]
  refine (Qs (body:=fun q'=>Bn.l2 s q') (Oz s) (fun i=>(i:Int)) jO false true (fun i c hc=>?_) ?_).trans ?_
  ·have h1:=G3 hc
   rw [T3] at h1
   show Bn.l2 s (i:Int)=_
   unfold Bn.l2 Bn.j3 jO
   rw [aA4 (by omega),aEa,wY hc,aAg,V3 h1 hs]
   generalize decide ((c.toNat:Int) < 97)=a1
   generalize decide (122 < (c.toNat:Int))=a2
   generalize decide ((c.toNat:Int) < 65)=a3
   generalize decide (90 < (c.toNat:Int))=a4
   generalize decide ((c.toNat:Int) < 48)=a5
   generalize decide (57 < (c.toNat:Int))=a6
   generalize decide ((c.toNat:Int)=45)=a7
   generalize decide ((c.toNat:Int)=95)=a8
   generalize decide ((c.toNat:Int)=46)=a9
   cases a7 <;> cases a8 <;> cases a9 <;> cases a1 <;> cases a2 <;> cases a3 <;> cases a4 <;> cases a5 <;> cases a6 <;> rfl
  ·show Bn.l2 s ((Oz s).length:Int)=_
   unfold Bn.l2
   rw [T3,Cy]; rfl
  ·cases (Oz s).any jO <;> rfl
 by_cases a:(s.size:Int) < 1
 ·rw [aA4 a,aAw (show ¬ (1:Int)<=(s.size:Int) by omega)]; rfl
 ·rw [aAw a,aA4 (show (1:Int)<=(s.size:Int) by omega),aDb]
  by_cases b:32 < (s.size:Int)
  ·rw [aA4 b,aAw (show ¬ (s.size:Int)<=32 by omega)]; rfl
  ·rw [aAw b,aA4 (show (s.size:Int)<=32 by omega),hl]; rfl
def uR (n:Int):Prop:=1<=n/\n<=16
theorem gE:∃ l,Fi=some l/\l.length=16:=by
 unfold Fi Df
 simp only [aAg]
 refine Ok.loop (fun s:Int×List Az=>∃ i:Nat,s.1=(i:Int)/\i<=16/\s.2.length=16) (fun s=>16 - s.1.toNat) ?_ ⟨0,rfl,by omega,rfl⟩
 rintro⟨_,l⟩ ⟨i,rfl,hi,hl⟩
 dsimp only at hl
 show Ok (Fi.l1 _ _ _ _ _ _ _ _ _ _ _ _ _ _ _ _ _ _ _ _ _ _ (i:Int) l) _
 unfold Fi.l1
 refine Ok.cond (fun h=>?_) fun _=>Ok.up (Ok.ret hl)
 have h:(i:Int) < 16:=aEk h
 refine Ok.bind (Rv (by omega) (by omega)) fun e _=>Ok.ret ⟨⟨i + 1,by show W ((i:Int) + 1)=_; rw [Ej (by omega)]; omega,by omega,?_⟩,?_⟩
 ·show (Ex l _ _).length=16
  unfold Ex
  rw [List.length_set]; exact hl
 ·show 16 - (W ((i:Int) + 1)).toNat < 16 - ((i:Nat):Int).toNat
  rw [Ej (by omega)]; omega
theorem Ri:∃ l,Kw=some l/\l.length=16:=⟨_,rfl,rfl⟩
theorem pC (n:Int):Ok (Dw n) (fun y=>Dc 8 (uR n) y.2):=by
 obtain⟨l,hl,hlen⟩:∃ l,Fi=some l/\l.length=16:=gE
 unfold Dw
 rw [hl,aAg]
 refine Ok.cond (fun h=>?_) fun h=>?_
 ·exact Ok.ret (.inr ⟨rfl,fun v=>by have:=aEk h; have:=v.1; omega⟩)
 ·have h:=aJb h
  refine Ok.cond (fun g=>Ok.ret (.inr ⟨rfl,fun v=>by have:=aEk g; have:=v.2; omega⟩)) fun g=>?_
  have g:=aJb g
  rw [Ej (by omega)]
  exact Ok.bind (Rv (by omega) (by omega)) fun e _=>Ok.ret (.inl ⟨rfl,by omega,by omega⟩)
theorem Qi (n:Int):Ok (Dn n) (fun y=>Dc 8 (uR n) y.2):=by
 obtain⟨l,hl,hlen⟩:∃ l,Kw=some l/\l.length=16:=Ri
 unfold Dn
 refine Ok.cond (fun h=>?_) fun h=>?_
 ·exact Ok.ret (.inr ⟨rfl,fun v=>by have:=aEk h; have:=v.1; omega⟩)
 ·have h:=aJb h
  refine Ok.cond (fun g=>Ok.ret (.inr ⟨rfl,fun v=>by have:=aEk g; have:=v.2; omega⟩)) fun g=>?_
  have g:=aJb g
  rw [hl,aAg,Ej (by omega)]
  exact Ok.bind (Rv (by omega) (by omega)) fun e _=>Ok.ret (.inl ⟨rfl,by omega,by omega⟩)
theorem Nr (l:List Int) (n:Int) (h:Lo l):Dv l n=some (decide (n∈l)):=by
 unfold Dv
 refine (M7 l (fun x=>decide (x=n)) true false h (fun i x hx=>?_) ?_).trans ?_
 ·show Dv.l1 l n (i:Int)=_
  unfold Dv.l1
  rw [Dz hx]
  cases decide (x=n) <;> rfl
 ·show Dv.l1 l n (l.length:Int)=_
  unfold Dv.l1
  rw [Cy]; rfl
 ·have:(l.any fun x=>decide (x=n))=decide (n∈l):=by
   rw [Bool.eq_iff_iff]; simp
  rw [this]; cases decide (n∈l) <;> rfl
def dY (l:List Int) (i:Nat):Prop:=∀ x,l[i]?=some x->uR x/\x∉l.take i
theorem rJ {l:List Int} (h:∀ i,dY l i):l.Nodup:=by
 rw [List.nodup_iff_pairwise_ne,aV6]
 intro i j hi hj hij e
 refine (h j l[j] (aCv hj)).2 ?_
 rw [<- e]
 exact List.mem_take_iff_getElem.2 ⟨i,by omega,rfl⟩
theorem aDd:∀ (n:Nat) (l:List Int),l.Nodup->(∀ x∈l,1<=x/\x<=(n:Int))->l.length<=n
 | 0,[],_,_=>aJf _
 | 0,x :: l,_,h=>by have:=h x (.head _); omega
 | n + 1,l,hn,h=>by
  have h1:=aDd n (l.erase ((n:Int) + 1)) (hn.erase _) fun x hx=>by
   have:=h x (List.mem_of_mem_erase hx)
   have:x≠(n:Int) + 1:=((hn.mem_erase_iff).1 hx).1
   omega
  have:=List.length_erase (a:=(n:Int) + 1) (l:=l)
  split at this <;> omega
theorem uI {l:List Int} (h:∀ i,dY l i):l.length<=16:=aDd 16 l (rJ h) fun x hx=>by
 obtain⟨i,hi⟩:=bAs.1 hx
 exact (h i x hi).1
theorem dY.out {l:List Int} {i:Nat} (h:l.length<=i):dY l i:=fun x hx=>by have:=G3 hx; omega
theorem yK {l:List Int} {i:Nat} (h:i<=l.length):Zz l 0 (i:Int)=some (l.take i):=by
 unfold Zz
 rw [if_pos (by omega)]
 simp
theorem nD (l:List Int) (hl:Lo l):Ok (Ds l) (fun b=>b=true↔∀ i,dY l i):=by
 have hl':l.length < 4611686018427387904:=hl
 unfold Ds
 refine Xf l.length (dY l) (fun i hi hV=>?_) fun hV=>?_
 ·obtain⟨x,hx⟩:∃ x,l[i]?=some x:=⟨_,aCv hi⟩
  show Ok (Ds.l1 l (i:Int)) _
  unfold Ds.l1
  refine yN hx (Ok.bind (pC x) fun y hy=>?_)
  refine Ok.cond (fun h=>?_) fun h=>?_
  ·refine Qo (by omega) (fun _=>⟨fun h=>(by cases h),fun v=>?_⟩) fun h=>by cases h
   rcases hy with ⟨e,hs⟩ | ⟨e,hs⟩
   ·rw [e] at h; cases h
   ·exact absurd (v i x hx).1 hs
  ·have hs:uR x:=by
    rcases hy with ⟨e,hs⟩ | ⟨e,hs⟩
    ·exact hs
    ·rw [e] at h; cases h
   rw [yK (by omega),aAg,Mz _ _ (by rw [aJj]; omega),aAg]
   refine Qo (by omega) (fun h=>⟨fun h=>(by cases h),fun v=>?_⟩) fun h=>fun z hz=>?_
   ·exact absurd (aEk h) (v i x hx).2
   ·rw [hx] at hz; cases hz
    exact⟨hs,aJb h⟩
 ·show Ok (Ds.l1 l (l.length:Int)) _
  unfold Ds.l1
  exact iU (Ok.up (Ok.ret ⟨fun _ i=>if h:i < l.length then hV i h else dY.out (by omega),fun _=>rfl⟩))
theorem W9 (l:List Int) (hl:Lo l):Ok (Da l) (fun b=>b=true↔∀ i,VA (fun x y:Int=>x < y) l i):=by
 have hl':l.length < 4611686018427387904:=hl
 unfold Da
 refine Xf l.length (VA (fun x y=>x < y) l) (fun i hi hV=>?_) fun hV=>?_
 ·obtain⟨x,hx⟩:∃ x,l[i]?=some x:=⟨_,aCv hi⟩
  show Ok (Da.l1 l (i:Int)) _
  unfold Da.l1
  rw [aA4 (by omega:(i:Int) < (l.length:Int)),aEa]
  refine uK hi hl (fun h0=>?_) fun p h0 hp=>?_
  ·exact Qo (by omega) (fun h=>by cases h) fun _=>VA.zero h0
  ·rw [Ef,hx,aAg]
   refine Qo (by omega) (fun h=>⟨fun h=>(by cases h),fun v=>?_⟩) fun h=>VA.at hp hx (by have:=aJb h; omega)
   have:=v i p x h0 hp hx
   have:=aEk h
   omega
 ·show Ok (Da.l1 l (l.length:Int)) _
  unfold Da.l1
  exact iU (Ok.up (Ok.ret ⟨fun _ i=>if h:i < l.length then hV i h else VA.out (by omega),fun _=>rfl⟩))
theorem iN (s:List Int) (f:Int->Option Bool) (p:Int->Bool) (h:Lo s) (hf:∀ x∈s,f x=some (p x)):E8 s f=some (s.any p):=by
 have hi:Bi s f=some (Ja s p):=by
  unfold Bi
  refine J7 s p h (fun i x hx=>?_) ?_
  ·show Bi.l1 s f (i:Int)=_
   unfold Bi.l1
   rw [Dz hx,hf x (Fr hx),aAg]
   cases p x <;> rfl
  ·show Bi.l1 s f (s.length:Int)=_
   unfold Bi.l1
   rw [Cy]; rfl
 unfold E8
 rw [hi,aAg,Mj]
structure Pt (e:Ac):Prop where
 name:e.Name.size<=9223372036854775807
 suites:Lo e.Suites
 ids:Lo e.Identities
 anchors:Lo e.Anchors
 hashes:Lo e.Hashes
 chain:∀ x∈e.Identities,∀ c∈x.Chain,cR c
structure EpV (e:Ac):Prop where
 name:fI e.Name=true
 least:1<=e.Least
 most:e.Least<=e.Most
 most4:e.Most<=4
 suites:∀ i,dY e.Suites i
 idn:e.Identities.length<=4
 ann:e.Anchors.length<=16
 ana:∀ i,VA (fun x y:Int=>x < y) e.Anchors i
 haa:∀ i,VA (fun x y:Int=>x < y) e.Hashes i
 ids:∀ x∈e.Identities,Qx x.Key x.KeyId x.Chain=true
 anr:∀ n∈e.Anchors,0<=n/\n<=2147483648
 har:∀ n∈e.Hashes,Ur n=1
theorem Y1 {α:Type} {l:List α} {P:α->Prop} (h:∀ i,i < l.length->∀ x,l[i]?=some x->P x):∀ x∈l,P x:=fun x hx=>by
 obtain⟨i,hi⟩:=bAs.1 hx
 exact h i (G3 hi) x hi
theorem Jn {e:Ac} (h:Pt e):Ok (Bp e) (Dc 19 (EpV e)):=by
 have hi:=h.ids
 unfold Lo at hi
 unfold Bp
 rw [aR _ h.name,aAg]
 refine Ok.cond (fun c=>Dc.no fun v=>by rw [v.name] at c; cases c) fun c1=>?_
 refine Ok.cond (fun c=>Dc.no fun v=>by have:=aEk c; have:=v.least; omega) fun c2=>?_
 refine Ok.cond (fun c=>Dc.no fun v=>by have:=aEk c; have:=v.most; omega) fun c3=>?_
 refine Ok.cond (fun c=>Dc.no fun v=>by have:=aEk c; have:=v.most4; omega) fun c4=>?_
 refine Ok.bind (nD _ h.suites) fun y2 h2=>?_
 refine Ok.cond (fun c=>Dc.no fun v=>by rw [h2.2 v.suites] at c; cases c) fun c5=>?_
 refine Ok.cond (fun c=>Dc.no fun v=>by have:=aEk c; have:=v.idn; omega) fun c6=>?_
 refine Ok.cond (fun c=>Dc.no fun v=>by have:=aEk c; have:=v.ann; omega) fun c7=>?_
 refine Ok.bind (W9 _ h.anchors) fun y3 h3=>?_
 refine Ok.cond (fun c=>Dc.no fun v=>by rw [h3.2 v.ana] at c; cases c) fun c8=>?_
 refine Ok.bind (W9 _ h.hashes) fun y4 h4=>?_
 refine Ok.cond (fun c=>Dc.no fun v=>by rw [h4.2 v.haa] at c; cases c) fun c9=>?_
 have n2:=h2.1 (by simpa using c5)
 have n3:=h3.1 (by simpa using c8)
 have n4:=h4.1 (by simpa using c9)
 have d2:=aJb c2
 have d3:=aJb c3
 have d4:=aJb c4
 have d6:=aJb c6
 have d7:=aJb c7
 refine Xf e.Identities.length (fun i=>∀ x,e.Identities[i]?=some x->Qx x.Key x.KeyId x.Chain=true) (fun i hi' hV=>?_) fun hV=>?_
 ·obtain⟨x,hx⟩:∃ x,e.Identities[i]?=some x:=⟨_,aCv hi'⟩
  show Ok (Bp.l3 e (i:Int)) _
  unfold Bp.l3
  refine yN hx ?_
  rw [yT _ _ _ (h.chain x (Fr hx)),aAg]
  refine Qo (by omega) (fun c=>.inr ⟨rfl,fun v=>by rw [v.ids x (Fr hx)] at c; cases c⟩) fun c z hz=>?_
  rw [hx] at hz; cases hz
  simpa using c
 ·show Ok (Bp.l3 e (e.Identities.length:Int)) _
  unfold Bp.l3
  refine iU (Ok.up ?_)
  refine Ok.bindE (a:=()) rfl (Ok.bindE (iN _ _ (fun n=>decide (n < 0) || decide (2147483648 < n)) h.anchors fun n _=>?_) ?_)
  ·show ((Eg n).bind fun y=>some (!y))=_
   rw [dW,aAg,bBq]
  refine Ok.cond (fun c=>Dc.no fun v=>?_) fun c10=>?_
  ·obtain⟨n,h1,h2⟩:=aL5.1 c
   have:=v.anr n h1
   simp only [aR9,aJc] at h2
   omega
  refine Ok.bindE (a:=()) rfl (Ok.bindE (iN _ _ (fun n=>!decide (Ur n=1)) h.hashes fun n _=>?_) ?_)
  ·show ((Lm n).bind fun y=>some (!y))=_
   unfold Lm
   rw [gU]; rfl
  refine Ok.cond (fun c=>Dc.no fun v=>?_) fun c11=>Dc.yes ?_
  ·obtain⟨n,h1,h2⟩:=aL5.1 c
   rw [aA4 (v.har n h1)] at h2
   cases h2
  ·refine⟨by simpa using c1,by omega,by omega,by omega,n2,by omega,by omega,n3,n4,Y1 hV,fun n hn=>?_,fun n hn=>?_⟩
   ·have:=aR8.1 c10 n hn
    simp only [aR9,aJc] at this
    omega
   ·have:=aR8.1 c11 n hn
    simpa using this
theorem U2 {e:Ac} (h:Pt e):Ok (A6 e) (Dc 19 (EpV e)):=by
 have hs:=h.suites
 have hi:=h.ids
 have ha:=h.anchors
 have hh:=h.hashes
 unfold Lo at hs hi ha hh
 unfold A6
 rw [kT _ h.name,aAg]
 refine Ok.cond (fun c=>Dc.no fun v=>by rw [v.name] at c; cases c) fun c1=>?_
 refine Ok.cond (fun c=>Dc.no fun v=>by have:=aEk c; have:=v.least; omega) fun c2=>?_
 refine Ok.cond (fun c=>Dc.no fun v=>by have:=aEk c; have:=v.most; omega) fun c3=>?_
 refine Ok.cond (fun c=>Dc.no fun v=>by have:=aEk c; have:=v.most4; omega) fun c4=>?_
 refine Ok.cond (fun c=>Dc.no fun v=>by have:=aEk c; have:=uI v.suites; omega) fun c5=>?_
 refine Ok.cond (fun c=>Dc.no fun v=>by have:=aEk c; have:=v.idn; omega) fun c6=>?_
 refine Ok.cond (fun c=>Dc.no fun v=>by have:=aEk c; have:=v.ann; omega) fun c7=>?_
 have d2:=aJb c2
 have d3:=aJb c3
 have d4:=aJb c4
 have d6:=aJb c6
 have d7:=aJb c7
 refine Xf e.Suites.length (dY e.Suites) (fun i hi' hV=>?_) fun hV=>?_
 ·obtain⟨x,hx⟩:∃ x,e.Suites[i]?=some x:=⟨_,aCv hi'⟩
  show Ok (A6.l2 e (i:Int)) _
  unfold A6.l2
  refine yN hx (Ok.bind (Qi x) fun y hy=>?_)
  refine Ok.cond (fun c=>?_) fun c=>?_
  ·refine Qo (by omega) (fun _=>.inr ⟨rfl,fun v=>?_⟩) fun h=>by cases h
   rcases hy with ⟨e,hs⟩ | ⟨e,hs⟩
   ·rw [e] at c; cases c
   ·exact absurd (v.suites i x hx).1 hs
  ·have hs:uR x:=by
    rcases hy with ⟨e,hs⟩ | ⟨e,hs⟩
    ·exact hs
    ·rw [e] at c; cases c
   rw [yK (by omega),aAg,Nr _ _ (by unfold Lo; rw [aJj]; omega),aAg]
   refine Qo (by omega) (fun c=>.inr ⟨rfl,fun v=>absurd (aEk c) (v.suites i x hx).2⟩) fun c=>fun z hz=>?_
   rw [hx] at hz; cases hz
   exact⟨hs,aJb c⟩
 have n2:∀ i,dY e.Suites i:=fun i=>if h:i < e.Suites.length then hV i h else dY.out (by omega)
 show Ok (A6.l2 e (e.Suites.length:Int)) _
 unfold A6.l2
 refine iU (Ok.up ?_)
 refine Xf e.Identities.length (fun i=>∀ x,e.Identities[i]?=some x->Qx x.Key x.KeyId x.Chain=true) (fun i hi' hV=>?_) fun hI=>?_
 ·obtain⟨x,hx⟩:∃ x,e.Identities[i]?=some x:=⟨_,aCv hi'⟩
  show Ok (A6.l4 e (i:Int)) _
  unfold A6.l4
  refine yN hx ?_
  rw [aAs _ _ _ (h.chain x (Fr hx)),aAg]
  refine Qo (by omega) (fun c=>.inr ⟨rfl,fun v=>by rw [v.ids x (Fr hx)] at c; cases c⟩) fun c z hz=>?_
  rw [hx] at hz; cases hz
  simpa using c
 show Ok (A6.l4 e (e.Identities.length:Int)) _
 unfold A6.l4
 refine iU (Ok.up ?_)
 refine Xf e.Anchors.length (fun i=>VA (fun x y:Int=>x < y) e.Anchors i/\∀ x,e.Anchors[i]?=some x->0<=x/\x<=2147483648) (fun i hi' hV=>?_) fun hA=>?_
 ·obtain⟨x,hx⟩:∃ x,e.Anchors[i]?=some x:=⟨_,aCv hi'⟩
  show Ok (A6.l5 e (i:Int)) _
  unfold A6.l5
  refine yN hx ?_
  refine Ok.cond (fun c=>Qo (by omega) (fun _=>.inr ⟨rfl,fun v=>by have:=aEk c; have:=v.anr x (Fr hx); omega⟩) fun h=>by cases h) fun e1=>?_
  refine Ok.cond (fun c=>Qo (by omega) (fun _=>.inr ⟨rfl,fun v=>by have:=aEk c; have:=v.anr x (Fr hx); omega⟩) fun h=>by cases h) fun e2=>?_
  have e1:=aJb e1
  have e2:=aJb e2
  have hr:∀ z,e.Anchors[i]?=some z->0<=z/\z<=2147483648:=fun z hz=>by rw [hx] at hz; cases hz; omega
  refine uK hi' h.anchors (fun h0=>?_) fun p h0 hp=>?_
  ·exact Qo (by omega) (fun h=>by cases h) fun _=>⟨VA.zero h0,hr⟩
  ·refine Qo (by omega) (fun c=>.inr ⟨rfl,fun v=>?_⟩) fun c=>⟨VA.at hp hx (by have:=aJb c; omega),hr⟩
   have:=v.ana i p x h0 hp hx
   have:=aEk c
   omega
 show Ok (A6.l5 e (e.Anchors.length:Int)) _
 unfold A6.l5
 refine iU (Ok.up ?_)
 refine Xf e.Hashes.length (fun i=>VA (fun x y:Int=>x < y) e.Hashes i/\∀ x,e.Hashes[i]?=some x->Ur x=1) (fun i hi' hV=>?_) fun hH=>?_
 ·obtain⟨x,hx⟩:∃ x,e.Hashes[i]?=some x:=⟨_,aCv hi'⟩
  show Ok (A6.l7 e (i:Int)) _
  unfold A6.l7
  refine yN hx ?_
  rw [gM,aAg]
  refine Ok.cond (fun c=>Qo (by omega) (fun _=>.inr ⟨rfl,fun v=>by rw [aA4 (v.har x (Fr hx))] at c; cases c⟩) fun h=>by cases h) fun e1=>?_
  have hr:∀ z,e.Hashes[i]?=some z->Ur z=1:=fun z hz=>by rw [hx] at hz; cases hz; simpa using e1
  refine uK hi' h.hashes (fun h0=>?_) fun p h0 hp=>?_
  ·exact Qo (by omega) (fun h=>by cases h) fun _=>⟨VA.zero h0,hr⟩
  ·refine Qo (by omega) (fun c=>.inr ⟨rfl,fun v=>?_⟩) fun c=>⟨VA.at hp hx (by have:=aJb c; omega),hr⟩
   have:=v.haa i p x h0 hp hx
   have:=aEk c
   omega
 show Ok (A6.l7 e (e.Hashes.length:Int)) _
 unfold A6.l7
 refine iU (Ok.up (Dc.yes ?_))
 exact⟨by simpa using c1,by omega,by omega,by omega,n2,by omega,by omega,fun i=>if h:i < e.Anchors.length then (hA i h).1 else VA.out (by omega),fun i=>if h:i < e.Hashes.length then (hH i h).1 else VA.out (by omega),Y1 hI,Y1 fun i hi=>(hA i hi).2,Y1 fun i hi=>(hH i hi).2⟩
theorem Sh {e:Ac} (h:Pt e):A6 e=Bp e:=Dc.same (U2 h) (Jn h)
end
section
open Go
end
section
open Go
theorem Xa (n:Int):Ok (Iw n) (fun _=>True):=by
 unfold Iw
 refine Ok.bind (Qi n) fun y _=>Ok.cond (fun _=>Ok.ret trivial) fun _=>?_
 rw [Oq,aAg]
 exact Ok.ret trivial
theorem aEm {l:List Int} (hl:l.length<=1000):Ok (Ee l) (fun r=>r.Perm l):=by
 unfold Ee
 refine Ok.loop (fun s:Int×List Int=>∃ i:Nat,s.1=(i:Int)/\i<=l.length/\s.2.Perm (l.take i)) (fun s=>l.length - s.1.toNat) ?_ ⟨0,rfl,aOm _,by simp⟩
 rintro⟨_,out⟩ ⟨i,rfl,hi,hp⟩
 dsimp only at hp
 have hol:out.length=i:=by have:=hp.length_eq; rw [aJj] at this; omega
 show Ok (Ee.l1 l (i:Int) out) _
 unfold Ee.l1
 refine Ok.cond (fun hb=>?_) fun hb=>?_
 ·have hil:i < l.length:=by have:=aEk hb; omega
  obtain⟨x,hx⟩:∃ x,l[i]?=some x:=⟨_,aCv hil⟩
  refine Ok.loop (fun k:Int=>0<=k/\k<=(out.length:Int)) (fun k=>k.toNat) ?_ ⟨by omega,by omega⟩
  rintro k ⟨hk1,hk2⟩
  show Ok (Ee.l2 l (i:Int) out k) _
  generalize hT:(Rd' (fun s':Int=>(0<=s'/\s'<=(out.length:Int))/\s'.toNat < k.toNat) (Rd' (fun s':Int×List Int=>(∃ i:Nat,s'.1=(i:Int)/\i<=l.length/\s'.2.Perm (l.take i))/\l.length - s'.1.toNat < l.length - ((i:Nat):Int).toNat) (fun r:List Int=>r.Perm l)))=T
  have J:∀ b,(b=true->0 < k)->Ok (Ee.j3 l (i:Int) out k b) T:=by
   intro b hb
   unfold Ee.j3
   rw [<- hT]
   refine Ok.cond (fun h=>?_) fun _=>?_
   ·have:=hb h
    rw [Ej (by omega)]
    exact Ok.ret ⟨by omega,by omega⟩
   ·refine Ok.up ?_
    refine Ok.bind (nY (by omega)) fun _ _=>?_
    have ht:(out.drop (0:Int).toNat).take (k.toNat - (0:Int).toNat)=out.take k.toNat:=by simp
    have hd:(out.drop k.toNat).take ((out.length:Int).toNat - k.toNat)=out.drop k.toNat:=by
     rw [aJ0]; rw [aJ4]; omega
    rw [ht,hd]
    refine Ok.bind (Ky (by simp; omega)) fun l3 h3=>?_
    subst h3
    rw [Ef,hx,aAg]
    refine Ok.bind (Ky (by simp; omega)) fun l4 h4=>?_
    subst h4
    refine Ok.bind (nY (by omega)) fun _ _=>?_
    refine Ok.bind (Ky (by simp; omega)) fun l6 h6=>?_
    subst h6
    rw [Ej (by omega)]
    refine Ok.ret ⟨⟨i + 1,by show (i:Int) + 1=_; omega,hil,?_⟩,by show l.length - ((i:Int) + 1).toNat < l.length - ((i:Nat):Int).toNat; omega⟩
    show ([] ++ out.take k.toNat ++ [x] ++ out.drop k.toNat).Perm _
    rw [I9 hx,aSw,aTn]
    refine List.Perm.trans ?_ (hp.append_right [x])
    refine List.Perm.trans (List.Perm.append_left _ List.perm_append_comm) ?_
    rw [<- aTn,aW8]
  unfold Ee.l2
  refine Ok.cond (fun hk=>?_) fun hk=>J false fun h=>by cases h
  have hk:=aEk hk
  rw [Ej (by omega)]
  refine Ok.bind (Pl (by omega) (by omega)) fun e _=>?_
  refine Ok.bind (Xa e) fun y _=>?_
  rw [Ef,hx,aAg]
  exact Ok.bind (Xa x) fun y2 _=>J _ fun _=>hk
 ·have hil:i=l.length:=by have:=aJb hb; omega
  subst hil
  rw [aR2] at hp
  exact Ok.up (Ok.ret hp)
theorem bD {l:List Int} (h:l.Nodup) (hr:∀ x∈l,uR x) (i:Nat):dY l i:=fun x hx=>by
 refine⟨hr x (Fr hx),fun hm=>?_⟩
 obtain⟨j,hj,he⟩:=List.mem_take_iff_getElem.1 hm
 rw [List.nodup_iff_pairwise_ne,aV6] at h
 have hi:=G3 hx
 have:=h j i (by omega) hi (by omega)
 rw [aCv hi] at hx
 exact this (by rw [he]; exact (oi_ hx).symm)
theorem yX {d:Ad} (h:L5 d):Ok (Fc d) (fun y=>(y.1.length<=10/\∀ i,dY y.1 i)/\L5 y.2):=by
 unfold Fc
 refine Ok.bind (Hh h 9 (by omega) (by omega)) fun y hy=>?_
 have hy1:=hy.1
 rw [Ej (x:=2 + y.1) (by omega)]
 refine Ok.loop (fun s:Int×Ad×List Int=>(0<=s.1/\(s.2.2.length:Int) + s.1<=10)/\L5 s.2.1/\s.2.2.Nodup/\∀ x∈s.2.2,uR x) (fun s=>s.1.toNat) ?_ ⟨⟨by show 0<=2 + y.1; omega,by show (0:Int) + (2 + y.1)<=10; omega⟩,hy.2,List.nodup_nil,fun x hx=>by cases hx⟩
 rintro⟨i,d,l⟩ ⟨⟨h1,h2⟩,hd,hn,hr⟩
 dsimp only at h1 h2 hd hn hr
 show Ok (Fc.l1 i d l) _
 unfold Fc.l1
 refine Ok.cond (fun hb=>?_) fun hb=>?_
 ·have hb:=aEk hb
  refine Ok.bind (Hh hd 16 (by omega) (by omega)) fun z hz=>?_
  have hz1:=hz.1
  rw [Ej (x:=1 + z.1) (by omega),Nr _ _ (by unfold Lo; omega),aAg]
  refine Ok.cond (fun hc=>?_) fun hc=>?_
  ·refine Ok.bind (Ky (by simp; omega)) fun l' hl'=>?_
   subst hl'
   unfold Fc.j2
   rw [Ej (by omega)]
   have hni:(1 + z.1)∉l:=by simpa using hc
   refine Ok.ret ⟨⟨⟨by show 0<=i - 1; omega,?_⟩,hz.2,?_,fun x hx=>?_⟩,by show (i - 1).toNat < i.toNat; omega⟩
   ·show (((l ++ [1 + z.1]).length:Nat):Int) + (i - 1)<=10
    rw [aF3,aF7]; omega
   ·show (l ++ [1 + z.1]).Nodup
    rw [List.nodup_append]
    exact⟨hn,by simp,fun a ha b hb e=>by rw [aF4] at hb; subst hb; subst e; exact hni ha⟩
   ·rcases aHs.1 hx with hx | hx
    ·exact hr x hx
    ·rw [aF4] at hx
     subst hx
     exact⟨by omega,by omega⟩
  ·unfold Fc.j2
   rw [Ej (by omega)]
   exact Ok.ret ⟨⟨⟨by show 0<=i - 1; omega,by show (l.length:Int) + (i - 1)<=10; omega⟩,hz.2,hn,hr⟩,by show (i - 1).toNat < i.toNat; omega⟩
 ·refine Ok.up ?_
  refine Ok.bind (Q7 hd 4 (by omega) (by omega)) fun z hz=>?_
  refine Ok.cond (fun _=>?_) fun _=>Ok.ret ⟨⟨by show l.length<=10; omega,bD hn hr⟩,hz⟩
  refine Ok.bind (aEm (by omega)) fun r hp=>Ok.ret ⟨⟨by show r.length<=10; have:=hp.length_eq; omega,bD (hp.nodup_iff.2 hn) fun x hx=>hr x (hp.mem_iff.1 hx)⟩,hz⟩
structure IdM (x:Al):Prop where
 key:qB x.Key
 id:0<=x.KeyId/\x.KeyId<=1000
 len:x.Chain.length<=3
 chain:∀ c∈x.Chain,F6 c=true/\Nl c
 head:Zu x.Key x.KeyId x.Chain=true
theorem IdM.shows {x:Al} (h:IdM x):Qx x.Key x.KeyId x.Chain=true:=aE9 h.key.2 (by have:=h.id; omega) (by have:=h.len; omega) (fun c hc=>(h.chain c hc).1) h.head
def aOj:List (List Int):=[[1,2],[1,2],[1],[2,11],[]]
def aH7:List (List Int):=[[1,2,3,4],[2,3,4],[3,4]]
structure EpM (name:ByteArray) (e:Ac):Prop where
 name:e.Name=name
 least:1<=e.Least
 most:e.Least<=e.Most
 most4:e.Most<=4
 sn:e.Suites.length<=10
 suites:∀ i,dY e.Suites i
 idn:e.Identities.length<=3
 ids:∀ x∈e.Identities,IdM x
 anchors:e.Anchors∈aOj
 hashes:e.Hashes∈aH7
theorem mN {l:List Int} (h:(List.range l.length).all (fun i=>decide (i=0) || decide (l.getD (i - 1) 0 < l.getD i 0))=true) (i:Nat):VA (fun x y:Int=>x < y) l i:=fun x y h0 hx hy=>by
 have hi:=G3 hy
 have:=aH8.1 h i (aSn.2 hi)
 rw [aAw (by omega),aZk,Ph hx,Ph hy] at this
 exact aEk this
theorem EpM.fit {name:ByteArray} (hn:name.size<=32) {e:Ac} (h:EpM name e):Pt e:=by
 have h1:=h.sn
 have h2:=h.idn
 refine⟨by rw [h.name]; omega,by unfold Lo; omega,by unfold Lo; omega,?_,?_,fun x hx c hc=>((h.ids x hx).chain c hc).2.w⟩
 ·have:=h.anchors
  unfold aOj at this
  simp only [aF2,aF6,aQe] at this
  rcases this with e | e | e | e | e <;> rw [e] <;> (unfold Lo; decide)
 ·have:=h.hashes
  unfold aH7 at this
  simp only [aF2,aF6,aQe] at this
  rcases this with e | e | e <;> rw [e] <;> (unfold Lo; decide)
theorem EpM.valid {name:ByteArray} (hw:fI name=true) {e:Ac} (h:EpM name e):EpV e:=by
 have hi:=h.idn
 have ha:=h.anchors
 have hh:=h.hashes
 unfold aOj at ha
 unfold aH7 at hh
 simp only [aF2,aF6,aQe] at ha hh
 refine⟨by rw [h.name]; exact hw,h.least,h.most,h.most4,h.suites,by omega,?_,?_,?_,fun x hx=>(h.ids x hx).shows,?_,?_⟩
 ·rcases ha with e | e | e | e | e <;> rw [e] <;> decide
 ·rcases ha with e | e | e | e | e <;> rw [e] <;> exact mN (by decide)
 ·rcases hh with e | e | e <;> rw [e] <;> exact mN (by decide)
 ·rcases ha with e | e | e | e | e <;> rw [e] <;> decide
 ·rcases hh with e | e | e <;> rw [e] <;> decide +kernel
theorem aP7 {n:Int} (h:0<=n/\n<=100000):Sm n:=h
theorem aFi {d:Ad} (h:L5 d) {a:Int} (ha:a∈([5,7]:List Int)):Ok (C9 d a) (fun y=>qB ⟨a,y.1⟩/\L5 y.2):=by
 have h5:∀ b∈([2048,1024,512,3072,1023,4096,16384]:List Int),qB ⟨5,b⟩:=fun b hb=>⟨⟨aP7 ⟨by show (0:Int)<=5; omega,by show (5:Int)<=100000; omega⟩,bT (by decide) hb⟩,gG (by decide +kernel) hb⟩
 have h7:∀ b∈([256,160,224,384,521]:List Int),qB ⟨7,b⟩:=fun b hb=>⟨⟨aP7 ⟨by show (0:Int)<=7; omega,by show (7:Int)<=100000; omega⟩,bT (by decide) hb⟩,gG (by decide +kernel) hb⟩
 simp only [aF2,aF6,aQe] at ha
 rcases ha with rfl | rfl
 ·unfold C9
  exact Ok.bind (Io h _ (by decide) (by decide)) fun y hy=>Ok.ret ⟨h5 _ hy.1,hy.2⟩
 ·unfold C9
  exact Ok.bind (Io h _ (by decide) (by decide)) fun y hy=>Ok.ret ⟨h7 _ hy.1,hy.2⟩
theorem Y8 {d:Ad} (h:L5 d):L5 (Ad.mk d.L d.At):=h
theorem bU {d:Ad} (h:L5 d) {name:ByteArray} (hn:Ha name=true) (hn31:name.size<=31):Ok (B9 d name) (fun y=>EpM name y.1/\L5 y.2):=by
 unfold B9
 refine Ok.bind (Io h _ (by decide) (by decide)) fun y hy=>?_
 have b1:1<=y.1/\y.1<=3:=by
  have:=hy.1
  simp only [aF2,aF6,aQe] at this
  omega
 refine Ok.bind (yX hy.2) fun y2 h2=>?_
 refine Ok.bind (Q7 h2.2 2 (by omega) (by omega)) fun y3 h3=>?_
 refine Ok.bind (Q7 h3 2 (by omega) (by omega)) fun y4 h4=>?_
 rw [Ej (x:=5 - y.1) (by omega)]
 refine Ok.bind (Hh h4 (5 - y.1) (by omega) (by omega)) fun y5 h5=>?_
 have b5:=h5.1
 refine Ok.bind (Hh h5.2 3 (by omega) (by omega)) fun y6 h6=>?_
 have J:∀ (d:Ad) (a b:Int),L5 d->1<=a->a<=b->b<=4->Ok (B9.j1 name y2 y3 y4 d.L d.At a b) (fun y=>EpM name y.1/\L5 y.2):=by
  intro d a b hd ha hab hb
  unfold B9.j1
  refine Ok.bind (Io (Y8 hd) _ (by decide) (by decide)) fun y8 h8=>?_
  have b8:0<=y8.1/\y8.1<=3:=by
   have:=h8.1
   simp only [aF2,aF6,aQe] at this
   omega
  refine Ok.loop (fun s:Int×List Int×Int×List Al=>0<=s.1/\s.1 + (s.2.2.2.length:Int)<=3/\L5 (Ad.mk s.2.1 s.2.2.1)/\∀ x∈s.2.2.2,IdM x) (fun s=>s.1.toNat) ?_ ⟨b8.1,by show y8.1 + ((([]:List Al).length:Nat):Int)<=3; simp; omega,Y8 h8.2,fun x hx=>by cases hx⟩
  rintro⟨i,dl,da,l⟩ ⟨k1,k2,kd,kl⟩
  dsimp only at k1 k2 kd kl
  show Ok (B9.l2 name y2 y3 y4 a b i dl da l) _
  unfold B9.l2
  refine Ok.cond (fun hb=>?_) fun hb=>?_
  ·have hb:=aEk hb
   refine Ok.bind (aIx kd) fun y9 h9=>?_
   refine Ok.bind (Hh h9.2 3 (by omega) (by omega)) fun y10 h10=>?_
   generalize hT:(Rd' (fun s':Int×List Int×Int×List Al=>(0<=s'.1/\s'.1 + (s'.2.2.2.length:Int)<=3/\L5 (Ad.mk s'.2.1 s'.2.2.1)/\∀ x∈s'.2.2.2,IdM x)/\s'.1.toNat < i.toNat) (fun y:Ac×Ad=>EpM name y.1/\L5 y.2))=T
   have K:∀ (d:Ad) (u v:Int),L5 d->qB ⟨u,v⟩->Ok (B9.j3 name i l d.L d.At u v) T:=by
    intro d u v hd hk
    unfold B9.j3
    refine Ok.bind (Hh (Y8 hd) 20 (by omega) (by omega)) fun y13 h13=>?_
    have b13:=h13.1
    refine Ok.bind (Q7 h13.2 9 (by omega) (by omega)) fun y14 h14=>?_
    rw [Ej (x:=100 + y13.1) (by omega)]
    have L:∀ (dl:List Int) (da:Int) (ch:List Ae),L5 (Ad.mk dl da)->IdM ⟨⟨u,v⟩,100 + y13.1,ch⟩->Ok (B9.j4 i l u v y13 dl da ch) T:=by
     intro dl da ch hd hi
     unfold B9.j4
     refine Ok.bind (Ky (by simp; omega)) fun l' hl'=>?_
     subst hl'
     rw [<- hT,Ej (x:=i - 1) (by omega),Ej (x:=100 + y13.1) (by omega)]
     refine Ok.ret ⟨⟨by show 0<=i - 1; omega,?_,hd,fun x hx=>?_⟩,by show (i - 1).toNat < i.toNat; omega⟩
     ·show i - 1 + (((l ++ [Al.mk (Ao.mk u v) (100 + y13.1) ch]).length:Nat):Int)<=3
      rw [aF3,aF7]; omega
     ·rcases aHs.1 hx with hx | hx
      ·exact kl x hx
      ·rw [aF4] at hx
       subst hx
       exact hi
    refine Ok.cond (fun _=>?_) fun _=>L _ _ _ (Y8 h14) ⟨hk,⟨by show 0<=100 + y13.1; omega,by show 100 + y13.1<=1000; omega⟩,aOm _,fun c hc=>(by cases hc),rfl⟩
    refine Ok.bind (lF h14 hn hn31 hk (by omega)) fun y15 h15=>?_
    exact L _ _ _ (Y8 h15.2) ⟨hk,⟨by show 0<=100 + y13.1; omega,by show 100 + y13.1<=1000; omega⟩,h15.1.1,h15.1.2.1,h15.1.2.2⟩
   refine Ok.cond (fun _=>?_) fun _=>K _ _ _ h10.2 h9.1
   refine Ok.bind (Io h10.2 _ (by decide) (by decide)) fun y11 h11=>?_
   refine Ok.bind (aFi h11.2 h11.1) fun y12 h12=>?_
   exact K _ _ _ h12.2 h12.1
  ·refine Ok.up ?_
   refine Ok.bind (Hh kd 5 (by omega) (by omega)) fun y16 h16=>?_
   refine Ok.bind (Pl h16.1.1 (by show y16.1 < (5:Int); exact h16.1.2)) fun e he=>?_
   refine Ok.bind (Hh h16.2 3 (by omega) (by omega)) fun y17 h17=>?_
   refine Ok.bind (Pl h17.1.1 (by show y17.1 < (3:Int); exact h17.1.2)) fun e2 he2=>?_
   exact Ok.ret ⟨⟨rfl,ha,hab,by assumption,h2.1.1,h2.1.2,by show l.length<=3; omega,kl,he,he2⟩,h17.2⟩
 refine Ok.cond (fun _=>?_) fun _=>?_
 ·refine Ok.bind (Io h6.2 _ (by decide) (by decide)) fun y7 h7=>?_
  have b7:2<=y7.1/\y7.1<=4:=by
   have:=h7.1
   simp only [aF2,aF6,aQe] at this
   omega
  exact J _ _ _ h7.2 (by omega) (by omega) (by omega)
 ·rw [Ej (x:=y.1 + y5.1) (by omega)]
  exact J _ _ _ h6.2 (by omega) (by omega) (by omega)
end
end Go.Proofs.YtobamahlipiakaaGreat
