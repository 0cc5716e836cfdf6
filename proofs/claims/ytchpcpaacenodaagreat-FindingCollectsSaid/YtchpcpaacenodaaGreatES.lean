/- Plain texts, joined. No program is in sight here. -/
import Derived.Test.YtchpcpaacenodaaGreatSH
set_option autoImplicit false
set_option linter.unusedVariables false
set_option linter.unusedSimpArgs false
namespace Go.Proofs.YtchpcpaacenodaaGreat
section
open Go
theorem Sk {R:Type} {body:Int->Option (Lp Int R)} {Q:R->Prop} (n:Nat) (V:Nat->Prop)
  (h1:∀ i,i < n->(∀ j,j < i->V j)->Ok (body (i:Int)) (xS (fun s'=>s'=((i + 1:Nat):Int)/\V i) Q))
  (h2:(∀ j,j < n->V j)->Ok (body (n:Int)) (xS (fun _=>False) Q)):Ok (Cl body 0) Q:=by
 refine Ok.loop (fun s=>∃ i:Nat,s=(i:Int)/\i<=n/\∀ j,j < i->V j) (fun s=>n - s.toNat) ?_ ⟨0,rfl,aHc _,fun j hj=>absurd hj (Nat.not_lt_zero _)⟩
 rintro _ ⟨i,rfl,hi,hV⟩
 by_cases hn:i < n
 ·refine (h1 i hn hV).mono fun o ho=>?_
  cases o with
  | done r=>exact ho
  | next s'=>
   obtain⟨rfl,hv⟩:=ho
   refine⟨⟨i + 1,rfl,hn,fun j hj=>?_⟩,by show n - ((i + 1:Nat):Int).toNat < n - ((i:Nat):Int).toNat; omega⟩
   by_cases e:j=i
   ·rw [e]; exact hv
   ·exact hV j (by omega)
 ·obtain rfl:i=n:=by omega
  refine (h2 hV).mono fun o ho=>?_
  cases o with
  | done r=>exact ho
  | next s'=>exact ho.elim
theorem K7 {R:Type} {i:Nat} {b:Bool} {r:R} {V:Prop} {Q:R->Prop} (hi:i < 4611686018427387904) (h1:b=true->Q r) (h2:b=false->V):Ok (cond b (up (some r)) (some (.next (W ((i:Int) + 1))))) (xS (fun s'=>s'=((i + 1:Nat):Int)/\V) Q):=by
 refine Ok.cond (fun h=>Ok.up (Ok.ret (h1 h))) fun h=>Ok.ret ⟨Iq hi,h2 h⟩
theorem kP {α T:Type} {l:List α} {i:Nat} (hi:i < l.length) (hl:Lo l) {k:α->Option T} {z:Option T} {Q:T->Prop} (h0:i=0->Ok z Q) (h1:∀ x,0 < i->l[i - 1]?=some x->Ok (k x) Q) :
  Ok (cond (decide (0 < (i:Int))) ((B8 l (W ((i:Int) - 1))).bind k) z) Q:=by
 unfold Lo at hl
 refine Ok.cond (fun h=>?_) fun h=>h0 (by have:=aD7 h; omega)
 have h:=aCl h
 obtain⟨x,hx⟩:∃ x,l[i - 1]?=some x:=⟨_,aBo (by omega)⟩
 rw [Es (by omega),show (i:Int) - 1=((i - 1:Nat):Int) by omega,D6,hx]
 exact h1 x (by omega) hx
theorem jT {α T:Type} {l:List α} {i:Nat} {k:α->Option T} {e:Option T} {Q:T->Prop} {x:α} (hx:l[i]?=some x) (h:Ok (k x) Q):Ok (cond (decide ((i:Int) < (l.length:Int))) ((B8 l (i:Int)).bind k) e) Q:=by
 rw [G7 hx]; exact h
theorem Wq {T:Type} {n:Nat} {a e:Option T} {Q:T->Prop} (h:Ok e Q):Ok (cond (decide ((n:Int) < (n:Int))) a e) Q:=by
 rw [Fs]; exact h
def VA {α:Type} (R:α->α->Prop) (l:List α) (i:Nat):Prop:=∀ x y,0 < i->l[i - 1]?=some x->l[i]?=some y->R x y
theorem VA.zero {α:Type} {R:α->α->Prop} {l:List α} {i:Nat} (h:i=0):VA R l i:=fun x y h0=>by omega
theorem VA.at {α:Type} {R:α->α->Prop} {l:List α} {i:Nat} {x y:α} (hx:l[i - 1]?=some x) (hy:l[i]?=some y) (h:R x y):VA R l i:=fun a b _ ha hb=>by
 rw [hx] at ha; rw [hy] at hb
 cases ha; cases hb; exact h
theorem VA.out {α:Type} {R:α->α->Prop} {l:List α} {i:Nat} (h:l.length<=i):VA R l i:=fun x y _ _ hy=>by have:=Lb hy; omega
def Dc (k:Int) (V:Prop) (y:Int):Prop:=(y=0/\V)\/(y=k/\¬ V)
theorem Dc.no {k:Int} {V:Prop} (h:¬ V):Ok (some k) (Dc k V):=Ok.ret (.inr ⟨rfl,h⟩)
theorem Dc.yes {k:Int} {V:Prop} (h:V):Ok (some 0) (Dc k V):=Ok.ret (.inl ⟨rfl,h⟩)
theorem Dc.same {k:Int} {V:Prop} {x y:Option Int} (h:Ok x (Dc k V)) (g:Ok y (Dc k V)):x=y:=by
 obtain⟨a,rfl,h⟩:=h
 obtain⟨b,rfl,g⟩:=g
 rcases h with ⟨rfl,h⟩ | ⟨rfl,h⟩ <;> rcases g with ⟨rfl,g⟩ | ⟨rfl,g⟩
 ·rfl
 ·exact absurd h g
 ·exact absurd g h
 ·rfl
theorem Dc.zero {k:Int} {V:Prop} {x:Option Int} (h:Ok x (Dc k V)) (v:V):x=some 0:=by
 obtain⟨a,rfl,h⟩:=h
 rcases h with ⟨rfl,h⟩ | ⟨rfl,h⟩
 ·rfl
 ·exact absurd v h
def cQ (c:UInt8):Bool:=(decide ((c.toNat:Int) < 97) || decide (122 < (c.toNat:Int))) && ((decide ((c.toNat:Int) < 65) || decide (90 < (c.toNat:Int))) && ((decide ((c.toNat:Int) < 48) || decide (57 < (c.toNat:Int))) && (!decide ((c.toNat:Int)=45) && (!decide ((c.toNat:Int)=95) && !decide ((c.toNat:Int)=46)))))
def cX (s:ByteArray):Bool:=decide (1<=(s.size:Int)) && decide ((s.size:Int)<=32) && !(Hg s).any cQ
theorem lP (c:UInt8):decide (0<=gI ⟨#[45,95,46]⟩ c)=!(!decide ((c.toNat:Int)=45) && (!decide ((c.toNat:Int)=95) && !decide ((c.toNat:Int)=46))):=by
 have h:∀ n:Fin 256,decide (0<=gI ⟨#[45,95,46]⟩ (UInt8.ofNat n.val))=!(!decide (((UInt8.ofNat n.val).toNat:Int)=45) && (!decide (((UInt8.ofNat n.val).toNat:Int)=95) && !decide (((UInt8.ofNat n.val).toNat:Int)=46))):=by decide +kernel
 have:=h ⟨c.toNat,c.toNat_lt⟩
 simpa using this
theorem oT (c:UInt8):I2 c ⟨#[45,95,46]⟩=some (!cQ c):=by
 have e:∀ a:Int,decide (a<=(c.toNat:Int))=!decide ((c.toNat:Int) < a):=fun a=>by
  by_cases h:(c.toNat:Int) < a
  ·rw [aAe h,aAg (by omega)]; rfl
  ·rw [aAg h,aAe (by omega)]; rfl
 have f:∀ a:Int,decide ((c.toNat:Int)<=a)=!decide (a < (c.toNat:Int)):=fun a=>by
  by_cases h:a < (c.toNat:Int)
  ·rw [aAe h,aAg (by omega)]; rfl
  ·rw [aAg h,aAe (by omega)]; rfl
 have i:∀ k:Bool->Option Bool,((Ed ⟨#[45,95,46]⟩ c).bind fun y=>some (decide (0<=y)))=some (!(!decide ((c.toNat:Int)=45) && (!decide ((c.toNat:Int)=95) && !decide ((c.toNat:Int)=46)))):=fun _=>by
  rw [<- lP]; rfl
 have i:=i some
 unfold I2 cQ
 simp only [i,e,f]
 generalize decide ((c.toNat:Int) < 97)=a1
 generalize decide (122 < (c.toNat:Int))=a2
 generalize decide ((c.toNat:Int) < 65)=a3
 generalize decide (90 < (c.toNat:Int))=a4
 generalize decide ((c.toNat:Int) < 48)=a5
 generalize decide (57 < (c.toNat:Int))=a6
 generalize (!decide ((c.toNat:Int)=45) && (!decide ((c.toNat:Int)=95) && !decide ((c.toNat:Int)=46)))=a7
 cases a1 <;> cases a2 <;> cases a3 <;> cases a4 <;> cases a5 <;> cases a6 <;> rfl
theorem X0 (s:ByteArray) (hs:s.size<=9223372036854775807):El s=some (cX s):=by
 unfold El cX
 refine (Rn (body:=fun q'=>El.l1 s q') (Hg s) (fun i=>(i:Int)) cQ false (decide (1<=(s.size:Int)) && decide ((s.size:Int)<=32)) (fun i c hc=>?_) ?_).trans ?_
 ·have h1:=Lb hc
  rw [Se] at h1
  show El.l1 s (i:Int)=_
  unfold El.l1
  rw [G7 hc,oT,aAc,Bool.not_not,Ud h1 hs]
  cases cQ c <;> rfl
 ·show El.l1 s ((Hg s).length:Int)=_
  unfold El.l1
  rw [Fs]
  by_cases a:(1:Int)<=(s.size:Int) <;> simp [a,up]
 ·cases (Hg s).any cQ <;> simp
theorem cI (s:ByteArray) (hs:s.size<=9223372036854775807):Bk s=some (cX s):=by
 unfold Bk cX
 have hl:Bk.j1 s false=some (!(Hg s).any cQ):=by
  unfold Bk.j1
  rw [aCx]
  refine (Rn (body:=fun q'=>Bk.l2 s q') (Hg s) (fun i=>(i:Int)) cQ false true (fun i c hc=>?_) ?_).trans ?_
  ·have h1:=Lb hc
   rw [Se] at h1
   show Bk.l2 s (i:Int)=_
   unfold Bk.l2 Bk.j3 cQ
   rw [aAe (by omega),aD8,nG hc,aAc,Ud h1 hs]
   generalize decide ((c.toNat:Int) < 97)=a1
   generalize decide (122 < (c.toNat:Int))=a2
   generalize decide ((c.toNat:Int) < 65)=a3
   generalize decide (90 < (c.toNat:Int))=a4
   generalize decide ((c.toNat:Int) < 48)=a5
   generalize decide (57 < (c.toNat:Int))=a6
   generalize decide ((c.toNat:Int)=45)=a7
   generalize decide ((c.toNat:Int)=95)=a8
   generalize decide ((c.toNat:Int)=46)=a9
   cases a7 <;> cases a8 <;> cases a9 <;> cases a1 <;> cases a2 <;> cases a3 <;> cases a4 <;> cases a5 <;> cases a6 <;> rfl
  ·show Bk.l2 s ((Hg s).length:Int)=_
   unfold Bk.l2
   rw [Se,Fs]; rfl
  ·cases (Hg s).any cQ <;> rfl
 by_cases a:(s.size:Int) < 1
 ·rw [aAe a,aAg (show ¬ (1:Int)<=(s.size:Int) by omega)]; rfl
 ·rw [aAg a,aAe (show (1:Int)<=(s.size:Int) by omega),aCx]
  by_cases b:32 < (s.size:Int)
  ·rw [aAe b,aAg (show ¬ (s.size:Int)<=32 by omega)]; rfl
  ·rw [aAg b,aAe (show (s.size:Int)<=32 by omega),hl]; rfl
def zR (n:Int):Prop:=1<=n/\n<=16
theorem Z9:∃ l,Di=some l/\l.length=16:=by
 unfold Di Cy
 simp only [aAc]
 refine Ok.loop (fun s:Int×List A4=>∃ i:Nat,s.1=(i:Int)/\i<=16/\s.2.length=16) (fun s=>16 - s.1.toNat) ?_ ⟨0,rfl,by omega,rfl⟩
 rintro⟨_,l⟩ ⟨i,rfl,hi,hl⟩
 dsimp only at hl
 show Ok (Di.l1 _ _ _ _ _ _ _ _ _ _ _ _ _ _ _ _ _ _ _ _ _ _ (i:Int) l) _
 unfold Di.l1
 refine Ok.cond (fun h=>?_) fun _=>Ok.up (Ok.ret hl)
 have h:(i:Int) < 16:=aCl h
 refine Ok.bind (W8 (by omega) (by omega)) fun e _=>Ok.ret ⟨⟨i + 1,by show W ((i:Int) + 1)=_; rw [Es (by omega)]; omega,by omega,?_⟩,?_⟩
 ·show (Db l _ _).length=16
  unfold Db
  rw [aKc]; exact hl
 ·show 16 - (W ((i:Int) + 1)).toNat < 16 - ((i:Nat):Int).toNat
  rw [Es (by omega)]; omega
theorem Tu:∃ l,Jl=some l/\l.length=16:=⟨_,rfl,rfl⟩
theorem eT (n:Int):Ok (Df n) (fun y=>Dc 8 (zR n) y.2):=by
 obtain⟨l,hl,hlen⟩:∃ l,Di=some l/\l.length=16:=Z9
 unfold Df
 rw [hl,aAc]
 refine Ok.cond (fun h=>?_) fun h=>?_
 ·exact Ok.ret (.inr ⟨rfl,fun v=>by have:=aCl h; have:=v.1; omega⟩)
 ·have h:=aD7 h
  refine Ok.cond (fun g=>Ok.ret (.inr ⟨rfl,fun v=>by have:=aCl g; have:=v.2; omega⟩)) fun g=>?_
  have g:=aD7 g
  rw [Es (by omega)]
  exact Ok.bind (W8 (by omega) (by omega)) fun e _=>Ok.ret (.inl ⟨rfl,by omega,by omega⟩)
theorem Ws (n:Int):Ok (D8 n) (fun y=>Dc 8 (zR n) y.2):=by
 obtain⟨l,hl,hlen⟩:∃ l,Jl=some l/\l.length=16:=Tu
 unfold D8
 refine Ok.cond (fun h=>?_) fun h=>?_
 ·exact Ok.ret (.inr ⟨rfl,fun v=>by have:=aCl h; have:=v.1; omega⟩)
 ·have h:=aD7 h
  refine Ok.cond (fun g=>Ok.ret (.inr ⟨rfl,fun v=>by have:=aCl g; have:=v.2; omega⟩)) fun g=>?_
  have g:=aD7 g
  rw [hl,aAc,Es (by omega)]
  exact Ok.bind (W8 (by omega) (by omega)) fun e _=>Ok.ret (.inl ⟨rfl,by omega,by omega⟩)
theorem Vx (l:List Int) (n:Int) (h:Lo l):Ft l n=some (decide (n∈l)):=by
 unfold Ft
 refine (Re l (fun x=>decide (x=n)) true false h (fun i x hx=>?_) ?_).trans ?_
 ·show Ft.l1 l n (i:Int)=_
  unfold Ft.l1
  rw [G7 hx]
  cases decide (x=n) <;> rfl
 ·show Ft.l1 l n (l.length:Int)=_
  unfold Ft.l1
  rw [Fs]; rfl
 ·have:(l.any fun x=>decide (x=n))=decide (n∈l):=by
   rw [Bool.eq_iff_iff]; simp
  rw [this]; cases decide (n∈l) <;> rfl
def nS (l:List Int) (i:Nat):Prop:=∀ x,l[i]?=some x->zR x/\x∉l.take i
theorem uX {l:List Int} (h:∀ i,nS l i):l.Nodup:=by
 rw [List.nodup_iff_pairwise_ne,aIs]
 intro i j hi hj hij e
 refine (h j l[j] (aBo hj)).2 ?_
 rw [<- e]
 exact List.mem_take_iff_getElem.2 ⟨i,by omega,rfl⟩
theorem tD:∀ (n:Nat) (l:List Int),l.Nodup->(∀ x∈l,1<=x/\x<=(n:Int))->l.length<=n
 | 0,[],_,_=>aGz _
 | 0,x :: l,_,h=>by have:=h x (.head _); omega
 | n + 1,l,hn,h=>by
  have h1:=tD n (l.erase ((n:Int) + 1)) (hn.erase _) fun x hx=>by
   have:=h x (List.mem_of_mem_erase hx)
   have:x≠(n:Int) + 1:=((hn.mem_erase_iff).1 hx).1
   omega
  have:=List.length_erase (a:=(n:Int) + 1) (l:=l)
  split at this <;> omega
theorem aCm {l:List Int} (h:∀ i,nS l i):l.length<=16:=tD 16 l (uX h) fun x hx=>by
 obtain⟨i,hi⟩:=aJp.1 hx
 exact (h i x hi).1
theorem nS.out {l:List Int} {i:Nat} (h:l.length<=i):nS l i:=fun x hx=>by have:=Lb hx; omega
theorem Zr {l:List Int} {i:Nat} (h:i<=l.length):bZ l 0 (i:Int)=some (l.take i):=by
 unfold bZ
 rw [if_pos (by omega)]
 simp
theorem fX (l:List Int) (hl:Lo l):Ok (C2 l) (fun b=>b=true↔∀ i,nS l i):=by
 have hl':l.length < 4611686018427387904:=hl
 unfold C2
 refine Sk l.length (nS l) (fun i hi hV=>?_) fun hV=>?_
 ·obtain⟨x,hx⟩:∃ x,l[i]?=some x:=⟨_,aBo hi⟩
  show Ok (C2.l1 l (i:Int)) _
  unfold C2.l1
  refine jT hx (Ok.bind (eT x) fun y hy=>?_)
  refine Ok.cond (fun h=>?_) fun h=>?_
  ·refine K7 (by omega) (fun _=>⟨fun h=>(by cases h),fun v=>?_⟩) fun h=>by cases h
   rcases hy with ⟨e,hs⟩ | ⟨e,hs⟩
   ·rw [e] at h; cases h
   ·exact absurd (v i x hx).1 hs
  ·have hs:zR x:=by
    rcases hy with ⟨e,hs⟩ | ⟨e,hs⟩
    ·exact hs
    ·rw [e] at h; cases h
   rw [Zr (by omega),aAc,N0 _ _ (by rw [aGe]; omega),aAc]
   refine K7 (by omega) (fun h=>⟨fun h=>(by cases h),fun v=>?_⟩) fun h=>fun z hz=>?_
   ·exact absurd (aCl h) (v i x hx).2
   ·rw [hx] at hz; cases hz
    exact⟨hs,aD7 h⟩
 ·show Ok (C2.l1 l (l.length:Int)) _
  unfold C2.l1
  exact Wq (Ok.up (Ok.ret ⟨fun _ i=>if h:i < l.length then hV i h else nS.out (by omega),fun _=>rfl⟩))
theorem Vi (l:List Int) (hl:Lo l):Ok (Cq l) (fun b=>b=true↔∀ i,VA (fun x y:Int=>x < y) l i):=by
 have hl':l.length < 4611686018427387904:=hl
 unfold Cq
 refine Sk l.length (VA (fun x y=>x < y) l) (fun i hi hV=>?_) fun hV=>?_
 ·obtain⟨x,hx⟩:∃ x,l[i]?=some x:=⟨_,aBo hi⟩
  show Ok (Cq.l1 l (i:Int)) _
  unfold Cq.l1
  rw [aAe (by omega:(i:Int) < (l.length:Int)),aD8]
  refine kP hi hl (fun h0=>?_) fun p h0 hp=>?_
  ·exact K7 (by omega) (fun h=>by cases h) fun _=>VA.zero h0
  ·rw [D6,hx,aAc]
   refine K7 (by omega) (fun h=>⟨fun h=>(by cases h),fun v=>?_⟩) fun h=>VA.at hp hx (by have:=aD7 h; omega)
   have:=v i p x h0 hp hx
   have:=aCl h
   omega
 ·show Ok (Cq.l1 l (l.length:Int)) _
  unfold Cq.l1
  exact Wq (Ok.up (Ok.ret ⟨fun _ i=>if h:i < l.length then hV i h else VA.out (by omega),fun _=>rfl⟩))
theorem Zw (s:List Int) (f:Int->Option Bool) (p:Int->Bool) (h:Lo s) (hf:∀ x∈s,f x=some (p x)):Ec s f=some (s.any p):=by
 have hi:Br s f=some (gO s p):=by
  unfold Br
  refine lF s p h (fun i x hx=>?_) ?_
  ·show Br.l1 s f (i:Int)=_
   unfold Br.l1
   rw [G7 hx,hf x (Ia hx),aAc]
   cases p x <;> rfl
  ·show Br.l1 s f (s.length:Int)=_
   unfold Br.l1
   rw [Fs]; rfl
 unfold Ec
 rw [hi,aAc,mA]
structure Vc (e:Av):Prop where
 name:e.Name.size<=9223372036854775807
 suites:Lo e.Suites
 ids:Lo e.Identities
 anchors:Lo e.Anchors
 hashes:Lo e.Hashes
 chain:∀ x∈e.Identities,∀ c∈x.Chain,Yv c
structure EpV (e:Av):Prop where
 name:cX e.Name=true
 least:1<=e.Least
 most:e.Least<=e.Most
 most4:e.Most<=4
 suites:∀ i,nS e.Suites i
 idn:e.Identities.length<=4
 ann:e.Anchors.length<=16
 ana:∀ i,VA (fun x y:Int=>x < y) e.Anchors i
 haa:∀ i,VA (fun x y:Int=>x < y) e.Hashes i
 ids:∀ x∈e.Identities,Ja x.Key x.KeyId x.Chain=true
 anr:∀ n∈e.Anchors,0<=n/\n<=2147483648
 har:∀ n∈e.Hashes,Mf n=1
theorem Wf {α:Type} {l:List α} {P:α->Prop} (h:∀ i,i < l.length->∀ x,l[i]?=some x->P x):∀ x∈l,P x:=fun x hx=>by
 obtain⟨i,hi⟩:=aJp.1 hx
 exact h i (Lb hi) x hi
theorem Lw {e:Av} (h:Vc e):Ok (Bm e) (Dc 19 (EpV e)):=by
 have hi:=h.ids
 unfold Lo at hi
 unfold Bm
 rw [X0 _ h.name,aAc]
 refine Ok.cond (fun c=>Dc.no fun v=>by rw [v.name] at c; cases c) fun c1=>?_
 refine Ok.cond (fun c=>Dc.no fun v=>by have:=aCl c; have:=v.least; omega) fun c2=>?_
 refine Ok.cond (fun c=>Dc.no fun v=>by have:=aCl c; have:=v.most; omega) fun c3=>?_
 refine Ok.cond (fun c=>Dc.no fun v=>by have:=aCl c; have:=v.most4; omega) fun c4=>?_
 refine Ok.bind (fX _ h.suites) fun y2 h2=>?_
 refine Ok.cond (fun c=>Dc.no fun v=>by rw [h2.2 v.suites] at c; cases c) fun c5=>?_
 refine Ok.cond (fun c=>Dc.no fun v=>by have:=aCl c; have:=v.idn; omega) fun c6=>?_
 refine Ok.cond (fun c=>Dc.no fun v=>by have:=aCl c; have:=v.ann; omega) fun c7=>?_
 refine Ok.bind (Vi _ h.anchors) fun y3 h3=>?_
 refine Ok.cond (fun c=>Dc.no fun v=>by rw [h3.2 v.ana] at c; cases c) fun c8=>?_
 refine Ok.bind (Vi _ h.hashes) fun y4 h4=>?_
 refine Ok.cond (fun c=>Dc.no fun v=>by rw [h4.2 v.haa] at c; cases c) fun c9=>?_
 have n2:=h2.1 (by simpa using c5)
 have n3:=h3.1 (by simpa using c8)
 have n4:=h4.1 (by simpa using c9)
 have d2:=aD7 c2
 have d3:=aD7 c3
 have d4:=aD7 c4
 have d6:=aD7 c6
 have d7:=aD7 c7
 refine Sk e.Identities.length (fun i=>∀ x,e.Identities[i]?=some x->Ja x.Key x.KeyId x.Chain=true) (fun i hi' hV=>?_) fun hV=>?_
 ·obtain⟨x,hx⟩:∃ x,e.Identities[i]?=some x:=⟨_,aBo hi'⟩
  show Ok (Bm.l3 e (i:Int)) _
  unfold Bm.l3
  refine jT hx ?_
  rw [eD _ _ _ (h.chain x (Ia hx)),aAc]
  refine K7 (by omega) (fun c=>.inr ⟨rfl,fun v=>by rw [v.ids x (Ia hx)] at c; cases c⟩) fun c z hz=>?_
  rw [hx] at hz; cases hz
  simpa using c
 ·show Ok (Bm.l3 e (e.Identities.length:Int)) _
  unfold Bm.l3
  refine Wq (Ok.up ?_)
  refine Ok.bindE (a:=()) rfl (Ok.bindE (Zw _ _ (fun n=>decide (n < 0) || decide (2147483648 < n)) h.anchors fun n _=>?_) ?_)
  ·show ((E4 n).bind fun y=>some (!y))=_
   rw [Ze,aAc,Bool.not_not]
  refine Ok.cond (fun c=>Dc.no fun v=>?_) fun c10=>?_
  ·obtain⟨n,h1,h2⟩:=aHy.1 c
   have:=v.anr n h1
   simp only [aH8,aId] at h2
   omega
  refine Ok.bindE (a:=()) rfl (Ok.bindE (Zw _ _ (fun n=>!decide (Mf n=1)) h.hashes fun n _=>?_) ?_)
  ·show ((J6 n).bind fun y=>some (!y))=_
   unfold J6
   rw [Qv]; rfl
  refine Ok.cond (fun c=>Dc.no fun v=>?_) fun c11=>Dc.yes ?_
  ·obtain⟨n,h1,h2⟩:=aHy.1 c
   rw [aAe (v.har n h1)] at h2
   cases h2
  ·refine⟨by simpa using c1,by omega,by omega,by omega,n2,by omega,by omega,n3,n4,Wf hV,fun n hn=>?_,fun n hn=>?_⟩
   ·have:=aJs.1 c10 n hn
    simp only [aH8,aId] at this
    omega
   ·have:=aJs.1 c11 n hn
    simpa using this
theorem bH {e:Av} (h:Vc e):Ok (A8 e) (Dc 19 (EpV e)):=by
 have hs:=h.suites
 have hi:=h.ids
 have ha:=h.anchors
 have hh:=h.hashes
 unfold Lo at hs hi ha hh
 unfold A8
 rw [cI _ h.name,aAc]
 refine Ok.cond (fun c=>Dc.no fun v=>by rw [v.name] at c; cases c) fun c1=>?_
 refine Ok.cond (fun c=>Dc.no fun v=>by have:=aCl c; have:=v.least; omega) fun c2=>?_
 refine Ok.cond (fun c=>Dc.no fun v=>by have:=aCl c; have:=v.most; omega) fun c3=>?_
 refine Ok.cond (fun c=>Dc.no fun v=>by have:=aCl c; have:=v.most4; omega) fun c4=>?_
 refine Ok.cond (fun c=>Dc.no fun v=>by have:=aCl c; have:=aCm v.suites; omega) fun c5=>?_
 refine Ok.cond (fun c=>Dc.no fun v=>by have:=aCl c; have:=v.idn; omega) fun c6=>?_
 refine Ok.cond (fun c=>Dc.no fun v=>by have:=aCl c; have:=v.ann; omega) fun c7=>?_
 have d2:=aD7 c2
 have d3:=aD7 c3
 have d4:=aD7 c4
 have d6:=aD7 c6
 have d7:=aD7 c7
 refine Sk e.Suites.length (nS e.Suites) (fun i hi' hV=>?_) fun hV=>?_
 ·obtain⟨x,hx⟩:∃ x,e.Suites[i]?=some x:=⟨_,aBo hi'⟩
  show Ok (A8.l2 e (i:Int)) _
  unfold A8.l2
  refine jT hx (Ok.bind (Ws x) fun y hy=>?_)
  refine Ok.cond (fun c=>?_) fun c=>?_
  ·refine K7 (by omega) (fun _=>.inr ⟨rfl,fun v=>?_⟩) fun h=>by cases h
   rcases hy with ⟨e,hs⟩ | ⟨e,hs⟩
   ·rw [e] at c; cases c
   ·exact absurd (v.suites i x hx).1 hs
  ·have hs:zR x:=by
    rcases hy with ⟨e,hs⟩ | ⟨e,hs⟩
    ·exact hs
    ·rw [e] at c; cases c
   rw [Zr (by omega),aAc,Vx _ _ (by unfold Lo; rw [aGe]; omega),aAc]
   refine K7 (by omega) (fun c=>.inr ⟨rfl,fun v=>absurd (aCl c) (v.suites i x hx).2⟩) fun c=>fun z hz=>?_
   rw [hx] at hz; cases hz
   exact⟨hs,aD7 c⟩
 have n2:∀ i,nS e.Suites i:=fun i=>if h:i < e.Suites.length then hV i h else nS.out (by omega)
 show Ok (A8.l2 e (e.Suites.length:Int)) _
 unfold A8.l2
 refine Wq (Ok.up ?_)
 refine Sk e.Identities.length (fun i=>∀ x,e.Identities[i]?=some x->Ja x.Key x.KeyId x.Chain=true) (fun i hi' hV=>?_) fun hI=>?_
 ·obtain⟨x,hx⟩:∃ x,e.Identities[i]?=some x:=⟨_,aBo hi'⟩
  show Ok (A8.l4 e (i:Int)) _
  unfold A8.l4
  refine jT hx ?_
  rw [dW _ _ _ (h.chain x (Ia hx)),aAc]
  refine K7 (by omega) (fun c=>.inr ⟨rfl,fun v=>by rw [v.ids x (Ia hx)] at c; cases c⟩) fun c z hz=>?_
  rw [hx] at hz; cases hz
  simpa using c
 show Ok (A8.l4 e (e.Identities.length:Int)) _
 unfold A8.l4
 refine Wq (Ok.up ?_)
 refine Sk e.Anchors.length (fun i=>VA (fun x y:Int=>x < y) e.Anchors i/\∀ x,e.Anchors[i]?=some x->0<=x/\x<=2147483648) (fun i hi' hV=>?_) fun hA=>?_
 ·obtain⟨x,hx⟩:∃ x,e.Anchors[i]?=some x:=⟨_,aBo hi'⟩
  show Ok (A8.l5 e (i:Int)) _
  unfold A8.l5
  refine jT hx ?_
  refine Ok.cond (fun c=>K7 (by omega) (fun _=>.inr ⟨rfl,fun v=>by have:=aCl c; have:=v.anr x (Ia hx); omega⟩) fun h=>by cases h) fun e1=>?_
  refine Ok.cond (fun c=>K7 (by omega) (fun _=>.inr ⟨rfl,fun v=>by have:=aCl c; have:=v.anr x (Ia hx); omega⟩) fun h=>by cases h) fun e2=>?_
  have e1:=aD7 e1
  have e2:=aD7 e2
  have hr:∀ z,e.Anchors[i]?=some z->0<=z/\z<=2147483648:=fun z hz=>by rw [hx] at hz; cases hz; omega
  refine kP hi' h.anchors (fun h0=>?_) fun p h0 hp=>?_
  ·exact K7 (by omega) (fun h=>by cases h) fun _=>⟨VA.zero h0,hr⟩
  ·refine K7 (by omega) (fun c=>.inr ⟨rfl,fun v=>?_⟩) fun c=>⟨VA.at hp hx (by have:=aD7 c; omega),hr⟩
   have:=v.ana i p x h0 hp hx
   have:=aCl c
   omega
 show Ok (A8.l5 e (e.Anchors.length:Int)) _
 unfold A8.l5
 refine Wq (Ok.up ?_)
 refine Sk e.Hashes.length (fun i=>VA (fun x y:Int=>x < y) e.Hashes i/\∀ x,e.Hashes[i]?=some x->Mf x=1) (fun i hi' hV=>?_) fun hH=>?_
 ·obtain⟨x,hx⟩:∃ x,e.Hashes[i]?=some x:=⟨_,aBo hi'⟩
  show Ok (A8.l7 e (i:Int)) _
  unfold A8.l7
  refine jT hx ?_
  rw [Wo,aAc]
  refine Ok.cond (fun c=>K7 (by omega) (fun _=>.inr ⟨rfl,fun v=>by rw [aAe (v.har x (Ia hx))] at c; cases c⟩) fun h=>by cases h) fun e1=>?_
  have hr:∀ z,e.Hashes[i]?=some z->Mf z=1:=fun z hz=>by rw [hx] at hz; cases hz; simpa using e1
  refine kP hi' h.hashes (fun h0=>?_) fun p h0 hp=>?_
  ·exact K7 (by omega) (fun h=>by cases h) fun _=>⟨VA.zero h0,hr⟩
  ·refine K7 (by omega) (fun c=>.inr ⟨rfl,fun v=>?_⟩) fun c=>⟨VA.at hp hx (by have:=aD7 c; omega),hr⟩
   have:=v.haa i p x h0 hp hx
   have:=aCl c
   omega
 show Ok (A8.l7 e (e.Hashes.length:Int)) _
 unfold A8.l7
 refine Wq (Ok.up (Dc.yes ?_))
 exact⟨by simpa using c1,by omega,by omega,by omega,n2,by omega,by omega,fun i=>if h:i < e.Anchors.length then (hA i h).1 else VA.out (by omega),fun i=>if h:i < e.Hashes.length then (hH i h).1 else VA.out (by omega),Wf hI,Wf fun i hi=>(hA i hi).2,Wf fun i hi=>(hH i hi).2⟩
theorem cL {e:Av} (h:Vc e):A8 e=Bm e:=Dc.same (bH h) (Lw h)
end
section
open Go
end
end Go.Proofs.YtchpcpaacenodaaGreat
