/- Plain texts, joined. No program is in sight here. -/
import Derived.Test.YtkoflhimdenjaaaGreatM1
set_option linter.unusedVariables false
set_option linter.unusedSimpArgs false
set_option autoImplicit false
namespace Go.Proofs.YtkoflhimdenjaaaGreat
section
open Go
theorem kX (c:Ae) (h:iD c):Hv c=some (bif G2 c then 0 else 9):=by
 unfold Hv
 rw [kN c h,aAf]
 cases G2 c <;> rfl
def oZ (id:Int):Bool:=decide (id < 0) || decide (2147483648 < id)
def Vn (key:Ar) (id:Int):List Ae->Bool
 | []=>true
 | c :: _=>decide (c.Key=key) && decide (c.KeyId=id)
def O8 (key:Ar) (id:Int) (l:List Ae):Bool:=Q7 key 2 && (!oZ id && (!decide (8 < (l.length:Int)) && (!l.any (fun c=>!G2 c) && Vn key id l)))
theorem iX (key:Ar) (id:Int) (l:List Ae) :
  (cond (decide ((l.length:Int)=0)) (some true) ((B5 l 0).bind fun e_2=>cond (decide (e_2.Key=key)) (some (decide (e_2.KeyId=id))) (some false)))=some (Vn key id l):=by
 cases l with
 | nil=>rfl
 | cons c l=>
  rw [aAy (by simp only [aJg]; omega),aDk]
  show cond (decide (c.Key=key)) (some (decide (c.KeyId=id))) (some false)=some (decide (c.Key=key) && decide (c.KeyId=id))
  cases decide (c.Key=key) <;> rfl
theorem pS (key:Ar) (id:Int) (l:List Ae) (hf:∀ c∈l,iD c):Ck key id l=some (O8 key id l):=by
 unfold Ck O8 Q7
 rw [W7,aAf,Vs,aAf,Y6,aAf]
 have h1:Ck.j1 key id l true=some false:=rfl
 have h0:¬ (8 < (l.length:Int))->Ck.j1 key id l false=some (!l.any (fun c=>!G2 c) && Vn key id l):=fun h8=>by
  unfold Ck.j1
  rw [aDk]
  refine (Vt l (fun c=>!G2 c) false (Vn key id l) (jT (by omega)) (fun i c hc=>?_) ?_).trans ?_
  ·show Ck.l2 key id l (i:Int)=_
   unfold Ck.l2
   rw [Gt hc,kX c (hf c (Ff hc)),aAf]
   cases G2 c <;> rfl
  ·show Ck.l2 key id l (l.length:Int)=_
   unfold Ck.l2
   rw [E4,iX]
   rfl
  ·cases l.any (fun c=>!G2 c) <;> rfl
 cases decide (0 < Pw key) with
 | false=>rw [aKf,aEn,h1]; rfl
 | true=>
  rw [aI6,aDk]
  cases decide (Px key.Alg=2) with
  | false=>rw [aKf,aEn,h1]; rfl
  | true=>
   rw [aI6,aDk]
   show cond (!!oZ id) _ _=_
   cases oZ id with
   | true=>rw [Bool.not_not,aEn,h1]; rfl
   | false=>
    rw [Bool.not_not,aDk]
    by_cases h8:8 < (l.length:Int)
    ·rw [aAv h8,h1]; rfl
    ·rw [aAy h8,h0 h8]; rfl
theorem oP (key:Ar) (id:Int) (l:List Ae) (hf:∀ c∈l,iD c):Dd key id l=some (O8 key id l):=by
 unfold Dd O8 oZ
 rw [Uy,aAf]
 have h1:Dd.j1 key id l true=some false:=rfl
 have h0:¬ (8 < (l.length:Int))->Dd.j1 key id l false=some (!l.any (fun c=>!G2 c) && Vn key id l):=fun h8=>by
  unfold Dd.j1
  rw [aDk]
  refine (Vt l (fun c=>!G2 c) false (Vn key id l) (jT (by omega)) (fun i c hc=>?_) ?_).trans ?_
  ·show Dd.l2 key id l (i:Int)=_
   unfold Dd.l2
   rw [Gt hc,Zz c (hf c (Ff hc)),aAf]
   cases G2 c <;> rfl
  ·show Dd.l2 key id l (l.length:Int)=_
   unfold Dd.l2
   rw [E4,iX]
   rfl
  ·cases l.any (fun c=>!G2 c) <;> rfl
 cases Q7 key 2 with
 | false=>rw [aKf,aEn,h1]; rfl
 | true=>
  rw [aI6,aDk]
  cases decide (id < 0) with
  | true=>rw [aEn,h1]; rfl
  | false=>
   rw [aDk]
   cases decide (2147483648 < id) with
   | true=>rw [aEn,h1]; rfl
   | false=>
    rw [aDk]
    by_cases h8:8 < (l.length:Int)
    ·rw [aAv h8,h1]; rfl
    ·rw [aAy h8,h0 h8]; rfl
end
section
open Go
theorem Pj {R:Type} {body:Int->Option (Lp Int R)} {Q:R->Prop} (n:Nat) (V:Nat->Prop)
  (h1:∀ i,i < n->(∀ j,j < i->V j)->Ok (body (i:Int)) (pY (fun s'=>s'=((i + 1:Nat):Int)/\V i) Q))
  (h2:(∀ j,j < n->V j)->Ok (body (n:Int)) (pY (fun _=>False) Q)):Ok (Cp body 0) Q:=by
 refine Ok.loop (fun s=>∃ i:Nat,s=(i:Int)/\i<=n/\∀ j,j < i->V j) (fun s=>n - s.toNat) ?_ ⟨0,rfl,aI3 _,fun j hj=>absurd hj (Nat.not_lt_zero _)⟩
 rintro _ ⟨i,rfl,hi,hV⟩
 by_cases hn:i < n
 ·refine (h1 i hn hV).mono fun o ho=>?_
  cases o with
  | done r=>exact ho
  | next s'=>
   obtain⟨rfl,hv⟩:=ho
   refine⟨⟨i + 1,rfl,hn,fun j hj=>?_⟩,by show n - ((i + 1:Nat):Int).toNat < n - ((i:Nat):Int).toNat; omega⟩
   by_cases e:j=i
   ·rw [e]; exact hv
   ·exact hV j (by omega)
 ·obtain rfl:i=n:=by omega
  refine (h2 hV).mono fun o ho=>?_
  cases o with
  | done r=>exact ho
  | next s'=>exact ho.elim
theorem Jf {R:Type} {i:Nat} {b:Bool} {r:R} {V:Prop} {Q:R->Prop} (hi:i < 4611686018427387904) (h1:b=true->Q r) (h2:b=false->V):Ok (cond b (up (some r)) (some (.next (W ((i:Int) + 1))))) (pY (fun s'=>s'=((i + 1:Nat):Int)/\V) Q):=by
 refine Ok.cond (fun h=>Ok.up (Ok.ret (h1 h))) fun h=>Ok.ret ⟨H6 hi,h2 h⟩
theorem Xb {α T:Type} {l:List α} {i:Nat} (hi:i < l.length) (hl:Lo l) {k:α->Option T} {z:Option T} {Q:T->Prop} (h0:i=0->Ok z Q) (h1:∀ x,0 < i->l[i - 1]?=some x->Ok (k x) Q) :
  Ok (cond (decide (0 < (i:Int))) ((B5 l (W ((i:Int) - 1))).bind k) z) Q:=by
 unfold Lo at hl
 refine Ok.cond (fun h=>?_) fun h=>h0 (by have:=aDm h; omega)
 have h:=aBs h
 obtain⟨x,hx⟩:∃ x,l[i - 1]?=some x:=⟨_,aA9 (by omega)⟩
 rw [Ex (by omega),show (i:Int) - 1=((i - 1:Nat):Int) by omega,Hx,hx]
 exact h1 x (by omega) hx
theorem bS {α T:Type} {l:List α} {i:Nat} {k:α->Option T} {e:Option T} {Q:T->Prop} {x:α} (hx:l[i]?=some x) (h:Ok (k x) Q):Ok (cond (decide ((i:Int) < (l.length:Int))) ((B5 l (i:Int)).bind k) e) Q:=by
 rw [Gt hx]; exact h
theorem Sy {T:Type} {n:Nat} {a e:Option T} {Q:T->Prop} (h:Ok e Q):Ok (cond (decide ((n:Int) < (n:Int))) a e) Q:=by
 rw [E4]; exact h
def VA {α:Type} (R:α->α->Prop) (l:List α) (i:Nat):Prop:=∀ x y,0 < i->l[i - 1]?=some x->l[i]?=some y->R x y
theorem VA.zero {α:Type} {R:α->α->Prop} {l:List α} {i:Nat} (h:i=0):VA R l i:=fun x y h0=>by omega
theorem VA.at {α:Type} {R:α->α->Prop} {l:List α} {i:Nat} {x y:α} (hx:l[i - 1]?=some x) (hy:l[i]?=some y) (h:R x y):VA R l i:=fun a b _ ha hb=>by
 rw [hx] at ha; rw [hy] at hb
 cases ha; cases hb; exact h
theorem VA.out {α:Type} {R:α->α->Prop} {l:List α} {i:Nat} (h:l.length<=i):VA R l i:=fun x y _ _ hy=>by have:=Jo hy; omega
def Dc (k:Int) (V:Prop) (y:Int):Prop:=(y=0/\V)\/(y=k/\¬ V)
theorem Dc.no {k:Int} {V:Prop} (h:¬ V):Ok (some k) (Dc k V):=Ok.ret (.inr ⟨rfl,h⟩)
theorem Dc.yes {k:Int} {V:Prop} (h:V):Ok (some 0) (Dc k V):=Ok.ret (.inl ⟨rfl,h⟩)
theorem Dc.same {k:Int} {V:Prop} {x y:Option Int} (h:Ok x (Dc k V)) (g:Ok y (Dc k V)):x=y:=by
 obtain⟨a,rfl,h⟩:=h
 obtain⟨b,rfl,g⟩:=g
 rcases h with ⟨rfl,h⟩ | ⟨rfl,h⟩ <;> rcases g with ⟨rfl,g⟩ | ⟨rfl,g⟩
 ·rfl
 ·exact absurd h g
 ·exact absurd g h
 ·rfl
theorem Dc.zero {k:Int} {V:Prop} {x:Option Int} (h:Ok x (Dc k V)) (v:V):x=some 0:=by
 obtain⟨a,rfl,h⟩:=h
 rcases h with ⟨rfl,h⟩ | ⟨rfl,h⟩
 ·rfl
 ·exact absurd v h
def bM (c:UInt8):Bool:=(decide ((c.toNat:Int) < 97) || decide (122 < (c.toNat:Int))) && ((decide ((c.toNat:Int) < 65) || decide (90 < (c.toNat:Int))) && ((decide ((c.toNat:Int) < 48) || decide (57 < (c.toNat:Int))) && (!decide ((c.toNat:Int)=45) && (!decide ((c.toNat:Int)=95) && !decide ((c.toNat:Int)=46)))))
def X2 (s:ByteArray):Bool:=decide (1<=(s.size:Int)) && decide ((s.size:Int)<=32) && !(Iv s).any bM
theorem lM (c:UInt8):decide (0<=dS ⟨#[45,95,46]⟩ c)=!(!decide ((c.toNat:Int)=45) && (!decide ((c.toNat:Int)=95) && !decide ((c.toNat:Int)=46))):=by
 have h:∀ n:Fin 256,decide (0<=dS ⟨#[45,95,46]⟩ (UInt8.ofNat n.val))=!(!decide (((UInt8.ofNat n.val).toNat:Int)=45) && (!decide (((UInt8.ofNat n.val).toNat:Int)=95) && !decide (((UInt8.ofNat n.val).toNat:Int)=46))):=by decide +kernel
 have:=h ⟨c.toNat,c.toNat_lt⟩
 simpa using this
theorem nT (c:UInt8):I7 c ⟨#[45,95,46]⟩=some (!bM c):=by
 have e:∀ a:Int,decide (a<=(c.toNat:Int))=!decide ((c.toNat:Int) < a):=fun a=>by
  by_cases h:(c.toNat:Int) < a
  ·rw [aAv h,aAy (by omega)]; rfl
  ·rw [aAy h,aAv (by omega)]; rfl
 have f:∀ a:Int,decide ((c.toNat:Int)<=a)=!decide (a < (c.toNat:Int)):=fun a=>by
  by_cases h:a < (c.toNat:Int)
  ·rw [aAv h,aAy (by omega)]; rfl
  ·rw [aAy h,aAv (by omega)]; rfl
 have i:∀ k:Bool->Option Bool,((D5 ⟨#[45,95,46]⟩ c).bind fun y=>some (decide (0<=y)))=some (!(!decide ((c.toNat:Int)=45) && (!decide ((c.toNat:Int)=95) && !decide ((c.toNat:Int)=46)))):=fun _=>by
  rw [<- lM]; rfl
 have i:=i some
 unfold I7 bM
 simp only [i,e,f]
 generalize decide ((c.toNat:Int) < 97)=a1
 generalize decide (122 < (c.toNat:Int))=a2
 generalize decide ((c.toNat:Int) < 65)=a3
 generalize decide (90 < (c.toNat:Int))=a4
 generalize decide ((c.toNat:Int) < 48)=a5
 generalize decide (57 < (c.toNat:Int))=a6
 generalize (!decide ((c.toNat:Int)=45) && (!decide ((c.toNat:Int)=95) && !decide ((c.toNat:Int)=46)))=a7
 cases a1 <;> cases a2 <;> cases a3 <;> cases a4 <;> cases a5 <;> cases a6 <;> rfl
theorem Xt (s:ByteArray) (hs:s.size<=9223372036854775807):D8 s=some (X2 s):=by
 unfold D8 X2
 refine (Qr (body:=fun q'=>D8.l1 s q') (Iv s) (fun i=>(i:Int)) bM false (decide (1<=(s.size:Int)) && decide ((s.size:Int)<=32)) (fun i c hc=>?_) ?_).trans ?_
 ·have h1:=Jo hc
  rw [Ro] at h1
  show D8.l1 s (i:Int)=_
  unfold D8.l1
  rw [Gt hc,nT,aAf,Bool.not_not,Tt h1 hs]
  cases bM c <;> rfl
 ·show D8.l1 s ((Iv s).length:Int)=_
  unfold D8.l1
  rw [E4]
  by_cases a:(1:Int)<=(s.size:Int) <;> simp [a,up]
 ·cases (Iv s).any bM <;> simp
theorem bQ (s:ByteArray) (hs:s.size<=9223372036854775807):Bn s=some (X2 s):=by
 unfold Bn X2
 have hl:Bn.j1 s false=some (!(Iv s).any bM):=by
  unfold Bn.j1
  rw [aDk]
  refine (Qr (body:=fun q'=>Bn.l2 s q') (Iv s) (fun i=>(i:Int)) bM false true (fun i c hc=>?_) ?_).trans ?_
  ·have h1:=Jo hc
   rw [Ro] at h1
   show Bn.l2 s (i:Int)=_
   unfold Bn.l2 Bn.j3 bM
   rw [aAv (by omega),aEn,nD hc,aAf,Tt h1 hs]
   generalize decide ((c.toNat:Int) < 97)=a1
   generalize decide (122 < (c.toNat:Int))=a2
   generalize decide ((c.toNat:Int) < 65)=a3
   generalize decide (90 < (c.toNat:Int))=a4
   generalize decide ((c.toNat:Int) < 48)=a5
   generalize decide (57 < (c.toNat:Int))=a6
   generalize decide ((c.toNat:Int)=45)=a7
   generalize decide ((c.toNat:Int)=95)=a8
   generalize decide ((c.toNat:Int)=46)=a9
   cases a7 <;> cases a8 <;> cases a9 <;> cases a1 <;> cases a2 <;> cases a3 <;> cases a4 <;> cases a5 <;> cases a6 <;> rfl
  ·show Bn.l2 s ((Iv s).length:Int)=_
   unfold Bn.l2
   rw [Ro,E4]; rfl
  ·cases (Iv s).any bM <;> rfl
 by_cases a:(s.size:Int) < 1
 ·rw [aAv a,aAy (show ¬ (1:Int)<=(s.size:Int) by omega)]; rfl
 ·rw [aAy a,aAv (show (1:Int)<=(s.size:Int) by omega),aDk]
  by_cases b:32 < (s.size:Int)
  ·rw [aAv b,aAy (show ¬ (s.size:Int)<=32 by omega)]; rfl
  ·rw [aAy b,aAv (show (s.size:Int)<=32 by omega),hl]; rfl
def vK (n:Int):Prop:=1<=n/\n<=16
theorem aM:∃ l,Eg=some l/\l.length=16:=by
 unfold Eg C3
 simp only [aAf]
 refine Ok.loop (fun s:Int×List A4=>∃ i:Nat,s.1=(i:Int)/\i<=16/\s.2.length=16) (fun s=>16 - s.1.toNat) ?_ ⟨0,rfl,by omega,rfl⟩
 rintro⟨_,l⟩ ⟨i,rfl,hi,hl⟩
 dsimp only at hl
 show Ok (Eg.l1 _ _ _ _ _ _ _ _ _ _ _ _ _ _ _ _ _ _ _ _ _ _ (i:Int) l) _
 unfold Eg.l1
 refine Ok.cond (fun h=>?_) fun _=>Ok.up (Ok.ret hl)
 have h:(i:Int) < 16:=aBs h
 refine Ok.bind (Rj (by omega) (by omega)) fun e _=>Ok.ret ⟨⟨i + 1,by show W ((i:Int) + 1)=_; rw [Ex (by omega)]; omega,by omega,?_⟩,?_⟩
 ·show (C2 l _ _).length=16
  unfold C2
  rw [List.length_set]; exact hl
 ·show 16 - (W ((i:Int) + 1)).toNat < 16 - ((i:Nat):Int).toNat
  rw [Ex (by omega)]; omega
theorem Zf:∃ l,Kq=some l/\l.length=16:=⟨_,rfl,rfl⟩
theorem eX (n:Int):Ok (E2 n) (fun y=>Dc 8 (vK n) y.2):=by
 obtain⟨l,hl,hlen⟩:∃ l,Eg=some l/\l.length=16:=aM
 unfold E2
 rw [hl,aAf]
 refine Ok.cond (fun h=>?_) fun h=>?_
 ·exact Ok.ret (.inr ⟨rfl,fun v=>by have:=aBs h; have:=v.1; omega⟩)
 ·have h:=aDm h
  refine Ok.cond (fun g=>Ok.ret (.inr ⟨rfl,fun v=>by have:=aBs g; have:=v.2; omega⟩)) fun g=>?_
  have g:=aDm g
  rw [Ex (by omega)]
  exact Ok.bind (Rj (by omega) (by omega)) fun e _=>Ok.ret (.inl ⟨rfl,by omega,by omega⟩)
theorem fT (n:Int):Ok (Fs n) (fun y=>Dc 8 (vK n) y.2):=by
 obtain⟨l,hl,hlen⟩:∃ l,Kq=some l/\l.length=16:=Zf
 unfold Fs
 refine Ok.cond (fun h=>?_) fun h=>?_
 ·exact Ok.ret (.inr ⟨rfl,fun v=>by have:=aBs h; have:=v.1; omega⟩)
 ·have h:=aDm h
  refine Ok.cond (fun g=>Ok.ret (.inr ⟨rfl,fun v=>by have:=aBs g; have:=v.2; omega⟩)) fun g=>?_
  have g:=aDm g
  rw [hl,aAf,Ex (by omega)]
  exact Ok.bind (Rj (by omega) (by omega)) fun e _=>Ok.ret (.inl ⟨rfl,by omega,by omega⟩)
theorem lE (l:List Int) (n:Int) (h:Lo l):F1 l n=some (decide (n∈l)):=by
 unfold F1
 refine (Vt l (fun x=>decide (x=n)) true false h (fun i x hx=>?_) ?_).trans ?_
 ·show F1.l1 l n (i:Int)=_
  unfold F1.l1
  rw [Gt hx]
  cases decide (x=n) <;> rfl
 ·show F1.l1 l n (l.length:Int)=_
  unfold F1.l1
  rw [E4]; rfl
 ·have:(l.any fun x=>decide (x=n))=decide (n∈l):=by
   rw [Bool.eq_iff_iff]; simp
  rw [this]; cases decide (n∈l) <;> rfl
def nX (l:List Int) (i:Nat):Prop:=∀ x,l[i]?=some x->vK x/\x∉l.take i
theorem qQ {l:List Int} (h:∀ i,nX l i):l.Nodup:=by
 rw [List.nodup_iff_pairwise_ne,aJ9]
 intro i j hi hj hij e
 refine (h j l[j] (aA9 hj)).2 ?_
 rw [<- e]
 exact aKv.2 ⟨i,by omega,rfl⟩
theorem qF:∀ (n:Nat) (l:List Int),l.Nodup->(∀ x∈l,1<=x/\x<=(n:Int))->l.length<=n
 | 0,[],_,_=>aHl _
 | 0,x :: l,_,h=>by have:=h x (.head _); omega
 | n + 1,l,hn,h=>by
  have h1:=qF n (l.erase ((n:Int) + 1)) (hn.erase _) fun x hx=>by
   have:=h x (List.mem_of_mem_erase hx)
   have:x≠(n:Int) + 1:=((hn.mem_erase_iff).1 hx).1
   omega
  have:=List.length_erase (a:=(n:Int) + 1) (l:=l)
  split at this <;> omega
theorem aCc {l:List Int} (h:∀ i,nX l i):l.length<=16:=qF 16 l (qQ h) fun x hx=>by
 obtain⟨i,hi⟩:=aJe.1 hx
 exact (h i x hi).1
theorem nX.out {l:List Int} {i:Nat} (h:l.length<=i):nX l i:=fun x hx=>by have:=Jo hx; omega
theorem nC {l:List Int} {i:Nat} (h:i<=l.length):U0 l 0 (i:Int)=some (l.take i):=by
 unfold U0
 rw [if_pos (by omega)]
 simp
theorem fP (l:List Int) (hl:Lo l):Ok (Cz l) (fun b=>b=true↔∀ i,nX l i):=by
 have hl':l.length < 4611686018427387904:=hl
 unfold Cz
 refine Pj l.length (nX l) (fun i hi hV=>?_) fun hV=>?_
 ·obtain⟨x,hx⟩:∃ x,l[i]?=some x:=⟨_,aA9 hi⟩
  show Ok (Cz.l1 l (i:Int)) _
  unfold Cz.l1
  refine bS hx (Ok.bind (eX x) fun y hy=>?_)
  refine Ok.cond (fun h=>?_) fun h=>?_
  ·refine Jf (by omega) (fun _=>⟨fun h=>(by cases h),fun v=>?_⟩) fun h=>by cases h
   rcases hy with ⟨e,hs⟩ | ⟨e,hs⟩
   ·rw [e] at h; cases h
   ·exact absurd (v i x hx).1 hs
  ·have hs:vK x:=by
    rcases hy with ⟨e,hs⟩ | ⟨e,hs⟩
    ·exact hs
    ·rw [e] at h; cases h
   rw [nC (by omega),aAf,H3 _ _ (by rw [aEl]; omega),aAf]
   refine Jf (by omega) (fun h=>⟨fun h=>(by cases h),fun v=>?_⟩) fun h=>fun z hz=>?_
   ·exact absurd (aBs h) (v i x hx).2
   ·rw [hx] at hz; cases hz
    exact⟨hs,aDm h⟩
 ·show Ok (Cz.l1 l (l.length:Int)) _
  unfold Cz.l1
  exact Sy (Ok.up (Ok.ret ⟨fun _ i=>if h:i < l.length then hV i h else nX.out (by omega),fun _=>rfl⟩))
theorem Uw (l:List Int) (hl:Lo l):Ok (Cm l) (fun b=>b=true↔∀ i,VA (fun x y:Int=>x < y) l i):=by
 have hl':l.length < 4611686018427387904:=hl
 unfold Cm
 refine Pj l.length (VA (fun x y=>x < y) l) (fun i hi hV=>?_) fun hV=>?_
 ·obtain⟨x,hx⟩:∃ x,l[i]?=some x:=⟨_,aA9 hi⟩
  show Ok (Cm.l1 l (i:Int)) _
  unfold Cm.l1
  rw [aAv (by omega:(i:Int) < (l.length:Int)),aEn]
  refine Xb hi hl (fun h0=>?_) fun p h0 hp=>?_
  ·exact Jf (by omega) (fun h=>by cases h) fun _=>VA.zero h0
  ·rw [Hx,hx,aAf]
   refine Jf (by omega) (fun h=>⟨fun h=>(by cases h),fun v=>?_⟩) fun h=>VA.at hp hx (by have:=aDm h; omega)
   have:=v i p x h0 hp hx
   have:=aBs h
   omega
 ·show Ok (Cm.l1 l (l.length:Int)) _
  unfold Cm.l1
  exact Sy (Ok.up (Ok.ret ⟨fun _ i=>if h:i < l.length then hV i h else VA.out (by omega),fun _=>rfl⟩))
theorem Zj (s:List Int) (f:Int->Option Bool) (p:Int->Bool) (h:Lo s) (hf:∀ x∈s,f x=some (p x)):D3 s f=some (s.any p):=by
 have hi:By s f=some (Ni s p):=by
  unfold By
  refine Rk s p h (fun i x hx=>?_) ?_
  ·show By.l1 s f (i:Int)=_
   unfold By.l1
   rw [Gt hx,hf x (Ff hx),aAf]
   cases p x <;> rfl
  ·show By.l1 s f (s.length:Int)=_
   unfold By.l1
   rw [E4]; rfl
 unfold D3
 rw [hi,aAf,Oz]
structure Ze (e:Af):Prop where
 name:e.Name.size<=9223372036854775807
 suites:Lo e.Suites
 ids:Lo e.Identities
 anchors:Lo e.Anchors
 hashes:Lo e.Hashes
 chain:∀ x∈e.Identities,∀ c∈x.Chain,iD c
structure nO (e:Af):Prop where
 name:X2 e.Name=true
 least:1<=e.Least
 most:e.Least<=e.Most
 most4:e.Most<=4
 suites:∀ i,nX e.Suites i
 idn:e.Identities.length<=4
 ann:e.Anchors.length<=16
 ana:∀ i,VA (fun x y:Int=>x < y) e.Anchors i
 haa:∀ i,VA (fun x y:Int=>x < y) e.Hashes i
 ids:∀ x∈e.Identities,O8 x.Key x.KeyId x.Chain=true
 anr:∀ n∈e.Anchors,0<=n/\n<=2147483648
 har:∀ n∈e.Hashes,Px n=1
theorem Nc {α:Type} {l:List α} {P:α->Prop} (h:∀ i,i < l.length->∀ x,l[i]?=some x->P x):∀ x∈l,P x:=fun x hx=>by
 obtain⟨i,hi⟩:=aJe.1 hx
 exact h i (Jo hi) x hi
theorem Lq {e:Af} (h:Ze e):Ok (Br e) (Dc 19 (nO e)):=by
 have hi:=h.ids
 unfold Lo at hi
 unfold Br
 rw [Xt _ h.name,aAf]
 refine Ok.cond (fun c=>Dc.no fun v=>by rw [v.name] at c; cases c) fun c1=>?_
 refine Ok.cond (fun c=>Dc.no fun v=>by have:=aBs c; have:=v.least; omega) fun c2=>?_
 refine Ok.cond (fun c=>Dc.no fun v=>by have:=aBs c; have:=v.most; omega) fun c3=>?_
 refine Ok.cond (fun c=>Dc.no fun v=>by have:=aBs c; have:=v.most4; omega) fun c4=>?_
 refine Ok.bind (fP _ h.suites) fun y2 h2=>?_
 refine Ok.cond (fun c=>Dc.no fun v=>by rw [h2.2 v.suites] at c; cases c) fun c5=>?_
 refine Ok.cond (fun c=>Dc.no fun v=>by have:=aBs c; have:=v.idn; omega) fun c6=>?_
 refine Ok.cond (fun c=>Dc.no fun v=>by have:=aBs c; have:=v.ann; omega) fun c7=>?_
 refine Ok.bind (Uw _ h.anchors) fun y3 h3=>?_
 refine Ok.cond (fun c=>Dc.no fun v=>by rw [h3.2 v.ana] at c; cases c) fun c8=>?_
 refine Ok.bind (Uw _ h.hashes) fun y4 h4=>?_
 refine Ok.cond (fun c=>Dc.no fun v=>by rw [h4.2 v.haa] at c; cases c) fun c9=>?_
 have n2:=h2.1 (by simpa using c5)
 have n3:=h3.1 (by simpa using c8)
 have n4:=h4.1 (by simpa using c9)
 have d2:=aDm c2
 have d3:=aDm c3
 have d4:=aDm c4
 have d6:=aDm c6
 have d7:=aDm c7
 refine Pj e.Identities.length (fun i=>∀ x,e.Identities[i]?=some x->O8 x.Key x.KeyId x.Chain=true) (fun i hi' hV=>?_) fun hV=>?_
 ·obtain⟨x,hx⟩:∃ x,e.Identities[i]?=some x:=⟨_,aA9 hi'⟩
  show Ok (Br.l3 e (i:Int)) _
  unfold Br.l3
  refine bS hx ?_
  rw [pS _ _ _ (h.chain x (Ff hx)),aAf]
  refine Jf (by omega) (fun c=>.inr ⟨rfl,fun v=>by rw [v.ids x (Ff hx)] at c; cases c⟩) fun c z hz=>?_
  rw [hx] at hz; cases hz
  simpa using c
 ·show Ok (Br.l3 e (e.Identities.length:Int)) _
  unfold Br.l3
  refine Sy (Ok.up ?_)
  refine Ok.bindE (a:=()) rfl (Ok.bindE (Zj _ _ (fun n=>decide (n < 0) || decide (2147483648 < n)) h.anchors fun n _=>?_) ?_)
  ·show ((E9 n).bind fun y=>some (!y))=_
   rw [Y6,aAf,Bool.not_not]
  refine Ok.cond (fun c=>Dc.no fun v=>?_) fun c10=>?_
  ·obtain⟨n,h1,h2⟩:=aIc.1 c
   have:=v.anr n h1
   simp only [aJf,aJr] at h2
   omega
  refine Ok.bindE (a:=()) rfl (Ok.bindE (Zj _ _ (fun n=>!decide (Px n=1)) h.hashes fun n _=>?_) ?_)
  ·show ((Jy n).bind fun y=>some (!y))=_
   unfold Jy
   rw [Vs]; rfl
  refine Ok.cond (fun c=>Dc.no fun v=>?_) fun c11=>Dc.yes ?_
  ·obtain⟨n,h1,h2⟩:=aIc.1 c
   rw [aAv (v.har n h1)] at h2
   cases h2
  ·refine⟨by simpa using c1,by omega,by omega,by omega,n2,by omega,by omega,n3,n4,Nc hV,fun n hn=>?_,fun n hn=>?_⟩
   ·have:=aKr.1 c10 n hn
    simp only [aJf,aJr] at this
    omega
   ·have:=aKr.1 c11 n hn
    simpa using this
theorem Oc {e:Af} (h:Ze e):Ok (A5 e) (Dc 19 (nO e)):=by
 have hs:=h.suites
 have hi:=h.ids
 have ha:=h.anchors
 have hh:=h.hashes
 unfold Lo at hs hi ha hh
 unfold A5
 rw [bQ _ h.name,aAf]
 refine Ok.cond (fun c=>Dc.no fun v=>by rw [v.name] at c; cases c) fun c1=>?_
 refine Ok.cond (fun c=>Dc.no fun v=>by have:=aBs c; have:=v.least; omega) fun c2=>?_
 refine Ok.cond (fun c=>Dc.no fun v=>by have:=aBs c; have:=v.most; omega) fun c3=>?_
 refine Ok.cond (fun c=>Dc.no fun v=>by have:=aBs c; have:=v.most4; omega) fun c4=>?_
 refine Ok.cond (fun c=>Dc.no fun v=>by have:=aBs c; have:=aCc v.suites; omega) fun c5=>?_
 refine Ok.cond (fun c=>Dc.no fun v=>by have:=aBs c; have:=v.idn; omega) fun c6=>?_
 refine Ok.cond (fun c=>Dc.no fun v=>by have:=aBs c; have:=v.ann; omega) fun c7=>?_
 have d2:=aDm c2
 have d3:=aDm c3
 have d4:=aDm c4
 have d6:=aDm c6
 have d7:=aDm c7
 refine Pj e.Suites.length (nX e.Suites) (fun i hi' hV=>?_) fun hV=>?_
 ·obtain⟨x,hx⟩:∃ x,e.Suites[i]?=some x:=⟨_,aA9 hi'⟩
  show Ok (A5.l2 e (i:Int)) _
  unfold A5.l2
  refine bS hx (Ok.bind (fT x) fun y hy=>?_)
  refine Ok.cond (fun c=>?_) fun c=>?_
  ·refine Jf (by omega) (fun _=>.inr ⟨rfl,fun v=>?_⟩) fun h=>by cases h
   rcases hy with ⟨e,hs⟩ | ⟨e,hs⟩
   ·rw [e] at c; cases c
   ·exact absurd (v.suites i x hx).1 hs
  ·have hs:vK x:=by
    rcases hy with ⟨e,hs⟩ | ⟨e,hs⟩
    ·exact hs
    ·rw [e] at c; cases c
   rw [nC (by omega),aAf,lE _ _ (by unfold Lo; rw [aEl]; omega),aAf]
   refine Jf (by omega) (fun c=>.inr ⟨rfl,fun v=>absurd (aBs c) (v.suites i x hx).2⟩) fun c=>fun z hz=>?_
   rw [hx] at hz; cases hz
   exact⟨hs,aDm c⟩
 have n2:∀ i,nX e.Suites i:=fun i=>if h:i < e.Suites.length then hV i h else nX.out (by omega)
 show Ok (A5.l2 e (e.Suites.length:Int)) _
 unfold A5.l2
 refine Sy (Ok.up ?_)
 refine Pj e.Identities.length (fun i=>∀ x,e.Identities[i]?=some x->O8 x.Key x.KeyId x.Chain=true) (fun i hi' hV=>?_) fun hI=>?_
 ·obtain⟨x,hx⟩:∃ x,e.Identities[i]?=some x:=⟨_,aA9 hi'⟩
  show Ok (A5.l4 e (i:Int)) _
  unfold A5.l4
  refine bS hx ?_
  rw [oP _ _ _ (h.chain x (Ff hx)),aAf]
  refine Jf (by omega) (fun c=>.inr ⟨rfl,fun v=>by rw [v.ids x (Ff hx)] at c; cases c⟩) fun c z hz=>?_
  rw [hx] at hz; cases hz
  simpa using c
 show Ok (A5.l4 e (e.Identities.length:Int)) _
 unfold A5.l4
 refine Sy (Ok.up ?_)
 refine Pj e.Anchors.length (fun i=>VA (fun x y:Int=>x < y) e.Anchors i/\∀ x,e.Anchors[i]?=some x->0<=x/\x<=2147483648) (fun i hi' hV=>?_) fun hA=>?_
 ·obtain⟨x,hx⟩:∃ x,e.Anchors[i]?=some x:=⟨_,aA9 hi'⟩
  show Ok (A5.l5 e (i:Int)) _
  unfold A5.l5
  refine bS hx ?_
  refine Ok.cond (fun c=>Jf (by omega) (fun _=>.inr ⟨rfl,fun v=>by have:=aBs c; have:=v.anr x (Ff hx); omega⟩) fun h=>by cases h) fun e1=>?_
  refine Ok.cond (fun c=>Jf (by omega) (fun _=>.inr ⟨rfl,fun v=>by have:=aBs c; have:=v.anr x (Ff hx); omega⟩) fun h=>by cases h) fun e2=>?_
  have e1:=aDm e1
  have e2:=aDm e2
  have hr:∀ z,e.Anchors[i]?=some z->0<=z/\z<=2147483648:=fun z hz=>by rw [hx] at hz; cases hz; omega
  refine Xb hi' h.anchors (fun h0=>?_) fun p h0 hp=>?_
  ·exact Jf (by omega) (fun h=>by cases h) fun _=>⟨VA.zero h0,hr⟩
  ·refine Jf (by omega) (fun c=>.inr ⟨rfl,fun v=>?_⟩) fun c=>⟨VA.at hp hx (by have:=aDm c; omega),hr⟩
   have:=v.ana i p x h0 hp hx
   have:=aBs c
   omega
 show Ok (A5.l5 e (e.Anchors.length:Int)) _
 unfold A5.l5
 refine Sy (Ok.up ?_)
 refine Pj e.Hashes.length (fun i=>VA (fun x y:Int=>x < y) e.Hashes i/\∀ x,e.Hashes[i]?=some x->Px x=1) (fun i hi' hV=>?_) fun hH=>?_
 ·obtain⟨x,hx⟩:∃ x,e.Hashes[i]?=some x:=⟨_,aA9 hi'⟩
  show Ok (A5.l7 e (i:Int)) _
  unfold A5.l7
  refine bS hx ?_
  rw [bB,aAf]
  refine Ok.cond (fun c=>Jf (by omega) (fun _=>.inr ⟨rfl,fun v=>by rw [aAv (v.har x (Ff hx))] at c; cases c⟩) fun h=>by cases h) fun e1=>?_
  have hr:∀ z,e.Hashes[i]?=some z->Px z=1:=fun z hz=>by rw [hx] at hz; cases hz; simpa using e1
  refine Xb hi' h.hashes (fun h0=>?_) fun p h0 hp=>?_
  ·exact Jf (by omega) (fun h=>by cases h) fun _=>⟨VA.zero h0,hr⟩
  ·refine Jf (by omega) (fun c=>.inr ⟨rfl,fun v=>?_⟩) fun c=>⟨VA.at hp hx (by have:=aDm c; omega),hr⟩
   have:=v.haa i p x h0 hp hx
   have:=aBs c
   omega
 show Ok (A5.l7 e (e.Hashes.length:Int)) _
 unfold A5.l7
 refine Sy (Ok.up (Dc.yes ?_))
 exact⟨by simpa using c1,by omega,by omega,by omega,n2,by omega,by omega,fun i=>if h:i < e.Anchors.length then (hA i h).1 else VA.out (by omega),fun i=>if h:i < e.Hashes.length then (hH i h).1 else VA.out (by omega),Nc hI,Nc fun i hi=>(hA i hi).2,Nc fun i hi=>(hH i hi).2⟩
end
section
open Go
structure qB (x:Cf):Prop where
 name:x.Name.size<=9223372036854775807
 links:Lo x.Links
structure ItV (x:Cf):Prop where
 name:F8 x.Name=true
 kind:x.Kind=1\/x.Kind=2
 purpose:1<=x.Purpose/\x.Purpose<=4
 len:1<=x.Links.length/\x.Links.length<=8
 asc:∀ i,VA (fun a b:Co=>a.Day < b.Day) x.Links i
 use:∀ a∈x.Links,0 < Pw a.Use
 day:∀ a∈x.Links,0<=a.Day/\a.Day<=40000
 until_:x.Until<=40000
 first:∀ a,x.Links[0]?=some a->a.Day<=x.Until
def LkV (l:List Co) (i:Nat):Prop:=VA (fun a b:Co=>a.Day < b.Day) l i/\∀ a,l[i]?=some a->0 < Pw a.Use/\0<=a.Day/\a.Day<=40000
theorem aA {x:Cf} (h:qB x):Ok (Bt x) (Dc 30 (ItV x)):=by
 have hl:=h.links
 unfold Lo at hl
 have J:F8 x.Name=true->(x.Kind=1\/x.Kind=2)->(1<=x.Purpose/\x.Purpose<=4)->(1<=x.Links.length/\x.Links.length<=8)->x.Until<=40000->(∀ a,x.Links[0]?=some a->a.Day<=x.Until)->Ok (Bt.j1 x false) (Dc 30 (ItV x)):=by
  intro q1 q2 q3 q4 q5 q6
  unfold Bt.j1
  rw [aDk]
  refine Pj x.Links.length (LkV x.Links) (fun i hi hV=>?_) fun hV=>?_
  ·obtain⟨a,ha⟩:∃ a,x.Links[i]?=some a:=⟨_,aA9 hi⟩
   show Ok (Bt.l2 x (i:Int)) _
   unfold Bt.l2
   refine bS ha ?_
   rw [W8,aAf]
   refine Ok.cond (fun c=>Jf (by omega) (fun _=>.inr ⟨rfl,fun v=>by rw [aAv (v.use a (Ff ha))] at c; cases c⟩) fun h=>by cases h) fun e1=>?_
   refine Ok.cond (fun c=>Jf (by omega) (fun _=>.inr ⟨rfl,fun v=>by have:=aBs c; have:=v.day a (Ff ha); omega⟩) fun h=>by cases h) fun e2=>?_
   refine Ok.cond (fun c=>Jf (by omega) (fun _=>.inr ⟨rfl,fun v=>by have:=aBs c; have:=v.day a (Ff ha); omega⟩) fun h=>by cases h) fun e3=>?_
   have e2:=aDm e2
   have e3:=aDm e3
   have hr:∀ z,x.Links[i]?=some z->0 < Pw z.Use/\0<=z.Day/\z.Day<=40000:=fun z hz=>by rw [ha] at hz; cases hz; exact⟨by simpa using e1,by omega⟩
   refine Xb hi h.links (fun h0=>?_) fun p h0 hp=>?_
   ·exact Jf (by omega) (fun h=>by cases h) fun _=>⟨VA.zero h0,hr⟩
   ·refine Jf (by omega) (fun c=>.inr ⟨rfl,fun v=>?_⟩) fun c=>⟨VA.at hp ha (by have:=aDm c; omega),hr⟩
    have:=v.asc i p a h0 hp ha
    have:=aBs c
    omega
  ·show Ok (Bt.l2 x (x.Links.length:Int)) _
   unfold Bt.l2
   exact Sy (Ok.up (Dc.yes ⟨q1,q2,q3,q4,fun i=>if h:i < x.Links.length then (hV i h).1 else VA.out (by omega),Nc fun i hi a ha=>((hV i hi).2 a ha).1,Nc fun i hi a ha=>((hV i hi).2 a ha).2,q5,q6⟩))
 have K:F8 x.Name=true->(x.Kind=1\/x.Kind=2)->Ok (cond (decide (x.Purpose < 1)) (Bt.j1 x true) (cond (decide (4 < x.Purpose)) (Bt.j1 x true) (cond (decide ((x.Links.length:Int) < 1)) (Bt.j1 x true) (cond (decide (8 < (x.Links.length:Int))) (Bt.j1 x true) (cond (decide (40000 < x.Until)) (Bt.j1 x true) ((B5 x.Links 0).bind fun e=>Bt.j1 x (decide (x.Until < e.Day)))))))) (Dc 30 (ItV x)):=by
  intro q1 q2
  refine Ok.cond (fun c=>Dc.no fun v=>by have:=aBs c; have:=v.purpose; omega) fun c3=>?_
  refine Ok.cond (fun c=>Dc.no fun v=>by have:=aBs c; have:=v.purpose; omega) fun c4=>?_
  refine Ok.cond (fun c=>Dc.no fun v=>by have:=aBs c; have:=v.len; omega) fun c5=>?_
  refine Ok.cond (fun c=>Dc.no fun v=>by have:=aBs c; have:=v.len; omega) fun c6=>?_
  refine Ok.cond (fun c=>Dc.no fun v=>by have:=aBs c; have:=v.until_; omega) fun c7=>?_
  have d3:=aDm c3
  have d4:=aDm c4
  have d5:=aDm c5
  have d6:=aDm c6
  have d7:=aDm c7
  obtain⟨a,ha⟩:∃ a,x.Links[0]?=some a:=⟨_,aA9 (by omega)⟩
  rw [aL,ha,aAf]
  by_cases c8:x.Until < a.Day
  ·rw [aAv c8]
   exact Dc.no fun v=>by have:=v.first a ha; omega
  ·rw [aAy c8]
   exact J q1 q2 (by omega) (by omega) (by omega) fun b hb=>by rw [ha] at hb; cases hb; omega
 unfold Bt
 rw [We _ h.name,aAf]
 refine Ok.cond (fun c=>Dc.no fun v=>by rw [v.name] at c; cases c) fun c1=>?_
 have q1:F8 x.Name=true:=by simpa using c1
 refine Ok.cond (fun c2=>?_) fun c2=>K q1 (.inl (by simpa using c2))
 refine Ok.cond (fun c=>Dc.no fun v=>?_) fun c=>K q1 (.inr (by simpa using c))
 have e1:¬ x.Kind=1:=by simpa using c2
 have e2:¬ x.Kind=2:=by simpa using c
 exact v.kind.elim e1 e2
def EdR (a b:Bq):Prop:=a.Client < b.Client\/(a.Client=b.Client/\a.Server < b.Server)
def EdS (n:Int) (x:Bq):Prop:=(0<=x.Client/\x.Client < n)/\(0<=x.Server/\x.Server < n)/\x.Client≠x.Server
def zL (n:Int) (l:List Bq) (i:Nat):Prop:=VA EdR l i/\∀ x,l[i]?=some x->EdS n x
theorem zL.out {n:Int} {l:List Bq} {i:Nat} (h:l.length<=i):zL n l i:=⟨VA.out h,fun x hx=>by have:=Jo hx; omega⟩
structure uD (e:Bb):Prop where
 n:Lo e.Endpoints
 edges:Lo e.Edges
 m:Lo e.Items
 ep:∀ x∈e.Endpoints,Ze x
 it:∀ x∈e.Items,qB x
def NmR (a b:Af):Prop:=L4 (Iv a.Name) (Iv b.Name)=true
structure EsV (e:Bb):Prop where
 ep:∀ x∈e.Endpoints,nO x
 names:∀ i,VA NmR e.Endpoints i
 n:e.Endpoints.length<=16
 it:∀ x∈e.Items,ItV x
 m:e.Items.length<=30
 edges:e.Edges.length<=40
 ed:∀ i,zL (e.Endpoints.length:Int) e.Edges i
theorem aO {e:Bb} (h:uD e):Ok (Bd e) (Dc 31 (EsV e)):=by
 have hn:=h.n
 have hE:=h.edges
 have hm:=h.m
 unfold Lo at hn hE hm
 unfold Bd
 refine Ok.cond (fun c=>Dc.no fun v=>by have:=aBs c; have:=v.n; omega) fun c2=>?_
 refine Ok.cond (fun c=>Dc.no fun v=>by have:=aBs c; have:=v.edges; omega) fun c3=>?_
 refine Ok.cond (fun c=>Dc.no fun v=>by have:=aBs c; have:=v.m; omega) fun c4=>?_
 have c2:=aDm c2
 have c3:=aDm c3
 have c4:=aDm c4
 refine Pj e.Endpoints.length (fun i=>VA NmR e.Endpoints i/\∀ x,e.Endpoints[i]?=some x->nO x) (fun i hi hV=>?_) fun hV=>?_
 ·obtain⟨x,hx⟩:∃ x,e.Endpoints[i]?=some x:=⟨_,aA9 hi⟩
  show Ok (Bd.l2 e (i:Int)) _
  unfold Bd.l2
  refine bS hx (Ok.bind (Oc (h.ep x (Ff hx))) fun y hy=>?_)
  refine Ok.cond (fun c=>Jf (by omega) (fun _=>.inr ⟨rfl,fun v=>?_⟩) fun h=>by cases h) fun c1=>?_
  ·rcases hy with ⟨rfl,hy⟩ | ⟨rfl,hy⟩
   ·cases c
   ·exact hy (v.ep x (Ff hx))
  have hx1:nO x:=by
   rcases hy with ⟨rfl,hy⟩ | ⟨rfl,hy⟩
   ·exact hy
   ·cases c1
  have hr:∀ z,e.Endpoints[i]?=some z->nO z:=fun z hz=>by rw [hx] at hz; cases hz; exact hx1
  refine Xb hi h.n (fun h0=>?_) fun p h0 hp=>?_
  ·exact Jf (by omega) (fun h=>by cases h) fun _=>⟨VA.zero h0,hr⟩
  ·refine Jf (by omega) (fun c=>.inr ⟨rfl,fun v=>?_⟩) fun c=>⟨VA.at hp hx (by unfold NmR; simpa using c),hr⟩
   have:L4 (Iv p.Name) (Iv x.Name)=true:=v.names i p x h0 hp hx
   rw [this] at c; cases c
 show Ok (Bd.l2 e (e.Endpoints.length:Int)) _
 unfold Bd.l2
 refine Sy (Ok.up ?_)
 refine Pj e.Edges.length (zL (e.Endpoints.length:Int) e.Edges) (fun i hi hV=>?_) fun hD=>?_
 ·obtain⟨x,hx⟩:∃ x,e.Edges[i]?=some x:=⟨_,aA9 hi⟩
  show Ok (Bd.l4 e (i:Int)) _
  unfold Bd.l4
  refine bS hx ?_
  have no:¬ EdS (e.Endpoints.length:Int) x->Ok (Bd.j5 e (i:Int) x true) (pY (fun s'=>s'=((i + 1:Nat):Int)/\zL (e.Endpoints.length:Int) e.Edges i) (Dc 31 (EsV e))):=fun h=>by
   unfold Bd.j5
   rw [aEn]
   exact Ok.up (Dc.no fun v=>h ((v.ed i).2 x hx))
  refine Ok.cond (fun c=>no fun v=>by have:=aBs c; have:=v.1; omega) fun c1=>?_
  refine Ok.cond (fun c=>no fun v=>by have:=aBs c; have:=v.1; omega) fun c2=>?_
  refine Ok.cond (fun c=>no fun v=>by have:=aBs c; have:=v.2.1; omega) fun c3=>?_
  refine Ok.cond (fun c=>no fun v=>by have:=aBs c; have:=v.2.1; omega) fun c4=>?_
  have c1:=aDm c1
  have c2:=aDm c2
  have c3:=aDm c3
  have c4:=aDm c4
  by_cases c5:x.Client=x.Server
  ·rw [aAv c5]
   exact no fun v=>v.2.2 c5
  rw [aAy c5]
  have hr:∀ z,e.Edges[i]?=some z->EdS (e.Endpoints.length:Int) z:=fun z hz=>by rw [hx] at hz; cases hz; exact⟨by omega,by omega,c5⟩
  unfold Bd.j5
  rw [aDk]
  refine Xb hi h.edges (fun h0=>?_) fun p h0 hp=>?_
  ·exact Jf (by omega) (fun h=>by cases h) fun _=>⟨VA.zero h0,hr⟩
  ·refine Ok.cond (fun c=>?_) fun c6=>?_
   ·refine Jf (by omega) (fun _=>.inr ⟨rfl,fun v=>?_⟩) fun h=>by cases h
    have:=aBs c
    rcases (v.ed i).1 p x h0 hp hx with h | h <;> omega
   have c6:=aDm c6
   refine Ok.cond (fun c=>?_) fun c=>?_
   ·have c:=aBs c
    refine Jf (by omega) (fun d=>.inr ⟨rfl,fun v=>?_⟩) fun d=>⟨VA.at hp hx (.inr ⟨c,by have:=aDm d; omega⟩),hr⟩
    have d:=aBs d
    rcases (v.ed i).1 p x h0 hp hx with h | h <;> omega
   ·have c:=aDm c
    exact Jf (by omega) (fun h=>by cases h) fun _=>⟨VA.at hp hx (.inl (by omega)),hr⟩
 show Ok (Bd.l4 e (e.Edges.length:Int)) _
 unfold Bd.l4
 refine Sy (Ok.up ?_)
 refine Pj e.Items.length (fun i=>∀ x,e.Items[i]?=some x->ItV x) (fun i hi hV=>?_) fun hI=>?_
 ·obtain⟨x,hx⟩:∃ x,e.Items[i]?=some x:=⟨_,aA9 hi⟩
  show Ok (Bd.l7 e (i:Int)) _
  unfold Bd.l7
  refine bS hx (Ok.bind (aA (h.it x (Ff hx))) fun y hy=>?_)
  refine Jf (by omega) (fun c=>.inr ⟨rfl,fun v=>?_⟩) fun c z hz=>?_
  ·rcases hy with ⟨rfl,hy⟩ | ⟨rfl,hy⟩
   ·cases c
   ·exact hy (v.it x (Ff hx))
  ·rw [hx] at hz; cases hz
   rcases hy with ⟨rfl,hy⟩ | ⟨rfl,hy⟩
   ·exact hy
   ·cases c
 show Ok (Bd.l7 e (e.Items.length:Int)) _
 unfold Bd.l7
 exact Sy (Ok.up (Dc.yes ⟨Nc fun i hi=>(hV i hi).2,fun i=>if h:i < e.Endpoints.length then (hV i h).1 else VA.out (by omega),by omega,Nc hI,by omega,by omega,fun i=>if h:i < e.Edges.length then hD i h else zL.out (by omega)⟩))
end
end Go.Proofs.YtkoflhimdenjaaaGreat
