/- Plain texts, joined. No program is in sight here. -/
import Derived.Test.YtchpcpaacenodaaGreatF5
import Derived.Test.YtchpcpaacenodaaGreatME
import Derived.KernelRfl
set_option autoImplicit false
set_option linter.unusedVariables false
set_option linter.unusedSimpArgs false
namespace Go.Proofs.YtchpcpaacenodaaGreat
section
open Go
theorem Z8 {S R:Type} {body:S->Option (Lp S R)} (n:Nat) (G:Nat->S) (r:Option R) (h1:∀ i,i < n->body (G i)=some (.next (G (i + 1)))) (h2:body (G n)=up r):Cl body (G 0)=r:=by
 have:∀ k,k<=n->Cl body (G 0)=Cl body (G k):=by
  intro k
  induction k with
  | zero=>intro _; rfl
  | succ k ih=>intro hk; rw [ih (by omega)]; exact Ej (h1 k (by omega))
 rw [this n (aGz _)]
 exact D0 h2
def Ta (at':Aa) (k:Int) (u:Am) (n:Int):Aa:=⟨at'.Source,at'.Host,at'.Machine,at'.Day,at'.Confidence,k,at'.Subject,u,n,⟨#[]⟩⟩
def Oa (at':Aa):Aa:=Ta at' 4 ⟨0,0⟩ 1
abbrev yB:=Int×Int×ByteArray×Int×Int×Int×Int×ByteArray×Int×Int×Int×ByteArray×List Aa
def gD (A:Aa) (l:List Aa) (i:Int):yB:=(i,A.Source,A.Host,A.Machine,A.Day,A.Confidence,A.Kind,A.Subject,A.Use.Alg,A.Use.Bits,A.Number,A.Text,l)
theorem P5 (at':Aa) (l:List Aa) (k:Int) (u:Am) (n:Int) (hl:l.length<=1000):Cw ⟨Oa at',l⟩ k u n=some ⟨Oa at',l ++ [Ta at' k u n]⟩:=by
 unfold Cw
 rw [Fr (by show (l.length + 1) * 1232<=_; omega)]
 rfl
theorem Rs {α R:Type} (at':Aa) (X:List α) (kd:Int) (us:α->Am) (nm:α->Int) {body:yB->Option (Lp yB R)} {fin:List Aa->Option R}
  (hb:∀ (i:Int) l,body (gD (Oa at') l i)=cond (decide (i < (X.length:Int))) ((B8 X i).bind fun x=>(Cw ⟨Oa at',l⟩ kd (us x) (nm x)).bind fun y=>some (.next (gD y.at_ y.l (W (i + 1))))) (up (fin l)))
  (l:List Aa) (hl:l.length + X.length<=1000):Cl body (gD (Oa at') l 0)=fin (l ++ X.map fun x=>Ta at' kd (us x) (nm x)):=by
 refine (Z8 (body:=body) X.length (fun i=>gD (Oa at') (l ++ (X.take i).map fun x=>Ta at' kd (us x) (nm x)) (i:Int)) (fin (l ++ X.map fun x=>Ta at' kd (us x) (nm x))) (fun i hi=>?_) ?_).symm.symm.trans rfl |> (fun h=>by simpa [gD] using h)
 ·obtain⟨x,hx⟩:∃ x,X[i]?=some x:=⟨_,aBo hi⟩
  rw [hb,G7 hx,P5 _ _ _ _ _ (by rw [aGd,aIp,aGe]; omega),aAc,Iq (by omega),I9 hx,aIt,aH4]
  rfl
 ·rw [hb,Fs,aIc]
def xY (at':Aa) (e:Av):List Aa:=
 ((([Ta at' 5 ⟨0,0⟩ e.Least,Ta at' 4 ⟨0,0⟩ e.Most] ++ e.Suites.map fun n=>Ta at' 2 ⟨0,0⟩ n) ++ e.Identities.map fun x=>Ta at' 3 x.Key x.KeyId) ++ e.Anchors.map fun n=>Ta at' 6 ⟨0,0⟩ n) ++ e.Hashes.map fun n=>Ta at' 1 ⟨n,0⟩ 0
structure Wj (e:Av):Prop where
 suites:e.Suites.length<=50
 ids:e.Identities.length<=50
 anchors:e.Anchors.length<=50
 hashes:e.Hashes.length<=50
theorem V5 {at':Aa} (h:Kf at') (k:Int) (u:Am) (n:Int):Kf (Ta at' k u n):=⟨h.host,h.subj,by show (0:Nat)<=_; omega⟩
theorem nW {at':Aa} (h:Kf at') (e:Av):∀ f∈xY at' e,Kf f:=by
 intro f hf
 have:∃ k u n,f=Ta at' k u n:=by
  unfold xY at hf
  simp only [aHv,aFt,aGi,aIe,aHz] at hf
  rcases hf with (((((rfl | rfl) | ⟨_,-,rfl⟩) | ⟨_,-,rfl⟩) | ⟨_,-,rfl⟩) | ⟨_,-,rfl⟩) <;> exact⟨_,_,_,rfl⟩
 obtain⟨k,u,n,rfl⟩:=this
 exact V5 h k u n
theorem fC (at':Aa) {e:Av} (h:Wj e):(xY at' e).length<=202:=by
 have h1:=h.suites
 have h2:=h.ids
 have h3:=h.anchors
 have h4:=h.hashes
 unfold xY
 simp only [aGd,aIp,aH2,List.length_nil]
 omega
noncomputable def Sn (at':Aa) (e:Av):List Aa×Int:=
 bif M8 (Oa at') then ([],24) else bif decide (Bm e=some 0) then M6 (xY at' e) else ([],19)
theorem Sj {at':Aa} (h:Kf at'):Gx at'=some (⟨Oa at',[]⟩,Tq (Oa at')):=by
 have:=aS (V5 h 4 ⟨0,0⟩ 1)
 unfold Gx
 show ((Bj (Oa at')).bind _)=_
 rw [show Bj (Oa at')=_ from this]
 rfl
theorem Uv {f:Aa} (h:M8 f=false):Tq f=0:=by
 unfold M8 at h
 simpa using h
theorem pZ {at':Aa} (h:Kf at') {e:Av} (he:Vc e) (hf:Wj e):Be at' e=some (Sn at' e):=by
 have h1:=hf.suites
 have h2:=hf.ids
 have h3:=hf.anchors
 have h4:=hf.hashes
 unfold Be Sn
 rw [Sj h,aAc]
 cases hb:M8 (Oa at') with
 | true=>
  rw [Pr hb]
  rfl
 | false=>
  rw [Uv hb]
  obtain⟨c,hc,hcv⟩:=Lw he
  rw [hc]
  show Be.j1 e _ c=_
  unfold Be.j1
  rw [aCx]
  rcases hcv with ⟨rfl,-⟩ | ⟨rfl,-⟩
  ·rw [aAe rfl,aAe rfl,aG4,aCx,aD8]
   show ((Cw ⟨Oa at',[]⟩ 5 ⟨0,0⟩ e.Least).bind _)=_
   rw [P5 _ _ _ _ _ (aHc _),aAc,P5 _ _ _ _ _ (by show (1:Nat)<=1000; omega),aAc]
   refine (Rs at' e.Suites 2 (fun _=>⟨0,0⟩) (fun n=>n) (fin:=fun l=>Cl (fun q'=>Be.l3 e q'.1 q'.2.1 q'.2.2.1 q'.2.2.2.1 q'.2.2.2.2.1 q'.2.2.2.2.2.1 q'.2.2.2.2.2.2.1 q'.2.2.2.2.2.2.2.1 q'.2.2.2.2.2.2.2.2.1 q'.2.2.2.2.2.2.2.2.2.1 q'.2.2.2.2.2.2.2.2.2.2.1 q'.2.2.2.2.2.2.2.2.2.2.2.1 q'.2.2.2.2.2.2.2.2.2.2.2.2) (gD (Oa at') l 0)) (fun i l=>rfl) _ (by simp; omega)).trans ?_
   refine (Rs at' e.Identities 3 (fun x=>x.Key) (fun x=>x.KeyId) (fin:=fun l=>Cl (fun q'=>Be.l4 e q'.1 q'.2.1 q'.2.2.1 q'.2.2.2.1 q'.2.2.2.2.1 q'.2.2.2.2.2.1 q'.2.2.2.2.2.2.1 q'.2.2.2.2.2.2.2.1 q'.2.2.2.2.2.2.2.2.1 q'.2.2.2.2.2.2.2.2.2.1 q'.2.2.2.2.2.2.2.2.2.2.1 q'.2.2.2.2.2.2.2.2.2.2.2.1 q'.2.2.2.2.2.2.2.2.2.2.2.2) (gD (Oa at') l 0)) (fun i l=>rfl) _ (by simp; omega)).trans ?_
   refine (Rs at' e.Anchors 6 (fun _=>⟨0,0⟩) (fun n=>n) (fin:=fun l=>Cl (fun q'=>Be.l5 e q'.1 q'.2.1 q'.2.2.1 q'.2.2.2.1 q'.2.2.2.2.1 q'.2.2.2.2.2.1 q'.2.2.2.2.2.2.1 q'.2.2.2.2.2.2.2.1 q'.2.2.2.2.2.2.2.2.1 q'.2.2.2.2.2.2.2.2.2.1 q'.2.2.2.2.2.2.2.2.2.2.1 q'.2.2.2.2.2.2.2.2.2.2.2.1 q'.2.2.2.2.2.2.2.2.2.2.2.2) (gD (Oa at') l 0)) (fun i l=>rfl) _ (by simp; omega)).trans ?_
   refine (Rs at' e.Hashes 1 (fun n=>⟨n,0⟩) (fun _=>0) (fin:=fun l=>(Cg l).bind fun y=>some (y.1,y.2)) (fun i l=>rfl) _ (by simp; omega)).trans ?_
   show ((Cg (xY at' e)).bind _)=_
   rw [nM _ (by have:=fC at' hf; exact aHw this (by omega)) (nW h e)]
   rfl
  ·rfl
end
section
open Go
def vV (lo hi:Int) (l:List Int) (i:Nat):Prop:=∀ x,l[i]?=some x->(lo<=x/\x<=hi)/\x∉l.take i
theorem vV.out {lo hi:Int} {l:List Int} {i:Nat} (h:l.length<=i):vV lo hi l i:=fun x hx=>by have:=Lb hx; omega
structure xU (h:Dj):Prop where
 most:1<=h.Most/\h.Most<=4
 sn:1<=h.Suites.length/\h.Suites.length<=16
 hn:h.Hashes.length<=16
 suites:∀ i,vV 0 65535 h.Suites i
 hashes:∀ i,vV 1 255 h.Hashes i
structure ChV (c:C6):Prop where
 version:1<=c.Version/\c.Version<=4
 suite:0<=c.Suite/\c.Suite<=65535
 key:0<=c.KeyId/\c.KeyId<=2147483648
theorem aU (l:List Int) (lo hi:Int) (hl:l.length<=1000):Ok (Cf l lo hi) (fun b=>b=true↔∀ i,vV lo hi l i):=by
 unfold Cf
 refine Sk l.length (vV lo hi l) (fun i hi' hV=>?_) fun hV=>?_
 ·obtain⟨x,hx⟩:∃ x,l[i]?=some x:=⟨_,aBo hi'⟩
  show Ok (Cf.l1 l lo hi (i:Int)) _
  unfold Cf.l1
  refine jT hx ?_
  refine Ok.cond (fun c=>K7 (by omega) (fun _=>⟨fun h=>(by cases h),fun v=>by have:=aCl c; have:=(v i x hx).1; omega⟩) fun h=>by cases h) fun c1=>?_
  refine Ok.cond (fun c=>K7 (by omega) (fun _=>⟨fun h=>(by cases h),fun v=>by have:=aCl c; have:=(v i x hx).1; omega⟩) fun h=>by cases h) fun c2=>?_
  have c1:=aD7 c1
  have c2:=aD7 c2
  rw [Zr (by omega),aAc,N0 _ _ (by rw [aGe]; omega),aAc]
  refine K7 (by omega) (fun h=>⟨fun h=>(by cases h),fun v=>absurd (aCl h) (v i x hx).2⟩) fun h z hz=>?_
  rw [hx] at hz; cases hz
  exact⟨by omega,aD7 h⟩
 ·show Ok (Cf.l1 l lo hi (l.length:Int)) _
  unfold Cf.l1
  exact Wq (Ok.up (Ok.ret ⟨fun _ i=>if h:i < l.length then hV i h else vV.out (by omega),fun _=>rfl⟩))
theorem Yo (l:List Int) (lo hi:Int) (hl:l.length<=1000):Ok (Cz l lo hi) (fun b=>b=true↔∀ i,vV lo hi l i):=by
 unfold Cz
 refine Sk l.length (vV lo hi l) (fun i hi' hV=>?_) fun hV=>?_
 ·obtain⟨x,hx⟩:∃ x,l[i]?=some x:=⟨_,aBo hi'⟩
  show Ok (Cz.l1 l lo hi (i:Int)) _
  unfold Cz.l1
  refine jT hx ?_
  refine Ok.cond (fun c=>K7 (by omega) (fun _=>⟨fun h=>(by cases h),fun v=>by have:=aCl c; have:=(v i x hx).1; omega⟩) fun h=>by cases h) fun c1=>?_
  refine Ok.cond (fun c=>K7 (by omega) (fun _=>⟨fun h=>(by cases h),fun v=>by have:=aCl c; have:=(v i x hx).1; omega⟩) fun h=>by cases h) fun c2=>?_
  have c1:=aD7 c1
  have c2:=aD7 c2
  rw [Zr (by omega),aAc,Vx _ _ (by unfold Lo; rw [aGe]; omega),aAc]
  refine K7 (by omega) (fun h=>⟨fun h=>(by cases h),fun v=>absurd (aCl h) (v i x hx).2⟩) fun h z hz=>?_
  rw [hx] at hz; cases hz
  exact⟨by omega,aD7 h⟩
 ·show Ok (Cz.l1 l lo hi (l.length:Int)) _
  unfold Cz.l1
  exact Wq (Ok.up (Ok.ret ⟨fun _ i=>if h:i < l.length then hV i h else vV.out (by omega),fun _=>rfl⟩))
theorem cM (h:Dj) (h1:h.Suites.length<=1000) (h2:h.Hashes.length<=1000):Ok (C3 h) (fun b=>b=true↔xU h):=by
 have no:¬ xU h->Ok (some false) (fun b=>b=true↔xU h):=fun n=>Ok.ret ⟨fun h=>(by cases h),fun v=>absurd v n⟩
 unfold C3
 refine Ok.cond (fun c=>no fun v=>by have:=aCl c; have:=v.most; omega) fun c1=>?_
 refine Ok.cond (fun c=>no fun v=>by have:=aCl c; have:=v.most; omega) fun c2=>?_
 refine Ok.cond (fun c=>no fun v=>by have:=aCl c; have:=v.sn; omega) fun c3=>?_
 refine Ok.cond (fun c=>no fun v=>by have:=aCl c; have:=v.sn; omega) fun c4=>?_
 refine Ok.cond (fun c=>no fun v=>by have:=aCl c; have:=v.hn; omega) fun c5=>?_
 have c1:=aD7 c1
 have c2:=aD7 c2
 have c3:=aD7 c3
 have c4:=aD7 c4
 have c5:=aD7 c5
 refine Ok.bind (aU _ _ _ h1) fun y hy=>?_
 refine Ok.cond (fun c=>?_) fun c=>no fun v=>by rw [hy.2 v.suites] at c; cases c
 refine Ok.bind (aU _ _ _ h2) fun z hz=>Ok.ret ⟨fun e=>⟨by omega,by omega,by omega,hy.1 c,hz.1 e⟩,fun v=>hz.2 v.hashes⟩
theorem iD (h:Dj) (h1:h.Suites.length<=1000) (h2:h.Hashes.length<=1000):Ok (Ld h) (fun b=>b=true↔xU h):=by
 have no:¬ xU h->Ok (some false) (fun b=>b=true↔xU h):=fun n=>Ok.ret ⟨fun h=>(by cases h),fun v=>absurd v n⟩
 unfold Ld
 refine Ok.cond (fun c1=>?_) fun c=>no fun v=>by have:=aD7 c; have:=v.most; omega
 refine Ok.cond (fun c2=>?_) fun c=>no fun v=>by have:=aD7 c; have:=v.most; omega
 refine Ok.cond (fun c3=>?_) fun c=>no fun v=>by have:=aD7 c; have:=v.sn; omega
 refine Ok.cond (fun c4=>?_) fun c=>no fun v=>by have:=aD7 c; have:=v.sn; omega
 refine Ok.cond (fun c5=>?_) fun c=>no fun v=>by have:=aD7 c; have:=v.hn; omega
 have c1:=aCl c1
 have c2:=aCl c2
 have c3:=aCl c3
 have c4:=aCl c4
 have c5:=aCl c5
 refine Ok.bind (Yo _ _ _ h1) fun y hy=>?_
 refine Ok.cond (fun c=>?_) fun c=>no fun v=>by rw [hy.2 v.suites] at c; cases c
 refine Ok.bind (Yo _ _ _ h2) fun z hz=>Ok.ret ⟨fun e=>⟨by omega,by omega,by omega,hy.1 c,hz.1 e⟩,fun v=>hz.2 v.hashes⟩
theorem Yp (h:Dj) (h1:h.Suites.length<=1000) (h2:h.Hashes.length<=1000):Ok (Ce h) (fun y=>Dc 23 (xU h) y.2):=by
 unfold Ce
 refine Ok.bind (cM h h1 h2) fun y hy=>?_
 refine Ok.cond (fun c=>Ok.ret (.inr ⟨rfl,fun v=>by rw [hy.2 v] at c; cases c⟩)) fun c=>?_
 have v:=hy.1 (by simpa using c)
 refine Ok.loop (fun s:Int×List UInt8=>∃ i:Nat,s.1=(i:Int)/\i<=h.Suites.length/\s.2.length<=3 + 2 * i) (fun s=>h.Suites.length - s.1.toNat) ?_ ⟨0,rfl,aHc _,aGz _⟩
 rintro⟨_,b⟩ ⟨i,rfl,hi,hb⟩
 dsimp only at hb
 show Ok (Ce.l1 h (i:Int) b) _
 unfold Ce.l1
 refine Ok.cond (fun c=>?_) fun _=>Ok.up ?_
 ·have hil:i < h.Suites.length:=by have:=aCl c; omega
  obtain⟨x,hx⟩:∃ x,h.Suites[i]?=some x:=⟨_,aBo hil⟩
  rw [D6,hx,aAc]
  refine Ok.bindE (a:=_) rfl ?_
  refine Ok.bind (J5 (by show (b.length + 2) * 1<=_; omega)) fun l hl=>?_
  subst hl
  rw [Iq (by omega)]
  exact Ok.ret ⟨⟨i + 1,rfl,hil,by show (b ++ [_,_]).length<=3 + 2 * (i + 1); rw [aGd]; show b.length + 2<=_; omega⟩,by show h.Suites.length - ((i + 1:Nat):Int).toNat < h.Suites.length - ((i:Nat):Int).toNat; omega⟩
 ·refine Ok.bind (J5 (by show (b.length + 1) * 1<=_; omega)) fun l hl=>?_
  refine Ok.loop (fun s:Int×List UInt8=>∃ i:Nat,s.1=(i:Int)/\i<=h.Hashes.length/\s.2.length<=5000 + i) (fun s=>h.Hashes.length - s.1.toNat) ?_ ⟨0,rfl,aHc _,by show l.length<=5000 + 0; rw [hl,aGd]; show b.length + 1<=_; omega⟩
  rintro⟨_,b2⟩ ⟨k,rfl,hk,hb2⟩
  dsimp only at hb2
  show Ok (Ce.l2 h (k:Int) b2) _
  unfold Ce.l2
  refine Ok.cond (fun c=>?_) fun _=>Ok.up (Ok.ret (.inl ⟨rfl,v⟩))
  have hkl:k < h.Hashes.length:=by have:=aCl c; omega
  obtain⟨x,hx⟩:∃ x,h.Hashes[k]?=some x:=⟨_,aBo hkl⟩
  rw [D6,hx,aAc]
  refine Ok.bind (J5 (by show (b2.length + 1) * 1<=_; omega)) fun l hl=>?_
  subst hl
  rw [Iq (by omega)]
  exact Ok.ret ⟨⟨k + 1,rfl,hkl,by show (b2 ++ [_]).length<=5000 + (k + 1); rw [aGd]; show b2.length + 1<=_; omega⟩,by show h.Hashes.length - ((k + 1:Nat):Int).toNat < h.Hashes.length - ((k:Nat):Int).toNat; omega⟩
theorem Tv (c:C6):Ok (Ga c) (fun b=>b=true↔ChV c):=by
 have no:¬ ChV c->Ok (some false) (fun b=>b=true↔ChV c):=fun n=>Ok.ret ⟨fun h=>(by cases h),fun v=>absurd v n⟩
 unfold Ga
 refine Ok.cond (fun c1=>?_) fun e=>no fun v=>by have:=aD7 e; have:=v.version; omega
 refine Ok.cond (fun c2=>?_) fun e=>no fun v=>by have:=aD7 e; have:=v.version; omega
 refine Ok.cond (fun c3=>?_) fun e=>no fun v=>by have:=aD7 e; have:=v.suite; omega
 refine Ok.cond (fun c4=>?_) fun e=>no fun v=>by have:=aD7 e; have:=v.suite; omega
 refine Ok.cond (fun c5=>?_) fun e=>no fun v=>by have:=aD7 e; have:=v.key; omega
 have c1:=aCl c1
 have c2:=aCl c2
 have c3:=aCl c3
 have c4:=aCl c4
 have c5:=aCl c5
 exact Ok.ret ⟨fun e=>⟨by omega,by omega,c5,aCl e⟩,fun v=>aAe v.key.2⟩
theorem Ww (c:C6):Ok (F4 c) (fun y=>Dc 23 (ChV c) y.2):=by
 unfold F4
 refine Ok.bind (Tv c) fun y hy=>?_
 refine Ok.cond (fun e=>Ok.ret (.inr ⟨rfl,fun v=>by rw [hy.2 v] at e; cases e⟩)) fun e=>?_
 refine Ok.bindE (a:=_) rfl (Ok.bindE (a:=_) rfl (Ok.bindE (a:=_) rfl (Ok.bindE (a:=_) rfl ?_)))
 exact Ok.ret (.inl ⟨rfl,hy.1 (by simpa using e)⟩)
theorem Yr:∃ l,Di=some l/\l.length=16/\∀ x∈l,0 < Kq x.Cipher/\0 < Kq x.Mac:=by
 unfold Di Cy
 simp only [aAc]
 refine Ok.loop (fun s:Int×List A4=>∃ i:Nat,s.1=(i:Int)/\i<=16/\s.2.length=16/\∀ x∈s.2,0 < Kq x.Cipher/\0 < Kq x.Mac) (fun s=>16 - s.1.toNat) ?_ ⟨0,rfl,by omega,rfl,by decide +kernel⟩
 rintro⟨_,l⟩ ⟨i,rfl,hi,hl,hu⟩
 dsimp only at hl hu
 show Ok (Di.l1 _ _ _ _ _ _ _ _ _ _ _ _ _ _ _ _ _ _ _ _ _ _ (i:Int) l) _
 unfold Di.l1
 refine Ok.cond (fun h=>?_) fun _=>Ok.up (Ok.ret ⟨hl,hu⟩)
 have h:(i:Int) < 16:=aCl h
 refine Ok.bind (K8 (by omega) (by omega)) fun e he=>Ok.ret ⟨⟨i + 1,by show W ((i:Int) + 1)=_; rw [Es (by omega)]; omega,by omega,?_,fun x hx=>?_⟩,?_⟩
 ·show (Db l _ _).length=16
  unfold Db
  rw [aKc]; exact hl
 ·have hx:x∈Db l (i:Int).toNat _:=hx
  unfold Db at hx
  rcases aI7 hx with hx | rfl
  ·exact hu x hx
  ·exact hu e he
 ·show 16 - (W ((i:Int) + 1)).toNat < 16 - ((i:Nat):Int).toNat
  rw [Es (by omega)]; omega
theorem Z2 (n:Int):Ok (Df n) (fun y=>Dc 8 (zR n) y.2/\(y.2=0->0 < Kq y.1.Cipher/\0 < Kq y.1.Mac)):=by
 obtain⟨l,hl,hlen,hu⟩:=Yr
 unfold Df
 rw [hl,aAc]
 refine Ok.cond (fun h=>?_) fun h=>?_
 ·exact Ok.ret ⟨.inr ⟨rfl,fun v=>by have:=aCl h; have:=v.1; omega⟩,fun h=>by cases h⟩
 ·have h:=aD7 h
  refine Ok.cond (fun g=>Ok.ret ⟨.inr ⟨rfl,fun v=>by have:=aCl g; have:=v.2; omega⟩,fun h=>by cases h⟩) fun g=>?_
  have g:=aD7 g
  rw [Es (by omega)]
  exact Ok.bind (K8 (by omega) (by omega)) fun e he=>Ok.ret ⟨.inl ⟨rfl,by omega,by omega⟩,fun _=>hu e he⟩
def iC (at':Aa) (c:C6) (s:A4×Int):List Aa:=
 [Ta at' 2 ⟨0,0⟩ c.Suite,Ta at' 4 ⟨0,0⟩ c.Version] ++ bif decide (s.2=0) then [Ta at' 1 s.1.Cipher 0,Ta at' 1 s.1.Mac 0] else []
theorem hZ {at':Aa} (h:Kf at') (c:C6) (s:A4×Int):∀ f∈iC at' c s,Kf f:=by
 intro f hf
 have:∃ k u n,f=Ta at' k u n:=by
  unfold iC at hf
  rcases aHv.1 hf with hf | hf
  ·simp only [aFt,aGi,aIe] at hf
   rcases hf with rfl | rfl <;> exact⟨_,_,_,rfl⟩
  ·cases hz:decide (s.2=0) with
   | true=>
    rw [hz,aD8] at hf
    simp only [aFt,aGi,aIe] at hf
    rcases hf with rfl | rfl <;> exact⟨_,_,_,rfl⟩
   | false=>rw [hz,aCx] at hf; cases hf
 obtain⟨k,u,n,rfl⟩:=this
 exact V5 h k u n
theorem mK {at':Aa} (h:Kf at') (hb:M8 (Oa at')=false) {m:Dj} {c:C6} (h1:m.Suites.length<=1000) (h2:m.Hashes.length<=1000) (hm:xU m) (hc:ChV c) {s:A4×Int} (hs:Df c.Suite=some s):Cm at' m c=some (M6 (iC at' c s)):=by
 unfold Cm
 rw [Sj h,aAc,Uv hb,aAe rfl,aG4,aCx]
 obtain⟨y2,e2,d2⟩:=Yp m h1 h2
 obtain⟨y3,e3,d3⟩:=Ww c
 have z2:y2.2=0:=by
  rcases d2 with ⟨q,-⟩ | ⟨-,q⟩
  ·exact q
  ·exact absurd hm q
 have z3:y3.2=0:=by
  rcases d3 with ⟨q,-⟩ | ⟨-,q⟩
  ·exact q
  ·exact absurd hc q
 rw [e2,aAc,z2,aAe rfl,aG4,aCx,e3,aAc,z3,aAe rfl,aG4,aCx]
 rw [P5 _ _ _ _ _ (aHc _),aAc,P5 _ _ _ _ _ (by show (1:Nat)<=1000; omega),aAc,hs,aAc]
 have fin:∀ l,l.length<=10->(∀ f∈l,Kf f)->Cm.j1 (Oa at').Source (Oa at').Host (Oa at').Machine (Oa at').Day (Oa at').Confidence (Oa at').Kind (Oa at').Subject (Oa at').Use.Alg (Oa at').Use.Bits (Oa at').Number (Oa at').Text l=some (M6 l):=fun l hl hf=>by
  unfold Cm.j1
  rw [nM l (by omega) hf]; rfl
 have hfit:=hZ h c s
 unfold iC at hfit ⊢
 cases hz:decide (s.2=0) with
 | true=>
  rw [hz] at hfit
  rw [aD8,P5 _ _ _ _ _ (by show (2:Nat)<=1000; omega),aAc,P5 _ _ _ _ _ (by show (3:Nat)<=1000; omega),aAc]
  exact fin _ (by show (4:Nat)<=10; omega) hfit
 | false=>
  rw [hz] at hfit
  rw [aCx]
  exact fin _ (by show (2:Nat)<=10; omega) hfit
end
section
open Go
theorem zY.few {name:ByteArray} {e:Av} (h:zY name e):Wj e:=by
 have h1:=h.sn
 have h2:=h.idn
 have ha:=h.anchors
 have hh:=h.hashes
 unfold aBu at ha
 unfold aDb at hh
 simp only [aFt,aGi,aIe] at ha hh
 refine⟨by omega,by omega,?_,?_⟩
 ·rcases ha with e | e | e | e | e <;> rw [e] <;> decide
 ·rcases hh with e | e | e <;> rw [e] <;> decide
theorem vG:Ev ⟨#[119,101,98]⟩=true/\cX ⟨#[119,101,98]⟩=true:=by decide +kernel
end
end Go.Proofs.YtchpcpaacenodaaGreat
