/- Plain texts, joined. No program is in sight here. -/
import Derived.Test.YtbpchmikjiinpaaGreatG3
import Derived.Test.YtbpchmikjiinpaaGreatF5
import Derived.Test.YtbpchmikjiinpaaGreatV2
import Derived.Test.YtbpchmikjiinpaaGreatT1
import Derived.Test.YtbpchmikjiinpaaGreatOW
set_option autoImplicit false
set_option linter.unusedVariables false
set_option linter.unusedSimpArgs false
set_option maxRecDepth 100000
namespace Go.Proofs.YtbpchmikjiinpaaGreat
section
open Go
theorem Wj {α R:Type} (kk:Nat) (X:List α) (g:α->Aa) {body:Int×List Aa->Option (Lp (Int×List Aa) R)} {fin:List Aa->Option R}
  (hb:∀ (i:Int) l,body (i,l)=cond (decide (i < (X.length:Int))) ((Bu X i).bind fun x=>(F3 kk l ([g x]:List Aa)).bind fun l'=>some (.next (W (i + 1),l'))) (up (fin l)))
  (hk:kk<=100000) (l:List Aa) (hl:l.length + X.length<=1000):B2 body ((0:Int),l)=fin (l ++ X.map g):=by
 have h:=bO (body:=body) X.length (fun i=>((i:Int),l ++ (X.take i).map g)) (fin (l ++ X.map g)) (fun i hi=>by
  obtain⟨x,hx⟩:∃ x,X[i]?=some x:=⟨_,aBx hi⟩
  have hlen:(l ++ (X.take i).map g).length + 1<=1001:=by rw [aDd,aSp,aFl]; omega
  rw [hb,Er hx,Dw (by
   rw [aDc]
   exact aK7 (Nat.mul_le_mul hlen hk) (by omega)),aAc,Fm (by omega),Fl hx,aQj,aLp]
  rfl) (by rw [hb,De,aLc])
 simpa using h
def lH (at':Aa):Aa:=fE at' 0 ⟨0,0⟩ 0
def aKb:Aa:=⟨0,⟨#[]⟩,0,0,0,0,⟨#[]⟩,⟨0,0⟩,0,⟨#[]⟩⟩
theorem zF {at':Aa} (h:Jz at'):Nf at'=some (bif Rp (Zc at') then (aKb,24) else (lH at',0)):=by
 unfold Nf
 show ((Ax (Zc at')).bind _)=_
 have hc:Ax (Zc at')=some (Tl (Zc at')):=Za (iX h 4 ⟨0,0⟩ 1)
 rw [hc,aAc]
 cases hb:Rp (Zc at') with
 | true=>
  have e1:(!decide (Tl (Zc at')=0))=true:=hb
  rw [e1,Wn hb]
  rfl
 | false=>
  have e1:(!decide (Tl (Zc at')=0))=false:=hb
  rw [e1]
  rfl
theorem mE {at':Aa} (h:Jz at') {e:Ad} (he:Mu e) (hf:Jl e):B6 at' e=some (I6 at' e):=by
 have h1:=hf.suites
 have h2:=hf.ids
 have h3:=hf.anchors
 have h4:=hf.hashes
 unfold B6 I6
 rw [zF h,aAc]
 cases hb:Rp (Zc at') with
 | true=>rfl
 | false=>
  rw [aCv,aCv,show (!decide ((lH at',(0:Int)).2=0))=false from rfl,aCv,eG he]
  obtain⟨c,hc,hcv⟩:=K5 he
  rw [hc,aAc]
  rcases hcv with ⟨rfl,-⟩ | ⟨rfl,-⟩
  ·rw [aBe rfl,aBe rfl,aLb,aCv,aDb]
   refine (Wj 1232 e.Suites (fun n=>fE at' 2 ⟨0,0⟩ n) (fin:=fun l=>B2 (fun q'=>B6.l2 e (lH at',0) q'.1 q'.2) (0,l)) (fun i l=>rfl) (by omega) [fE at' 5 ⟨0,0⟩ e.Least,fE at' 4 ⟨0,0⟩ e.Most] (by simp; omega)).trans ?_
   refine (Wj 1232 e.Identities (fun x=>fE at' 3 x.Key x.KeyId) (fin:=fun l=>B2 (fun q'=>B6.l3 e (lH at',0) q'.1 q'.2) (0,l)) (fun i l=>rfl) (by omega) _ (by simp; omega)).trans ?_
   refine (Wj 1232 e.Anchors (fun n=>fE at' 6 ⟨0,0⟩ n) (fin:=fun l=>B2 (fun q'=>B6.l4 e (lH at',0) q'.1 q'.2) (0,l)) (fun i l=>rfl) (by omega) _ (by simp; omega)).trans ?_
   refine (Wj 1232 e.Hashes (fun n=>fE at' 1 ⟨n,0⟩ 0) (fin:=fun l=>(C6 l).bind fun y=>some (y.1,y.2)) (fun i l=>rfl) (by omega) _ (by simp; omega)).trans ?_
   show ((C6 (yS at' e)).bind _)=_
   rw [yN _ (by have:=gQ at' hf; exact aK7 this (by omega)) (gI h e)]
   rfl
  ·rfl
end
section
open Go
theorem aCi {d:Ab} (hd:Jw d) {e:Ad} (hf:Mu e) (hw:Jl e) (h1:e.Suites.length<=10) (h2:e.Identities.length<=3) (nm:e.Name.size<=1000):Ok (Fk d e) (fun y=>Mu y.1/\Jl y.1):=by
 have h3:=hw.anchors
 have h4:=hw.hashes
 have fin:∀ (d':Ab) (nm:ByteArray) (a b:Int) (su:List Int) (ids:List Am) (an ha:List Int),nm.size<=1000->su.length<=50->ids.length<=50->(∀ x∈ids,∀ c∈x.Chain,bA c)->an.length<=50->ha.length<=50->Ok (Fk.j1 e d'.L d'.At nm a b su ids an ha) (fun y=>Mu y.1/\Jl y.1):=fun d' nm a b su ids an ha k1 k2 k3 k4 k5 k6=>by
  unfold Fk.j1
  exact Ok.ret ⟨⟨by show nm.size<=_; omega,Ks (by show su.length<=_; omega),Ks (by show ids.length<=_; omega),Ks (by show an.length<=_; omega),Ks (by show ha.length<=_; omega),k4⟩,⟨k2,k3,k5,k6⟩⟩
 have s1:e.Suites.length<=50:=by omega
 have i1:e.Identities.length<=50:=by omega
 unfold Fk
 refine Ok.bind (Ej hd 8 (by omega) (by omega)) fun y hy=>?_
 refine Ok.cond (fun _=>Ok.bind (Uw hy.2 _ (by decide) (by decide)) fun y2 k2=>fin y2.2 _ _ _ _ _ _ _ ?_ s1 i1 hf.chain h3 h4) (fun _=>?_)
 ·have:=k2.1
  simp only [aC6,aD5,aLd] at this
  rcases this with e | e | e <;> rw [e] <;> decide
 refine Ok.cond (fun _=>Ok.bind (Kt hy.2 _ (by simp) (by simp)) fun y2 k2=>fin y2.2 _ _ _ _ _ _ _ nm s1 i1 hf.chain h3 h4) (fun _=>?_)
 refine Ok.cond (fun _=>Ok.bind (Kt hy.2 _ (by decide) (by decide)) fun y2 k2=>fin y2.2 _ _ _ _ _ _ _ nm s1 i1 hf.chain h3 h4) (fun _=>?_)
 refine Ok.cond (fun _=>?_) (fun _=>?_)
 ·refine Ok.bindE (Dw (by simp; omega)) ?_
  refine Ok.bind (Kt hy.2 _ (by decide) (by decide)) fun y2 k2=>?_
  refine Ok.bindE (Dw (by simp; omega)) (fin y2.2 _ _ _ _ _ _ _ nm ?_ i1 hf.chain h3 h4)
  simp
  omega
 refine Ok.cond (fun _=>fin y.2 _ _ _ _ _ _ _ nm s1 i1 hf.chain (by decide) h4) (fun _=>?_)
 refine Ok.cond (fun _=>Ok.bind (Kt hy.2 _ (by decide) (by decide)) fun y2 k2=>fin y2.2 _ _ _ _ _ _ _ nm s1 i1 hf.chain h3 (by rw [aDc]; omega)) (fun _=>?_)
 have app:∀ (x:Am),(∀ c∈x.Chain,bA c)->∀ z∈([] ++ e.Identities) ++ [x],∀ c∈z.Chain,bA c:=fun x hx z hz c hc=>by
  rw [aQp] at hz
  rcases aHz.1 hz with hz | hz
  ·exact hf.chain z hz c hc
  ·rw [aDi.1 hz] at hc
   exact hx c hc
 have len:∀ (x:Am),(([] ++ e.Identities) ++ [x]).length<=50:=fun x=>by simp; omega
 refine Ok.cond (fun _=>?_) (fun _=>?_)
 ·refine Ok.bindE (Dw (by simp; omega)) (Ok.bindE (Dw (by simp; omega)) (fin y.2 _ _ _ _ _ _ _ nm s1 (len _) (app _ fun c hc=>by cases hc) h3 h4))
 ·refine Ok.bindE (Dw (by simp; omega)) ?_
  refine Ok.bind (fP hy.2 (by decide +kernel) (by decide) (show bP ⟨5,2048⟩ from ⟨⟨by unfold Sm; decide,by unfold Sm; decide⟩,by decide +kernel⟩) (by omega)) fun y2 k2=>?_
  refine Ok.bindE (Dw (by simp; omega)) (fin y2.2 _ _ _ _ _ _ _ nm s1 (len _) (app _ fun c hc=>(k2.1.2.1 c hc).2.w) h3 h4)
end
section
section
open Go
theorem aG5 {l:List Int} {n:Int}:(l.any fun x=>decide (x=n))=decide (n∈l):=by
 rw [Bool.eq_iff_iff,aK8,decide_eq_true_iff]
 exact⟨fun ⟨x,h1,h2⟩=>by rw [<- aCm h2]; exact h1,fun h=>⟨n,h,aBe rfl⟩⟩
theorem aCx (l:List Int) (n:Int) (h:l.length<=1000):Gl l n=some (decide (n∈l)):=by
 unfold Gl
 refine (M2 l (fun e=>decide (e=n)) true false (Ks (by omega)) (fun i x hx=>?_) ?_).trans ?_
 ·show Gl.l1 _ _ _=_
  unfold Gl.l1
  rw [Er hx]
  cases decide (x=n) <;> rfl
 ·show Gl.l1 _ _ _=_
  unfold Gl.l1
  rw [De]
  rfl
 ·rw [aG5]
  cases decide (n∈l) <;> rfl
def idB (f:Aa) (y:Am):Bool:=bif decide (y.Key=f.Use) then decide (y.KeyId=f.Number) else false
def Qr (z:Ad) (f:Aa):Bool:=
 bif !decide (f.Host=z.Name) then false else bif decide (f.Kind=2) then !decide (f.Number∈z.Suites) else bif decide (f.Kind=3) then !z.Identities.any (idB f) else
 bif decide (f.Kind=4) then !decide (f.Number=z.Most) else bif decide (f.Kind=5) then !decide (f.Number=z.Least) else bif decide (f.Kind=6) then !decide (f.Number∈z.Anchors) else false
theorem aE2 (s:List Am) (f:Am->Option Bool) (p:Am->Bool) (h:Lo s) (hp:∀ x∈s,f x=some (p x)):Bo s f=some (Sq s p):=by
 unfold Bo
 refine Po s p h (fun i x hx=>?_) ?_
 ·show Bo.l1 s f (i:Int)=_
  unfold Bo.l1
  rw [Er hx,hp x (Dv hx),aAc]
  cases p x <;> rfl
 ·show Bo.l1 s f (s.length:Int)=_
  unfold Bo.l1
  rw [De]
  rfl
theorem Yv {z:Ad} (h:Jl z) (f:Aa):El z f=some (Qr z f):=by
 have h1:=h.suites
 have h2:=h.ids
 have h3:=h.anchors
 have e3:Eh z.Identities (fun x0=>F0 x0 f)=some (z.Identities.any (idB f)):=by
  unfold Eh
  rw [aE2 z.Identities _ (idB f) (by unfold Lo; omega) (fun y _=>by
   unfold F0 idB
   cases decide (y.Key=f.Use) <;> rfl),aAc,Qf]
 unfold El Qr
 rw [Km _ _ (by omega),Km _ _ (by omega),e3]
 cases decide (f.Host=z.Name)
 ·rfl
 cases decide (f.Kind=2)
 ·cases decide (f.Kind=3)
  ·cases decide (f.Kind=4)
   ·cases decide (f.Kind=5)
    ·cases decide (f.Kind=6) <;> rfl
    ·rfl
   ·rfl
  ·rfl
 ·rfl
theorem Yn {z:Ad} (h:Jl z) (f:Aa):Cc z f=some (Qr z f):=by
 have h1:=h.suites
 have h2:=h.ids
 have h3:=h.anchors
 have e3:B2 (fun q'=>Cc.l1 z f q') (0:Int)=some (!z.Identities.any (idB f)):=by
  refine (M2 z.Identities (idB f) false true (Ks (by omega)) (fun i x hx=>?_) ?_).trans ?_
  ·show Cc.l1 z f (i:Int)=_
   unfold Cc.l1 Cc.j2 idB
   rw [Er hx]
   cases decide (x.Key=f.Use) with
   | false=>rfl
   | true=>cases decide (x.KeyId=f.Number) <;> rfl
  ·show Cc.l1 z f (z.Identities.length:Int)=_
   unfold Cc.l1
   rw [De]
   rfl
  ·cases z.Identities.any (idB f) <;> rfl
 unfold Cc Qr
 rw [aCx _ _ (by omega),aCx _ _ (by omega),e3]
 cases decide (f.Host=z.Name)
 ·rfl
 cases decide (f.Kind=2)
 ·cases decide (f.Kind=3)
  ·cases decide (f.Kind=4)
   ·cases decide (f.Kind=5)
    ·cases decide (f.Kind=6) <;> rfl
    ·rfl
   ·rfl
  ·rfl
 ·rfl
theorem aBj (x f:Aa):decide (nO x=nO f)=(decide (x.Host=f.Host) && (decide (x.Day=f.Day) && (decide (x.Kind=f.Kind) && (decide (x.Use=f.Use) && (decide (x.Number=f.Number) && decide (x.Text=f.Text)))))):=by
 unfold nO
 simp only [Dp.mk.injEq,Bool.decide_and]
theorem uB (S:List Aa) (f:Aa) (h:S.length<=1000):C9 S f=some (V1 S f):=by
 unfold C9 V1
 refine (M2 S (fun x=>decide (nO x=nO f)) true false (Ks (by omega)) (fun i x hx=>?_) ?_).trans ?_
 ·show C9.l1 S f (i:Int)=_
  unfold C9.l1 C9.j2
  rw [Er hx,aBj]
  cases decide (x.Host=f.Host) with
  | false=>rfl
  | true=>
   cases decide (x.Day=f.Day) with
   | false=>rfl
   | true=>
    cases decide (x.Kind=f.Kind) with
    | false=>rfl
    | true=>
     cases decide (x.Use=f.Use) with
     | false=>rfl
     | true=>
      cases decide (x.Number=f.Number) with
      | false=>rfl
      | true=>cases decide (x.Text=f.Text) <;> rfl
 ·show C9.l1 S f (S.length:Int)=_
  unfold C9.l1
  rw [De]
  rfl
 ·cases S.any (fun x=>decide (nO x=nO f)) <;> rfl
theorem pT {at':Aa} (h:Jz at') {e:Ad} (he:Mu e) (hf:Jl e):Hc e at'=some (I6 at' e):=by
 unfold Hc
 rw [rM h he hf]
 rfl
theorem oX {at':Aa} (h:Jz at') {e:Ad} (he:Mu e) (hf:Jl e):Io e at'=some (I6 at' e):=by
 unfold Io
 rw [mE h he hf]
 rfl
theorem fR (l:List Aa):(Qv l).1.length<=l.length:=by
 unfold Qv
 cases l.any Rp with
 | true=>exact aI3 _
 | false=>exact Xw dJ l
theorem Oh (at':Aa) {e:Ad} (h:Jl e):(I6 at' e).1.length<=202:=by
 unfold I6
 cases Rp (Zc at') with
 | true=>exact aI3 _
 | false=>
  cases decide (Bq e=some 0) with
  | true=>
   have h1:=fR (yS at' e)
   have h2:=gQ at' h
   show (Qv (yS at' e)).1.length<=202
   omega
  | false=>exact aI3 _
noncomputable def R6 (at':Aa) (e:Ad) (S:List Aa):List Aa×Int:=
 bif decide ((I6 at' e).2=0) then ((I6 at' e).1.filter (fun f=>!V1 S f),0) else ([],(I6 at' e).2)
theorem xL (at':Aa) {e:Ad} (h:Jl e) (S:List Aa):(R6 at' e S).1.length<=202:=by
 have h1:=Oh at' h
 unfold R6
 cases decide ((I6 at' e).2=0) with
 | true=>exact aK7 (List.length_filter_le _ _) h1
 | false=>exact aI3 _
theorem kM {at':Aa} (h:Jz at') {e:Ad} (he:Mu e) (hf:Jl e) {S:List Aa} (hS:S.length<=1000):Ee e at' S=some (R6 at' e S):=by
 have hl:=Oh at' hf
 have hx:=pT h he hf
 unfold R6
 cases hz:decide ((I6 at' e).2=0) with
 | true=>
  have hz:=aCm hz
  exact xV (by rw [hx,<- hz]) (by omega) (by omega)
 | false=>
  unfold Ee
  rw [hx,aAc,hz]
  rfl
theorem kK {at':Aa} (h:Jz at') {e:Ad} (he:Mu e) (hf:Jl e) {S:List Aa} (hS:S.length<=1000):Dd e at' S=some (R6 at' e S):=by
 have hl:=Oh at' hf
 unfold R6 Dd
 rw [oX h he hf,aAc]
 cases hz:decide ((I6 at' e).2=0) with
 | false=>rfl
 | true=>
  rw [aLb,aCv,aDb]
  generalize I6 at' e=y at *
  suffices hh:Ok (B2 (fun q'=>Dd.l1 S y q'.1 q'.2) (0,([]:List Aa))) (fun r=>r=(y.1.filter (fun f=>!V1 S f),0)) by
   obtain⟨r,a,b⟩:=hh
   rw [a,b]
  refine Ok.loop (fun t:Int×List Aa=>∃ i:Nat,t.1=(i:Int)/\i<=y.1.length/\t.2=(y.1.take i).filter (fun f=>!V1 S f)) (fun t=>y.1.length - t.1.toNat) ?_ ⟨0,rfl,aI3 _,rfl⟩
  rintro⟨t,out⟩ ⟨i,e1,e2,e3⟩
  simp only at e1 e3
  subst e1 e3
  have hlen:((y.1.take i).filter (fun f=>!V1 S f)).length<=i:=aK7 (List.length_filter_le _ _) (by rw [aFl]; omega)
  show Ok (Dd.l1 S y (i:Int) _) _
  unfold Dd.l1
  refine Ok.cond (fun hc=>?_) fun hc=>Ok.up (Ok.ret ?_)
  ·have hc:=aCm hc
   obtain⟨f,hf⟩:∃ f,y.1[i]?=some f:=⟨_,aBx (by omega)⟩
   refine Ok.bindE (Dr.trans hf) ?_
   rw [uB S f hS,aAc]
   unfold Dd.j2
   have dec:y.1.length - (W ((i:Int) + 1)).toNat < y.1.length - (i:Int).toNat:=by
    rw [Fm (by omega)]
    omega
   have hst:(y.1.take (i + 1)).filter (fun f=>!V1 S f)=(y.1.take i).filter (fun f=>!V1 S f) ++ (bif !V1 S f then [f] else []):=by
    rw [Fl hf,aS4,List.filter_cons,List.filter_nil]
    cases V1 S f <;> rfl
   refine Ok.cond (fun hn=>?_) fun hn=>?_
   ·refine Ok.bindE (Dw (by rw [aDc]; dsimp only; omega)) (Ok.ret ⟨⟨i + 1,Fm (by omega),by omega,?_⟩,dec⟩)
    show _=(y.1.take (i + 1)).filter _
    rw [hst,hn,aDb]
   ·refine Ok.ret ⟨⟨i + 1,Fm (by omega),by omega,?_⟩,dec⟩
    show _=(y.1.take (i + 1)).filter _
    rw [hst,hn,aCv,aOq]
  ·have hc:=aCn hc
   have hi:i=y.1.length:=by omega
   rw [hi,aLc]
noncomputable def aB6 (at':Aa) (e:Ad) (S:List Aa):Bool×Int:=
 bif decide ((R6 at' e S).2=0) then (decide (((R6 at' e S).1.length:Int)=0) && !S.any (fun x=>decide (x.Day=at'.Day) && Qr e x),0) else (false,(R6 at' e S).2)
theorem aCr {at':Aa} (h:Jz at') {e:Ad} (he:Mu e) (hf:Jl e) {S:List Aa} (hS:S.length<=1000):Lf e at' S=some (aB6 at' e S):=by
 unfold Lf aB6
 rw [kM h he hf hS,aAc]
 cases hz:decide ((R6 at' e S).2=0) with
 | false=>rfl
 | true=>
  rw [aLb,aCv,aDb]
  have hc:Em S (fun x0=>Hv x0 at' e)=some (S.any (fun x=>decide (x.Day=at'.Day) && Qr e x)):=by
   unfold Em
   rw [mR S _ (fun x=>decide (x.Day=at'.Day) && Qr e x) (Ks (by omega)) (fun x _=>by
    unfold Hv
    rw [Yv hf]
    cases decide (x.Day=at'.Day) <;> rfl),aAc,Qf]
  rw [hc]
  cases decide (((R6 at' e S).1.length:Int)=0) <;> rfl
theorem aBt {at':Aa} (h:Jz at') {e:Ad} (he:Mu e) (hf:Jl e) {S:List Aa} (hS:S.length<=1000):Dl e at' S=some (aB6 at' e S):=by
 unfold Dl aB6
 rw [kK h he hf hS,aAc]
 cases hz:decide ((R6 at' e S).2=0) with
 | false=>rfl
 | true=>
  rw [aLb,aCv,aDb]
  refine (M2 S (fun x=>decide (x.Day=at'.Day) && Qr e x) (false,(0:Int)) (decide (((R6 at' e S).1.length:Int)=0),(0:Int)) (Ks (by omega)) (fun i x hx=>?_) ?_).trans ?_
  ·show Dl.l1 e at' S _ (i:Int)=_
   unfold Dl.l1 Dl.j2
   rw [Er hx,Yn hf]
   cases decide (x.Day=at'.Day) with
   | false=>rfl
   | true=>
    show cond (Qr e x) _ _=_
    cases Qr e x <;> rfl
  ·show Dl.l1 e at' S _ (S.length:Int)=_
   unfold Dl.l1
   rw [De]
   rfl
  ·cases S.any (fun x=>decide (x.Day=at'.Day) && Qr e x) with
   | true=>rw [aLb,Bool.and_false]; rfl
   | false=>rw [aR7,Bool.and_true]; rfl
end
section
open Go
def yU (p:Aa->Bool) (l:List Aa):Nat->List Int
 | 0=>[]
 | n + 1=>yU p l n ++ (match l[n]? with | some f=>bif p f then [(n:Int)] else [] | none=>[])
theorem qB (p:Aa->Bool) (l:List Aa) (n:Nat):(yU p l n).length<=n:=by
 induction n with
 | zero=>exact aHx _
 | succ n ih=>
  unfold yU
  rw [aDd]
  cases l[n]? with
  | none=>exact aK7 ih (Nat.le_succ _)
  | some f=>
   show _ + (bif p f then [(n:Int)] else []).length<=_
   cases p f with
   | true=>rw [aDb,aDc]; omega
   | false=>rw [aCv,aTd]; omega
theorem pW {body:Int×List Int->Option (Lp (Int×List Int) (List Int×Int))} (l:List Aa) (p:Aa->Bool) (hl:l.length<=1000)
  (h1:∀ (i:Nat) f out,l[i]?=some f->out.length<=i->body ((i:Int),out)=some (.next (W ((i:Int) + 1),out ++ (bif p f then [(i:Int)] else []))))
  (h2:∀ out,body ((l.length:Int),out)=up (some (out,0))):B2 body (0,([]:List Int))=some (yU p l l.length,0):=by
 refine Je l.length (fun i=>((i:Int),yU p l i)) _ (fun i hi=>?_) ?_
 ·obtain⟨x,hx⟩:∃ x,l[i]?=some x:=⟨_,aBx hi⟩
  rw [h1 i x _ hx (qB p l i),Fm (by omega)]
  show _=some (Lp.next (((i + 1:Nat):Int),yU p l (i + 1)))
  rw [show yU p l (i + 1)=yU p l i ++ (match l[i]? with | some f=>bif p f then [(i:Int)] else [] | none=>[]) from rfl,hx]
 ·rw [h2]; rfl
theorem kU (s:List Ad) (f:Ad->Option Bool) (p:Ad->Bool) (h:Lo s) (hp:∀ x∈s,f x=some (p x)):Eg s f=some (s.any p):=by
 have hi:Bp s f=some (Sq s p):=by
  unfold Bp
  refine Po s p h (fun i x hx=>?_) ?_
  ·show Bp.l1 s f (i:Int)=_
   unfold Bp.l1
   rw [Er hx,hp x (Dv hx),aAc]
   cases p x <;> rfl
  ·show Bp.l1 s f (s.length:Int)=_
   unfold Bp.l1
   rw [De]
   rfl
 unfold Eg
 rw [hi,aAc,Qf]
theorem aCs (e:Ap) (name:ByteArray) (h:e.Endpoints.length<=1000):Fe e name=some (match e.Endpoints.findIdx? (fun x=>decide (x.Name=name)) with | some j=>((j:Int),true) | none=>(0,false)):=by
 unfold Fe
 have:=Uv (body:=fun q'=>Fe.l1 e name q') e.Endpoints (fun i=>(i:Int)) (fun x=>decide (x.Name=name)) (fun i=>((i:Int),true)) (0,false) (fun i x hx=>by
  show Fe.l1 e name (i:Int)=_
  have:=Il hx
  unfold Fe.l1
  rw [Er hx,Fm (by omega)]
  cases decide (x.Name=name) <;> rfl) (by
  show Fe.l1 e name (e.Endpoints.length:Int)=_
  unfold Fe.l1
  rw [De]
  rfl)
 exact this
theorem mN {e:Ap} (h:EsV e) {i j:Nat} {x y:Ad} (hij:i < j) (hx:e.Endpoints[i]?=some x) (hy:e.Endpoints[j]?=some y):Mc (Hq x.Name) (Hq y.Name)=true:=by
 obtain⟨k,rfl⟩:∃ k,j=i + 1 + k:=⟨j - (i + 1),by omega⟩
 induction k generalizing y with
 | zero=>exact h.names (i + 1) x y (by omega) hx hy
 | succ k ih=>
  obtain⟨z,hz⟩:∃ z,e.Endpoints[i + 1 + k]?=some z:=⟨_,aBx (by have:=Il hy; omega)⟩
  exact jK _ _ _ (ih (by omega) hz) (h.names (i + 1 + (k + 1)) z y (by omega) hz hy)
theorem sI {e:Ap} (h:EsV e) {i j:Nat} {x y:Ad} (hx:e.Endpoints[i]?=some x) (hy:e.Endpoints[j]?=some y) (hn:x.Name=y.Name):x=y:=by
 have irr:∀ a:List UInt8,Mc a a=true->False:=fun a q=>by rw [pV] at q; cases q
 rcases Nat.lt_trichotomy i j with q | q | q
 ·have:=mN h q hx hy
  rw [hn] at this
  exact (irr _ this).elim
 ·subst q
  rw [hx] at hy
  exact oi_ hy
 ·have:=mN h q hy hx
  rw [hn] at this
  exact (irr _ this).elim
theorem lY {z:Ad} {f:Aa} (h:Qr z f=true):z.Name=f.Host:=by
 unfold Qr at h
 cases hd:decide (f.Host=z.Name) with
 | true=>exact (aCm hd).symm
 | false=>rw [hd] at h; cases h
theorem rW {e:Ap} (h:EsV e) (f:Aa):e.Endpoints.any (fun x=>Qr x f)=(match e.Endpoints.findIdx? (fun x=>decide (x.Name=f.Host)) with | some j=>Qr (e.Endpoints.getD j ⟨⟨#[]⟩,0,0,[],false,[],[],[],false⟩) f | none=>false):=by
 cases hf:e.Endpoints.findIdx? (fun x=>decide (x.Name=f.Host)) with
 | none=>
  show _=false
  rw [<- aTb]
  intro q
  obtain⟨x,hx,hc⟩:=aK8.1 q
  have:=aSa.1 hf x hx
  rw [aBe (lY hc)] at this
  cases this
 | some j=>
  obtain⟨h1,h2,-⟩:=aIw.1 hf
  have hj:e.Endpoints[j]?=some e.Endpoints[j]:=aBx h1
  have G:e.Endpoints.getD j ⟨⟨#[]⟩,0,0,[],false,[],[],[],false⟩=e.Endpoints[j]:=by rw [aP4,hj]; rfl
  show _=Qr _ f
  rw [G]
  generalize e.Endpoints[j]=z at *
  cases hz:Qr z f with
  | true=>exact aK8.2 ⟨z,Dv hj,hz⟩
  | false=>
   rw [<- aTb]
   intro q
   obtain⟨x,hx,hc⟩:=aK8.1 q
   obtain⟨i,hi⟩:=aMo.1 hx
   have:=sI h hi hj ((lY hc).trans (aCm h2).symm)
   rw [this,hz] at hc
   cases hc
def dyB (e:Ap) (day:Int) (f:Aa):Bool:=bif decide (f.Day=day) then e.Endpoints.any (fun x=>Qr x f) else false
theorem rA {e:Ap} (hn:e.Endpoints.length<=1000) (hw:∀ x∈e.Endpoints,Jl x) {l:List Aa} (hl:l.length<=1000) (day:Int) :
  B2 (fun q'=>Cp.l2 e l day q'.1 q'.2) (0,([]:List Int))=some (yU (dyB e day) l l.length,0):=by
 refine pW l (dyB e day) hl (fun i f out hf ho=>?_) fun out=>?_
 ·have hi:=Il hf
  show Cp.l2 e l day (i:Int) out=_
  unfold Cp.l2 Cp.j4 Cp.j5 dyB
  rw [Er hf]
  cases decide (f.Day=day) with
  | false=>rw [aCv,aCv,aCv,aCv,aOq]
  | true=>
   rw [aDb,aDb,kU e.Endpoints _ (fun x=>Qr x f) (Ks (by omega)) (fun x hx=>by
    unfold Lb
    rw [Yv (hw x hx)]
    rfl),aAc]
   cases e.Endpoints.any (fun x=>Qr x f) with
   | true=>rw [aDb,aDb,Dw (by rw [aDc]; omega)]; rfl
   | false=>rw [aCv,aCv,aOq]
 ·show Cp.l2 e l day (l.length:Int) out=_
  unfold Cp.l2
  rw [De]
theorem sA {e:Ap} (hv:EsV e) (hw:∀ x∈e.Endpoints,Jl x) {l:List Aa} (hl:l.length<=1000) (day:Int) :
  B2 (fun q'=>Ck.l2 e l day q'.1 q'.2) (0,([]:List Int))=some (yU (dyB e day) l l.length,0):=by
 have hn:=hv.n
 refine pW l (dyB e day) hl (fun i f out hf ho=>?_) fun out=>?_
 ·have hi:=Il hf
  show Ck.l2 e l day (i:Int) out=_
  unfold Ck.l2 Ck.j3 Ck.j4 dyB
  rw [Er hf,aCs e f.Host (by omega),aAc,rW hv f]
  cases hfi:e.Endpoints.findIdx? (fun x=>decide (x.Name=f.Host)) with
  | none=>
   show cond false _ _=_
   rw [aCv,aCv]
   cases decide (f.Day=day) <;> rw [show (bif _ then false else false)=false from rfl,aCv,aOq]
  | some j=>
   obtain⟨h1,-,-⟩:=aIw.1 hfi
   have hj:e.Endpoints[j]?=some e.Endpoints[j]:=aBx h1
   have G:e.Endpoints.getD j ⟨⟨#[]⟩,0,0,[],false,[],[],[],false⟩=e.Endpoints[j]:=by rw [aP4,hj]; rfl
   show cond true _ _=_
   rw [aDb]
   show cond (decide (f.Day=day)) _ _=some (Lp.next (W ((i:Int) + 1),out ++ (bif (bif decide (f.Day=day) then Qr _ f else false) then [(i:Int)] else [])))
   rw [G]
   cases decide (f.Day=day) with
   | false=>rw [aCv,aCv,aCv,aCv,aOq]
   | true=>
    rw [aDb,aDb,Dr.trans hj,aAc,Yn (hw _ (Dv hj)),aAc]
    cases Qr e.Endpoints[j] f with
    | true=>rw [aDb,aDb,Dw (by rw [aDc]; omega)]; rfl
    | false=>rw [aCv,aCv,aOq]
 ·show Ck.l2 e l day (l.length:Int) out=_
  unfold Ck.l2
  rw [De]
theorem tV {e:Ap} (hf:Ui e) (hw:∀ x∈e.Endpoints,Jl x) {l:List Aa} (hl:l.length<=1000) (day:Int):∃ r,Cp e l day=some r/\Ck e l day=some r/\r.1.length<=1000:=by
 unfold Cp Ck
 rw [lT hf]
 obtain⟨y,hy,hd⟩:=Q9 hf
 rw [hy,aAc,aAc]
 rcases hd with ⟨rfl,hv⟩ | ⟨rfl,-⟩
 ·have hn:=hv.n
  have key:∀ b,∃ r,Cp.j1 e l day b=some r/\Ck.j1 e l day b=some r/\r.1.length<=1000:=fun b=>by
   unfold Cp.j1 Ck.j1
   cases b with
   | true=>exact⟨_,rfl,rfl,aI3 _⟩
   | false=>exact⟨_,rA (by omega) hw hl day,sA hv hw hl day,aK7 (qB _ _ _) hl⟩
  show ∃ r,cond (decide (day < 0)) (Cp.j1 e l day true) (Cp.j1 e l day (decide (40000 < day)))=some r/\cond (decide (day < 0)) (Ck.j1 e l day true) (Ck.j1 e l day (decide (40000 < day)))=some r/\r.1.length<=1000
  cases decide (day < 0) with
  | true=>exact key true
  | false=>exact key _
 ·exact⟨_,rfl,rfl,aI3 _⟩
end
section
open Go
theorem qP {T S R:Type} {body:T->Option (Lp T R)} (G:Int->S->T) (n:Nat) (Inv:Nat->S->Prop) {Q:R->Prop} (h1:∀ (i:Nat) (s:S),i < n->Inv i s->Ok (body (G (i:Int) s)) (jV (fun t=>∃ s',t=G ((i + 1:Nat):Int) s'/\Inv (i + 1) s') Q))
  (h2:∀ s,Inv n s->Ok (body (G (n:Int) s)) (jV (fun _=>False) Q)) {s:S} (hs:Inv 0 s):Ok (B2 body (G 0 s)) Q:=by
 have key:∀ (k i:Nat) (s:S),i + k=n->Inv i s->Ok (B2 body (G (i:Int) s)) Q:=by
  intro k
  induction k with
  | zero=>
   intro i s hi hs
   have:i=n:=by omega
   subst this
   obtain⟨y,e,hy⟩:=h2 s hs
   cases y with
   | next t=>exact hy.elim
   | done r=>exact⟨r,U3 e,hy⟩
  | succ k ih=>
   intro i s hi hs
   obtain⟨y,e,hy⟩:=h1 i s (by omega) hs
   cases y with
   | next t=>
    obtain⟨s',rfl,h⟩:=hy
    obtain⟨r,e2,hr⟩:=ih (i + 1) s' (by omega) h
    exact⟨r,(Fi e).trans e2,hr⟩
   | done r=>exact⟨r,U3 e,hy⟩
 exact key n 0 s (by omega) hs
theorem aHc {α:Type} {x:Option α} {c:α} (h:Ok x (fun y=>y=c)):x=some c:=by
 obtain⟨y,h,rfl⟩:=h
 exact h
structure aFv (x:Am):Prop where
 len:x.Chain.length<=1000
 chain:∀ c∈x.Chain,Rc c
theorem LfM.fitI {name:ByteArray} {key:Aq} {id:Int} {x:Am} (h:LfM name key id x):aFv x:=⟨by rw [h.len]; omega,fun c hc=>(h.chain c hc).2⟩
theorem aC {x:Am} (h:aFv x):Dg x=some x:=by
 have hl:=h.len
 unfold Dg
 refine aHc (qP (fun i (q:List Ah)=>(i,q)) x.Chain.length (fun i q=>q=x.Chain.take i) (fun i q hi hq=>?_) (fun q hq=>?_) rfl)
 ·obtain⟨c,hc⟩:∃ c,x.Chain[i]?=some c:=⟨_,aBx hi⟩
  have hn:=(h.chain c (Dv hc)).names
  have hql:q.length<=1000:=by rw [hq,aFl]; omega
  show Ok (Dg.l1 x (i:Int) q) _
  unfold Dg.l1
  rw [Er hc,Dw (by simp; omega),aAc,Dw (by rw [aDc]; omega),aAc,Fm (by omega)]
  exact Ok.ret ⟨_,rfl,by rw [hq,Fl hc]; rfl⟩
 ·show Ok (Dg.l1 x (x.Chain.length:Int) q) _
  unfold Dg.l1
  rw [De,hq,aLc]
  exact Ok.up (Ok.ret rfl)
structure aBc (e:Ad):Prop where
 few:Jl e
 ids:∀ x∈e.Identities,aFv x
theorem sZ {e:Ad} (h:aBc e):Gc e=some e:=by
 have h1:=h.few.suites
 have h2:=h.few.ids
 have h3:=h.few.anchors
 have h4:=h.few.hashes
 unfold Gc
 rw [Dw (by simp; omega),aAc,Dw (by simp; omega),aAc,Dw (by simp; omega),aAc]
 refine aHc (qP (fun i (q:List Am)=>(i,q)) e.Identities.length (fun i q=>q=e.Identities.take i) (fun i q hi hq=>?_) (fun q hq=>?_) rfl)
 ·obtain⟨c,hc⟩:∃ c,e.Identities[i]?=some c:=⟨_,aBx hi⟩
  have hql:q.length<=50:=by rw [hq,aFl]; omega
  show Ok (Gc.l1 e ([] ++ e.Suites) ([] ++ e.Anchors) ([] ++ e.Hashes) (i:Int) q) _
  unfold Gc.l1
  rw [Er hc,aC (h.ids c (Dv hc)),aAc,Dw (by rw [aDc]; omega),aAc,Fm (by omega)]
  exact Ok.ret ⟨_,rfl,by rw [hq,Fl hc]⟩
 ·show Ok (Gc.l1 e ([] ++ e.Suites) ([] ++ e.Anchors) ([] ++ e.Hashes) (e.Identities.length:Int) q) _
  unfold Gc.l1
  rw [De,hq,aLc]
  exact Ok.up (Ok.ret rfl)
theorem Z5.fitE {i:Nat} {e:Ad} (h:Z5 i e):aBc e:=by
 obtain⟨c,hc,own,fall,x,hx,rfl⟩:=h
 have:=(Ws hc).2.1
 exact⟨⟨by show c.2.length<=50; omega,by show (1:Nat)<=50; omega,by show (1:Nat)<=50; omega,by show (2:Nat)<=50; omega⟩,fun y hy=>by rw [aDi.1 hy]; exact hx.fitI⟩
theorem tG.fitE {name:ByteArray} {e:Ad} (h:tG name e):aBc e:=⟨h.few,fun x hx=>⟨by have:=(h.ids x hx).len; omega,fun c hc=>((h.ids x hx).chain c hc).2⟩⟩
structure tW (s:Ap):Prop where
 n:1<=s.Endpoints.length/\s.Endpoints.length<=4
 edges:s.Edges.length<=16
 items:s.Items.length<=2
 links:∀ x∈s.Items,x.Links.length<=8
 cp:∀ e∈s.Endpoints,aBc e
 fit:Ui s
 name:∀ e∈s.Endpoints,e.Name.size<=1000
 odd:∀ e∈s.Endpoints,e.Suites.length<=10/\e.Identities.length<=3
theorem Xz.fs {s:Ap} (h:Xz s):tW s:=by
 have h1:=h.n2
 have h2:=h.edges.len
 have h3:=h.items.1
 have hx:∀ e∈s.Endpoints,∃ i,i < 3/\Z5 i e:=fun e he=>by
  obtain⟨i,hi⟩:=aMo.1 he
  exact⟨i,by have:=Il hi; omega,h.eps i e hi⟩
 refine⟨by omega,by omega,h3,fun x hx=>(h.items.2 x hx).ok.len.2,fun e he=>?_,h.fit,fun e he=>?_,fun e he=>?_⟩
 ·obtain⟨i,hi,h⟩:=hx e he
  exact h.fitE
 ·obtain⟨i,hi,h⟩:=hx e he
  rw [aB5 h]
  have:=(oA hi).2.1
  omega
 ·obtain⟨i,hi,h⟩:=hx e he
  obtain⟨c,hc,own,fall,x,hx,rfl⟩:=h
  have:=(Ws hc).2.1
  exact⟨by show c.2.length<=10; omega,by show (1:Nat)<=3; omega⟩
theorem EsM.fs {s:Ap} (h:EsM s):tW s:=by
 have h1:=h.n
 have hx:∀ e∈s.Endpoints,∃ i,i < 4/\tG (nmE.getD i ⟨#[]⟩) e:=fun e he=>by
  obtain⟨i,hi⟩:=aMo.1 he
  exact⟨i,by have:=Il hi; omega,h.ep i e hi⟩
 refine⟨by omega,h.edges.1,h.items.1,fun x hx=>(h.items.2 x hx).ok.len.2,fun e he=>?_,h.fit,fun e he=>?_,fun e he=>?_⟩
 ·obtain⟨i,hi,h⟩:=hx e he
  exact h.fitE
 ·obtain⟨i,hi,h⟩:=hx e he
  rw [h.name]
  have:=nF (jL hi)
  omega
 ·obtain⟨i,hi,h⟩:=hx e he
  exact⟨h.sn,h.idn⟩
theorem vE {s:Ap} (h:tW s):D7 s=some s:=by
 have h1:=h.n
 have h2:=h.edges
 have h3:=h.items
 unfold D7
 rw [Dw (by simp; omega),aAc]
 refine aHc (qP (fun i (q:List Ad)=>(i,q)) s.Endpoints.length (fun i q=>q=s.Endpoints.take i) (fun i q hi hq=>?_) (fun q hq=>?_) rfl)
 ·obtain⟨c,hc⟩:∃ c,s.Endpoints[i]?=some c:=⟨_,aBx hi⟩
  have hql:q.length<=50:=by rw [hq,aFl]; omega
  show Ok (D7.l1 s ([] ++ s.Edges) (i:Int) q) _
  unfold D7.l1
  rw [Er hc,sZ (h.cp c (Dv hc)),aAc,Dw (by rw [aDc]; omega),aAc,Fm (by omega)]
  exact Ok.ret ⟨_,rfl,by rw [hq,Fl hc]⟩
 ·show Ok (D7.l1 s ([] ++ s.Edges) (s.Endpoints.length:Int) q) _
  unfold D7.l1
  rw [De,hq,aLc]
  refine Ok.up ?_
  refine qP (fun i (q:List Bf)=>(i,q)) s.Items.length (fun i q=>q=s.Items.take i) (fun i q hi hq=>?_) (fun q hq=>?_) rfl
  ·obtain⟨c,hc⟩:∃ c,s.Items[i]?=some c:=⟨_,aBx hi⟩
   have hql:q.length<=50:=by rw [hq,aFl]; omega
   have hlk:=h.links c (Dv hc)
   show Ok (D7.l2 s ([] ++ s.Edges) s.Endpoints (i:Int) q) _
   unfold D7.l2
   rw [Er hc,Dw (by simp; omega),aAc,Dw (by rw [aDc]; omega),aAc,Fm (by omega)]
   exact Ok.ret ⟨_,rfl,by rw [hq,Fl hc]; rfl⟩
  ·show Ok (D7.l2 s ([] ++ s.Edges) s.Endpoints (s.Items.length:Int) q) _
   unfold D7.l2
   rw [De,hq,aLc]
   exact Ok.up (Ok.ret rfl)
theorem gD {l:List Aa} (h:∀ f∈l,Jz f):∀ f∈(Qv l).1,Jz f:=by
 unfold Qv
 cases l.any Rp with
 | true=>intro f hf; cases hf
 | false=>exact fun f hf=>h f ((X4 V7).1 hf)
theorem lR {at':Aa} (h:Jz at') (e:Ad):∀ f∈(I6 at' e).1,Jz f:=by
 unfold I6
 cases Rp (Zc at') with
 | true=>intro f hf; cases hf
 | false=>
  cases decide (Bq e=some 0) with
  | false=>intro f hf; cases hf
  | true=>
   show ∀ f∈(Qv (yS at' e)).1,Jz f
   exact gD fun f hf=>gI h e f hf
theorem xS {host:ByteArray} (h:host.size<=1000) (day:Int):Jz (Aa.mk 3 host 1 day 90 4 (⟨#[116,108,115]⟩:ByteArray) (Aq.mk 0 0) 1 (⟨#[]⟩:ByteArray)):=⟨by show host.size<=_; omega,by show ByteArray.size ⟨#[116,108,115]⟩<=_; decide,by show ByteArray.size ⟨#[]⟩<=_; decide⟩
theorem vN {d:Ab} (hd:Jw d) {e:Ad} (he:Mu e) (hf:Jl e) (hn:e.Name.size<=1000) (day:Int):Ok (Co d e day) (fun y=>(y.1.length<=300/\∀ f∈y.1,Jz f)/\Jw y.2):=by
 have ha:=xS hn day
 unfold Co Mv
 rw [aAc,mE ha he hf,aAc]
 have hl:=Oh (Aa.mk 3 e.Name 1 day 90 4 (⟨#[116,108,115]⟩:ByteArray) (Aq.mk 0 0) 1 (⟨#[]⟩:ByteArray)) hf
 have hL:=lR ha e
 generalize I6 _ e=y at *
 refine qP (fun i (q:Ab×List Aa)=>(i,q)) y.1.length (fun i q=>Jw q.1/\q.2.length<=i/\∀ f∈q.2,Jz f) (fun i q hi hq=>?_) (fun q hq=>?_) (s:=(d,[])) ⟨hd,aHx _,fun f hf=>by cases hf⟩
 ·obtain⟨d1,out⟩:=q
  obtain⟨q1,q2,q3⟩:=hq
  simp only at q1 q2 q3
  obtain⟨f,hf⟩:∃ f,y.1[i]?=some f:=⟨_,aBx hi⟩
  have hF:=hL f (Dv hf)
  have J:∀ (d2:Ab) (g:Aa),Jw d2->Jz g->Ok (Co.j2 (i:Int) out d2 g) (jV (fun t=>∃ s':Ab×List Aa,t=(((i + 1:Nat):Int),s')/\(Jw s'.1/\s'.2.length<=i + 1/\∀ f∈s'.2,Jz f)) (fun y:List Aa×Ab=>(y.1.length<=300/\∀ f∈y.1,Jz f)/\Jw y.2)):=fun d2 g h2 G=>by
   unfold Co.j2 Co.j3
   refine Ok.bindE (Dw (by rw [aDc]; omega)) ?_
   rw [Fm (by omega)]
   refine Ok.ret ⟨(d2,out ++ [g]),rfl,h2,by rw [aDd,aDc]; show out.length + 1<=i + 1; omega,fun x hx=>?_⟩
   rcases aHz.1 hx with hx | hx
   ·exact q3 x hx
   ·rw [aDi.1 hx]; exact G
  show Ok (Co.l1 day y (i:Int) d1 out) _
  unfold Co.l1
  rw [Er hf]
  refine Ok.bind (Ej q1 8 (by omega) (by omega)) fun y3 h3=>?_
  refine Ok.cond (fun _=>?_) fun _=>Ok.cond (fun _=>?_) fun _=>Ok.cond (fun _=>J _ _ h3.2 ⟨hF.host,hF.subj,hF.text⟩) fun _=>Ok.cond (fun _=>J _ _ h3.2 ⟨hF.host,hF.subj,hF.text⟩) fun _=>J _ _ h3.2 hF
  ·unfold Co.j3
   rw [Fm (by omega)]
   exact Ok.ret ⟨(y3.2,out),rfl,h3.2,by show out.length<=i + 1; omega,q3⟩
  ·exact Ok.bind (Kt h3.2 _ (by decide) (by decide)) fun y4 h4=>J _ _ h4.2 ⟨hF.host,hF.subj,hF.text⟩
 ·obtain⟨d1,out⟩:=q
  obtain⟨q1,q2,q3⟩:=hq
  simp only at q1 q2 q3
  show Ok (Co.l1 day y (y.1.length:Int) d1 out) _
  unfold Co.l1
  rw [De]
  refine Ok.up ?_
  refine Ok.bind (Yq q1 (n:=4) (by omega)) fun y5 h5=>?_
  have h51:=h5.1.1
  refine Ok.bindE (Dw (by omega)) ?_
  have F9:∀ f∈out ++ y5.1,Jz f:=fun f hf=>by
   rcases aHz.1 hf with hf | hf
   ·exact q3 f hf
   ·exact h5.1.2.fit f hf
  unfold Qz
  rw [yN _ (by rw [aDd]; omega) F9]
  have hnl:=fR (out ++ y5.1)
  rw [aDd] at hnl
  exact Ok.ret ⟨⟨by show (Qv (out ++ y5.1)).1.length<=300; omega,gD F9⟩,h5.2⟩
end
section
open Go
theorem uK (a:List Aa) (h:a.length<=100000):Fz a a=some true:=by
 unfold Fz
 rw [aBe rfl,aLb,aCv]
 refine Je a.length (fun i=>(i:Int)) true (fun i hi=>?_) ?_
 ·obtain⟨x,hx⟩:∃ x,a[i]?=some x:=⟨_,aBx hi⟩
  show Fz.l1 a a (i:Int)=_
  unfold Fz.l1
  rw [Er hx,Dr,hx,aAc,aBe rfl,aLb,aCv,Fm (by omega)]
 ·show Fz.l1 a a (a.length:Int)=_
  unfold Fz.l1
  rw [De]
  rfl
theorem mU (a:List Int) (h:a.length<=100000):Eu a a=some true:=by
 unfold Eu
 rw [aBe rfl,aLb,aCv]
 refine Je a.length (fun i=>(i:Int)) true (fun i hi=>?_) ?_
 ·obtain⟨x,hx⟩:∃ x,a[i]?=some x:=⟨_,aBx hi⟩
  show Eu.l1 a a (i:Int)=_
  unfold Eu.l1
  rw [Er hx,Dr,hx,aAc,aBe rfl,aLb,aCv,Fm (by omega)]
 ·show Eu.l1 a a (a.length:Int)=_
  unfold Eu.l1
  rw [De]
  rfl
theorem sF {α:Type} [DecidableEq α] (a:α):(!decide (a=a))=false:=by rw [aBe rfl]; rfl
theorem aIk {raw:Aa} (hr:Jz raw) {S:List Aa} (hS:S.length<=1000) {e:Ad} (he:Mu e) (hf:Jl e) {y11:Aa} (hy:Jz y11) (x:Int):B2 (fun q'=>Ar.l5 raw S x e y11 q') (0:Int)=some (.next (W (x + 1))):=by
 refine Je 2 (fun i=>(i:Int)) _ (fun i hi=>?_) ?_
 ·obtain⟨f,h1,h2⟩:∃ f,([y11,raw]:List Aa)[i]?=some f/\Jz f:=by
   rcases i with _ | _ | i
   ·exact⟨y11,rfl,hy⟩
   ·exact⟨raw,rfl,hr⟩
   ·omega
  have l1:=Oh f hf
  have l2:=xL f hf S
  show Ar.l5 raw S x e y11 (i:Int)=_
  unfold Ar.l5 Ar.j6
  rw [Er h1,pT h2 he hf,aAc,oX h2 he hf,aAc,kM h2 he hf hS,aAc,kK h2 he hf hS,aAc,aCr h2 he hf hS,aAc,aBt h2 he hf hS,aAc,
   sF,aCv,sF,aCv,sF,aCv,sF,aCv,uK _ (by omega),aAc,aLb,aCv,uK _ (by omega),aAc,aLb,aCv,Fm (by omega)]
 ·show Ar.l5 raw S x e y11 (([y11,raw]:List Aa).length:Int)=_
  unfold Ar.l5
  rw [De]
  rfl
theorem aIp {raw:Aa} (hr:Jz raw) {S:List Aa} (hS:S.length<=1000) {e:Ad} (he:Mu e) (hf:Jl e) (hn:e.Name.size<=1000) (y7:Int×Ab) {l:List Aa} (hl:l.length<=1000) (x:Int) :
  B2 (fun q'=>Ar.l4 raw y7 S x e l q') (0:Int)=some (.next (W (x + 1))):=by
 refine Je l.length (fun i=>(i:Int)) _ (fun i hi=>?_) ?_
 ·obtain⟨f,h1⟩:∃ f,l[i]?=some f:=⟨_,aBx hi⟩
  show Ar.l4 raw y7 S x e l (i:Int)=_
  unfold Ar.l4
  rw [Er h1,Yv hf,aAc,Yn hf,aAc,sF,aCv,Fm (by omega)]
 ·show Ar.l4 raw y7 S x e l (l.length:Int)=_
  unfold Ar.l4 Mv
  rw [De,aAc,aIk hr hS he hf (xS hn _) x]
  rfl
theorem aJe (day:Int) (y7:Int×Ab) {S:List Aa} (hS:S.length<=1000) {e:Ap} (hf:Ui e) (hw:∀ x∈e.Endpoints,Jl x) (x:Int):B2 (fun q'=>Ar.l9 day y7 S x e q') (0:Int)=some (.next (W (x + 1))):=by
 refine Je 3 (fun i=>(i:Int)) _ (fun i hi=>?_) ?_
 ·obtain⟨k,h1⟩:∃ k,([day,y7.1,W (y7.1 + 1)]:List Int)[i]?=some k:=⟨_,aBx hi⟩
  obtain⟨r,a,b,c⟩:=tV hf hw hS k
  show Ar.l9 day y7 S x e (i:Int)=_
  unfold Ar.l9 Ar.j10
  rw [Er h1,a,aAc,b,aAc,sF,aCv,mU _ (by omega),aAc,aLb,aCv,Fm (by omega)]
 ·show Ar.l9 day y7 S x e (([day,y7.1,W (y7.1 + 1)]:List Int).length:Int)=_
  unfold Ar.l9
  rw [De]
  rfl
theorem aJc (day:Int) (y7:Int×Ab) {S:List Aa} (hS:S.length<=1000) (s o:Ap) (y21:Ad×Ab) (hs:Ui s) (hw:∀ x∈s.Endpoints,Jl x) (ho:Ui (Ap.mk (C3 o.Endpoints ((0:Int).toNat) y21.1) o.Edges o.Items)) (hv:∀ x∈C3 o.Endpoints ((0:Int).toNat) y21.1,Jl x) :
  B2 (fun q'=>Ar.l8 day s y7 S o y21 q') (0:Int)=some true:=by
 refine Je 2 (fun i=>(i:Int)) _ (fun i hi=>?_) ?_
 ·obtain⟨e,h1,h2,h3⟩:∃ e,([s,(Ap.mk (C3 o.Endpoints ((0:Int).toNat) y21.1) o.Edges o.Items)]:List Ap)[i]?=some e/\Ui e/\∀ x∈e.Endpoints,Jl x:=by
   rcases i with _ | _ | i
   ·exact⟨s,rfl,hs,hw⟩
   ·exact⟨_,rfl,ho,hv⟩
   ·omega
  show Ar.l8 day s y7 S o y21 (i:Int)=_
  unfold Ar.l8
  rw [Er h1,aJe day y7 hS h2 h3,Fm (by omega)]
 ·show Ar.l8 day s y7 S o y21 (([s,(Ap.mk (C3 o.Endpoints ((0:Int).toNat) y21.1) o.Edges o.Items)]:List Ap).length:Int)=_
  unfold Ar.l8
  rw [De,pX]
  rfl
theorem aIn {raw:Aa} (hr:Jz raw) (day:Int) {l:List Aa} (hl:l.length<=60) {s:Ap} (hs:tW s) (y7:Int×Ab) (y8:List Aa×Ab) (h8:Jw y8.2) {S:List Aa} (hS:S.length<=301) :
  Ok (B2 (fun q'=>Ar.l3 raw day l s y7 y8 S q') (0:Int)) (fun r=>r=true):=by
 have hn:=hs.n
 refine qP (fun i (_:Unit)=>i) s.Endpoints.length (fun _ _=>True) (fun i _ hi _=>?_) (fun _ _=>?_) (s:=()) trivial
 ·obtain⟨e,he⟩:∃ e,s.Endpoints[i]?=some e:=⟨_,aBx hi⟩
  have hm:=Dv he
  show Ok (Ar.l3 raw day l s y7 y8 S (i:Int)) _
  unfold Ar.l3
  rw [Er he,Dw (by simp; omega),aAc,Dw (by simp; omega),aAc,aIp hr (by omega) (hs.fit.ep e hm) (hs.cp e hm).few (hs.name e hm) y7 (by simp; omega),Fm (by omega)]
  exact Ok.ret ⟨(),rfl,trivial⟩
 ·show Ok (Ar.l3 raw day l s y7 y8 S (s.Endpoints.length:Int)) _
  unfold Ar.l3
  rw [De]
  refine Ok.up ?_
  rw [vE hs,aAc]
  obtain⟨e,he⟩:∃ e,s.Endpoints[0]?=some e:=⟨_,aBx (by omega)⟩
  have hm:=Dv he
  show Ok ((Bu s.Endpoints ((0:Nat):Int)).bind _) _
  rw [Dr,he,aAc]
  refine Ok.bind (aCi h8 (hs.fit.ep e hm) (hs.cp e hm).few (hs.odd e hm).1 (hs.odd e hm).2 (hs.name e hm)) fun y21 h21=>?_
  have mem:∀ x∈C3 s.Endpoints ((0:Int).toNat) y21.1,x=y21.1\/x∈s.Endpoints:=fun x hx=>by
   unfold C3 at hx
   exact (List.mem_or_eq_of_mem_set hx).symm
  have f1:=hs.fit.n
  refine Ok.of (aJc day y7 (by omega) s s y21 hs.fit (fun x hx=>(hs.cp x hx).few) ⟨?_,hs.fit.edges,hs.fit.m,fun x hx=>?_,hs.fit.it⟩ fun x hx=>?_) rfl
  ·unfold Lo at *
   show (C3 s.Endpoints _ _).length < _
   unfold C3
   rw [aTe]
   exact f1
  ·rcases mem x hx with rfl | hx
   ·exact h21.1
   ·exact hs.fit.ep x hx
  ·rcases mem x hx with rfl | hx
   ·exact h21.2
   ·exact (hs.cp x hx).few
theorem aCw {raw:Aa} (hr:Jz raw) (day:Int) {l:List Aa} (hl:l.length<=60) {d:Ab} (hd:Jw d) {s:Ap} (hs:tW s):Ok (Ar.j2 raw day l d s) (fun r=>r=true):=by
 unfold Ar.j2
 have hn:=hs.n
 refine Ok.bind (Ej hd 9 (by omega) (by omega)) fun y7 h7=>?_
 obtain⟨e,he⟩:∃ e,s.Endpoints[0]?=some e:=⟨_,aBx (by omega)⟩
 have hm:=Dv he
 show Ok ((Bu s.Endpoints ((0:Nat):Int)).bind _) _
 rw [Dr,he,aAc]
 refine Ok.bind (vN h7.2 (hs.fit.ep e hm) (hs.cp e hm).few (hs.name e hm) _) fun y8 h8=>?_
 have h81:=h8.1.1
 refine Ok.bindE (Dw (by rw [aDc]; omega)) ?_
 exact aIn hr day hl hs y7 y8 h8.2 (by rw [aDd,aDc]; omega)
theorem aKv {t:List Int} (h:t.length<=400):Ok (Q6 t) Jw:=Ok.ret ⟨by unfold Lo; show t.length < _; omega,aR9 _,by show (0:Int)<=(t.length:Int); omega⟩
theorem aCp (t:List Int) (raw:Aa) (day:Int) (l:List Aa) (hr:Jz raw):Ar t raw day l=some true:=by
 unfold Ar O6
 rw [aAc]
 have aw:Ar.j1 t raw day l true=some true:=by
  unfold Ar.j1
  rw [aDb,pX]
  rfl
 by_cases hl:(t.length:Int)<=400
 case neg=>rw [aBv hl,aR7,aDb,aw]
 rw [aBe hl,aLb,aCv]
 by_cases h60:60 < (l.length:Int)
 case pos=>rw [aBe h60,aw]
 rw [aBv h60]
 unfold Ar.j1
 rw [aCv]
 refine Ok.true_ ?_
 refine Ok.bind (aKv (by omega)) fun d hd=>?_
 refine Ok.bind (yP hd) fun y4 h4=>?_
 refine Ok.bind (Uk h4.2 5 (by omega) (by omega)) fun y5 h5=>?_
 refine Ok.cond (fun _=>Ok.bind (mV h5) fun y6 h6=>aCw hr day (by omega) h6.2 h6.1.fs) fun _=>aCw hr day (by omega) h5 h4.1.fs
theorem gV (x0:List Int) (x1:Aa) (x2:Int) (x3:List Aa) (hok:bI [.sl 1 (Aj eI x0),.agg [.val (.int .i64 x1.Source),.val (.string x1.Host),.val (.int .i64 x1.Machine),.val (.int .i64 x1.Day),.val (.int .i64 x1.Confidence),.val (.int .i64 x1.Kind),.val (.string x1.Subject),.val (.int .i64 x1.Use.Alg),.val (.int .i64 x1.Use.Bits),.val (.int .i64 x1.Number),.val (.string x1.Text)],.val (.int .i64 x2),.sl 11 (Aj Aa.enc x3)]):Ar x0 x1 x2 x3=some true:=by
 simp only [rX,aAd,aAr,zN,aHh] at hok
 obtain⟨-,⟨a1,a2,a3,a4,a5,a6,a7,a8,a9,b1,b2,-⟩,-⟩:=hok
 exact aCp x0 x1 x2 x3 ⟨a2,a7,b2⟩
end
end
end Go.Proofs.YtbpchmikjiinpaaGreat
