/- Plain texts, joined. No program is in sight here. -/
import Derived.Test.YtchpcpaacenodaaGreatG3
import Derived.Test.YtchpcpaacenodaaGreatF5
import Derived.Test.YtchpcpaacenodaaGreatE4
import Derived.Test.YtchpcpaacenodaaGreatF6
set_option autoImplicit false
set_option linter.unusedVariables false
set_option linter.unusedSimpArgs false
set_option maxRecDepth 100000
namespace Go.Proofs.YtchpcpaacenodaaGreat
section
open Go
theorem Tc {α R:Type} (kk:Nat) (X:List α) (g:α->Aa) {body:Int×List Aa->Option (Lp (Int×List Aa) R)} {fin:List Aa->Option R}
  (hb:∀ (i:Int) l,body (i,l)=cond (decide (i < (X.length:Int))) ((B8 X i).bind fun x=>(Hh kk l ([g x]:List Aa)).bind fun l'=>some (.next (W (i + 1),l'))) (up (fin l)))
  (hk:kk<=100000) (l:List Aa) (hl:l.length + X.length<=1000):Cl body ((0:Int),l)=fin (l ++ X.map g):=by
 have h:=Z8 (body:=body) X.length (fun i=>((i:Int),l ++ (X.take i).map g)) (fin (l ++ X.map g)) (fun i hi=>by
  obtain⟨x,hx⟩:∃ x,X[i]?=some x:=⟨_,aBo hi⟩
  have hlen:(l ++ (X.take i).map g).length + 1<=1001:=by rw [aGd,aIp,aGe]; omega
  rw [hb,G7 hx,Fr (by
   rw [aGs]
   exact aHw (Nat.mul_le_mul hlen hk) (by omega)),aAc,Iq (by omega),I9 hx,aIt,aH4]
  rfl) (by rw [hb,Fs,aIc])
 simpa using h
def Q9 (at':Aa):Aa:=Ta at' 0 ⟨0,0⟩ 0
def aFv:Aa:=⟨0,⟨#[]⟩,0,0,0,0,⟨#[]⟩,⟨0,0⟩,0,⟨#[]⟩⟩
theorem W7 {at':Aa} (h:Kf at'):I3 at'=some (bif M8 (Oa at') then (aFv,24) else (Q9 at',0)):=by
 unfold I3
 show ((A1 (Oa at')).bind _)=_
 have hc:A1 (Oa at')=some (Tq (Oa at')):=Yk (V5 h 4 ⟨0,0⟩ 1)
 rw [hc,aAc]
 cases hb:M8 (Oa at') with
 | true=>
  have e1:(!decide (Tq (Oa at')=0))=true:=hb
  rw [e1,Pr hb]
  rfl
 | false=>
  have e1:(!decide (Tq (Oa at')=0))=false:=hb
  rw [e1]
  rfl
theorem qR {at':Aa} (h:Kf at') {e:Av} (he:Vc e) (hf:Wj e):Bw at' e=some (Sn at' e):=by
 have h1:=hf.suites
 have h2:=hf.ids
 have h3:=hf.anchors
 have h4:=hf.hashes
 unfold Bw Sn
 rw [W7 h,aAc]
 cases hb:M8 (Oa at') with
 | true=>rfl
 | false=>
  rw [aCx,aCx,show (!decide ((Q9 at',(0:Int)).2=0))=false from rfl,aCx,cL he]
  obtain⟨c,hc,hcv⟩:=Lw he
  rw [hc,aAc]
  rcases hcv with ⟨rfl,-⟩ | ⟨rfl,-⟩
  ·rw [aAe rfl,aAe rfl,aG4,aCx,aD8]
   refine (Tc 1232 e.Suites (fun n=>Ta at' 2 ⟨0,0⟩ n) (fin:=fun l=>Cl (fun q'=>Bw.l2 e (Q9 at',0) q'.1 q'.2) (0,l)) (fun i l=>rfl) (by omega) [Ta at' 5 ⟨0,0⟩ e.Least,Ta at' 4 ⟨0,0⟩ e.Most] (by simp; omega)).trans ?_
   refine (Tc 1232 e.Identities (fun x=>Ta at' 3 x.Key x.KeyId) (fin:=fun l=>Cl (fun q'=>Bw.l3 e (Q9 at',0) q'.1 q'.2) (0,l)) (fun i l=>rfl) (by omega) _ (by simp; omega)).trans ?_
   refine (Tc 1232 e.Anchors (fun n=>Ta at' 6 ⟨0,0⟩ n) (fin:=fun l=>Cl (fun q'=>Bw.l4 e (Q9 at',0) q'.1 q'.2) (0,l)) (fun i l=>rfl) (by omega) _ (by simp; omega)).trans ?_
   refine (Tc 1232 e.Hashes (fun n=>Ta at' 1 ⟨n,0⟩ 0) (fin:=fun l=>(Cr l).bind fun y=>some (y.1,y.2)) (fun i l=>rfl) (by omega) _ (by simp; omega)).trans ?_
   show ((Cr (xY at' e)).bind _)=_
   rw [mT _ (by have:=fC at' hf; exact aHw this (by omega)) (nW h e)]
   rfl
  ·rfl
def vU (at':Aa) (l:List Ax):List Aa:=l.map fun x=>Ta at' 3 x.Key x.KeyId
def Sf (at':Aa) (l:List Ax):List Aa×Int:=bif M8 (Oa at') then ([],24) else bif decide (Mv l=0) then M6 (vU at' l) else ([],16)
theorem Zo {at':Aa} (h:Kf at') {α:Type} (X:List α) (k:α->Int) (u:α->Am) (n:α->Int):∀ f∈X.map (fun x=>Ta at' (k x) (u x) (n x)),Kf f:=fun f hf=>by
 obtain⟨x,-,rfl⟩:=aHz.1 hf
 exact V5 h _ _ _
theorem dB (l:List Ax):Mv l=0\/Mv l=16:=by
 unfold Mv
 cases (List.range l.length).any (Wz l) || decide (64 < (l.length:Int)) with
 | true=>exact .inr rfl
 | false=>exact .inl rfl
theorem pP {at':Aa} (h:Kf at') {l:List Ax} (hl:l.length<=300) (hf:∀ e∈l,kA e):Ca at' l=some (Sf at' l):=by
 unfold Ca Sf
 rw [Sj h,aAc]
 cases hb:M8 (Oa at') with
 | true=>
  rw [Pr hb]
  rfl
 | false=>
  rw [Uv hb,tJ l (by omega) hf]
  show Ca.j1 l _ (Mv l)=_
  unfold Ca.j1
  rw [aCx]
  rcases dB l with hs | hs
  ·rw [hs,aAe rfl,aG4,aCx,aD8]
   refine (Rs at' l 3 (fun x=>x.Key) (fun x=>x.KeyId) (fin:=fun l=>(Cg l).bind fun y=>some (y.1,y.2)) (fun i l=>rfl) [] (by simp; omega)).trans ?_
   show ((Cg (vU at' l)).bind _)=_
   rw [nM (vU at' l) (by unfold vU; rw [aIp]; omega) (Zo h l (fun _=>3) (fun x=>x.Key) (fun x=>x.KeyId))]
   rfl
  ·rw [hs]
   rfl
theorem uC {at':Aa} (h:Kf at') {l:List Ax} (hl:l.length<=300) (hf:∀ e∈l,kA e):Fk at' l=some (Sf at' l):=by
 unfold Fk Sf
 rw [W7 h,aAc]
 cases hb:M8 (Oa at') with
 | true=>rfl
 | false=>
  rw [aCx,aCx,show (!decide ((Q9 at',(0:Int)).2=0))=false from rfl,aCx,mM l hf,aAc]
  rcases dB l with hs | hs
  ·rw [hs,aAe rfl,aG4,aCx,aD8]
   refine (Tc 1232 l (fun x=>Ta at' 3 x.Key x.KeyId) (fin:=fun l=>(Cr l).bind fun y=>some (y.1,y.2)) (fun i l=>rfl) (by omega) [] (by simp; omega)).trans ?_
   show ((Cr (vU at' l)).bind _)=_
   rw [mT (vU at' l) (by unfold vU; rw [aIp]; omega) (Zo h l (fun _=>3) (fun x=>x.Key) (fun x=>x.KeyId))]
   rfl
  ·rw [hs]
   rfl
end
section
open Go
theorem X8 {α S R:Type} {body:S->Option (Lp S R)} (X:List α) (G:Nat->List Aa->S) (g:α->Aa) (ok:α->Bool) (r0:R) (fin:List Aa->Option R)
  (h1:∀ (i:Nat) x l,X[i]?=some x->l.length<=1000->body (G i l)=bif ok x then some (.next (G (i + 1) (l ++ [g x]))) else up (some r0)) (h2:∀ l,body (G X.length l)=up (fin l)) :
  ∀ (Y p:List α) (l:List Aa),p ++ Y=X->l.length + Y.length<=1000->Cl body (G p.length l)=bif Y.any (fun x=>!ok x) then some r0 else fin (l ++ Y.map g)
 | [],p,l,hp,_=>by
  have:p.length=X.length:=by rw [<- hp]; simp
  rw [this,D0 (h2 l)]
  simp
 | y :: Y,p,l,hp,hl=>by
  rw [aH2] at hl
  have hy:X[p.length]?=some y:=by rw [<- hp]; simp
  have e1:=h1 p.length y l hy (by omega)
  cases ho:ok y with
  | true=>
   rw [ho,aD8] at e1
   rw [Ej e1]
   have ih:=X8 X G g ok r0 fin h1 h2 Y (p ++ [y]) (l ++ [g y]) (by rw [<- hp]; simp) (by rw [aGd,aGs]; omega)
   rw [aGd,aGs] at ih
   rw [ih,aIz,ho,aIi,aH4]
   rfl
  | false=>
   rw [ho,aCx] at e1
   rw [D0 e1,aIz,ho]
   rfl
def uzL (at':Aa) (u:List Am):List Aa:=u.map fun x=>Ta at' 1 x 0
def So (at':Aa) (u:List Am):List Aa×Int:=bif M8 (Oa at') then ([],24) else bif u.any (fun x=>!decide (0 < Kq x)) then ([],7) else M6 (uzL at' u)
theorem qI {at':Aa} (h:Kf at') {u:List Am} (hl:u.length<=300):Dt at' u=some (So at' u):=by
 unfold Dt So
 rw [Sj h,aAc]
 cases hb:M8 (Oa at') with
 | true=>
  rw [Pr hb]
  rfl
 | false=>
  rw [Uv hb,aCx]
  have hfin:∀ l,l.length<=300->(∀ f∈l,Kf f)->((Cg l).bind fun y=>some (y.1,y.2))=some (M6 l):=fun l h1 h2=>by
   rw [nM l (by omega) h2]
   rfl
  have:=X8 (body:=fun q':yB=>Dt.l1 u q'.1 q'.2.1 q'.2.2.1 q'.2.2.2.1 q'.2.2.2.2.1 q'.2.2.2.2.2.1 q'.2.2.2.2.2.2.1 q'.2.2.2.2.2.2.2.1 q'.2.2.2.2.2.2.2.2.1 q'.2.2.2.2.2.2.2.2.2.1 q'.2.2.2.2.2.2.2.2.2.2.1 q'.2.2.2.2.2.2.2.2.2.2.2.1 q'.2.2.2.2.2.2.2.2.2.2.2.2) u (fun i l=>gD (Oa at') l (i:Int)) (fun x=>Ta at' 1 x 0) (fun x=>decide (0 < Kq x)) (([]:List Aa),(7:Int)) (fun l=>(Cg l).bind fun y=>some (y.1,y.2))
   (fun i x l hx hlen=>by
    have hi:=Lb hx
    show Dt.l1 u (i:Int) _ _ _ _ _ _ _ _ _ _ _ l=_
    unfold Dt.l1
    rw [G7 hx,Mr,aAc]
    cases decide (0 < Kq x) with
    | false=>rfl
    | true=>
     rw [aG4,aCx,aD8]
     have:=P5 at' l 1 x 0 hlen
     show ((Cw ⟨Oa at',l⟩ 1 x 0).bind _)=_
     rw [this,aAc,Iq (by omega)]
     rfl) (fun l=>by
    show Dt.l1 u (u.length:Int) _ _ _ _ _ _ _ _ _ _ _ l=_
    unfold Dt.l1
    rw [Fs]) u [] [] rfl (by simp; omega)
  refine aIg this ?_
  cases ha:u.any (fun x=>!decide (0 < Kq x)) with
  | true=>rfl
  | false=>
   rw [aCx,aCx]
   exact hfin _ (by simp; omega) (Zo h u _ _ _)
theorem uJ {at':Aa} (h:Kf at') {u:List Am} (hl:u.length<=300):D4 at' u=some (So at' u):=by
 unfold D4 So
 rw [W7 h,aAc]
 cases hb:M8 (Oa at') with
 | true=>rfl
 | false=>
  rw [aCx,aCx,show (!decide ((Q9 at',(0:Int)).2=0))=false from rfl,aCx]
  have hfin:∀ l,l.length<=300->(∀ f∈l,Kf f)->((Cr l).bind fun y=>some (y.1,y.2))=some (M6 l):=fun l h1 h2=>by
   rw [mT l (by omega) h2]
   rfl
  have:=X8 (body:=fun q':Int×List Aa=>D4.l1 u (Q9 at',0) q'.1 q'.2) u (fun i l=>((i:Int),l)) (fun x=>Ta at' 1 x 0) (fun x=>decide (0 < Kq x)) (([]:List Aa),(7:Int)) (fun l=>(Cr l).bind fun y=>some (y.1,y.2))
   (fun i x l hx hlen=>by
    have hi:=Lb hx
    show D4.l1 u (Q9 at',0) (i:Int) l=_
    unfold D4.l1
    rw [G7 hx,Qu,aAc]
    cases decide (0 < Kq x) with
    | false=>rfl
    | true=>
     rw [aG4,aCx,aD8]
     show ((Hh 1232 l [Ta at' 1 x 0]).bind _)=_
     rw [Fr (by rw [aGs]; omega),aAc,Iq (by omega)]) (fun l=>by
    show D4.l1 u (Q9 at',0) (u.length:Int) l=_
    unfold D4.l1
    rw [Fs]) u [] [] rfl (by simp; omega)
  refine aIg this ?_
  cases ha:u.any (fun x=>!decide (0 < Kq x)) with
  | true=>rfl
  | false=>
   rw [aCx,aCx]
   exact hfin _ (by simp; omega) (Zo h u _ _ _)
theorem pJ:Di=Jl:=by
 unfold Di Cy
 simp only [aAc]
 iterate 16 refine (Ej rfl).trans ?_
 exact D0 rfl
theorem rQ (n:Int):Df n=D8 n:=by
 obtain⟨l,hl,hlen⟩:=Tu
 unfold Df D8
 rw [pJ,hl,aAc]
 have j:∀ b,Df.j1 n l b=D8.j1 n b:=fun b=>by
  unfold Df.j1 D8.j1
  rw [hl]
  rfl
 rw [j,j,show ((l.length:Nat):Int)=16 by omega]
theorem fN (c:C6):Ok (L7 c) (fun b=>b=true↔ChV c):=Tv c
theorem Ui (l:List Aa):(M6 l).1.length<=l.length:=by
 unfold M6
 cases l.any M8 with
 | true=>exact aHc _
 | false=>exact Xl cA l
theorem uA {at':Aa} (h:Kf at') {m:Dj} {c:C6} (h1:m.Suites.length<=1000) (h2:m.Hashes.length<=1000):∃ r,Cm at' m c=some r/\By at' m c=some r/\r.1.length<=1000:=by
 obtain⟨y2,e2,d2⟩:=Yp m h1 h2
 obtain⟨y3,e3,d3⟩:=Ww c
 obtain⟨b2,f2,g2⟩:=iD m h1 h2
 obtain⟨b3,f3,g3⟩:=fN c
 cases hb:M8 (Oa at') with
 | true=>
  refine⟨([],24),?_,?_,by simp⟩
  ·unfold Cm
   rw [Sj h,aAc,Pr hb]
   rfl
  ·unfold By
   rw [W7 h,aAc,hb]
   rfl
 | false=>
  have rf:By at' m c=(cond (!b2) (By.j1 c (Q9 at',0) true) (By.j1 c (Q9 at',0) (!b3))):=by
   unfold By
   rw [W7 h,aAc,hb,aCx,show (!decide ((Q9 at',(0:Int)).2=0))=false from rfl,aCx,f2,aAc,f3]
   rfl
  by_cases hm:xU m
  ·have z2:y2.2=0:=d2.elim (fun q=>q.1) fun q=>absurd hm q.2
   by_cases hc:ChV c
   ·obtain⟨s,hs⟩:∃ s,Df c.Suite=some s:=by
     obtain⟨s,hs,-⟩:=Z2 c.Suite
     exact⟨s,hs⟩
    refine⟨_,mK h hb h1 h2 hm hc hs,?_,?_⟩
    ·rw [rf,g2.2 hm,g3.2 hc,aG4,aCx]
     unfold By.j1
     rw [aCx]
     show ((D8 c.Suite).bind _)=_
     rw [<- rQ,hs,aAc]
     have hfit:=hZ h c s
     have fin:∀ l,l.length<=10->(∀ f∈l,Kf f)->By.j2 l=some (M6 l):=fun l hl hf=>by
      unfold By.j2
      rw [mT l (by omega) hf]
      rfl
     unfold iC at hfit ⊢
     cases hz:decide (s.2=0) with
     | true=>
      rw [hz,aD8] at hfit
      rw [aD8,aD8]
      refine aIg (b:=(Hh 1232 [Ta at' 2 ⟨0,0⟩ c.Suite,Ta at' 4 ⟨0,0⟩ c.Version] [Ta at' 1 s.1.Cipher 0,Ta at' 1 s.1.Mac 0]).bind fun l=>By.j2 l) rfl ?_
      rw [Fr (by simp),aAc]
      exact fin _ (by simp) hfit
     | false=>
      rw [hz,aCx] at hfit
      rw [aCx,aCx]
      exact fin _ (by simp) hfit
    ·have:=Ui (iC at' c s)
     have h4:(iC at' c s).length<=4:=by
      unfold iC
      cases decide (s.2=0) <;> simp
     omega
   ·have z3:y3.2=23:=d3.elim (fun q=>absurd q.2 hc) fun q=>q.1
    have b3f:b3=false:=by
     cases b3 with
     | true=>exact absurd (g3.1 rfl) hc
     | false=>rfl
    refine⟨([],23),?_,?_,by simp⟩
    ·unfold Cm
     rw [Sj h,aAc,Uv hb,aAe rfl,aG4,aCx,e2,aAc,z2,aAe rfl,aG4,aCx,e3,aAc,z3]
     rfl
    ·rw [rf,g2.2 hm,b3f]
     rfl
  ·have z2:y2.2=23:=d2.elim (fun q=>absurd q.2 hm) fun q=>q.1
   have b2f:b2=false:=by
    cases b2 with
    | true=>exact absurd (g2.1 rfl) hm
    | false=>rfl
   refine⟨([],23),?_,?_,by simp⟩
   ·unfold Cm
    rw [Sj h,aAc,Uv hb,aAe rfl,aG4,aCx,e2,aAc,z2]
    rfl
   ·rw [rf,b2f]
    rfl
end
section
open Go
theorem vD {d:Ac} (hd:Lj d) {name:ByteArray} (hn:name.size<=32) {e:Av} (h:zY name e):Ok (E7 d e) (fun y=>Vc y.1/\Wj y.1):=by
 have hf:=h.fit hn
 have hw:=h.few
 have h1:=h.sn
 have h2:=h.idn
 have h3:=hw.anchors
 have h4:=hw.hashes
 have fin:∀ (d':Ac) (nm:ByteArray) (a b:Int) (su:List Int) (ids:List A9) (an ha:List Int),nm.size<=1000->su.length<=50->ids.length<=50->(∀ x∈ids,∀ c∈x.Chain,Yv c)->an.length<=50->ha.length<=50->Ok (E7.j1 e d'.L d'.At nm a b su ids an ha) (fun y=>Vc y.1/\Wj y.1):=fun d' nm a b su ids an ha k1 k2 k3 k4 k5 k6=>by
  unfold E7.j1
  exact Ok.ret ⟨⟨by show nm.size<=_; omega,Q6 (by show su.length<=_; omega),Q6 (by show ids.length<=_; omega),Q6 (by show an.length<=_; omega),Q6 (by show ha.length<=_; omega),k4⟩,⟨k2,k3,k5,k6⟩⟩
 have nm:e.Name.size<=1000:=by rw [h.name]; omega
 have s1:e.Suites.length<=50:=by omega
 have i1:e.Identities.length<=50:=by omega
 unfold E7
 refine Ok.bind (Fq hd 8 (by omega) (by omega)) fun y hy=>?_
 refine Ok.cond (fun _=>Ok.bind (Uy hy.2 _ (by decide) (by decide)) fun y2 k2=>fin y2.2 _ _ _ _ _ _ _ ?_ s1 i1 hf.chain h3 h4) (fun _=>?_)
 ·have:=k2.1
  simp only [aFt,aGi,aIe] at this
  rcases this with e | e | e <;> rw [e] <;> decide
 refine Ok.cond (fun _=>Ok.bind (Iw hy.2 _ (by simp) (by simp)) fun y2 k2=>fin y2.2 _ _ _ _ _ _ _ nm s1 i1 hf.chain h3 h4) (fun _=>?_)
 refine Ok.cond (fun _=>Ok.bind (Iw hy.2 _ (by decide) (by decide)) fun y2 k2=>fin y2.2 _ _ _ _ _ _ _ nm s1 i1 hf.chain h3 h4) (fun _=>?_)
 refine Ok.cond (fun _=>?_) (fun _=>?_)
 ·refine Ok.bindE (Fr (by simp; omega)) ?_
  refine Ok.bind (Iw hy.2 _ (by decide) (by decide)) fun y2 k2=>?_
  refine Ok.bindE (Fr (by simp; omega)) (fin y2.2 _ _ _ _ _ _ _ nm ?_ i1 hf.chain h3 h4)
  simp
  omega
 refine Ok.cond (fun _=>fin y.2 _ _ _ _ _ _ _ nm s1 i1 hf.chain (by decide) h4) (fun _=>?_)
 refine Ok.cond (fun _=>Ok.bind (Iw hy.2 _ (by decide) (by decide)) fun y2 k2=>fin y2.2 _ _ _ _ _ _ _ nm s1 i1 hf.chain h3 (by rw [aGs]; omega)) (fun _=>?_)
 have app:∀ (x:A9),(∀ c∈x.Chain,Yv c)->∀ z∈([] ++ e.Identities) ++ [x],∀ c∈z.Chain,Yv c:=fun x hx z hz c hc=>by
  rw [aIu] at hz
  rcases aHv.1 hz with hz | hz
  ·exact hf.chain z hz c hc
  ·rw [aGh.1 hz] at hc
   exact hx c hc
 have len:∀ (x:A9),(([] ++ e.Identities) ++ [x]).length<=50:=fun x=>by simp; omega
 refine Ok.cond (fun _=>?_) (fun _=>?_)
 ·refine Ok.bindE (Fr (by simp; omega)) (Ok.bindE (Fr (by simp; omega)) (fin y.2 _ _ _ _ _ _ _ nm s1 (len _) (app _ fun c hc=>by cases hc) h3 h4))
 ·refine Ok.bindE (Fr (by simp; omega)) ?_
  refine Ok.bind (X3 hy.2 (by decide +kernel) (by decide) (show gC ⟨5,2048⟩ from ⟨⟨by unfold Sm; decide,by unfold Sm; decide⟩,by decide +kernel⟩) (by omega)) fun y2 k2=>?_
  refine Ok.bindE (Fr (by simp; omega)) (fin y2.2 _ _ _ _ _ _ _ nm s1 (len _) (app _ fun c hc=>(k2.1.2.1 c hc).2.w) h3 h4)
theorem wI {d:Ac} (hd:Lj d):Ok (Oy d) (fun y=>Lj y.2):=by
 unfold Oy
 refine Ok.bind (Fq hd 22 (by omega) (by omega)) fun y hy=>?_
 exact Ok.bind (oJ hy.2 _) fun z hz=>Ok.ret hz.2
theorem iQ (at':Aa) {e:Av} (h:Wj e):(Sn at' e).1.length<=1000:=by
 unfold Sn
 cases M8 (Oa at') with
 | true=>exact aHc _
 | false=>
  cases decide (Bm e=some 0) with
  | true=>
   have h1:=Ui (xY at' e)
   have h2:=fC at' h
   show (M6 (xY at' e)).1.length<=1000
   omega
  | false=>exact aHc _
theorem kG (at':Aa) {l:List Ax} (h:l.length<=300):(Sf at' l).1.length<=1000:=by
 unfold Sf
 cases M8 (Oa at') with
 | true=>exact aHc _
 | false=>
  cases decide (Mv l=0) with
  | true=>
   have h1:=Ui (vU at' l)
   have h2:(vU at' l).length=l.length:=aIp _
   show (M6 (vU at' l)).1.length<=1000
   omega
  | false=>exact aHc _
theorem jW (at':Aa) {u:List Am} (h:u.length<=300):(So at' u).1.length<=1000:=by
 unfold So
 cases M8 (Oa at') with
 | true=>exact aHc _
 | false=>
  cases u.any (fun x=>!decide (0 < Kq x)) with
  | true=>exact aHc _
  | false=>
   have h1:=Ui (uzL at' u)
   have h2:(uzL at' u).length=u.length:=aIp _
   show (M6 (uzL at' u)).1.length<=1000
   omega
theorem Xd {at':Aa} (h:Kf at') {y10:List Int×Ac} (h10:y10.1.length<=10) {y12:Int×Ac} {e:Av} (he:Vc e/\Wj e) {s:List Ax} (hs:s.length<=300) (hf:∀ x∈s,kA x) {u:List Am} (hu:u.length<=300) {c:Int} :
  Ok (Bh.j3 at' y10 y12 e s u c) (fun r=>r=true):=by
 obtain⟨r,a1,a2,a3⟩:=uA h (m:=⟨3,y10.1,[]⟩) (c:=⟨c,y12.1,7⟩) (by show y10.1.length<=_; omega) (aHc _)
 have e1:=iQ at' he.2
 have e2:=kG at' hs
 have e3:=jW at' hu
 unfold Bh.j3
 simp only [pZ h he.1 he.2,qR h he.1 he.2,pP h hs hf,uC h hs hf,qI h hu,uJ h hu,a1,a2,aAc,decide_true,aD8,Zg _ _ (show (Sn at' e).1.length < 1000000 by omega),Zg _ _ (show (Sf at' s).1.length < 1000000 by omega),Zg _ _ (show (So at' u).1.length < 1000000 by omega),Zg _ _ (show r.1.length < 1000000 by omega),mS]
 exact Ok.ret rfl
theorem nA (odds:UInt8) {d:Ac} (hd:Lj d) {at':Aa} (h:Kf at'):Ok (Bh.j1 odds d at') (fun r=>r=true):=by
 unfold Bh.j1
 refine Ok.bind (kB hd vG.1 (by decide)) fun y6 h6=>?_
 refine Ok.bind (qK h6.2 vG.1 (by decide)) fun y7 h7=>?_
 refine Ok.bind (Fq h7.2 5 (by omega) (by omega)) fun y8 h8=>?_
 have hy8:=h8.1
 have hfe:Vc y6.1/\Wj y6.1:=⟨h6.1.fit (by decide),h6.1.few⟩
 have hsl:y7.1.length<=4:=h7.1.2.1
 have hfs:∀ x∈y7.1,kA x:=fun x hx=>by
  obtain⟨j,hj⟩:=aJp.1 hx
  exact nJ (h7.1.2.2 j x hj).2.1
 refine Ok.loop (fun t:Int×Ac×List Am=>∃ i:Nat,t.1=(i:Int)/\t.2.2.length + i<=5/\Lj t.2.1) (fun t=>t.1.toNat) ?_ ⟨y8.1.toNat,by show y8.1=_; omega,by simp; omega,h8.2⟩
 rintro⟨x,d1,u⟩ ⟨i,c1,c2,c3⟩
 simp only at c1 c2 c3
 subst c1
 show Ok (Bh.l2 odds at' y6 y7 (i:Int) d1 u) _
 unfold Bh.l2
 refine Ok.cond (fun hp=>?_) fun hz=>Ok.up ?_
 ·have hp:=aCl hp
  refine Ok.bind (wI c3) fun y9 h9=>?_
  refine Ok.bindE (Fr (by rw [aGs]; omega)) (Ok.ret ⟨⟨i - 1,?_,by simp; omega,h9⟩,?_⟩)
  ·show W ((i:Int) - 1)=_
   rw [Es (by omega)]
   omega
  ·show (W ((i:Int) - 1)).toNat < (i:Int).toNat
   rw [Es (by omega)]
   omega
 ·refine Ok.bind (eC c3) fun y10 h10=>?_
  refine Ok.bind (Fq h10.2 4 (by omega) (by omega)) fun y11 h11=>?_
  refine Ok.bind (Iw h11.2 _ (by decide) (by decide)) fun y12 h12=>?_
  refine Ok.bindE (a:=odds % 7) rfl ?_
  refine Ok.cond (fun _=>?_) fun _=>?_
  ·refine Ok.bind (vD h12.2 (by decide) h6.1) fun y13 h13=>?_
   exact Xd h h10.1.1 h13 (by omega) hfs (by omega)
  refine Ok.cond (fun _=>?_) fun _=>?_
  ·refine Ok.bind (K8 (by omega) (by have:=h7.1.1; omega)) fun z hz=>?_
   refine Xd h h10.1.1 hfe (by unfold Db; rw [aKc]; omega) (fun w hw=>?_) (by omega)
   unfold Db at hw
   rcases aI7 hw with hw | rfl
   ·exact hfs w hw
   ·exact⟨(hfs z hz).alias,(hfs z hz).chain⟩
  refine Ok.cond (fun _=>?_) fun _=>?_
  ·exact Ok.bindE (Fr (by rw [aGs]; omega)) (Xd h h10.1.1 hfe (by omega) hfs (by rw [aGd,aGs]; omega))
  exact Ok.cond (fun _=>Xd h h10.1.1 hfe (by omega) hfs (by omega)) fun _=>Xd h h10.1.1 hfe (by omega) hfs (by omega)
theorem Va (l:List Int) (odds:UInt8):Bh l odds=some true:=by
 refine Ok.true_ ?_
 unfold Bh
 refine Ok.bindE (a:=decide ((l.length:Int)<=400)) rfl ?_
 refine Ok.cond (fun _=>Ok.bindE mS (Ok.ret rfl)) fun hlt=>?_
 have hlt:l.length<=400:=by simp at hlt; omega
 refine Ok.bind (aBy (by omega)) fun d hd=>?_
 refine Ok.bind (Sz hd) fun y4 h4=>?_
 refine Ok.bindE (a:=odds % 5) rfl ?_
 exact Ok.cond (fun _=>Ok.bind (aCi h4.2) fun y5 h5=>nA odds h5.2 h5.1) fun _=>nA odds h4.2 h4.1.2
end
end Go.Proofs.YtchpcpaacenodaaGreat
