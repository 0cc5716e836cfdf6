import Derived.Test.YtfanepojdefdpaaGreatEN
set_option linter.unusedVariables false
set_option linter.unusedSimpArgs false
namespace Go.Proofs.YtfanepojdefdpaaGreat
open Go.RowKit
theorem cA {α:Type} {f:α->List C} {sz:Nat} (hf:∀ x,(f x).length=sz) {l:List α} {i:Nat} {y:α}:(An f (Jy l i y)).length=l.length * sz:=by
 rw [D0 hf]
 simp only [Jy,aHg]
def aAr (m:Nat) (x u:Value):Prop:=∃ A c,u=.slice A m c/\m<=c/\c<=maxLen/\∀ A' N c',x=.slice A' N c'->A=A'/\c=c'
def eN (e sz o e2 sz2 i m:Nat) (cs:List C):Shp where
 R:=fun w I v xs=>∃ vs x n us,xs=[.tuple vs,x]/\o < sz/\i < n/\w.rowOk e sz v n us/\vs.size=n/\cs.length=us.length/\
  (∀ j c u,cs[j]?=some c->us[j]?=some u->j % sz≠o->D3 w I c u)/\
  (∀ j u,vs[j]?=some u->j≠i->us[j * sz + o]?=some u/\∃ n2 us2 c2,cs[j * sz + o]?=some (.sl sz2 c2)/\w.rowOk e2 sz2 u n2 us2/\Fb w I c2 us2/\∀ b,Br u=some b->Br v≠some b)/\
  (∀ j k u u' b,vs[j]?=some u->vs[k]?=some u'->j≠i->k≠i->Br u=some b->Br u'=some b->j=k)/\
  ∃ u,us[i * sz + o]?=some u/\aAr m x u
 own:=fun v xs b=>Br v=some b\/∃ vs x j u,xs=[.tuple vs,x]/\vs[j]?=some u/\j≠i/\Br u=some b
 stab:=by
  rintro w w' I I' v xs ⟨vs,x,n,us,rfl,h1,h2,h3,h4,h5,h6,h7,h8,h9⟩ hI hb
  refine⟨vs,x,n,us,rfl,h1,h2,E9 h3 fun b h=>hb b (.inl h),h4,h5,fun j c u a b d=>D3.keep_ (fun b hb=>(hI b hb).2) (fun b hb=>(hI b hb).1) _ _ (h6 j c u a b d),fun j u a b=>?_,h8,h9⟩
  obtain⟨q0,n2,us2,c2,q1,q2,q3,q4⟩:=h7 j u a b
  exact⟨q0,n2,us2,c2,q1,E9 q2 fun b' h=>hb b' (.inr ⟨vs,x,j,u,rfl,a,b,h⟩),q3.keep_ (fun b hb=>(hI b hb).2) fun b hb=>(hI b hb).1,q4⟩
 lt:=by
  rintro w I v xs b ⟨vs,x,n,us,rfl,h1,h2,h3,h4,h5,h6,h7,h8,h9⟩ hb
  rcases hb with hb | ⟨vs',x',j,u,e1,a,d,hb⟩
  ·exact Ho h3 hb
  ·injection e1 with e1 e2
   injection e1 with e1
   subst e1
   obtain⟨q0,n2,us2,c2,q1,q2,-⟩:=h7 j u a d
   exact Ho q2 hb
 rd:=none
 rdOk:=fun h=>nomatch h
section
variable {P:Program} {cx:Cx} {ρ:Nat->Value} {σ:St} {a:Act} {w:World} {o:Oper} {K:Act->World->Prop} {Q:Exit->Act->World->Prop}
theorem oF {e sz n:Nat} {cs:List C} {I:Nat->Prop} {x v:Value} {k:Nat} (hρ:ρ k=x) (hL:N3 cx ρ I w x (.row e sz cs)) (hz:0 < sz) (hn:cs.length=n * sz) (hv:v=x):B7 ρ I w (.part k 0 n) v:=by
 obtain⟨n',us,ho,-,hu⟩:=hL
 have hl:=hu.1
 rw [ho.1,hn] at hl
 have hnn:n=n':=aD6 hz hl
 subst hnn hv
 unfold B7
 rw [hρ]
 rcases ho.2 with ⟨A,h1,h2⟩ | ⟨g,cap,cur,h0,h1,D,h3,hm,hs,ht⟩
 ·have h5:n=0:=h2
  subst h5
  rw [h1]
  refine⟨A,0,rfl,aFf _,aFb _,fun h=>by omega,fun _ A' N c' hv=>?_⟩
  injection hv with h5 h6 h7
  exact⟨h5,h7⟩
 ·rw [h0]
  refine⟨_,cap,rfl,h3,hm,fun _=>⟨g,Gu h1,rfl⟩,fun _ A' N c' hv=>?_⟩
  injection hv with h5 h6 h7
  exact⟨h5,h7⟩
theorem tH {dst:Option Tmp} {el:List (Nat×Option LB)} {k e sz n:Nat} {cs:List C} (hl:D5 el k=some (some (.row e sz cs))) (hz:0 < sz) (hn:cs.length=n * sz) (h:Jf cx (σ.app dst (Jh el (some (.row k)))) a w):Jf cx (σ.app dst (Jh el (some (.part k 0 n)))) a w:=by
 obtain⟨ρ,h⟩:=h
 cases dst with
 | none=>exact⟨ρ,h⟩
 | some t=>
  have hL:(σ.app (some t) (Jh el (some (.row k)))).L k=some (.row e sz cs):=by
   show (match D5 el k with | some x=>x | none=>σ.L k)=_
   rw [hl]
  refine⟨ρ,h.defers,h.size,h.kept,fun t' d hd=>?_,h.lo,h.sep,fun t' d k' hd hm=>?_,h.usedL,h.pin,h.fresh⟩
  ·by_cases ht:t'=t
   ·subst ht
    have hd:some (DV.part k 0 n)=some d:=by rw [<- hd]; exact (Np _ _ _).symm
    injection hd with hd
    subst hd
    have h1:=h.fr t' (.row k) (Np _ _ _)
    unfold B7 at h1
    exact oF rfl (h.lo k _ hL) hz hn h1.1
   ·have hd:σ.F t'=some d:=by rw [<- hd]; exact (Km _ _ ht).symm
    exact h.fr t' d (by rw [<- hd]; exact Km _ _ ht)
  ·by_cases ht:t'=t
   ·subst ht
    have hd:some (DV.part k 0 n)=some d:=by rw [<- hd]; exact (Np _ _ _).symm
    injection hd with hd
    subst hd
    unfold men at hm
    subst hm
    exact h.usedF t' (.row k') k' (Np _ _ _) (by unfold men; rfl)
   ·have hd:σ.F t'=some d:=by rw [<- hd]; exact (Km _ _ ht).symm
    exact h.usedF t' d k' (by rw [<- hd]; exact Km _ _ ht) hm
theorem vR {β:Type} {f:β->List C} {np tk:Nat} {ty:TypeId} {t e e2 sz2 bytes:Nat} {env:Sn} {x y:Operand} {k s i sz o kk:Nat} {cs c2 cs':List C} {d':DV×Option LB} {l l' l2:List β} (hS:Ij P t e2 sz2 bytes) (hf:∀ x,(f x).length=sz2) (hc:cs[i * sz + o]?=some (.sl sz2 c2)) (hc2:c2=An f l) (hs:X3 d' sz2 cs') (hc':cs'=An f l') (h:Gl kk l l'=some l2) (hkk:sz2 * bytes=kk) (hk:k∈env.map (·.1)) (hnp:Nat.ble np k=true) :
  ExtR P np tk (.call ⟨.builtin .append,#[x,y],#[t,t]⟩) ty [(.nst k s i,some (.tree e sz o e2 sz2 s none cs)),d'] env [k] (fun e'=>e'=Jh [(tk,some (.row e2 sz2 (An f l2))),(k,some (.tree e sz o e2 sz2 s (some i) cs))] (some (.part tk 0 l2.length))):=by
 have h0:=xT (P:=P) (np:=np) (tk:=tk) (ty:=ty) (e:=e) (env:=env) (x:=x) (y:=y) (s:=s) hS hf hc hc2 hs hc' h hkk hk hnp
 refine .sem (fun {cx ρ σ a w o K Q l0} hnp0 ha hds henv hf0 ho hdst hK=>?_) (fun e' he k' hk'=>?_) h0.sub (fun _ wr' e' hs' h'=>?_)
 ·obtain⟨_,hds0,hds⟩:=hds
  obtain rfl:=Hj.eq (show Hj false _ _ from hds0)
  subst hnp0
  exact h0.sound ha hds henv hf0 ho hdst fun e' a' w' he ha'=>by
   subst he
   exact hK _ _ _ rfl (tH (by rw [Gg,aGp]; rfl) hS.hsz (D0 hf l2) ha')
 ·subst he
  exact h0.key _ rfl k' hk'
 ·obtain rfl:=Hj.eq (show Hj false _ _ from hs')
  exact h0.excl h'
theorem tD {α:Type} {l:List α} {x1:α} {tk t e sz bytes kr j:Nat} {ty:TypeId} {X Y:Operand} {n:Int} {k:IntKind} {b1 b2:Option LB} (h:Ij P t e sz bytes) (hj:n=(j:Int)) (hx:l[j]?=some x1):Fv P tk (.indexAddr t X Y) ty [(.part kr 0 l.length,b1),(.val (.int k n),b2)] [] (v0 (.ptr kr (j * sz))):=by
 have:=Fv.idxP (P:=P) (tk:=tk) (x:=X) (i:=Y) (ty:=ty) (k:=k) (off:=0) (m:=l.length) (b:=b1) (b':=b2) (kr:=kr) h hj (aBw.1 hx).1
 rwa [aE6] at this
theorem aBm {np tk:Nat} {ty:TypeId} {t e e2 sz2:Nat} {env:Sn} {x y:Operand} {k p s i o sz j m:Nat} {cs:List C} {b:Option LB} (ht:Ty P t false 1) (hp:p=i * sz + o) (hl:p < cs.length) (hk:k∈env.map (·.1)) :
  ExtR P np tk (.store t x y) ty [(.ptr k p,some (.tree e sz o e2 sz2 s (some i) cs)),(.part j 0 m,b)] env [k] (fun e'=>e'=U1 k (.abs [s,j] (eN e sz o e2 sz2 i m cs)) none):=by
 subst hp
 refine .sem (fun {cx ρ σ a w oo K Q l0} hnp0 ha hds henv hf0 ho hdst hK=>?_) (by rintro e rfl k hk; exact .inl (aDv.2 (N7 hk))) (fun k' hk'=>by rw [aDv.1 hk']; exact hk) (fun ds' wr' e' hs' h'=>?_)
 ·obtain⟨ds',hds0,hds⟩:=hds
  obtain⟨b',rfl⟩:∃ b',ds'=[(.ptr k (i * sz + o),some (.tree e sz o e2 sz2 s (some i) cs)),(.part j 0 m,b')]:=by
   match ds',hds0 with
   | [(d1,q1),(d2,q2)],⟨h1,h2,h3,_,_⟩=>
    have h1:_=d1:=h1
    have h3:_=d2:=h3
    subst h1 h3
    rcases h2 with h2 | ⟨-,h2⟩
    ·have h2:_=q1:=h2
     subst h2
     exact⟨q2,rfl⟩
    ·cases h2
  obtain⟨e1,e2'⟩:=K6 (show Ey σ true [x,y]=_ from hds)
  obtain⟨h1,h2,h3⟩:=B9 ha e1
  obtain⟨h4,h5,-⟩:=B9 ha e2'
  have hL:=h3 _ _ rfl rfl
  unfold B7 at h1 h4
  obtain⟨g,D,hv⟩:=h1
  obtain⟨n,us,vs,q⟩:=ha.lo _ _ hL
  obtain⟨A,c,hy,hmc,hcm,-,hA⟩:=h4
  have hsz:0 < sz:=aGr (aFb _) q.ho
  have hin:i < n:=by
   have h1:i * sz < n * sz:=by rw [<- q.row.1,<- q.hl]; omega
   exact aHp h1
  obtain⟨X,hrun,hrow⟩:=Ra (P:=P) (p:=i * sz + o) (v':=a.eval y) (us':=[a.eval y]) ht q.row D (by rw [hy]; rfl) rfl (by rw [<- q.hl]; omega) (fun u hu=>by rw [aDv.1 hu,hy]; rfl)
  have hsp:Co us (i * sz + o) [a.eval y]=us.set (i * sz + o) (a.eval y):=by
   unfold Co
   rw [aGg,if_pos (by rw [<- q.hl]; exact hl)]
   simp
  rw [hsp] at hrow
  have hmod:∀ i,(i * sz + o) % sz=o:=fun i=>by rw [aGj,aG8]; exact aFc q.ho
  have hne:∀ j,j≠i->i * sz + o≠j * sz + o:=fun j hj e=>hj (aD6 hsz (aG7 e)).symm
  have hjU:σ.U j=true:=h5 j (by unfold men; rfl)
  have hsU:σ.U s=true:=(ha.usedL _ _ hL).2 s rfl
  have hxs:[s,j].map ρ=[.tuple vs,ρ j]:=by simp [q.hs]
  refine iX (lb':=.abs [s,j] (eN e sz o e2 sz2 i m cs)) (d:=none) (v:=undef) (w':=w.setRow g X) ha hdst hL (.inl ⟨?_,rfl⟩) ⟨rfl,rfl,rfl,Ip w g X⟩ (fun b hb=>E6 w g b X fun e=>hb (by rw [e]; exact .inl D)) (fun I' hI=>⟨⟨?_,fun b hb=>?_⟩,fun x hx=>by cases hx⟩) ⟨fun k' hk'=>?_,fun x k' hx=>by cases hx⟩ (fun a' w' h=>hK _ a' w' rfl h) (fun b hb=>?_)
  ·simp [execOp,ho,hv,hrun]
  ·rw [hxs]
   refine⟨vs,ρ j,n,_,rfl,q.ho,hin,hrow,q.hn,by rw [aHg]; exact q.hl,fun j2 c2 u b1 b2 b3=>?_,fun j2 u b1 b2=>?_,fun j2 k2 u u' b b1 b2 b3 b4 b5 b6=>q.dist j2 k2 u u' b b1 b2 (fun h=>b3 (by injection h with h; exact h.symm)) (fun h=>b4 (by injection h with h; exact h.symm)) b5 b6,a.eval y,aGk (by rw [<- q.hl]; exact hl),A,c,hy,hmc,hcm,fun A' N c' h=>hA rfl A' N c' h⟩
   ·rw [aF1 (fun e=>b3 (by rw [<- e]; exact hmod i))] at b2
    exact D3.keep_ (fun b hb=>(hI b hb).2) (fun b hb=>(hI b hb).1) _ _ (q.flat j2 c2 u b1 b2 b3)
   ·obtain⟨q0,n3,us3,c3',q1,q2,q3,q4⟩:=q.nest j2 u b1 fun h=>b2 (by injection h with h; exact h.symm)
    exact⟨by rw [aF1 (hne j2 b2)]; exact q0,n3,us3,c3',q1,E9 q2 fun b hb=>E6 w g b X fun e=>(q4 b hb).2 (by rw [e]; exact D),q3.keep_ (fun b hb=>(hI b hb).2) fun b hb=>(hI b hb).1,fun b hb=>(q4 b hb).2⟩
  ·rw [hxs] at hb
   rcases hb with hb | ⟨vs',x',j2,u,e3,b1,b2,b3⟩
   ·exact q.hM b hb
   ·injection e3 with e3 _
    injection e3 with e3
    subst e3
    obtain⟨-,n3,us3,c3',-,-,-,q4⟩:=q.nest j2 u b1 fun h=>b2 (by injection h with h; exact h.symm)
    exact (q4 b b3).1
  ·have hk':k'∈[s,j]:=hk'
   simp at hk'
   rcases hk' with rfl | rfl
   ·exact hsU
   ·exact hjU
  ·have hb:(eN e sz o e2 sz2 i m cs).own (ρ k) ([s,j].map ρ) b:=hb
   rw [hxs] at hb
   rcases hb with hb | ⟨vs',x',j2,u,e3,b1,b2,b3⟩
   ·exact .inl hb
   ·injection e3 with e3 _
    injection e3 with e3
    subst e3
    exact .inr ⟨vs,j2,u,q.hs,b1,fun h=>b2 (by injection h with h; exact h.symm),b3⟩
 ·match ds',hs' with
  | [(d1,q1),(d2,q2)],⟨h1,h2,h3,_,_⟩=>
   have h1:_=d1:=h1
   have h3:_=d2:=h3
   subst h1 h3
   rcases h2 with h2 | ⟨-,h2⟩
   ·have h2:_=q1:=h2
    subst h2
    cases h'
   ·cases h2
end
section
variable {cx:Cx} {fl:List (Nat×DV)} {ll:List (Nat×LB)} {N:Nat}
theorem aAb (k j:Nat) {e sz o e2 sz2 s i m:Nat} {cs c2 cs1:List C} (hL:D5 ll k=some (.abs [s,j] (eN e sz o e2 sz2 i m cs))) (hLj:D5 ll j=some (.row e2 sz2 c2)) (hz2:0 < sz2) (hm:c2.length=m * sz2) (hk:Nat.ble cx.np k=true) (hj:Nat.ble cx.np j=true) (hE:cs.set (i * sz + o) (.sl sz2 c2)=cs1) :
  Mb cx (mk fl ll N) (mk fl ((N,.gho) :: R2 k (.tree e sz o e2 sz2 N none cs1) (R2 j .gho ll)) (N + 1)):=by
 subst hE
 have hkN:∀ {a w ρ},Dr cx ρ (mk fl ll N) a w->k < N:=fun ha=>N1 (ha.usedL k _ hL).1
 have hjN:∀ {a w ρ},Dr cx ρ (mk fl ll N) a w->j < N:=fun ha=>N1 (ha.usedL j _ hLj).1
 have hkj:k≠j:=fun h=>by subst h; rw [hL] at hLj; cases hLj
 have hnk:=aC3 hk
 have hnj:=aC3 hj
 intro a0 w0 hA0
 have hkN:=hkN hA0.choose_spec
 have hjN:=hjN hA0.choose_spec
 refine Mb.eff (σ:=mk fl ll N) (σ':=mk fl ((N,.gho) :: R2 k (.tree e sz o e2 sz2 N none (cs.set (i * sz + o) (.sl sz2 c2))) (R2 j .gho ll)) (N + 1)) (e:=Jh [(k,some (.tree e sz o e2 sz2 N none (cs.set (i * sz + o) (.sl sz2 c2)))),(N,some .gho),(j,some .gho)] none) (fun _ _ h=>h) (fun l=>?_) (fun l hl=>?_) (fun a w ρ ha=>?_) a0 w0 hA0
 ·show D5 _ l=match D5 [(k,some (LB.tree e sz o e2 sz2 N none (cs.set (i * sz + o) (.sl sz2 c2)))),(N,some LB.gho),(j,some LB.gho)] l with | some x=>x | none=>D5 ll l
  rw [Gg,Gg,Gg,Gg,Ss,Ld,Ld,Ld]
  cases hlN:Nat.beq l N with
  | true=>
   have:Nat.beq l k=false:=Mi (by have:=aDr hlN; omega)
   rw [this]
   rfl
  | false=>
   cases hlk:Nat.beq l k with
   | true=>
    have:Nat.beq k j=false:=Mi hkj
    rw [this]
    simp only [aCc,aEu]
    rw [hL]
    rfl
   | false=>
    simp only [aCc]
    cases hlj:Nat.beq l j with
    | true=>rw [hLj]; rfl
    | false=>rfl
 ·refine aFx ?_
  rcases hl with hl | hl
  ·have:=N1 hl; omega
  ·have:=J9 hl
   simp at this
   rcases this with rfl | rfl | rfl <;> omega
 ·obtain⟨⟨vs,x,n,us,hxs,q1,q2,q3,q4,q5,q6,q7,q8,u,q9,A,c,hu,hmc,hcm,hA⟩,qM⟩:=ha.lo k _ hL
  injection hxs with hs hxs
  injection hxs with hxj _
  subst hxj
  obtain⟨n2,us2,p2,pM,p3⟩:=ha.lo j _ hLj
  have hn2:n2=m:=by
   have h1:=p3.1
   rw [p2.1,hm] at h1
   exact (aD6 hz2 h1).symm
  subst hn2
  have huj:u=ρ j:=by
   rcases p2.2 with ⟨A',h1,h2⟩ | ⟨g,cap,cur,h1,-⟩
   ·obtain⟨h3,h4⟩:=hA _ _ _ h1
    rw [hu,h1,h3,h4,h2]
   ·obtain⟨h3,h4⟩:=hA _ _ _ h1
    rw [hu,h1,h3,h4]
  subst huj
  have hxs:[s,j].map ρ=[.tuple vs,ρ j]:=by simp [hs]
  have hsz:0 < sz:=by omega
  have ownA:∀ b,Br (ρ k)=some b\/(∃ l u,vs[l]?=some u/\l≠i/\Br u=some b)->own ρ (ρ k) (.abs [s,j] (eN e sz o e2 sz2 i n2 cs)) b:=fun b hb=>by
   show (eN e sz o e2 sz2 i n2 cs).own (ρ k) ([s,j].map ρ) b
   rw [hxs]
   rcases hb with hb | ⟨l,u,h1,h2,h3⟩
   ·exact .inl hb
   ·exact .inr ⟨vs,ρ j,l,u,rfl,h1,h2,h3⟩
  have hnd:∀ b,Br (ρ j)=some b->¬ (Br (ρ k)=some b\/∃ l u,vs[l]?=some u/\l≠i/\Br u=some b):=fun b hb h=>hkj (ha.sep k j _ _ b hL hLj (ownA b h) hb)
  let vs2:=vs.setIfInBounds i (ρ j)
  have hvs:∀ l u,vs2[l]?=some u->(l=i/\u=ρ j)\/(l≠i/\vs[l]?=some u):=fun l u h0=>by
   have h1:(vs.setIfInBounds i (ρ j))[l]?=some u:=h0
   clear h0
   rw [aF3] at h1
   split at h1
   ·rename_i hmi
    subst hmi
    by_cases hlt:i < vs.size
    ·rw [if_pos hlt] at h1
     injection h1 with h1
     exact .inl ⟨rfl,h1.symm⟩
    ·rw [if_neg hlt] at h1
     cases h1
   ·rename_i hmi
    exact .inr ⟨fun e=>hmi e.symm,h1⟩
  let ρ':Nat->Value:=fun l=>if l=N then .tuple vs2 else ρ l
  have hrN:ρ' N=.tuple vs2:=if_pos rfl
  have hro:∀ l,l < N->ρ' l=ρ l:=fun l hl=>if_neg (by omega)
  have hlk:∀ l x,(Jh [(k,some (LB.tree e sz o e2 sz2 N none (cs.set (i * sz + o) (.sl sz2 c2)))),(N,some LB.gho),(j,some LB.gho)] none).l l=some (some x)->(l=k/\x=.tree e sz o e2 sz2 N none (cs.set (i * sz + o) (.sl sz2 c2)))\/(l=N/\x=.gho)\/(l=j/\x=.gho):=fun l x h=>by
   have:=E4 h
   simpa using this
  have hownT:∀ b,own ρ' (ρ' k) (.tree e sz o e2 sz2 N none (cs.set (i * sz + o) (.sl sz2 c2))) b->(Br (ρ k)=some b\/∃ l u,vs[l]?=some u/\l≠i/\Br u=some b)\/Br (ρ j)=some b:=fun b hb=>by
   rw [hro k hkN] at hb
   rcases hb with hb | ⟨vs3,l,u,a1,a2,-,a4⟩
   ·exact .inl (.inl hb)
   ·rw [hrN] at a1
    injection a1 with a1
    subst a1
    rcases hvs l u a2 with ⟨rfl,rfl⟩ | ⟨h1,h2⟩
    ·exact .inr a4
    ·exact .inl (.inr ⟨l,u,h2,h1,a4⟩)
  have kk:(Jh [(k,some (LB.tree e sz o e2 sz2 N none (cs.set (i * sz + o) (.sl sz2 c2)))),(N,some LB.gho),(j,some LB.gho)] none).l k≠none:=C3 (by simp)
  have kj:(Jh [(k,some (LB.tree e sz o e2 sz2 N none (cs.set (i * sz + o) (.sl sz2 c2)))),(N,some LB.gho),(j,some LB.gho)] none).l j≠none:=C3 (by simp)
  refine⟨ρ',fun l hl=>hro l (N1 hl),fun l lb b h1 h2=>?_,fun l l' lb lb' b h1 h2 h3 h4=>?_,fun I' hI hI2 l lb h1=>?_,fun l lb l' h1 h2=>?_,fun l lb b h1 h2 h3=>?_⟩
  ·rcases hlk l _ h1 with ⟨rfl,rfl⟩ | ⟨rfl,rfl⟩ | ⟨rfl,rfl⟩
   ·rcases hownT b h2 with h | h
    ·exact⟨l,_,kk,hL,ownA b h⟩
    ·exact⟨j,_,kj,hLj,h⟩
   ·exact h2.elim
   ·exact h2.elim
  ·rcases hlk l _ h1 with ⟨rfl,rfl⟩ | ⟨rfl,rfl⟩ | ⟨rfl,rfl⟩
   ·rcases hlk l' _ h2 with ⟨rfl,rfl⟩ | ⟨rfl,rfl⟩ | ⟨rfl,rfl⟩
    ·rfl
    ·exact h4.elim
    ·exact h4.elim
   ·exact h3.elim
   ·exact h3.elim
  ·rcases hlk l _ h1 with ⟨rfl,rfl⟩ | ⟨rfl,rfl⟩ | ⟨rfl,rfl⟩
   ·rw [hro l hkN]
    have hmod:∀ i,(i * sz + o) % sz=o:=fun i=>by rw [aGj,aG8]; exact aFc q1
    have hilt:i * sz + o < cs.length:=by
     rw [q5,q3.1]
     calc i * sz + o < i * sz + sz:=by omega
      _=(i + 1) * sz:=by rw [aF2,aGm]
      _<=n * sz:=aFu _ q2
    have hjM:∀ b,own ρ (ρ l) (.abs [s,j] (eN e sz o e2 sz2 i n2 cs)) b->cx.w0.heap.size<=b\/cx.M b:=qM
    refine⟨n,us,vs2,q1,hrN,q3,by simp [vs2,q4],by rw [aHg]; exact q5,fun b hb=>hjM b (ownA b (.inl hb)),fun m' c' u b1 b2 b3=>?_,fun m' u b1 _=>?_,fun m1 m2 u1 u2 b b1 b2 _ _ b3 b4=>?_⟩
    ·rw [aF1 (fun e=>b3 (by rw [<- e]; exact hmod i))] at b1
     exact D3.mono (q6 m' c' u b1 b2 b3) hI
    ·rcases hvs m' u b1 with ⟨rfl,rfl⟩ | ⟨h2,h3⟩
     ·exact⟨q9,n2,us2,c2,aGk hilt,p2,p3.keep_ (fun _ _=>rfl) hI,fun b hb=>⟨pM b hb,fun h=>hnd b hb (.inl h)⟩⟩
     ·obtain⟨r0,n3,us3,c3,r1,r2,r3,r4⟩:=q7 m' u h3 h2
      have hd:i * sz + o≠m' * sz + o:=fun e=>h2 (aD6 hsz (aG7 e)).symm
      exact⟨r0,n3,us3,c3,by rw [aF1 hd]; exact r1,r2,r3.keep_ (fun _ _=>rfl) hI,fun b hb=>⟨hjM b (ownA b (.inr ⟨m',u,h3,h2,hb⟩)),r4 b hb⟩⟩
    ·rcases hvs m1 u1 b1 with ⟨rfl,rfl⟩ | ⟨h5,h6⟩
     ·rcases hvs m2 u2 b2 with ⟨rfl,rfl⟩ | ⟨h7,h8⟩
      ·rfl
      ·exact (hnd b b3 (.inr ⟨m2,u2,h8,h7,b4⟩)).elim
     ·rcases hvs m2 u2 b2 with ⟨rfl,rfl⟩ | ⟨h7,h8⟩
      ·exact (hnd b b4 (.inr ⟨m1,u1,h6,h5,b3⟩)).elim
      ·exact q8 m1 m2 u1 u2 b h6 h8 h5 h7 b3 b4
   ·trivial
   ·trivial
  ·rcases hlk l _ h1 with ⟨rfl,rfl⟩ | ⟨rfl,rfl⟩ | ⟨rfl,rfl⟩
   ·have h2:l'=N:=h2
    rw [h2]
    exact .inr (C3 (by simp))
   ·exact h2.elim
   ·exact h2.elim
  ·rcases hlk l _ h1 with ⟨rfl,rfl⟩ | ⟨rfl,rfl⟩ | ⟨rfl,rfl⟩
   ·rcases hownT b h3 with h | h
    ·exact ha.fresh l _ b hL hnk (ownA b h)
    ·exact ha.fresh j _ b hLj hnj h
   ·exact h3.elim
   ·exact h3.elim
end
end Go.Proofs.YtfanepojdefdpaaGreat
