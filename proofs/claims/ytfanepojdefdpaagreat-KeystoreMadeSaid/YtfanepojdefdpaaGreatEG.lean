import Derived.Test.YtfanepojdefdpaaGreatEH
set_option linter.unusedVariables false
set_option linter.unusedSimpArgs false
namespace Go.Proofs.YtfanepojdefdpaaGreat
open Go.RowKit
section
variable {P:Program} {np tk:Nat} {ty:TypeId} {env:Vq} {α:Type} {f:α->List C} {t e sz bytes:Nat}
theorem fL {j sz of o:Nat} (h:of < sz) (hne:of≠o) {p:Nat} (hp:p=j * sz + of):p % sz≠o:=by
 rw [hp,xW,zH,xC h]
 exact hne
theorem S3 {j sz of o m:Nat} (h:of + m<=sz) (hne:o < of\/of + m<=o) {p:Nat} (hp:p=j * sz + of):Tn sz o p m:=fun q h1 h2=>by
 have:q=j * sz + (q - j * sz):=by omega
 exact fL (of:=q - j * sz) (by omega) (by omega) this
theorem P2 {i:Nat}:(none:Option Nat)≠some i:=nofun
theorem iL {m a o e2 sz2 s e' kr:Nat} {hh:Option Nat} {X:Operand} {cs cs2:List C} (ht:Ty P t true m) (hf:Tn sz o a m) (h:(cs.drop a).take m=cs2) (hl:a + m<=cs.length):Ex P tk (.load t X) ty [(.ptr kr a,some (.tree e' sz o e2 sz2 s hh cs))] [] (v0 (.agg (cs2.map Qm))):=by
 subst h
 exact .loadTA ht hf hl
theorem bC (hf:∀ x,(f x).length=sz) {l:List α} {j o:Nat} {x x':α} {c:C} (hx:l[j]?=some x) (ho:o < sz) (hs:(f x).set o c=f x') {a:Nat} (ha:a=j * sz + o):(Al f l).set a c=Al f (Hf l j x'):=by
 have h:=H9 hf (x':=x') (cs:=[c]) hx (o:=o) (by show o + 1<=sz; omega) (by
  unfold B8
  rw [<- hs,yP,if_pos (by rw [hf]; exact ho)]
  simp) ha
 rw [<- h]
 have hl:=D3 hf hx ho ha
 unfold B8
 rw [yP,if_pos hl]
 simp
theorem Us {x y:Operand} {k p o e2 sz2 s z:Nat} {hh:Option Nat} {cs cs' cs1:List C} {ag:Bool} {d:DV} {b:Option LB} {ck:List (Option Nat)} (ht:Ty P t ag z) (hs:(B3 d).length=z) (hi:p + z<=cs.length) (hf:Tn sz o p z) (hd:Gs ck (B3 d) cs') (hk:k∈env.map (·.1)) (hE:B8 cs p cs'=cs1) :
  ExtR P np tk (.store t x y) ty [(.ptr k p,some (.tree e sz o e2 sz2 s hh cs)),(d,b)] env [k] (fun e'=>e'=Pj k (.tree e sz o e2 sz2 s hh cs1) none):=by
 subst hE
 exact .storeT ht hs hi hf hd hk
theorem hY {x y:Operand} {k s i p o e2 sz2 z:Nat} {cs cs' cs1 c2 c3:List C} {ag:Bool} {d:DV} {b:Option LB} {ck:List (Option Nat)} (ht:Ty P t ag z) (hc:cs[i * sz + o]?=some (.sl sz2 c2)) (hs:(B3 d).length=z) (hi:p + z<=c2.length) (hd:Gs ck (B3 d) cs') (hk:k∈env.map (·.1)) (h2:B8 c2 p cs'=c3) (hE:cs.set (i * sz + o) (.sl sz2 c3)=cs1) :
  ExtR P np tk (.store t x y) ty [(.npt k s i p,some (.tree e sz o e2 sz2 s none cs)),(d,b)] env [k] (fun e'=>e'=Pj k (.tree e sz o e2 sz2 s none cs1) none):=by
 subst hE h2
 exact .storeN ht hc hs hi hd hk
theorem pY {β:Type} {g:β->List C} {x y:Operand} {k s i o e2 sz2 kk:Nat} {cs c2 cs':List C} {d':DV×Option LB} {l l' l2:List β} (hS:Ht P t e2 sz2 bytes) (D:∀ x,(g x).length=sz2) (hc:cs[i * sz + o]?=some (.sl sz2 c2)) (hc2:c2=Al g l) (hs:U0 d' sz2 cs') (hc':cs'=Al g l') (h:Fk kk l l'=some l2) (hkk:sz2 * bytes=kk) (hk:k∈env.map (·.1)) (hnp:Nat.ble np k=true) :
  ExtR P np tk (.call ⟨.builtin .append,#[x,y],#[t,t]⟩) ty [(.nst k s i,some (.tree e sz o e2 sz2 s none cs)),d'] env [k] (fun e'=>e'=Qc [(tk,some (.row e2 sz2 (Al g l2))),(k,some (.tree e sz o e2 sz2 s (some i) cs))] (some (.row tk))):=by
 subst hc2 hc'
 obtain⟨h1,rfl⟩:=Q0 h
 rw [Ih]
 exact .appN hS hc hs (by rw [Es D,Es D,<- xM,Nat.mul_assoc,hkk]; exact h1) hk hnp
section
variable {X:Operand} {lo hi:Operand} {e' k s i o sz2:Nat} {hh:Option Nat} {cs:List C} {l m:List α} {a b:Int} {ka kb:IntKind} {b2 b3:Option LB}
end
theorem qU {x y:Operand} {k p s i o e2 sz2 j:Nat} {cs c2 cs1:List C} (ht:Ty P t false 1) (hp:p=i * sz + o) (hl:p < cs.length) (hk:k∈env.map (·.1)) (hj:j∈env.map (·.1)) (hnp:Nat.ble np k=true) (hnj:Nat.ble np j=true) (hE:cs.set p (.sl sz2 c2)=cs1) :
  ExtR P np tk (.store t x y) ty [(.ptr k p,some (.tree e sz o e2 sz2 s (some i) cs)),(.row j,some (.row e2 sz2 c2))] env [k,j] (fun e'=>e'=Qc [(k,some (.tree e sz o e2 sz2 tk none cs1)),(tk,some .gho),(j,none)] none):=by
 subst hE
 exact .stoH ht hp hl hk hj hnp hnj
theorem jJ {x:Operand} {d:DV} {b:Option LB} {o e2 sz2 j:Nat} {z:List Value} {r pre post:List DV} {ck1 ck2:List (Option Nat)} {c1 c2 c3 cs1:List C} (hS:Ht P t e sz bytes) (hz:Zt P e z) (hlen:1 * sz<=16777216) (hd:Gi (fun i=>some (i * sz,sz)) ((List.replicate 1 (z.map DV.val)).flatten) [(0,d)]=some r) (hoc:(B3 d).all Qw=true)
  (hr:r=pre ++ .row j :: post) (ho:pre.length=o) (h1:Gs ck1 pre c1) (h3:Gs ck2 post c3) (hj:(j,some (.row e2 sz2 c2))∈env) (hnp:Nat.ble np j=true) (hE:c1 ++ .sl sz2 c2 :: c3=cs1) :
  ExtR P np tk (.buildSlice t 1 #[(0,x)]) ty [(d,b)] env [j] (fun e'=>e'=Qc [(tk,some (.tree e sz o e2 sz2 (tk + 1) none cs1)),(tk + 1,some .gho),(j,none)] (some (.row tk))):=by
 subst hE
 exact .buildT hS hz hlen hd hoc hr ho h1 h3 hj hnp
theorem qN {x y:Operand} {k s k' s' o e2 sz2 kk:Nat} {l l' l2:List α} (hS:Ht P t e sz bytes) (hf:∀ x,(f x).length=sz) (hk:k∈env.map (·.1)) (hk':k'∈env.map (·.1)) (hne:Nat.beq k k'=false) (h:Fk kk l l'=some l2) (hkk:sz * bytes=kk) (hnp:Nat.ble np k=true) (hnp':Nat.ble np k'=true) :
  ExtR P np tk (.call ⟨.builtin .append,#[x,y],#[t,t]⟩) ty [(.row k,some (.tree e sz o e2 sz2 s none (Al f l))),(.row k',some (.tree e sz o e2 sz2 s' none (Al f l')))] env [k,k'] (fun e'=>e'=Qc [(tk,some (.tree e sz o e2 sz2 (tk + 1) none (Al f l2))),(tk + 1,some .gho),(k,none),(k',none)] (some (.row tk))):=by
 obtain⟨h1,rfl⟩:=Q0 h
 rw [Ih]
 exact .appT hS hk hk' hne (by rw [Es hf,Es hf,<- xM,Nat.mul_assoc,hkk]; exact h1) hnp hnp'
end
theorem uS {cx:Cx} {fl:List (Nat×DV)} {ll:List (Nat×LB)} {n:Nat} (t e sz o e2 sz2:Nat) (cs:List C) (hcs:cs=[]) (hF:D5 fl t=some (.val (.slice none 0 0))) (ho:o < sz) :
  O8 cx (mk fl ll n) (mk ((t,.row n) :: fl) ((n,.tree e sz o e2 sz2 (n + 1) none cs) :: (n + 1,.gho) :: ll) (n + 2)):=by
 rintro a w ⟨ρ,h⟩
 have B:∀ k,(mk fl ll n).U k=true->k < n:=fun k hk=>vP hk
 have hU':∀ k,k < n + 2->(mk ((t,.row n) :: fl) ((n,LB.tree e sz o e2 sz2 (n + 1) none cs) :: (n + 1,.gho) :: ll) (n + 2)).U k=true:=fun k hk=>yO hk
 let ρ':Nat->Value:=fun m=>if m=n then .slice none 0 0 else if m=n + 1 then .tuple #[] else ρ m
 have e1:ρ' n=.slice none 0 0:=if_pos rfl
 have e2':ρ' (n + 1)=.tuple #[]:=by
  show (if n + 1=n then _ else _)=_
  rw [if_neg (by omega),if_pos rfl]
 have hro:∀ m,m < n->ρ' m=ρ m:=fun m hm=>by
  show (if m=n then _ else if m=n + 1 then _ else _)=_
  rw [if_neg (by omega),if_neg (by omega)]
 have hF':∀ t' d,(mk ((t,.row n) :: fl) ((n,LB.tree e sz o e2 sz2 (n + 1) none cs) :: (n + 1,.gho) :: ll) (n + 2)).F t'=some d->(t'=t/\d=.row n)\/(mk fl ll n).F t'=some d:=fun t' d hd=>by
  have hd:D5 ((t,DV.row n) :: fl) t'=some d:=hd
  unfold D5 at hd
  cases hb:Nat.beq t' t with
  | true=>
   rw [hb] at hd
   injection hd with hd
   exact .inl ⟨vS hb,hd.symm⟩
  | false=>rw [hb] at hd; exact .inr hd
 have hL':∀ k lb,(mk ((t,.row n) :: fl) ((n,LB.tree e sz o e2 sz2 (n + 1) none cs) :: (n + 1,.gho) :: ll) (n + 2)).L k=some lb->(k=n/\lb=.tree e sz o e2 sz2 (n + 1) none cs)\/(k=n + 1/\lb=.gho)\/(mk fl ll n).L k=some lb:=fun k lb hd=>by
  have hd:D5 ((n,LB.tree e sz o e2 sz2 (n + 1) none cs) :: (n + 1,.gho) :: ll) k=some lb:=hd
  unfold D5 at hd
  cases hb:Nat.beq k n with
  | true=>
   rw [hb] at hd
   injection hd with hd
   exact .inl ⟨vS hb,hd.symm⟩
  | false=>
   rw [hb] at hd
   simp only [vQ] at hd
   unfold D5 at hd
   cases hb2:Nat.beq k (n + 1) with
   | true=>
    rw [hb2] at hd
    injection hd with hd
    exact .inr (.inl ⟨vS hb2,hd.symm⟩)
   | false=>rw [hb2] at hd; exact .inr (.inr hd)
 have hnt:∀ b,¬ Gu ρ' (ρ' n) (.tree e sz o e2 sz2 (n + 1) none cs) b:=fun b hb=>by
  rcases hb with hb | ⟨vs,i,u,a1,a2,-⟩
  ·rw [e1] at hb; cases hb
  ·rw [e2'] at a1
   injection a1 with a1
   subst a1
   simp at a2
 have hold:∀ k lb b,(mk fl ll n).L k=some lb->Gu ρ' (ρ' k) lb b->Gu ρ (ρ k) lb b:=fun k lb b h1 h2=>by
  have hu:=h.usedL k lb h1
  rw [hro k (B k hu.1)] at h2
  exact M9 (fun j hj=>(hro j (B j (hu.2 j hj))).symm) h2
 have hloc:∀ b,mM (mk ((t,.row n) :: fl) ((n,LB.tree e sz o e2 sz2 (n + 1) none cs) :: (n + 1,.gho) :: ll) (n + 2)) ρ' b->mM (mk fl ll n) ρ b:=by
  rintro b ⟨k,lb,h1,h2⟩
  rcases hL' k lb h1 with ⟨rfl,rfl⟩ | ⟨rfl,rfl⟩ | h3
  ·exact (hnt b h2).elim
  ·exact h2.elim
  ·exact⟨k,lb,h3,hold k lb b h3 h2⟩
 have hI:∀ b,H2 cx (mk fl ll n) ρ w b->H2 cx (mk ((t,.row n) :: fl) ((n,LB.tree e sz o e2 sz2 (n + 1) none cs) :: (n + 1,.gho) :: ll) (n + 2)) ρ' w b/\w.heap[b]?=w.heap[b]?:=fun b hb=>⟨⟨hb.1,fun hl=>hb.2.1 (hloc b hl),hb.2.2⟩,rfl⟩
 refine⟨ρ',⟨h.defers,h.size,h.kept,fun t' d hd=>?_,fun k lb hl=>?_,fun k k' lb lb' b h1 h2 h3 h4=>?_,fun t' d k hd hm=>?_,fun k lb hl=>?_,fun k hk=>?_,fun k lb b hl hk hb=>?_⟩⟩
 ·rcases hF' t' d hd with ⟨rfl,rfl⟩ | h1
  ·have h2:=h.fr t' _ hF
   unfold B1 at h2 ⊢
   rw [e1]
   exact⟨h2.1,rfl⟩
  ·exact B1.step hI d _ (fun k hk=>hro k (B k (h.usedF t' d k h1 hk))) (h.fr t' d h1)
 ·rcases hL' k lb hl with ⟨rfl,rfl⟩ | ⟨rfl,rfl⟩ | h1
  ·rw [e1]
   subst hcs
   exact⟨0,[],#[],ho,e2',World.rowOk_nil _ _ _ _,rfl,rfl,fun b hb=>(by cases hb),fun j c u a1=>(by simp at a1),fun i u a1=>(by simp at a1),fun i j u u' b a1=>(by simp at a1)⟩
  ·trivial
  ·have hu:=h.usedL k lb h1
   rw [hro k (B k hu.1)]
   exact (h.lo k lb h1).step hI (fun j hj=>hro j (B j (hu.2 j hj))) fun b _=>rfl
 ·rcases hL' k lb h1 with ⟨rfl,rfl⟩ | ⟨rfl,rfl⟩ | h5
  ·exact (hnt b h3).elim
  ·exact h3.elim
  ·rcases hL' k' lb' h2 with ⟨rfl,rfl⟩ | ⟨rfl,rfl⟩ | h6
   ·exact (hnt b h4).elim
   ·exact h4.elim
   ·exact h.sep k k' lb lb' b h5 h6 (hold k lb b h5 h3) (hold k' lb' b h6 h4)
 ·rcases hF' t' d hd with ⟨rfl,rfl⟩ | h1
  ·unfold men at hm
   exact hU' k (by omega)
  ·exact hU' k (by have:=B k (h.usedF t' d k h1 hm); omega)
 ·rcases hL' k lb hl with ⟨rfl,rfl⟩ | ⟨rfl,rfl⟩ | h1
  ·exact⟨hU' k (by omega),fun k' hk'=>by have hk':k'=k + 1:=hk'; exact hU' k' (by omega)⟩
  ·exact⟨hU' _ (by omega),fun k' hk'=>hk'.elim⟩
  ·have hu:=h.usedL k lb h1
   exact⟨hU' k (by have:=B k hu.1; omega),fun k' hk'=>hU' k' (by have:=B k' (hu.2 k' hk'); omega)⟩
 ·have hp:=h.pin k hk
  have:=B k hp.2
  exact⟨(hro k this).trans hp.1,hU' k (by omega)⟩
 ·rcases hL' k lb hl with ⟨rfl,rfl⟩ | ⟨rfl,rfl⟩ | h1
  ·exact (hnt b hb).elim
  ·exact hb.elim
  ·exact h.fresh k lb b h1 hk (hold k lb b h1 hb)
section
variable {cx:Cx} {σ σ':St}
theorem O8.thaw {k e sz o e2 sz2 s:Nat} {cs:List C} (hk:cx.np<=k) (hL:σ.L k=some (.tree e sz o e2 sz2 s none cs)) (hF:∀ t d,σ'.F t=some d->σ.F t=some d) (hL':∀ j lb,σ'.L j=some lb->(j=k/\lb=.row e sz cs)\/(j≠k/\σ.L j=some lb)) (B:σ'.U=σ.U):O8 cx σ σ':=by
 rintro a w ⟨ρ,h⟩
 obtain⟨n,us,vs,q⟩:=h.lo k _ hL
 have hloc:∀ b,mM σ' ρ b->mM σ ρ b:=by
  rintro b ⟨j,lb,h1,h2⟩
  rcases hL' j lb h1 with ⟨rfl,rfl⟩ | ⟨-,h3⟩
  ·exact⟨j,_,hL,.inl h2⟩
  ·exact⟨j,lb,h3,h2⟩
 have hI:∀ b,H2 cx σ ρ w b->H2 cx σ' ρ w b:=fun b hb=>⟨hb.1,fun hl=>hb.2.1 (hloc b hl),hb.2.2⟩
 have hnst:∀ i u b,vs[i]?=some u->B7 u=some b->H2 cx σ' ρ w b:=fun i u b h1 h2=>by
  obtain⟨-,n2,us2,c2,-,q2,-,q4⟩:=q.nest i u h1 (by simp)
  have hown:Gu ρ (ρ k) (.tree e sz o e2 sz2 s none cs) b:=.inr ⟨vs,i,u,q.hs,h1,by simp,h2⟩
  refine⟨G2 q2 h2,?_,fun hlt=>?_⟩
  ·rintro⟨j,lb,h3,h4⟩
   rcases hL' j lb h3 with ⟨rfl,rfl⟩ | ⟨h5,h6⟩
   ·exact (q4 b h2).2 h4
   ·exact h5 (h.sep j k _ _ b h6 hL h4 hown)
  ·rcases h.fresh k _ b hL hk hown with h5 | h5
   ·omega
   ·exact .inr h5
 refine⟨ρ,h.defers,h.size,h.kept,fun t d hd=>?_,fun j lb hj=>?_,fun j j' lb lb' b h1 h2 h3 h4=>?_,fun t d j hd hm=>?_,fun j lb hj=>?_,fun j hj=>?_,fun j lb b h1 h2 h3=>?_⟩
 ·exact B1.step (fun b hb=>⟨hI b hb,rfl⟩) d _ (fun _ _=>rfl) (h.fr t d (hF t d hd))
 ·rcases hL' j lb hj with ⟨rfl,rfl⟩ | ⟨-,h3⟩
  ·refine⟨n,us,q.row,q.hM,q.hl,fun jj c u hc hu=>?_⟩
   by_cases hjo:jj % sz=o
   ·have hz:0 < sz:=xQ (wV _) q.ho
    have hd:jj / sz * sz + o=jj:=by rw [<- hjo,xW]; exact aAm jj sz
    have hi:jj / sz < vs.size:=by
     rw [q.hn]
     exact (zG hz).2 (by rw [<- q.row.1]; exact (vM.1 hu).1)
    obtain⟨q0,n2,us2,c2,q1,q2,q3,-⟩:=q.nest (jj / sz) _ (wQ hi) (by simp)
    rw [hd,hu] at q0
    rw [hd,hc] at q1
    injection q0 with q0
    injection q1 with q1
    rw [q1,q0]
    exact V1.cells q2 q3 hI fun b hb=>hnst _ _ b (wQ hi) hb
   ·exact Do.mono (q.flat jj c u hc hu hjo) hI
  ·exact (h.lo j lb h3).step (fun b hb=>⟨hI b hb,rfl⟩) (fun _ _=>rfl) fun _ _=>rfl
 ·have w1:∀ j lb,σ'.L j=some lb->Gu ρ (ρ j) lb b->∃ lb1,σ.L j=some lb1/\Gu ρ (ρ j) lb1 b:=fun j lb h5 h6=>by
   rcases hL' j lb h5 with ⟨rfl,rfl⟩ | ⟨-,h7⟩
   ·exact⟨_,hL,.inl h6⟩
   ·exact⟨_,h7,h6⟩
  obtain⟨l1,a1,a2⟩:=w1 j lb h1 h3
  obtain⟨l2,a3,a4⟩:=w1 j' lb' h2 h4
  exact h.sep j j' l1 l2 b a1 a3 a2 a4
 ·rw [B]; exact h.usedF t d j (hF t d hd) hm
 ·rw [B]
  rcases hL' j lb hj with ⟨rfl,rfl⟩ | ⟨-,h3⟩
  ·exact⟨(h.usedL _ _ hL).1,fun k' hk'=>hk'.elim⟩
  ·exact h.usedL j lb h3
 ·rw [B]; exact h.pin j hj
 ·rcases hL' j lb h1 with ⟨rfl,rfl⟩ | ⟨-,h4⟩
  ·exact h.fresh j _ b hL h2 (.inl h3)
  ·exact h.fresh j lb b h4 h2 h3
end
theorem tI {cx:Cx} {fl:List (Nat×DV)} {ll:List (Nat×LB)} {N:Nat} (k:Nat) {e sz o e2 sz2 s:Nat} {cs:List C} (hL:D5 ll k=some (.tree e sz o e2 sz2 s none cs)) (hk:Nat.ble cx.np k=true):O8 cx (mk fl ll N) (mk fl (cL k (.row e sz cs) ll) N):=by
 refine O8.thaw (vP hk) hL (fun _ _ h=>h) (fun j lb hj=>?_) rfl
 exact Rb hj
end Go.Proofs.YtfanepojdefdpaaGreat
