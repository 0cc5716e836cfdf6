import Derived.Test.YtlfeokjhphpjeaaGreatEG
set_option linter.unusedVariables false
set_option linter.unusedSimpArgs false
namespace Go.Proofs.YtlfeokjhphpjeaaGreat
open Go.RowKit
mutual
def DpC (w:World) (I:Nat->Prop) (e:TypeId) (sz o:Nat):C->Value->List Nat->Prop
 | .sl sz' c2,u,bs=>sz'=sz/\∃ n us b1,w.rowOk e sz u n us/\DpL w I e sz o c2 0 us b1/\bs=(Cf u).toList ++ b1
 | .int _ _,_,_=>False
 | .bool _,_,_=>False
 | .str _,_,_=>False
 | .raw _,_,_=>False
 | .mp _,_,_=>False
def DpL (w:World) (I:Nat->Prop) (e:TypeId) (sz o:Nat):List C->Nat->List Value->List Nat->Prop
 | [],_,us,bs=>us=[]/\bs=[]
 | c :: cs,j,us,bs=>∃ u us' b1 b2,us=u :: us'/\((j % sz=o/\DpC w I e sz o c u b1)\/(j % sz≠o/\Dw w I c u/\b1=[]))/\DpL w I e sz o cs (j + 1) us' b2/\bs=b1 ++ b2
end
section
variable {w w':World} {I I':Nat->Prop} {e:TypeId} {sz o:Nat}
mutual
theorem DpC.step (hI:∀ b,I b->I' b/\w'.heap[b]?=w.heap[b]?):∀ (c:C) (u:Value) (bs:List Nat),(∀ b,b∈bs->w'.heap[b]?=w.heap[b]?)->DpC w I e sz o c u bs->DpC w' I' e sz o c u bs
 | .sl sz' c2,u,bs,hb,h=>by
  unfold DpC at *
  obtain⟨h1,n,us,b1,h2,h3,rfl⟩:=h
  exact⟨h1,n,us,b1,Gs h2 fun b h=>hb b (aBx _ (by rw [h]; exact List.mem_singleton.2 rfl)),DpL.step hI c2 0 us b1 (fun b h=>hb b (aB7 _ h)) h3,rfl⟩
 | .int _ _,_,_,_,h=>by unfold DpC at h; exact h.elim
 | .bool _,_,_,_,h=>by unfold DpC at h; exact h.elim
 | .str _,_,_,_,h=>by unfold DpC at h; exact h.elim
 | .raw _,_,_,_,h=>by unfold DpC at h; exact h.elim
 | .mp _,_,_,_,h=>by unfold DpC at h; exact h.elim
theorem DpL.step (hI:∀ b,I b->I' b/\w'.heap[b]?=w.heap[b]?):∀ (cs:List C) (j:Nat) (us:List Value) (bs:List Nat),(∀ b,b∈bs->w'.heap[b]?=w.heap[b]?)->DpL w I e sz o cs j us bs->DpL w' I' e sz o cs j us bs
 | [],_,_,_,_,h=>by unfold DpL at *; exact h
 | c :: cs,j,us,bs,hb,h=>by
  unfold DpL at *
  obtain⟨u,us',b1,b2,rfl,h1,h2,rfl⟩:=h
  refine⟨u,us',b1,b2,rfl,?_,DpL.step hI cs (j + 1) us' b2 (fun b h=>hb b (aB7 _ h)) h2,rfl⟩
  rcases h1 with ⟨h1,h3⟩ | ⟨h1,h3,h4⟩
  ·exact .inl ⟨h1,DpC.step hI c u b1 (fun b h=>hb b (aBx _ h)) h3⟩
  ·exact .inr ⟨h1,Dw.keep_ (fun b hb=>(hI b hb).2) (fun b hb=>(hI b hb).1) _ _ h3,h4⟩
end
mutual
theorem DpC.lt:∀ (c:C) (u:Value) (bs:List Nat),DpC w I e sz o c u bs->∀ b,b∈bs->b < w.heap.size
 | .sl sz' c2,u,bs,h,b,hb=>by
  unfold DpC at h
  obtain⟨h1,n,us,b1,h2,h3,rfl⟩:=h
  rcases aB9.1 hb with hb | hb
  ·exact If h2 (by simpa using hb)
  ·exact DpL.lt c2 0 us b1 h3 b hb
 | .int _ _,_,_,h,_,_=>by unfold DpC at h; exact h.elim
 | .bool _,_,_,h,_,_=>by unfold DpC at h; exact h.elim
 | .str _,_,_,h,_,_=>by unfold DpC at h; exact h.elim
 | .raw _,_,_,h,_,_=>by unfold DpC at h; exact h.elim
 | .mp _,_,_,h,_,_=>by unfold DpC at h; exact h.elim
theorem DpL.lt:∀ (cs:List C) (j:Nat) (us:List Value) (bs:List Nat),DpL w I e sz o cs j us bs->∀ b,b∈bs->b < w.heap.size
 | [],_,_,_,h,b,hb=>by unfold DpL at h; rw [h.2] at hb; cases hb
 | c :: cs,j,us,bs,h,b,hb=>by
  unfold DpL at h
  obtain⟨u,us',b1,b2,rfl,h1,h2,rfl⟩:=h
  rcases aB9.1 hb with hb | hb
  ·rcases h1 with ⟨h1,h3⟩ | ⟨h1,h3,h4⟩
   ·exact DpC.lt c u b1 h3 b hb
   ·rw [h4] at hb; cases hb
  ·exact DpL.lt cs (j + 1) us' b2 h2 b hb
end
mutual
theorem DpC.rd {J:Nat->Prop} (hI:∀ b,I b->J b):∀ (c:C) (u:Value) (bs:List Nat),(∀ b,b∈bs->J b)->DpC w I e sz o c u bs->Dw w J c u
 | .sl sz' c2,u,bs,hb,h=>by
  unfold DpC at h
  obtain⟨h1,n,us,b1,h2,h3,rfl⟩:=h
  rw [h1]
  exact Xm.cells h2 (DpL.rd hI c2 0 us b1 (fun b h=>hb b (aB7 _ h)) h3) (fun _ h=>h) fun b h=>hb b (aBx _ (by rw [h]; exact List.mem_singleton.2 rfl))
 | .int _ _,_,_,_,h=>by unfold DpC at h; exact h.elim
 | .bool _,_,_,_,h=>by unfold DpC at h; exact h.elim
 | .str _,_,_,_,h=>by unfold DpC at h; exact h.elim
 | .raw _,_,_,_,h=>by unfold DpC at h; exact h.elim
 | .mp _,_,_,_,h=>by unfold DpC at h; exact h.elim
theorem DpL.rd {J:Nat->Prop} (hI:∀ b,I b->J b):∀ (cs:List C) (j:Nat) (us:List Value) (bs:List Nat),(∀ b,b∈bs->J b)->DpL w I e sz o cs j us bs->Ev w J cs us
 | [],_,_,_,_,h=>by
  unfold DpL at h
  rw [h.1]
  exact⟨rfl,fun j c u h _=>by simp at h⟩
 | c :: cs,j,us,bs,hb,h=>by
  unfold DpL at h
  obtain⟨u,us',b1,b2,rfl,h1,h2,rfl⟩:=h
  have h3:=DpL.rd hI cs (j + 1) us' b2 (fun b h=>hb b (aB7 _ h)) h2
  refine⟨by simpa using h3.1,fun m c' u' a b=>?_⟩
  cases m with
  | zero=>
   simp at a b
   subst a b
   rcases h1 with ⟨h1,h4⟩ | ⟨h1,h4,-⟩
   ·exact DpC.rd hI c u b1 (fun b h=>hb b (aBx _ h)) h4
   ·exact h4.mono hI
  | succ m=>exact h3.2 m c' u' (by simpa using a) (by simpa using b)
end
theorem DpL.length:∀ {cs:List C} {j:Nat} {us:List Value} {bs:List Nat},DpL w I e sz o cs j us bs->cs.length=us.length
 | [],_,_,_,h=>by unfold DpL at h; rw [h.1]; rfl
 | c :: cs,j,us,bs,h=>by
  unfold DpL at h
  obtain⟨u,us',b1,b2,rfl,-,h2,-⟩:=h
  simp [DpL.length h2]
theorem DpL.append:∀ {cs cs':List C} {j:Nat} {us us':List Value} {bs bs':List Nat},DpL w I e sz o cs j us bs->DpL w I e sz o cs' (j + cs.length) us' bs'->DpL w I e sz o (cs ++ cs') j (us ++ us') (bs ++ bs')
 | [],cs',j,us,us',bs,bs',h,h'=>by
  unfold DpL at h
  rw [h.1,h.2]
  exact h'
 | c :: cs,cs',j,us,us',bs,bs',h,h'=>by
  unfold DpL at h
  obtain⟨u,us1,b1,b2,rfl,h1,h2,rfl⟩:=h
  rw [aB1,aB1,aB3]
  unfold DpL
  exact⟨u,_,b1,_,rfl,h1,DpL.append h2 (by rw [show j + 1 + cs.length=j + (c :: cs).length by simp; omega]; exact h'),rfl⟩
theorem DpL.shift {m:Nat} (hm:m % sz=0):∀ {cs:List C} {j:Nat} {us:List Value} {bs:List Nat},DpL w I e sz o cs j us bs->DpL w I e sz o cs (m + j) us bs
 | [],_,_,_,h=>by unfold DpL at *; exact h
 | c :: cs,j,us,bs,h=>by
  unfold DpL at *
  obtain⟨u,us1,b1,b2,rfl,h1,h2,rfl⟩:=h
  refine⟨u,us1,b1,b2,rfl,?_,by have:=DpL.shift hm h2; rwa [<- aDy] at this,rfl⟩
  rwa [show (m + j) % sz=j % sz by rw [Nat.add_mod,hm,aBj,Nat.mod_mod]]
theorem DpL.flat:∀ {cs:List C} {us:List Value} (j:Nat),Ev w I cs us->(∀ i,j<=i->i < j + cs.length->i % sz≠o)->DpL w I e sz o cs j us []
 | [],us,j,h,_=>by
  unfold DpL
  exact⟨List.eq_nil_of_length_eq_zero h.1.symm,rfl⟩
 | c :: cs,[],j,h,_=>by simpa using h.1
 | c :: cs,u :: us,j,h,hj=>by
  unfold DpL
  refine⟨u,us,[],[],rfl,.inr ⟨hj j (aBk _) (by simp),h.2 0 c u rfl rfl,rfl⟩,DpL.flat (j + 1) ⟨by simpa using h.1,fun i c' u' a b=>h.2 (i + 1) c' u' (by simpa using a) (by simpa using b)⟩ fun i h1 h2=>hj i (by omega) (by simp; omega),rfl⟩
theorem DpL.at_:∀ {cs:List C} {j:Nat} {us:List Value} {bs:List Nat},DpL w I e sz o cs j us bs->∀ {m:Nat} {c:C},cs[m]?=some c->∃ u b1,us[m]?=some u/\b1.Sublist bs/\(((j + m) % sz=o/\DpC w I e sz o c u b1)\/((j + m) % sz≠o/\Dw w I c u))
 | [],_,_,_,_,m,c,hc=>by simp at hc
 | c :: cs,j,us,bs,h,m,c',hc=>by
  unfold DpL at h
  obtain⟨u,us1,b1,b2,rfl,h1,h2,rfl⟩:=h
  cases m with
  | zero=>
   simp at hc
   subst hc
   refine⟨u,b1,rfl,List.sublist_append_left _ _,?_⟩
   rcases h1 with h1 | ⟨h1,h3,-⟩
   ·exact .inl h1
   ·exact .inr ⟨h1,h3⟩
  | succ m=>
   obtain⟨u2,b3,h3,h4,h5⟩:=DpL.at_ h2 (m:=m) (c:=c') (by simpa using hc)
   refine⟨u2,b3,by simpa using h3,h4.trans (List.sublist_append_right _ _),?_⟩
   rwa [show j + (m + 1)=j + 1 + m by omega]
theorem DpL.two:∀ {cs:List C} {j:Nat} {us:List Value} {bs:List Nat},DpL w I e sz o cs j us bs->∀ {m m':Nat} {c c':C},m < m'->cs[m]?=some c->cs[m']?=some c'->(j + m) % sz=o->(j + m') % sz=o->
  ∃ u u' b b',us[m]?=some u/\us[m']?=some u'/\DpC w I e sz o c u b/\DpC w I e sz o c' u' b'/\(b ++ b').Sublist bs
 | [],_,_,_,_,m,_,c,_,_,hc,_,_,_=>by simp at hc
 | c :: cs,j,us,bs,h,m,m',c1,c2,hlt,h1,h2,e1,e2=>by
  unfold DpL at h
  obtain⟨u,us1,b1,b2,rfl,h3,h4,rfl⟩:=h
  obtain⟨q,rfl⟩:∃ q,m'=q + 1:=⟨m' - 1,by omega⟩
  rw [List.getElem?_cons_succ] at h2
  rw [show j + (q + 1)=j + 1 + q by omega] at e2
  cases m with
  | zero=>
   simp at h1
   subst h1
   obtain⟨u2,b3,h5,h6,h7⟩:=DpL.at_ h4 h2
   rcases h3 with ⟨-,h3⟩ | ⟨h3,-⟩
   ·rcases h7 with ⟨-,h7⟩ | ⟨h7,-⟩
    ·exact⟨u,u2,b1,b3,rfl,by simpa using h5,h3,h7,List.Sublist.append (List.Sublist.refl _) h6⟩
    ·exact absurd e2 h7
   ·exact absurd e1 h3
  | succ m=>
   rw [List.getElem?_cons_succ] at h1
   obtain⟨u2,u3,b3,b4,h5,h6,h7,h8,h9⟩:=DpL.two h4 (m:=m) (m':=q) (by omega) h1 h2 (by rw [<- e1]; congr 1; omega) e2
   exact⟨u2,u3,b3,b4,by simpa using h5,by simpa using h6,h7,h8,h9.trans (List.sublist_append_right _ _)⟩
theorem DpC.one {c:C} {u:Value} {bs:List Nat} (h:DpC w I e sz o c u bs):u.oneCell'=true:=by
 cases c with
 | sl sz' c2=>
  unfold DpC at h
  obtain⟨-,n,us,b1,h,-,-⟩:=h
  rcases h.2 with ⟨A,h,-⟩ | ⟨g,cap,cur,h,-⟩ <;> rw [h] <;> rfl
 | _=>unfold DpC at h; exact h.elim
theorem DpL.one {cs:List C} {j:Nat} {us:List Value} {bs:List Nat} (h:DpL w I e sz o cs j us bs):∀ u∈us,u.oneCell'=true:=fun u hu=>by
 obtain⟨m,hm,rfl⟩:=aB6 hu
 have hl:=h.length
 obtain⟨u2,b1,h1,-,h2⟩:=h.at_ (m:=m) (c:=cs[m]'(by omega)) (List.getElem?_eq_getElem _)
 rw [List.getElem?_eq_getElem hm] at h1
 injection h1 with h1
 rw [h1]
 rcases h2 with ⟨-,h2⟩ | ⟨-,h2⟩
 ·exact h2.one
 ·exact Dw.one h2
end
section
variable {w:World} {I I':Nat->Prop} {e:TypeId} {sz o:Nat}
end
section
variable {P:Program} {cx:Cx} {ρ:Nat->Value} {σ:St} {a:Act} {w:World} {o:Oper} {K:Act->World->Prop} {Q:Exit->Act->World->Prop}
theorem Uk.eff {σ':St} {e:Ke} (hF:∀ t d,σ'.F t=some d->σ.F t=some d) (hL:∀ k,σ'.L k=match e.l k with | some x=>x | none=>σ.L k) (B:∀ k,σ.U k=true\/e.l k≠none->σ'.U k=true)
  (h:∀ a w ρ,Dn cx ρ σ a w->∃ ρ':Nat->Value,(∀ k,σ.U k=true->ρ' k=ρ k)/\
   (∀ k lb b,e.l k=some (some lb)->own ρ' (ρ' k) lb b->∃ k' lb',e.l k'≠none/\σ.L k'=some lb'/\own ρ (ρ k') lb' b)/\
   (∀ k k' lb lb' b,e.l k=some (some lb)->e.l k'=some (some lb')->own ρ' (ρ' k) lb b->own ρ' (ρ' k') lb' b->k=k')/\
   (∀ I':Nat->Prop,(∀ b,Jo cx σ ρ w b->I' b)->(∀ b,b < w.heap.size->(b < cx.w0.heap.size->cx.I b\/cx.G b)->(∃ k lb,e.l k≠none/\σ.L k=some lb/\own ρ (ρ k) lb b)->(∀ k lb,e.l k=some (some lb)->¬ own ρ' (ρ' k) lb b)->I' b)->∀ k lb,e.l k=some (some lb)->Qy cx ρ' I' w (ρ' k) lb)/\
   (∀ k lb k',e.l k=some (some lb)->M5 lb k'->σ.U k'=true\/e.l k'≠none)/\
   (∀ k lb b,e.l k=some (some lb)->cx.np<=k->own ρ' (ρ' k) lb b->cx.w0.heap.size<=b\/cx.G b)):Uk cx σ σ':=by
 rintro a w ⟨ρ,ha⟩
 obtain⟨ρ',h1,h2,h3,h4,h5,h6⟩:=h a w ρ ha
 have ho:∀ k lb b,σ.L k=some lb->own ρ' (ρ' k) lb b->own ρ (ρ k) lb b:=fun k lb b q1 q2=>by
  rw [h1 k (ha.usedL k lb q1).1] at q2
  exact Pr (fun j hj=>(h1 j ((ha.usedL k lb q1).2 j hj)).symm) q2
 have hA:=ha.app (dst:=none) (e:=⟨none,e.l⟩) (v:=undef) ha.kept (aBk _) (fun _ h=>by cases h) h1 (fun _ _ _=>rfl) (fun k lb b q1 q2=>.inr (h2 k lb b q1 q2)) h3 (fun hI hI2=>⟨h4 _ (fun b hb=>(hI b hb).1) fun b q1 q2 q3 q4=>⟨q1,?_,q2⟩,fun d hd=>by cases hd⟩) ⟨h5,fun d k' hd=>by cases hd⟩ h6
 ·obtain⟨F',L',U'⟩:=σ'
  have hL':L'=(σ.app none ⟨none,e.l⟩).L:=funext hL
  subst hL'
  refine⟨ρ',hA.defers,hA.size,hA.kept,fun t d hd=>hA.fr t d (hF t d hd),hA.lo,hA.sep,fun t d k hd hm=>B k (.inl (ha.usedF t d k (hF t d hd) hm)),fun k lb hl=>?_,fun k hk=>⟨(hA.pin k hk).1,B k (.inl (ha.pin k hk).2)⟩,hA.fresh⟩
  have:=hA.usedL k lb hl
  have cv:∀ j,(σ.app none ⟨none,e.l⟩).U j=true->U' j=true:=fun j hj=>B j (by
   simp only [St.app,aCg,Option.isSome_iff_ne_none] at hj
   exact hj)
  exact⟨cv k this.1,fun k' hk'=>cv k' (this.2 k' hk')⟩
 ·rintro⟨k,lb,q5,q6⟩
  cases hek:e.l k with
  | none=>
   have hl:σ.L k=some lb:=by simpa [St.app,hek] using q5
   obtain⟨k2,lb2,r1,r2,r3⟩:=q3
   have:=ha.sep k k2 lb lb2 b hl r2 (ho k lb b hl q6) r3
   subst this
   exact r1 hek
  | some x=>
   have hl:x=some lb:=by simpa [St.app,hek] using q5
   subst hl
   exact q4 k lb hek q6
end
theorem aBf {α:Type} {k:Nat} {x:α} {l:List (Nat×α)} {j:Nat}:E7 ((k,x) :: l) j=bif Nat.beq j k then some x else E7 l j:=rfl
theorem aA4 {α:Type} {j:Nat}:E7 ([]:List (Nat×α)) j=none:=rfl
theorem aAx {j k:Nat} (h:j≠k):Nat.beq j k=false:=by
 cases hb:Nat.beq j k with
 | false=>rfl
 | true=>exact absurd (Nat.eq_of_beq_eq_true hb) h
theorem aAw {k:Nat} {lb:LB}:∀ {ll:List (Nat×LB)} {j:Nat},E7 (aAz k lb ll) j=bif Nat.beq j k then (E7 ll k).map (fun _=>lb) else E7 ll j
 | [],j=>by unfold aAz E7; cases Nat.beq j k <;> rfl
 | (s,d) :: l,j=>by
  have ih:=aAw (k:=k) (lb:=lb) (ll:=l) (j:=j)
  unfold aAz
  cases hs:Nat.beq s k with
  | true=>
   have:=Nat.eq_of_beq_eq_true hs
   subst this
   simp only [cond_true]
   unfold E7
   rw [aC7]
   cases hj:Nat.beq j s with
   | true=>rfl
   | false=>rw [hj] at ih; simpa using ih
  | false=>
   simp only [cond_false]
   unfold E7
   cases hj:Nat.beq j s with
   | true=>
    have:=Nat.eq_of_beq_eq_true hj
    subst this
    rw [hs]
    rfl
   | false=>
    have hks:Nat.beq k s=false:=by
     cases h:Nat.beq k s with
     | false=>rfl
     | true=>rw [Nat.eq_of_beq_eq_true h,aC7] at hs; cases hs
    rw [hks]
    simpa using ih
section
variable {cx:Cx} {fl:List (Nat×DV)} {ll:List (Nat×LB)} {N:Nat}
theorem aA1 {k:Nat} (h:(mk fl ll N).U k=true):k < N:=Nat.le_of_ble_eq_true h
theorem DpC.split {w:World} {I:Nat->Prop} {e:TypeId} {sz o:Nat} {c:C} {u:Value} {bs:List Nat} (h:DpC w I e sz o c u bs):∃ c2 n us b2,c=.sl sz c2/\w.rowOk e sz u n us/\DpL w I e sz o c2 0 us b2/\bs=(Cf u).toList ++ b2:=by
 cases c with
 | sl sz' c2=>
  unfold DpC at h
  obtain⟨rfl,n,us,b1,h1,h2,h3⟩:=h
  exact⟨c2,n,us,b1,rfl,h1,h2,h3⟩
 | _=>unfold DpC at h; exact h.elim
end
end Go.Proofs.YtlfeokjhphpjeaaGreat
