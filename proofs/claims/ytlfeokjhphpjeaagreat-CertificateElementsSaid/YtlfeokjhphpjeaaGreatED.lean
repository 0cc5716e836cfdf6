import Derived.Test.YtlfeokjhphpjeaaGreatEX
import Derived.Laws.Cover3
import Derived.IntWalk
import Derived.Laws.StructEq
set_option linter.unusedVariables false
set_option linter.unusedSimpArgs false
namespace Go.Proofs.YtlfeokjhphpjeaaGreat
open Go.RowKit
def I5:List C->Prop
 | []=>True
 | .int k n :: l=>(k.min<=n/\n<=k.max)/\I5 l
 | .bool _ :: l=>I5 l
 | .str s :: l=>s.size<=maxLen/\I5 l
 | .raw _ :: l=>I5 l
 | .mp _ :: l=>I5 l
 | .sl sz cs :: l=>(∃ n,cs.length=n * sz/\n<=maxLen)/\I5 cs/\I5 l
mutual
theorem Dw.ok {w:World} {S:Nat->Prop}:∀ (c:C) (v:Value),Dw w S c v->I5 [c]
 | .int k n,v,h=>by unfold I5; unfold Dw at h; exact⟨h.2,by unfold I5; trivial⟩
 | .bool _,_,_=>by unfold I5; unfold I5; trivial
 | .str s,v,h=>by unfold I5; unfold Dw at h; exact⟨h.2,by unfold I5; trivial⟩
 | .raw _,_,_=>by unfold I5; unfold I5; trivial
 | .mp _,_,_=>by unfold I5; unfold I5; trivial
 | .sl sz cs,v,h=>by
  unfold I5
  unfold Dw at h
  obtain⟨A,n,cap,h1,h2,h3,h4,h5⟩:=h
  refine⟨⟨n,h2,aBo h3 h4⟩,?_,by unfold I5; trivial⟩
  rcases Nat.eq_zero_or_pos n with h0 | h0
  ·subst h0
   have:cs=[]:=List.eq_nil_of_length_eq_zero (by simpa using h2)
   subst this
   unfold I5; trivial
  ·obtain⟨ad,-,-,h8⟩:=h5 h0
   exact Ii.ok ad cs 0 h8
theorem Ii.ok {w:World} {S:Nat->Prop} (ad:Addr):∀ (cs:List C) (i:Nat),Ii w S ad i cs->I5 cs
 | [],_,_=>by unfold I5; trivial
 | c :: cs,i,h=>by
  unfold Ii at h
  obtain⟨⟨u,_,h1⟩,h2⟩:=h
  have a:=Dw.ok c u h1
  have b:=Ii.ok ad cs (i + 1) h2
  cases c <;> unfold I5 at a ⊢ <;> first | exact⟨a.1,b⟩ | exact b | exact⟨a.1,a.2.1,b⟩
end
theorem hO {w:World} {S:Nat->Prop}:∀ {cs:List C} {us:List Value},Ev w S cs us->I5 cs
 | [],_,_=>by unfold I5; trivial
 | c :: cs,[],h=>by have:=h.1; simp at this
 | c :: cs,u :: us,h=>by
  have a:=Dw.ok c u (h.2 0 c u rfl rfl)
  have b:=hO (cs:=cs) (us:=us) ⟨by simpa using h.1,fun j c' u' x y=>h.2 (j + 1) c' u' (by simpa using x) (by simpa using y)⟩
  cases c <;> unfold I5 at a ⊢ <;> first | exact⟨a.1,b⟩ | exact b | exact⟨a.1,a.2.1,b⟩
mutual
def cH:DV->Prop
 | .sl sz cs=>(∃ n,cs.length=n * sz/\n<=maxLen)/\I5 cs
 | .slc sz cs=>(∃ n,cs.length=n * sz/\n<=maxLen)/\I5 cs
 | .mp _=>True
 | .elt cs=>I5 cs
 | .agg ds=>cS ds
 | .tup ds=>cS ds
 | .clo _ _ _=>True
 | .val _=>True
 | .row _=>True
 | .part _ _ _=>True
 | .ptr _ _=>True
 | .nst _ _ _=>True
 | .npt _ _ _ _=>True
 | .npr _ _ _ _ _=>True
 | .qpt _ _=>True
def cS:List DV->Prop
 | []=>True
 | d :: ds=>cH d/\cS ds
end
def okB:LB->Prop
 | .box ds _=>cS ds
 | .row _ sz cs=>(∃ n,cs.length=n * sz/\n<=maxLen)/\I5 cs
 | .map _=>True
 | .mit ..=>True
 | .vec ds _=>cS ds
 | .tree ..=>True
 | .gho=>True
 | .abs ..=>True
 | .que ..=>True
mutual
theorem B5.ok {ρ:Nat->Value} {I:Nat->Prop} {w:World}:∀ (d:DV) (v:Value),B5 ρ I w d v->cH d
 | .val _,_,_=>by unfold cH; trivial
 | .sl sz cs,v,h=>by
  unfold B5 at h
  have:=Dw.ok _ _ h
  unfold I5 at this
  unfold cH
  exact⟨this.1,this.2.1⟩
 | .mp _,_,_=>by unfold cH; trivial
 | .slc sz cs,v,h=>by
  unfold B5 at h
  have:=Dw.ok _ _ h.1
  unfold I5 at this
  unfold cH
  exact⟨this.1,this.2.1⟩
 | .row _,_,_=>by unfold cH; trivial
 | .part _ _ _,_,_=>by unfold cH; trivial
 | .ptr _ _,_,_=>by unfold cH; trivial
 | .nst _ _ _,_,_=>by unfold cH; trivial
 | .npt _ _ _ _,_,_=>by unfold cH; trivial
 | .npr _ _ _ _ _,_,_=>by unfold cH; trivial
 | .qpt _ _,_,_=>by unfold cH; trivial
 | .elt cs,v,h=>by
  unfold B5 at h
  obtain⟨ad,-,-,h⟩:=h
  unfold cH
  exact Ii.ok ad cs 0 h
 | .agg ds,v,h=>by
  unfold B5 at h
  obtain⟨vs,-,-,h⟩:=h
  unfold cH
  exact Bj.ok ds vs h
 | .clo _ _ _,_,_=>by unfold cH; trivial
 | .tup ds,v,h=>by
  unfold B5 at h
  obtain⟨vs,-,h⟩:=h
  unfold cH
  exact Bj.ok ds vs h
theorem Bj.ok {ρ:Nat->Value} {I:Nat->Prop} {w:World}:∀ (ds:List DV) (vs:List Value),Bj ρ I w ds vs->cS ds
 | [],_,_=>by unfold cS; trivial
 | d :: ds,vs,h=>by
  unfold Bj at h
  obtain⟨u,us,-,h1,h2⟩:=h
  unfold cS
  exact⟨B5.ok d u h1,Bj.ok ds us h2⟩
end
theorem Qy.ok {cx:Cx} {ρ:Nat->Value} {I:Nat->Prop} {w:World} {v:Value} {lb:LB} (h:Qy cx ρ I w v lb):okB lb:=by
 cases lb with
 | box ds ty=>
  obtain⟨b,vs,-,-,-,-,h5⟩:=h
  exact Bj.ok ds vs h5
 | row e sz cs=>
  obtain⟨n,us,ho,-,hr⟩:=h
  refine⟨⟨n,by rw [hr.1,ho.1],?_⟩,hO hr⟩
  rcases ho.2 with ⟨-,-,rfl⟩ | ⟨g,cap,cur,-,-,-,h2,h3,-⟩
  ·exact aBt _
  ·exact aBo h2 h3
 | map l=>trivial
 | mit k n s=>trivial
 | tree=>trivial
 | gho=>trivial
 | abs=>trivial
 | que=>trivial
 | vec ds e=>
  obtain⟨b,vs,-,-,-,-,-,h5⟩:=h
  exact Bj.ok ds vs h5
def aE (P:Program) (f:FuncId):Prop:=∀ (vs:Array Value) (w:World),(callFunc f vs).run P w=.ok (.enter f vs) w
theorem aE.of {P:Program} {f:FuncId} {fn:Func} (hf:P.funcs[f]?=some fn) (hn:(fn.name == "runtime.NumGoroutine")=false) (hb:fn.body.isNone=false):aE P f:=by
 intro vs w
 simp only [callFunc,Sem.run_bind,run_program,Result.andThen_ok,hf,hn,hb,aDg,if_false,Sem.run_pure]
def ix:Nat->List LB->List (Nat×LB)
 | _,[]=>[]
 | k,x :: l=>(k,x) :: ix (k + 1) l
theorem gO:∀ {l:List LB} {k i:Nat},E7 (ix k l) (k + i)=l[i]?
 | [],k,i=>by simp [ix,E7]
 | x :: l,k,0=>by simp [ix,E7]
 | x :: l,k,i + 1=>by
  unfold ix E7
  have:Nat.beq (k + (i + 1)) k=false:=by
   cases h:Nat.beq (k + (i + 1)) k with
   | false=>rfl
   | true=>have:=Nat.eq_of_beq_eq_true h; omega
  rw [this]
  simp only [cond_false]
  rw [show k + (i + 1)=(k + 1) + i by omega,gO]
  simp
theorem oL {l:List LB} {k:Nat} {lb:LB}:E7 (ix 0 l) k=some lb↔l[k]?=some lb:=by
 have:=gO (l:=l) (k:=0) (i:=k)
 rw [aBj] at this
 rw [this]
def zD:LB->Bool
 | .tree ..=>false
 | .abs ..=>false
 | _=>true
theorem gT {ρ:Nat->Value} {v:Value} {lb:LB} {b:Nat} (h:zD lb=true) (ho:own ρ v lb b):Cf v=some b:=by
 cases lb with
 | tree=>cases h
 | abs=>cases h
 | gho=>exact ho.elim
 | _=>exact ho
structure xC (ρ:Nat->Value) (I:Nat->Prop) (w:World) (np nq:Nat) (v:Value) (r:DV) (bx:List LB) (w':World):Prop where
 le:np<=bx.length/\bx.length<=np + 8
 os:w'.os=w.os/\w'.tape=w.tape/\w'.output=w.output/\w.heap.size<=w'.heap.size
 kept:∀ b,b < w.heap.size->(∀ k,k < nq->Cf (ρ k)≠some b)->w'.heap[b]?=w.heap[b]?
 data:∃ (ρ':Nat->Value) (J:Nat->Prop),(∀ k,k < np->ρ' k=ρ k)/\(∀ b,J b->b < w'.heap.size/\(b < w.heap.size->I b\/∃ k,np<=k/\k < nq/\Cf (ρ k)=some b)/\∀ k lb,bx[k]?=some lb->¬ own ρ' (ρ' k) lb b)/\B5 ρ' J w' r v/\
  (∀ (k:Nat) (lb:LB),bx[k]?=some lb->Qy ⟨w,I,ρ,np,nq,0⟩ ρ' J w' (ρ' k) lb)/\(∀ k lb b,np<=k->bx[k]?=some lb->own ρ' (ρ' k) lb b->w.heap.size<=b\/∃ k,np<=k/\k < nq/\Cf (ρ k)=some b)/\
  (∀ k k' lb lb' b,bx[k]?=some lb->bx[k']?=some lb'->own ρ' (ρ' k) lb b->own ρ' (ρ' k') lb' b->k=k')
 men:(∀ k,Go.Proofs.YtlfeokjhphpjeaaGreat.men r k->k < bx.length)/\∀ (k:Nat) (lb:LB),bx[k]?=some lb->∀ k',M5 lb k'->k' < bx.length
 nt:∀ (k:Nat) (lb:LB),k < np->bx[k]?=some lb->zD lb=true
def fO (ρ:Nat->Value) (I:Nat->Prop) (w:World) (v:Value):LB->Prop
 | .box ds ty=>∃ b vs,v=.pointer (some ⟨b,0,none⟩)/\w.heap[b]?=some (.cells vs.toArray ty)/\(∀ u∈vs,u.oneCell'=true)/\Bj ρ I w ds vs
 | .row e sz cs=>∃ n us,w.rowOk e sz v n us/\Ev w I cs us
 | .que e sz cs=>∃ n us,w.queOk e sz v n us/\Ev w I cs us
 | _=>False
theorem fO.own {ρ:Nat->Value} {I:Nat->Prop} {w:World} {v:Value} {lb:LB} {b:Nat} (h:fO ρ I w v lb) (ho:Go.Proofs.YtlfeokjhphpjeaaGreat.own ρ v lb b):Cf v=some b:=by
 cases lb with
 | box ds ty=>exact ho
 | row e sz cs=>exact ho
 | que e sz cs=>exact ho
 | _=>exact h.elim
def Fn (P:Program) (f:FuncId) (np:Nat) (args:List DV) (bx:List LB) (R:DV->List LB->Prop):Prop:=
 np<=bx.length/\aE P f/\∀ (ρ:Nat->Value) (I:Nat->Prop) (w:World) (vs:List Value),
  (∀ b,I b->b < w.heap.size/\∀ k,k < bx.length->Cf (ρ k)≠some b)->Bj ρ I w args vs->(∀ k lb,bx[k]?=some lb->fO ρ I w (ρ k) lb)->
  (∀ k k' b,k < bx.length->k' < bx.length->Cf (ρ k)=some b->Cf (ρ k')=some b->k=k')->
  Calls P f vs.toArray w fun e w'=>∃ v r bx',e=.returned v/\R r bx'/\xC ρ I w np bx.length v r bx' w'
theorem Fn.mono {P:Program} {f np:Nat} {args:List DV} {bx:List LB} {R R':DV->List LB->Prop} (h:Fn P f np args bx R) (hr:∀ r b,R r b->R' r b):Fn P f np args bx R':=
 ⟨h.1,h.2.1,fun ρ I w vs a b c d=>(h.2.2 ρ I w vs a b c d).mono (by rintro e w' ⟨v,r,bx',h1,h2,h3⟩; exact⟨v,r,bx',h1,hr r bx' h2,h3⟩)⟩
inductive jI (P:Program) (σ:St):ResultVar->DV->Prop
 | tmp {t d} (h:σ.F t=some d):jI P σ (.tmp t) d
 | cell1 {t ty k ds bt sz d} (h:σ.F t=some (.ptr k 0)) (hl:σ.L k=some (.box ds bt)) (ht:Ty P ty false sz) (hd:ds[0]?=some d):jI P σ (.cell t ty) d
 | cellA {t ty k ds bt sz} (h:σ.F t=some (.ptr k 0)) (hl:σ.L k=some (.box ds bt)) (ht:Ty P ty true sz) (hs:ds.length=sz):jI P σ (.cell t ty) (.agg ds)
inductive Om (P:Program) (σ:St):List ResultVar->List DV->Prop
 | nil:Om P σ [] []
 | cons {x d l ds} (h:jI P σ x d) (hs:Om P σ l ds):Om P σ (x :: l) (d :: ds)
def mB:List DV->DV
 | [d]=>d
 | ds=>.tup ds
def Z9:Nat->List DV->List (Nat×DV)
 | _,[]=>[]
 | k,d :: l=>(k,d) :: Z9 (k + 1) l
section
variable {P:Program} {cx:Cx} {ρ:Nat->Value} {σ:St} {a:Act} {w:World}
theorem jI.run (ha:Dn cx ρ σ a w) {x:ResultVar} {d:DV} (h:jI P σ x d):∃ v,(match x with | .tmp t=>(pure (a.tmps.getD t undef):Sem Value) | .cell b t=>do loadVar t (<- asAddr (a.tmps.getD b undef))).run P w=.ok v w/\B5 ρ (Jo cx σ ρ w) w d v/\∀ k,men d k->σ.U k=true:=by
 cases h with
 | tmp h=>exact⟨_,rfl,ha.fr _ _ h,fun k hk=>ha.usedF _ _ k h hk⟩
 | cell1 h hl ht hd=>
  have h1:=ha.fr _ _ h
  unfold B5 at h1
  obtain⟨g,D,hv⟩:=h1
  obtain⟨g',vs,q1,q2,-,q4,q5⟩:=ha.lo _ _ hl
  rw [q1] at D
  injection D with D
  subst D
  obtain⟨v,hv',hd'⟩:=q5.at_ hd
  have hc:w.cell? ⟨g',0,none⟩=some v:=by simp [World.cell?,q2,hv']
  refine⟨v,?_,hd',fun k hk=>(ha.usedL _ _ hl).2 k (by unfold M5; exact Lj.menL_at hd hk)⟩
  have:=M4 (w:=w) ht hc
  simp only [Instr.loadAt,Instr.sureAddr,Sem.run_bind,Sem.run_pure,Result.andThen_ok] at this
  simp only [hv,asAddr,Sem.run_bind,Sem.run_pure,Result.andThen_ok,this]
 | @cellA t ty k ds bt sz h hl ht hs=>
  have h1:=ha.fr _ _ h
  unfold B5 at h1
  obtain⟨g,D,hv⟩:=h1
  obtain⟨g',vs,q1,q2,-,q4,q5⟩:=ha.lo _ _ hl
  rw [q1] at D
  injection D with D
  subst D
  refine⟨.agg vs.toArray,?_,by unfold B5; exact⟨vs,rfl,q4,q5⟩,fun k hk=>(ha.usedL _ _ hl).2 k (by unfold M5; unfold men at hk; exact hk)⟩
  have:=Sz (w:=w) ht (ad:=⟨g',0,none⟩) (vs:=vs) (by rw [<- q5.length]; exact hs) (fun j v hj=>by rw [Jt,aBj]; simp [World.cell?,q2,hj])
  simp only [Instr.loadAt,Instr.sureAddr,Sem.run_bind,Sem.run_pure,Result.andThen_ok] at this
  simp only [hv,asAddr,Sem.run_bind,Sem.run_pure,Result.andThen_ok,this]
end
end Go.Proofs.YtlfeokjhphpjeaaGreat
namespace Go.Proofs.YtlfeokjhphpjeaaGreat
open Go.RowKit
section
variable {P:Program} {cx:Cx} {ρ:Nat->Value} {σ:St} {a:Act} {w:World}
def rv (a:Act):ResultVar->Sem Value
 | .tmp t=>pure (a.tmps.getD t undef)
 | .cell b t=>do loadVar t (<- asAddr (a.tmps.getD b undef))
theorem dW (fn:Func) (a:Act):results fn a.tmps=(do let vs <- fn.results.mapM (rv a); pure (if h:vs.size=1 then vs[0] else .tuple vs)):=by
 unfold results
 congr 1
theorem Om.run (ha:Dn cx ρ σ a w):∀ {l:List ResultVar} {ds:List DV},Om P σ l ds->∃ vs:List Value,(l.mapM (rv a)).run P w=.ok vs w/\Bj ρ (Jo cx σ ρ w) w ds vs/\∀ k,Ey ds k->σ.U k=true
 | _,_,.nil=>⟨[],by simp,by simp [Bj],fun k hk=>by unfold Ey at hk; exact hk.elim⟩
 | _,_,.cons (x:=x) h hs=>by
  obtain⟨v,h1,h2,h3⟩:=h.run ha
  obtain⟨vs,k1,k2,k3⟩:=hs.run ha
  refine⟨v :: vs,?_,by unfold Bj; exact⟨v,vs,rfl,h2,k2⟩,fun k hk=>?_⟩
  ·have h1':(rv a x).run P w=.ok v w:=by cases x <;> exact h1
   rw [List.mapM_cons]
   simp only [Sem.run_bind,h1',Result.andThen_ok,k1,Sem.run_pure]
  ·unfold Ey at hk
   rcases hk with hk | hk
   ·exact h3 k hk
   ·exact k3 k hk
theorem aT (ha:Dn cx ρ σ a w) {fn:Func} {ds:List DV} (h:Om P σ fn.results.toList ds):∃ v,(results fn a.tmps).run P w=.ok v w/\B5 ρ (Jo cx σ ρ w) w (mB ds) v:=by
 obtain⟨vs,h1,h2,h3⟩:=h.run ha
 have hm:(fn.results.mapM (rv a)).run P w=.ok vs.toArray w:=by
  rw [Array.mapM_eq_mapM_toList,Sem.run_map,h1]
  rfl
 have hr:∀ v,v=(if h:vs.toArray.size=1 then vs.toArray[0] else .tuple vs.toArray)->(results fn a.tmps).run P w=.ok v w:=fun v hv=>by
  rw [dW,Sem.run_bind,hm]
  simp only [Result.andThen_ok,Sem.run_pure]
  rw [hv]
 have hlen:=h2.length
 match ds,vs,h2,hlen,hr with
 | [d],[v],h2,_,hr=>
  unfold Bj at h2
  obtain⟨u,us,e1,e2,-⟩:=h2
  injection e1 with e1 _
  subst e1
  exact⟨v,hr v (by simp),e2⟩
 | [],[],h2,_,hr=>exact⟨.tuple #[],hr _ (by simp),by unfold mB B5; exact⟨[],rfl,h2⟩⟩
 | d :: d2 :: ds,v :: v2 :: vs,h2,_,hr=>exact⟨.tuple (v :: v2 :: vs).toArray,hr _ (by simp),by unfold mB B5; exact⟨_,rfl,h2⟩⟩
def Fin (P:Program) (fn:Func) (np:Nat) (R:DV->List LB->Prop) (σ:St):Prop:=
 ∃ ds r bx θ,Om P σ fn.results.toList ds/\R r bx/\Cv σ (E7 θ) (mB ds) r/\jL σ (E7 θ) (ix 0 bx)/\jW [(0,r)] (ix 0 bx) bx.length θ=true/\fE θ bx.length np=true/\Nat.ble np bx.length=true/\Nat.ble bx.length (np + 8)=true/\(bx.take np).all zD=true
def zJ (P:Program) (fn:Func) (np:Nat) (R:DV->List LB->Prop):Exit->St->Prop
 | .ret,σ=>Fin P fn np R σ
 | .normal,σ=>Fin P fn np R σ
 | _,_=>False
theorem Fin.out {w0:World} {I:Nat->Prop} {ρ0:Nat->Value} {np nq N:Nat} {fn:Func} {R:DV->List LB->Prop} (h:Fin P fn np R σ) (hq:np<=nq) (ha:Dn ⟨w0,I,ρ0,np,nq,N⟩ ρ σ a w) :
  ∃ v,(results fn a.tmps).run P w=.ok v w/\∃ r bx,R r bx/\xC ρ0 I w0 np nq v r bx w:=by
 obtain⟨ds,r,bx,θ,h1,h2,h3,h4,h5,h6,h7,h8,h9⟩:=h
 obtain⟨v,hv,hr⟩:=aT (P:=P) ha h1
 have hle:np<=bx.length/\bx.length<=np + 8:=⟨Nat.le_of_ble_eq_true h7,Nat.le_of_ble_eq_true h8⟩
 simp only [jW,Bool.and_eq_true,List.all_eq_true] at h5
 obtain⟨⟨c1,c2⟩,c3⟩:=h5
 obtain⟨hA,hC⟩:=ha.ren (σ':=mk [] (ix 0 bx) bx.length) (E7 θ) (fun t d' hd=>by simp [mk,E7] at hd) (fun k lb hl=>W5 h4 _ (Fk hl)) (fun k k' j x y=>eO c3 (Fk x) (Fk y)) (fun k hk=>S0 h6 k hk)
  (fun t d k hd hm=>by simp [mk,E7] at hd) (fun k lb hl=>by
   have:=c2 _ (Fk hl)
   exact⟨this.1,fun k' hk'=>U2 this.2 k' hk'⟩)
 have hL:∀ k lb,(mk [] (ix 0 bx) bx.length).L k=some lb↔bx[k]?=some lb:=fun k lb=>oL
 have live:∀ k,k < bx.length->∃ lb,(mk [] (ix 0 bx) bx.length).L k=some lb:=fun k hk=>⟨bx[k],(hL k _).2 (List.getElem?_eq_getElem hk)⟩
 obtain⟨k1,k2,k3,k4,k5⟩:=ha.kept
 refine⟨v,hv,r,bx,h2,hle,⟨k1,k2,k3,k4⟩,fun b hb hn=>k5 b hb ?_,⟨O9 (E7 θ) ρ,Jo ⟨w0,I,ρ0,np,nq,N⟩ (mk [] (ix 0 bx) bx.length) (O9 (E7 θ) ρ) w,fun k hk=>(hA.pin k hk).1,fun b hb=>⟨hb.1,hb.2.2,fun k lb hlb hbk=>?_⟩,hC _ _ _ h3 hr,fun k lb hlb=>?_,fun k lb b hk1 hlb hb=>?_,fun k k' lb lb' b hlb hlb' e1 e2=>?_⟩,⟨fun k hk=>?_,fun k lb hlb k' hk'=>?_⟩,fun k lb hk hlb=>List.all_eq_true.1 h9 lb (List.mem_of_getElem? (by rw [List.getElem?_take,if_pos hk]; exact hlb))⟩
 ·rintro⟨k,hk,hb'⟩
  exact hn k hk hb'
 ·exact hb.2.1 ⟨k,lb,(hL k lb).2 hlb,hbk⟩
 ·have:=hA.lo k lb ((hL k lb).2 hlb)
  cases lb with
  | tree e sz o e2 sz2 s hh cs=>
   obtain⟨n,us,vs,q⟩:=this
   exact⟨n,us,vs,q.ho,q.hs,q.row,q.hn,q.hl,q.hM,q.flat,q.nest,q.dist⟩
  | _=>exact this
 ·exact hA.fresh k lb b ((hL k lb).2 hlb) hk1 hb
 ·exact hA.sep k k' lb lb' b ((hL k lb).2 hlb) ((hL k' lb').2 hlb') e1 e2
 ·have:=Z0 (c1 _ (List.mem_singleton.2 rfl)) k hk
  exact Nat.le_of_ble_eq_true this
 ·have:=U2 (c2 _ (Fk ((hL k lb).2 hlb))).2 k' hk'
  exact Nat.le_of_ble_eq_true this
theorem Wb:∀ {l:List DV} {k i:Nat},E7 (Z9 k l) (k + i)=l[i]?
 | [],k,i=>by simp [Z9,E7]
 | x :: l,k,0=>by simp [Z9,E7]
 | x :: l,k,i + 1=>by
  unfold Z9 E7
  have:Nat.beq (k + (i + 1)) k=false:=by
   cases h:Nat.beq (k + (i + 1)) k with
   | false=>rfl
   | true=>have:=Nat.eq_of_beq_eq_true h; omega
  rw [this]
  simp only [cond_false]
  rw [show k + (i + 1)=(k + 1) + i by omega,Wb]
  simp
theorem Fn.of {f np:Nat} {fn:Func} {c:Code} {args:List DV} {bx:List LB} {R:DV->List LB->Prop} (hf:P.funcs[f]?=some fn) (hb:fn.body=some c) (hn:(fn.name == "runtime.NumGoroutine")=false)
  (hchk:(Zg bx.length args && (bx.all (zX bx.length) && Nat.ble args.length fn.ntmps && Nat.ble np bx.length))=true) (h:∀ w0 I ρ0,B9 P ⟨w0,I,ρ0,np,bx.length,fn.ntmps⟩ c (zJ P fn np R) (mk (Z9 0 args) (ix 0 bx) bx.length)):Fn P f np args bx R:=by
 simp only [Bool.and_eq_true,List.all_eq_true] at hchk
 obtain⟨c1,⟨c2,c3⟩,c4⟩:=hchk
 have c4:=Nat.le_of_ble_eq_true c4
 refine⟨c4,aE.of hf hn (by rw [hb]; rfl),fun ρ I w vs hI hargs hbx hsep=>?_⟩
 have hlen:=hargs.length
 have hN:args.length<=fn.ntmps:=Nat.le_of_ble_eq_true c3
 have hmk:∀ k lb,(mk (Z9 0 args) (ix 0 bx) bx.length).L k=some lb↔bx[k]?=some lb:=fun k lb=>oL
 have hbl:∀ k lb,bx[k]?=some lb->k < bx.length:=fun k lb h=>(List.getElem?_eq_some_iff.1 h).1
 have himm:∀ b,I b->Jo ⟨w,I,ρ,np,bx.length,fn.ntmps⟩ (mk (Z9 0 args) (ix 0 bx) bx.length) ρ w b:=fun b hb=>⟨(hI b hb).1,by
  rintro⟨k,lb,h1,h2⟩
  exact (hI b hb).2 k (hbl k lb ((hmk k lb).1 h1)) ((hbx k lb ((hmk k lb).1 h1)).own h2),fun _=>.inl hb⟩
 have hA:Dn ⟨w,I,ρ,np,bx.length,fn.ntmps⟩ ρ (mk (Z9 0 args) (ix 0 bx) bx.length) { tmps:=vs.toArray ++ Array.replicate (fn.ntmps - vs.toArray.size) undef,defers:=[] } w:=by
  refine⟨rfl,by simp; omega,⟨rfl,rfl,rfl,aBk _,fun _ _ _=>rfl⟩,fun t d hd=>?_,fun k lb hl=>?_,fun k k' lb lb' b h1 h2 h3 h4=>hsep k k' b (hbl k lb ((hmk k lb).1 h1)) (hbl k' lb' ((hmk k' lb').1 h2)) ((hbx k lb ((hmk k lb).1 h1)).own h3) ((hbx k' lb' ((hmk k' lb').1 h2)).own h4),fun t d k hd hm=>?_,fun k lb hl=>?_,fun k hk=>⟨rfl,aCr (aCi hk c4)⟩,fun k lb b hl=>?_⟩
  ·have hd':args[t]?=some d:=by
    have:=Wb (l:=args) (k:=0) (i:=t)
    rw [aBj] at this
    rw [<- this]
    exact hd
   obtain⟨v,hv,hr⟩:=hargs.at_ hd'
   have e1:(vs.toArray ++ Array.replicate (fn.ntmps - vs.toArray.size) undef).getD t undef=v:=by
    have hlt:=(List.getElem?_eq_some_iff.1 hv).1
    simp [aDr,hlt]
    simpa [hlt] using hv
   rw [e1]
   exact B5.step (fun b hb=>⟨himm b hb,rfl⟩) d v (fun _ _=>rfl) hr
  ·have hlb:=(hmk k lb).1 hl
   have hB:=hbx k lb hlb
   cases lb with
   | box ds ty=>
    obtain⟨b,us,q1,q2,q3,q4⟩:=hB
    exact⟨b,us,q1,q2,.inr ⟨k,hbl k _ hlb,by show Cf (ρ k)=some b; rw [q1]; rfl⟩,q3,Bj.step (fun b hb=>⟨himm b hb,rfl⟩) ds us (fun _ _=>rfl) q4⟩
   | row e sz cs=>
    obtain⟨n,us,q1,q2⟩:=hB
    exact⟨n,us,q1,fun b hb=>.inr ⟨k,hbl k _ hlb,hb⟩,q2.keep_ (fun _ _=>rfl) fun b hb=>himm b hb⟩
   | map l=>exact hB.elim
   | mit k n s=>exact hB.elim
   | vec ds e=>exact hB.elim
   | tree=>exact hB.elim
   | gho=>exact hB.elim
   | abs=>exact hB.elim
   | que e sz cs=>
    obtain⟨n,us,q1,q2⟩:=hB
    exact⟨n,us,q1,fun b hb=>.inr ⟨k,hbl k _ hlb,hb⟩,q2.keep_ (fun _ _=>rfl) fun b hb=>himm b hb⟩
  ·have hd':args[t]?=some d:=by
    have:=Wb (l:=args) (k:=0) (i:=t)
    rw [aBj] at this
    rw [<- this]
    exact hd
   exact Md c1 k (Lj.menL_at hd' hm)
  ·have hlb:=(hmk k lb).1 hl
   exact⟨aCr (hbl k lb hlb),fun k' hk'=>U2 (c2 lb (List.mem_of_getElem? hlb)) k' hk'⟩
  ·intro h1 h2
   exact .inr ⟨k,h1,hbl k lb ((hmk k lb).1 hl),(hbx k lb ((hmk k lb).1 hl)).own h2⟩
 refine calls_of_wp hf hb (Code.wp_mono ?_ (h w I ρ _ w ⟨ρ,hA⟩))
 rintro e a' w' ⟨σ',hq,⟨ρ',hA'⟩⟩
 cases e with
 | normal=>
  obtain⟨v,hv,r,bx',h1,h2⟩:=Fin.out hq c4 hA'
  exact⟨hA'.defers,v,hv,v,r,bx',rfl,h1,h2⟩
 | ret=>
  obtain⟨v,hv,r,bx',h1,h2⟩:=Fin.out hq c4 hA'
  exact⟨hA'.defers,v,hv,v,r,bx',rfl,h1,h2⟩
 | _=>exact hq.elim
end
end Go.Proofs.YtlfeokjhphpjeaaGreat
namespace Go.Proofs.YtlfeokjhphpjeaaGreat
open Go.RowKit
mutual
def Hx (f:Nat->Nat):DV->DV
 | .row k=>.row (f k)
 | .part k o n=>.part (f k) o n
 | .ptr k i=>.ptr (f k) i
 | .agg ds=>.agg (K7 f ds)
 | .tup ds=>.tup (K7 f ds)
 | .clo g n ds=>.clo g n (K7 f ds)
 | .val v=>.val v
 | .sl sz cs=>.sl sz cs
 | .slc sz cs=>.slc sz cs
 | .mp l=>.mp l
 | .elt cs=>.elt cs
 | .nst k s i=>.nst (f k) (f s) i
 | .npt k s i j=>.npt (f k) (f s) i j
 | .npr k s i j n'=>.npr (f k) (f s) i j n'
 | .qpt k i=>.qpt (f k) i
def K7 (f:Nat->Nat):List DV->List DV
 | []=>[]
 | d :: ds=>Hx f d :: K7 f ds
end
def fJ (f:Nat->Nat):LB->LB
 | .box ds ty=>.box (K7 f ds) ty
 | .row e sz cs=>.row e sz cs
 | .map l=>.map l
 | .mit k n s=>.mit (f k) n s
 | .vec ds e=>.vec (K7 f ds) e
 | .tree e sz o e2 sz2 s h cs=>.tree e sz o e2 sz2 (f s) h cs
 | .gho=>.gho
 | .abs ns S=>.abs (ns.map f) S
 | .que e sz cs=>.que e sz cs
mutual
def Iz:DV->Prop
 | .sl _ _=>False
 | .slc _ _=>False
 | .mp _=>False
 | .elt _=>False
 | .agg ds=>Kb ds
 | .tup ds=>Kb ds
 | .clo _ _ ds=>Kb ds
 | .val _=>True
 | .row _=>True
 | .part _ _ _=>True
 | .ptr _ _=>True
 | .nst _ _ _=>True
 | .npt _ _ _ _=>True
 | .npr _ _ _ _ _=>True
 | .qpt _ _=>True
def Kb:List DV->Prop
 | []=>True
 | d :: ds=>Iz d/\Kb ds
end
def Oh:LB->Prop
 | .box ds _=>Kb ds
 | .row _ _ cs=>∀ c∈cs,cM c=true
 | .map _=>True
 | .mit ..=>True
 | .vec ds _=>Kb ds
 | .tree ..=>False
 | .gho=>True
 | .abs ..=>False
 | .que _ _ cs=>∀ c∈cs,cM c=true
section
variable {ρ ρ':Nat->Value} {I I':Nat->Prop} {w:World} {f:Nat->Nat}
mutual
theorem B5.map (hI:∀ b,I b->I' b):∀ (d:DV) (v:Value),(∀ k,men d k->ρ' (f k)=ρ k)->B5 ρ I w d v->B5 ρ' I' w (Hx f d) v
 | .val _,_,_,h=>by unfold Hx B5; unfold B5 at h; exact h
 | .sl _ _,_,_,h=>by unfold Hx B5; unfold B5 at h; exact Dw.mono h hI
 | .slc _ _,_,_,h=>by unfold Hx B5; unfold B5 at h; exact⟨Dw.mono h.1 hI,h.2⟩
 | .mp _,_,_,h=>by unfold Hx B5; unfold B5 at h; exact Dw.mono h hI
 | .row k,_,hm,h=>by
  unfold Hx B5; unfold B5 at h
  rw [hm k (by unfold men; rfl)]
  exact h
 | .part k _ _,_,hm,h=>by
  unfold Hx B5; unfold B5 at h
  rw [hm k (by unfold men; rfl)]
  exact h
 | .ptr k _,_,hm,h=>by
  unfold Hx B5; unfold B5 at h
  rw [hm k (by unfold men; rfl)]
  exact h
 | .elt _,_,_,h=>by
  unfold Hx B5; unfold B5 at h
  obtain⟨ad,h1,h2,h3⟩:=h
  exact⟨ad,h1,hI _ h2,Ii.keep_ (fun _ _=>rfl) hI ad h2 _ 0 h3⟩
 | .agg ds,_,hm,h=>by
  unfold Hx B5; unfold B5 at h
  obtain⟨vs,h1,h2,h3⟩:=h
  exact⟨vs,h1,h2,Bj.map hI ds vs (fun k hk=>hm k (by unfold men; exact hk)) h3⟩
 | .tup ds,_,hm,h=>by
  unfold Hx B5; unfold B5 at h
  obtain⟨vs,h1,h3⟩:=h
  exact⟨vs,h1,Bj.map hI ds vs (fun k hk=>hm k (by unfold men; exact hk)) h3⟩
 | .clo _ _ ds,_,hm,h=>by
  unfold Hx B5; unfold B5 at h
  obtain⟨vs,h1,h3⟩:=h
  exact⟨vs,h1,Bj.map hI ds vs (fun k hk=>hm k (by unfold men; exact hk)) h3⟩
 | .nst _ s _,_,hm,h=>by
  unfold Hx B5; unfold B5 at h
  rw [hm s (by unfold men; exact .inr rfl)]
  exact h
 | .npt _ s _ _,_,hm,h=>by
  unfold Hx B5; unfold B5 at h
  rw [hm s (by unfold men; exact .inr rfl)]
  exact h
 | .npr _ s _ _ _,_,hm,h=>by
  unfold Hx B5; unfold B5 at h
  rw [hm s (by unfold men; exact .inr rfl)]
  exact h
 | .qpt k _,_,hm,h=>by
  unfold Hx B5; unfold B5 at h
  rw [hm k (by unfold men; rfl)]
  exact h
theorem Bj.map (hI:∀ b,I b->I' b):∀ (ds:List DV) (vs:List Value),(∀ k,Ey ds k->ρ' (f k)=ρ k)->Bj ρ I w ds vs->Bj ρ' I' w (K7 f ds) vs
 | [],_,_,h=>by unfold K7 Bj; unfold Bj at h; exact h
 | d :: ds,_,hm,h=>by
  unfold K7 Bj; unfold Bj at h
  obtain⟨u,us,h1,h2,h3⟩:=h
  exact⟨u,us,h1,B5.map hI d u (fun k hk=>hm k (by unfold Ey; exact .inl hk)) h2,Bj.map hI ds us (fun k hk=>hm k (by unfold Ey; exact .inr hk)) h3⟩
end
mutual
theorem B5.flat:∀ (d:DV) (v:Value),Iz d->B5 ρ I w d v->B5 ρ I' w d v
 | .val _,_,_,h=>by unfold B5 at *; exact h
 | .sl _ _,_,hf,_=>by unfold Iz at hf; exact hf.elim
 | .slc _ _,_,hf,_=>by unfold Iz at hf; exact hf.elim
 | .mp _,_,hf,_=>by unfold Iz at hf; exact hf.elim
 | .row k,_,_,h=>by unfold B5 at *; exact h
 | .part k _ _,_,_,h=>by unfold B5 at *; exact h
 | .ptr k _,_,_,h=>by unfold B5 at *; exact h
 | .elt _,_,hf,_=>by unfold Iz at hf; exact hf.elim
 | .agg ds,_,hf,h=>by
  unfold B5 at *
  obtain⟨vs,h1,h2,h3⟩:=h
  exact⟨vs,h1,h2,Bj.flat ds vs (by unfold Iz at hf; exact hf) h3⟩
 | .tup ds,_,hf,h=>by
  unfold B5 at *
  obtain⟨vs,h1,h3⟩:=h
  exact⟨vs,h1,Bj.flat ds vs (by unfold Iz at hf; exact hf) h3⟩
 | .clo _ _ ds,_,hf,h=>by
  unfold B5 at *
  obtain⟨vs,h1,h3⟩:=h
  exact⟨vs,h1,Bj.flat ds vs (by unfold Iz at hf; exact hf) h3⟩
 | .nst _ _ _,_,_,h=>by unfold B5 at *; exact h
 | .npt _ _ _ _,_,_,h=>by unfold B5 at *; exact h
 | .npr _ _ _ _ _,_,_,h=>by unfold B5 at *; exact h
 | .qpt _ _,_,_,h=>by unfold B5 at *; exact h
theorem Bj.flat:∀ (ds:List DV) (vs:List Value),Kb ds->Bj ρ I w ds vs->Bj ρ I' w ds vs
 | [],_,_,h=>by unfold Bj at *; exact h
 | d :: ds,_,hf,h=>by
  unfold Bj at *
  unfold Kb at hf
  obtain⟨u,us,h1,h2,h3⟩:=h
  exact⟨u,us,h1,B5.flat d u hf.1 h2,Bj.flat ds us hf.2 h3⟩
end
mutual
theorem gP:∀ (d:DV) (k:Nat),men (Hx f d) k->∃ j,men d j/\k=f j
 | .val _,k,h=>by unfold Hx men at h; exact h.elim
 | .sl _ _,k,h=>by unfold Hx men at h; exact h.elim
 | .slc _ _,k,h=>by unfold Hx men at h; exact h.elim
 | .mp _,k,h=>by unfold Hx men at h; exact h.elim
 | .row j,k,h=>by unfold Hx men at h; exact⟨j,by unfold men; rfl,h⟩
 | .part j _ _,k,h=>by unfold Hx men at h; exact⟨j,by unfold men; rfl,h⟩
 | .ptr j _,k,h=>by unfold Hx men at h; exact⟨j,by unfold men; rfl,h⟩
 | .elt _,k,h=>by unfold Hx men at h; exact h.elim
 | .agg ds,k,h=>by
  unfold Hx men at h
  obtain⟨j,h1,h2⟩:=M9 ds k h
  exact⟨j,by unfold men; exact h1,h2⟩
 | .tup ds,k,h=>by
  unfold Hx men at h
  obtain⟨j,h1,h2⟩:=M9 ds k h
  exact⟨j,by unfold men; exact h1,h2⟩
 | .clo _ _ ds,k,h=>by
  unfold Hx men at h
  obtain⟨j,h1,h2⟩:=M9 ds k h
  exact⟨j,by unfold men; exact h1,h2⟩
 | .nst j s _,k,h=>by
  unfold Hx men at h
  rcases h with h | h
  ·exact⟨j,by unfold men; exact .inl rfl,h⟩
  ·exact⟨s,by unfold men; exact .inr rfl,h⟩
 | .npt j s _ _,k,h=>by
  unfold Hx men at h
  rcases h with h | h
  ·exact⟨j,by unfold men; exact .inl rfl,h⟩
  ·exact⟨s,by unfold men; exact .inr rfl,h⟩
 | .npr j s _ _ _,k,h=>by
  unfold Hx men at h
  rcases h with h | h
  ·exact⟨j,by unfold men; exact .inl rfl,h⟩
  ·exact⟨s,by unfold men; exact .inr rfl,h⟩
 | .qpt j _,k,h=>by unfold Hx men at h; exact⟨j,by unfold men; rfl,h⟩
theorem M9:∀ (ds:List DV) (k:Nat),Ey (K7 f ds) k->∃ j,Ey ds j/\k=f j
 | [],k,h=>by unfold K7 Ey at h; exact h.elim
 | d :: ds,k,h=>by
  unfold K7 Ey at h
  rcases h with h | h
  ·obtain⟨j,h1,h2⟩:=gP d k h
   exact⟨j,by unfold Ey; exact .inl h1,h2⟩
  ·obtain⟨j,h1,h2⟩:=M9 ds k h
   exact⟨j,by unfold Ey; exact .inr h1,h2⟩
end
end
mutual
inductive Ag (fl:Bool) (ps:List Nat) (env:X8):DV->DV->Prop
 | fn {f}:Ag fl ps env (.val (.func (.func f) #[] #[])) (.clo f 0 [])
 | val {v}:Ag fl ps env (.val v) (.val v)
 | sl {sz cs}:Ag fl ps env (.sl sz cs) (.sl sz cs)
 | mp {l}:Ag fl ps env (.mp l) (.mp l)
 | nils {sz}:Ag fl ps env (.val (.slice none 0 0)) (.sl sz [])
 | elt {cs}:Ag fl ps env (.elt cs) (.elt cs)
 | ptr {j k i} (h:ps[k]?=some j):Ag fl ps env (.ptr j i) (.ptr k i)
 | rowK {j k} (h:ps[k]?=some j):Ag fl ps env (.row j) (.row k)
 | row {j e sz cs} (h:fl=true) (hL:(j,some (.row e sz cs))∈env) (hj:ps.all (fun i=>!Nat.beq i j)=true):Ag fl ps env (.row j) (.sl sz cs)
 | abs {j ns S sz cs} (h:fl=true) (hL:(j,some (.abs ns S))∈env) (hr:S.rd=some (sz,cs)) (hj:ps.all (fun i=>!Nat.beq i j)=true):Ag fl ps env (.row j) (.sl sz cs)
 | tree {j e sz o e2 sz2 s cs} (h:fl=true) (hL:(j,some (.tree e sz o e2 sz2 s none cs))∈env) (hj:ps.all (fun i=>!Nat.beq i j)=true):Ag fl ps env (.row j) (.sl sz cs)
 | part {j off n e sz cs} (h:fl=true) (hL:(j,some (.row e sz cs))∈env) (hj:ps.all (fun i=>!Nat.beq i j)=true) (hn:off + n * sz<=cs.length):Ag fl ps env (.part j off n) (.sl sz ((cs.drop off).take (n * sz)))
 | agg {ds ds'} (h:G7 fl ps env ds ds'):Ag fl ps env (.agg ds) (.agg ds')
 | tup {ds ds'} (h:G7 fl ps env ds ds'):Ag fl ps env (.tup ds) (.tup ds')
 | clo {f n ds ds'} (h:G7 fl ps env ds ds'):Ag fl ps env (.clo f n ds) (.clo f n ds')
inductive G7 (fl:Bool) (ps:List Nat) (env:X8):List DV->List DV->Prop
 | nil:G7 fl ps env [] []
 | cons {d d' l l'} (h:Ag fl ps env d d') (hs:G7 fl ps env l l'):G7 fl ps env (d :: l) (d' :: l')
end
def yC (fl:Bool) (ps:List Nat) (env:X8):LB->LB->Prop
 | .box ds ty,lb=>∃ ds',lb=.box ds' ty/\G7 fl ps env ds ds'
 | .row e sz cs,lb=>lb=.row e sz cs
 | .que e sz cs,lb=>lb=.que e sz cs
 | _,_=>False
def Yh (fl:Bool) (ps:List Nat) (env:X8):List Nat->List LB->Prop
 | [],bx=>bx=[]
 | j :: l,bx=>∃ lb lb' rest,bx=lb' :: rest/\(j,some lb)∈env/\yC fl ps env lb lb'/\Yh fl ps env l rest
def Gr (ps:List Nat) (tk:Nat) (k:Nat):Nat:=match ps[k]? with | some j=>j | none=>tk + (k - ps.length)
def R1 (ps:List Nat) (tk:Nat):Nat->List LB->List (Nat×LB)
 | _,[]=>[]
 | k,x :: l=>(Gr ps tk k,fJ (Gr ps tk) x) :: R1 ps tk (k + 1) l
def Qc (ps gs:List Nat) (tk:Nat) (r:DV) (bx:List LB):Ke:=⟨some (Hx (Gr ps tk) r),fun k=>match E7 (R1 ps tk 0 bx) k with | some lb=>some (some lb) | none=>bif gs.any (Nat.beq k) then some none else none⟩
def qN (ps gs:List Nat) (tk:Nat) (R:DV->List LB->Prop):Ke->Prop:=fun e=>∃ r b,R r b/\e=Qc ps gs tk r b/\ps.length<=b.length/\b.length<=ps.length + 8
def So (np:Nat) (ps gs:List Nat):Bool:=pG (ps ++ gs) && gs.all fun k=>Nat.ble np k
inductive CallR (P:Program) (np:Nat):Nat->Op->TypeId->List (DV×Option LB)->X8->List Nat->(Ke->Prop)->Prop
 | call {tk f xs tys ty dsA env ps gs args bx R} (fl:Bool) (hF:Fn P f ps.length args bx R) (hA:G7 fl (ps ++ gs) env (dsA.map (·.1)) args) (hB:Yh fl (ps ++ gs) env (ps ++ gs) bx) (hnd:So np ps gs=true) (hfl:fl=true->∀ r b,R r b->Iz r/\∀ lb∈b,Oh lb) :
  CallR P np tk (.call ⟨.value (.func f),xs,tys⟩) ty ((.val (.func (.func f) #[] #[]),none) :: dsA) env (ps ++ gs) (qN ps gs tk R)
 | callC {tk t f n cs xs tys ty b dsA env ps gs args bx R} (fl:Bool) (hF:Fn P f ps.length args bx R) (hA:G7 fl (ps ++ gs) env (cs.take n ++ (dsA.map (·.1) ++ cs.drop n)) args) (hB:Yh fl (ps ++ gs) env (ps ++ gs) bx) (hnd:So np ps gs=true) (hfl:fl=true->∀ r b,R r b->Iz r/\∀ lb∈b,Oh lb) :
  CallR P np tk (.call ⟨.value (.tmp t),xs,tys⟩) ty ((.clo f n cs,b) :: dsA) env (ps ++ gs) (qN ps gs tk R)
 | callV {tk t f xs tys ty b dsA env ps gs args bx R} (fl:Bool) (hF:Fn P f ps.length args bx R) (hA:G7 fl (ps ++ gs) env (dsA.map (·.1)) args) (hB:Yh fl (ps ++ gs) env (ps ++ gs) bx) (hnd:So np ps gs=true) (hfl:fl=true->∀ r b,R r b->Iz r/\∀ lb∈b,Oh lb) :
  CallR P np tk (.call ⟨.value (.tmp t),xs,tys⟩) ty ((.val (.func (.func f) #[] #[]),b) :: dsA) env (ps ++ gs) (qN ps gs tk R)
 
 | ext {tk op ty ds env wr E} (h:ExtR P np tk op ty ds env wr E):CallR P np tk op ty ds env wr E
 | nilE {tk t X Y yt ty sz cs b1 b2 env} (hn:∃ e,P.underlying t=some (.slice e)):CallR P np tk (.binOp .eql t X Y yt) ty [(.sl sz cs,b1),(.val (.slice none 0 0),b2)] env [] (fun e=>∃ b,(b=true->cs=[])/\e=v0 (.val (.bool b)))
theorem Yh.length {fl:Bool} {ps:List Nat} {env:X8}:∀ {l:List Nat} {bx:List LB},Yh fl ps env l bx->bx.length=l.length
 | [],bx,h=>by unfold Yh at h; rw [h]; rfl
 | j :: l,bx,h=>by
  unfold Yh at h
  obtain⟨lb,lb',rest,rfl,-,-,h4⟩:=h
  simp [Yh.length h4]
theorem Yh.at_ {fl:Bool} {ps:List Nat} {env:X8}:∀ {l:List Nat} {bx:List LB},Yh fl ps env l bx->∀ {k:Nat} {j:Nat},l[k]?=some j->∃ lb lb',bx[k]?=some lb'/\(j,some lb)∈env/\yC fl ps env lb lb'
 | [],bx,h,k,j,hl=>by simp at hl
 | j :: l,bx,h,0,j',hl=>by
  unfold Yh at h
  obtain⟨lb,lb',rest,rfl,h2,h3,h4⟩:=h
  simp at hl
  subst hl
  exact⟨lb,lb',rfl,h2,h3⟩
 | j :: l,bx,h,k + 1,j',hl=>by
  unfold Yh at h
  obtain⟨lb,lb',rest,rfl,h2,h3,h4⟩:=h
  have:=Yh.at_ h4 (k:=k) (j:=j') (by simpa using hl)
  simpa using this
theorem Tb {ps:List Nat} {tk:Nat}:∀ {l:List LB} {k k':Nat} {lb:LB},E7 (R1 ps tk k l) k'=some lb->∃ i x,l[i]?=some x/\k'=Gr ps tk (k + i)/\lb=fJ (Gr ps tk) x
 | [],_,_,_,h=>by simp [R1,E7] at h
 | x :: l,k,k',lb,h=>by
  unfold R1 E7 at h
  cases hb:Nat.beq k' (Gr ps tk k) with
  | true=>
   rw [hb] at h
   simp at h
   exact⟨0,x,rfl,Nat.eq_of_beq_eq_true hb,h.symm⟩
  | false=>
   rw [hb] at h
   obtain⟨i,y,h1,h2,h3⟩:=Tb (l:=l) (k:=k + 1) h
   exact⟨i + 1,y,by simpa using h1,by rw [h2]; congr 1; omega,h3⟩
theorem Yb {ps:List Nat} {tk:Nat}:∀ {l:List LB} {k i:Nat} {x:LB},l[i]?=some x->∃ lb,E7 (R1 ps tk k l) (Gr ps tk (k + i))=some lb
 | [],_,_,_,h=>by simp at h
 | y :: l,k,i,x,h=>by
  unfold R1 E7
  cases hb:Nat.beq (Gr ps tk (k + i)) (Gr ps tk k) with
  | true=>exact⟨_,rfl⟩
  | false=>
   cases i with
   | zero=>simp at hb
   | succ i=>
    have:=Yb (ps:=ps) (tk:=tk) (l:=l) (k:=k + 1) (i:=i) (x:=x) (by simpa using h)
    simp only [cond_false]
    rwa [show k + (i + 1)=k + 1 + i by omega]
end Go.Proofs.YtlfeokjhphpjeaaGreat
namespace Go.Proofs.YtlfeokjhphpjeaaGreat
open Go.RowKit
section
variable {P:Program} {cx:Cx} {ρ:Nat->Value} {σ:St} {a:Act} {w:World} {o:Oper} {K:Act->World->Prop} {Q:Exit->Act->World->Prop}
def qS (fl:Bool) (ps:List Nat) (σ:St) (ρ:Nat->Value) (b:Nat):Prop:=fl=true/\∃ j lb,j∉ps/\σ.L j=some lb/\own ρ (ρ j) lb b
theorem lY {ps:List Nat} {j:Nat} (h:ps.all (fun i=>!Nat.beq i j)=true):j∉ps:=fun hm=>by
 have:=List.all_eq_true.1 h j hm
 simp at this
section
variable {fl:Bool} {ps l:List Nat}
mutual
theorem Ag.rep (ha:Dn cx ρ σ a w):∀ {d d':DV} (_:Ag fl ps (K3 σ l) d d') {v:Value},B5 ρ (Jo cx σ ρ w) w d v->B5 (fun k=>ρ (Gr ps 0 k)) (fun b=>Jo cx σ ρ w b\/qS fl ps σ ρ b) w d' v
 | _,_,.fn,v,hr=>by
  unfold B5 at *
  exact⟨[],by rw [hr.1]; rfl,by simp [Bj]⟩
 | _,_,.val,v,hr=>by unfold B5 at *; exact hr
 | _,_,.sl,v,hr=>by unfold B5 at *; exact hr.mono fun b hb=>.inl hb
 | _,_,.mp,v,hr=>by unfold B5 at *; exact hr.mono fun b hb=>.inl hb
 | _,_,.nils,v,hr=>by unfold B5 at *; rw [hr.1]; exact Dw.nil_ _
 | _,_,.elt,v,hr=>by
  unfold B5 at *
  obtain⟨ad,h2,h3,h4⟩:=hr
  exact⟨ad,h2,.inl h3,Ii.keep_ (fun _ _=>rfl) (fun b hb=>.inl hb) ad h3 _ 0 h4⟩
 | _,_,.ptr (j:=j) (k:=k) hk,v,hr=>by
  unfold B5 at *
  have:Gr ps 0 k=j:=by unfold Gr; rw [hk]
  simp only [this]
  exact hr
 | _,_,.rowK (j:=j) (k:=k) hk,v,hr=>by
  unfold B5 at *
  have:Gr ps 0 k=j:=by unfold Gr; rw [hk]
  simp only [this]
  exact hr
 | _,_,.row hfl hL hj,v,hr=>by
  have hL:=Ku hL
  unfold B5 at *
  rw [hr.1]
  obtain⟨n,us,ho,-,hu⟩:=ha.lo _ _ hL
  exact Xm.cells ho hu (fun b hb=>.inl hb) fun b hb=>.inr ⟨hfl,_,_,lY hj,hL,hb⟩
 | _,_,.abs hfl hL hrd hj,v,hr=>by
  have hL:=Ku hL
  unfold B5 at *
  rw [hr.1]
  exact Shp.rdOk _ hrd (ha.lo _ _ hL).1 (fun b hb=>.inl hb) fun b hb=>.inr ⟨hfl,_,_,lY hj,hL,hb⟩
 | _,_,.tree hfl hL hj,v,hr=>by
  have hL:=Ku hL
  unfold B5 at *
  rw [hr.1]
  obtain⟨n,us,vs,ho⟩:=ha.lo _ _ hL
  exact Tree.cells ho (fun b hb=>.inl hb) fun b hb=>.inr ⟨hfl,_,_,lY hj,hL,hb⟩
 | _,_,.part hfl hL hj hn,v,hr=>by
  have hL:=Ku hL
  unfold B5 at *
  obtain⟨A,c,h4,h5,h6,h7,-⟩:=hr
  rw [h4]
  obtain⟨n,us,ho,-,hu⟩:=ha.lo _ _ hL
  exact Y8 ho hu (fun b hb=>.inl hb) (fun b hb=>.inr ⟨hfl,_,_,lY hj,hL,hb⟩) hn h5 h6 h7
 | _,_,.agg hs,v,hr=>by
  unfold B5 at *
  obtain⟨vs,h2,h3,h4⟩:=hr
  exact⟨vs,h2,h3,G7.rep ha hs h4⟩
 | _,_,.tup hs,v,hr=>by
  unfold B5 at *
  obtain⟨vs,h2,h4⟩:=hr
  exact⟨vs,h2,G7.rep ha hs h4⟩
 | _,_,.clo hs,v,hr=>by
  unfold B5 at *
  obtain⟨vs,h2,h4⟩:=hr
  exact⟨vs,h2,G7.rep ha hs h4⟩
theorem G7.rep (ha:Dn cx ρ σ a w):∀ {ds ds':List DV} (_:G7 fl ps (K3 σ l) ds ds') {vs:List Value},Bj ρ (Jo cx σ ρ w) w ds vs->Bj (fun k=>ρ (Gr ps 0 k)) (fun b=>Jo cx σ ρ w b\/qS fl ps σ ρ b) w ds' vs
 | _,_,.nil,vs,hr=>by unfold Bj at *; exact hr
 | _,_,.cons h hs,vs,hr=>by
  unfold Bj at *
  obtain⟨u,us,h1,h2,h3⟩:=hr
  exact⟨u,us,h1,Ag.rep ha h h2,G7.rep ha hs h3⟩
end
end
theorem Bj.app {I:Nat->Prop}:∀ {a b:List DV} {c d:List Value},Bj ρ I w a c->Bj ρ I w b d->Bj ρ I w (a ++ b) (c ++ d)
 | [],b,c,d,h1,h2=>by unfold Bj at h1; subst h1; simpa using h2
 | x :: a,b,c,d,h1,h2=>by
  unfold Bj at h1
  obtain⟨u,us,rfl,h3,h4⟩:=h1
  rw [aB1,aB1]
  unfold Bj
  exact⟨u,_,rfl,h3,Bj.app h4 h2⟩
theorem nI:∀ {l:List Nat},pG l=true->∀ {i j x:Nat},l[i]?=some x->l[j]?=some x->i=j
 | [],_,i,j,x,h,_=>by simp at h
 | y :: l,hn,0,0,x,_,_=>rfl
 | y :: l,hn,0,j + 1,x,h1,h2=>by
  simp only [pG,Bool.and_eq_true,List.all_eq_true] at hn
  simp at h1 h2
  subst h1
  have:=hn.1 y (List.mem_of_getElem? h2)
  simp at this
 | y :: l,hn,i + 1,0,x,h1,h2=>by
  simp only [pG,Bool.and_eq_true,List.all_eq_true] at hn
  simp at h1 h2
  subst h2
  have:=hn.1 y (List.mem_of_getElem? h1)
  simp at this
 | y :: l,hn,i + 1,j + 1,x,h1,h2=>by
  simp only [pG,Bool.and_eq_true] at hn
  have:=nI hn.2 (i:=i) (j:=j) (x:=x) (by simpa using h1) (by simpa using h2)
  rw [this]
theorem jE {f:Nat->Nat} {lb:LB} {k:Nat} (h:M5 (fJ f lb) k):∃ j,M5 lb j/\k=f j:=by
 cases lb with
 | box ds ty=>exact M9 ds k h
 | row=>exact h.elim
 | map=>exact h.elim
 | mit k' n s=>exact⟨k',rfl,h⟩
 | vec ds e=>exact M9 ds k h
 | tree e sz o e2 sz2 s hh cs=>exact⟨s,rfl,h⟩
 | gho=>exact h.elim
 | abs ns S=>
  obtain⟨j,h1,h2⟩:=aBy.1 (show k∈ns.map f from h)
  exact⟨j,h1,h2.symm⟩
 | que=>exact h.elim
theorem Nb {f:Nat->Nat} {ρ ρ':Nat->Value} {v:Value} {lb:LB} {b:Nat} (hm:∀ k,M5 lb k->ρ (f k)=ρ' k) (h:own ρ v (fJ f lb) b):own ρ' v lb b:=by
 cases lb with
 | tree e sz o e2 sz2 s hh cs=>
  rcases h with h | ⟨vs,i,u,h1,h2⟩
  ·exact .inl h
  ·exact .inr ⟨vs,i,u,(hm s rfl).symm.trans h1,h2⟩
 | abs ns S=>
  have e1:(ns.map f).map ρ=ns.map ρ':=by rw [List.map_map]; exact aDz fun k hk=>hm k hk
  have h:S.own v ((ns.map f).map ρ) b:=h
  show S.own v (ns.map ρ') b
  rwa [e1] at h
 | _=>exact h
theorem yC.own {fl:Bool} {ps:List Nat} {env:X8} {lb lb':LB} (h:yC fl ps env lb lb') {ρ:Nat->Value} {v:Value} {b:Nat}:Go.Proofs.YtlfeokjhphpjeaaGreat.own ρ v lb b↔Cf v=some b:=by
 cases lb with
 | box ds ty=>exact Iff.rfl
 | row e sz cs=>exact Iff.rfl
 | que e sz cs=>exact Iff.rfl
 | _=>exact h.elim
theorem Y6 {tk f:Nat} {wr ps gs l:List Nat} (hwr:wr=ps ++ gs) {args:List DV} {bx:List LB} {R:DV->List LB->Prop} {fl:Bool} (hF:Fn P f ps.length args bx R) {ads:List DV} {avs:List Value} (hA:G7 fl wr (K3 σ l) ads args) (hrep:Bj ρ (Jo cx σ ρ w) w ads avs)
  (hB:Yh fl wr (K3 σ l) wr bx) (hh:So cx.np ps gs=true) (hfl:fl=true->∀ r b,R r b->Iz r/\∀ lb∈b,Oh lb) (ha:Dn cx ρ σ a w) (hf:∀ j,j < 8->σ.U (tk + j)=false) (hdst:∀ t,o.dst=some t->t < cx.N)
  (hrun:(execOp a.eval o).run P w=.ok (.enter f avs.toArray) w) (hK:∀ e a' w',qN ps gs tk R e->Iq cx (σ.app o.dst e) a' w'->K a' w'):o.wp P a w K Q:=by
 unfold So at hh
 rw [<- hwr,Bool.and_eq_true] at hh
 obtain⟨hnd,hgn⟩:=hh
 have hpl:∀ k j,ps[k]?=some j->wr[k]?=some j:=fun k j h=>by
  rw [hwr,List.getElem?_append_left (List.getElem?_eq_some_iff.1 h).1]; exact h
 have hgs:∀ k j,ps.length<=k->wr[k]?=some j->j∈gs:=fun k j hk h=>by
  rw [hwr,List.getElem?_append_right hk] at h
  exact List.mem_of_getElem? h
 have hgnp:∀ j,j∈gs->cx.np<=j:=fun j hj=>Nat.le_of_ble_eq_true (List.all_eq_true.1 hgn j hj)
 have hgin:∀ j,j∈gs->∃ k,ps.length<=k/\k < wr.length/\wr[k]?=some j:=fun j hj=>by
  obtain⟨i,hi,rfl⟩:=aB6 hj
  refine⟨ps.length + i,by omega,by rw [hwr,List.length_append]; omega,?_⟩
  rw [hwr,List.getElem?_append_right (by omega),aCm,List.getElem?_eq_getElem hi]
 have hpw:ps.length<=wr.length:=by rw [hwr,List.length_append]; omega
 have hbl:=hB.length
 have hpsL:∀ k j,wr[k]?=some j->∃ lb,σ.L j=some lb/\∃ lb',bx[k]?=some lb'/\yC fl wr (K3 σ l) lb lb':=fun k j hk=>by
  obtain⟨lb,lb',h1,h2,h3⟩:=hB.at_ hk
  exact⟨lb,Ku h2,lb',h1,h3⟩
 have hargs:=G7.rep ha hA hrep
 have hi0:∀ k j,wr[k]?=some j->Gr wr 0 k=j:=fun k j h=>by unfold Gr; rw [h]
 have hit:∀ k j,ps[k]?=some j->Gr ps tk k=j:=fun k j h=>by unfold Gr; rw [h]
 have hgt:∀ k,ps.length<=k->Gr ps tk k=tk + (k - ps.length):=fun k h=>by unfold Gr; rw [aC5 h]
 have hin:∀ k,k < bx.length->∃ j,wr[k]?=some j:=fun k hk=>⟨wr[k]'(by omega),List.getElem?_eq_getElem (by omega)⟩
 have hUps:∀ k j,wr[k]?=some j->σ.U j=true:=fun k j h=>by
  obtain⟨lb,h1,-⟩:=hpsL k j h
  exact (ha.usedL _ _ h1).1
 have hcalls:=hF.2.2 (fun k=>ρ (Gr wr 0 k)) (fun b=>Jo cx σ ρ w b\/qS fl wr σ ρ b) w avs (fun b hb=>by
   have key:∀ k,k < bx.length->Cf (ρ (Gr wr 0 k))=some b->False:=fun k hk hbk=>by
    obtain⟨j,hj⟩:=hin k hk
    rw [hi0 k j hj] at hbk
    obtain⟨lb,h1,lb',-,hx⟩:=hpsL k j hj
    rcases hb with hb | ⟨-,j',lb',h2,h3,h4⟩
    ·exact hb.2.1 ⟨j,_,h1,hx.own.2 hbk⟩
    ·have:=ha.sep j j' _ _ b h1 h3 (hx.own.2 hbk) h4
     subst this
     exact h2 (List.mem_of_getElem? hj)
   refine⟨?_,fun k hk hbk=>key k hk hbk⟩
   rcases hb with hb | ⟨-,j',lb',h2,h3,h4⟩
   ·exact hb.1
   ·exact ((ha.lo _ _ h3).blk h4).1) hargs (fun k lb hlb=>by
   have hk:=(List.getElem?_eq_some_iff.1 hlb).1
   obtain⟨j,hj⟩:=hin k hk
   obtain⟨lb0,h1,lb1,h2,h3⟩:=hpsL k j hj
   rw [h2] at hlb
   injection hlb with hlb
   subst hlb
   show fO _ _ w (ρ (Gr wr 0 k)) _
   rw [hi0 k j hj]
   cases lb0 with
   | box ds ty=>
    obtain⟨ds',rfl,h4⟩:=h3
    obtain⟨b,vs,q1,q2,-,q4,q5⟩:=ha.lo _ _ h1
    exact⟨b,vs,q1,q2,q4,G7.rep ha h4 q5⟩
   | row e sz cs=>
    have h3:lb1=.row e sz cs:=h3
    subst h3
    obtain⟨n,us,q1,-,q3⟩:=ha.lo _ _ h1
    exact⟨n,us,q1,q3.keep_ (fun _ _=>rfl) fun b hb=>.inl hb⟩
   | map l=>exact h3.elim
   | mit k n s=>exact h3.elim
   | tree=>exact h3.elim
   | gho=>exact h3.elim
   | abs=>exact h3.elim
   | que e sz cs=>
    have h3:lb1=.que e sz cs:=h3
    subst h3
    obtain⟨n,us,q1,-,q3⟩:=ha.lo _ _ h1
    exact⟨n,us,q1,q3.keep_ (fun _ _=>rfl) fun b hb=>.inl hb⟩
   | vec ds e=>exact h3.elim) (fun k k' b hk hk' e1 e2=>by
   obtain⟨j,hj⟩:=hin k hk
   obtain⟨j',hj'⟩:=hin k' hk'
   simp only [hi0 k j hj] at e1
   simp only [hi0 k' j' hj'] at e2
   obtain⟨lb,h1,_,-,hx⟩:=hpsL k j hj
   obtain⟨lb',h1',_,-,hx'⟩:=hpsL k' j' hj'
   have:=ha.sep j j' _ _ b h1 h1' (hx.own.2 e1) (hx'.own.2 e2)
   subst this
   exact nI hnd hj hj')
 unfold Oper.wp
 rw [hrun]
 refine hcalls.mono ?_
 rintro e w' ⟨v,r,bx',rfl,hR,hback⟩
 obtain⟨⟨b1,b2⟩,⟨o1,o2,o3,o4⟩,hkept,⟨ρ',J,d1,d2,d3,d4,d5,d6⟩,⟨m1,m2⟩,hnt⟩:=hback
 have b1':ps.length<=bx'.length:=b1
 have b2':bx'.length<=ps.length + 8:=b2
 refine hK (Qc ps gs tk r bx') _ _ ⟨r,bx',hR,rfl,b1',b2'⟩ ?_
 have himp:∀ k,k < bx'.length->(∃ j,ps[k]?=some j/\Gr ps tk k=j)\/(ps.length<=k/\Gr ps tk k=tk + (k - ps.length)/\k - ps.length < 8):=fun k hk=>by
  rcases aCf k ps.length with h | h
  ·exact .inl ⟨ps[k],List.getElem?_eq_getElem h,hit k _ (List.getElem?_eq_getElem h)⟩
  ·exact .inr ⟨h,hgt k h,by omega⟩
 have hel:∀ k,(Qc ps gs tk r bx').l k=(match E7 (R1 ps tk 0 bx') k with | some lb=>some (some lb) | none=>bif gs.any (Nat.beq k) then some none else none):=fun _=>rfl
 have hel1:∀ k lb,(Qc ps gs tk r bx').l k=some (some lb)->∃ i x,bx'[i]?=some x/\k=Gr ps tk i/\lb=fJ (Gr ps tk) x:=fun k lb h=>by
  rw [hel] at h
  cases hl:E7 (R1 ps tk 0 bx') k with
  | none=>
   rw [hl] at h
   simp only [] at h
   cases D:gs.any (Nat.beq k) <;> rw [D] at h <;> cases h
  | some lb'=>
   rw [hl] at h
   injection h with h
   injection h with h
   subst h
   obtain⟨i,x,h1,h2,h3⟩:=Tb hl
   exact⟨i,x,h1,by simpa using h2,h3⟩
 have hel2:∀ i,i < bx'.length->(Qc ps gs tk r bx').l (Gr ps tk i)≠none:=fun i hi=>by
  obtain⟨lb,hlb⟩:=Yb (ps:=ps) (tk:=tk) (k:=0) (List.getElem?_eq_getElem hi)
  rw [aBj] at hlb
  rw [hel,hlb]
  simp
 have hel3:∀ j,j∈gs->(Qc ps gs tk r bx').l j≠none:=fun j hj=>by
  rw [hel]
  cases hl:E7 (R1 ps tk 0 bx') j with
  | some lb=>simp
  | none=>
   have:gs.any (Nat.beq j)=true:=aB5.2 ⟨j,hj,aC7 j⟩
   simp [this]
 let ρ2:Nat->Value:=fun k=>if tk<=k/\k < tk + 8 then ρ' (ps.length + (k - tk)) else ρ k
 have hρU:∀ k,σ.U k=true->ρ2 k=ρ k:=fun k hk=>by
  show (if tk<=k/\k < tk + 8 then _ else _)=_
  rw [if_neg]
  intro hh
  have:=hf (k - tk) (by omega)
  rw [show tk + (k - tk)=k by omega,hk] at this
  cases this
 have hρi:∀ i,i < bx'.length->ρ2 (Gr ps tk i)=ρ' i:=fun i hi=>by
  rcases himp i hi with ⟨j,h1,h2⟩ | ⟨h1,h2,h3⟩
  ·rw [h2,hρU j (hUps i j (hpl i j h1)),d1 i (List.getElem?_eq_some_iff.1 h1).1]
   show ρ j=ρ (Gr wr 0 i)
   rw [hi0 i j (hpl i j h1)]
  ·rw [h2]
   show (if tk<=_/\_ < tk + 8 then _ else _)=_
   rw [if_pos (by omega)]
   congr 1
   omega
 have hmo:∀ i x,bx'[i]?=some x->∀ k,M5 x k->ρ2 (Gr ps tk k)=ρ' k:=fun i x hx k hk=>hρi k (m2 i x hx k hk)
 refine⟨ρ2,ha.app (v:=v) ?_ o4 hdst hρU (fun b hb h=>hkept b hb fun k hk hbk=>?_) (fun k lb b h1 h2=>?_) (fun k k' lb lb' b h1 h2 h3 h4=>?_) (fun hI hI2=>?_) ⟨fun k lb k' h1 h2=>?_,fun d k' h1 h2=>?_⟩ (fun k lb b h1 h2 h3=>?_)⟩
 ·obtain⟨k1,k2,k3,k4,k5⟩:=ha.kept
  refine⟨o1.trans k1,o2.trans k2,o3.trans k3,aBo k4 o4,fun b hb hM=>(hkept b (aCi hb k4) fun k hk hbk=>?_).trans (k5 b hb hM)⟩
  obtain⟨j,hj⟩:=hin k hk
  simp only [hi0 k j hj] at hbk
  obtain⟨lb,h1,_,-,hx⟩:=hpsL k j hj
  rcases ((ha.lo _ _ h1).blk (hx.own.2 hbk)).2 with h | h
  ·omega
  ·exact hM h
 ·obtain⟨j,hj⟩:=hin k hk
  simp only [hi0 k j hj] at hbk
  obtain⟨lb,h1,_,-,hx⟩:=hpsL k j hj
  have hbk:=(hx.own (ρ:=ρ)).2 hbk
  rcases aCf k ps.length with hkp | hkp
  ·have hjp:ps[k]?=some j:=by
    rw [hwr,List.getElem?_append_left hkp] at hj; exact hj
   have:=hel2 k (by omega)
   rw [hit k j hjp] at this
   exact h j _ this h1 hbk
  ·exact h j _ (hel3 j (hgs k j hkp hj)) h1 hbk
 ·obtain⟨i,x,e1,rfl,rfl⟩:=hel1 k lb h1
  have hi:=(List.getElem?_eq_some_iff.1 e1).1
  rw [hρi i hi] at h2
  have h2:=Nb (hmo i x e1) h2
  rcases himp i hi with ⟨j,q1,q2⟩ | ⟨q1,q2,q3⟩
  ·right
   have hil:=(List.getElem?_eq_some_iff.1 q1).1
   obtain⟨lb0,q3,_,-,hx⟩:=hpsL i j (hpl i j q1)
   refine⟨j,_,?_,q3,hx.own.2 ?_⟩
   ·have:=hel2 i hi; rwa [q2] at this
   ·have h2:=gT (hnt i x hil e1) h2
    rw [d1 i hil] at h2
    simpa only [hi0 i j (hpl i j q1)] using h2
  ·rcases d5 i x b q1 e1 h2 with h4 | ⟨k,k1,k2,k3⟩
   ·exact .inl h4
   ·obtain⟨j,hj⟩:=hin k k2
    simp only [hi0 k j hj] at k3
    obtain⟨lb0,q4,_,-,hx⟩:=hpsL k j hj
    exact .inr ⟨j,_,hel3 j (hgs k j k1 hj),q4,hx.own.2 k3⟩
 ·obtain⟨i,x,e1,rfl,rfl⟩:=hel1 k lb h1
  obtain⟨i',x',e2,rfl,rfl⟩:=hel1 k' lb' h2
  have hi:=(List.getElem?_eq_some_iff.1 e1).1
  have hi':=(List.getElem?_eq_some_iff.1 e2).1
  rw [hρi i hi] at h3
  rw [hρi i' hi'] at h4
  rw [d6 i i' x x' b e1 e2 (Nb (hmo i x e1) h3) (Nb (hmo i' x' e2) h4)]
 ·have hJ:fl=false->∀ b,J b->Jo cx (σ.app o.dst (Qc ps gs tk r bx')) ρ2 w' b:=fun hfl0 b hb=>by
   obtain⟨j1,j2,j3⟩:=d2 b hb
   rcases aCf b w.heap.size with h | h
   ·rcases j2 h with (h1 | ⟨h1,-⟩) | ⟨k,k1,k2,k3⟩
    ·exact (hI b h1).1
    ·rw [hfl0] at h1; cases h1
    ·obtain⟨j,hj⟩:=hin k k2
     simp only [hi0 k j hj] at k3
     obtain⟨lb0,q4,_,-,hx⟩:=hpsL k j hj
     have k3:=(hx.own (ρ:=ρ)).2 k3
     have hjg:=hgs k j k1 hj
     refine⟨j1,?_,fun hlt=>?_⟩
     ·rintro⟨k',lb',h4,h5⟩
      cases hek:(Qc ps gs tk r bx').l k' with
      | none=>
       have h4':σ.L k'=some lb':=by simpa [St.app,hek] using h4
       rw [hρU k' (ha.usedL k' lb' h4').1] at h5
       have h5:=Pr (ρ':=ρ) (fun q hq=>(hρU q ((ha.usedL k' lb' h4').2 q hq)).symm) h5
       have:=ha.sep k' j lb' lb0 b h4' q4 h5 k3
       subst this
       exact hel3 k' hjg hek
      | some x=>
       have h4':x=some lb':=by simpa [St.app,hek] using h4
       subst h4'
       obtain⟨i,x,e1,rfl,rfl⟩:=hel1 k' lb' hek
       have hi:=(List.getElem?_eq_some_iff.1 e1).1
       rw [hρi i hi] at h5
       exact j3 i x e1 (Nb (hmo i x e1) h5)
     ·rcases ha.fresh j lb0 b q4 (hgnp j hjg) k3 with h6 | h6
      ·omega
      ·exact .inr h6
   ·refine hI2 b h j1 fun k lb h1 h2=>?_
    obtain⟨i,x,e1,rfl,rfl⟩:=hel1 k lb h1
    have hi:=(List.getElem?_eq_some_iff.1 e1).1
    rw [hρi i hi] at h2
    exact j3 i x e1 (Nb (hmo i x e1) h2)
  have hmapB:∀ i x,bx'[i]?=some x->Qy cx ρ2 (Jo cx (σ.app o.dst (Qc ps gs tk r bx')) ρ2 w') w' (ρ' i) (fJ (Gr ps tk) x):=fun i x hx=>by
   have hi:=(List.getElem?_eq_some_iff.1 hx).1
   have hb:=d4 i x hx
   cases x with
   | box ds ty=>
    obtain⟨b,vs,q1,q2,q3,q4,q5⟩:=hb
    refine⟨b,vs,q1,q2,?_,q4,?_⟩
    ·rcases q3 with q3 | ⟨k,hk,hk'⟩
     ·exact .inl (aBo ha.kept.2.2.2.1 q3)
     ·have hk:k < bx.length:=hk
      obtain⟨j,hj⟩:=hin k hk
      have hk':Cf (ρ (Gr wr 0 k))=some b:=hk'
      rw [hi0 k j hj] at hk'
      obtain⟨lb2,h1,_,-,hx⟩:=hpsL k j hj
      exact ((ha.lo _ _ h1).blk (hx.own.2 hk')).2
    ·have hm:∀ k,Ey ds k->ρ2 (Gr ps tk k)=ρ' k:=fun k hk=>hρi k (m2 i _ hx k hk)
     cases hfc:fl with
     | false=>exact Bj.map (hJ hfc) ds vs hm q5
     | true=>
      have hff:=(hfl hfc r bx' hR).2 _ (List.mem_of_getElem? hx)
      exact Bj.map (I:=Jo cx (σ.app o.dst (Qc ps gs tk r bx')) ρ2 w') (fun b hb=>hb) ds vs hm (Bj.flat ds vs hff q5)
   | row e sz cs=>
    obtain⟨n,us,q1,q3,q2⟩:=hb
    refine⟨n,us,q1,fun b hb=>?_,?_⟩
    ·rcases q3 b hb with q3 | ⟨k,hk,hk'⟩
     ·exact .inl (aBo ha.kept.2.2.2.1 q3)
     ·have hk:k < bx.length:=hk
      obtain⟨j,hj⟩:=hin k hk
      have hk':Cf (ρ (Gr wr 0 k))=some b:=hk'
      rw [hi0 k j hj] at hk'
      obtain⟨lb2,h1,_,-,hx⟩:=hpsL k j hj
      exact ((ha.lo _ _ h1).blk (hx.own.2 hk')).2
    ·cases hfc:fl with
     | false=>exact q2.keep_ (fun _ _=>rfl) (hJ hfc)
     | true=>
      have hff:=(hfl hfc r bx' hR).2 _ (List.mem_of_getElem? hx)
      exact q2.flat_any hff
   | que e sz cs=>
    obtain⟨n,us,q1,q3,q2⟩:=hb
    refine⟨n,us,q1,fun b hb=>?_,?_⟩
    ·rcases q3 b hb with q3 | ⟨k,hk,hk'⟩
     ·exact .inl (aBo ha.kept.2.2.2.1 q3)
     ·have hk:k < bx.length:=hk
      obtain⟨j,hj⟩:=hin k hk
      have hk':Cf (ρ (Gr wr 0 k))=some b:=hk'
      rw [hi0 k j hj] at hk'
      obtain⟨lb2,h1,_,-,hx⟩:=hpsL k j hj
      exact ((ha.lo _ _ h1).blk (hx.own.2 hk')).2
    ·cases hfc:fl with
     | false=>exact q2.keep_ (fun _ _=>rfl) (hJ hfc)
     | true=>
      have hff:=(hfl hfc r bx' hR).2 _ (List.mem_of_getElem? hx)
      exact q2.flat_any hff
   | map l=>
    obtain⟨g,q1,q2,q3⟩:=hb
    refine⟨g,q1,q2,?_⟩
    rcases q3 with q3 | ⟨k,hk,hk'⟩
    ·exact .inl (aBo ha.kept.2.2.2.1 q3)
    ·have hk:k < bx.length:=hk
     obtain⟨j,hj⟩:=hin k hk
     have hk':Cf (ρ (Gr wr 0 k))=some g:=hk'
     rw [hi0 k j hj] at hk'
     obtain⟨lb2,h1,_,-,hx⟩:=hpsL k j hj
     exact ((ha.lo _ _ h1).blk (hx.own.2 hk')).2
   | vec ds e=>
    obtain⟨b,vs,q1,q0,q2,q3,q4,q5⟩:=hb
    refine⟨b,vs,q1,q0,q2,?_,q4,?_⟩
    ·rcases q3 with q3 | ⟨k,hk,hk'⟩
     ·exact .inl (aBo ha.kept.2.2.2.1 q3)
     ·have hk:k < bx.length:=hk
      obtain⟨j,hj⟩:=hin k hk
      have hk':Cf (ρ (Gr wr 0 k))=some b:=hk'
      rw [hi0 k j hj] at hk'
      obtain⟨lb2,h1,_,-,hx⟩:=hpsL k j hj
      exact ((ha.lo _ _ h1).blk (hx.own.2 hk')).2
    ·have hm:∀ k,Ey ds k->ρ2 (Gr ps tk k)=ρ' k:=fun k hk=>hρi k (m2 i _ hx k hk)
     cases hfc:fl with
     | false=>exact Bj.map (hJ hfc) ds vs hm q5
     | true=>
      have hff:=(hfl hfc r bx' hR).2 _ (List.mem_of_getElem? hx)
      exact Bj.map (I:=Jo cx (σ.app o.dst (Qc ps gs tk r bx')) ρ2 w') (fun b hb=>hb) ds vs hm (Bj.flat ds vs hff q5)
   | gho=>trivial
   | abs ns S=>
    cases hfc:fl with
    | true=>exact ((hfl hfc r bx' hR).2 _ (List.mem_of_getElem? hx)).elim
    | false=>
     have e1:(ns.map (Gr ps tk)).map ρ2=ns.map ρ':=by rw [List.map_map]; exact aDz fun k hk=>hρi k (m2 i _ hx k hk)
     show S.R w' _ _ ((ns.map (Gr ps tk)).map ρ2)/\∀ b,S.own _ ((ns.map (Gr ps tk)).map ρ2) b->_
     rw [e1]
     refine⟨S.stab hb.1 (fun b hb=>⟨hJ hfc b hb,rfl⟩) fun _ _=>rfl,fun b hb2=>?_⟩
     rcases hb.2 b hb2 with q3 | ⟨k,hk,hk'⟩
     ·exact .inl (aBo ha.kept.2.2.2.1 q3)
     ·have hk:k < bx.length:=hk
      obtain⟨j,hj⟩:=hin k hk
      have hk':Cf (ρ (Gr wr 0 k))=some b:=hk'
      rw [hi0 k j hj] at hk'
      obtain⟨lb2,h1,_,-,hx⟩:=hpsL k j hj
      exact ((ha.lo _ _ h1).blk (hx.own.2 hk')).2
   | tree e sz o e2 sz2 s hh cs=>
    obtain⟨n,us,vs,q⟩:=hb
    have hM:∀ b,(w.heap.size<=b\/Cx.M ⟨w,fun b=>Jo cx σ ρ w b\/qS fl wr σ ρ b,fun k=>ρ (Gr wr 0 k),ps.length,bx.length,0⟩ b)->cx.w0.heap.size<=b\/cx.M b:=fun b q3=>by
     rcases q3 with q3 | ⟨k,hk,hk'⟩
     ·exact .inl (aBo ha.kept.2.2.2.1 q3)
     ·have hk:k < bx.length:=hk
      obtain⟨j,hj⟩:=hin k hk
      have hk':Cf (ρ (Gr wr 0 k))=some b:=hk'
      rw [hi0 k j hj] at hk'
      obtain⟨lb2,h1,_,-,hx⟩:=hpsL k j hj
      exact ((ha.lo _ _ h1).blk (hx.own.2 hk')).2
    cases hfc:fl with
    | true=>exact ((hfl hfc r bx' hR).2 _ (List.mem_of_getElem? hx)).elim
    | false=>
     refine⟨n,us,vs,q.ho,(hρi s (m2 i _ hx s rfl)).trans q.hs,q.row,q.hn,q.hl,fun b hb=>hM b (q.hM b hb),fun j c u a b d=>Dw.mono (q.flat j c u a b d) (hJ hfc),fun i' u a b=>?_,q.dist⟩
     obtain⟨q0,n2,us2,c2,q1,q2,q3,q4⟩:=q.nest i' u a b
     exact⟨q0,n2,us2,c2,q1,q2,q3.keep_ (fun _ _=>rfl) (hJ hfc),fun b hb=>⟨hM b (q4 b hb).1,(q4 b hb).2⟩⟩
   | mit k2 n s=>
    obtain⟨b,g,q1,q0,q2,q3⟩:=hb
    refine⟨b,g,q1,(hρi k2 (m2 i _ hx k2 rfl)).trans q0,q2,?_⟩
    rcases q3 with q3 | ⟨k,hk,hk'⟩
    ·exact .inl (aBo ha.kept.2.2.2.1 q3)
    ·have hk:k < bx.length:=hk
     obtain⟨j,hj⟩:=hin k hk
     have hk':Cf (ρ (Gr wr 0 k))=some b:=hk'
     rw [hi0 k j hj] at hk'
     obtain⟨lb2,h1,_,-,hx⟩:=hpsL k j hj
     exact ((ha.lo _ _ h1).blk (hx.own.2 hk')).2
  refine⟨fun k lb h1=>?_,fun d h1=>?_⟩
  ·obtain⟨i,x,e1,rfl,rfl⟩:=hel1 k lb h1
   rw [hρi i (List.getElem?_eq_some_iff.1 e1).1]
   exact hmapB i x e1
  ·injection h1 with h1
   subst h1
   have hm:∀ k,men r k->ρ2 (Gr ps tk k)=ρ' k:=fun k hk=>hρi k (m1 k hk)
   cases hfc:fl with
   | false=>exact B5.map (hJ hfc) r v hm d3
   | true=>exact B5.map (I:=Jo cx (σ.app o.dst (Qc ps gs tk r bx')) ρ2 w') (fun b hb=>hb) r v hm (B5.flat r v (hfl hfc r bx' hR).1 d3)
 ·obtain⟨i,x,e1,rfl,rfl⟩:=hel1 k lb h1
  obtain⟨j,q1,rfl⟩:=jE h2
  have hj:=m2 i x e1 j q1
  exact .inr (hel2 j hj)
 ·injection h1 with h1
  subst h1
  obtain⟨j,q1,rfl⟩:=gP r k' h2
  exact .inr (hel2 j (m1 j q1))
 ·obtain⟨i,x,e1,rfl,rfl⟩:=hel1 k lb h1
  have hi:=(List.getElem?_eq_some_iff.1 e1).1
  rw [hρi i hi] at h3
  have h3:=Nb (hmo i x e1) h3
  rcases himp i hi with ⟨j,q1,q2⟩ | ⟨q1,q2,q3⟩
  ·have hil:=(List.getElem?_eq_some_iff.1 q1).1
   obtain⟨lb0,q3,_,-,hx⟩:=hpsL i j (hpl i j q1)
   have h3:=gT (hnt i x hil e1) h3
   rw [d1 i hil] at h3
   simp only [hi0 i j (hpl i j q1)] at h3
   exact ha.fresh j lb0 b q3 (by rw [q2] at h2; exact h2) (hx.own.2 h3)
  ·rcases d5 i x b q1 e1 h3 with h4 | ⟨k,k1,k2,k3⟩
   ·exact .inl (aBo ha.kept.2.2.2.1 h4)
   ·obtain⟨j,hj⟩:=hin k k2
    simp only [hi0 k j hj] at k3
    obtain⟨lb0,q4,_,-,hx⟩:=hpsL k j hj
    have k3:=(hx.own (ρ:=ρ)).2 k3
    exact ha.fresh j lb0 b q4 (hgnp j (hgs k j k1 hj)) k3
theorem CallR.sound {tk:Nat} {op:Op} {ty:TypeId} {ds:List (DV×Option LB)} {env:X8} {wr:List Nat} {E:Ke->Prop} (h:CallR P cx.np tk op ty ds env wr E) (ha:Dn cx ρ σ a w) (hds:Ei σ (H6 op) op.operands.toList=some ds) {l0:List Nat} (henv:env=K3 σ l0) (hf:∀ j,j < 8->σ.U (tk + j)=false) (ho:o.op=op) (hdst:∀ t,o.dst=some t->t < cx.N)
  (hK:∀ e a' w',E e->Iq cx (σ.app o.dst e) a' w'->K a' w'):o.wp P a w K Q:=by
 subst henv
 cases h with
 | ext h=>exact h.sound ha hds rfl hf ho hdst hK
 | @call f xs tys _ dsA _ ps gs args bx R fl hF hA hB hnd hfl=>
  have hds':Ei σ true (.func f :: xs.toList)=some ((.val (.func (.func f) #[] #[]),none) :: dsA):=by
   have:(Op.call ⟨.value (.func f),xs,tys⟩).operands.toList=.func f :: xs.toList:=by simp [Op.operands,Call.operands]
   rw [<- this]; exact hds
  obtain⟨-,e2⟩:=Sb hds'
  refine Y6 rfl hF hA (Of ha e2).1 hB hnd hfl ha hf hdst ?_ hK
  have e1:(xs.toList.map a.eval).toArray=xs.map a.eval:=by rw [<- Array.toList_map,Array.toArray_toList]
  have h1:=hF.2.1 (xs.toList.map a.eval).toArray w
  rw [e1] at h1 ⊢
  have e4:a.eval (.func f)=.func (.func f) #[] #[]:=rfl
  have e3:(#[] ++ Array.map a.eval xs ++ #[]:Array Value)=Array.map a.eval xs:=by simp
  simp only [execOp,ho,resolve,e4,Deferred.ofValue,Sem.run_bind,Sem.run_pure,Result.andThen_ok,invoke,e3]
  exact h1
 | @callC t f n cs xs tys _ b dsA _ ps gs args bx R fl hF hA hB hnd hfl=>
  have hds':Ei σ true (.tmp t :: xs.toList)=some ((.clo f n cs,b) :: dsA):=by
   have:(Op.call ⟨.value (.tmp t),xs,tys⟩).operands.toList=.tmp t :: xs.toList:=by simp [Op.operands,Call.operands]
   rw [<- this]; exact hds
  obtain⟨e0,e2⟩:=Sb hds'
  obtain⟨h0,-,-⟩:=Ce ha e0
  unfold B5 at h0
  obtain⟨vs,hv,hr⟩:=h0
  have hr2:=(Of ha e2).1
  have tk1:Bj ρ (Jo cx σ ρ w) w (cs.take n) (vs.take n):=by have:=hr.sub 0 n; simpa using this
  have tk2:Bj ρ (Jo cx σ ρ w) w (cs.drop n) (vs.drop n):=by
   have:=hr.sub n cs.length
   have e1:(cs.drop n).take cs.length=cs.drop n:=aBl (by rw [List.length_drop]; omega)
   have e2:(vs.drop n).take cs.length=vs.drop n:=aBl (by rw [List.length_drop,hr.length]; omega)
   rw [e1,e2] at this
   exact this
  refine Y6 rfl hF hA (tk1.app (hr2.app tk2)) hB hnd hfl ha hf hdst ?_ hK
  have h1:=hF.2.1 (vs.take n ++ (xs.toList.map a.eval ++ vs.drop n)).toArray w
  have e5:((vs.take n).toArray ++ Array.map a.eval xs ++ (vs.drop n).toArray:Array Value)=(vs.take n ++ (xs.toList.map a.eval ++ vs.drop n)).toArray:=by
   apply Array.toList_inj.1
   simp
  simp only [execOp,ho,resolve,hv,Deferred.ofValue,Sem.run_bind,Sem.run_pure,Result.andThen_ok,invoke]
  rw [e5]
  exact h1
 | @callV t f xs tys _ b dsA _ ps gs args bx R fl hF hA hB hnd hfl=>
  have hds':Ei σ true (.tmp t :: xs.toList)=some ((.val (.func (.func f) #[] #[]),b) :: dsA):=by
   have:(Op.call ⟨.value (.tmp t),xs,tys⟩).operands.toList=.tmp t :: xs.toList:=by simp [Op.operands,Call.operands]
   rw [<- this]; exact hds
  obtain⟨e0,e2⟩:=Sb hds'
  have hv:=F1 ha e0
  refine Y6 rfl hF hA (Of ha e2).1 hB hnd hfl ha hf hdst ?_ hK
  have e1:(xs.toList.map a.eval).toArray=xs.map a.eval:=by rw [<- Array.toList_map,Array.toArray_toList]
  have h1:=hF.2.1 (xs.toList.map a.eval).toArray w
  rw [e1] at h1 ⊢
  have e3:(#[] ++ Array.map a.eval xs ++ #[]:Array Value)=Array.map a.eval xs:=by simp
  simp only [execOp,ho,resolve,hv,Deferred.ofValue,Sem.run_bind,Sem.run_pure,Result.andThen_ok,invoke,e3]
  exact h1
 | @nilE t X Y yt _ sz cs b1 b2 _ hn=>
  have hds':Ei σ false [X,Y]=some [(.sl sz cs,b1),(.val (.slice none 0 0),b2)]:=hds
  obtain⟨e1,e2⟩:=Lu hds'
  obtain⟨h1,-,-⟩:=Ce ha e1
  have hy:=F1 ha e2
  unfold B5 at h1
  obtain⟨A,n,c,hv,hl,hnc,hc⟩:=h1.slice
  obtain⟨e,hn⟩:=hn
  have hrun:(execOp a.eval o).run P w=.ok (.value (.bool A.isNone)) w:=by
   have h:=run_equal_slice_nil w t e A n c hn
   simp [execOp,ho,hv,hy,eqGuard,binOp,h]
  unfold Oper.wp
  rw [hrun]
  refine hK (v0 (.val (.bool A.isNone))) _ _ ⟨_,fun hA=>?_,rfl⟩ ⟨ρ,ha.put0 hdst (fun x hx=>by injection hx with hx; subst hx; exact Lg rfl) (fun x k hx hm=>by injection hx with hx; subst hx; exact fT k hm)⟩
  cases A with
  | some ad=>cases hA
  | none=>
   have h0:=h1
   rw [hv] at h0
   unfold Dw at h0
   obtain⟨A',n',cap,q1,q2,-,-,q3⟩:=h0
   injection q1 with q1 q4 q5
   rcases Nat.eq_zero_or_pos n' with h | h
   ·subst h; exact List.eq_nil_of_length_eq_zero (by simpa using q2)
   ·obtain⟨ad,q6,-⟩:=q3 h
    rw [<- q1] at q6; cases q6
theorem CallR.key {tk:Nat} {op:Op} {ty:TypeId} {ds:List (DV×Option LB)} {env:X8} {wr:List Nat} {E:Ke->Prop} {np:Nat} (h:CallR P np tk op ty ds env wr E):∀ e,E e->∀ k,e.l k≠none->k∈wr\/(tk<=k/\k < tk + 8):=by
 have key:∀ (ps gs:List Nat) (R:DV->List LB->Prop) e,qN ps gs tk R e->∀ k,e.l k≠none->k∈ps ++ gs\/(tk<=k/\k < tk + 8):=by
  rintro ps gs R e ⟨r,b,-,rfl,h1,h2⟩ k hk
  have hk':(match E7 (R1 ps tk 0 b) k with | some lb=>some (some lb) | none=>bif gs.any (Nat.beq k) then some none else none)≠none:=hk
  cases hl:E7 (R1 ps tk 0 b) k with
  | none=>
   rw [hl] at hk'
   simp only [] at hk'
   cases D:gs.any (Nat.beq k) with
   | false=>rw [D] at hk'; exact absurd rfl hk'
   | true=>
    obtain⟨x,q1,q2⟩:=aB5.1 D
    rw [Nat.eq_of_beq_eq_true q2]
    exact .inl (aB7 _ q1)
  | some lb=>
   obtain⟨i,x,e1,e2,-⟩:=Tb hl
   rw [aBj] at e2
   have hi:=(List.getElem?_eq_some_iff.1 e1).1
   unfold Gr at e2
   cases hw:ps[i]? with
   | some j=>rw [hw] at e2; simp only [] at e2; rw [e2]; exact .inl (aBx _ (List.mem_of_getElem? hw))
   | none=>
    rw [hw] at e2
    simp only [] at e2
    have:=List.getElem?_eq_none_iff.1 hw
    exact .inr (by omega)
 cases h with
 | call=>exact key _ _ _
 | callC=>exact key _ _ _
 | callV=>exact key _ _ _
 | nilE=>rintro e ⟨b,-,rfl⟩ k hk; exact absurd rfl hk
 | ext h=>exact h.key
theorem CallR.sub {tk:Nat} {op:Op} {ty:TypeId} {ds:List (DV×Option LB)} {env:X8} {wr:List Nat} {E:Ke->Prop} {np:Nat} (h:CallR P np tk op ty ds env wr E):∀ k,k∈wr->k∈env.map (·.1):=by
 have key:∀ {fl:Bool} {bx:List LB},Yh fl wr env wr bx->∀ k,k∈wr->k∈env.map (·.1):=fun hB k hk=>by
  obtain⟨i,hi,rfl⟩:=aB6 hk
  obtain⟨lb,lb',-,h2,-⟩:=hB.at_ (List.getElem?_eq_getElem hi)
  exact aBy.2 ⟨_,h2,rfl⟩
 cases h with
 | call fl hF hA hB=>exact key hB
 | callC fl hF hA hB=>exact key hB
 | callV fl hF hA hB=>exact key hB
 | nilE=>intro k hk; simp at hk
 | ext h=>exact h.sub
end
section
variable {P:Program} {cx:Cx} {σ:St} {a:Act} {w:World} {ρ:Nat->Value}
def X2 (sz:Nat) (cs:List C) (ks:List Nat):Ke:=⟨some (.sl sz cs),fun k=>bif ks.any (Nat.beq k) then some none else none⟩
abbrev zT (j:Nat) (k:Nat):Option Nat:=if k=j then none else some k
mutual
theorem Cv.self {j:Nat}:∀ d,(∀ k,men d k->k≠j)->Cv σ (zT j) d d
 | .val v,_=>.val v
 | .sl _ _,_=>.sl _ _
 | .slc _ _,_=>.slcc _ _
 | .mp _,_=>.mp _
 | .elt _,_=>.elt _
 | .row k,h=>.row (if_neg (h k (by unfold men; rfl)))
 | .part k _ _,h=>.part (if_neg (h k (by unfold men; rfl)))
 | .ptr k _,h=>.ptr (if_neg (h k (by unfold men; rfl)))
 | .nst k s _,h=>.nst (if_neg (h k (by unfold men; exact .inl rfl))) (if_neg (h s (by unfold men; exact .inr rfl)))
 | .npt k s _ _,h=>.npt (if_neg (h k (by unfold men; exact .inl rfl))) (if_neg (h s (by unfold men; exact .inr rfl)))
 | .npr k s _ _ _,h=>.npr (if_neg (h k (by unfold men; exact .inl rfl))) (if_neg (h s (by unfold men; exact .inr rfl)))
 | .qpt k _,h=>.qpt (if_neg (h k (by unfold men; rfl)))
 | .agg ds,h=>.agg (Ou.self ds fun k hk=>h k (by unfold men; exact hk))
 | .tup ds,h=>.tup (Ou.self ds fun k hk=>h k (by unfold men; exact hk))
 | .clo _ _ ds,h=>.clo _ _ (Ou.self ds fun k hk=>h k (by unfold men; exact hk))
theorem Ou.self {j:Nat}:∀ ds,(∀ k,Ey ds k->k≠j)->Ou σ (zT j) ds ds
 | [],_=>.nil
 | d :: ds,h=>.cons (Cv.self d fun k hk=>h k (by unfold Ey; exact .inl hk)) (Ou.self ds fun k hk=>h k (by unfold Ey; exact .inr hk))
end
theorem Iq.frzE {ρ0:Nat->Value} {a0:Act} {w00:World} (h0:Dn cx ρ0 σ a0 w00) {tk et sz:Nat} {cs:List C} {ks:List Nat} {dst:Option Tmp} (hf:σ.U tk=false) (h:Iq cx (σ.app dst (K4 tk (.row et sz cs) ks (.row tk))) a w):Iq cx (σ.app dst (Go.Proofs.YtlfeokjhphpjeaaGreat.X2 sz cs ks)) a w:=by
 obtain⟨ρ,ha⟩:=h
 have hnp:cx.np<=tk:=by
  rcases aCf tk cx.np with h | h
  ·have:=(h0.pin tk h).2
   rw [hf] at this; cases this
  ·exact h
 have hLtk:(σ.app dst (K4 tk (.row et sz cs) ks (.row tk))).L tk=some (.row et sz cs):=by
  show (match (bif Nat.beq tk tk then some (some (LB.row et sz cs)) else _) with | some x=>x | none=>σ.L tk)=_
  rw [aC7]
  rfl
 have hLne:∀ k,k≠tk->(σ.app dst (K4 tk (.row et sz cs) ks (.row tk))).L k=(σ.app dst (Go.Proofs.YtlfeokjhphpjeaaGreat.X2 sz cs ks)).L k:=fun k hk=>by
  show (match (bif Nat.beq k tk then some (some (LB.row et sz cs)) else (bif ks.any (Nat.beq k) then some none else none)) with | some x=>x | none=>σ.L k)=(match (bif ks.any (Nat.beq k) then some none else none) with | some x=>x | none=>σ.L k)
  have:Nat.beq k tk=false:=by
   cases hb:Nat.beq k tk with
   | false=>rfl
   | true=>exact absurd (Nat.eq_of_beq_eq_true hb) hk
  rw [this]
  rfl
 have B:∀ k,σ.U k=true->(σ.app dst (Go.Proofs.YtlfeokjhphpjeaaGreat.X2 sz cs ks)).U k=true:=fun k hk=>by
  show (σ.U k || _)=true
  rw [hk]; rfl
 have hLs:∀ k lb,(σ.app dst (Go.Proofs.YtlfeokjhphpjeaaGreat.X2 sz cs ks)).L k=some lb->σ.L k=some lb:=fun k lb hl=>by
  have hl':(match (bif ks.any (Nat.beq k) then some none else none) with | some x=>x | none=>σ.L k)=some lb:=hl
  cases hb:ks.any (Nat.beq k) with
  | true=>rw [hb] at hl'; cases hl'
  | false=>rw [hb] at hl'; exact hl'
 have hFs:∀ t d,(σ.app dst (Go.Proofs.YtlfeokjhphpjeaaGreat.X2 sz cs ks)).F t=some d->(dst=some t/\d=.sl sz cs)\/(dst≠some t/\σ.F t=some d):=fun t d hd=>by
  cases dst with
  | none=>exact .inr ⟨by simp,hd⟩
  | some t'=>
   by_cases h1:t=t'
   ·subst h1
    have:(σ.app (some t) (Go.Proofs.YtlfeokjhphpjeaaGreat.X2 sz cs ks)).F t=some (.sl sz cs):=Sq _ _ _
    rw [this] at hd
    injection hd with hd
    exact .inl ⟨rfl,hd.symm⟩
   ·have:(σ.app (some t') (Go.Proofs.YtlfeokjhphpjeaaGreat.X2 sz cs ks)).F t=σ.F t:=L4 _ _ h1
    rw [this] at hd
    exact .inr ⟨fun h=>by injection h with h; exact h1 h.symm,hd⟩
 refine⟨_,(ha.ren (σ':=σ.app dst (Go.Proofs.YtlfeokjhphpjeaaGreat.X2 sz cs ks)) (zT tk) (fun t d' hd=>?_) (fun k lb' hl=>?_) (fun k k' i h1 h2=>?_) (fun k hk=>⟨if_neg (by omega),B k (h0.pin k hk).2⟩) (fun t d k hd hm=>?_) (fun k lb hl=>?_)).1⟩
 ·rcases hFs t d' hd with ⟨rfl,rfl⟩ | ⟨h1,h2⟩
  ·refine⟨.row tk,Sq _ _ _,.frz hLtk fun k hk=>?_⟩
   unfold zT at hk
   split at hk
   ·cases hk
   ·rename_i hne
    injection hk with hk
    exact hne hk
  ·refine⟨d',?_,Cv.self d' fun k hk hkt=>?_⟩
   ·cases dst with
    | none=>exact h2
    | some t'=>exact (L4 _ _ fun h=>h1 (by rw [h])).trans h2
   ·have:=h0.usedF t d' k h2 hk
    rw [hkt,hf] at this; cases this
 ·have h1:=hLs k lb' hl
  have hk:k≠tk:=fun h=>by
   have:=(h0.usedL k _ h1).1
   rw [h,hf] at this; cases this
  refine .inl ⟨k,lb',if_neg hk,(hLne k hk).trans hl,?_⟩
  cases lb' with
  | row e s c=>exact⟨rfl,rfl,rfl⟩
  | map l=>exact rfl
  | gho=>trivial
  | abs ns S=>
   refine⟨aDz fun j hj=>if_neg fun h=>?_,rfl⟩
   have:=(h0.usedL k _ h1).2 j hj
   rw [h,hf] at this
   cases this
  | que e s c=>exact⟨rfl,rfl,rfl⟩
  | tree e sz o e2 sz2 s hh cs=>
   refine⟨rfl,rfl,rfl,rfl,rfl,if_neg fun h=>?_,rfl,rfl⟩
   have:=(h0.usedL k _ h1).2 s rfl
   rw [h,hf] at this
   cases this
  | mit k2 n s=>
   refine⟨if_neg fun h=>?_,rfl,rfl⟩
   have:=(h0.usedL k _ h1).2 k2 rfl
   rw [h,hf] at this
   cases this
  | vec ds e=>exact⟨rfl,Ou.self ds fun k' hk' hkt=>by
    have:=(h0.usedL k _ h1).2 k' hk'
    rw [hkt,hf] at this; cases this⟩
  | box ds ty=>exact⟨rfl,Ou.self ds fun k' hk' hkt=>by
    have:=(h0.usedL k _ h1).2 k' hk'
    rw [hkt,hf] at this; cases this⟩
 ·unfold zT at h1 h2
  split at h1
  ·cases h1
  ·split at h2
   ·cases h2
   ·injection h1 with h1
    injection h2 with h2
    omega
 ·rcases hFs t d hd with ⟨rfl,rfl⟩ | ⟨h1,h2⟩
  ·unfold men at hm; exact hm.elim
  ·exact B k (h0.usedF t d k h2 hm)
 ·have h1:=h0.usedL k _ (hLs k lb hl)
  exact⟨B k h1.1,fun k' hk'=>B k' (h1.2 k' hk')⟩
end
def zB (fz:List Nat) (tk:Nat):Bool:=fz.any (Nat.beq tk)
def zM (fz:List Nat) (tk:Nat):Nat:=bif zB fz tk then 1 else 0
def Nx (np:Nat) (op:Op) (wr:List Nat):Bool:=!nG op || wr.all fun k=>Nat.ble np k
theorem bJ {np:Nat} {op:Op} {wr:List Nat} (h:Nx np op wr=true):nG op=true->∀ k∈wr,np<=k:=fun h1 k hk=>by
 unfold Nx at h
 rw [h1] at h
 exact Nat.le_of_ble_eq_true (List.all_eq_true.1 h k hk)
theorem qU {P:Program} {np tk:Nat} {op:Op} {ty:TypeId} {ds:List (DV×Option LB)} {env:X8} {wr wr':List Nat} {e:Ke} {E:Ke->Prop} (h:E6 P tk op ty ds wr e) (h':CallR P np tk op ty ds env wr' E):False:=by
 cases h' with
 | call=>cases h
 | callC=>cases h
 | callV=>cases h
 | nilE=>cases h with | binOpA q=>simp [K1] at q
 | ext h'=>exact h'.excl h
def OpZ (P:Program) (np:Nat) (fz:List Nat) (tk:Nat) (op:Op) (ty:TypeId) (ds:List (DV×Option LB)) (wr:List Nat) (e:Ke):Prop:=
 Nx np op wr=true/\((zM fz tk=0/\E6 P tk op ty ds wr e)\/(zM fz tk=1/\∃ e0 et sz cs,E6 P tk op ty ds wr e0/\e0=K4 tk (.row et sz cs) wr (.row tk)/\e=X2 sz cs wr))
def Bb (P:Program) (cx:Cx) (fz:List Nat):qC P cx where
 R:=OpZ P cx.np fz
 C:=CallR P cx.np
 soundR:=by
  intro tk op ty ds wr e h ρ σ a w ha hds hf o ho hty hdst K Q hK
  have hf0:σ.U tk=false:=by have:=hf 0 (by omega); simpa using this
  obtain⟨hap,h⟩:=h
  rcases h with ⟨-,h⟩ | ⟨-,e0,et,sz,cs,h,rfl,rfl⟩
  ·exact h.sound ha hds hf0 ho hty hdst (bJ hap) hK
  ·exact h.sound ha hds hf0 ho hty hdst (bJ hap) fun a' w' h'=>hK a' w' (Iq.frzE ha hf0 h')
 soundC:=by
  intro tk op ty ds env wr E h ρ σ a w ha hds henv hf o ho hty hdst K Q hK
  obtain⟨l0,henv⟩:=henv
  exact h.sound ha hds henv hf ho hdst hK
 func:=by
  intro w tk op ty ds wr e wr' e' h h'
  rcases h with ⟨-,⟨z,h⟩ | ⟨z,e0,et,sz,cs,h,q1,rfl⟩⟩ <;> rcases h' with ⟨-,⟨z',h'⟩ | ⟨z',e0',et',sz',cs',h',q1',rfl⟩⟩
  ·exact h.func w h'
  ·rw [z] at z'; cases z'
  ·rw [z] at z'; cases z'
  ·obtain⟨rfl,e1⟩:=h.func w h'
   refine⟨rfl,?_⟩
   rw [q1,q1'] at e1
   have:=congrFun (congrArg Ke.l e1) tk
   have this:(bif Nat.beq tk tk then some (some (LB.row et sz cs)) else _)=(bif Nat.beq tk tk then some (some (LB.row et' sz' cs')) else _):=this
   rw [aC7] at this
   injection this with this
   injection this with this
   injection this with t1 t2 t3
   rw [t2,t3]
 excl:=by
  intro tk op ty ds env wr e wr' E h h'
  rcases h with ⟨-,⟨-,h⟩ | ⟨-,e0,et,sz,cs,h,-⟩⟩ <;> exact qU h h'
 keyR:=by
  intro tk op ty ds wr e h
  rcases h with ⟨-,⟨-,h⟩ | ⟨-,e0,et,sz,cs,h,-,rfl⟩⟩
  ·exact h.key
  ·intro k hk
   have hk':(bif wr.any (Nat.beq k) then some (none:Option LB) else none)≠none:=hk
   cases hb:wr.any (Nat.beq k) with
   | false=>rw [hb] at hk'; exact absurd rfl hk'
   | true=>
    obtain⟨j,hj,hj'⟩:=aB5.1 hb
    rw [Nat.eq_of_beq_eq_true hj']
    exact .inl hj
 keyC:=fun h=>h.key
 subR:=by
  intro tk op ty ds wr e h
  rcases h with ⟨-,⟨-,h⟩ | ⟨-,e0,et,sz,cs,h,-⟩⟩
  ·exact h.sub
  ·exact h.sub
 subC:=fun h=>h.sub
 simC:=by
  intro tk op ty ds ds' env wr E h hs
  cases h with
  | ext h=>exact .ext (h.sim hs)
  | call fl hF hA hB hnd hfl=>rw [<- We.eq (show We false _ _ from hs)]; exact .call fl hF hA hB hnd hfl
  | callC fl hF hA hB hnd hfl=>rw [<- We.eq (show We false _ _ from hs)]; exact .callC fl hF hA hB hnd hfl
  | callV fl hF hA hB hnd hfl=>rw [<- We.eq (show We false _ _ from hs)]; exact .callV fl hF hA hB hnd hfl
  | nilE hn=>rw [<- We.eq (show We false _ _ from hs)]; exact .nilE hn
 sim:=by
  intro tk op ty ds ds' wr e h hs
  rcases h with ⟨hap,⟨hz,h⟩ | ⟨hz,e0,et,sz,cs,h,he,h'⟩⟩
  ·exact⟨hap,.inl ⟨hz,h.sim hs⟩⟩
  ·exact⟨hap,.inr ⟨hz,e0,et,sz,cs,h.sim hs,he,h'⟩⟩
end Go.Proofs.YtlfeokjhphpjeaaGreat
namespace Go.Proofs.YtlfeokjhphpjeaaGreat
open Go.RowKit
section
variable {P:Program} {cx:Cx} {ops:Array Oper} {Rt:Option (List Nat)} {nb i:Nat} {l:List Oper} {lg:fY} {σ:St} {Q:St->Prop} {fz:List Nat}
theorem Fe {dst:Option Tmp} {op:Op} {ty:TypeId} {pos:String} {af:Array Edge} {g:Option (Nat×Bool)} {ds:List (DV×Option LB)} {rd wr:List Nat} {e:Ke} (D:Jg ops σ ⟨dst,op,ty,pos,af,g⟩=some true) (hds:Ei σ (H6 op) op.operands.toList=some ds) (h:E6 P (nb + 8 * i) op ty ds wr e)
  (hrd:(bif H6 op then I8 (Jv op) ds else [])=rd) (hok:J9 Rt i false (nb + 8 * i) rd wr lg=true) (k:Em (Bb P cx fz) ops Rt nb (Ex (i + 1) l) ((i,false,nb + 8 * i,rd,wr) :: lg) (σ.app dst e) Q) (hz:zM fz (nb + 8 * i)=0:=by rfl) (hap:Nx cx.np op wr=true:=by rfl) :
  Em (Bb P cx fz) ops Rt nb (Ex i (⟨dst,op,ty,pos,af,g⟩ :: l)) lg σ Q:=
 .inl ⟨_,wr,e,.inr ⟨D,ds,hds,⟨hap,.inl ⟨hz,h⟩⟩,hrd.symm⟩,hok,k⟩
theorem Hq {dst:Option Tmp} {op:Op} {ty:TypeId} {pos:String} {af:Array Edge} {g:Option (Nat×Bool)} {ds:List (DV×Option LB)} {rd wr:List Nat} {e:Ke} {et sz:Nat} {cs:List C} (D:Jg ops σ ⟨dst,op,ty,pos,af,g⟩=some true) (hds:Ei σ (H6 op) op.operands.toList=some ds) (h:E6 P (nb + 8 * i) op ty ds wr e) (he:e=K4 (nb + 8 * i) (.row et sz cs) wr (.row (nb + 8 * i)))
  (hrd:(bif H6 op then I8 (Jv op) ds else [])=rd) (hok:J9 Rt i false (nb + 8 * i) rd wr lg=true) (k:Em (Bb P cx fz) ops Rt nb (Ex (i + 1) l) ((i,false,nb + 8 * i,rd,wr) :: lg) (σ.app dst (X2 sz cs wr)) Q) (hz:zM fz (nb + 8 * i)=1:=by rfl) (hap:Nx cx.np op wr=true:=by rfl) :
  Em (Bb P cx fz) ops Rt nb (Ex i (⟨dst,op,ty,pos,af,g⟩ :: l)) lg σ Q:=
 .inl ⟨_,wr,_,.inr ⟨D,ds,hds,⟨hap,.inr ⟨hz,e,et,sz,cs,h,he,rfl⟩⟩,hrd.symm⟩,hok,k⟩
theorem qX {dst:Option Tmp} {op:Op} {ty:TypeId} {pos:String} {af:Array Edge} {g:Option (Nat×Bool)} (D:Jg ops σ ⟨dst,op,ty,pos,af,g⟩=some false)
  (hok:J9 Rt i false (nb + 8 * i) [] [] lg=true) (k:Em (Bb P cx fz) ops Rt nb (Ex (i + 1) l) ((i,false,nb + 8 * i,[],[]) :: lg) (σ.app dst dF) Q) :
  Em (Bb P cx fz) ops Rt nb (Ex i (⟨dst,op,ty,pos,af,g⟩ :: l)) lg σ Q:=
 .inl ⟨_,_,_,.inl ⟨D,rfl,rfl,rfl⟩,hok,k⟩
theorem Ef {dst:Option Tmp} {op:Op} {ty:TypeId} {pos:String} {af:Array Edge} {g:Nat} {b c:Bool} {t:Tmp} (ht:(ops[g]?).bind (·.dst)=some t) (hF:σ.F t=some (.val (.bool c))) (hc:c=b):Jg ops σ ⟨dst,op,ty,pos,af,some (g,b)⟩=some true:=by
 subst hc
 unfold Jg
 simp only []
 rw [ht]
 simp only []
 rw [hF]
 simp
theorem sL {dst:Option Tmp} {op:Op} {ty:TypeId} {pos:String} {af:Array Edge} {g:Nat} {b c:Bool} {t:Tmp} (ht:(ops[g]?).bind (·.dst)=some t) (hF:σ.F t=some (.val (.bool c))) (hc:c=!b):Jg ops σ ⟨dst,op,ty,pos,af,some (g,b)⟩=some false:=by
 subst hc
 unfold Jg
 simp only []
 rw [ht]
 simp only []
 rw [hF]
 cases b <;> rfl
theorem lX {f:FuncId} {xs:Array Operand} {tys:Array TypeId} {dsA:List (DV×Option LB)} (h:Ei σ true xs.toList=some dsA):Ei σ (H6 (.call ⟨.value (.func f),xs,tys⟩)) (Op.call ⟨.value (.func f),xs,tys⟩).operands.toList=some ((.val (.func (.func f) #[] #[]),none) :: dsA):=by
 have:(Op.call ⟨.value (.func f),xs,tys⟩).operands.toList=.func f :: xs.toList:=by simp [Op.operands,Call.operands]
 rw [this]
 show Ei σ true (.func f :: xs.toList)=_
 unfold Ei
 rw [h]
 rfl
theorem jK {t:Tmp} {xs:Array Operand} {tys:Array TypeId} {q:DV×Option LB} {dsA:List (DV×Option LB)} (h0:ev σ true (.tmp t)=some q) (h:Ei σ true xs.toList=some dsA):Ei σ (H6 (.call ⟨.value (.tmp t),xs,tys⟩)) (Op.call ⟨.value (.tmp t),xs,tys⟩).operands.toList=some (q :: dsA):=by
 have:(Op.call ⟨.value (.tmp t),xs,tys⟩).operands.toList=.tmp t :: xs.toList:=by simp [Op.operands,Call.operands]
 rw [this]
 show Ei σ true (.tmp t :: xs.toList)=_
 unfold Ei
 rw [h0,h]
theorem Eh {dst:Option Tmp} {f:FuncId} {xs:Array Operand} {tys:Array TypeId} {ty:TypeId} {pos:String} {af:Array Edge} {g:Option (Nat×Bool)} {dsA:List (DV×Option LB)} {rd ps gs:List Nat} {args:List DV} {bx:List LB} {R:DV->List LB->Prop} (fl:Bool)
  (D:Jg ops σ ⟨dst,.call ⟨.value (.func f),xs,tys⟩,ty,pos,af,g⟩=some true)
  (hF:Fn P f ps.length args bx R) (hds:Ei σ true xs.toList=some dsA) (hrd:Ov σ 3 (Qe dsA)=rd) (hA:G7 fl (ps ++ gs) (K3 σ rd) (dsA.map (·.1)) args) (hB:Yh fl (ps ++ gs) (K3 σ rd) (ps ++ gs) bx) (hnd:So cx.np ps gs=true) (hfl:fl=true->∀ r b,R r b->Iz r/\∀ lb∈b,Oh lb)
  (hok:J9 Rt i true (nb + 8 * i) rd (ps ++ gs) lg=true) (hne:Rt.isSome=true->∃ r b,R r b/\ps.length<=b.length/\b.length<=ps.length + 8)
  (k:∀ r b,R r b->Em (Bb P cx fz) ops Rt nb (Ex (i + 1) l) ((i,true,nb + 8 * i,rd,ps ++ gs) :: lg) (σ.app dst (Qc ps gs (nb + 8 * i) r b)) Q) :
  Em (Bb P cx fz) ops Rt nb (Ex i (⟨dst,.call ⟨.value (.func f),xs,tys⟩,ty,pos,af,g⟩ :: l)) lg σ Q:=by
 subst hrd
 refine .inr ⟨_,ps ++ gs,_,⟨D,_,lX hds,.call fl hF hA hB hnd hfl,by rw [<- aAv]; rfl⟩,hok,fun h=>?_,?_⟩
 ·obtain⟨r,b,h1,h2,h3⟩:=hne h
  exact⟨_,r,b,h1,rfl,h2,h3⟩
 ·rintro e ⟨r,b,h1,rfl,-,-⟩
  exact k r b h1
theorem Jw {dst:Option Tmp} {t:Tmp} {f:FuncId} {n:Nat} {cs:List DV} {q:Option LB} {xs:Array Operand} {tys:Array TypeId} {ty:TypeId} {pos:String} {af:Array Edge} {g:Option (Nat×Bool)} {dsA:List (DV×Option LB)} {rd ps gs:List Nat} {args:List DV} {bx:List LB} {R:DV->List LB->Prop} (fl:Bool)
  (D:Jg ops σ ⟨dst,.call ⟨.value (.tmp t),xs,tys⟩,ty,pos,af,g⟩=some true) (hc:ev σ true (.tmp t)=some (.clo f n cs,q))
  (hF:Fn P f ps.length args bx R) (hds:Ei σ true xs.toList=some dsA) (hrd:Ov σ 3 (Ma cs ++ Qe dsA)=rd) (hA:G7 fl (ps ++ gs) (K3 σ rd) (cs.take n ++ (dsA.map (·.1) ++ cs.drop n)) args) (hB:Yh fl (ps ++ gs) (K3 σ rd) (ps ++ gs) bx) (hnd:So cx.np ps gs=true) (hfl:fl=true->∀ r b,R r b->Iz r/\∀ lb∈b,Oh lb)
  (hok:J9 Rt i true (nb + 8 * i) rd (ps ++ gs) lg=true) (hne:Rt.isSome=true->∃ r b,R r b/\ps.length<=b.length/\b.length<=ps.length + 8)
  (k:∀ r b,R r b->Em (Bb P cx fz) ops Rt nb (Ex (i + 1) l) ((i,true,nb + 8 * i,rd,ps ++ gs) :: lg) (σ.app dst (Qc ps gs (nb + 8 * i) r b)) Q) :
  Em (Bb P cx fz) ops Rt nb (Ex i (⟨dst,.call ⟨.value (.tmp t),xs,tys⟩,ty,pos,af,g⟩ :: l)) lg σ Q:=by
 subst hrd
 refine .inr ⟨_,ps ++ gs,_,⟨D,_,jK hc hds,.callC fl hF hA hB hnd hfl,by rw [<- aAv]; rfl⟩,hok,fun h=>?_,?_⟩
 ·obtain⟨r,b,h1,h2,h3⟩:=hne h
  exact⟨_,r,b,h1,rfl,h2,h3⟩
 ·rintro e ⟨r,b,h1,rfl,-,-⟩
  exact k r b h1
theorem gG {dst:Option Tmp} {t yt:TypeId} {X Y:Operand} {ty:TypeId} {pos:String} {af:Array Edge} {g:Option (Nat×Bool)} {sz:Nat} {cs:List C} {b1 b2:Option LB}
  (D:Jg ops σ ⟨dst,.binOp .eql t X Y yt,ty,pos,af,g⟩=some true) (hds:Ei σ false [X,Y]=some [(.sl sz cs,b1),(.val (.slice none 0 0),b2)]) (hn:∃ e,P.underlying t=some (.slice e))
  (hok:J9 Rt i true (nb + 8 * i) [] [] lg=true) (k:∀ b:Bool,(b=true->cs=[])->Em (Bb P cx fz) ops Rt nb (Ex (i + 1) l) ((i,true,nb + 8 * i,[],[]) :: lg) (σ.app dst (v0 (.val (.bool b)))) Q) :
  Em (Bb P cx fz) ops Rt nb (Ex i (⟨dst,.binOp .eql t X Y yt,ty,pos,af,g⟩ :: l)) lg σ Q:=by
 refine .inr ⟨_,[],_,⟨D,_,hds,.nilE hn,rfl⟩,hok,fun h=>⟨_,false,fun h=>(by cases h),rfl⟩,?_⟩
 rintro e ⟨b,h1,rfl⟩
 exact k b h1
theorem Zz {dst:Option Tmp} {op:Op} {ty:TypeId} {pos:String} {af:Array Edge} {g:Option (Nat×Bool)} {ds:List (DV×Option LB)} {rd wr:List Nat} {E:Ke->Prop}
  (D:Jg ops σ ⟨dst,op,ty,pos,af,g⟩=some true) (hds:Ei σ (H6 op) op.operands.toList=some ds) (hx:ExtR P cx.np (nb + 8 * i) op ty ds (K3 σ rd) wr E) (hrd:Ov σ 3 (aAu (Jv op) ds)=rd)
  (hok:J9 Rt i true (nb + 8 * i) rd wr lg=true) (hne:Rt.isSome=true->∃ e,E e) (k:∀ e,E e->Em (Bb P cx fz) ops Rt nb (Ex (i + 1) l) ((i,true,nb + 8 * i,rd,wr) :: lg) (σ.app dst e) Q) :
  Em (Bb P cx fz) ops Rt nb (Ex i (⟨dst,op,ty,pos,af,g⟩ :: l)) lg σ Q:=by
 subst hrd
 exact .inr ⟨_,wr,_,⟨D,_,hds,.ext hx,rfl⟩,hok,hne,k⟩
theorem zP {Q:Exit->St->Prop} {nb':Nat} (h:(∀ j,nb'<=j->σ.U j=false)->Q .normal σ):Em (Bb P cx fz) ops Rt nb (Ex i []) lg σ (fun σ'=>(∀ j,nb'<=j->σ'.U j=false)->Q .normal σ'):=h
theorem Az {fl:List (Nat×DV)} {ll:List (Nat×LB)} {n:Nat}:∀ k,n<=k->(mk fl ll n).U k=false:=fun k hk=>by
 show Nat.blt k n=false
 cases h:Nat.blt k n with
 | false=>rfl
 | true=>have:k + 1<=n:=Nat.le_of_ble_eq_true h; omega
end
section
variable {P:Program} {t:TypeId} {X Y:Operand}
abbrev BO (P:Program) (op:BinOp) (t:TypeId) (X Y:Operand) (vx vy v:Value):Prop:=∀ w,(do eqGuard op t X Y vx vy; binOp op t vx vy:Sem Value).run P w=.ok v w
theorem vS {k:IntKind} {x y:Int}:BO P .lss t X Y (.int k x) (.int k y) (.bool (decide (x < y))):=fun w=>by simp [eqGuard,binOp,Op.intCmp]
theorem tZ {k:IntKind} {x y:Int}:BO P .leq t X Y (.int k x) (.int k y) (.bool (decide (x<=y))):=fun w=>by simp [eqGuard,binOp,Op.intCmp]
theorem vQ {k:IntKind} {x y:Int}:BO P .gtr t X Y (.int k x) (.int k y) (.bool (decide (y < x))):=fun w=>by simp [eqGuard,binOp,Op.intCmp]
theorem tN {k:IntKind} {x y:Int}:BO P .geq t X Y (.int k x) (.int k y) (.bool (decide (y<=x))):=fun w=>by simp [eqGuard,binOp,Op.intCmp]
theorem uZ {k:IntKind} {x y:Int}:BO P .eql t X Y (.int k x) (.int k y) (.bool (decide (x=y))):=fun w=>by
 simp [eqGuard,binOp,Op.intCmp]
 rfl
theorem wE {k:IntKind} {x y:Int}:BO P .neq t X Y (.int k x) (.int k y) (.bool (decide (x≠y))):=fun w=>by
 simp [eqGuard,binOp,Op.intCmp]
 rfl
theorem pX {k:IntKind} {x y:Int}:BO P .add t X Y (.int k x) (.int k y) (.int k (k.wrap (x + y))):=fun w=>by simp [eqGuard,binOp,Op.intArith]
theorem qR {k:IntKind} {x y:Int}:BO P .sub t X Y (.int k x) (.int k y) (.int k (k.wrap (x - y))):=fun w=>by simp [eqGuard,binOp,Op.intArith]
theorem gA {k:IntKind} {x y:Int}:BO P .mul t X Y (.int k x) (.int k y) (.int k (k.wrap (x * y))):=fun w=>by simp [eqGuard,binOp,Op.intArith]
theorem wH {k:IntKind} {x y:Int} (h:y≠0):BO P .rem t X Y (.int k x) (.int k y) (.int k (x.tmod y)):=fun w=>by simp [eqGuard,binOp,Op.intDiv,h]
theorem wL {k:IntKind} {x y:Int} (h:y≠0):BO P .quo t X Y (.int k x) (.int k y) (.int k (k.wrap (x.tdiv y))):=fun w=>by simp [eqGuard,binOp,Op.intDiv,h]
theorem Y1 (a b:ByteArray):(a.toList == b.toList)=decide (a=b):=by
 rw [ByteArray.toList_eq,ByteArray.toList_eq]
 by_cases h:a=b
 ·subst h; simp
 ·rw [decide_eq_false h]
  refine beq_eq_false_iff_ne.2 fun e=>h ?_
  cases a; cases b
  simp only [ByteArray.mk.injEq]
  exact Array.toList_inj.1 e
theorem qW {a b:ByteArray}:BO P .eql t X Y (.string a) (.string b) (.bool (decide (a=b))):=fun w=>by
 simp [eqGuard,binOp,Op.stringOp,Y1]
theorem pC {a b:ByteArray}:BO P .neq t X Y (.string a) (.string b) (.bool (decide (a≠b))):=fun w=>by
 simp [eqGuard,binOp,Op.stringOp,Y1]
theorem wK {b:Bool}:∀ w,(Op.unary .not (.bool b)).run P w=.ok (.bool (!b)) w:=fun w=>by simp [Op.unary]
theorem Zc {src dst:TypeId} {k k':IntKind} {n:Int} (hs:(P.underlying src).isSome=true) (hd:P.underlying dst=some (.int k')):∀ w,(convert src dst (.int k n)).run P w=.ok (.int k' (k'.wrap n)) w:=fun w=>by
 obtain⟨d,hd'⟩:=Option.isSome_iff_exists.mp hs
 simp [convert,run_underlying hd',run_underlying hd,Conv.intToInt]
end
end Go.Proofs.YtlfeokjhphpjeaaGreat
