import Derived.Test.YtfanepojdefdpaaGreatEX
import Derived.Laws.Cover3
import Derived.IntWalk
import Derived.Laws.StructEq
set_option linter.unusedVariables false
set_option linter.unusedSimpArgs false
namespace Go.Proofs.YtfanepojdefdpaaGreat
open Go.RowKit
def Jq:List C->Prop
 | []=>True
 | .int k n :: l=>(k.min<=n/\n<=k.max)/\Jq l
 | .bool _ :: l=>Jq l
 | .str s :: l=>s.size<=maxLen/\Jq l
 | .raw _ :: l=>Jq l
 | .mp _ :: l=>Jq l
 | .sl sz cs :: l=>(∃ n,cs.length=n * sz/\n<=maxLen)/\Jq cs/\Jq l
mutual
theorem D3.ok {w:World} {S:Nat->Prop}:∀ (c:C) (v:Value),D3 w S c v->Jq [c]
 | .int k n,v,h=>by unfold Jq; unfold D3 at h; exact⟨h.2,by unfold Jq; trivial⟩
 | .bool _,_,_=>by unfold Jq; unfold Jq; trivial
 | .str s,v,h=>by unfold Jq; unfold D3 at h; exact⟨h.2,by unfold Jq; trivial⟩
 | .raw _,_,_=>by unfold Jq; unfold Jq; trivial
 | .mp _,_,_=>by unfold Jq; unfold Jq; trivial
 | .sl sz cs,v,h=>by
  unfold Jq
  unfold D3 at h
  obtain⟨A,n,cap,h1,h2,h3,h4,h5⟩:=h
  refine⟨⟨n,h2,aFj h3 h4⟩,?_,by unfold Jq; trivial⟩
  rcases aFa n with h0 | h0
  ·subst h0
   have:cs=[]:=aDu (by simpa using h2)
   subst this
   unfold Jq; trivial
  ·obtain⟨ad,-,-,h8⟩:=h5 h0
   exact Jl.ok ad cs 0 h8
theorem Jl.ok {w:World} {S:Nat->Prop} (ad:Addr):∀ (cs:List C) (i:Nat),Jl w S ad i cs->Jq cs
 | [],_,_=>by unfold Jq; trivial
 | c :: cs,i,h=>by
  unfold Jl at h
  obtain⟨⟨u,_,h1⟩,h2⟩:=h
  have a:=D3.ok c u h1
  have b:=Jl.ok ad cs (i + 1) h2
  cases c <;> unfold Jq at a ⊢ <;> first | exact⟨a.1,b⟩ | exact b | exact⟨a.1,a.2.1,b⟩
end
theorem lB {w:World} {S:Nat->Prop}:∀ {cs:List C} {us:List Value},Fb w S cs us->Jq cs
 | [],_,_=>by unfold Jq; trivial
 | c :: cs,[],h=>by have:=h.1; simp at this
 | c :: cs,u :: us,h=>by
  have a:=D3.ok c u (h.2 0 c u rfl rfl)
  have b:=lB (cs:=cs) (us:=us) ⟨by simpa using h.1,fun j c' u' x y=>h.2 (j + 1) c' u' (by simpa using x) (by simpa using y)⟩
  cases c <;> unfold Jq at a ⊢ <;> first | exact⟨a.1,b⟩ | exact b | exact⟨a.1,a.2.1,b⟩
mutual
def cR:DV->Prop
 | .sl sz cs=>(∃ n,cs.length=n * sz/\n<=maxLen)/\Jq cs
 | .slc sz cs=>(∃ n,cs.length=n * sz/\n<=maxLen)/\Jq cs
 | .mp _=>True
 | .elt cs=>Jq cs
 | .agg ds=>gI ds
 | .tup ds=>gI ds
 | .clo _ _ _=>True
 | .val _=>True
 | .row _=>True
 | .part _ _ _=>True
 | .ptr _ _=>True
 | .nst _ _ _=>True
 | .npt _ _ _ _=>True
 | .npr _ _ _ _ _=>True
 | .qpt _ _=>True
def gI:List DV->Prop
 | []=>True
 | d :: ds=>cR d/\gI ds
end
def okB:LB->Prop
 | .box ds _=>gI ds
 | .row _ sz cs=>(∃ n,cs.length=n * sz/\n<=maxLen)/\Jq cs
 | .map _=>True
 | .mit ..=>True
 | .vec ds _=>gI ds
 | .tree ..=>True
 | .gho=>True
 | .abs ..=>True
 | .que ..=>True
mutual
theorem B7.ok {ρ:Nat->Value} {I:Nat->Prop} {w:World}:∀ (d:DV) (v:Value),B7 ρ I w d v->cR d
 | .val _,_,_=>by unfold cR; trivial
 | .sl sz cs,v,h=>by
  unfold B7 at h
  have:=D3.ok _ _ h
  unfold Jq at this
  unfold cR
  exact⟨this.1,this.2.1⟩
 | .mp _,_,_=>by unfold cR; trivial
 | .slc sz cs,v,h=>by
  unfold B7 at h
  have:=D3.ok _ _ h.1
  unfold Jq at this
  unfold cR
  exact⟨this.1,this.2.1⟩
 | .row _,_,_=>by unfold cR; trivial
 | .part _ _ _,_,_=>by unfold cR; trivial
 | .ptr _ _,_,_=>by unfold cR; trivial
 | .nst _ _ _,_,_=>by unfold cR; trivial
 | .npt _ _ _ _,_,_=>by unfold cR; trivial
 | .npr _ _ _ _ _,_,_=>by unfold cR; trivial
 | .qpt _ _,_,_=>by unfold cR; trivial
 | .elt cs,v,h=>by
  unfold B7 at h
  obtain⟨ad,-,-,h⟩:=h
  unfold cR
  exact Jl.ok ad cs 0 h
 | .agg ds,v,h=>by
  unfold B7 at h
  obtain⟨vs,-,-,h⟩:=h
  unfold cR
  exact Bk.ok ds vs h
 | .clo _ _ _,_,_=>by unfold cR; trivial
 | .tup ds,v,h=>by
  unfold B7 at h
  obtain⟨vs,-,h⟩:=h
  unfold cR
  exact Bk.ok ds vs h
theorem Bk.ok {ρ:Nat->Value} {I:Nat->Prop} {w:World}:∀ (ds:List DV) (vs:List Value),Bk ρ I w ds vs->gI ds
 | [],_,_=>by unfold gI; trivial
 | d :: ds,vs,h=>by
  unfold Bk at h
  obtain⟨u,us,-,h1,h2⟩:=h
  unfold gI
  exact⟨B7.ok d u h1,Bk.ok ds us h2⟩
end
theorem N3.ok {cx:Cx} {ρ:Nat->Value} {I:Nat->Prop} {w:World} {v:Value} {lb:LB} (h:N3 cx ρ I w v lb):okB lb:=by
 cases lb with
 | box ds ty=>
  obtain⟨b,vs,-,-,-,-,h5⟩:=h
  exact Bk.ok ds vs h5
 | row e sz cs=>
  obtain⟨n,us,ho,-,hr⟩:=h
  refine⟨⟨n,by rw [hr.1,ho.1],?_⟩,lB hr⟩
  rcases ho.2 with ⟨-,-,rfl⟩ | ⟨g,cap,cur,-,-,-,h2,h3,-⟩
  ·exact aFb _
  ·exact aFj h2 h3
 | map l=>trivial
 | mit k n s=>trivial
 | tree=>trivial
 | gho=>trivial
 | abs=>trivial
 | que=>trivial
 | vec ds e=>
  obtain⟨b,vs,-,-,-,-,-,h5⟩:=h
  exact Bk.ok ds vs h5
def bE (P:Program) (f:FuncId):Prop:=∀ (vs:Array Value) (w:World),(callFunc f vs).run P w=.ok (.enter f vs) w
theorem bE.of {P:Program} {f:FuncId} {fn:Func} (hf:P.funcs[f]?=some fn) (hn:(fn.name == "runtime.NumGoroutine")=false) (hb:fn.body.isNone=false):bE P f:=by
 intro vs w
 simp only [callFunc,Sem.run_bind,run_program,Result.andThen_ok,hf,hn,hb,aHx,if_false,Sem.run_pure]
def ix:Nat->List LB->List (Nat×LB)
 | _,[]=>[]
 | k,x :: l=>(k,x) :: ix (k + 1) l
theorem kZ:∀ {l:List LB} {k i:Nat},D5 (ix k l) (k + i)=l[i]?
 | [],k,i=>by simp [ix,D5]
 | x :: l,k,0=>by simp [ix,D5]
 | x :: l,k,i + 1=>by
  unfold ix D5
  have:Nat.beq (k + (i + 1)) k=false:=by
   cases h:Nat.beq (k + (i + 1)) k with
   | false=>rfl
   | true=>have:=aDr h; omega
  rw [this]
  simp only [aCc]
  rw [show k + (i + 1)=(k + 1) + i by omega,kZ]
  simp
theorem pF {l:List LB} {k:Nat} {lb:LB}:D5 (ix 0 l) k=some lb↔l[k]?=some lb:=by
 have:=kZ (l:=l) (k:=0) (i:=k)
 rw [aE6] at this
 rw [this]
def noT:LB->Bool
 | .tree ..=>false
 | .abs ..=>false
 | _=>true
theorem lA {ρ:Nat->Value} {v:Value} {lb:LB} {b:Nat} (h:noT lb=true) (ho:own ρ v lb b):Br v=some b:=by
 cases lb with
 | tree=>cases h
 | abs=>cases h
 | gho=>exact ho.elim
 | _=>exact ho
structure aDh (ρ:Nat->Value) (I:Nat->Prop) (w:World) (np nq:Nat) (v:Value) (r:DV) (bx:List LB) (w':World):Prop where
 le:np<=bx.length/\bx.length<=np + 8
 os:w'.os=w.os/\w'.tape=w.tape/\w'.output=w.output/\w.heap.size<=w'.heap.size
 kept:∀ b,b < w.heap.size->(∀ k,k < nq->Br (ρ k)≠some b)->w'.heap[b]?=w.heap[b]?
 data:∃ (ρ':Nat->Value) (J:Nat->Prop),(∀ k,k < np->ρ' k=ρ k)/\(∀ b,J b->b < w'.heap.size/\(b < w.heap.size->I b\/∃ k,np<=k/\k < nq/\Br (ρ k)=some b)/\∀ k lb,bx[k]?=some lb->¬ own ρ' (ρ' k) lb b)/\B7 ρ' J w' r v/\
  (∀ (k:Nat) (lb:LB),bx[k]?=some lb->N3 ⟨w,I,ρ,np,nq,0⟩ ρ' J w' (ρ' k) lb)/\(∀ k lb b,np<=k->bx[k]?=some lb->own ρ' (ρ' k) lb b->w.heap.size<=b\/∃ k,np<=k/\k < nq/\Br (ρ k)=some b)/\
  (∀ k k' lb lb' b,bx[k]?=some lb->bx[k']?=some lb'->own ρ' (ρ' k) lb b->own ρ' (ρ' k') lb' b->k=k')
 men:(∀ k,Go.Proofs.YtfanepojdefdpaaGreat.men r k->k < bx.length)/\∀ (k:Nat) (lb:LB),bx[k]?=some lb->∀ k',Nq lb k'->k' < bx.length
 nt:∀ (k:Nat) (lb:LB),k < np->bx[k]?=some lb->noT lb=true
def kO (ρ:Nat->Value) (I:Nat->Prop) (w:World) (v:Value):LB->Prop
 | .box ds ty=>∃ b vs,v=.pointer (some ⟨b,0,none⟩)/\w.heap[b]?=some (.cells vs.toArray ty)/\(∀ u∈vs,u.oneCell'=true)/\Bk ρ I w ds vs
 | .row e sz cs=>∃ n us,w.rowOk e sz v n us/\Fb w I cs us
 | .que e sz cs=>∃ n us,w.queOk e sz v n us/\Fb w I cs us
 | _=>False
theorem kO.own {ρ:Nat->Value} {I:Nat->Prop} {w:World} {v:Value} {lb:LB} {b:Nat} (h:kO ρ I w v lb) (ho:Go.Proofs.YtfanepojdefdpaaGreat.own ρ v lb b):Br v=some b:=by
 cases lb with
 | box ds ty=>exact ho
 | row e sz cs=>exact ho
 | que e sz cs=>exact ho
 | _=>exact h.elim
def Fn (P:Program) (f:FuncId) (np:Nat) (args:List DV) (bx:List LB) (R:DV->List LB->Prop):Prop:=
 np<=bx.length/\bE P f/\∀ (ρ:Nat->Value) (I:Nat->Prop) (w:World) (vs:List Value),
  (∀ b,I b->b < w.heap.size/\∀ k,k < bx.length->Br (ρ k)≠some b)->Bk ρ I w args vs->(∀ k lb,bx[k]?=some lb->kO ρ I w (ρ k) lb)->
  (∀ k k' b,k < bx.length->k' < bx.length->Br (ρ k)=some b->Br (ρ k')=some b->k=k')->
  Calls P f vs.toArray w fun e w'=>∃ v r bx',e=.returned v/\R r bx'/\aDh ρ I w np bx.length v r bx' w'
theorem Fn.mono {P:Program} {f np:Nat} {args:List DV} {bx:List LB} {R R':DV->List LB->Prop} (h:Fn P f np args bx R) (hr:∀ r b,R r b->R' r b):Fn P f np args bx R':=
 ⟨h.1,h.2.1,fun ρ I w vs a b c d=>(h.2.2 ρ I w vs a b c d).mono (by rintro e w' ⟨v,r,bx',h1,h2,h3⟩; exact⟨v,r,bx',h1,hr r bx' h2,h3⟩)⟩
inductive nQ (P:Program) (σ:St):ResultVar->DV->Prop
 | tmp {t d} (h:σ.F t=some d):nQ P σ (.tmp t) d
 | cell1 {t ty k ds bt sz d} (h:σ.F t=some (.ptr k 0)) (hl:σ.L k=some (.box ds bt)) (ht:Ty P ty false sz) (hd:ds[0]?=some d):nQ P σ (.cell t ty) d
 | cellA {t ty k ds bt sz} (h:σ.F t=some (.ptr k 0)) (hl:σ.L k=some (.box ds bt)) (ht:Ty P ty true sz) (hs:ds.length=sz):nQ P σ (.cell t ty) (.agg ds)
inductive Pn (P:Program) (σ:St):List ResultVar->List DV->Prop
 | nil:Pn P σ [] []
 | cons {x d l ds} (h:nQ P σ x d) (hs:Pn P σ l ds):Pn P σ (x :: l) (d :: ds)
def qS:List DV->DV
 | [d]=>d
 | ds=>.tup ds
def bR:Nat->List DV->List (Nat×DV)
 | _,[]=>[]
 | k,d :: l=>(k,d) :: bR (k + 1) l
section
variable {P:Program} {cx:Cx} {ρ:Nat->Value} {σ:St} {a:Act} {w:World}
theorem nQ.run (ha:Dr cx ρ σ a w) {x:ResultVar} {d:DV} (h:nQ P σ x d):∃ v,(match x with | .tmp t=>(pure (a.tmps.getD t undef):Sem Value) | .cell b t=>do loadVar t (<- asAddr (a.tmps.getD b undef))).run P w=.ok v w/\B7 ρ (I4 cx σ ρ w) w d v/\∀ k,men d k->σ.U k=true:=by
 cases h with
 | tmp h=>exact⟨_,rfl,ha.fr _ _ h,fun k hk=>ha.usedF _ _ k h hk⟩
 | cell1 h hl ht hd=>
  have h1:=ha.fr _ _ h
  unfold B7 at h1
  obtain⟨g,D,hv⟩:=h1
  obtain⟨g',vs,q1,q2,-,q4,q5⟩:=ha.lo _ _ hl
  rw [q1] at D
  injection D with D
  subst D
  obtain⟨v,hv',hd'⟩:=q5.at_ hd
  have hc:w.cell? ⟨g',0,none⟩=some v:=by simp [World.cell?,q2,hv']
  refine⟨v,?_,hd',fun k hk=>(ha.usedL _ _ hl).2 k (by unfold Nq; exact Mp.menL_at hd hk)⟩
  have:=Oa (w:=w) ht hc
  simp only [Instr.loadAt,Instr.sureAddr,Sem.run_bind,Sem.run_pure,Result.andThen_ok] at this
  simp only [hv,asAddr,Sem.run_bind,Sem.run_pure,Result.andThen_ok,this]
 | @cellA t ty k ds bt sz h hl ht hs=>
  have h1:=ha.fr _ _ h
  unfold B7 at h1
  obtain⟨g,D,hv⟩:=h1
  obtain⟨g',vs,q1,q2,-,q4,q5⟩:=ha.lo _ _ hl
  rw [q1] at D
  injection D with D
  subst D
  refine⟨.agg vs.toArray,?_,by unfold B7; exact⟨vs,rfl,q4,q5⟩,fun k hk=>(ha.usedL _ _ hl).2 k (by unfold Nq; unfold men at hk; exact hk)⟩
  have:=N6 (w:=w) ht (ad:=⟨g',0,none⟩) (vs:=vs) (by rw [<- q5.length]; exact hs) (fun j v hj=>by rw [I9,aE6]; simp [World.cell?,q2,hj])
  simp only [Instr.loadAt,Instr.sureAddr,Sem.run_bind,Sem.run_pure,Result.andThen_ok] at this
  simp only [hv,asAddr,Sem.run_bind,Sem.run_pure,Result.andThen_ok,this]
end
end Go.Proofs.YtfanepojdefdpaaGreat
namespace Go.Proofs.YtfanepojdefdpaaGreat
open Go.RowKit
section
variable {P:Program} {cx:Cx} {ρ:Nat->Value} {σ:St} {a:Act} {w:World}
def rv (a:Act):ResultVar->Sem Value
 | .tmp t=>pure (a.tmps.getD t undef)
 | .cell b t=>do loadVar t (<- asAddr (a.tmps.getD b undef))
theorem gQ (fn:Func) (a:Act):results fn a.tmps=(do let vs <- fn.results.mapM (rv a); pure (if h:vs.size=1 then vs[0] else .tuple vs)):=by
 unfold results
 congr 1
theorem Pn.run (ha:Dr cx ρ σ a w):∀ {l:List ResultVar} {ds:List DV},Pn P σ l ds->∃ vs:List Value,(l.mapM (rv a)).run P w=.ok vs w/\Bk ρ (I4 cx σ ρ w) w ds vs/\∀ k,E3 ds k->σ.U k=true
 | _,_,.nil=>⟨[],by simp,by simp [Bk],fun k hk=>by unfold E3 at hk; exact hk.elim⟩
 | _,_,.cons (x:=x) h hs=>by
  obtain⟨v,h1,h2,h3⟩:=h.run ha
  obtain⟨vs,k1,k2,k3⟩:=hs.run ha
  refine⟨v :: vs,?_,by unfold Bk; exact⟨v,vs,rfl,h2,k2⟩,fun k hk=>?_⟩
  ·have h1':(rv a x).run P w=.ok v w:=by cases x <;> exact h1
   rw [List.mapM_cons]
   simp only [Sem.run_bind,h1',Result.andThen_ok,k1,Sem.run_pure]
  ·unfold E3 at hk
   rcases hk with hk | hk
   ·exact h3 k hk
   ·exact k3 k hk
theorem fP (ha:Dr cx ρ σ a w) {fn:Func} {ds:List DV} (h:Pn P σ fn.results.toList ds):∃ v,(results fn a.tmps).run P w=.ok v w/\B7 ρ (I4 cx σ ρ w) w (qS ds) v:=by
 obtain⟨vs,h1,h2,h3⟩:=h.run ha
 have hm:(fn.results.mapM (rv a)).run P w=.ok vs.toArray w:=by
  rw [Array.mapM_eq_mapM_toList,Sem.run_map,h1]
  rfl
 have hr:∀ v,v=(if h:vs.toArray.size=1 then vs.toArray[0] else .tuple vs.toArray)->(results fn a.tmps).run P w=.ok v w:=fun v hv=>by
  rw [gQ,Sem.run_bind,hm]
  simp only [Result.andThen_ok,Sem.run_pure]
  rw [hv]
 have hlen:=h2.length
 match ds,vs,h2,hlen,hr with
 | [d],[v],h2,_,hr=>
  unfold Bk at h2
  obtain⟨u,us,e1,e2,-⟩:=h2
  injection e1 with e1 _
  subst e1
  exact⟨v,hr v (by simp),e2⟩
 | [],[],h2,_,hr=>exact⟨.tuple #[],hr _ (by simp),by unfold qS B7; exact⟨[],rfl,h2⟩⟩
 | d :: d2 :: ds,v :: v2 :: vs,h2,_,hr=>exact⟨.tuple (v :: v2 :: vs).toArray,hr _ (by simp),by unfold qS B7; exact⟨_,rfl,h2⟩⟩
def Fin (P:Program) (fn:Func) (np:Nat) (R:DV->List LB->Prop) (σ:St):Prop:=
 ∃ ds r bx θ,Pn P σ fn.results.toList ds/\R r bx/\Cv σ (D5 θ) (qS ds) r/\nP σ (D5 θ) (ix 0 bx)/\nL [(0,r)] (ix 0 bx) bx.length θ=true/\iR θ bx.length np=true/\Nat.ble np bx.length=true/\Nat.ble bx.length (np + 8)=true/\(bx.take np).all noT=true
def aDx (P:Program) (fn:Func) (np:Nat) (R:DV->List LB->Prop):Exit->St->Prop
 | .ret,σ=>Fin P fn np R σ
 | .normal,σ=>Fin P fn np R σ
 | _,_=>False
theorem Fin.out {w0:World} {I:Nat->Prop} {ρ0:Nat->Value} {np nq N:Nat} {fn:Func} {R:DV->List LB->Prop} (h:Fin P fn np R σ) (hq:np<=nq) (ha:Dr ⟨w0,I,ρ0,np,nq,N⟩ ρ σ a w) :
  ∃ v,(results fn a.tmps).run P w=.ok v w/\∃ r bx,R r bx/\aDh ρ0 I w0 np nq v r bx w:=by
 obtain⟨ds,r,bx,θ,h1,h2,h3,h4,h5,h6,h7,h8,h9⟩:=h
 obtain⟨v,hv,hr⟩:=fP (P:=P) ha h1
 have hle:np<=bx.length/\bx.length<=np + 8:=⟨aC3 h7,aC3 h8⟩
 simp only [nL,aCe,aEb] at h5
 obtain⟨⟨c1,c2⟩,c3⟩:=h5
 obtain⟨hA,hC⟩:=ha.ren (σ':=mk [] (ix 0 bx) bx.length) (D5 θ) (fun t d' hd=>by simp [mk,D5] at hd) (fun k lb hl=>Yp h4 _ (E4 hl)) (fun k k' j x y=>gL c3 (E4 x) (E4 y)) (fun k hk=>Ue h6 k hk)
  (fun t d k hd hm=>by simp [mk,D5] at hd) (fun k lb hl=>by
   have:=c2 _ (E4 hl)
   exact⟨this.1,fun k' hk'=>Wg this.2 k' hk'⟩)
 have hL:∀ k lb,(mk [] (ix 0 bx) bx.length).L k=some lb↔bx[k]?=some lb:=fun k lb=>pF
 have live:∀ k,k < bx.length->∃ lb,(mk [] (ix 0 bx) bx.length).L k=some lb:=fun k hk=>⟨bx[k],(hL k _).2 (aA1 hk)⟩
 obtain⟨k1,k2,k3,k4,k5⟩:=ha.kept
 refine⟨v,hv,r,bx,h2,hle,⟨k1,k2,k3,k4⟩,fun b hb hn=>k5 b hb ?_,⟨Om (D5 θ) ρ,I4 ⟨w0,I,ρ0,np,nq,N⟩ (mk [] (ix 0 bx) bx.length) (Om (D5 θ) ρ) w,fun k hk=>(hA.pin k hk).1,fun b hb=>⟨hb.1,hb.2.2,fun k lb hlb hbk=>?_⟩,hC _ _ _ h3 hr,fun k lb hlb=>?_,fun k lb b hk1 hlb hb=>?_,fun k k' lb lb' b hlb hlb' e1 e2=>?_⟩,⟨fun k hk=>?_,fun k lb hlb k' hk'=>?_⟩,fun k lb hk hlb=>aEb.1 h9 lb (aEy (by rw [aE9,if_pos hk]; exact hlb))⟩
 ·rintro⟨k,hk,hb'⟩
  exact hn k hk hb'
 ·exact hb.2.1 ⟨k,lb,(hL k lb).2 hlb,hbk⟩
 ·have:=hA.lo k lb ((hL k lb).2 hlb)
  cases lb with
  | tree e sz o e2 sz2 s hh cs=>
   obtain⟨n,us,vs,q⟩:=this
   exact⟨n,us,vs,q.ho,q.hs,q.row,q.hn,q.hl,q.hM,q.flat,q.nest,q.dist⟩
  | _=>exact this
 ·exact hA.fresh k lb b ((hL k lb).2 hlb) hk1 hb
 ·exact hA.sep k k' lb lb' b ((hL k lb).2 hlb) ((hL k' lb').2 hlb') e1 e2
 ·have:=cW (c1 _ (aDv.2 rfl)) k hk
  exact aC3 this
 ·have:=Wg (c2 _ (E4 ((hL k lb).2 hlb))).2 k' hk'
  exact aC3 this
theorem Xy:∀ {l:List DV} {k i:Nat},D5 (bR k l) (k + i)=l[i]?
 | [],k,i=>by simp [bR,D5]
 | x :: l,k,0=>by simp [bR,D5]
 | x :: l,k,i + 1=>by
  unfold bR D5
  have:Nat.beq (k + (i + 1)) k=false:=by
   cases h:Nat.beq (k + (i + 1)) k with
   | false=>rfl
   | true=>have:=aDr h; omega
  rw [this]
  simp only [aCc]
  rw [show k + (i + 1)=(k + 1) + i by omega,Xy]
  simp
theorem Fn.of {f np:Nat} {fn:Func} {c:Code} {args:List DV} {bx:List LB} {R:DV->List LB->Prop} (hf:P.funcs[f]?=some fn) (hb:fn.body=some c) (hn:(fn.name == "runtime.NumGoroutine")=false)
  (hchk:(dC bx.length args && (bx.all (ltB bx.length) && Nat.ble args.length fn.ntmps && Nat.ble np bx.length))=true) (h:∀ w0 I ρ0,Ca P ⟨w0,I,ρ0,np,bx.length,fn.ntmps⟩ c (aDx P fn np R) (mk (bR 0 args) (ix 0 bx) bx.length)):Fn P f np args bx R:=by
 simp only [aCe,aEb] at hchk
 obtain⟨c1,⟨c2,c3⟩,c4⟩:=hchk
 have c4:=aC3 c4
 refine⟨c4,bE.of hf hn (by rw [hb]; rfl),fun ρ I w vs hI hargs hbx hsep=>?_⟩
 have hlen:=hargs.length
 have hN:args.length<=fn.ntmps:=aC3 c3
 have hmk:∀ k lb,(mk (bR 0 args) (ix 0 bx) bx.length).L k=some lb↔bx[k]?=some lb:=fun k lb=>pF
 have hbl:∀ k lb,bx[k]?=some lb->k < bx.length:=fun k lb h=>(aBw.1 h).1
 have himm:∀ b,I b->I4 ⟨w,I,ρ,np,bx.length,fn.ntmps⟩ (mk (bR 0 args) (ix 0 bx) bx.length) ρ w b:=fun b hb=>⟨(hI b hb).1,by
  rintro⟨k,lb,h1,h2⟩
  exact (hI b hb).2 k (hbl k lb ((hmk k lb).1 h1)) ((hbx k lb ((hmk k lb).1 h1)).own h2),fun _=>.inl hb⟩
 have hA:Dr ⟨w,I,ρ,np,bx.length,fn.ntmps⟩ ρ (mk (bR 0 args) (ix 0 bx) bx.length) { tmps:=vs.toArray ++ Array.replicate (fn.ntmps - vs.toArray.size) undef,defers:=[] } w:=by
  refine⟨rfl,by simp; omega,⟨rfl,rfl,rfl,aFf _,fun _ _ _=>rfl⟩,fun t d hd=>?_,fun k lb hl=>?_,fun k k' lb lb' b h1 h2 h3 h4=>hsep k k' b (hbl k lb ((hmk k lb).1 h1)) (hbl k' lb' ((hmk k' lb').1 h2)) ((hbx k lb ((hmk k lb).1 h1)).own h3) ((hbx k' lb' ((hmk k' lb').1 h2)).own h4),fun t d k hd hm=>?_,fun k lb hl=>?_,fun k hk=>⟨rfl,aFx (aGq hk c4)⟩,fun k lb b hl=>?_⟩
  ·have hd':args[t]?=some d:=by
    have:=Xy (l:=args) (k:=0) (i:=t)
    rw [aE6] at this
    rw [<- this]
    exact hd
   obtain⟨v,hv,hr⟩:=hargs.at_ hd'
   have e1:(vs.toArray ++ Array.replicate (fn.ntmps - vs.toArray.size) undef).getD t undef=v:=by
    have hlt:=(aBw.1 hv).1
    simp [aIa,hlt]
    simpa [hlt] using hv
   rw [e1]
   exact B7.step (fun b hb=>⟨himm b hb,rfl⟩) d v (fun _ _=>rfl) hr
  ·have hlb:=(hmk k lb).1 hl
   have hB:=hbx k lb hlb
   cases lb with
   | box ds ty=>
    obtain⟨b,us,q1,q2,q3,q4⟩:=hB
    exact⟨b,us,q1,q2,.inr ⟨k,hbl k _ hlb,by show Br (ρ k)=some b; rw [q1]; rfl⟩,q3,Bk.step (fun b hb=>⟨himm b hb,rfl⟩) ds us (fun _ _=>rfl) q4⟩
   | row e sz cs=>
    obtain⟨n,us,q1,q2⟩:=hB
    exact⟨n,us,q1,fun b hb=>.inr ⟨k,hbl k _ hlb,hb⟩,q2.keep_ (fun _ _=>rfl) fun b hb=>himm b hb⟩
   | map l=>exact hB.elim
   | mit k n s=>exact hB.elim
   | vec ds e=>exact hB.elim
   | tree=>exact hB.elim
   | gho=>exact hB.elim
   | abs=>exact hB.elim
   | que e sz cs=>
    obtain⟨n,us,q1,q2⟩:=hB
    exact⟨n,us,q1,fun b hb=>.inr ⟨k,hbl k _ hlb,hb⟩,q2.keep_ (fun _ _=>rfl) fun b hb=>himm b hb⟩
  ·have hd':args[t]?=some d:=by
    have:=Xy (l:=args) (k:=0) (i:=t)
    rw [aE6] at this
    rw [<- this]
    exact hd
   exact Mu c1 k (Mp.menL_at hd' hm)
  ·have hlb:=(hmk k lb).1 hl
   exact⟨aFx (hbl k lb hlb),fun k' hk'=>Wg (c2 lb (aEy hlb)) k' hk'⟩
  ·intro h1 h2
   exact .inr ⟨k,h1,hbl k lb ((hmk k lb).1 hl),(hbx k lb ((hmk k lb).1 hl)).own h2⟩
 refine calls_of_wp hf hb (Code.wp_mono ?_ (h w I ρ _ w ⟨ρ,hA⟩))
 rintro e a' w' ⟨σ',hq,⟨ρ',hA'⟩⟩
 cases e with
 | normal=>
  obtain⟨v,hv,r,bx',h1,h2⟩:=Fin.out hq c4 hA'
  exact⟨hA'.defers,v,hv,v,r,bx',rfl,h1,h2⟩
 | ret=>
  obtain⟨v,hv,r,bx',h1,h2⟩:=Fin.out hq c4 hA'
  exact⟨hA'.defers,v,hv,v,r,bx',rfl,h1,h2⟩
 | _=>exact hq.elim
end
end Go.Proofs.YtfanepojdefdpaaGreat
namespace Go.Proofs.YtfanepojdefdpaaGreat
open Go.RowKit
mutual
def Iy (f:Nat->Nat):DV->DV
 | .row k=>.row (f k)
 | .part k o n=>.part (f k) o n
 | .ptr k i=>.ptr (f k) i
 | .agg ds=>.agg (L9 f ds)
 | .tup ds=>.tup (L9 f ds)
 | .clo g n ds=>.clo g n (L9 f ds)
 | .val v=>.val v
 | .sl sz cs=>.sl sz cs
 | .slc sz cs=>.slc sz cs
 | .mp l=>.mp l
 | .elt cs=>.elt cs
 | .nst k s i=>.nst (f k) (f s) i
 | .npt k s i j=>.npt (f k) (f s) i j
 | .npr k s i j n'=>.npr (f k) (f s) i j n'
 | .qpt k i=>.qpt (f k) i
def L9 (f:Nat->Nat):List DV->List DV
 | []=>[]
 | d :: ds=>Iy f d :: L9 f ds
end
def hY (f:Nat->Nat):LB->LB
 | .box ds ty=>.box (L9 f ds) ty
 | .row e sz cs=>.row e sz cs
 | .map l=>.map l
 | .mit k n s=>.mit (f k) n s
 | .vec ds e=>.vec (L9 f ds) e
 | .tree e sz o e2 sz2 s h cs=>.tree e sz o e2 sz2 (f s) h cs
 | .gho=>.gho
 | .abs ns S=>.abs (ns.map f) S
 | .que e sz cs=>.que e sz cs
mutual
def I1:DV->Prop
 | .sl _ _=>False
 | .slc _ _=>False
 | .mp _=>False
 | .elt _=>False
 | .agg ds=>Ki ds
 | .tup ds=>Ki ds
 | .clo _ _ ds=>Ki ds
 | .val _=>True
 | .row _=>True
 | .part _ _ _=>True
 | .ptr _ _=>True
 | .nst _ _ _=>True
 | .npt _ _ _ _=>True
 | .npr _ _ _ _ _=>True
 | .qpt _ _=>True
def Ki:List DV->Prop
 | []=>True
 | d :: ds=>I1 d/\Ki ds
end
def Nm:LB->Prop
 | .box ds _=>Ki ds
 | .row _ _ cs=>∀ c∈cs,fA c=true
 | .map _=>True
 | .mit ..=>True
 | .vec ds _=>Ki ds
 | .tree ..=>False
 | .gho=>True
 | .abs ..=>False
 | .que _ _ cs=>∀ c∈cs,fA c=true
section
variable {ρ ρ':Nat->Value} {I I':Nat->Prop} {w:World} {f:Nat->Nat}
mutual
theorem B7.map (hI:∀ b,I b->I' b):∀ (d:DV) (v:Value),(∀ k,men d k->ρ' (f k)=ρ k)->B7 ρ I w d v->B7 ρ' I' w (Iy f d) v
 | .val _,_,_,h=>by unfold Iy B7; unfold B7 at h; exact h
 | .sl _ _,_,_,h=>by unfold Iy B7; unfold B7 at h; exact D3.mono h hI
 | .slc _ _,_,_,h=>by unfold Iy B7; unfold B7 at h; exact⟨D3.mono h.1 hI,h.2⟩
 | .mp _,_,_,h=>by unfold Iy B7; unfold B7 at h; exact D3.mono h hI
 | .row k,_,hm,h=>by
  unfold Iy B7; unfold B7 at h
  rw [hm k (by unfold men; rfl)]
  exact h
 | .part k _ _,_,hm,h=>by
  unfold Iy B7; unfold B7 at h
  rw [hm k (by unfold men; rfl)]
  exact h
 | .ptr k _,_,hm,h=>by
  unfold Iy B7; unfold B7 at h
  rw [hm k (by unfold men; rfl)]
  exact h
 | .elt _,_,_,h=>by
  unfold Iy B7; unfold B7 at h
  obtain⟨ad,h1,h2,h3⟩:=h
  exact⟨ad,h1,hI _ h2,Jl.keep_ (fun _ _=>rfl) hI ad h2 _ 0 h3⟩
 | .agg ds,_,hm,h=>by
  unfold Iy B7; unfold B7 at h
  obtain⟨vs,h1,h2,h3⟩:=h
  exact⟨vs,h1,h2,Bk.map hI ds vs (fun k hk=>hm k (by unfold men; exact hk)) h3⟩
 | .tup ds,_,hm,h=>by
  unfold Iy B7; unfold B7 at h
  obtain⟨vs,h1,h3⟩:=h
  exact⟨vs,h1,Bk.map hI ds vs (fun k hk=>hm k (by unfold men; exact hk)) h3⟩
 | .clo _ _ ds,_,hm,h=>by
  unfold Iy B7; unfold B7 at h
  obtain⟨vs,h1,h3⟩:=h
  exact⟨vs,h1,Bk.map hI ds vs (fun k hk=>hm k (by unfold men; exact hk)) h3⟩
 | .nst _ s _,_,hm,h=>by
  unfold Iy B7; unfold B7 at h
  rw [hm s (by unfold men; exact .inr rfl)]
  exact h
 | .npt _ s _ _,_,hm,h=>by
  unfold Iy B7; unfold B7 at h
  rw [hm s (by unfold men; exact .inr rfl)]
  exact h
 | .npr _ s _ _ _,_,hm,h=>by
  unfold Iy B7; unfold B7 at h
  rw [hm s (by unfold men; exact .inr rfl)]
  exact h
 | .qpt k _,_,hm,h=>by
  unfold Iy B7; unfold B7 at h
  rw [hm k (by unfold men; rfl)]
  exact h
theorem Bk.map (hI:∀ b,I b->I' b):∀ (ds:List DV) (vs:List Value),(∀ k,E3 ds k->ρ' (f k)=ρ k)->Bk ρ I w ds vs->Bk ρ' I' w (L9 f ds) vs
 | [],_,_,h=>by unfold L9 Bk; unfold Bk at h; exact h
 | d :: ds,_,hm,h=>by
  unfold L9 Bk; unfold Bk at h
  obtain⟨u,us,h1,h2,h3⟩:=h
  exact⟨u,us,h1,B7.map hI d u (fun k hk=>hm k (by unfold E3; exact .inl hk)) h2,Bk.map hI ds us (fun k hk=>hm k (by unfold E3; exact .inr hk)) h3⟩
end
mutual
theorem B7.flat:∀ (d:DV) (v:Value),I1 d->B7 ρ I w d v->B7 ρ I' w d v
 | .val _,_,_,h=>by unfold B7 at *; exact h
 | .sl _ _,_,hf,_=>by unfold I1 at hf; exact hf.elim
 | .slc _ _,_,hf,_=>by unfold I1 at hf; exact hf.elim
 | .mp _,_,hf,_=>by unfold I1 at hf; exact hf.elim
 | .row k,_,_,h=>by unfold B7 at *; exact h
 | .part k _ _,_,_,h=>by unfold B7 at *; exact h
 | .ptr k _,_,_,h=>by unfold B7 at *; exact h
 | .elt _,_,hf,_=>by unfold I1 at hf; exact hf.elim
 | .agg ds,_,hf,h=>by
  unfold B7 at *
  obtain⟨vs,h1,h2,h3⟩:=h
  exact⟨vs,h1,h2,Bk.flat ds vs (by unfold I1 at hf; exact hf) h3⟩
 | .tup ds,_,hf,h=>by
  unfold B7 at *
  obtain⟨vs,h1,h3⟩:=h
  exact⟨vs,h1,Bk.flat ds vs (by unfold I1 at hf; exact hf) h3⟩
 | .clo _ _ ds,_,hf,h=>by
  unfold B7 at *
  obtain⟨vs,h1,h3⟩:=h
  exact⟨vs,h1,Bk.flat ds vs (by unfold I1 at hf; exact hf) h3⟩
 | .nst _ _ _,_,_,h=>by unfold B7 at *; exact h
 | .npt _ _ _ _,_,_,h=>by unfold B7 at *; exact h
 | .npr _ _ _ _ _,_,_,h=>by unfold B7 at *; exact h
 | .qpt _ _,_,_,h=>by unfold B7 at *; exact h
theorem Bk.flat:∀ (ds:List DV) (vs:List Value),Ki ds->Bk ρ I w ds vs->Bk ρ I' w ds vs
 | [],_,_,h=>by unfold Bk at *; exact h
 | d :: ds,_,hf,h=>by
  unfold Bk at *
  unfold Ki at hf
  obtain⟨u,us,h1,h2,h3⟩:=h
  exact⟨u,us,h1,B7.flat d u hf.1 h2,Bk.flat ds us hf.2 h3⟩
end
mutual
theorem kE:∀ (d:DV) (k:Nat),men (Iy f d) k->∃ j,men d j/\k=f j
 | .val _,k,h=>by unfold Iy men at h; exact h.elim
 | .sl _ _,k,h=>by unfold Iy men at h; exact h.elim
 | .slc _ _,k,h=>by unfold Iy men at h; exact h.elim
 | .mp _,k,h=>by unfold Iy men at h; exact h.elim
 | .row j,k,h=>by unfold Iy men at h; exact⟨j,by unfold men; rfl,h⟩
 | .part j _ _,k,h=>by unfold Iy men at h; exact⟨j,by unfold men; rfl,h⟩
 | .ptr j _,k,h=>by unfold Iy men at h; exact⟨j,by unfold men; rfl,h⟩
 | .elt _,k,h=>by unfold Iy men at h; exact h.elim
 | .agg ds,k,h=>by
  unfold Iy men at h
  obtain⟨j,h1,h2⟩:=Oc ds k h
  exact⟨j,by unfold men; exact h1,h2⟩
 | .tup ds,k,h=>by
  unfold Iy men at h
  obtain⟨j,h1,h2⟩:=Oc ds k h
  exact⟨j,by unfold men; exact h1,h2⟩
 | .clo _ _ ds,k,h=>by
  unfold Iy men at h
  obtain⟨j,h1,h2⟩:=Oc ds k h
  exact⟨j,by unfold men; exact h1,h2⟩
 | .nst j s _,k,h=>by
  unfold Iy men at h
  rcases h with h | h
  ·exact⟨j,by unfold men; exact .inl rfl,h⟩
  ·exact⟨s,by unfold men; exact .inr rfl,h⟩
 | .npt j s _ _,k,h=>by
  unfold Iy men at h
  rcases h with h | h
  ·exact⟨j,by unfold men; exact .inl rfl,h⟩
  ·exact⟨s,by unfold men; exact .inr rfl,h⟩
 | .npr j s _ _ _,k,h=>by
  unfold Iy men at h
  rcases h with h | h
  ·exact⟨j,by unfold men; exact .inl rfl,h⟩
  ·exact⟨s,by unfold men; exact .inr rfl,h⟩
 | .qpt j _,k,h=>by unfold Iy men at h; exact⟨j,by unfold men; rfl,h⟩
theorem Oc:∀ (ds:List DV) (k:Nat),E3 (L9 f ds) k->∃ j,E3 ds j/\k=f j
 | [],k,h=>by unfold L9 E3 at h; exact h.elim
 | d :: ds,k,h=>by
  unfold L9 E3 at h
  rcases h with h | h
  ·obtain⟨j,h1,h2⟩:=kE d k h
   exact⟨j,by unfold E3; exact .inl h1,h2⟩
  ·obtain⟨j,h1,h2⟩:=Oc ds k h
   exact⟨j,by unfold E3; exact .inr h1,h2⟩
end
end
mutual
inductive Ag (fl:Bool) (ps:List Nat) (env:Sn):DV->DV->Prop
 | fn {f}:Ag fl ps env (.val (.func (.func f) #[] #[])) (.clo f 0 [])
 | val {v}:Ag fl ps env (.val v) (.val v)
 | sl {sz cs}:Ag fl ps env (.sl sz cs) (.sl sz cs)
 | mp {l}:Ag fl ps env (.mp l) (.mp l)
 | nils {sz}:Ag fl ps env (.val (.slice none 0 0)) (.sl sz [])
 | elt {cs}:Ag fl ps env (.elt cs) (.elt cs)
 | ptr {j k i} (h:ps[k]?=some j):Ag fl ps env (.ptr j i) (.ptr k i)
 | rowK {j k} (h:ps[k]?=some j):Ag fl ps env (.row j) (.row k)
 | row {j e sz cs} (h:fl=true) (hL:(j,some (.row e sz cs))∈env) (hj:ps.all (fun i=>!Nat.beq i j)=true):Ag fl ps env (.row j) (.sl sz cs)
 | abs {j ns S sz cs} (h:fl=true) (hL:(j,some (.abs ns S))∈env) (hr:S.rd=some (sz,cs)) (hj:ps.all (fun i=>!Nat.beq i j)=true):Ag fl ps env (.row j) (.sl sz cs)
 | tree {j e sz o e2 sz2 s cs} (h:fl=true) (hL:(j,some (.tree e sz o e2 sz2 s none cs))∈env) (hj:ps.all (fun i=>!Nat.beq i j)=true):Ag fl ps env (.row j) (.sl sz cs)
 | part {j off n e sz cs} (h:fl=true) (hL:(j,some (.row e sz cs))∈env) (hj:ps.all (fun i=>!Nat.beq i j)=true) (hn:off + n * sz<=cs.length):Ag fl ps env (.part j off n) (.sl sz ((cs.drop off).take (n * sz)))
 | agg {ds ds'} (h:Hm fl ps env ds ds'):Ag fl ps env (.agg ds) (.agg ds')
 | tup {ds ds'} (h:Hm fl ps env ds ds'):Ag fl ps env (.tup ds) (.tup ds')
 | clo {f n ds ds'} (h:Hm fl ps env ds ds'):Ag fl ps env (.clo f n ds) (.clo f n ds')
inductive Hm (fl:Bool) (ps:List Nat) (env:Sn):List DV->List DV->Prop
 | nil:Hm fl ps env [] []
 | cons {d d' l l'} (h:Ag fl ps env d d') (hs:Hm fl ps env l l'):Hm fl ps env (d :: l) (d' :: l')
end
def BxC (fl:Bool) (ps:List Nat) (env:Sn):LB->LB->Prop
 | .box ds ty,lb=>∃ ds',lb=.box ds' ty/\Hm fl ps env ds ds'
 | .row e sz cs,lb=>lb=.row e sz cs
 | .que e sz cs,lb=>lb=.que e sz cs
 | _,_=>False
def Y9 (fl:Bool) (ps:List Nat) (env:Sn):List Nat->List LB->Prop
 | [],bx=>bx=[]
 | j :: l,bx=>∃ lb lb' rest,bx=lb' :: rest/\(j,some lb)∈env/\BxC fl ps env lb lb'/\Y9 fl ps env l rest
def G0 (ps:List Nat) (tk:Nat) (k:Nat):Nat:=match ps[k]? with | some j=>j | none=>tk + (k - ps.length)
def T3 (ps:List Nat) (tk:Nat):Nat->List LB->List (Nat×LB)
 | _,[]=>[]
 | k,x :: l=>(G0 ps tk k,hY (G0 ps tk) x) :: T3 ps tk (k + 1) l
def Rg (ps gs:List Nat) (tk:Nat) (r:DV) (bx:List LB):K4:=⟨some (Iy (G0 ps tk) r),fun k=>match D5 (T3 ps tk 0 bx) k with | some lb=>some (some lb) | none=>bif gs.any (Nat.beq k) then some none else none⟩
def pU (ps gs:List Nat) (tk:Nat) (R:DV->List LB->Prop):K4->Prop:=fun e=>∃ r b,R r b/\e=Rg ps gs tk r b/\ps.length<=b.length/\b.length<=ps.length + 8
def Rv (np:Nat) (ps gs:List Nat):Bool:=uY (ps ++ gs) && gs.all fun k=>Nat.ble np k
inductive CallR (P:Program) (np:Nat):Nat->Op->TypeId->List (DV×Option LB)->Sn->List Nat->(K4->Prop)->Prop
 | call {tk f xs tys ty dsA env ps gs args bx R} (fl:Bool) (hF:Fn P f ps.length args bx R) (hA:Hm fl (ps ++ gs) env (dsA.map (·.1)) args) (hB:Y9 fl (ps ++ gs) env (ps ++ gs) bx) (hnd:Rv np ps gs=true) (hfl:fl=true->∀ r b,R r b->I1 r/\∀ lb∈b,Nm lb) :
  CallR P np tk (.call ⟨.value (.func f),xs,tys⟩) ty ((.val (.func (.func f) #[] #[]),none) :: dsA) env (ps ++ gs) (pU ps gs tk R)
 | callC {tk t f n cs xs tys ty b dsA env ps gs args bx R} (fl:Bool) (hF:Fn P f ps.length args bx R) (hA:Hm fl (ps ++ gs) env (cs.take n ++ (dsA.map (·.1) ++ cs.drop n)) args) (hB:Y9 fl (ps ++ gs) env (ps ++ gs) bx) (hnd:Rv np ps gs=true) (hfl:fl=true->∀ r b,R r b->I1 r/\∀ lb∈b,Nm lb) :
  CallR P np tk (.call ⟨.value (.tmp t),xs,tys⟩) ty ((.clo f n cs,b) :: dsA) env (ps ++ gs) (pU ps gs tk R)
 | callV {tk t f xs tys ty b dsA env ps gs args bx R} (fl:Bool) (hF:Fn P f ps.length args bx R) (hA:Hm fl (ps ++ gs) env (dsA.map (·.1)) args) (hB:Y9 fl (ps ++ gs) env (ps ++ gs) bx) (hnd:Rv np ps gs=true) (hfl:fl=true->∀ r b,R r b->I1 r/\∀ lb∈b,Nm lb) :
  CallR P np tk (.call ⟨.value (.tmp t),xs,tys⟩) ty ((.val (.func (.func f) #[] #[]),b) :: dsA) env (ps ++ gs) (pU ps gs tk R)
 
 | ext {tk op ty ds env wr E} (h:ExtR P np tk op ty ds env wr E):CallR P np tk op ty ds env wr E
 | nilE {tk t X Y yt ty sz cs b1 b2 env} (hn:∃ e,P.underlying t=some (.slice e)):CallR P np tk (.binOp .eql t X Y yt) ty [(.sl sz cs,b1),(.val (.slice none 0 0),b2)] env [] (fun e=>∃ b,(b=true->cs=[])/\e=v0 (.val (.bool b)))
theorem Y9.length {fl:Bool} {ps:List Nat} {env:Sn}:∀ {l:List Nat} {bx:List LB},Y9 fl ps env l bx->bx.length=l.length
 | [],bx,h=>by unfold Y9 at h; rw [h]; rfl
 | j :: l,bx,h=>by
  unfold Y9 at h
  obtain⟨lb,lb',rest,rfl,-,-,h4⟩:=h
  simp [Y9.length h4]
theorem Y9.at_ {fl:Bool} {ps:List Nat} {env:Sn}:∀ {l:List Nat} {bx:List LB},Y9 fl ps env l bx->∀ {k:Nat} {j:Nat},l[k]?=some j->∃ lb lb',bx[k]?=some lb'/\(j,some lb)∈env/\BxC fl ps env lb lb'
 | [],bx,h,k,j,hl=>by simp at hl
 | j :: l,bx,h,0,j',hl=>by
  unfold Y9 at h
  obtain⟨lb,lb',rest,rfl,h2,h3,h4⟩:=h
  simp at hl
  subst hl
  exact⟨lb,lb',rfl,h2,h3⟩
 | j :: l,bx,h,k + 1,j',hl=>by
  unfold Y9 at h
  obtain⟨lb,lb',rest,rfl,h2,h3,h4⟩:=h
  have:=Y9.at_ h4 (k:=k) (j:=j') (by simpa using hl)
  simpa using this
theorem U0 {ps:List Nat} {tk:Nat}:∀ {l:List LB} {k k':Nat} {lb:LB},D5 (T3 ps tk k l) k'=some lb->∃ i x,l[i]?=some x/\k'=G0 ps tk (k + i)/\lb=hY (G0 ps tk) x
 | [],_,_,_,h=>by simp [T3,D5] at h
 | x :: l,k,k',lb,h=>by
  unfold T3 D5 at h
  cases hb:Nat.beq k' (G0 ps tk k) with
  | true=>
   rw [hb] at h
   simp at h
   exact⟨0,x,rfl,aDr hb,h.symm⟩
  | false=>
   rw [hb] at h
   obtain⟨i,y,h1,h2,h3⟩:=U0 (l:=l) (k:=k + 1) h
   exact⟨i + 1,y,by simpa using h1,by rw [h2]; congr 1; omega,h3⟩
theorem Zz {ps:List Nat} {tk:Nat}:∀ {l:List LB} {k i:Nat} {x:LB},l[i]?=some x->∃ lb,D5 (T3 ps tk k l) (G0 ps tk (k + i))=some lb
 | [],_,_,_,h=>by simp at h
 | y :: l,k,i,x,h=>by
  unfold T3 D5
  cases hb:Nat.beq (G0 ps tk (k + i)) (G0 ps tk k) with
  | true=>exact⟨_,rfl⟩
  | false=>
   cases i with
   | zero=>simp at hb
   | succ i=>
    have:=Zz (ps:=ps) (tk:=tk) (l:=l) (k:=k + 1) (i:=i) (x:=x) (by simpa using h)
    simp only [aCc]
    rwa [show k + (i + 1)=k + 1 + i by omega]
end Go.Proofs.YtfanepojdefdpaaGreat
namespace Go.Proofs.YtfanepojdefdpaaGreat
open Go.RowKit
section
variable {P:Program} {cx:Cx} {ρ:Nat->Value} {σ:St} {a:Act} {w:World} {o:Oper} {K:Act->World->Prop} {Q:Exit->Act->World->Prop}
def uM (fl:Bool) (ps:List Nat) (σ:St) (ρ:Nat->Value) (b:Nat):Prop:=fl=true/\∃ j lb,j∉ps/\σ.L j=some lb/\own ρ (ρ j) lb b
theorem bG {ps:List Nat} {j:Nat} (h:ps.all (fun i=>!Nat.beq i j)=true):j∉ps:=fun hm=>by
 have:=aEb.1 h j hm
 simp at this
section
variable {fl:Bool} {ps l:List Nat}
mutual
theorem Ag.rep (ha:Dr cx ρ σ a w):∀ {d d':DV} (_:Ag fl ps (Ls σ l) d d') {v:Value},B7 ρ (I4 cx σ ρ w) w d v->B7 (fun k=>ρ (G0 ps 0 k)) (fun b=>I4 cx σ ρ w b\/uM fl ps σ ρ b) w d' v
 | _,_,.fn,v,hr=>by
  unfold B7 at *
  exact⟨[],by rw [hr.1]; rfl,by simp [Bk]⟩
 | _,_,.val,v,hr=>by unfold B7 at *; exact hr
 | _,_,.sl,v,hr=>by unfold B7 at *; exact hr.mono fun b hb=>.inl hb
 | _,_,.mp,v,hr=>by unfold B7 at *; exact hr.mono fun b hb=>.inl hb
 | _,_,.nils,v,hr=>by unfold B7 at *; rw [hr.1]; exact D3.nil_ _
 | _,_,.elt,v,hr=>by
  unfold B7 at *
  obtain⟨ad,h2,h3,h4⟩:=hr
  exact⟨ad,h2,.inl h3,Jl.keep_ (fun _ _=>rfl) (fun b hb=>.inl hb) ad h3 _ 0 h4⟩
 | _,_,.ptr (j:=j) (k:=k) hk,v,hr=>by
  unfold B7 at *
  have:G0 ps 0 k=j:=by unfold G0; rw [hk]
  simp only [this]
  exact hr
 | _,_,.rowK (j:=j) (k:=k) hk,v,hr=>by
  unfold B7 at *
  have:G0 ps 0 k=j:=by unfold G0; rw [hk]
  simp only [this]
  exact hr
 | _,_,.row hfl hL hj,v,hr=>by
  have hL:=I0 hL
  unfold B7 at *
  rw [hr.1]
  obtain⟨n,us,ho,-,hu⟩:=ha.lo _ _ hL
  exact Yr.cells ho hu (fun b hb=>.inl hb) fun b hb=>.inr ⟨hfl,_,_,bG hj,hL,hb⟩
 | _,_,.abs hfl hL hrd hj,v,hr=>by
  have hL:=I0 hL
  unfold B7 at *
  rw [hr.1]
  exact Shp.rdOk _ hrd (ha.lo _ _ hL).1 (fun b hb=>.inl hb) fun b hb=>.inr ⟨hfl,_,_,bG hj,hL,hb⟩
 | _,_,.tree hfl hL hj,v,hr=>by
  have hL:=I0 hL
  unfold B7 at *
  rw [hr.1]
  obtain⟨n,us,vs,ho⟩:=ha.lo _ _ hL
  exact Tree.cells ho (fun b hb=>.inl hb) fun b hb=>.inr ⟨hfl,_,_,bG hj,hL,hb⟩
 | _,_,.part hfl hL hj hn,v,hr=>by
  have hL:=I0 hL
  unfold B7 at *
  obtain⟨A,c,h4,h5,h6,h7,-⟩:=hr
  rw [h4]
  obtain⟨n,us,ho,-,hu⟩:=ha.lo _ _ hL
  exact bY ho hu (fun b hb=>.inl hb) (fun b hb=>.inr ⟨hfl,_,_,bG hj,hL,hb⟩) hn h5 h6 h7
 | _,_,.agg hs,v,hr=>by
  unfold B7 at *
  obtain⟨vs,h2,h3,h4⟩:=hr
  exact⟨vs,h2,h3,Hm.rep ha hs h4⟩
 | _,_,.tup hs,v,hr=>by
  unfold B7 at *
  obtain⟨vs,h2,h4⟩:=hr
  exact⟨vs,h2,Hm.rep ha hs h4⟩
 | _,_,.clo hs,v,hr=>by
  unfold B7 at *
  obtain⟨vs,h2,h4⟩:=hr
  exact⟨vs,h2,Hm.rep ha hs h4⟩
theorem Hm.rep (ha:Dr cx ρ σ a w):∀ {ds ds':List DV} (_:Hm fl ps (Ls σ l) ds ds') {vs:List Value},Bk ρ (I4 cx σ ρ w) w ds vs->Bk (fun k=>ρ (G0 ps 0 k)) (fun b=>I4 cx σ ρ w b\/uM fl ps σ ρ b) w ds' vs
 | _,_,.nil,vs,hr=>by unfold Bk at *; exact hr
 | _,_,.cons h hs,vs,hr=>by
  unfold Bk at *
  obtain⟨u,us,h1,h2,h3⟩:=hr
  exact⟨u,us,h1,Ag.rep ha h h2,Hm.rep ha hs h3⟩
end
end
theorem Bk.app {I:Nat->Prop}:∀ {a b:List DV} {c d:List Value},Bk ρ I w a c->Bk ρ I w b d->Bk ρ I w (a ++ b) (c ++ d)
 | [],b,c,d,h1,h2=>by unfold Bk at h1; subst h1; simpa using h2
 | x :: a,b,c,d,h1,h2=>by
  unfold Bk at h1
  obtain⟨u,us,rfl,h3,h4⟩:=h1
  rw [aGb,aGb]
  unfold Bk
  exact⟨u,_,rfl,h3,Bk.app h4 h2⟩
theorem oE:∀ {l:List Nat},uY l=true->∀ {i j x:Nat},l[i]?=some x->l[j]?=some x->i=j
 | [],_,i,j,x,h,_=>by simp at h
 | y :: l,hn,0,0,x,_,_=>rfl
 | y :: l,hn,0,j + 1,x,h1,h2=>by
  simp only [uY,aCe,aEb] at hn
  simp at h1 h2
  subst h1
  have:=hn.1 y (aEy h2)
  simp at this
 | y :: l,hn,i + 1,0,x,h1,h2=>by
  simp only [uY,aCe,aEb] at hn
  simp at h1 h2
  subst h2
  have:=hn.1 y (aEy h1)
  simp at this
 | y :: l,hn,i + 1,j + 1,x,h1,h2=>by
  simp only [uY,aCe] at hn
  have:=oE hn.2 (i:=i) (j:=j) (x:=x) (by simpa using h1) (by simpa using h2)
  rw [this]
theorem mT {f:Nat->Nat} {lb:LB} {k:Nat} (h:Nq (hY f lb) k):∃ j,Nq lb j/\k=f j:=by
 cases lb with
 | box ds ty=>exact Oc ds k h
 | row=>exact h.elim
 | map=>exact h.elim
 | mit k' n s=>exact⟨k',rfl,h⟩
 | vec ds e=>exact Oc ds k h
 | tree e sz o e2 sz2 s hh cs=>exact⟨s,rfl,h⟩
 | gho=>exact h.elim
 | abs ns S=>
  obtain⟨j,h1,h2⟩:=aFr.1 (show k∈ns.map f from h)
  exact⟨j,h1,h2.symm⟩
 | que=>exact h.elim
theorem Nz {f:Nat->Nat} {ρ ρ':Nat->Value} {v:Value} {lb:LB} {b:Nat} (hm:∀ k,Nq lb k->ρ (f k)=ρ' k) (h:own ρ v (hY f lb) b):own ρ' v lb b:=by
 cases lb with
 | tree e sz o e2 sz2 s hh cs=>
  rcases h with h | ⟨vs,i,u,h1,h2⟩
  ·exact .inl h
  ·exact .inr ⟨vs,i,u,(hm s rfl).symm.trans h1,h2⟩
 | abs ns S=>
  have e1:(ns.map f).map ρ=ns.map ρ':=by rw [List.map_map]; exact aGl fun k hk=>hm k hk
  have h:S.own v ((ns.map f).map ρ) b:=h
  show S.own v (ns.map ρ') b
  rwa [e1] at h
 | _=>exact h
theorem BxC.own {fl:Bool} {ps:List Nat} {env:Sn} {lb lb':LB} (h:BxC fl ps env lb lb') {ρ:Nat->Value} {v:Value} {b:Nat}:Go.Proofs.YtfanepojdefdpaaGreat.own ρ v lb b↔Br v=some b:=by
 cases lb with
 | box ds ty=>exact Iff.rfl
 | row e sz cs=>exact Iff.rfl
 | que e sz cs=>exact Iff.rfl
 | _=>exact h.elim
theorem Ux {tk f:Nat} {wr ps gs l:List Nat} (hwr:wr=ps ++ gs) {args:List DV} {bx:List LB} {R:DV->List LB->Prop} {fl:Bool} (hF:Fn P f ps.length args bx R) {ads:List DV} {avs:List Value} (hA:Hm fl wr (Ls σ l) ads args) (hrep:Bk ρ (I4 cx σ ρ w) w ads avs)
  (hB:Y9 fl wr (Ls σ l) wr bx) (hh:Rv cx.np ps gs=true) (hfl:fl=true->∀ r b,R r b->I1 r/\∀ lb∈b,Nm lb) (ha:Dr cx ρ σ a w) (hf:∀ j,j < 8->σ.U (tk + j)=false) (hdst:∀ t,o.dst=some t->t < cx.N)
  (hrun:(execOp a.eval o).run P w=.ok (.enter f avs.toArray) w) (hK:∀ e a' w',pU ps gs tk R e->Jf cx (σ.app o.dst e) a' w'->K a' w'):o.wp P a w K Q:=by
 unfold Rv at hh
 rw [<- hwr,aCe] at hh
 obtain⟨hnd,hgn⟩:=hh
 have hpl:∀ k j,ps[k]?=some j->wr[k]?=some j:=fun k j h=>by
  rw [hwr,aE3 (aBw.1 h).1]; exact h
 have hgs:∀ k j,ps.length<=k->wr[k]?=some j->j∈gs:=fun k j hk h=>by
  rw [hwr,aE0 hk] at h
  exact aEy h
 have hgnp:∀ j,j∈gs->cx.np<=j:=fun j hj=>aC3 (aEb.1 hgn j hj)
 have hgin:∀ j,j∈gs->∃ k,ps.length<=k/\k < wr.length/\wr[k]?=some j:=fun j hj=>by
  obtain⟨i,hi,rfl⟩:=aF6 hj
  refine⟨ps.length + i,by omega,by rw [hwr,aDw]; omega,?_⟩
  rw [hwr,aE0 (by omega),aGu,aA1 hi]
 have hpw:ps.length<=wr.length:=by rw [hwr,aDw]; omega
 have hbl:=hB.length
 have hpsL:∀ k j,wr[k]?=some j->∃ lb,σ.L j=some lb/\∃ lb',bx[k]?=some lb'/\BxC fl wr (Ls σ l) lb lb':=fun k j hk=>by
  obtain⟨lb,lb',h1,h2,h3⟩:=hB.at_ hk
  exact⟨lb,I0 h2,lb',h1,h3⟩
 have hargs:=Hm.rep ha hA hrep
 have hi0:∀ k j,wr[k]?=some j->G0 wr 0 k=j:=fun k j h=>by unfold G0; rw [h]
 have hit:∀ k j,ps[k]?=some j->G0 ps tk k=j:=fun k j h=>by unfold G0; rw [h]
 have hgt:∀ k,ps.length<=k->G0 ps tk k=tk + (k - ps.length):=fun k h=>by unfold G0; rw [aF5 h]
 have hin:∀ k,k < bx.length->∃ j,wr[k]?=some j:=fun k hk=>⟨wr[k]'(by omega),aA1 (by omega)⟩
 have hUps:∀ k j,wr[k]?=some j->σ.U j=true:=fun k j h=>by
  obtain⟨lb,h1,-⟩:=hpsL k j h
  exact (ha.usedL _ _ h1).1
 have hcalls:=hF.2.2 (fun k=>ρ (G0 wr 0 k)) (fun b=>I4 cx σ ρ w b\/uM fl wr σ ρ b) w avs (fun b hb=>by
   have key:∀ k,k < bx.length->Br (ρ (G0 wr 0 k))=some b->False:=fun k hk hbk=>by
    obtain⟨j,hj⟩:=hin k hk
    rw [hi0 k j hj] at hbk
    obtain⟨lb,h1,lb',-,hx⟩:=hpsL k j hj
    rcases hb with hb | ⟨-,j',lb',h2,h3,h4⟩
    ·exact hb.2.1 ⟨j,_,h1,hx.own.2 hbk⟩
    ·have:=ha.sep j j' _ _ b h1 h3 (hx.own.2 hbk) h4
     subst this
     exact h2 (aEy hj)
   refine⟨?_,fun k hk hbk=>key k hk hbk⟩
   rcases hb with hb | ⟨-,j',lb',h2,h3,h4⟩
   ·exact hb.1
   ·exact ((ha.lo _ _ h3).blk h4).1) hargs (fun k lb hlb=>by
   have hk:=(aBw.1 hlb).1
   obtain⟨j,hj⟩:=hin k hk
   obtain⟨lb0,h1,lb1,h2,h3⟩:=hpsL k j hj
   rw [h2] at hlb
   injection hlb with hlb
   subst hlb
   show kO _ _ w (ρ (G0 wr 0 k)) _
   rw [hi0 k j hj]
   cases lb0 with
   | box ds ty=>
    obtain⟨ds',rfl,h4⟩:=h3
    obtain⟨b,vs,q1,q2,-,q4,q5⟩:=ha.lo _ _ h1
    exact⟨b,vs,q1,q2,q4,Hm.rep ha h4 q5⟩
   | row e sz cs=>
    have h3:lb1=.row e sz cs:=h3
    subst h3
    obtain⟨n,us,q1,-,q3⟩:=ha.lo _ _ h1
    exact⟨n,us,q1,q3.keep_ (fun _ _=>rfl) fun b hb=>.inl hb⟩
   | map l=>exact h3.elim
   | mit k n s=>exact h3.elim
   | tree=>exact h3.elim
   | gho=>exact h3.elim
   | abs=>exact h3.elim
   | que e sz cs=>
    have h3:lb1=.que e sz cs:=h3
    subst h3
    obtain⟨n,us,q1,-,q3⟩:=ha.lo _ _ h1
    exact⟨n,us,q1,q3.keep_ (fun _ _=>rfl) fun b hb=>.inl hb⟩
   | vec ds e=>exact h3.elim) (fun k k' b hk hk' e1 e2=>by
   obtain⟨j,hj⟩:=hin k hk
   obtain⟨j',hj'⟩:=hin k' hk'
   simp only [hi0 k j hj] at e1
   simp only [hi0 k' j' hj'] at e2
   obtain⟨lb,h1,_,-,hx⟩:=hpsL k j hj
   obtain⟨lb',h1',_,-,hx'⟩:=hpsL k' j' hj'
   have:=ha.sep j j' _ _ b h1 h1' (hx.own.2 e1) (hx'.own.2 e2)
   subst this
   exact oE hnd hj hj')
 unfold Oper.wp
 rw [hrun]
 refine hcalls.mono ?_
 rintro e w' ⟨v,r,bx',rfl,hR,hback⟩
 obtain⟨⟨b1,b2⟩,⟨o1,o2,o3,o4⟩,hkept,⟨ρ',J,d1,d2,d3,d4,d5,d6⟩,⟨m1,m2⟩,hnt⟩:=hback
 have b1':ps.length<=bx'.length:=b1
 have b2':bx'.length<=ps.length + 8:=b2
 refine hK (Rg ps gs tk r bx') _ _ ⟨r,bx',hR,rfl,b1',b2'⟩ ?_
 have himp:∀ k,k < bx'.length->(∃ j,ps[k]?=some j/\G0 ps tk k=j)\/(ps.length<=k/\G0 ps tk k=tk + (k - ps.length)/\k - ps.length < 8):=fun k hk=>by
  rcases aF4 k ps.length with h | h
  ·exact .inl ⟨ps[k],aA1 h,hit k _ (aA1 h)⟩
  ·exact .inr ⟨h,hgt k h,by omega⟩
 have hel:∀ k,(Rg ps gs tk r bx').l k=(match D5 (T3 ps tk 0 bx') k with | some lb=>some (some lb) | none=>bif gs.any (Nat.beq k) then some none else none):=fun _=>rfl
 have hel1:∀ k lb,(Rg ps gs tk r bx').l k=some (some lb)->∃ i x,bx'[i]?=some x/\k=G0 ps tk i/\lb=hY (G0 ps tk) x:=fun k lb h=>by
  rw [hel] at h
  cases hl:D5 (T3 ps tk 0 bx') k with
  | none=>
   rw [hl] at h
   simp only [] at h
   cases D:gs.any (Nat.beq k) <;> rw [D] at h <;> cases h
  | some lb'=>
   rw [hl] at h
   injection h with h
   injection h with h
   subst h
   obtain⟨i,x,h1,h2,h3⟩:=U0 hl
   exact⟨i,x,h1,by simpa using h2,h3⟩
 have hel2:∀ i,i < bx'.length->(Rg ps gs tk r bx').l (G0 ps tk i)≠none:=fun i hi=>by
  obtain⟨lb,hlb⟩:=Zz (ps:=ps) (tk:=tk) (k:=0) (aA1 hi)
  rw [aE6] at hlb
  rw [hel,hlb]
  simp
 have hel3:∀ j,j∈gs->(Rg ps gs tk r bx').l j≠none:=fun j hj=>by
  rw [hel]
  cases hl:D5 (T3 ps tk 0 bx') j with
  | some lb=>simp
  | none=>
   have:gs.any (Nat.beq j)=true:=aFn.2 ⟨j,hj,aGp j⟩
   simp [this]
 let ρ2:Nat->Value:=fun k=>if tk<=k/\k < tk + 8 then ρ' (ps.length + (k - tk)) else ρ k
 have hρU:∀ k,σ.U k=true->ρ2 k=ρ k:=fun k hk=>by
  show (if tk<=k/\k < tk + 8 then _ else _)=_
  rw [if_neg]
  intro hh
  have:=hf (k - tk) (by omega)
  rw [show tk + (k - tk)=k by omega,hk] at this
  cases this
 have hρi:∀ i,i < bx'.length->ρ2 (G0 ps tk i)=ρ' i:=fun i hi=>by
  rcases himp i hi with ⟨j,h1,h2⟩ | ⟨h1,h2,h3⟩
  ·rw [h2,hρU j (hUps i j (hpl i j h1)),d1 i (aBw.1 h1).1]
   show ρ j=ρ (G0 wr 0 i)
   rw [hi0 i j (hpl i j h1)]
  ·rw [h2]
   show (if tk<=_/\_ < tk + 8 then _ else _)=_
   rw [if_pos (by omega)]
   congr 1
   omega
 have hmo:∀ i x,bx'[i]?=some x->∀ k,Nq x k->ρ2 (G0 ps tk k)=ρ' k:=fun i x hx k hk=>hρi k (m2 i x hx k hk)
 refine⟨ρ2,ha.app (v:=v) ?_ o4 hdst hρU (fun b hb h=>hkept b hb fun k hk hbk=>?_) (fun k lb b h1 h2=>?_) (fun k k' lb lb' b h1 h2 h3 h4=>?_) (fun hI hI2=>?_) ⟨fun k lb k' h1 h2=>?_,fun d k' h1 h2=>?_⟩ (fun k lb b h1 h2 h3=>?_)⟩
 ·obtain⟨k1,k2,k3,k4,k5⟩:=ha.kept
  refine⟨o1.trans k1,o2.trans k2,o3.trans k3,aFj k4 o4,fun b hb hM=>(hkept b (aGq hb k4) fun k hk hbk=>?_).trans (k5 b hb hM)⟩
  obtain⟨j,hj⟩:=hin k hk
  simp only [hi0 k j hj] at hbk
  obtain⟨lb,h1,_,-,hx⟩:=hpsL k j hj
  rcases ((ha.lo _ _ h1).blk (hx.own.2 hbk)).2 with h | h
  ·omega
  ·exact hM h
 ·obtain⟨j,hj⟩:=hin k hk
  simp only [hi0 k j hj] at hbk
  obtain⟨lb,h1,_,-,hx⟩:=hpsL k j hj
  have hbk:=(hx.own (ρ:=ρ)).2 hbk
  rcases aF4 k ps.length with hkp | hkp
  ·have hjp:ps[k]?=some j:=by
    rw [hwr,aE3 hkp] at hj; exact hj
   have:=hel2 k (by omega)
   rw [hit k j hjp] at this
   exact h j _ this h1 hbk
  ·exact h j _ (hel3 j (hgs k j hkp hj)) h1 hbk
 ·obtain⟨i,x,e1,rfl,rfl⟩:=hel1 k lb h1
  have hi:=(aBw.1 e1).1
  rw [hρi i hi] at h2
  have h2:=Nz (hmo i x e1) h2
  rcases himp i hi with ⟨j,q1,q2⟩ | ⟨q1,q2,q3⟩
  ·right
   have hil:=(aBw.1 q1).1
   obtain⟨lb0,q3,_,-,hx⟩:=hpsL i j (hpl i j q1)
   refine⟨j,_,?_,q3,hx.own.2 ?_⟩
   ·have:=hel2 i hi; rwa [q2] at this
   ·have h2:=lA (hnt i x hil e1) h2
    rw [d1 i hil] at h2
    simpa only [hi0 i j (hpl i j q1)] using h2
  ·rcases d5 i x b q1 e1 h2 with h4 | ⟨k,k1,k2,k3⟩
   ·exact .inl h4
   ·obtain⟨j,hj⟩:=hin k k2
    simp only [hi0 k j hj] at k3
    obtain⟨lb0,q4,_,-,hx⟩:=hpsL k j hj
    exact .inr ⟨j,_,hel3 j (hgs k j k1 hj),q4,hx.own.2 k3⟩
 ·obtain⟨i,x,e1,rfl,rfl⟩:=hel1 k lb h1
  obtain⟨i',x',e2,rfl,rfl⟩:=hel1 k' lb' h2
  have hi:=(aBw.1 e1).1
  have hi':=(aBw.1 e2).1
  rw [hρi i hi] at h3
  rw [hρi i' hi'] at h4
  rw [d6 i i' x x' b e1 e2 (Nz (hmo i x e1) h3) (Nz (hmo i' x' e2) h4)]
 ·have hJ:fl=false->∀ b,J b->I4 cx (σ.app o.dst (Rg ps gs tk r bx')) ρ2 w' b:=fun hfl0 b hb=>by
   obtain⟨j1,j2,j3⟩:=d2 b hb
   rcases aF4 b w.heap.size with h | h
   ·rcases j2 h with (h1 | ⟨h1,-⟩) | ⟨k,k1,k2,k3⟩
    ·exact (hI b h1).1
    ·rw [hfl0] at h1; cases h1
    ·obtain⟨j,hj⟩:=hin k k2
     simp only [hi0 k j hj] at k3
     obtain⟨lb0,q4,_,-,hx⟩:=hpsL k j hj
     have k3:=(hx.own (ρ:=ρ)).2 k3
     have hjg:=hgs k j k1 hj
     refine⟨j1,?_,fun hlt=>?_⟩
     ·rintro⟨k',lb',h4,h5⟩
      cases hek:(Rg ps gs tk r bx').l k' with
      | none=>
       have h4':σ.L k'=some lb':=by simpa [St.app,hek] using h4
       rw [hρU k' (ha.usedL k' lb' h4').1] at h5
       have h5:=N5 (ρ':=ρ) (fun q hq=>(hρU q ((ha.usedL k' lb' h4').2 q hq)).symm) h5
       have:=ha.sep k' j lb' lb0 b h4' q4 h5 k3
       subst this
       exact hel3 k' hjg hek
      | some x=>
       have h4':x=some lb':=by simpa [St.app,hek] using h4
       subst h4'
       obtain⟨i,x,e1,rfl,rfl⟩:=hel1 k' lb' hek
       have hi:=(aBw.1 e1).1
       rw [hρi i hi] at h5
       exact j3 i x e1 (Nz (hmo i x e1) h5)
     ·rcases ha.fresh j lb0 b q4 (hgnp j hjg) k3 with h6 | h6
      ·omega
      ·exact .inr h6
   ·refine hI2 b h j1 fun k lb h1 h2=>?_
    obtain⟨i,x,e1,rfl,rfl⟩:=hel1 k lb h1
    have hi:=(aBw.1 e1).1
    rw [hρi i hi] at h2
    exact j3 i x e1 (Nz (hmo i x e1) h2)
  have hmapB:∀ i x,bx'[i]?=some x->N3 cx ρ2 (I4 cx (σ.app o.dst (Rg ps gs tk r bx')) ρ2 w') w' (ρ' i) (hY (G0 ps tk) x):=fun i x hx=>by
   have hi:=(aBw.1 hx).1
   have hb:=d4 i x hx
   cases x with
   | box ds ty=>
    obtain⟨b,vs,q1,q2,q3,q4,q5⟩:=hb
    refine⟨b,vs,q1,q2,?_,q4,?_⟩
    ·rcases q3 with q3 | ⟨k,hk,hk'⟩
     ·exact .inl (aFj ha.kept.2.2.2.1 q3)
     ·have hk:k < bx.length:=hk
      obtain⟨j,hj⟩:=hin k hk
      have hk':Br (ρ (G0 wr 0 k))=some b:=hk'
      rw [hi0 k j hj] at hk'
      obtain⟨lb2,h1,_,-,hx⟩:=hpsL k j hj
      exact ((ha.lo _ _ h1).blk (hx.own.2 hk')).2
    ·have hm:∀ k,E3 ds k->ρ2 (G0 ps tk k)=ρ' k:=fun k hk=>hρi k (m2 i _ hx k hk)
     cases hfc:fl with
     | false=>exact Bk.map (hJ hfc) ds vs hm q5
     | true=>
      have hff:=(hfl hfc r bx' hR).2 _ (aEy hx)
      exact Bk.map (I:=I4 cx (σ.app o.dst (Rg ps gs tk r bx')) ρ2 w') (fun b hb=>hb) ds vs hm (Bk.flat ds vs hff q5)
   | row e sz cs=>
    obtain⟨n,us,q1,q3,q2⟩:=hb
    refine⟨n,us,q1,fun b hb=>?_,?_⟩
    ·rcases q3 b hb with q3 | ⟨k,hk,hk'⟩
     ·exact .inl (aFj ha.kept.2.2.2.1 q3)
     ·have hk:k < bx.length:=hk
      obtain⟨j,hj⟩:=hin k hk
      have hk':Br (ρ (G0 wr 0 k))=some b:=hk'
      rw [hi0 k j hj] at hk'
      obtain⟨lb2,h1,_,-,hx⟩:=hpsL k j hj
      exact ((ha.lo _ _ h1).blk (hx.own.2 hk')).2
    ·cases hfc:fl with
     | false=>exact q2.keep_ (fun _ _=>rfl) (hJ hfc)
     | true=>
      have hff:=(hfl hfc r bx' hR).2 _ (aEy hx)
      exact q2.flat_any hff
   | que e sz cs=>
    obtain⟨n,us,q1,q3,q2⟩:=hb
    refine⟨n,us,q1,fun b hb=>?_,?_⟩
    ·rcases q3 b hb with q3 | ⟨k,hk,hk'⟩
     ·exact .inl (aFj ha.kept.2.2.2.1 q3)
     ·have hk:k < bx.length:=hk
      obtain⟨j,hj⟩:=hin k hk
      have hk':Br (ρ (G0 wr 0 k))=some b:=hk'
      rw [hi0 k j hj] at hk'
      obtain⟨lb2,h1,_,-,hx⟩:=hpsL k j hj
      exact ((ha.lo _ _ h1).blk (hx.own.2 hk')).2
    ·cases hfc:fl with
     | false=>exact q2.keep_ (fun _ _=>rfl) (hJ hfc)
     | true=>
      have hff:=(hfl hfc r bx' hR).2 _ (aEy hx)
      exact q2.flat_any hff
   | map l=>
    obtain⟨g,q1,q2,q3⟩:=hb
    refine⟨g,q1,q2,?_⟩
    rcases q3 with q3 | ⟨k,hk,hk'⟩
    ·exact .inl (aFj ha.kept.2.2.2.1 q3)
    ·have hk:k < bx.length:=hk
     obtain⟨j,hj⟩:=hin k hk
     have hk':Br (ρ (G0 wr 0 k))=some g:=hk'
     rw [hi0 k j hj] at hk'
     obtain⟨lb2,h1,_,-,hx⟩:=hpsL k j hj
     exact ((ha.lo _ _ h1).blk (hx.own.2 hk')).2
   | vec ds e=>
    obtain⟨b,vs,q1,q0,q2,q3,q4,q5⟩:=hb
    refine⟨b,vs,q1,q0,q2,?_,q4,?_⟩
    ·rcases q3 with q3 | ⟨k,hk,hk'⟩
     ·exact .inl (aFj ha.kept.2.2.2.1 q3)
     ·have hk:k < bx.length:=hk
      obtain⟨j,hj⟩:=hin k hk
      have hk':Br (ρ (G0 wr 0 k))=some b:=hk'
      rw [hi0 k j hj] at hk'
      obtain⟨lb2,h1,_,-,hx⟩:=hpsL k j hj
      exact ((ha.lo _ _ h1).blk (hx.own.2 hk')).2
    ·have hm:∀ k,E3 ds k->ρ2 (G0 ps tk k)=ρ' k:=fun k hk=>hρi k (m2 i _ hx k hk)
     cases hfc:fl with
     | false=>exact Bk.map (hJ hfc) ds vs hm q5
     | true=>
      have hff:=(hfl hfc r bx' hR).2 _ (aEy hx)
      exact Bk.map (I:=I4 cx (σ.app o.dst (Rg ps gs tk r bx')) ρ2 w') (fun b hb=>hb) ds vs hm (Bk.flat ds vs hff q5)
   | gho=>trivial
   | abs ns S=>
    cases hfc:fl with
    | true=>exact ((hfl hfc r bx' hR).2 _ (aEy hx)).elim
    | false=>
     have e1:(ns.map (G0 ps tk)).map ρ2=ns.map ρ':=by rw [List.map_map]; exact aGl fun k hk=>hρi k (m2 i _ hx k hk)
     show S.R w' _ _ ((ns.map (G0 ps tk)).map ρ2)/\∀ b,S.own _ ((ns.map (G0 ps tk)).map ρ2) b->_
     rw [e1]
     refine⟨S.stab hb.1 (fun b hb=>⟨hJ hfc b hb,rfl⟩) fun _ _=>rfl,fun b hb2=>?_⟩
     rcases hb.2 b hb2 with q3 | ⟨k,hk,hk'⟩
     ·exact .inl (aFj ha.kept.2.2.2.1 q3)
     ·have hk:k < bx.length:=hk
      obtain⟨j,hj⟩:=hin k hk
      have hk':Br (ρ (G0 wr 0 k))=some b:=hk'
      rw [hi0 k j hj] at hk'
      obtain⟨lb2,h1,_,-,hx⟩:=hpsL k j hj
      exact ((ha.lo _ _ h1).blk (hx.own.2 hk')).2
   | tree e sz o e2 sz2 s hh cs=>
    obtain⟨n,us,vs,q⟩:=hb
    have hM:∀ b,(w.heap.size<=b\/Cx.M ⟨w,fun b=>I4 cx σ ρ w b\/uM fl wr σ ρ b,fun k=>ρ (G0 wr 0 k),ps.length,bx.length,0⟩ b)->cx.w0.heap.size<=b\/cx.M b:=fun b q3=>by
     rcases q3 with q3 | ⟨k,hk,hk'⟩
     ·exact .inl (aFj ha.kept.2.2.2.1 q3)
     ·have hk:k < bx.length:=hk
      obtain⟨j,hj⟩:=hin k hk
      have hk':Br (ρ (G0 wr 0 k))=some b:=hk'
      rw [hi0 k j hj] at hk'
      obtain⟨lb2,h1,_,-,hx⟩:=hpsL k j hj
      exact ((ha.lo _ _ h1).blk (hx.own.2 hk')).2
    cases hfc:fl with
    | true=>exact ((hfl hfc r bx' hR).2 _ (aEy hx)).elim
    | false=>
     refine⟨n,us,vs,q.ho,(hρi s (m2 i _ hx s rfl)).trans q.hs,q.row,q.hn,q.hl,fun b hb=>hM b (q.hM b hb),fun j c u a b d=>D3.mono (q.flat j c u a b d) (hJ hfc),fun i' u a b=>?_,q.dist⟩
     obtain⟨q0,n2,us2,c2,q1,q2,q3,q4⟩:=q.nest i' u a b
     exact⟨q0,n2,us2,c2,q1,q2,q3.keep_ (fun _ _=>rfl) (hJ hfc),fun b hb=>⟨hM b (q4 b hb).1,(q4 b hb).2⟩⟩
   | mit k2 n s=>
    obtain⟨b,g,q1,q0,q2,q3⟩:=hb
    refine⟨b,g,q1,(hρi k2 (m2 i _ hx k2 rfl)).trans q0,q2,?_⟩
    rcases q3 with q3 | ⟨k,hk,hk'⟩
    ·exact .inl (aFj ha.kept.2.2.2.1 q3)
    ·have hk:k < bx.length:=hk
     obtain⟨j,hj⟩:=hin k hk
     have hk':Br (ρ (G0 wr 0 k))=some b:=hk'
     rw [hi0 k j hj] at hk'
     obtain⟨lb2,h1,_,-,hx⟩:=hpsL k j hj
     exact ((ha.lo _ _ h1).blk (hx.own.2 hk')).2
  refine⟨fun k lb h1=>?_,fun d h1=>?_⟩
  ·obtain⟨i,x,e1,rfl,rfl⟩:=hel1 k lb h1
   rw [hρi i (aBw.1 e1).1]
   exact hmapB i x e1
  ·injection h1 with h1
   subst h1
   have hm:∀ k,men r k->ρ2 (G0 ps tk k)=ρ' k:=fun k hk=>hρi k (m1 k hk)
   cases hfc:fl with
   | false=>exact B7.map (hJ hfc) r v hm d3
   | true=>exact B7.map (I:=I4 cx (σ.app o.dst (Rg ps gs tk r bx')) ρ2 w') (fun b hb=>hb) r v hm (B7.flat r v (hfl hfc r bx' hR).1 d3)
 ·obtain⟨i,x,e1,rfl,rfl⟩:=hel1 k lb h1
  obtain⟨j,q1,rfl⟩:=mT h2
  have hj:=m2 i x e1 j q1
  exact .inr (hel2 j hj)
 ·injection h1 with h1
  subst h1
  obtain⟨j,q1,rfl⟩:=kE r k' h2
  exact .inr (hel2 j (m1 j q1))
 ·obtain⟨i,x,e1,rfl,rfl⟩:=hel1 k lb h1
  have hi:=(aBw.1 e1).1
  rw [hρi i hi] at h3
  have h3:=Nz (hmo i x e1) h3
  rcases himp i hi with ⟨j,q1,q2⟩ | ⟨q1,q2,q3⟩
  ·have hil:=(aBw.1 q1).1
   obtain⟨lb0,q3,_,-,hx⟩:=hpsL i j (hpl i j q1)
   have h3:=lA (hnt i x hil e1) h3
   rw [d1 i hil] at h3
   simp only [hi0 i j (hpl i j q1)] at h3
   exact ha.fresh j lb0 b q3 (by rw [q2] at h2; exact h2) (hx.own.2 h3)
  ·rcases d5 i x b q1 e1 h3 with h4 | ⟨k,k1,k2,k3⟩
   ·exact .inl (aFj ha.kept.2.2.2.1 h4)
   ·obtain⟨j,hj⟩:=hin k k2
    simp only [hi0 k j hj] at k3
    obtain⟨lb0,q4,_,-,hx⟩:=hpsL k j hj
    have k3:=(hx.own (ρ:=ρ)).2 k3
    exact ha.fresh j lb0 b q4 (hgnp j (hgs k j k1 hj)) k3
theorem CallR.sound {tk:Nat} {op:Op} {ty:TypeId} {ds:List (DV×Option LB)} {env:Sn} {wr:List Nat} {E:K4->Prop} (h:CallR P cx.np tk op ty ds env wr E) (ha:Dr cx ρ σ a w) (hds:Ey σ (I3 op) op.operands.toList=some ds) {l0:List Nat} (henv:env=Ls σ l0) (hf:∀ j,j < 8->σ.U (tk + j)=false) (ho:o.op=op) (hdst:∀ t,o.dst=some t->t < cx.N)
  (hK:∀ e a' w',E e->Jf cx (σ.app o.dst e) a' w'->K a' w'):o.wp P a w K Q:=by
 subst henv
 cases h with
 | ext h=>exact h.sound ha hds rfl hf ho hdst hK
 | @call f xs tys _ dsA _ ps gs args bx R fl hF hA hB hnd hfl=>
  have hds':Ey σ true (.func f :: xs.toList)=some ((.val (.func (.func f) #[] #[]),none) :: dsA):=by
   have:(Op.call ⟨.value (.func f),xs,tys⟩).operands.toList=.func f :: xs.toList:=by simp [Op.operands,Call.operands]
   rw [<- this]; exact hds
  obtain⟨-,e2⟩:=Qe hds'
  refine Ux rfl hF hA (Ng ha e2).1 hB hnd hfl ha hf hdst ?_ hK
  have e1:(xs.toList.map a.eval).toArray=xs.map a.eval:=by rw [<- Array.toList_map,aIi]
  have h1:=hF.2.1 (xs.toList.map a.eval).toArray w
  rw [e1] at h1 ⊢
  have e4:a.eval (.func f)=.func (.func f) #[] #[]:=rfl
  have e3:(#[] ++ Array.map a.eval xs ++ #[]:Array Value)=Array.map a.eval xs:=by simp
  simp only [execOp,ho,resolve,e4,Deferred.ofValue,Sem.run_bind,Sem.run_pure,Result.andThen_ok,invoke,e3]
  exact h1
 | @callC t f n cs xs tys _ b dsA _ ps gs args bx R fl hF hA hB hnd hfl=>
  have hds':Ey σ true (.tmp t :: xs.toList)=some ((.clo f n cs,b) :: dsA):=by
   have:(Op.call ⟨.value (.tmp t),xs,tys⟩).operands.toList=.tmp t :: xs.toList:=by simp [Op.operands,Call.operands]
   rw [<- this]; exact hds
  obtain⟨e0,e2⟩:=Qe hds'
  obtain⟨h0,-,-⟩:=B9 ha e0
  unfold B7 at h0
  obtain⟨vs,hv,hr⟩:=h0
  have hr2:=(Ng ha e2).1
  have tk1:Bk ρ (I4 cx σ ρ w) w (cs.take n) (vs.take n):=by have:=hr.sub 0 n; simpa using this
  have tk2:Bk ρ (I4 cx σ ρ w) w (cs.drop n) (vs.drop n):=by
   have:=hr.sub n cs.length
   have e1:(cs.drop n).take cs.length=cs.drop n:=aFd (by rw [aD1]; omega)
   have e2:(vs.drop n).take cs.length=vs.drop n:=aFd (by rw [aD1,hr.length]; omega)
   rw [e1,e2] at this
   exact this
  refine Ux rfl hF hA (tk1.app (hr2.app tk2)) hB hnd hfl ha hf hdst ?_ hK
  have h1:=hF.2.1 (vs.take n ++ (xs.toList.map a.eval ++ vs.drop n)).toArray w
  have e5:((vs.take n).toArray ++ Array.map a.eval xs ++ (vs.drop n).toArray:Array Value)=(vs.take n ++ (xs.toList.map a.eval ++ vs.drop n)).toArray:=by
   apply aIg.1
   simp
  simp only [execOp,ho,resolve,hv,Deferred.ofValue,Sem.run_bind,Sem.run_pure,Result.andThen_ok,invoke]
  rw [e5]
  exact h1
 | @callV t f xs tys _ b dsA _ ps gs args bx R fl hF hA hB hnd hfl=>
  have hds':Ey σ true (.tmp t :: xs.toList)=some ((.val (.func (.func f) #[] #[]),b) :: dsA):=by
   have:(Op.call ⟨.value (.tmp t),xs,tys⟩).operands.toList=.tmp t :: xs.toList:=by simp [Op.operands,Call.operands]
   rw [<- this]; exact hds
  obtain⟨e0,e2⟩:=Qe hds'
  have hv:=Ge ha e0
  refine Ux rfl hF hA (Ng ha e2).1 hB hnd hfl ha hf hdst ?_ hK
  have e1:(xs.toList.map a.eval).toArray=xs.map a.eval:=by rw [<- Array.toList_map,aIi]
  have h1:=hF.2.1 (xs.toList.map a.eval).toArray w
  rw [e1] at h1 ⊢
  have e3:(#[] ++ Array.map a.eval xs ++ #[]:Array Value)=Array.map a.eval xs:=by simp
  simp only [execOp,ho,resolve,hv,Deferred.ofValue,Sem.run_bind,Sem.run_pure,Result.andThen_ok,invoke,e3]
  exact h1
 | @nilE t X Y yt _ sz cs b1 b2 _ hn=>
  have hds':Ey σ false [X,Y]=some [(.sl sz cs,b1),(.val (.slice none 0 0),b2)]:=hds
  obtain⟨e1,e2⟩:=K6 hds'
  obtain⟨h1,-,-⟩:=B9 ha e1
  have hy:=Ge ha e2
  unfold B7 at h1
  obtain⟨A,n,c,hv,hl,hnc,hc⟩:=h1.slice
  obtain⟨e,hn⟩:=hn
  have hrun:(execOp a.eval o).run P w=.ok (.value (.bool A.isNone)) w:=by
   have h:=run_equal_slice_nil w t e A n c hn
   simp [execOp,ho,hv,hy,eqGuard,binOp,h]
  unfold Oper.wp
  rw [hrun]
  refine hK (v0 (.val (.bool A.isNone))) _ _ ⟨_,fun hA=>?_,rfl⟩ ⟨ρ,ha.put0 hdst (fun x hx=>by injection hx with hx; subst hx; exact Jg rfl) (fun x k hx hm=>by injection hx with hx; subst hx; exact Sy k hm)⟩
  cases A with
  | some ad=>cases hA
  | none=>
   have h0:=h1
   rw [hv] at h0
   unfold D3 at h0
   obtain⟨A',n',cap,q1,q2,-,-,q3⟩:=h0
   injection q1 with q1 q4 q5
   rcases aFa n' with h | h
   ·subst h; exact aDu (by simpa using q2)
   ·obtain⟨ad,q6,-⟩:=q3 h
    rw [<- q1] at q6; cases q6
theorem CallR.key {tk:Nat} {op:Op} {ty:TypeId} {ds:List (DV×Option LB)} {env:Sn} {wr:List Nat} {E:K4->Prop} {np:Nat} (h:CallR P np tk op ty ds env wr E):∀ e,E e->∀ k,e.l k≠none->k∈wr\/(tk<=k/\k < tk + 8):=by
 have key:∀ (ps gs:List Nat) (R:DV->List LB->Prop) e,pU ps gs tk R e->∀ k,e.l k≠none->k∈ps ++ gs\/(tk<=k/\k < tk + 8):=by
  rintro ps gs R e ⟨r,b,-,rfl,h1,h2⟩ k hk
  have hk':(match D5 (T3 ps tk 0 b) k with | some lb=>some (some lb) | none=>bif gs.any (Nat.beq k) then some none else none)≠none:=hk
  cases hl:D5 (T3 ps tk 0 b) k with
  | none=>
   rw [hl] at hk'
   simp only [] at hk'
   cases D:gs.any (Nat.beq k) with
   | false=>rw [D] at hk'; exact absurd rfl hk'
   | true=>
    obtain⟨x,q1,q2⟩:=aFn.1 D
    rw [aDr q2]
    exact .inl (aE2 _ q1)
  | some lb=>
   obtain⟨i,x,e1,e2,-⟩:=U0 hl
   rw [aE6] at e2
   have hi:=(aBw.1 e1).1
   unfold G0 at e2
   cases hw:ps[i]? with
   | some j=>rw [hw] at e2; simp only [] at e2; rw [e2]; exact .inl (aE7 _ (aEy hw))
   | none=>
    rw [hw] at e2
    simp only [] at e2
    have:=List.getElem?_eq_none_iff.1 hw
    exact .inr (by omega)
 cases h with
 | call=>exact key _ _ _
 | callC=>exact key _ _ _
 | callV=>exact key _ _ _
 | nilE=>rintro e ⟨b,-,rfl⟩ k hk; exact absurd rfl hk
 | ext h=>exact h.key
theorem CallR.sub {tk:Nat} {op:Op} {ty:TypeId} {ds:List (DV×Option LB)} {env:Sn} {wr:List Nat} {E:K4->Prop} {np:Nat} (h:CallR P np tk op ty ds env wr E):∀ k,k∈wr->k∈env.map (·.1):=by
 have key:∀ {fl:Bool} {bx:List LB},Y9 fl wr env wr bx->∀ k,k∈wr->k∈env.map (·.1):=fun hB k hk=>by
  obtain⟨i,hi,rfl⟩:=aF6 hk
  obtain⟨lb,lb',-,h2,-⟩:=hB.at_ (aA1 hi)
  exact aFr.2 ⟨_,h2,rfl⟩
 cases h with
 | call fl hF hA hB=>exact key hB
 | callC fl hF hA hB=>exact key hB
 | callV fl hF hA hB=>exact key hB
 | nilE=>intro k hk; simp at hk
 | ext h=>exact h.sub
end
section
variable {P:Program} {cx:Cx} {σ:St} {a:Act} {w:World} {ρ:Nat->Value}
def Y6 (sz:Nat) (cs:List C) (ks:List Nat):K4:=⟨some (.sl sz cs),fun k=>bif ks.any (Nat.beq k) then some none else none⟩
abbrev zT (j:Nat) (k:Nat):Option Nat:=if k=j then none else some k
mutual
theorem Cv.self {j:Nat}:∀ d,(∀ k,men d k->k≠j)->Cv σ (zT j) d d
 | .val v,_=>.val v
 | .sl _ _,_=>.sl _ _
 | .slc _ _,_=>.slcc _ _
 | .mp _,_=>.mp _
 | .elt _,_=>.elt _
 | .row k,h=>.row (if_neg (h k (by unfold men; rfl)))
 | .part k _ _,h=>.part (if_neg (h k (by unfold men; rfl)))
 | .ptr k _,h=>.ptr (if_neg (h k (by unfold men; rfl)))
 | .nst k s _,h=>.nst (if_neg (h k (by unfold men; exact .inl rfl))) (if_neg (h s (by unfold men; exact .inr rfl)))
 | .npt k s _ _,h=>.npt (if_neg (h k (by unfold men; exact .inl rfl))) (if_neg (h s (by unfold men; exact .inr rfl)))
 | .npr k s _ _ _,h=>.npr (if_neg (h k (by unfold men; exact .inl rfl))) (if_neg (h s (by unfold men; exact .inr rfl)))
 | .qpt k _,h=>.qpt (if_neg (h k (by unfold men; rfl)))
 | .agg ds,h=>.agg (Pv.self ds fun k hk=>h k (by unfold men; exact hk))
 | .tup ds,h=>.tup (Pv.self ds fun k hk=>h k (by unfold men; exact hk))
 | .clo _ _ ds,h=>.clo _ _ (Pv.self ds fun k hk=>h k (by unfold men; exact hk))
theorem Pv.self {j:Nat}:∀ ds,(∀ k,E3 ds k->k≠j)->Pv σ (zT j) ds ds
 | [],_=>.nil
 | d :: ds,h=>.cons (Cv.self d fun k hk=>h k (by unfold E3; exact .inl hk)) (Pv.self ds fun k hk=>h k (by unfold E3; exact .inr hk))
end
theorem Jf.frzE {ρ0:Nat->Value} {a0:Act} {w00:World} (h0:Dr cx ρ0 σ a0 w00) {tk et sz:Nat} {cs:List C} {ks:List Nat} {dst:Option Tmp} (hf:σ.U tk=false) (h:Jf cx (σ.app dst (L5 tk (.row et sz cs) ks (.row tk))) a w):Jf cx (σ.app dst (Go.Proofs.YtfanepojdefdpaaGreat.Y6 sz cs ks)) a w:=by
 obtain⟨ρ,ha⟩:=h
 have hnp:cx.np<=tk:=by
  rcases aF4 tk cx.np with h | h
  ·have:=(h0.pin tk h).2
   rw [hf] at this; cases this
  ·exact h
 have hLtk:(σ.app dst (L5 tk (.row et sz cs) ks (.row tk))).L tk=some (.row et sz cs):=by
  show (match (bif Nat.beq tk tk then some (some (LB.row et sz cs)) else _) with | some x=>x | none=>σ.L tk)=_
  rw [aGp]
  rfl
 have hLne:∀ k,k≠tk->(σ.app dst (L5 tk (.row et sz cs) ks (.row tk))).L k=(σ.app dst (Go.Proofs.YtfanepojdefdpaaGreat.Y6 sz cs ks)).L k:=fun k hk=>by
  show (match (bif Nat.beq k tk then some (some (LB.row et sz cs)) else (bif ks.any (Nat.beq k) then some none else none)) with | some x=>x | none=>σ.L k)=(match (bif ks.any (Nat.beq k) then some none else none) with | some x=>x | none=>σ.L k)
  have:Nat.beq k tk=false:=by
   cases hb:Nat.beq k tk with
   | false=>rfl
   | true=>exact absurd (aDr hb) hk
  rw [this]
  rfl
 have B:∀ k,σ.U k=true->(σ.app dst (Go.Proofs.YtfanepojdefdpaaGreat.Y6 sz cs ks)).U k=true:=fun k hk=>by
  show (σ.U k || _)=true
  rw [hk]; rfl
 have hLs:∀ k lb,(σ.app dst (Go.Proofs.YtfanepojdefdpaaGreat.Y6 sz cs ks)).L k=some lb->σ.L k=some lb:=fun k lb hl=>by
  have hl':(match (bif ks.any (Nat.beq k) then some none else none) with | some x=>x | none=>σ.L k)=some lb:=hl
  cases hb:ks.any (Nat.beq k) with
  | true=>rw [hb] at hl'; cases hl'
  | false=>rw [hb] at hl'; exact hl'
 have hFs:∀ t d,(σ.app dst (Go.Proofs.YtfanepojdefdpaaGreat.Y6 sz cs ks)).F t=some d->(dst=some t/\d=.sl sz cs)\/(dst≠some t/\σ.F t=some d):=fun t d hd=>by
  cases dst with
  | none=>exact .inr ⟨by simp,hd⟩
  | some t'=>
   by_cases h1:t=t'
   ·subst h1
    have:(σ.app (some t) (Go.Proofs.YtfanepojdefdpaaGreat.Y6 sz cs ks)).F t=some (.sl sz cs):=Np _ _ _
    rw [this] at hd
    injection hd with hd
    exact .inl ⟨rfl,hd.symm⟩
   ·have:(σ.app (some t') (Go.Proofs.YtfanepojdefdpaaGreat.Y6 sz cs ks)).F t=σ.F t:=Km _ _ h1
    rw [this] at hd
    exact .inr ⟨fun h=>by injection h with h; exact h1 h.symm,hd⟩
 refine⟨_,(ha.ren (σ':=σ.app dst (Go.Proofs.YtfanepojdefdpaaGreat.Y6 sz cs ks)) (zT tk) (fun t d' hd=>?_) (fun k lb' hl=>?_) (fun k k' i h1 h2=>?_) (fun k hk=>⟨if_neg (by omega),B k (h0.pin k hk).2⟩) (fun t d k hd hm=>?_) (fun k lb hl=>?_)).1⟩
 ·rcases hFs t d' hd with ⟨rfl,rfl⟩ | ⟨h1,h2⟩
  ·refine⟨.row tk,Np _ _ _,.frz hLtk fun k hk=>?_⟩
   unfold zT at hk
   split at hk
   ·cases hk
   ·rename_i hne
    injection hk with hk
    exact hne hk
  ·refine⟨d',?_,Cv.self d' fun k hk hkt=>?_⟩
   ·cases dst with
    | none=>exact h2
    | some t'=>exact (Km _ _ fun h=>h1 (by rw [h])).trans h2
   ·have:=h0.usedF t d' k h2 hk
    rw [hkt,hf] at this; cases this
 ·have h1:=hLs k lb' hl
  have hk:k≠tk:=fun h=>by
   have:=(h0.usedL k _ h1).1
   rw [h,hf] at this; cases this
  refine .inl ⟨k,lb',if_neg hk,(hLne k hk).trans hl,?_⟩
  cases lb' with
  | row e s c=>exact⟨rfl,rfl,rfl⟩
  | map l=>exact rfl
  | gho=>trivial
  | abs ns S=>
   refine⟨aGl fun j hj=>if_neg fun h=>?_,rfl⟩
   have:=(h0.usedL k _ h1).2 j hj
   rw [h,hf] at this
   cases this
  | que e s c=>exact⟨rfl,rfl,rfl⟩
  | tree e sz o e2 sz2 s hh cs=>
   refine⟨rfl,rfl,rfl,rfl,rfl,if_neg fun h=>?_,rfl,rfl⟩
   have:=(h0.usedL k _ h1).2 s rfl
   rw [h,hf] at this
   cases this
  | mit k2 n s=>
   refine⟨if_neg fun h=>?_,rfl,rfl⟩
   have:=(h0.usedL k _ h1).2 k2 rfl
   rw [h,hf] at this
   cases this
  | vec ds e=>exact⟨rfl,Pv.self ds fun k' hk' hkt=>by
    have:=(h0.usedL k _ h1).2 k' hk'
    rw [hkt,hf] at this; cases this⟩
  | box ds ty=>exact⟨rfl,Pv.self ds fun k' hk' hkt=>by
    have:=(h0.usedL k _ h1).2 k' hk'
    rw [hkt,hf] at this; cases this⟩
 ·unfold zT at h1 h2
  split at h1
  ·cases h1
  ·split at h2
   ·cases h2
   ·injection h1 with h1
    injection h2 with h2
    omega
 ·rcases hFs t d hd with ⟨rfl,rfl⟩ | ⟨h1,h2⟩
  ·unfold men at hm; exact hm.elim
  ·exact B k (h0.usedF t d k h2 hm)
 ·have h1:=h0.usedL k _ (hLs k lb hl)
  exact⟨B k h1.1,fun k' hk'=>B k' (h1.2 k' hk')⟩
end
def zB (fz:List Nat) (tk:Nat):Bool:=fz.any (Nat.beq tk)
def zM (fz:List Nat) (tk:Nat):Nat:=bif zB fz tk then 1 else 0
def O5 (np:Nat) (op:Op) (wr:List Nat):Bool:=!pT op || wr.all fun k=>Nat.ble np k
theorem fC {np:Nat} {op:Op} {wr:List Nat} (h:O5 np op wr=true):pT op=true->∀ k∈wr,np<=k:=fun h1 k hk=>by
 unfold O5 at h
 rw [h1] at h
 exact aC3 (aEb.1 h k hk)
theorem tT {P:Program} {np tk:Nat} {op:Op} {ty:TypeId} {ds:List (DV×Option LB)} {env:Sn} {wr wr':List Nat} {e:K4} {E:K4->Prop} (h:Fv P tk op ty ds wr e) (h':CallR P np tk op ty ds env wr' E):False:=by
 cases h' with
 | call=>cases h
 | callC=>cases h
 | callV=>cases h
 | nilE=>cases h with | binOpA q=>simp [Lw] at q
 | ext h'=>exact h'.excl h
def OpZ (P:Program) (np:Nat) (fz:List Nat) (tk:Nat) (op:Op) (ty:TypeId) (ds:List (DV×Option LB)) (wr:List Nat) (e:K4):Prop:=
 O5 np op wr=true/\((zM fz tk=0/\Fv P tk op ty ds wr e)\/(zM fz tk=1/\∃ e0 et sz cs,Fv P tk op ty ds wr e0/\e0=L5 tk (.row et sz cs) wr (.row tk)/\e=Y6 sz cs wr))
def Bi (P:Program) (cx:Cx) (fz:List Nat):sZ P cx where
 R:=OpZ P cx.np fz
 C:=CallR P cx.np
 soundR:=by
  intro tk op ty ds wr e h ρ σ a w ha hds hf o ho hty hdst K Q hK
  have hf0:σ.U tk=false:=by have:=hf 0 (by omega); simpa using this
  obtain⟨hap,h⟩:=h
  rcases h with ⟨-,h⟩ | ⟨-,e0,et,sz,cs,h,rfl,rfl⟩
  ·exact h.sound ha hds hf0 ho hty hdst (fC hap) hK
  ·exact h.sound ha hds hf0 ho hty hdst (fC hap) fun a' w' h'=>hK a' w' (Jf.frzE ha hf0 h')
 soundC:=by
  intro tk op ty ds env wr E h ρ σ a w ha hds henv hf o ho hty hdst K Q hK
  obtain⟨l0,henv⟩:=henv
  exact h.sound ha hds henv hf ho hdst hK
 func:=by
  intro w tk op ty ds wr e wr' e' h h'
  rcases h with ⟨-,⟨z,h⟩ | ⟨z,e0,et,sz,cs,h,q1,rfl⟩⟩ <;> rcases h' with ⟨-,⟨z',h'⟩ | ⟨z',e0',et',sz',cs',h',q1',rfl⟩⟩
  ·exact h.func w h'
  ·rw [z] at z'; cases z'
  ·rw [z] at z'; cases z'
  ·obtain⟨rfl,e1⟩:=h.func w h'
   refine⟨rfl,?_⟩
   rw [q1,q1'] at e1
   have:=congrFun (congrArg K4.l e1) tk
   have this:(bif Nat.beq tk tk then some (some (LB.row et sz cs)) else _)=(bif Nat.beq tk tk then some (some (LB.row et' sz' cs')) else _):=this
   rw [aGp] at this
   injection this with this
   injection this with this
   injection this with t1 t2 t3
   rw [t2,t3]
 excl:=by
  intro tk op ty ds env wr e wr' E h h'
  rcases h with ⟨-,⟨-,h⟩ | ⟨-,e0,et,sz,cs,h,-⟩⟩ <;> exact tT h h'
 keyR:=by
  intro tk op ty ds wr e h
  rcases h with ⟨-,⟨-,h⟩ | ⟨-,e0,et,sz,cs,h,-,rfl⟩⟩
  ·exact h.key
  ·intro k hk
   have hk':(bif wr.any (Nat.beq k) then some (none:Option LB) else none)≠none:=hk
   cases hb:wr.any (Nat.beq k) with
   | false=>rw [hb] at hk'; exact absurd rfl hk'
   | true=>
    obtain⟨j,hj,hj'⟩:=aFn.1 hb
    rw [aDr hj']
    exact .inl hj
 keyC:=fun h=>h.key
 subR:=by
  intro tk op ty ds wr e h
  rcases h with ⟨-,⟨-,h⟩ | ⟨-,e0,et,sz,cs,h,-⟩⟩
  ·exact h.sub
  ·exact h.sub
 subC:=fun h=>h.sub
 simC:=by
  intro tk op ty ds ds' env wr E h hs
  cases h with
  | ext h=>exact .ext (h.sim hs)
  | call fl hF hA hB hnd hfl=>rw [<- Hj.eq (show Hj false _ _ from hs)]; exact .call fl hF hA hB hnd hfl
  | callC fl hF hA hB hnd hfl=>rw [<- Hj.eq (show Hj false _ _ from hs)]; exact .callC fl hF hA hB hnd hfl
  | callV fl hF hA hB hnd hfl=>rw [<- Hj.eq (show Hj false _ _ from hs)]; exact .callV fl hF hA hB hnd hfl
  | nilE hn=>rw [<- Hj.eq (show Hj false _ _ from hs)]; exact .nilE hn
 sim:=by
  intro tk op ty ds ds' wr e h hs
  rcases h with ⟨hap,⟨hz,h⟩ | ⟨hz,e0,et,sz,cs,h,he,h'⟩⟩
  ·exact⟨hap,.inl ⟨hz,h.sim hs⟩⟩
  ·exact⟨hap,.inr ⟨hz,e0,et,sz,cs,h.sim hs,he,h'⟩⟩
end Go.Proofs.YtfanepojdefdpaaGreat
namespace Go.Proofs.YtfanepojdefdpaaGreat
open Go.RowKit
section
variable {P:Program} {cx:Cx} {ops:Array Oper} {Rt:Option (List Nat)} {nb i:Nat} {l:List Oper} {lg:gS} {σ:St} {Q:St->Prop} {fz:List Nat}
theorem Ff {dst:Option Tmp} {op:Op} {ty:TypeId} {pos:String} {af:Array Edge} {g:Option (Nat×Bool)} {ds:List (DV×Option LB)} {rd wr:List Nat} {e:K4} (D:Kf ops σ ⟨dst,op,ty,pos,af,g⟩=some true) (hds:Ey σ (I3 op) op.operands.toList=some ds) (h:Fv P (nb + 8 * i) op ty ds wr e)
  (hrd:(bif I3 op then Li (Ie op) ds else [])=rd) (hok:K7 Rt i false (nb + 8 * i) rd wr lg=true) (k:Chain (Bi P cx fz) ops Rt nb (Fj (i + 1) l) ((i,false,nb + 8 * i,rd,wr) :: lg) (σ.app dst e) Q) (hz:zM fz (nb + 8 * i)=0:=by rfl) (hap:O5 cx.np op wr=true:=by rfl) :
  Chain (Bi P cx fz) ops Rt nb (Fj i (⟨dst,op,ty,pos,af,g⟩ :: l)) lg σ Q:=
 .inl ⟨_,wr,e,.inr ⟨D,ds,hds,⟨hap,.inl ⟨hz,h⟩⟩,hrd.symm⟩,hok,k⟩
theorem O8 {dst:Option Tmp} {op:Op} {ty:TypeId} {pos:String} {af:Array Edge} {g:Option (Nat×Bool)} {ds:List (DV×Option LB)} {rd wr:List Nat} {e:K4} {et sz:Nat} {cs:List C} (D:Kf ops σ ⟨dst,op,ty,pos,af,g⟩=some true) (hds:Ey σ (I3 op) op.operands.toList=some ds) (h:Fv P (nb + 8 * i) op ty ds wr e) (he:e=L5 (nb + 8 * i) (.row et sz cs) wr (.row (nb + 8 * i)))
  (hrd:(bif I3 op then Li (Ie op) ds else [])=rd) (hok:K7 Rt i false (nb + 8 * i) rd wr lg=true) (k:Chain (Bi P cx fz) ops Rt nb (Fj (i + 1) l) ((i,false,nb + 8 * i,rd,wr) :: lg) (σ.app dst (Y6 sz cs wr)) Q) (hz:zM fz (nb + 8 * i)=1:=by rfl) (hap:O5 cx.np op wr=true:=by rfl) :
  Chain (Bi P cx fz) ops Rt nb (Fj i (⟨dst,op,ty,pos,af,g⟩ :: l)) lg σ Q:=
 .inl ⟨_,wr,_,.inr ⟨D,ds,hds,⟨hap,.inr ⟨hz,e,et,sz,cs,h,he,rfl⟩⟩,hrd.symm⟩,hok,k⟩
theorem vS {dst:Option Tmp} {op:Op} {ty:TypeId} {pos:String} {af:Array Edge} {g:Option (Nat×Bool)} (D:Kf ops σ ⟨dst,op,ty,pos,af,g⟩=some false)
  (hok:K7 Rt i false (nb + 8 * i) [] [] lg=true) (k:Chain (Bi P cx fz) ops Rt nb (Fj (i + 1) l) ((i,false,nb + 8 * i,[],[]) :: lg) (σ.app dst iT) Q) :
  Chain (Bi P cx fz) ops Rt nb (Fj i (⟨dst,op,ty,pos,af,g⟩ :: l)) lg σ Q:=
 .inl ⟨_,_,_,.inl ⟨D,rfl,rfl,rfl⟩,hok,k⟩
theorem Cj {dst:Option Tmp} {op:Op} {ty:TypeId} {pos:String} {af:Array Edge} {g:Nat} {b c:Bool} {t:Tmp} (ht:(ops[g]?).bind (·.dst)=some t) (hF:σ.F t=some (.val (.bool c))) (hc:c=b):Kf ops σ ⟨dst,op,ty,pos,af,some (g,b)⟩=some true:=by
 subst hc
 unfold Kf
 simp only []
 rw [ht]
 simp only []
 rw [hF]
 simp
theorem xE {dst:Option Tmp} {op:Op} {ty:TypeId} {pos:String} {af:Array Edge} {g:Nat} {b c:Bool} {t:Tmp} (ht:(ops[g]?).bind (·.dst)=some t) (hF:σ.F t=some (.val (.bool c))) (hc:c=!b):Kf ops σ ⟨dst,op,ty,pos,af,some (g,b)⟩=some false:=by
 subst hc
 unfold Kf
 simp only []
 rw [ht]
 simp only []
 rw [hF]
 cases b <;> rfl
theorem sN {f:FuncId} {xs:Array Operand} {tys:Array TypeId} {dsA:List (DV×Option LB)} (h:Ey σ true xs.toList=some dsA):Ey σ (I3 (.call ⟨.value (.func f),xs,tys⟩)) (Op.call ⟨.value (.func f),xs,tys⟩).operands.toList=some ((.val (.func (.func f) #[] #[]),none) :: dsA):=by
 have:(Op.call ⟨.value (.func f),xs,tys⟩).operands.toList=.func f :: xs.toList:=by simp [Op.operands,Call.operands]
 rw [this]
 show Ey σ true (.func f :: xs.toList)=_
 unfold Ey
 rw [h]
 rfl
theorem lO {t:Tmp} {xs:Array Operand} {tys:Array TypeId} {q:DV×Option LB} {dsA:List (DV×Option LB)} (h0:ev σ true (.tmp t)=some q) (h:Ey σ true xs.toList=some dsA):Ey σ (I3 (.call ⟨.value (.tmp t),xs,tys⟩)) (Op.call ⟨.value (.tmp t),xs,tys⟩).operands.toList=some (q :: dsA):=by
 have:(Op.call ⟨.value (.tmp t),xs,tys⟩).operands.toList=.tmp t :: xs.toList:=by simp [Op.operands,Call.operands]
 rw [this]
 show Ey σ true (.tmp t :: xs.toList)=_
 unfold Ey
 rw [h0,h]
theorem Fg {dst:Option Tmp} {f:FuncId} {xs:Array Operand} {tys:Array TypeId} {ty:TypeId} {pos:String} {af:Array Edge} {g:Option (Nat×Bool)} {dsA:List (DV×Option LB)} {rd ps gs:List Nat} {args:List DV} {bx:List LB} {R:DV->List LB->Prop} (fl:Bool)
  (D:Kf ops σ ⟨dst,.call ⟨.value (.func f),xs,tys⟩,ty,pos,af,g⟩=some true)
  (hF:Fn P f ps.length args bx R) (hds:Ey σ true xs.toList=some dsA) (hrd:Rj σ 3 (Uz dsA)=rd) (hA:Hm fl (ps ++ gs) (Ls σ rd) (dsA.map (·.1)) args) (hB:Y9 fl (ps ++ gs) (Ls σ rd) (ps ++ gs) bx) (hnd:Rv cx.np ps gs=true) (hfl:fl=true->∀ r b,R r b->I1 r/\∀ lb∈b,Nm lb)
  (hok:K7 Rt i true (nb + 8 * i) rd (ps ++ gs) lg=true) (hne:Rt.isSome=true->∃ r b,R r b/\ps.length<=b.length/\b.length<=ps.length + 8)
  (k:∀ r b,R r b->Chain (Bi P cx fz) ops Rt nb (Fj (i + 1) l) ((i,true,nb + 8 * i,rd,ps ++ gs) :: lg) (σ.app dst (Rg ps gs (nb + 8 * i) r b)) Q) :
  Chain (Bi P cx fz) ops Rt nb (Fj i (⟨dst,.call ⟨.value (.func f),xs,tys⟩,ty,pos,af,g⟩ :: l)) lg σ Q:=by
 subst hrd
 refine .inr ⟨_,ps ++ gs,_,⟨D,_,sN hds,.call fl hF hA hB hnd hfl,by rw [<- Qj]; rfl⟩,hok,fun h=>?_,?_⟩
 ·obtain⟨r,b,h1,h2,h3⟩:=hne h
  exact⟨_,r,b,h1,rfl,h2,h3⟩
 ·rintro e ⟨r,b,h1,rfl,-,-⟩
  exact k r b h1
theorem K0 {dst:Option Tmp} {t:Tmp} {f:FuncId} {n:Nat} {cs:List DV} {q:Option LB} {xs:Array Operand} {tys:Array TypeId} {ty:TypeId} {pos:String} {af:Array Edge} {g:Option (Nat×Bool)} {dsA:List (DV×Option LB)} {rd ps gs:List Nat} {args:List DV} {bx:List LB} {R:DV->List LB->Prop} (fl:Bool)
  (D:Kf ops σ ⟨dst,.call ⟨.value (.tmp t),xs,tys⟩,ty,pos,af,g⟩=some true) (hc:ev σ true (.tmp t)=some (.clo f n cs,q))
  (hF:Fn P f ps.length args bx R) (hds:Ey σ true xs.toList=some dsA) (hrd:Rj σ 3 (M0 cs ++ Uz dsA)=rd) (hA:Hm fl (ps ++ gs) (Ls σ rd) (cs.take n ++ (dsA.map (·.1) ++ cs.drop n)) args) (hB:Y9 fl (ps ++ gs) (Ls σ rd) (ps ++ gs) bx) (hnd:Rv cx.np ps gs=true) (hfl:fl=true->∀ r b,R r b->I1 r/\∀ lb∈b,Nm lb)
  (hok:K7 Rt i true (nb + 8 * i) rd (ps ++ gs) lg=true) (hne:Rt.isSome=true->∃ r b,R r b/\ps.length<=b.length/\b.length<=ps.length + 8)
  (k:∀ r b,R r b->Chain (Bi P cx fz) ops Rt nb (Fj (i + 1) l) ((i,true,nb + 8 * i,rd,ps ++ gs) :: lg) (σ.app dst (Rg ps gs (nb + 8 * i) r b)) Q) :
  Chain (Bi P cx fz) ops Rt nb (Fj i (⟨dst,.call ⟨.value (.tmp t),xs,tys⟩,ty,pos,af,g⟩ :: l)) lg σ Q:=by
 subst hrd
 refine .inr ⟨_,ps ++ gs,_,⟨D,_,lO hc hds,.callC fl hF hA hB hnd hfl,by rw [<- Qj]; rfl⟩,hok,fun h=>?_,?_⟩
 ·obtain⟨r,b,h1,h2,h3⟩:=hne h
  exact⟨_,r,b,h1,rfl,h2,h3⟩
 ·rintro e ⟨r,b,h1,rfl,-,-⟩
  exact k r b h1
theorem lI {dst:Option Tmp} {t yt:TypeId} {X Y:Operand} {ty:TypeId} {pos:String} {af:Array Edge} {g:Option (Nat×Bool)} {sz:Nat} {cs:List C} {b1 b2:Option LB}
  (D:Kf ops σ ⟨dst,.binOp .eql t X Y yt,ty,pos,af,g⟩=some true) (hds:Ey σ false [X,Y]=some [(.sl sz cs,b1),(.val (.slice none 0 0),b2)]) (hn:∃ e,P.underlying t=some (.slice e))
  (hok:K7 Rt i true (nb + 8 * i) [] [] lg=true) (k:∀ b:Bool,(b=true->cs=[])->Chain (Bi P cx fz) ops Rt nb (Fj (i + 1) l) ((i,true,nb + 8 * i,[],[]) :: lg) (σ.app dst (v0 (.val (.bool b)))) Q) :
  Chain (Bi P cx fz) ops Rt nb (Fj i (⟨dst,.binOp .eql t X Y yt,ty,pos,af,g⟩ :: l)) lg σ Q:=by
 refine .inr ⟨_,[],_,⟨D,_,hds,.nilE hn,rfl⟩,hok,fun h=>⟨_,false,fun h=>(by cases h),rfl⟩,?_⟩
 rintro e ⟨b,h1,rfl⟩
 exact k b h1
theorem U6 {dst:Option Tmp} {op:Op} {ty:TypeId} {pos:String} {af:Array Edge} {g:Option (Nat×Bool)} {ds:List (DV×Option LB)} {rd wr:List Nat} {E:K4->Prop}
  (D:Kf ops σ ⟨dst,op,ty,pos,af,g⟩=some true) (hds:Ey σ (I3 op) op.operands.toList=some ds) (hx:ExtR P cx.np (nb + 8 * i) op ty ds (Ls σ rd) wr E) (hrd:Rj σ 3 (P7 (Ie op) ds)=rd)
  (hok:K7 Rt i true (nb + 8 * i) rd wr lg=true) (hne:Rt.isSome=true->∃ e,E e) (k:∀ e,E e->Chain (Bi P cx fz) ops Rt nb (Fj (i + 1) l) ((i,true,nb + 8 * i,rd,wr) :: lg) (σ.app dst e) Q) :
  Chain (Bi P cx fz) ops Rt nb (Fj i (⟨dst,op,ty,pos,af,g⟩ :: l)) lg σ Q:=by
 subst hrd
 exact .inr ⟨_,wr,_,⟨D,_,hds,.ext hx,rfl⟩,hok,hne,k⟩
theorem aEa {Q:Exit->St->Prop} {nb':Nat} (h:(∀ j,nb'<=j->σ.U j=false)->Q .normal σ):Chain (Bi P cx fz) ops Rt nb (Fj i []) lg σ (fun σ'=>(∀ j,nb'<=j->σ'.U j=false)->Q .normal σ'):=h
theorem Az {fl:List (Nat×DV)} {ll:List (Nat×LB)} {n:Nat}:∀ k,n<=k->(mk fl ll n).U k=false:=fun k hk=>by
 show Nat.blt k n=false
 cases h:Nat.blt k n with
 | false=>rfl
 | true=>have:k + 1<=n:=aC3 h; omega
end
section
variable {P:Program} {t:TypeId} {X Y:Operand}
abbrev BO (P:Program) (op:BinOp) (t:TypeId) (X Y:Operand) (vx vy v:Value):Prop:=∀ w,(do eqGuard op t X Y vx vy; binOp op t vx vy:Sem Value).run P w=.ok v w
theorem xQ {k:IntKind} {x y:Int}:BO P .lss t X Y (.int k x) (.int k y) (.bool (decide (x < y))):=fun w=>by simp [eqGuard,binOp,Op.intCmp]
theorem zD {k:IntKind} {x y:Int}:BO P .leq t X Y (.int k x) (.int k y) (.bool (decide (x<=y))):=fun w=>by simp [eqGuard,binOp,Op.intCmp]
theorem yL {k:IntKind} {x y:Int}:BO P .gtr t X Y (.int k x) (.int k y) (.bool (decide (y < x))):=fun w=>by simp [eqGuard,binOp,Op.intCmp]
theorem zK {k:IntKind} {x y:Int}:BO P .geq t X Y (.int k x) (.int k y) (.bool (decide (y<=x))):=fun w=>by simp [eqGuard,binOp,Op.intCmp]
theorem yC {k:IntKind} {x y:Int}:BO P .eql t X Y (.int k x) (.int k y) (.bool (decide (x=y))):=fun w=>by
 simp [eqGuard,binOp,Op.intCmp]
 rfl
theorem xK {k:IntKind} {x y:Int}:BO P .neq t X Y (.int k x) (.int k y) (.bool (decide (x≠y))):=fun w=>by
 simp [eqGuard,binOp,Op.intCmp]
 rfl
theorem wD {k:IntKind} {x y:Int}:BO P .add t X Y (.int k x) (.int k y) (.int k (k.wrap (x + y))):=fun w=>by simp [eqGuard,binOp,Op.intArith]
theorem uJ {k:IntKind} {x y:Int}:BO P .sub t X Y (.int k x) (.int k y) (.int k (k.wrap (x - y))):=fun w=>by simp [eqGuard,binOp,Op.intArith]
theorem jZ {k:IntKind} {x y:Int}:BO P .mul t X Y (.int k x) (.int k y) (.int k (k.wrap (x * y))):=fun w=>by simp [eqGuard,binOp,Op.intArith]
theorem pK {k:IntKind} {x y:Int} (h:y≠0):BO P .rem t X Y (.int k x) (.int k y) (.int k (x.tmod y)):=fun w=>by simp [eqGuard,binOp,Op.intDiv,h]
theorem zF {k:IntKind} {x y:Int} (h:y≠0):BO P .quo t X Y (.int k x) (.int k y) (.int k (k.wrap (x.tdiv y))):=fun w=>by simp [eqGuard,binOp,Op.intDiv,h]
theorem Z0 (a b:ByteArray):(a.toList == b.toList)=decide (a=b):=by
 rw [ByteArray.toList_eq,ByteArray.toList_eq]
 by_cases h:a=b
 ·subst h; simp
 ·rw [aBo h]
  refine beq_eq_false_iff_ne.2 fun e=>h ?_
  cases a; cases b
  simp only [ByteArray.mk.injEq]
  exact aIg.1 e
theorem tA {a b:ByteArray}:BO P .eql t X Y (.string a) (.string b) (.bool (decide (a=b))):=fun w=>by
 simp [eqGuard,binOp,Op.stringOp,Z0]
theorem vB {a b:ByteArray}:BO P .neq t X Y (.string a) (.string b) (.bool (decide (a≠b))):=fun w=>by
 simp [eqGuard,binOp,Op.stringOp,Z0]
theorem yD {b:Bool}:∀ w,(Op.unary .not (.bool b)).run P w=.ok (.bool (!b)) w:=fun w=>by simp [Op.unary]
theorem dF {src dst:TypeId} {k k':IntKind} {n:Int} (hs:(P.underlying src).isSome=true) (hd:P.underlying dst=some (.int k')):∀ w,(convert src dst (.int k n)).run P w=.ok (.int k' (k'.wrap n)) w:=fun w=>by
 obtain⟨d,hd'⟩:=Option.isSome_iff_exists.mp hs
 simp [convert,run_underlying hd',run_underlying hd,Conv.intToInt]
end
end Go.Proofs.YtfanepojdefdpaaGreat
