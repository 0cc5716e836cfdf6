import Derived.Test.YtobamahlipiakaaGreatEX
import Derived.Test.YtobamahlipiakaaGreatEQ
import Derived.Laws.Cover3
import Derived.IntWalk
import Derived.Laws.StructEq
set_option linter.unusedVariables false
set_option linter.unusedSimpArgs false
namespace Go.Proofs.YtobamahlipiakaaGreat
open Go.RowKit
def Le:List C->Prop
 | []=>True
 | .int k n :: l=>(k.min<=n/\n<=k.max)/\Le l
 | .bool _ :: l=>Le l
 | .str s :: l=>s.size<=maxLen/\Le l
 | .raw _ :: l=>Le l
 | .mp _ :: l=>Le l
 | .sl sz cs :: l=>(∃ n,cs.length=n * sz/\n<=maxLen)/\Le cs/\Le l
mutual
theorem F1.ok {w:World} {S:Nat->Prop}:∀ (c:C) (v:Value),F1 w S c v->Le [c]
 | .int k n,v,h=>by unfold Le; unfold F1 at h; exact⟨h.2,by unfold Le; trivial⟩
 | .bool _,_,_=>by unfold Le; unfold Le; trivial
 | .str s,v,h=>by unfold Le; unfold F1 at h; exact⟨h.2,by unfold Le; trivial⟩
 | .raw _,_,_=>by unfold Le; unfold Le; trivial
 | .mp _,_,_=>by unfold Le; unfold Le; trivial
 | .sl sz cs,v,h=>by
  unfold Le
  unfold F1 at h
  obtain⟨A,n,cap,h1,h2,h3,h4,h5⟩:=h
  refine⟨⟨n,h2,aOt h3 h4⟩,?_,by unfold Le; trivial⟩
  rcases aLq n with h0 | h0
  ·subst h0
   have:cs=[]:=aG6 (by simpa using h2)
   subst this
   unfold Le; trivial
  ·obtain⟨ad,-,-,h8⟩:=h5 h0
   exact J0.ok ad cs 0 h8
theorem J0.ok {w:World} {S:Nat->Prop} (ad:Addr):∀ (cs:List C) (i:Nat),J0 w S ad i cs->Le cs
 | [],_,_=>by unfold Le; trivial
 | c :: cs,i,h=>by
  unfold J0 at h
  obtain⟨⟨u,_,h1⟩,h2⟩:=h
  have a:=F1.ok c u h1
  have b:=J0.ok ad cs (i + 1) h2
  cases c <;> unfold Le at a ⊢ <;> first | exact⟨a.1,b⟩ | exact b | exact⟨a.1,a.2.1,b⟩
end
theorem wQ {w:World} {S:Nat->Prop}:∀ {cs:List C} {us:List Value},G0 w S cs us->Le cs
 | [],_,_=>by unfold Le; trivial
 | c :: cs,[],h=>by have:=h.1; simp at this
 | c :: cs,u :: us,h=>by
  have a:=F1.ok c u (h.2 0 c u rfl rfl)
  have b:=wQ (cs:=cs) (us:=us) ⟨by simpa using h.1,fun j c' u' x y=>h.2 (j + 1) c' u' (by simpa using x) (by simpa using y)⟩
  cases c <;> unfold Le at a ⊢ <;> first | exact⟨a.1,b⟩ | exact b | exact⟨a.1,a.2.1,b⟩
mutual
def vV:DV->Prop
 | .sl sz cs=>(∃ n,cs.length=n * sz/\n<=maxLen)/\Le cs
 | .slc sz cs=>(∃ n,cs.length=n * sz/\n<=maxLen)/\Le cs
 | .mp _=>True
 | .elt cs=>Le cs
 | .agg ds=>nW ds
 | .tup ds=>nW ds
 | .clo _ _ _=>True
 | .val _=>True
 | .row _=>True
 | .part _ _ _=>True
 | .ptr _ _=>True
def nW:List DV->Prop
 | []=>True
 | d :: ds=>vV d/\nW ds
end
def okB:LB->Prop
 | .box ds _=>nW ds
 | .row _ sz cs=>(∃ n,cs.length=n * sz/\n<=maxLen)/\Le cs
 | .map _=>True
 | .mit ..=>True
 | .vec ds _=>nW ds
 | .lop _ ds _ _=>nW ds
mutual
theorem C3.ok {ρ:Nat->Value} {I:Nat->Prop} {w:World}:∀ (d:DV) (v:Value),C3 ρ I w d v->vV d
 | .val _,_,_=>by unfold vV; trivial
 | .sl sz cs,v,h=>by
  unfold C3 at h
  have:=F1.ok _ _ h
  unfold Le at this
  unfold vV
  exact⟨this.1,this.2.1⟩
 | .mp _,_,_=>by unfold vV; trivial
 | .slc sz cs,v,h=>by
  unfold C3 at h
  have:=F1.ok _ _ h.1
  unfold Le at this
  unfold vV
  exact⟨this.1,this.2.1⟩
 | .row _,_,_=>by unfold vV; trivial
 | .part _ _ _,_,_=>by unfold vV; trivial
 | .ptr _ _,_,_=>by unfold vV; trivial
 | .elt cs,v,h=>by
  unfold C3 at h
  obtain⟨ad,-,-,h⟩:=h
  unfold vV
  exact J0.ok ad cs 0 h
 | .agg ds,v,h=>by
  unfold C3 at h
  obtain⟨vs,-,-,h⟩:=h
  unfold vV
  exact B5.ok ds vs h
 | .clo _ _ _,_,_=>by unfold vV; trivial
 | .tup ds,v,h=>by
  unfold C3 at h
  obtain⟨vs,-,h⟩:=h
  unfold vV
  exact B5.ok ds vs h
theorem B5.ok {ρ:Nat->Value} {I:Nat->Prop} {w:World}:∀ (ds:List DV) (vs:List Value),B5 ρ I w ds vs->nW ds
 | [],_,_=>by unfold nW; trivial
 | d :: ds,vs,h=>by
  unfold B5 at h
  obtain⟨u,us,-,h1,h2⟩:=h
  unfold nW
  exact⟨C3.ok d u h1,B5.ok ds us h2⟩
end
theorem S5.ok {cx:Cx} {ρ:Nat->Value} {I:Nat->Prop} {w:World} {v:Value} {lb:LB} (h:S5 cx ρ I w v lb):okB lb:=by
 cases lb with
 | box ds ty=>
  obtain⟨b,vs,-,-,-,-,h5⟩:=h
  exact B5.ok ds vs h5
 | row e sz cs=>
  obtain⟨n,us,ho,-,hr⟩:=h
  refine⟨⟨n,by rw [hr.1,ho.1],?_⟩,wQ hr⟩
  rcases ho.2 with ⟨-,-,rfl⟩ | ⟨g,cap,cur,-,-,-,h2,h3,-⟩
  ·exact aOm _
  ·exact aOt h2 h3
 | map l=>trivial
 | mit k n s=>trivial
 | vec ds e=>
  obtain⟨b,vs,-,-,-,-,-,h5⟩:=h
  exact B5.ok ds vs h5
 | lop ts ds N rc=>
  obtain⟨b,tm,-,-,-,-,h5⟩:=h
  exact B5.ok ds _ h5
def Z6 (P:Program) (f:FuncId):Prop:=∀ (vs:Array Value) (w:World),(callFunc f vs).run P w=.ok (.enter f vs) w
theorem Z6.of {P:Program} {f:FuncId} {fn:Func} (hf:P.funcs[f]?=some fn) (hn:(fn.name == "runtime.NumGoroutine")=false) (hb:fn.body.isNone=false):Z6 P f:=by
 intro vs w
 simp only [callFunc,Sem.run_bind,run_program,Result.andThen_ok,hf,hn,hb,bA2,if_false,Sem.run_pure]
def ix:Nat->List LB->List (Nat×LB)
 | _,[]=>[]
 | k,x :: l=>(k,x) :: ix (k + 1) l
theorem yA:∀ {l:List LB} {k i:Nat},H9 (ix k l) (k + i)=l[i]?
 | [],k,i=>by simp [ix,H9]
 | x :: l,k,0=>by simp [ix,H9]
 | x :: l,k,i + 1=>by
  unfold ix H9
  have:Nat.beq (k + (i + 1)) k=false:=by
   cases h:Nat.beq (k + (i + 1)) k with
   | false=>rfl
   | true=>have:=aF5 h; omega
  rw [this]
  simp only [aDb]
  rw [show k + (i + 1)=(k + 1) + i by omega,yA]
  simp
theorem aDa {l:List LB} {k:Nat} {lb:LB}:H9 (ix 0 l) k=some lb↔l[k]?=some lb:=by
 have:=yA (l:=l) (k:=0) (i:=k)
 rw [aR3] at this
 rw [this]
structure nI (ρ:Nat->Value) (I:Nat->Prop) (w:World) (np nq:Nat) (v:Value) (r:DV) (bx:List LB) (w':World):Prop where
 le:np<=bx.length/\bx.length<=np + 8
 os:w'.os=w.os/\w'.tape=w.tape/\w'.output=w.output/\w.heap.size<=w'.heap.size
 kept:∀ b,b < w.heap.size->(∀ k,k < nq->Cu (ρ k)≠some b)->w'.heap[b]?=w.heap[b]?
 data:∃ (ρ':Nat->Value) (J:Nat->Prop),(∀ k,k < np->ρ' k=ρ k)/\(∀ b,J b->b < w'.heap.size/\(b < w.heap.size->I b\/∃ k,np<=k/\k < nq/\Cu (ρ k)=some b)/\∀ k,k < bx.length->Cu (ρ' k)≠some b)/\C3 ρ' J w' r v/\
  (∀ (k:Nat) (lb:LB),bx[k]?=some lb->S5 ⟨w,I,ρ,np,nq,0,none⟩ ρ' J w' (ρ' k) lb)/\(∀ k b,np<=k->k < bx.length->Cu (ρ' k)=some b->w.heap.size<=b\/∃ k,np<=k/\k < nq/\Cu (ρ k)=some b)/\
  (∀ k k' b,k < bx.length->k' < bx.length->Cu (ρ' k)=some b->Cu (ρ' k')=some b->k=k')
 men:(∀ k,Go.Proofs.YtobamahlipiakaaGreat.men r k->k < bx.length)/\∀ (k:Nat) (lb:LB),bx[k]?=some lb->∀ k',Uy lb k'->k' < bx.length
def iI (ρ:Nat->Value) (I:Nat->Prop) (w:World) (v:Value):LB->Prop
 | .box ds ty=>∃ b vs,v=.pointer (some ⟨b,0,none⟩)/\w.heap[b]?=some (.cells vs.toArray ty)/\(∀ u∈vs,u.oneCell'=true)/\B5 ρ I w ds vs
 | .row e sz cs=>∃ n us,w.rowOk e sz v n us/\G0 w I cs us
 | .lop ts ds N rc=>∃ b tm,v=.pointer (some ⟨b,0,none⟩)/\w.heap[b]?=some (.loop { rc with tmps:=tm })/\tm.size=N/\B5 ρ I w ds (ts.map fun t=>tm.getD t undef)
 | _=>False
def Fn (P:Program) (f:FuncId) (np:Nat) (args:List DV) (bx:List LB) (R:DV->List LB->Prop):Prop:=
 np<=bx.length/\Z6 P f/\∀ (ρ:Nat->Value) (I:Nat->Prop) (w:World) (vs:List Value),
  (∀ b,I b->b < w.heap.size/\∀ k,k < bx.length->Cu (ρ k)≠some b)->B5 ρ I w args vs->(∀ k lb,bx[k]?=some lb->iI ρ I w (ρ k) lb)->
  (∀ k k' b,k < bx.length->k' < bx.length->Cu (ρ k)=some b->Cu (ρ k')=some b->k=k')->
  Calls P f vs.toArray w fun e w'=>∃ v r bx',e=.returned v/\R r bx'/\nI ρ I w np bx.length v r bx' w'
theorem Fn.mono {P:Program} {f np:Nat} {args:List DV} {bx:List LB} {R R':DV->List LB->Prop} (h:Fn P f np args bx R) (hr:∀ r b,R r b->R' r b):Fn P f np args bx R':=
 ⟨h.1,h.2.1,fun ρ I w vs a b c d=>(h.2.2 ρ I w vs a b c d).mono (by rintro e w' ⟨v,r,bx',h1,h2,h3⟩; exact⟨v,r,bx',h1,hr r bx' h2,h3⟩)⟩
inductive zJ (P:Program) (σ:St):ResultVar->DV->Prop
 | tmp {t d} (h:σ.F t=some d):zJ P σ (.tmp t) d
 | cell1 {t ty k ds bt sz d} (h:σ.F t=some (.ptr k 0)) (hl:σ.L k=some (.box ds bt)) (ht:Ty P ty false sz) (hd:ds[0]?=some d):zJ P σ (.cell t ty) d
 | cellA {t ty k ds bt sz} (h:σ.F t=some (.ptr k 0)) (hl:σ.L k=some (.box ds bt)) (ht:Ty P ty true sz) (hs:ds.length=sz):zJ P σ (.cell t ty) (.agg ds)
inductive Up (P:Program) (σ:St):List ResultVar->List DV->Prop
 | nil:Up P σ [] []
 | cons {x d l ds} (h:zJ P σ x d) (hs:Up P σ l ds):Up P σ (x :: l) (d :: ds)
def aF0:List DV->DV
 | [d]=>d
 | ds=>.tup ds
def jQ:Nat->List DV->List (Nat×DV)
 | _,[]=>[]
 | k,d :: l=>(k,d) :: jQ (k + 1) l
section
variable {P:Program} {cx:Cx} {ρ:Nat->Value} {σ:St} {a:Act} {w:World}
theorem zJ.run (ha:Ew cx ρ σ a w) {x:ResultVar} {d:DV} (h:zJ P σ x d):∃ v,(match x with | .tmp t=>(pure (a.tmps.getD t undef):Sem Value) | .cell b t=>do loadVar t (<- asAddr (a.tmps.getD b undef))).run P w=.ok v w/\C3 ρ (Nc cx σ ρ w) w d v/\∀ k,men d k->σ.U k=true:=by
 cases h with
 | tmp h=>exact⟨_,rfl,ha.fr _ _ h,fun k hk=>ha.usedF _ _ k h hk⟩
 | cell1 h hl ht hd=>
  have h1:=ha.fr _ _ h
  unfold C3 at h1
  obtain⟨g,G,hv⟩:=h1
  obtain⟨g',vs,q1,q2,-,q4,q5⟩:=ha.lo _ _ hl
  rw [q1] at G
  injection G with G
  subst G
  obtain⟨v,hv',hd'⟩:=q5.at_ hd
  have hc:w.cell? ⟨g',0,none⟩=some v:=by simp [World.cell?,q2,hv']
  refine⟨v,?_,hd',fun k hk=>(ha.usedL _ _ hl).2 k (by unfold Uy; exact Ny.menL_at hd hk)⟩
  have:=S9 (w:=w) ht hc
  simp only [Instr.loadAt,Instr.sureAddr,Sem.run_bind,Sem.run_pure,Result.andThen_ok] at this
  simp only [hv,asAddr,Sem.run_bind,Sem.run_pure,Result.andThen_ok,this]
 | @cellA t ty k ds bt sz h hl ht hs=>
  have h1:=ha.fr _ _ h
  unfold C3 at h1
  obtain⟨g,G,hv⟩:=h1
  obtain⟨g',vs,q1,q2,-,q4,q5⟩:=ha.lo _ _ hl
  rw [q1] at G
  injection G with G
  subst G
  refine⟨.agg vs.toArray,?_,by unfold C3; exact⟨vs,rfl,q4,q5⟩,fun k hk=>(ha.usedL _ _ hl).2 k (by unfold Uy; unfold men at hk; exact hk)⟩
  have:=Wq (w:=w) ht (ad:=⟨g',0,none⟩) (vs:=vs) (by rw [<- q5.length]; exact hs) (fun j v hj=>by rw [Pc,aR3]; simp [World.cell?,q2,hj])
  simp only [Instr.loadAt,Instr.sureAddr,Sem.run_bind,Sem.run_pure,Result.andThen_ok] at this
  simp only [hv,asAddr,Sem.run_bind,Sem.run_pure,Result.andThen_ok,this]
end
end Go.Proofs.YtobamahlipiakaaGreat
namespace Go.Proofs.YtobamahlipiakaaGreat
open Go.RowKit
section
variable {P:Program} {cx:Cx} {ρ:Nat->Value} {σ:St} {a:Act} {w:World}
def rv (a:Act):ResultVar->Sem Value
 | .tmp t=>pure (a.tmps.getD t undef)
 | .cell b t=>do loadVar t (<- asAddr (a.tmps.getD b undef))
theorem uF (fn:Func) (a:Act):results fn a.tmps=(do let vs <- fn.results.mapM (rv a); pure (if h:vs.size=1 then vs[0] else .tuple vs)):=by
 unfold results
 congr 1
theorem Up.run (ha:Ew cx ρ σ a w):∀ {l:List ResultVar} {ds:List DV},Up P σ l ds->∃ vs:List Value,(l.mapM (rv a)).run P w=.ok vs w/\B5 ρ (Nc cx σ ρ w) w ds vs/\∀ k,Gu ds k->σ.U k=true
 | _,_,.nil=>⟨[],by simp,by simp [B5],fun k hk=>by unfold Gu at hk; exact hk.elim⟩
 | _,_,.cons (x:=x) h hs=>by
  obtain⟨v,h1,h2,h3⟩:=h.run ha
  obtain⟨vs,k1,k2,k3⟩:=hs.run ha
  refine⟨v :: vs,?_,by unfold B5; exact⟨v,vs,rfl,h2,k2⟩,fun k hk=>?_⟩
  ·have h1':(rv a x).run P w=.ok v w:=by cases x <;> exact h1
   rw [List.mapM_cons]
   simp only [Sem.run_bind,h1',Result.andThen_ok,k1,Sem.run_pure]
  ·unfold Gu at hk
   rcases hk with hk | hk
   ·exact h3 k hk
   ·exact k3 k hk
theorem qV (ha:Ew cx ρ σ a w) {fn:Func} {ds:List DV} (h:Up P σ fn.results.toList ds):∃ v,(results fn a.tmps).run P w=.ok v w/\C3 ρ (Nc cx σ ρ w) w (aF0 ds) v:=by
 obtain⟨vs,h1,h2,h3⟩:=h.run ha
 have hm:(fn.results.mapM (rv a)).run P w=.ok vs.toArray w:=by
  rw [Array.mapM_eq_mapM_toList,Sem.run_map,h1]
  rfl
 have hr:∀ v,v=(if h:vs.toArray.size=1 then vs.toArray[0] else .tuple vs.toArray)->(results fn a.tmps).run P w=.ok v w:=fun v hv=>by
  rw [uF,Sem.run_bind,hm]
  simp only [Result.andThen_ok,Sem.run_pure]
  rw [hv]
 have hlen:=h2.length
 match ds,vs,h2,hlen,hr with
 | [d],[v],h2,_,hr=>
  unfold B5 at h2
  obtain⟨u,us,e1,e2,-⟩:=h2
  injection e1 with e1 _
  subst e1
  exact⟨v,hr v (by simp),e2⟩
 | [],[],h2,_,hr=>exact⟨.tuple #[],hr _ (by simp),by unfold aF0 C3; exact⟨[],rfl,h2⟩⟩
 | d :: d2 :: ds,v :: v2 :: vs,h2,_,hr=>exact⟨.tuple (v :: v2 :: vs).toArray,hr _ (by simp),by unfold aF0 C3; exact⟨_,rfl,h2⟩⟩
def Fin (P:Program) (fn:Func) (np:Nat) (R:DV->List LB->Prop) (σ:St):Prop:=
 ∃ ds r bx θ,Up P σ fn.results.toList ds/\R r bx/\Cv σ (H9 θ) (aF0 ds) r/\oS σ (H9 θ) (ix 0 bx)/\oE [(0,r)] (ix 0 bx) bx.length θ=true/\kQ θ bx.length np=true/\Nat.ble np bx.length=true/\Nat.ble bx.length (np + 8)=true
def aIz (P:Program) (fn:Func) (np:Nat) (R:DV->List LB->Prop):Exit->St->Prop
 | .ret,σ=>Fin P fn np R σ
 | .normal,σ=>Fin P fn np R σ
 | _,_=>False
theorem xM {w0:World} {I:Nat->Prop} {ρ0:Nat->Value} {np nq N:Nat} {rr:Option Nat} {d r:DV} {v:Value} {bx:List LB} {θ:List (Nat×Nat)} (ha:Ew ⟨w0,I,ρ0,np,nq,N,rr⟩ ρ σ a w) (hq:np<=nq) (hr:C3 ρ (Nc ⟨w0,I,ρ0,np,nq,N,rr⟩ σ ρ w) w d v)
  (h3:Cv σ (H9 θ) d r) (h4:oS σ (H9 θ) (ix 0 bx)) (h5:oE [(0,r)] (ix 0 bx) bx.length θ=true) (h6:kQ θ bx.length np=true) (h7:Nat.ble np bx.length=true) (h8:Nat.ble bx.length (np + 8)=true):nI ρ0 I w0 np nq v r bx w:=by
 have hle:np<=bx.length/\bx.length<=np + 8:=⟨aEi h7,aEi h8⟩
 simp only [oE,aF1,aH8] at h5
 obtain⟨⟨c1,c2⟩,c3⟩:=h5
 obtain⟨hA,hC⟩:=ha.ren (σ':=mk [] (ix 0 bx) bx.length) (H9 θ) (fun t d' hd=>by simp [mk,H9] at hd) (fun k lb hl=>fS h4 _ (Jt hl)) (fun k k' j x y=>uX c3 (Jt x) (Jt y)) (fun k hk=>bC h6 k hk)
  (fun t d k hd hm=>by simp [mk,H9] at hd) (fun k lb hl=>by
   have:=c2 _ (Jt hl)
   exact⟨this.1,fun k' hk'=>dN this.2 k' hk'⟩)
 have hL:∀ k lb,(mk [] (ix 0 bx) bx.length).L k=some lb↔bx[k]?=some lb:=fun k lb=>aDa
 have live:∀ k,k < bx.length->∃ lb,(mk [] (ix 0 bx) bx.length).L k=some lb:=fun k hk=>⟨bx[k],(hL k _).2 (aCv hk)⟩
 obtain⟨k1,k2,k3,k4,k5⟩:=ha.kept
 refine⟨hle,⟨k1,k2,k3,k4⟩,fun b hb hn=>k5 b hb ?_,⟨W0 (H9 θ) ρ,Nc ⟨w0,I,ρ0,np,nq,N,rr⟩ (mk [] (ix 0 bx) bx.length) (W0 (H9 θ) ρ) w,fun k hk=>(hA.pin k hk).1,fun b hb=>⟨hb.1,hb.2.2,fun k hk hbk=>?_⟩,hC _ _ _ h3 hr,fun k lb hlb=>?_,fun k b hk1 hk2 hb=>?_,fun k k' b hk hk' e1 e2=>?_⟩,⟨fun k hk=>?_,fun k lb hlb k' hk'=>?_⟩⟩
 ·rintro⟨k,hk,hb'⟩
  exact hn k hk hb'
 ·obtain⟨lb,hlb⟩:=live k hk
  exact hb.2.1 ⟨k,lb,hlb,hbk⟩
 ·have:=hA.lo k lb ((hL k lb).2 hlb)
  cases lb <;> exact this
 ·obtain⟨lb,hlb⟩:=live k hk2
  exact hA.fresh k lb b hlb hk1 hb
 ·obtain⟨lb,hlb⟩:=live k hk
  obtain⟨lb',hlb'⟩:=live k' hk'
  exact hA.sep k k' lb lb' b hlb hlb' e1 e2
 ·have:=oG (c1 _ (aF4.2 rfl)) k hk
  exact aEi this
 ·have:=dN (c2 _ (Jt ((hL k lb).2 hlb))).2 k' hk'
  exact aEi this
theorem Fin.out {w0:World} {I:Nat->Prop} {ρ0:Nat->Value} {np nq N:Nat} {fn:Func} {R:DV->List LB->Prop} (h:Fin P fn np R σ) (hq:np<=nq) (ha:Ew ⟨w0,I,ρ0,np,nq,N,none⟩ ρ σ a w) :
  ∃ v,(results fn a.tmps).run P w=.ok v w/\∃ r bx,R r bx/\nI ρ0 I w0 np nq v r bx w:=by
 obtain⟨ds,r,bx,θ,h1,h2,h3,h4,h5,h6,h7,h8⟩:=h
 obtain⟨v,hv,hr⟩:=qV (P:=P) ha h1
 exact⟨v,hv,r,bx,h2,xM ha hq hr h3 h4 h5 h6 h7 h8⟩
theorem sO:∀ {l:List DV} {k i:Nat},H9 (jQ k l) (k + i)=l[i]?
 | [],k,i=>by simp [jQ,H9]
 | x :: l,k,0=>by simp [jQ,H9]
 | x :: l,k,i + 1=>by
  unfold jQ H9
  have:Nat.beq (k + (i + 1)) k=false:=by
   cases h:Nat.beq (k + (i + 1)) k with
   | false=>rfl
   | true=>have:=aF5 h; omega
  rw [this]
  simp only [aDb]
  rw [show k + (i + 1)=(k + 1) + i by omega,sO]
  simp
theorem Fin.leaves {w0:World} {I:Nat->Prop} {ρ0:Nat->Value} {np nq N:Nat} {fn:Func} {R:DV->List LB->Prop} {σ:St} {ρ:Nat->Value} (h:Fin P fn np R σ) (hq:np<=nq):∀ {w:World} {a:Act} (ds:List Deferred),Ew ⟨w0,I,ρ0,np,nq,N,none⟩ ρ σ a w->a.defers=ds->
  LeavesInM (FW none) 0 P fn a.tmps (fun e w'=>∃ v r bx',e=.returned v/\R r bx'/\nI ρ0 I w0 np nq v r bx' w') ds .returning w
 | w,a,[],ha,_=>by
  obtain⟨v,hv,r,bx',h1,h2⟩:=Fin.out h hq ha
  exact⟨v,hv,v,r,bx',rfl,h1,h2⟩
 | w,a,d :: ds,ha,hd=>by
  obtain⟨D,rfl,h1,h2⟩:=ha.close hd
  exact⟨by simp,.inl ⟨D,_,rfl,run_takeDeferred h1,Fin.leaves h hq (a:={ a with defers:=ds }) ds h2 rfl⟩⟩
theorem tB {np N:Nat} {rr:Option Nat} {fl:List (Nat×DV)} {bx:List LB} {ρ:Nat->Value} {I:Nat->Prop} {w:World} {tm:Array Value} (c2:∀ lb∈bx,ltB bx.length lb=true) (c4:np<=bx.length) (hN:tm.size=N)
  (hI:∀ b,I b->b < w.heap.size/\∀ k,k < bx.length->Cu (ρ k)≠some b) (hfr:∀ t d,H9 fl t=some d->C3 ρ I w d (tm.getD t undef)/\∀ k,men d k->Nat.blt k bx.length=true) (hbx:∀ k lb,bx[k]?=some lb->iI ρ I w (ρ k) lb)
  (hsep:∀ k k' b,k < bx.length->k' < bx.length->Cu (ρ k)=some b->Cu (ρ k')=some b->k=k'):Ew ⟨w,I,ρ,np,bx.length,N,rr⟩ ρ (mk fl (ix 0 bx) bx.length) { tmps:=tm,defers:=[] } w:=by
 have hmk:∀ k lb,(mk fl (ix 0 bx) bx.length).L k=some lb↔bx[k]?=some lb:=fun k lb=>aDa
 have hbl:∀ k lb,bx[k]?=some lb->k < bx.length:=fun k lb h=>(aDx.1 h).1
 have himm:∀ b,I b->Nc ⟨w,I,ρ,np,bx.length,N,rr⟩ (mk fl (ix 0 bx) bx.length) ρ w b:=fun b hb=>⟨(hI b hb).1,by
  rintro⟨k,lb,h1,h2⟩
  exact (hI b hb).2 k (hbl k lb ((hmk k lb).1 h1)) h2,fun _=>.inl hb⟩
 refine⟨⟨.nil,fun d hd=>by cases hd⟩,hN,⟨rfl,rfl,rfl,aJf _,fun _ _ _=>rfl⟩,fun t d hd=>?_,fun k lb hl=>?_,fun k k' lb lb' b h1 h2 h3 h4=>hsep k k' b (hbl k lb ((hmk k lb).1 h1)) (hbl k' lb' ((hmk k' lb').1 h2)) h3 h4,fun t d k hd hm=>(hfr t d hd).2 k hm,fun k lb hl=>?_,fun k hk=>⟨rfl,aT7 (aY0 hk c4)⟩,fun k lb b hl=>?_⟩
 ·exact C3.step (fun b hb=>⟨himm b hb,rfl⟩) d _ (fun _ _=>rfl) (hfr t d hd).1
 ·have hlb:=(hmk k lb).1 hl
  have hB:=hbx k lb hlb
  cases lb with
  | box ds ty=>
   obtain⟨b,us,q1,q2,q3,q4⟩:=hB
   exact⟨b,us,q1,q2,.inr ⟨k,hbl k _ hlb,by show Cu (ρ k)=some b; rw [q1]; rfl⟩,q3,B5.step (fun b hb=>⟨himm b hb,rfl⟩) ds us (fun _ _=>rfl) q4⟩
  | row e sz cs=>
   obtain⟨n,us,q1,q2⟩:=hB
   exact⟨n,us,q1,fun b hb=>.inr ⟨k,hbl k _ hlb,hb⟩,q2.keep_ (fun _ _=>rfl) fun b hb=>himm b hb⟩
  | map l=>exact hB.elim
  | mit k n s=>exact hB.elim
  | vec ds e=>exact hB.elim
  | lop ts ds N rc=>
   obtain⟨b,tm,q1,q2,q3,q4⟩:=hB
   exact⟨b,tm,q1,q2,.inr ⟨k,hbl k _ hlb,by show Cu (ρ k)=some b; rw [q1]; rfl⟩,q3,B5.step (fun b hb=>⟨himm b hb,rfl⟩) ds _ (fun _ _=>rfl) q4⟩
 ·have hlb:=(hmk k lb).1 hl
  exact⟨aT7 (hbl k lb hlb),fun k' hk'=>dN (c2 lb (aJz hlb)) k' hk'⟩
 ·intro h1 h2
  exact .inr ⟨k,h1,hbl k lb ((hmk k lb).1 hl),h2⟩
theorem aC2 {f np:Nat} {fn:Func} {c:Code} {args:List DV} {bx:List LB} {R:DV->List LB->Prop} (hf:P.funcs[f]?=some fn) (hb:fn.body=some c)
  (hchk:(U8 bx.length args && (bx.all (ltB bx.length) && Nat.ble args.length fn.ntmps && Nat.ble np bx.length))=true) {ρ:Nat->Value} {I:Nat->Prop} {w:World} {vs:List Value}
  (hI:∀ b,I b->b < w.heap.size/\∀ k,k < bx.length->Cu (ρ k)≠some b) (hargs:B5 ρ I w args vs) (hbx:∀ k lb,bx[k]?=some lb->iI ρ I w (ρ k) lb)
  (hsep:∀ k k' b,k < bx.length->k' < bx.length->Cu (ρ k)=some b->Cu (ρ k')=some b->k=k') (h:M1 P ⟨w,I,ρ,np,bx.length,fn.ntmps,none⟩ c (aIz P fn np R) (mk (jQ 0 args) (ix 0 bx) bx.length)) :
  Calls P f vs.toArray w fun e w'=>∃ v r bx',e=.returned v/\R r bx'/\nI ρ I w np bx.length v r bx' w':=by
 simp only [aF1,aH8] at hchk
 obtain⟨c1,⟨c2,c3⟩,c4⟩:=hchk
 have c4:=aEi c4
 have hlen:=hargs.length
 have hN:args.length<=fn.ntmps:=aEi c3
 have hA:Ew ⟨w,I,ρ,np,bx.length,fn.ntmps,none⟩ ρ (mk (jQ 0 args) (ix 0 bx) bx.length) { tmps:=vs.toArray ++ Array.replicate (fn.ntmps - vs.toArray.size) undef,defers:=[] } w:=by
  refine tB c2 c4 (by simp; omega) hI (fun t d hd=>?_) hbx hsep
  have hd':args[t]?=some d:=by
   have:=sO (l:=args) (k:=0) (i:=t)
   rw [aR3] at this
   rw [<- this]
   exact hd
  obtain⟨v,hv,hr⟩:=hargs.at_ hd'
  have e1:(vs.toArray ++ Array.replicate (fn.ntmps - vs.toArray.size) undef).getD t undef=v:=by
   have hlt:=(aDx.1 hv).1
   simp [Array.getElem?_append,hlt]
   simpa [hlt] using hv
  rw [e1]
  exact⟨hr,fun k hm=>M4 c1 k (Ny.menL_at hd' hm)⟩
 refine Xu.1 (callsIn_of_wp_marks (F:=FW none) (n:=0) hf hb trivial (Code.wpIn_mono ?_ (h 0 _ w ⟨ρ,hA⟩)) rfl)
 rintro e a' w' ⟨σ',hq,⟨ρ',hA'⟩⟩
 cases e with
 | normal=>exact Fin.leaves hq c4 _ hA' rfl
 | ret=>exact Fin.leaves hq c4 _ hA' rfl
 | _=>exact hq.elim
theorem Fn.of {f np:Nat} {fn:Func} {c:Code} {args:List DV} {bx:List LB} {R:DV->List LB->Prop} (hf:P.funcs[f]?=some fn) (hb:fn.body=some c) (hn:(fn.name == "runtime.NumGoroutine")=false)
  (hchk:(U8 bx.length args && (bx.all (ltB bx.length) && Nat.ble args.length fn.ntmps && Nat.ble np bx.length))=true) (h:∀ w0 I ρ0,M1 P ⟨w0,I,ρ0,np,bx.length,fn.ntmps,none⟩ c (aIz P fn np R) (mk (jQ 0 args) (ix 0 bx) bx.length)):Fn P f np args bx R:=by
 refine⟨?_,Z6.of hf hn (by rw [hb]; rfl),fun ρ I w vs hI hargs hbx hsep=>aC2 hf hb hchk hI hargs hbx hsep (h w I ρ)⟩
 simp only [aF1,aH8] at hchk
 exact aEi hchk.2.2
end
end Go.Proofs.YtobamahlipiakaaGreat
namespace Go.Proofs.YtobamahlipiakaaGreat
open Go.RowKit
mutual
def N5 (f:Nat->Nat):DV->DV
 | .row k=>.row (f k)
 | .part k o n=>.part (f k) o n
 | .ptr k i=>.ptr (f k) i
 | .agg ds=>.agg (O4 f ds)
 | .tup ds=>.tup (O4 f ds)
 | .clo g n ds=>.clo g n (O4 f ds)
 | .val v=>.val v
 | .sl sz cs=>.sl sz cs
 | .slc sz cs=>.slc sz cs
 | .mp l=>.mp l
 | .elt cs=>.elt cs
def O4 (f:Nat->Nat):List DV->List DV
 | []=>[]
 | d :: ds=>N5 f d :: O4 f ds
end
def zR (f:Nat->Nat):LB->LB
 | .box ds ty=>.box (O4 f ds) ty
 | .row e sz cs=>.row e sz cs
 | .map l=>.map l
 | .mit k n s=>.mit (f k) n s
 | .vec ds e=>.vec (O4 f ds) e
 | .lop ts ds N rc=>.lop ts (O4 f ds) N rc
mutual
def Kg:DV->Prop
 | .sl _ _=>False
 | .slc _ _=>False
 | .mp _=>False
 | .elt _=>False
 | .agg ds=>Nk ds
 | .tup ds=>Nk ds
 | .clo _ _ ds=>Nk ds
 | .val _=>True
 | .row _=>True
 | .part _ _ _=>True
 | .ptr _ _=>True
def Nk:List DV->Prop
 | []=>True
 | d :: ds=>Kg d/\Nk ds
end
def N4:LB->Prop
 | .box ds _=>Nk ds
 | .row _ _ cs=>∀ c∈cs,yI c=true
 | .map _=>True
 | .mit ..=>True
 | .vec ds _=>Nk ds
 | .lop _ ds _ _=>Nk ds
section
variable {ρ ρ':Nat->Value} {I I':Nat->Prop} {w:World} {f:Nat->Nat}
mutual
theorem C3.map (hI:∀ b,I b->I' b):∀ (d:DV) (v:Value),(∀ k,men d k->ρ' (f k)=ρ k)->C3 ρ I w d v->C3 ρ' I' w (N5 f d) v
 | .val _,_,_,h=>by unfold N5 C3; unfold C3 at h; exact h
 | .sl _ _,_,_,h=>by unfold N5 C3; unfold C3 at h; exact F1.mono h hI
 | .slc _ _,_,_,h=>by unfold N5 C3; unfold C3 at h; exact⟨F1.mono h.1 hI,h.2⟩
 | .mp _,_,_,h=>by unfold N5 C3; unfold C3 at h; exact F1.mono h hI
 | .row k,_,hm,h=>by
  unfold N5 C3; unfold C3 at h
  rw [hm k (by unfold men; rfl)]
  exact h
 | .part k _ _,_,hm,h=>by
  unfold N5 C3; unfold C3 at h
  rw [hm k (by unfold men; rfl)]
  exact h
 | .ptr k _,_,hm,h=>by
  unfold N5 C3; unfold C3 at h
  rw [hm k (by unfold men; rfl)]
  exact h
 | .elt _,_,_,h=>by
  unfold N5 C3; unfold C3 at h
  obtain⟨ad,h1,h2,h3⟩:=h
  exact⟨ad,h1,hI _ h2,J0.keep_ (fun _ _=>rfl) hI ad h2 _ 0 h3⟩
 | .agg ds,_,hm,h=>by
  unfold N5 C3; unfold C3 at h
  obtain⟨vs,h1,h2,h3⟩:=h
  exact⟨vs,h1,h2,B5.map hI ds vs (fun k hk=>hm k (by unfold men; exact hk)) h3⟩
 | .tup ds,_,hm,h=>by
  unfold N5 C3; unfold C3 at h
  obtain⟨vs,h1,h3⟩:=h
  exact⟨vs,h1,B5.map hI ds vs (fun k hk=>hm k (by unfold men; exact hk)) h3⟩
 | .clo _ _ ds,_,hm,h=>by
  unfold N5 C3; unfold C3 at h
  obtain⟨vs,h1,h3⟩:=h
  exact⟨vs,h1,B5.map hI ds vs (fun k hk=>hm k (by unfold men; exact hk)) h3⟩
theorem B5.map (hI:∀ b,I b->I' b):∀ (ds:List DV) (vs:List Value),(∀ k,Gu ds k->ρ' (f k)=ρ k)->B5 ρ I w ds vs->B5 ρ' I' w (O4 f ds) vs
 | [],_,_,h=>by unfold O4 B5; unfold B5 at h; exact h
 | d :: ds,_,hm,h=>by
  unfold O4 B5; unfold B5 at h
  obtain⟨u,us,h1,h2,h3⟩:=h
  exact⟨u,us,h1,C3.map hI d u (fun k hk=>hm k (by unfold Gu; exact .inl hk)) h2,B5.map hI ds us (fun k hk=>hm k (by unfold Gu; exact .inr hk)) h3⟩
end
mutual
theorem C3.flat:∀ (d:DV) (v:Value),Kg d->C3 ρ I w d v->C3 ρ I' w d v
 | .val _,_,_,h=>by unfold C3 at *; exact h
 | .sl _ _,_,hf,_=>by unfold Kg at hf; exact hf.elim
 | .slc _ _,_,hf,_=>by unfold Kg at hf; exact hf.elim
 | .mp _,_,hf,_=>by unfold Kg at hf; exact hf.elim
 | .row k,_,_,h=>by unfold C3 at *; exact h
 | .part k _ _,_,_,h=>by unfold C3 at *; exact h
 | .ptr k _,_,_,h=>by unfold C3 at *; exact h
 | .elt _,_,hf,_=>by unfold Kg at hf; exact hf.elim
 | .agg ds,_,hf,h=>by
  unfold C3 at *
  obtain⟨vs,h1,h2,h3⟩:=h
  exact⟨vs,h1,h2,B5.flat ds vs (by unfold Kg at hf; exact hf) h3⟩
 | .tup ds,_,hf,h=>by
  unfold C3 at *
  obtain⟨vs,h1,h3⟩:=h
  exact⟨vs,h1,B5.flat ds vs (by unfold Kg at hf; exact hf) h3⟩
 | .clo _ _ ds,_,hf,h=>by
  unfold C3 at *
  obtain⟨vs,h1,h3⟩:=h
  exact⟨vs,h1,B5.flat ds vs (by unfold Kg at hf; exact hf) h3⟩
theorem B5.flat:∀ (ds:List DV) (vs:List Value),Nk ds->B5 ρ I w ds vs->B5 ρ I' w ds vs
 | [],_,_,h=>by unfold B5 at *; exact h
 | d :: ds,_,hf,h=>by
  unfold B5 at *
  unfold Nk at hf
  obtain⟨u,us,h1,h2,h3⟩:=h
  exact⟨u,us,h1,C3.flat d u hf.1 h2,B5.flat ds us hf.2 h3⟩
end
mutual
theorem wX:∀ (d:DV) (k:Nat),men (N5 f d) k->∃ j,men d j/\k=f j
 | .val _,k,h=>by unfold N5 men at h; exact h.elim
 | .sl _ _,k,h=>by unfold N5 men at h; exact h.elim
 | .slc _ _,k,h=>by unfold N5 men at h; exact h.elim
 | .mp _,k,h=>by unfold N5 men at h; exact h.elim
 | .row j,k,h=>by unfold N5 men at h; exact⟨j,by unfold men; rfl,h⟩
 | .part j _ _,k,h=>by unfold N5 men at h; exact⟨j,by unfold men; rfl,h⟩
 | .ptr j _,k,h=>by unfold N5 men at h; exact⟨j,by unfold men; rfl,h⟩
 | .elt _,k,h=>by unfold N5 men at h; exact h.elim
 | .agg ds,k,h=>by
  unfold N5 men at h
  obtain⟨j,h1,h2⟩:=Qy ds k h
  exact⟨j,by unfold men; exact h1,h2⟩
 | .tup ds,k,h=>by
  unfold N5 men at h
  obtain⟨j,h1,h2⟩:=Qy ds k h
  exact⟨j,by unfold men; exact h1,h2⟩
 | .clo _ _ ds,k,h=>by
  unfold N5 men at h
  obtain⟨j,h1,h2⟩:=Qy ds k h
  exact⟨j,by unfold men; exact h1,h2⟩
theorem Qy:∀ (ds:List DV) (k:Nat),Gu (O4 f ds) k->∃ j,Gu ds j/\k=f j
 | [],k,h=>by unfold O4 Gu at h; exact h.elim
 | d :: ds,k,h=>by
  unfold O4 Gu at h
  rcases h with h | h
  ·obtain⟨j,h1,h2⟩:=wX d k h
   exact⟨j,by unfold Gu; exact .inl h1,h2⟩
  ·obtain⟨j,h1,h2⟩:=Qy ds k h
   exact⟨j,by unfold Gu; exact .inr h1,h2⟩
end
end
mutual
inductive Ag (fl:Bool) (ps:List Nat) (env:qI):DV->DV->Prop
 | fn {f}:Ag fl ps env (.val (.func (.func f) #[] #[])) (.clo f 0 [])
 | val {v}:Ag fl ps env (.val v) (.val v)
 | sl {sz cs}:Ag fl ps env (.sl sz cs) (.sl sz cs)
 | mp {l}:Ag fl ps env (.mp l) (.mp l)
 | nils {sz}:Ag fl ps env (.val (.slice none 0 0)) (.sl sz [])
 | elt {cs}:Ag fl ps env (.elt cs) (.elt cs)
 | ptr {j k i} (h:ps[k]?=some j):Ag fl ps env (.ptr j i) (.ptr k i)
 | rowK {j k} (h:ps[k]?=some j):Ag fl ps env (.row j) (.row k)
 | row {j e sz cs} (h:fl=true) (hL:(j,some (.row e sz cs))∈env) (hj:ps.all (fun i=>!Nat.beq i j)=true):Ag fl ps env (.row j) (.sl sz cs)
 | part {j off n e sz cs} (h:fl=true) (hL:(j,some (.row e sz cs))∈env) (hj:ps.all (fun i=>!Nat.beq i j)=true) (hn:off + n * sz<=cs.length):Ag fl ps env (.part j off n) (.sl sz ((cs.drop off).take (n * sz)))
 | agg {ds ds'} (h:K0 fl ps env ds ds'):Ag fl ps env (.agg ds) (.agg ds')
 | tup {ds ds'} (h:K0 fl ps env ds ds'):Ag fl ps env (.tup ds) (.tup ds')
 | clo {f n ds ds'} (h:K0 fl ps env ds ds'):Ag fl ps env (.clo f n ds) (.clo f n ds')
inductive K0 (fl:Bool) (ps:List Nat) (env:qI):List DV->List DV->Prop
 | nil:K0 fl ps env [] []
 | cons {d d' l l'} (h:Ag fl ps env d d') (hs:K0 fl ps env l l'):K0 fl ps env (d :: l) (d' :: l')
end
def BxC (fl:Bool) (ps:List Nat) (env:qI):LB->LB->Prop
 | .box ds ty,lb=>∃ ds',lb=.box ds' ty/\K0 fl ps env ds ds'
 | .row e sz cs,lb=>lb=.row e sz cs
 | .lop ts ds N rc,lb=>∃ ds',lb=.lop ts ds' N rc/\K0 fl ps env ds ds'
 | _,_=>False
def X8 (fl:Bool) (ps:List Nat) (env:qI):List Nat->List LB->Prop
 | [],bx=>bx=[]
 | j :: l,bx=>∃ lb lb' rest,bx=lb' :: rest/\(j,some lb)∈env/\BxC fl ps env lb lb'/\X8 fl ps env l rest
def G9 (ps:List Nat) (tk:Nat) (k:Nat):Nat:=match ps[k]? with | some j=>j | none=>tk + (k - ps.length)
def W5 (ps:List Nat) (tk:Nat):Nat->List LB->List (Nat×LB)
 | _,[]=>[]
 | k,x :: l=>(G9 ps tk k,zR (G9 ps tk) x) :: W5 ps tk (k + 1) l
def On (ps gs:List Nat) (tk:Nat) (r:DV) (bx:List LB):Ow:=⟨some (N5 (G9 ps tk) r),fun k=>match H9 (W5 ps tk 0 bx) k with | some lb=>some (some lb) | none=>bif gs.any (Nat.beq k) then some none else none⟩
def aBx (ps gs:List Nat) (tk:Nat) (R:DV->List LB->Prop):Ow->Prop:=fun e=>∃ r b,R r b/\e=On ps gs tk r b/\ps.length<=b.length/\b.length<=ps.length + 8
def N1 (np:Nat) (ps gs:List Nat):Bool:=ndB (ps ++ gs) && gs.all fun k=>Nat.ble np k
inductive CallR (P:Program) (np:Nat):Nat->Op->TypeId->List (DV×Option LB)->qI->List Nat->(Ow->Prop)->Prop
 | call {tk f xs tys ty dsA env ps gs args bx R} (fl:Bool) (hF:Fn P f ps.length args bx R) (hA:K0 fl (ps ++ gs) env (dsA.map (·.1)) args) (hB:X8 fl (ps ++ gs) env (ps ++ gs) bx) (hnd:N1 np ps gs=true) (hfl:fl=true->∀ r b,R r b->Kg r/\∀ lb∈b,N4 lb) :
  CallR P np tk (.call ⟨.value (.func f),xs,tys⟩) ty ((.val (.func (.func f) #[] #[]),none) :: dsA) env (ps ++ gs) (aBx ps gs tk R)
 | callC {tk t f n cs xs tys ty b dsA env ps gs args bx R} (fl:Bool) (hF:Fn P f ps.length args bx R) (hA:K0 fl (ps ++ gs) env (cs.take n ++ (dsA.map (·.1) ++ cs.drop n)) args) (hB:X8 fl (ps ++ gs) env (ps ++ gs) bx) (hnd:N1 np ps gs=true) (hfl:fl=true->∀ r b,R r b->Kg r/\∀ lb∈b,N4 lb) :
  CallR P np tk (.call ⟨.value (.tmp t),xs,tys⟩) ty ((.clo f n cs,b) :: dsA) env (ps ++ gs) (aBx ps gs tk R)
 | callV {tk t f xs tys ty b dsA env ps gs args bx R} (fl:Bool) (hF:Fn P f ps.length args bx R) (hA:K0 fl (ps ++ gs) env (dsA.map (·.1)) args) (hB:X8 fl (ps ++ gs) env (ps ++ gs) bx) (hnd:N1 np ps gs=true) (hfl:fl=true->∀ r b,R r b->Kg r/\∀ lb∈b,N4 lb) :
  CallR P np tk (.call ⟨.value (.tmp t),xs,tys⟩) ty ((.val (.func (.func f) #[] #[]),b) :: dsA) env (ps ++ gs) (aBx ps gs tk R)
 
 | ext {tk op ty ds env wr E} (h:ExtR P np tk op ty ds env wr E):CallR P np tk op ty ds env wr E
 | nilE {tk t X Y yt ty sz cs b1 b2 env} (hn:∃ e,P.underlying t=some (.slice e)):CallR P np tk (.binOp .eql t X Y yt) ty [(.sl sz cs,b1),(.val (.slice none 0 0),b2)] env [] (fun e=>∃ b,(b=true->cs=[])/\e=v0 (.val (.bool b)))
theorem X8.length {fl:Bool} {ps:List Nat} {env:qI}:∀ {l:List Nat} {bx:List LB},X8 fl ps env l bx->bx.length=l.length
 | [],bx,h=>by unfold X8 at h; rw [h]; rfl
 | j :: l,bx,h=>by
  unfold X8 at h
  obtain⟨lb,lb',rest,rfl,-,-,h4⟩:=h
  simp [X8.length h4]
theorem X8.at_ {fl:Bool} {ps:List Nat} {env:qI}:∀ {l:List Nat} {bx:List LB},X8 fl ps env l bx->∀ {k:Nat} {j:Nat},l[k]?=some j->∃ lb lb',bx[k]?=some lb'/\(j,some lb)∈env/\BxC fl ps env lb lb'
 | [],bx,h,k,j,hl=>by simp at hl
 | j :: l,bx,h,0,j',hl=>by
  unfold X8 at h
  obtain⟨lb,lb',rest,rfl,h2,h3,h4⟩:=h
  simp at hl
  subst hl
  exact⟨lb,lb',rfl,h2,h3⟩
 | j :: l,bx,h,k + 1,j',hl=>by
  unfold X8 at h
  obtain⟨lb,lb',rest,rfl,h2,h3,h4⟩:=h
  have:=X8.at_ h4 (k:=k) (j:=j') (by simpa using hl)
  simpa using this
theorem Wb {ps:List Nat} {tk:Nat}:∀ {l:List LB} {k k':Nat} {lb:LB},H9 (W5 ps tk k l) k'=some lb->∃ i x,l[i]?=some x/\k'=G9 ps tk (k + i)/\lb=zR (G9 ps tk) x
 | [],_,_,_,h=>by simp [W5,H9] at h
 | x :: l,k,k',lb,h=>by
  unfold W5 H9 at h
  cases hb:Nat.beq k' (G9 ps tk k) with
  | true=>
   rw [hb] at h
   simp at h
   exact⟨0,x,rfl,aF5 hb,h.symm⟩
  | false=>
   rw [hb] at h
   obtain⟨i,y,h1,h2,h3⟩:=Wb (l:=l) (k:=k + 1) h
   exact⟨i + 1,y,by simpa using h1,by rw [h2]; congr 1; omega,h3⟩
theorem mJ {ps:List Nat} {tk:Nat}:∀ {l:List LB} {k i:Nat} {x:LB},l[i]?=some x->∃ lb,H9 (W5 ps tk k l) (G9 ps tk (k + i))=some lb
 | [],_,_,_,h=>by simp at h
 | y :: l,k,i,x,h=>by
  unfold W5 H9
  cases hb:Nat.beq (G9 ps tk (k + i)) (G9 ps tk k) with
  | true=>exact⟨_,rfl⟩
  | false=>
   cases i with
   | zero=>simp at hb
   | succ i=>
    have:=mJ (ps:=ps) (tk:=tk) (l:=l) (k:=k + 1) (i:=i) (x:=x) (by simpa using h)
    simp only [aDb]
    rwa [show k + (i + 1)=k + 1 + i by omega]
end Go.Proofs.YtobamahlipiakaaGreat
namespace Go.Proofs.YtobamahlipiakaaGreat
open Go.RowKit
section
variable {P:Program} {cx:Cx} {ρ:Nat->Value} {σ:St} {a:Act} {w:World} {o:Oper} {K:Act->World->Prop} {Q:Exit->Act->World->Prop}
def tC (fl:Bool) (ps:List Nat) (σ:St) (ρ:Nat->Value) (b:Nat):Prop:=fl=true/\∃ j e sz cs,j∉ps/\σ.L j=some (.row e sz cs)/\Cu (ρ j)=some b
theorem aC1 {ps:List Nat} {j:Nat} (h:ps.all (fun i=>!Nat.beq i j)=true):j∉ps:=fun hm=>by
 have:=aH8.1 h j hm
 simp at this
section
variable {fl:Bool} {ps l:List Nat}
mutual
theorem Ag.rep (ha:Ew cx ρ σ a w):∀ {d d':DV} (_:Ag fl ps (Jc σ l) d d') {v:Value},C3 ρ (Nc cx σ ρ w) w d v->C3 (fun k=>ρ (G9 ps 0 k)) (fun b=>Nc cx σ ρ w b\/tC fl ps σ ρ b) w d' v
 | _,_,.fn,v,hr=>by
  unfold C3 at *
  exact⟨[],by rw [hr.1]; rfl,by simp [B5]⟩
 | _,_,.val,v,hr=>by unfold C3 at *; exact hr
 | _,_,.sl,v,hr=>by unfold C3 at *; exact hr.mono fun b hb=>.inl hb
 | _,_,.mp,v,hr=>by unfold C3 at *; exact hr.mono fun b hb=>.inl hb
 | _,_,.nils,v,hr=>by unfold C3 at *; rw [hr.1]; exact F1.nil_ _
 | _,_,.elt,v,hr=>by
  unfold C3 at *
  obtain⟨ad,h2,h3,h4⟩:=hr
  exact⟨ad,h2,.inl h3,J0.keep_ (fun _ _=>rfl) (fun b hb=>.inl hb) ad h3 _ 0 h4⟩
 | _,_,.ptr (j:=j) (k:=k) hk,v,hr=>by
  unfold C3 at *
  have:G9 ps 0 k=j:=by unfold G9; rw [hk]
  simp only [this]
  exact hr
 | _,_,.rowK (j:=j) (k:=k) hk,v,hr=>by
  unfold C3 at *
  have:G9 ps 0 k=j:=by unfold G9; rw [hk]
  simp only [this]
  exact hr
 | _,_,.row hfl hL hj,v,hr=>by
  have hL:=Ku hL
  unfold C3 at *
  rw [hr.1]
  obtain⟨n,us,ho,-,hu⟩:=ha.lo _ _ hL
  exact tU.cells ho hu (fun b hb=>.inl hb) fun b hb=>.inr ⟨hfl,_,_,_,_,aC1 hj,hL,hb⟩
 | _,_,.part hfl hL hj hn,v,hr=>by
  have hL:=Ku hL
  unfold C3 at *
  obtain⟨A,c,h4,h5,h6,h7,-⟩:=hr
  rw [h4]
  obtain⟨n,us,ho,-,hu⟩:=ha.lo _ _ hL
  exact qE ho hu (fun b hb=>.inl hb) (fun b hb=>.inr ⟨hfl,_,_,_,_,aC1 hj,hL,hb⟩) hn h5 h6 h7
 | _,_,.agg hs,v,hr=>by
  unfold C3 at *
  obtain⟨vs,h2,h3,h4⟩:=hr
  exact⟨vs,h2,h3,K0.rep ha hs h4⟩
 | _,_,.tup hs,v,hr=>by
  unfold C3 at *
  obtain⟨vs,h2,h4⟩:=hr
  exact⟨vs,h2,K0.rep ha hs h4⟩
 | _,_,.clo hs,v,hr=>by
  unfold C3 at *
  obtain⟨vs,h2,h4⟩:=hr
  exact⟨vs,h2,K0.rep ha hs h4⟩
theorem K0.rep (ha:Ew cx ρ σ a w):∀ {ds ds':List DV} (_:K0 fl ps (Jc σ l) ds ds') {vs:List Value},B5 ρ (Nc cx σ ρ w) w ds vs->B5 (fun k=>ρ (G9 ps 0 k)) (fun b=>Nc cx σ ρ w b\/tC fl ps σ ρ b) w ds' vs
 | _,_,.nil,vs,hr=>by unfold B5 at *; exact hr
 | _,_,.cons h hs,vs,hr=>by
  unfold B5 at *
  obtain⟨u,us,h1,h2,h3⟩:=hr
  exact⟨u,us,h1,Ag.rep ha h h2,K0.rep ha hs h3⟩
end
end
theorem B5.app {I:Nat->Prop}:∀ {a b:List DV} {c d:List Value},B5 ρ I w a c->B5 ρ I w b d->B5 ρ I w (a ++ b) (c ++ d)
 | [],b,c,d,h1,h2=>by unfold B5 at h1; subst h1; simpa using h2
 | x :: a,b,c,d,h1,h2=>by
  unfold B5 at h1
  obtain⟨u,us,rfl,h3,h4⟩:=h1
  rw [aZi,aZi]
  unfold B5
  exact⟨u,_,rfl,h3,B5.app h4 h2⟩
theorem aBb:∀ {l:List Nat},ndB l=true->∀ {i j x:Nat},l[i]?=some x->l[j]?=some x->i=j
 | [],_,i,j,x,h,_=>by simp at h
 | y :: l,hn,0,0,x,_,_=>rfl
 | y :: l,hn,0,j + 1,x,h1,h2=>by
  simp only [ndB,aF1,aH8] at hn
  simp at h1 h2
  subst h1
  have:=hn.1 y (aJz h2)
  simp at this
 | y :: l,hn,i + 1,0,x,h1,h2=>by
  simp only [ndB,aF1,aH8] at hn
  simp at h1 h2
  subst h2
  have:=hn.1 y (aJz h1)
  simp at this
 | y :: l,hn,i + 1,j + 1,x,h1,h2=>by
  simp only [ndB,aF1] at hn
  have:=aBb hn.2 (i:=i) (j:=j) (x:=x) (by simpa using h1) (by simpa using h2)
  rw [this]
theorem aAh {f:Nat->Nat} {lb:LB} {k:Nat} (h:Uy (zR f lb) k):∃ j,Uy lb j/\k=f j:=by
 cases lb with
 | box ds ty=>exact Qy ds k h
 | row=>exact h.elim
 | map=>exact h.elim
 | mit k' n s=>exact⟨k',rfl,h⟩
 | vec ds e=>exact Qy ds k h
 | lop ts ds N rc=>exact Qy ds k h
theorem gI {wr ps gs l:List Nat} (hwr:wr=ps ++ gs) {args:List DV} {bx:List LB} {fl:Bool} {ads:List DV} {avs:List Value} (hA:K0 fl wr (Jc σ l) ads args) (hrep:B5 ρ (Nc cx σ ρ w) w ads avs)
  (hB:X8 fl wr (Jc σ l) wr bx) (hh:N1 cx.np ps gs=true) (ha:Ew cx ρ σ a w) :
  (∀ b,(Nc cx σ ρ w b\/tC fl wr σ ρ b)->b < w.heap.size/\∀ k,k < bx.length->Cu (ρ (G9 wr 0 k))≠some b)/\B5 (fun k=>ρ (G9 wr 0 k)) (fun b=>Nc cx σ ρ w b\/tC fl wr σ ρ b) w args avs/\
  (∀ k lb,bx[k]?=some lb->iI (fun k=>ρ (G9 wr 0 k)) (fun b=>Nc cx σ ρ w b\/tC fl wr σ ρ b) w (ρ (G9 wr 0 k)) lb)/\
  (∀ k k' b,k < bx.length->k' < bx.length->Cu (ρ (G9 wr 0 k))=some b->Cu (ρ (G9 wr 0 k'))=some b->k=k'):=by
 unfold N1 at hh
 rw [<- hwr,aF1] at hh
 obtain⟨hnd,hgn⟩:=hh
 have hpl:∀ k j,ps[k]?=some j->wr[k]?=some j:=fun k j h=>by
  rw [hwr,aNt (aDx.1 h).1]; exact h
 have hgs:∀ k j,ps.length<=k->wr[k]?=some j->j∈gs:=fun k j hk h=>by
  rw [hwr,aOr hk] at h
  exact aJz h
 have hgnp:∀ j,j∈gs->cx.np<=j:=fun j hj=>aEi (aH8.1 hgn j hj)
 have hgin:∀ j,j∈gs->∃ k,ps.length<=k/\k < wr.length/\wr[k]?=some j:=fun j hj=>by
  obtain⟨i,hi,rfl⟩:=aUb hj
  refine⟨ps.length + i,by omega,by rw [hwr,aF3]; omega,?_⟩
  rw [hwr,aOr (by omega),bAi,aCv hi]
 have hpw:ps.length<=wr.length:=by rw [hwr,aF3]; omega
 have hbl:=hB.length
 have hpsL:∀ k j,wr[k]?=some j->∃ lb,σ.L j=some lb/\∃ lb',bx[k]?=some lb'/\BxC fl wr (Jc σ l) lb lb':=fun k j hk=>by
  obtain⟨lb,lb',h1,h2,h3⟩:=hB.at_ hk
  exact⟨lb,Ku h2,lb',h1,h3⟩
 have hi0:∀ k j,wr[k]?=some j->G9 wr 0 k=j:=fun k j h=>by unfold G9; rw [h]
 have hin:∀ k,k < bx.length->∃ j,wr[k]?=some j:=fun k hk=>⟨wr[k]'(by omega),aCv (by omega)⟩
 have hUps:∀ k j,wr[k]?=some j->σ.U j=true:=fun k j h=>by
  obtain⟨lb,h1,-⟩:=hpsL k j h
  exact (ha.usedL _ _ h1).1
 refine⟨(fun b hb=>by
   have key:∀ k,k < bx.length->Cu (ρ (G9 wr 0 k))=some b->False:=fun k hk hbk=>by
    obtain⟨j,hj⟩:=hin k hk
    rw [hi0 k j hj] at hbk
    obtain⟨lb,h1,-⟩:=hpsL k j hj
    rcases hb with hb | ⟨-,j',e,sz,cs,h2,h3,h4⟩
    ·exact hb.2.1 ⟨j,_,h1,hbk⟩
    ·have:=ha.sep j j' _ _ b h1 h3 hbk h4
     subst this
     exact h2 (aJz hj)
   refine⟨?_,fun k hk hbk=>key k hk hbk⟩
   rcases hb with hb | ⟨-,j',e,sz,cs,h2,h3,h4⟩
   ·exact hb.1
   ·exact ((ha.lo _ _ h3).blk h4).1),K0.rep ha hA hrep,(fun k lb hlb=>by
   have hk:=(aDx.1 hlb).1
   obtain⟨j,hj⟩:=hin k hk
   obtain⟨lb0,h1,lb1,h2,h3⟩:=hpsL k j hj
   rw [h2] at hlb
   injection hlb with hlb
   subst hlb
   show iI _ _ w (ρ (G9 wr 0 k)) _
   rw [hi0 k j hj]
   cases lb0 with
   | box ds ty=>
    obtain⟨ds',rfl,h4⟩:=h3
    obtain⟨b,vs,q1,q2,-,q4,q5⟩:=ha.lo _ _ h1
    exact⟨b,vs,q1,q2,q4,K0.rep ha h4 q5⟩
   | row e sz cs=>
    have h3:lb1=.row e sz cs:=h3
    subst h3
    obtain⟨n,us,q1,-,q3⟩:=ha.lo _ _ h1
    exact⟨n,us,q1,q3.keep_ (fun _ _=>rfl) fun b hb=>.inl hb⟩
   | map l=>exact h3.elim
   | mit k n s=>exact h3.elim
   | vec ds e=>exact h3.elim
   | lop ts ds N rc=>
    obtain⟨ds',rfl,h4⟩:=h3
    obtain⟨b,tm,q1,q2,-,q4,q5⟩:=ha.lo _ _ h1
    exact⟨b,tm,q1,q2,q4,K0.rep ha h4 q5⟩),(fun k k' b hk hk' e1 e2=>by
   obtain⟨j,hj⟩:=hin k hk
   obtain⟨j',hj'⟩:=hin k' hk'
   simp only [hi0 k j hj] at e1
   simp only [hi0 k' j' hj'] at e2
   obtain⟨lb,h1,-⟩:=hpsL k j hj
   obtain⟨lb',h1',-⟩:=hpsL k' j' hj'
   have:=ha.sep j j' _ _ b h1 h1' e1 e2
   subst this
   exact aBb hnd hj hj')⟩
theorem aW {tk:Nat} {wr ps gs l:List Nat} (hwr:wr=ps ++ gs) {bx bx':List LB} {r:DV} {v:Value} {fl:Bool} {w':World} {dst:Option Tmp}
  (hB:X8 fl wr (Jc σ l) wr bx) (hh:N1 cx.np ps gs=true) (hfl:fl=true->Kg r/\∀ lb∈bx',N4 lb) (ha:Ew cx ρ σ a w) (hf:∀ j,j < 8->σ.U (tk + j)=false) (hdst:∀ t,dst=some t->t < cx.N)
  (hback:nI (fun k=>ρ (G9 wr 0 k)) (fun b=>Nc cx σ ρ w b\/tC fl wr σ ρ b) w ps.length bx.length v r bx' w'):∃ ρ2,Ew cx ρ2 (σ.app dst (On ps gs tk r bx')) (a.put dst v) w'/\∀ k,σ.U k=true->ρ2 k=ρ k:=by
 unfold N1 at hh
 rw [<- hwr,aF1] at hh
 obtain⟨hnd,hgn⟩:=hh
 have hpl:∀ k j,ps[k]?=some j->wr[k]?=some j:=fun k j h=>by
  rw [hwr,aNt (aDx.1 h).1]; exact h
 have hgs:∀ k j,ps.length<=k->wr[k]?=some j->j∈gs:=fun k j hk h=>by
  rw [hwr,aOr hk] at h
  exact aJz h
 have hgnp:∀ j,j∈gs->cx.np<=j:=fun j hj=>aEi (aH8.1 hgn j hj)
 have hgin:∀ j,j∈gs->∃ k,ps.length<=k/\k < wr.length/\wr[k]?=some j:=fun j hj=>by
  obtain⟨i,hi,rfl⟩:=aUb hj
  refine⟨ps.length + i,by omega,by rw [hwr,aF3]; omega,?_⟩
  rw [hwr,aOr (by omega),bAi,aCv hi]
 have hpw:ps.length<=wr.length:=by rw [hwr,aF3]; omega
 have hbl:=hB.length
 have hpsL:∀ k j,wr[k]?=some j->∃ lb,σ.L j=some lb/\∃ lb',bx[k]?=some lb'/\BxC fl wr (Jc σ l) lb lb':=fun k j hk=>by
  obtain⟨lb,lb',h1,h2,h3⟩:=hB.at_ hk
  exact⟨lb,Ku h2,lb',h1,h3⟩
 have hi0:∀ k j,wr[k]?=some j->G9 wr 0 k=j:=fun k j h=>by unfold G9; rw [h]
 have hit:∀ k j,ps[k]?=some j->G9 ps tk k=j:=fun k j h=>by unfold G9; rw [h]
 have hgt:∀ k,ps.length<=k->G9 ps tk k=tk + (k - ps.length):=fun k h=>by unfold G9; rw [aQg h]
 have hin:∀ k,k < bx.length->∃ j,wr[k]?=some j:=fun k hk=>⟨wr[k]'(by omega),aCv (by omega)⟩
 have hUps:∀ k j,wr[k]?=some j->σ.U j=true:=fun k j h=>by
  obtain⟨lb,h1,-⟩:=hpsL k j h
  exact (ha.usedL _ _ h1).1
 obtain⟨⟨b1,b2⟩,⟨o1,o2,o3,o4⟩,hkept,⟨ρ',J,d1,d2,d3,d4,d5,d6⟩,⟨m1,m2⟩⟩:=hback
 have b1':ps.length<=bx'.length:=b1
 have b2':bx'.length<=ps.length + 8:=b2
 have himp:∀ k,k < bx'.length->(∃ j,ps[k]?=some j/\G9 ps tk k=j)\/(ps.length<=k/\G9 ps tk k=tk + (k - ps.length)/\k - ps.length < 8):=fun k hk=>by
  rcases aZf k ps.length with h | h
  ·exact .inl ⟨ps[k],aCv h,hit k _ (aCv h)⟩
  ·exact .inr ⟨h,hgt k h,by omega⟩
 have hel:∀ k,(On ps gs tk r bx').l k=(match H9 (W5 ps tk 0 bx') k with | some lb=>some (some lb) | none=>bif gs.any (Nat.beq k) then some none else none):=fun _=>rfl
 have hel1:∀ k lb,(On ps gs tk r bx').l k=some (some lb)->∃ i x,bx'[i]?=some x/\k=G9 ps tk i/\lb=zR (G9 ps tk) x:=fun k lb h=>by
  rw [hel] at h
  cases hl:H9 (W5 ps tk 0 bx') k with
  | none=>
   rw [hl] at h
   simp only [] at h
   cases G:gs.any (Nat.beq k) <;> rw [G] at h <;> cases h
  | some lb'=>
   rw [hl] at h
   injection h with h
   injection h with h
   subst h
   obtain⟨i,x,h1,h2,h3⟩:=Wb hl
   exact⟨i,x,h1,by simpa using h2,h3⟩
 have hel2:∀ i,i < bx'.length->(On ps gs tk r bx').l (G9 ps tk i)≠none:=fun i hi=>by
  obtain⟨lb,hlb⟩:=mJ (ps:=ps) (tk:=tk) (k:=0) (aCv hi)
  rw [aR3] at hlb
  rw [hel,hlb]
  simp
 have hel3:∀ j,j∈gs->(On ps gs tk r bx').l j≠none:=fun j hj=>by
  rw [hel]
  cases hl:H9 (W5 ps tk 0 bx') j with
  | some lb=>simp
  | none=>
   have:gs.any (Nat.beq j)=true:=aL5.2 ⟨j,hj,bA1 j⟩
   simp [this]
 let ρ2:Nat->Value:=fun k=>if tk<=k/\k < tk + 8 then ρ' (ps.length + (k - tk)) else ρ k
 have hρU:∀ k,σ.U k=true->ρ2 k=ρ k:=fun k hk=>by
  show (if tk<=k/\k < tk + 8 then _ else _)=_
  rw [if_neg]
  intro hh
  have:=hf (k - tk) (by omega)
  rw [show tk + (k - tk)=k by omega,hk] at this
  cases this
 have hρi:∀ i,i < bx'.length->ρ2 (G9 ps tk i)=ρ' i:=fun i hi=>by
  rcases himp i hi with ⟨j,h1,h2⟩ | ⟨h1,h2,h3⟩
  ·rw [h2,hρU j (hUps i j (hpl i j h1)),d1 i (aDx.1 h1).1]
   show ρ j=ρ (G9 wr 0 i)
   rw [hi0 i j (hpl i j h1)]
  ·rw [h2]
   show (if tk<=_/\_ < tk + 8 then _ else _)=_
   rw [if_pos (by omega)]
   congr 1
   omega
 refine⟨ρ2,ha.app (v:=v) ?_ o4 hdst hρU (fun b hb h=>hkept b hb fun k hk hbk=>?_) (fun k lb b h1 h2=>?_) (fun k k' lb lb' b h1 h2 h3 h4=>?_) (fun hI hI2=>?_) ⟨fun k lb k' h1 h2=>?_,fun d k' h1 h2=>?_⟩ (fun k lb b h1 h2 h3=>?_),hρU⟩
 ·obtain⟨k1,k2,k3,k4,k5⟩:=ha.kept
  refine⟨o1.trans k1,o2.trans k2,o3.trans k3,aOt k4 o4,fun b hb hM=>(hkept b (aY0 hb k4) fun k hk hbk=>?_).trans (k5 b hb hM)⟩
  obtain⟨j,hj⟩:=hin k hk
  simp only [hi0 k j hj] at hbk
  obtain⟨lb,h1,-⟩:=hpsL k j hj
  rcases ((ha.lo _ _ h1).blk hbk).2 with h | h
  ·omega
  ·exact hM h
 ·obtain⟨j,hj⟩:=hin k hk
  simp only [hi0 k j hj] at hbk
  obtain⟨lb,h1,-⟩:=hpsL k j hj
  rcases aZf k ps.length with hkp | hkp
  ·have hjp:ps[k]?=some j:=by
    rw [hwr,aNt hkp] at hj; exact hj
   have:=hel2 k (by omega)
   rw [hit k j hjp] at this
   exact h j _ this h1 hbk
  ·exact h j _ (hel3 j (hgs k j hkp hj)) h1 hbk
 ·obtain⟨i,x,e1,rfl,rfl⟩:=hel1 k lb h1
  have hi:=(aDx.1 e1).1
  rw [hρi i hi] at h2
  rcases himp i hi with ⟨j,q1,q2⟩ | ⟨q1,q2,q3⟩
  ·right
   have hil:=(aDx.1 q1).1
   obtain⟨lb0,q3,-⟩:=hpsL i j (hpl i j q1)
   refine⟨j,_,?_,q3,?_⟩
   ·have:=hel2 i hi; rwa [q2] at this
   ·rw [d1 i hil] at h2
    simpa only [hi0 i j (hpl i j q1)] using h2
  ·rcases d5 i b q1 hi h2 with h4 | ⟨k,k1,k2,k3⟩
   ·exact .inl h4
   ·obtain⟨j,hj⟩:=hin k k2
    simp only [hi0 k j hj] at k3
    obtain⟨lb0,q4,-⟩:=hpsL k j hj
    exact .inr ⟨j,_,hel3 j (hgs k j k1 hj),q4,k3⟩
 ·obtain⟨i,x,e1,rfl,rfl⟩:=hel1 k lb h1
  obtain⟨i',x',e2,rfl,rfl⟩:=hel1 k' lb' h2
  have hi:=(aDx.1 e1).1
  have hi':=(aDx.1 e2).1
  rw [hρi i hi] at h3
  rw [hρi i' hi'] at h4
  rw [d6 i i' b hi hi' h3 h4]
 ·have hJ:fl=false->∀ b,J b->Nc cx (σ.app dst (On ps gs tk r bx')) ρ2 w' b:=fun hfl0 b hb=>by
   obtain⟨j1,j2,j3⟩:=d2 b hb
   rcases aZf b w.heap.size with h | h
   ·rcases j2 h with (h1 | ⟨h1,-⟩) | ⟨k,k1,k2,k3⟩
    ·exact (hI b h1).1
    ·rw [hfl0] at h1; cases h1
    ·obtain⟨j,hj⟩:=hin k k2
     simp only [hi0 k j hj] at k3
     obtain⟨lb0,q4,-⟩:=hpsL k j hj
     have hjg:=hgs k j k1 hj
     refine⟨j1,?_,fun hlt=>?_⟩
     ·rintro⟨k',lb',h4,h5⟩
      cases hek:(On ps gs tk r bx').l k' with
      | none=>
       have h4':σ.L k'=some lb':=by simpa [St.app,hek] using h4
       rw [hρU k' (ha.usedL k' lb' h4').1] at h5
       have:=ha.sep k' j lb' lb0 b h4' q4 h5 k3
       subst this
       exact hel3 k' hjg hek
      | some x=>
       have h4':x=some lb':=by simpa [St.app,hek] using h4
       subst h4'
       obtain⟨i,x,e1,rfl,rfl⟩:=hel1 k' lb' hek
       have hi:=(aDx.1 e1).1
       rw [hρi i hi] at h5
       exact j3 i hi h5
     ·rcases ha.fresh j lb0 b q4 (hgnp j hjg) k3 with h6 | h6
      ·omega
      ·exact .inr h6
   ·refine hI2 b h j1 fun k lb h1 h2=>?_
    obtain⟨i,x,e1,rfl,rfl⟩:=hel1 k lb h1
    have hi:=(aDx.1 e1).1
    rw [hρi i hi] at h2
    exact j3 i hi h2
  have hmapB:∀ i x,bx'[i]?=some x->S5 cx ρ2 (Nc cx (σ.app dst (On ps gs tk r bx')) ρ2 w') w' (ρ' i) (zR (G9 ps tk) x):=fun i x hx=>by
   have hi:=(aDx.1 hx).1
   have hb:=d4 i x hx
   cases x with
   | box ds ty=>
    obtain⟨b,vs,q1,q2,q3,q4,q5⟩:=hb
    refine⟨b,vs,q1,q2,?_,q4,?_⟩
    ·rcases q3 with q3 | ⟨k,hk,hk'⟩
     ·exact .inl (aOt ha.kept.2.2.2.1 q3)
     ·have hk:k < bx.length:=hk
      obtain⟨j,hj⟩:=hin k hk
      have hk':Cu (ρ (G9 wr 0 k))=some b:=hk'
      rw [hi0 k j hj] at hk'
      obtain⟨lb2,h1,-⟩:=hpsL k j hj
      exact ((ha.lo _ _ h1).blk hk').2
    ·have hm:∀ k,Gu ds k->ρ2 (G9 ps tk k)=ρ' k:=fun k hk=>hρi k (m2 i _ hx k hk)
     cases hfc:fl with
     | false=>exact B5.map (hJ hfc) ds vs hm q5
     | true=>
      have hff:=(hfl hfc).2 _ (aJz hx)
      exact B5.map (I:=Nc cx (σ.app dst (On ps gs tk r bx')) ρ2 w') (fun b hb=>hb) ds vs hm (B5.flat ds vs hff q5)
   | row e sz cs=>
    obtain⟨n,us,q1,q3,q2⟩:=hb
    refine⟨n,us,q1,fun b hb=>?_,?_⟩
    ·rcases q3 b hb with q3 | ⟨k,hk,hk'⟩
     ·exact .inl (aOt ha.kept.2.2.2.1 q3)
     ·have hk:k < bx.length:=hk
      obtain⟨j,hj⟩:=hin k hk
      have hk':Cu (ρ (G9 wr 0 k))=some b:=hk'
      rw [hi0 k j hj] at hk'
      obtain⟨lb2,h1,-⟩:=hpsL k j hj
      exact ((ha.lo _ _ h1).blk hk').2
    ·cases hfc:fl with
     | false=>exact q2.keep_ (fun _ _=>rfl) (hJ hfc)
     | true=>
      have hff:=(hfl hfc).2 _ (aJz hx)
      exact q2.flat_any hff
   | map l=>
    obtain⟨g,q1,q2,q3⟩:=hb
    refine⟨g,q1,q2,?_⟩
    rcases q3 with q3 | ⟨k,hk,hk'⟩
    ·exact .inl (aOt ha.kept.2.2.2.1 q3)
    ·have hk:k < bx.length:=hk
     obtain⟨j,hj⟩:=hin k hk
     have hk':Cu (ρ (G9 wr 0 k))=some g:=hk'
     rw [hi0 k j hj] at hk'
     obtain⟨lb2,h1,-⟩:=hpsL k j hj
     exact ((ha.lo _ _ h1).blk hk').2
   | vec ds e=>
    obtain⟨b,vs,q1,q0,q2,q3,q4,q5⟩:=hb
    refine⟨b,vs,q1,q0,q2,?_,q4,?_⟩
    ·rcases q3 with q3 | ⟨k,hk,hk'⟩
     ·exact .inl (aOt ha.kept.2.2.2.1 q3)
     ·have hk:k < bx.length:=hk
      obtain⟨j,hj⟩:=hin k hk
      have hk':Cu (ρ (G9 wr 0 k))=some b:=hk'
      rw [hi0 k j hj] at hk'
      obtain⟨lb2,h1,-⟩:=hpsL k j hj
      exact ((ha.lo _ _ h1).blk hk').2
    ·have hm:∀ k,Gu ds k->ρ2 (G9 ps tk k)=ρ' k:=fun k hk=>hρi k (m2 i _ hx k hk)
     cases hfc:fl with
     | false=>exact B5.map (hJ hfc) ds vs hm q5
     | true=>
      have hff:=(hfl hfc).2 _ (aJz hx)
      exact B5.map (I:=Nc cx (σ.app dst (On ps gs tk r bx')) ρ2 w') (fun b hb=>hb) ds vs hm (B5.flat ds vs hff q5)
   | lop ts ds N rc=>
    obtain⟨b,tm,q1,q2,q3,q4,q5⟩:=hb
    refine⟨b,tm,q1,q2,?_,q4,?_⟩
    ·rcases q3 with q3 | ⟨k,hk,hk'⟩
     ·exact .inl (aOt ha.kept.2.2.2.1 q3)
     ·have hk:k < bx.length:=hk
      obtain⟨j,hj⟩:=hin k hk
      have hk':Cu (ρ (G9 wr 0 k))=some b:=hk'
      rw [hi0 k j hj] at hk'
      obtain⟨lb2,h1,-⟩:=hpsL k j hj
      exact ((ha.lo _ _ h1).blk hk').2
    ·have hm:∀ k,Gu ds k->ρ2 (G9 ps tk k)=ρ' k:=fun k hk=>hρi k (m2 i _ hx k hk)
     cases hfc:fl with
     | false=>exact B5.map (hJ hfc) ds _ hm q5
     | true=>
      have hff:=(hfl hfc).2 _ (aJz hx)
      exact B5.map (I:=Nc cx (σ.app dst (On ps gs tk r bx')) ρ2 w') (fun b hb=>hb) ds _ hm (B5.flat ds _ hff q5)
   | mit k2 n s=>
    obtain⟨b,g,q1,q0,q2,q3⟩:=hb
    refine⟨b,g,q1,(hρi k2 (m2 i _ hx k2 rfl)).trans q0,q2,?_⟩
    rcases q3 with q3 | ⟨k,hk,hk'⟩
    ·exact .inl (aOt ha.kept.2.2.2.1 q3)
    ·have hk:k < bx.length:=hk
     obtain⟨j,hj⟩:=hin k hk
     have hk':Cu (ρ (G9 wr 0 k))=some b:=hk'
     rw [hi0 k j hj] at hk'
     obtain⟨lb2,h1,-⟩:=hpsL k j hj
     exact ((ha.lo _ _ h1).blk hk').2
  refine⟨fun k lb h1=>?_,fun d h1=>?_⟩
  ·obtain⟨i,x,e1,rfl,rfl⟩:=hel1 k lb h1
   rw [hρi i (aDx.1 e1).1]
   exact hmapB i x e1
  ·injection h1 with h1
   subst h1
   have hm:∀ k,men r k->ρ2 (G9 ps tk k)=ρ' k:=fun k hk=>hρi k (m1 k hk)
   cases hfc:fl with
   | false=>exact C3.map (hJ hfc) r v hm d3
   | true=>exact C3.map (I:=Nc cx (σ.app dst (On ps gs tk r bx')) ρ2 w') (fun b hb=>hb) r v hm (C3.flat r v (hfl hfc).1 d3)
 ·obtain⟨i,x,e1,rfl,rfl⟩:=hel1 k lb h1
  obtain⟨j,q1,rfl⟩:=aAh h2
  have hj:=m2 i x e1 j q1
  exact .inr (hel2 j hj)
 ·injection h1 with h1
  subst h1
  obtain⟨j,q1,rfl⟩:=wX r k' h2
  exact .inr (hel2 j (m1 j q1))
 ·obtain⟨i,x,e1,rfl,rfl⟩:=hel1 k lb h1
  have hi:=(aDx.1 e1).1
  rw [hρi i hi] at h3
  rcases himp i hi with ⟨j,q1,q2⟩ | ⟨q1,q2,q3⟩
  ·have hil:=(aDx.1 q1).1
   obtain⟨lb0,q3,-⟩:=hpsL i j (hpl i j q1)
   rw [d1 i hil] at h3
   simp only [hi0 i j (hpl i j q1)] at h3
   exact ha.fresh j lb0 b q3 (by rw [q2] at h2; exact h2) h3
  ·rcases d5 i b q1 hi h3 with h4 | ⟨k,k1,k2,k3⟩
   ·exact .inl (aOt ha.kept.2.2.2.1 h4)
   ·obtain⟨j,hj⟩:=hin k k2
    simp only [hi0 k j hj] at k3
    obtain⟨lb0,q4,-⟩:=hpsL k j hj
    exact ha.fresh j lb0 b q4 (hgnp j (hgs k j k1 hj)) k3
theorem aC {tk f:Nat} {wr ps gs l:List Nat} (hwr:wr=ps ++ gs) {args:List DV} {bx:List LB} {R:DV->List LB->Prop} {fl:Bool} (hF:Fn P f ps.length args bx R) {ads:List DV} {avs:List Value} (hA:K0 fl wr (Jc σ l) ads args) (hrep:B5 ρ (Nc cx σ ρ w) w ads avs)
  (hB:X8 fl wr (Jc σ l) wr bx) (hh:N1 cx.np ps gs=true) (hfl:fl=true->∀ r b,R r b->Kg r/\∀ lb∈b,N4 lb) (ha:Ew cx ρ σ a w) (hf:∀ j,j < 8->σ.U (tk + j)=false) (hdst:∀ t,o.dst=some t->t < cx.N)
  (hrun:(execOp a.eval o).run P w=.ok (.enter f avs.toArray) w) (hK:∀ e a' w',aBx ps gs tk R e->Mx cx (σ.app o.dst e) a' w'->K a' w'):o.wp P a w K Q:=by
 obtain⟨c1,c2,c3,c4⟩:=gI hwr hA hrep hB hh ha
 have hcalls:=hF.2.2 (fun k=>ρ (G9 wr 0 k)) (fun b=>Nc cx σ ρ w b\/tC fl wr σ ρ b) w avs c1 c2 c3 c4
 unfold Oper.wp
 rw [hrun]
 refine hcalls.mono ?_
 rintro e w' ⟨v,r,bx',rfl,hR,hback⟩
 exact hK (On ps gs tk r bx') _ _ ⟨r,bx',hR,rfl,hback.le.1,hback.le.2⟩ ((aW hwr hB hh (fun h=>hfl h r bx' hR) ha hf hdst hback).imp fun _ h=>h.1)
theorem CallR.sound {tk:Nat} {op:Op} {ty:TypeId} {ds:List (DV×Option LB)} {env:qI} {wr:List Nat} {E:Ow->Prop} (h:CallR P cx.np tk op ty ds env wr E) (ha:Ew cx ρ σ a w) (hds:Fz σ (K7 op) op.operands.toList=some ds) (henv:env=Jc σ (Qe σ 3 (Rm ds))) (hf:∀ j,j < 8->σ.U (tk + j)=false) (ho:o.op=op) (hdst:∀ t,o.dst=some t->t < cx.N)
  (hK:∀ e a' w',E e->Mx cx (σ.app o.dst e) a' w'->K a' w'):o.wp P a w K Q:=by
 subst henv
 cases h with
 | ext h=>exact h.sound ha hds rfl hf ho hdst hK
 | @call f xs tys _ dsA _ ps gs args bx R fl hF hA hB hnd hfl=>
  have hds':Fz σ true (.func f :: xs.toList)=some ((.val (.func (.func f) #[] #[]),none) :: dsA):=by
   have:(Op.call ⟨.value (.func f),xs,tys⟩).operands.toList=.func f :: xs.toList:=by simp [Op.operands,Call.operands]
   rw [<- this]; exact hds
  obtain⟨-,e2⟩:=Pq hds'
  refine aC rfl hF hA (Oo ha e2).1 hB hnd hfl ha hf hdst ?_ hK
  have e1:(xs.toList.map a.eval).toArray=xs.map a.eval:=by rw [<- bAz,bAc]
  have h1:=hF.2.1 (xs.toList.map a.eval).toArray w
  rw [e1] at h1 ⊢
  have e4:a.eval (.func f)=.func (.func f) #[] #[]:=rfl
  have e3:(#[] ++ Array.map a.eval xs ++ #[]:Array Value)=Array.map a.eval xs:=by simp
  simp only [execOp,ho,resolve,e4,Deferred.ofValue,Sem.run_bind,Sem.run_pure,Result.andThen_ok,invoke,e3]
  exact h1
 | @callC t f n cs xs tys _ b dsA _ ps gs args bx R fl hF hA hB hnd hfl=>
  have hds':Fz σ true (.tmp t :: xs.toList)=some ((.clo f n cs,b) :: dsA):=by
   have:(Op.call ⟨.value (.tmp t),xs,tys⟩).operands.toList=.tmp t :: xs.toList:=by simp [Op.operands,Call.operands]
   rw [<- this]; exact hds
  obtain⟨e0,e2⟩:=Pq hds'
  obtain⟨h0,-,-⟩:=Dm ha e0
  unfold C3 at h0
  obtain⟨vs,hv,hr⟩:=h0
  have hr2:=(Oo ha e2).1
  have tk1:B5 ρ (Nc cx σ ρ w) w (cs.take n) (vs.take n):=by have:=hr.sub 0 n; simpa using this
  have tk2:B5 ρ (Nc cx σ ρ w) w (cs.drop n) (vs.drop n):=by
   have:=hr.sub n cs.length
   have e1:(cs.drop n).take cs.length=cs.drop n:=aJ0 (by rw [aJ4]; omega)
   have e2:(vs.drop n).take cs.length=vs.drop n:=aJ0 (by rw [aJ4,hr.length]; omega)
   rw [e1,e2] at this
   exact this
  refine aC rfl hF hA (tk1.app (hr2.app tk2)) hB hnd hfl ha hf hdst ?_ hK
  have h1:=hF.2.1 (vs.take n ++ (xs.toList.map a.eval ++ vs.drop n)).toArray w
  have e5:((vs.take n).toArray ++ Array.map a.eval xs ++ (vs.drop n).toArray:Array Value)=(vs.take n ++ (xs.toList.map a.eval ++ vs.drop n)).toArray:=by
   apply bBi.1
   simp
  simp only [execOp,ho,resolve,hv,Deferred.ofValue,Sem.run_bind,Sem.run_pure,Result.andThen_ok,invoke]
  rw [e5]
  exact h1
 | @callV t f xs tys _ b dsA _ ps gs args bx R fl hF hA hB hnd hfl=>
  have hds':Fz σ true (.tmp t :: xs.toList)=some ((.val (.func (.func f) #[] #[]),b) :: dsA):=by
   have:(Op.call ⟨.value (.tmp t),xs,tys⟩).operands.toList=.tmp t :: xs.toList:=by simp [Op.operands,Call.operands]
   rw [<- this]; exact hds
  obtain⟨e0,e2⟩:=Pq hds'
  have hv:=F5 ha e0
  refine aC rfl hF hA (Oo ha e2).1 hB hnd hfl ha hf hdst ?_ hK
  have e1:(xs.toList.map a.eval).toArray=xs.map a.eval:=by rw [<- bAz,bAc]
  have h1:=hF.2.1 (xs.toList.map a.eval).toArray w
  rw [e1] at h1 ⊢
  have e3:(#[] ++ Array.map a.eval xs ++ #[]:Array Value)=Array.map a.eval xs:=by simp
  simp only [execOp,ho,resolve,hv,Deferred.ofValue,Sem.run_bind,Sem.run_pure,Result.andThen_ok,invoke,e3]
  exact h1
 | @nilE t X Y yt _ sz cs b1 b2 _ hn=>
  have hds':Fz σ false [X,Y]=some [(.sl sz cs,b1),(.val (.slice none 0 0),b2)]:=hds
  obtain⟨e1,e2⟩:=Pz hds'
  obtain⟨h1,-,-⟩:=Dm ha e1
  have hy:=F5 ha e2
  unfold C3 at h1
  obtain⟨A,n,c,hv,hl,hnc,hc⟩:=h1.slice
  obtain⟨e,hn⟩:=hn
  have hrun:(execOp a.eval o).run P w=.ok (.value (.bool A.isNone)) w:=by
   have h:=run_equal_slice_nil w t e A n c hn
   simp [execOp,ho,hv,hy,eqGuard,binOp,h]
  unfold Oper.wp
  rw [hrun]
  refine hK (v0 (.val (.bool A.isNone))) _ _ ⟨_,fun hA=>?_,rfl⟩ ⟨ρ,ha.put0 hdst (fun x hx=>by injection hx with hx; subst hx; exact Ld rfl) (fun x k hx hm=>by injection hx with hx; subst hx; exact Wn k hm)⟩
  cases A with
  | some ad=>cases hA
  | none=>
   have h0:=h1
   rw [hv] at h0
   unfold F1 at h0
   obtain⟨A',n',cap,q1,q2,-,-,q3⟩:=h0
   injection q1 with q1 q4 q5
   rcases aLq n' with h | h
   ·subst h; exact aG6 (by simpa using q2)
   ·obtain⟨ad,q6,-⟩:=q3 h
    rw [<- q1] at q6; cases q6
theorem CallR.key {tk:Nat} {op:Op} {ty:TypeId} {ds:List (DV×Option LB)} {env:qI} {wr:List Nat} {E:Ow->Prop} {np:Nat} (h:CallR P np tk op ty ds env wr E):∀ e,E e->∀ k,e.l k≠none->k∈wr\/(tk<=k/\k < tk + 8):=by
 have key:∀ (ps gs:List Nat) (R:DV->List LB->Prop) e,aBx ps gs tk R e->∀ k,e.l k≠none->k∈ps ++ gs\/(tk<=k/\k < tk + 8):=by
  rintro ps gs R e ⟨r,b,-,rfl,h1,h2⟩ k hk
  have hk':(match H9 (W5 ps tk 0 b) k with | some lb=>some (some lb) | none=>bif gs.any (Nat.beq k) then some none else none)≠none:=hk
  cases hl:H9 (W5 ps tk 0 b) k with
  | none=>
   rw [hl] at hk'
   simp only [] at hk'
   cases G:gs.any (Nat.beq k) with
   | false=>rw [G] at hk'; exact absurd rfl hk'
   | true=>
    obtain⟨x,q1,q2⟩:=aL5.1 G
    rw [aF5 q2]
    exact .inl (aS1 _ q1)
  | some lb=>
   obtain⟨i,x,e1,e2,-⟩:=Wb hl
   rw [aR3] at e2
   have hi:=(aDx.1 e1).1
   unfold G9 at e2
   cases hw:ps[i]? with
   | some j=>rw [hw] at e2; simp only [] at e2; rw [e2]; exact .inl (aR4 _ (aJz hw))
   | none=>
    rw [hw] at e2
    simp only [] at e2
    have:=List.getElem?_eq_none_iff.1 hw
    exact .inr (by omega)
 cases h with
 | call=>exact key _ _ _
 | callC=>exact key _ _ _
 | callV=>exact key _ _ _
 | nilE=>rintro e ⟨b,-,rfl⟩ k hk; exact absurd rfl hk
 | ext h=>exact h.key
theorem CallR.sub {tk:Nat} {op:Op} {ty:TypeId} {ds:List (DV×Option LB)} {env:qI} {wr:List Nat} {E:Ow->Prop} {np:Nat} (h:CallR P np tk op ty ds env wr E):∀ k,k∈wr->k∈env.map (·.1):=by
 have key:∀ {fl:Bool} {bx:List LB},X8 fl wr env wr bx->∀ k,k∈wr->k∈env.map (·.1):=fun hB k hk=>by
  obtain⟨i,hi,rfl⟩:=aUb hk
  obtain⟨lb,lb',-,h2,-⟩:=hB.at_ (aCv hi)
  exact aOq.2 ⟨_,h2,rfl⟩
 cases h with
 | call fl hF hA hB=>exact key hB
 | callC fl hF hA hB=>exact key hB
 | callV fl hF hA hB=>exact key hB
 | nilE=>intro k hk; simp at hk
 | ext h=>exact h.sub
end
section
variable {P:Program} {cx:Cx} {σ:St} {a:Act} {w:World} {ρ:Nat->Value}
def hO (sz:Nat) (cs:List C) (ks:List Nat):Ow:=⟨some (.sl sz cs),fun k=>bif ks.any (Nat.beq k) then some none else none⟩
abbrev zT (j:Nat) (k:Nat):Option Nat:=if k=j then none else some k
mutual
theorem Cv.self {j:Nat}:∀ d,(∀ k,men d k->k≠j)->Cv σ (zT j) d d
 | .val v,_=>.val v
 | .sl _ _,_=>.sl _ _
 | .slc _ _,_=>.slcc _ _
 | .mp _,_=>.mp _
 | .elt _,_=>.elt _
 | .row k,h=>.row (if_neg (h k (by unfold men; rfl)))
 | .part k _ _,h=>.part (if_neg (h k (by unfold men; rfl)))
 | .ptr k _,h=>.ptr (if_neg (h k (by unfold men; rfl)))
 | .agg ds,h=>.agg (Sz.self ds fun k hk=>h k (by unfold men; exact hk))
 | .tup ds,h=>.tup (Sz.self ds fun k hk=>h k (by unfold men; exact hk))
 | .clo _ _ ds,h=>.clo _ _ (Sz.self ds fun k hk=>h k (by unfold men; exact hk))
theorem Sz.self {j:Nat}:∀ ds,(∀ k,Gu ds k->k≠j)->Sz σ (zT j) ds ds
 | [],_=>.nil
 | d :: ds,h=>.cons (Cv.self d fun k hk=>h k (by unfold Gu; exact .inl hk)) (Sz.self ds fun k hk=>h k (by unfold Gu; exact .inr hk))
end
theorem Mx.frzE {ρ0:Nat->Value} {a0:Act} {w00:World} (h0:Ew cx ρ0 σ a0 w00) {tk et sz:Nat} {cs:List C} {ks:List Nat} {dst:Option Tmp} (hf:σ.U tk=false) (h:Mx cx (σ.app dst (P6 tk (.row et sz cs) ks (.row tk))) a w):Mx cx (σ.app dst (Go.Proofs.YtobamahlipiakaaGreat.hO sz cs ks)) a w:=by
 obtain⟨ρ,ha⟩:=h
 have hnp:cx.np<=tk:=by
  rcases aZf tk cx.np with h | h
  ·have:=(h0.pin tk h).2
   rw [hf] at this; cases this
  ·exact h
 have hLtk:(σ.app dst (P6 tk (.row et sz cs) ks (.row tk))).L tk=some (.row et sz cs):=by
  show (match (bif Nat.beq tk tk then some (some (LB.row et sz cs)) else _) with | some x=>x | none=>σ.L tk)=_
  rw [bA1]
  rfl
 have hLne:∀ k,k≠tk->(σ.app dst (P6 tk (.row et sz cs) ks (.row tk))).L k=(σ.app dst (Go.Proofs.YtobamahlipiakaaGreat.hO sz cs ks)).L k:=fun k hk=>by
  show (match (bif Nat.beq k tk then some (some (LB.row et sz cs)) else (bif ks.any (Nat.beq k) then some none else none)) with | some x=>x | none=>σ.L k)=(match (bif ks.any (Nat.beq k) then some none else none) with | some x=>x | none=>σ.L k)
  have:Nat.beq k tk=false:=by
   cases hb:Nat.beq k tk with
   | false=>rfl
   | true=>exact absurd (aF5 hb) hk
  rw [this]
  rfl
 have B:∀ k,σ.U k=true->(σ.app dst (Go.Proofs.YtobamahlipiakaaGreat.hO sz cs ks)).U k=true:=fun k hk=>by
  show (σ.U k || _)=true
  rw [hk]; rfl
 have hLs:∀ k lb,(σ.app dst (Go.Proofs.YtobamahlipiakaaGreat.hO sz cs ks)).L k=some lb->σ.L k=some lb:=fun k lb hl=>by
  have hl':(match (bif ks.any (Nat.beq k) then some none else none) with | some x=>x | none=>σ.L k)=some lb:=hl
  cases hb:ks.any (Nat.beq k) with
  | true=>rw [hb] at hl'; cases hl'
  | false=>rw [hb] at hl'; exact hl'
 have hFs:∀ t d,(σ.app dst (Go.Proofs.YtobamahlipiakaaGreat.hO sz cs ks)).F t=some d->(dst=some t/\d=.sl sz cs)\/(dst≠some t/\σ.F t=some d):=fun t d hd=>by
  cases dst with
  | none=>exact .inr ⟨by simp,hd⟩
  | some t'=>
   by_cases h1:t=t'
   ·subst h1
    have:(σ.app (some t) (Go.Proofs.YtobamahlipiakaaGreat.hO sz cs ks)).F t=some (.sl sz cs):=bH _ _ _
    rw [this] at hd
    injection hd with hd
    exact .inl ⟨rfl,hd.symm⟩
   ·have:(σ.app (some t') (Go.Proofs.YtobamahlipiakaaGreat.hO sz cs ks)).F t=σ.F t:=Qz _ _ h1
    rw [this] at hd
    exact .inr ⟨fun h=>by injection h with h; exact h1 h.symm,hd⟩
 refine⟨_,(ha.ren (σ':=σ.app dst (Go.Proofs.YtobamahlipiakaaGreat.hO sz cs ks)) (zT tk) (fun t d' hd=>?_) (fun k lb' hl=>?_) (fun k k' i h1 h2=>?_) (fun k hk=>⟨if_neg (by omega),B k (h0.pin k hk).2⟩) (fun t d k hd hm=>?_) (fun k lb hl=>?_)).1⟩
 ·rcases hFs t d' hd with ⟨rfl,rfl⟩ | ⟨h1,h2⟩
  ·refine⟨.row tk,bH _ _ _,.frz hLtk fun k hk=>?_⟩
   unfold zT at hk
   split at hk
   ·cases hk
   ·rename_i hne
    injection hk with hk
    exact hne hk
  ·refine⟨d',?_,Cv.self d' fun k hk hkt=>?_⟩
   ·cases dst with
    | none=>exact h2
    | some t'=>exact (Qz _ _ fun h=>h1 (by rw [h])).trans h2
   ·have:=h0.usedF t d' k h2 hk
    rw [hkt,hf] at this; cases this
 ·have h1:=hLs k lb' hl
  have hk:k≠tk:=fun h=>by
   have:=(h0.usedL k _ h1).1
   rw [h,hf] at this; cases this
  refine .inl ⟨k,lb',if_neg hk,(hLne k hk).trans hl,?_⟩
  cases lb' with
  | row e s c=>exact⟨rfl,rfl,rfl⟩
  | map l=>exact rfl
  | lop ts ds N rc=>exact⟨⟨rfl,rfl,rfl⟩,Sz.self ds fun k' hk' hkt=>by
    have:=(h0.usedL k _ h1).2 k' hk'
    rw [hkt,hf] at this; cases this⟩
  | mit k2 n s=>
   refine⟨if_neg fun h=>?_,rfl,rfl⟩
   have:=(h0.usedL k _ h1).2 k2 rfl
   rw [h,hf] at this
   cases this
  | vec ds e=>exact⟨rfl,Sz.self ds fun k' hk' hkt=>by
    have:=(h0.usedL k _ h1).2 k' hk'
    rw [hkt,hf] at this; cases this⟩
  | box ds ty=>exact⟨rfl,Sz.self ds fun k' hk' hkt=>by
    have:=(h0.usedL k _ h1).2 k' hk'
    rw [hkt,hf] at this; cases this⟩
 ·unfold zT at h1 h2
  split at h1
  ·cases h1
  ·split at h2
   ·cases h2
   ·injection h1 with h1
    injection h2 with h2
    omega
 ·rcases hFs t d hd with ⟨rfl,rfl⟩ | ⟨h1,h2⟩
  ·unfold men at hm; exact hm.elim
  ·exact B k (h0.usedF t d k h2 hm)
 ·have h1:=h0.usedL k _ (hLs k lb hl)
  exact⟨B k h1.1,fun k' hk'=>B k' (h1.2 k' hk')⟩
end
def zB (fz:List Nat) (tk:Nat):Bool:=fz.any (Nat.beq tk)
def zM (fz:List Nat) (tk:Nat):Nat:=bif zB fz tk then 1 else 0
def P2 (np:Nat) (op:Op) (wr:List Nat):Bool:=!aA5 op || wr.all fun k=>Nat.ble np k
theorem sP {np:Nat} {op:Op} {wr:List Nat} (h:P2 np op wr=true):aA5 op=true->∀ k∈wr,np<=k:=fun h1 k hk=>by
 unfold P2 at h
 rw [h1] at h
 exact aEi (aH8.1 h k hk)
theorem aGt {P:Program} {np tk:Nat} {op:Op} {ty:TypeId} {ds:List (DV×Option LB)} {env:qI} {wr wr':List Nat} {e:Ow} {E:Ow->Prop} (h:Gw P tk op ty ds wr e) (h':CallR P np tk op ty ds env wr' E):False:=by
 cases h' with
 | call=>cases h
 | callC=>cases h
 | callV=>cases h
 | nilE=>cases h with | binOpA q=>simp [Ox] at q
 | ext h'=>exact h'.excl h
def OpZ (P:Program) (np:Nat) (fz:List Nat) (tk:Nat) (op:Op) (ty:TypeId) (ds:List (DV×Option LB)) (wr:List Nat) (e:Ow):Prop:=
 P2 np op wr=true/\((zM fz tk=0/\Gw P tk op ty ds wr e)\/(zM fz tk=1/\∃ e0 et sz cs,Gw P tk op ty ds wr e0/\e0=P6 tk (.row et sz cs) wr (.row tk)/\e=hO sz cs wr))
def D9 (P:Program) (cx:Cx) (fz:List Nat):Sys P cx where
 R:=OpZ P cx.np fz
 C:=CallR P cx.np
 soundR:=by
  intro tk op ty ds wr e h ρ σ a w ha hds hf o ho hty hdst K Q hK
  have hf0:σ.U tk=false:=by have:=hf 0 (by omega); simpa using this
  obtain⟨hap,h⟩:=h
  rcases h with ⟨-,h⟩ | ⟨-,e0,et,sz,cs,h,rfl,rfl⟩
  ·exact h.sound ha hds hf0 ho hty hdst (sP hap) hK
  ·exact h.sound ha hds hf0 ho hty hdst (sP hap) fun a' w' h'=>hK a' w' (Mx.frzE ha hf0 h')
 soundC:=by
  intro tk op ty ds env wr E h ρ σ a w ha hds henv hf o ho hty hdst K Q hK
  exact h.sound ha hds henv hf ho hdst hK
 func:=by
  intro w tk op ty ds wr e wr' e' h h'
  rcases h with ⟨-,⟨z,h⟩ | ⟨z,e0,et,sz,cs,h,q1,rfl⟩⟩ <;> rcases h' with ⟨-,⟨z',h'⟩ | ⟨z',e0',et',sz',cs',h',q1',rfl⟩⟩
  ·exact h.func w h'
  ·rw [z] at z'; cases z'
  ·rw [z] at z'; cases z'
  ·obtain⟨rfl,e1⟩:=h.func w h'
   refine⟨rfl,?_⟩
   rw [q1,q1'] at e1
   have:=congrFun (congrArg Ow.l e1) tk
   have this:(bif Nat.beq tk tk then some (some (LB.row et sz cs)) else _)=(bif Nat.beq tk tk then some (some (LB.row et' sz' cs')) else _):=this
   rw [bA1] at this
   injection this with this
   injection this with this
   injection this with t1 t2 t3
   rw [t2,t3]
 excl:=by
  intro tk op ty ds env wr e wr' E h h'
  rcases h with ⟨-,⟨-,h⟩ | ⟨-,e0,et,sz,cs,h,-⟩⟩ <;> exact aGt h h'
 keyR:=by
  intro tk op ty ds wr e h
  rcases h with ⟨-,⟨-,h⟩ | ⟨-,e0,et,sz,cs,h,-,rfl⟩⟩
  ·exact h.key
  ·intro k hk
   have hk':(bif wr.any (Nat.beq k) then some (none:Option LB) else none)≠none:=hk
   cases hb:wr.any (Nat.beq k) with
   | false=>rw [hb] at hk'; exact absurd rfl hk'
   | true=>
    obtain⟨j,hj,hj'⟩:=aL5.1 hb
    rw [aF5 hj']
    exact .inl hj
 keyC:=fun h=>h.key
 subR:=by
  intro tk op ty ds wr e h
  rcases h with ⟨-,⟨-,h⟩ | ⟨-,e0,et,sz,cs,h,-⟩⟩
  ·exact h.sub
  ·exact h.sub
 subC:=fun h=>h.sub
 sim:=by
  intro tk op ty ds ds' wr e h hs
  rcases h with ⟨hap,⟨hz,h⟩ | ⟨hz,e0,et,sz,cs,h,he,h'⟩⟩
  ·exact⟨hap,.inl ⟨hz,h.sim hs⟩⟩
  ·exact⟨hap,.inr ⟨hz,e0,et,sz,cs,h.sim hs,he,h'⟩⟩
end Go.Proofs.YtobamahlipiakaaGreat
namespace Go.Proofs.YtobamahlipiakaaGreat
open Go.RowKit
section
variable {P:Program} {cx:Cx} {ops:Array Oper} {Rt:Option (List Nat)} {nb i:Nat} {l:List Oper} {lg:oP} {σ:St} {Q:St->Prop} {fz:List Nat}
theorem Sk {dst:Option Tmp} {op:Op} {ty:TypeId} {pos:String} {af:Array Edge} {g:Option (Nat×Bool)} {ds:List (DV×Option LB)} {rd wr:List Nat} {e:Ow} (G:Kr ops σ ⟨dst,op,ty,pos,af,g⟩=some true) (hds:Fz σ (K7 op) op.operands.toList=some ds) (h:Gw P (nb + 8 * i) op ty ds wr e)
  (hrd:(bif K7 op then Mw (Nm op) ds else [])=rd) (hok:Mc Rt i false (nb + 8 * i) rd wr lg=true) (k:Chain (D9 P cx fz) ops Rt nb (idx (i + 1) l) ((i,false,nb + 8 * i,rd,wr) :: lg) (σ.app dst e) Q) (hz:zM fz (nb + 8 * i)=0:=by rfl) (hap:P2 cx.np op wr=true:=by rfl) :
  Chain (D9 P cx fz) ops Rt nb (idx i (⟨dst,op,ty,pos,af,g⟩ :: l)) lg σ Q:=
 .inl ⟨_,wr,e,.inr ⟨G,ds,hds,⟨hap,.inl ⟨hz,h⟩⟩,hrd.symm⟩,hok,k⟩
theorem wA {dst:Option Tmp} {op:Op} {ty:TypeId} {pos:String} {af:Array Edge} {g:Option (Nat×Bool)} {ds:List (DV×Option LB)} {rd wr:List Nat} {e:Ow} {et sz:Nat} {cs:List C} (G:Kr ops σ ⟨dst,op,ty,pos,af,g⟩=some true) (hds:Fz σ (K7 op) op.operands.toList=some ds) (h:Gw P (nb + 8 * i) op ty ds wr e) (he:e=P6 (nb + 8 * i) (.row et sz cs) wr (.row (nb + 8 * i)))
  (hrd:(bif K7 op then Mw (Nm op) ds else [])=rd) (hok:Mc Rt i false (nb + 8 * i) rd wr lg=true) (k:Chain (D9 P cx fz) ops Rt nb (idx (i + 1) l) ((i,false,nb + 8 * i,rd,wr) :: lg) (σ.app dst (hO sz cs wr)) Q) (hz:zM fz (nb + 8 * i)=1:=by rfl) (hap:P2 cx.np op wr=true:=by rfl) :
  Chain (D9 P cx fz) ops Rt nb (idx i (⟨dst,op,ty,pos,af,g⟩ :: l)) lg σ Q:=
 .inl ⟨_,wr,_,.inr ⟨G,ds,hds,⟨hap,.inr ⟨hz,e,et,sz,cs,h,he,rfl⟩⟩,hrd.symm⟩,hok,k⟩
theorem aG3 {dst:Option Tmp} {op:Op} {ty:TypeId} {pos:String} {af:Array Edge} {g:Option (Nat×Bool)} (G:Kr ops σ ⟨dst,op,ty,pos,af,g⟩=some false)
  (hok:Mc Rt i false (nb + 8 * i) [] [] lg=true) (k:Chain (D9 P cx fz) ops Rt nb (idx (i + 1) l) ((i,false,nb + 8 * i,[],[]) :: lg) (σ.app dst wF) Q) :
  Chain (D9 P cx fz) ops Rt nb (idx i (⟨dst,op,ty,pos,af,g⟩ :: l)) lg σ Q:=
 .inl ⟨_,_,_,.inl ⟨G,rfl,rfl,rfl⟩,hok,k⟩
theorem Mt {dst:Option Tmp} {op:Op} {ty:TypeId} {pos:String} {af:Array Edge} {g:Nat} {b c:Bool} {t:Tmp} (ht:(ops[g]?).bind (·.dst)=some t) (hF:σ.F t=some (.val (.bool c))) (hc:c=b):Kr ops σ ⟨dst,op,ty,pos,af,some (g,b)⟩=some true:=by
 subst hc
 unfold Kr
 simp only []
 rw [ht]
 simp only []
 rw [hF]
 simp
theorem aJv {dst:Option Tmp} {op:Op} {ty:TypeId} {pos:String} {af:Array Edge} {g:Nat} {b c:Bool} {t:Tmp} (ht:(ops[g]?).bind (·.dst)=some t) (hF:σ.F t=some (.val (.bool c))) (hc:c=!b):Kr ops σ ⟨dst,op,ty,pos,af,some (g,b)⟩=some false:=by
 subst hc
 unfold Kr
 simp only []
 rw [ht]
 simp only []
 rw [hF]
 cases b <;> rfl
theorem aBp {f:FuncId} {xs:Array Operand} {tys:Array TypeId} {dsA:List (DV×Option LB)} (h:Fz σ true xs.toList=some dsA):Fz σ (K7 (.call ⟨.value (.func f),xs,tys⟩)) (Op.call ⟨.value (.func f),xs,tys⟩).operands.toList=some ((.val (.func (.func f) #[] #[]),none) :: dsA):=by
 have:(Op.call ⟨.value (.func f),xs,tys⟩).operands.toList=.func f :: xs.toList:=by simp [Op.operands,Call.operands]
 rw [this]
 show Fz σ true (.func f :: xs.toList)=_
 unfold Fz
 rw [h]
 rfl
theorem kW {t:Tmp} {xs:Array Operand} {tys:Array TypeId} {q:DV×Option LB} {dsA:List (DV×Option LB)} (h0:ev σ true (.tmp t)=some q) (h:Fz σ true xs.toList=some dsA):Fz σ (K7 (.call ⟨.value (.tmp t),xs,tys⟩)) (Op.call ⟨.value (.tmp t),xs,tys⟩).operands.toList=some (q :: dsA):=by
 have:(Op.call ⟨.value (.tmp t),xs,tys⟩).operands.toList=.tmp t :: xs.toList:=by simp [Op.operands,Call.operands]
 rw [this]
 show Fz σ true (.tmp t :: xs.toList)=_
 unfold Fz
 rw [h0,h]
theorem Jw {dst:Option Tmp} {f:FuncId} {xs:Array Operand} {tys:Array TypeId} {ty:TypeId} {pos:String} {af:Array Edge} {g:Option (Nat×Bool)} {dsA:List (DV×Option LB)} {rd ps gs:List Nat} {args:List DV} {bx:List LB} {R:DV->List LB->Prop} (fl:Bool)
  (G:Kr ops σ ⟨dst,.call ⟨.value (.func f),xs,tys⟩,ty,pos,af,g⟩=some true)
  (hF:Fn P f ps.length args bx R) (hds:Fz σ true xs.toList=some dsA) (hrd:Qe σ 3 (Rm dsA)=rd) (hA:K0 fl (ps ++ gs) (Jc σ rd) (dsA.map (·.1)) args) (hB:X8 fl (ps ++ gs) (Jc σ rd) (ps ++ gs) bx) (hnd:N1 cx.np ps gs=true) (hfl:fl=true->∀ r b,R r b->Kg r/\∀ lb∈b,N4 lb)
  (hok:Mc Rt i true (nb + 8 * i) rd (ps ++ gs) lg=true) (hne:Rt.isSome=true->∃ r b,R r b/\ps.length<=b.length/\b.length<=ps.length + 8)
  (k:∀ r b,R r b->Chain (D9 P cx fz) ops Rt nb (idx (i + 1) l) ((i,true,nb + 8 * i,rd,ps ++ gs) :: lg) (σ.app dst (On ps gs (nb + 8 * i) r b)) Q) :
  Chain (D9 P cx fz) ops Rt nb (idx i (⟨dst,.call ⟨.value (.func f),xs,tys⟩,ty,pos,af,g⟩ :: l)) lg σ Q:=by
 subst hrd
 refine .inr ⟨_,ps ++ gs,_,⟨G,_,aBp hds,.call fl hF hA hB hnd hfl,rfl⟩,hok,fun h=>?_,?_⟩
 ·obtain⟨r,b,h1,h2,h3⟩:=hne h
  exact⟨_,r,b,h1,rfl,h2,h3⟩
 ·rintro e ⟨r,b,h1,rfl,-,-⟩
  exact k r b h1
theorem eR {dst:Option Tmp} {t:Tmp} {f:FuncId} {n:Nat} {cs:List DV} {q:Option LB} {xs:Array Operand} {tys:Array TypeId} {ty:TypeId} {pos:String} {af:Array Edge} {g:Option (Nat×Bool)} {dsA:List (DV×Option LB)} {rd ps gs:List Nat} {args:List DV} {bx:List LB} {R:DV->List LB->Prop} (fl:Bool)
  (G:Kr ops σ ⟨dst,.call ⟨.value (.tmp t),xs,tys⟩,ty,pos,af,g⟩=some true) (hc:ev σ true (.tmp t)=some (.clo f n cs,q))
  (hF:Fn P f ps.length args bx R) (hds:Fz σ true xs.toList=some dsA) (hrd:Qe σ 3 (O3 cs ++ Rm dsA)=rd) (hA:K0 fl (ps ++ gs) (Jc σ rd) (cs.take n ++ (dsA.map (·.1) ++ cs.drop n)) args) (hB:X8 fl (ps ++ gs) (Jc σ rd) (ps ++ gs) bx) (hnd:N1 cx.np ps gs=true) (hfl:fl=true->∀ r b,R r b->Kg r/\∀ lb∈b,N4 lb)
  (hok:Mc Rt i true (nb + 8 * i) rd (ps ++ gs) lg=true) (hne:Rt.isSome=true->∃ r b,R r b/\ps.length<=b.length/\b.length<=ps.length + 8)
  (k:∀ r b,R r b->Chain (D9 P cx fz) ops Rt nb (idx (i + 1) l) ((i,true,nb + 8 * i,rd,ps ++ gs) :: lg) (σ.app dst (On ps gs (nb + 8 * i) r b)) Q) :
  Chain (D9 P cx fz) ops Rt nb (idx i (⟨dst,.call ⟨.value (.tmp t),xs,tys⟩,ty,pos,af,g⟩ :: l)) lg σ Q:=by
 subst hrd
 refine .inr ⟨_,ps ++ gs,_,⟨G,_,kW hc hds,.callC fl hF hA hB hnd hfl,rfl⟩,hok,fun h=>?_,?_⟩
 ·obtain⟨r,b,h1,h2,h3⟩:=hne h
  exact⟨_,r,b,h1,rfl,h2,h3⟩
 ·rintro e ⟨r,b,h1,rfl,-,-⟩
  exact k r b h1
theorem aEl {dst:Option Tmp} {t:Tmp} {f:FuncId} {q:Option LB} {xs:Array Operand} {tys:Array TypeId} {ty:TypeId} {pos:String} {af:Array Edge} {g:Option (Nat×Bool)} {dsA:List (DV×Option LB)} {rd ps gs:List Nat} {args:List DV} {bx:List LB} {R:DV->List LB->Prop} (fl:Bool)
  (G:Kr ops σ ⟨dst,.call ⟨.value (.tmp t),xs,tys⟩,ty,pos,af,g⟩=some true) (hc:ev σ true (.tmp t)=some (.val (.func (.func f) #[] #[]),q))
  (hF:Fn P f ps.length args bx R) (hds:Fz σ true xs.toList=some dsA) (hrd:Qe σ 3 (Rm dsA)=rd) (hA:K0 fl (ps ++ gs) (Jc σ rd) (dsA.map (·.1)) args) (hB:X8 fl (ps ++ gs) (Jc σ rd) (ps ++ gs) bx) (hnd:N1 cx.np ps gs=true) (hfl:fl=true->∀ r b,R r b->Kg r/\∀ lb∈b,N4 lb)
  (hok:Mc Rt i true (nb + 8 * i) rd (ps ++ gs) lg=true) (hne:Rt.isSome=true->∃ r b,R r b/\ps.length<=b.length/\b.length<=ps.length + 8)
  (k:∀ r b,R r b->Chain (D9 P cx fz) ops Rt nb (idx (i + 1) l) ((i,true,nb + 8 * i,rd,ps ++ gs) :: lg) (σ.app dst (On ps gs (nb + 8 * i) r b)) Q) :
  Chain (D9 P cx fz) ops Rt nb (idx i (⟨dst,.call ⟨.value (.tmp t),xs,tys⟩,ty,pos,af,g⟩ :: l)) lg σ Q:=by
 subst hrd
 refine .inr ⟨_,ps ++ gs,_,⟨G,_,kW hc hds,.callV fl hF hA hB hnd hfl,rfl⟩,hok,fun h=>?_,?_⟩
 ·obtain⟨r,b,h1,h2,h3⟩:=hne h
  exact⟨_,r,b,h1,rfl,h2,h3⟩
 ·rintro e ⟨r,b,h1,rfl,-,-⟩
  exact k r b h1
theorem xO {dst:Option Tmp} {t yt:TypeId} {X Y:Operand} {ty:TypeId} {pos:String} {af:Array Edge} {g:Option (Nat×Bool)} {sz:Nat} {cs:List C} {b1 b2:Option LB}
  (G:Kr ops σ ⟨dst,.binOp .eql t X Y yt,ty,pos,af,g⟩=some true) (hds:Fz σ false [X,Y]=some [(.sl sz cs,b1),(.val (.slice none 0 0),b2)]) (hn:∃ e,P.underlying t=some (.slice e))
  (hok:Mc Rt i true (nb + 8 * i) [] [] lg=true) (k:∀ b:Bool,(b=true->cs=[])->Chain (D9 P cx fz) ops Rt nb (idx (i + 1) l) ((i,true,nb + 8 * i,[],[]) :: lg) (σ.app dst (v0 (.val (.bool b)))) Q) :
  Chain (D9 P cx fz) ops Rt nb (idx i (⟨dst,.binOp .eql t X Y yt,ty,pos,af,g⟩ :: l)) lg σ Q:=by
 refine .inr ⟨_,[],_,⟨G,_,hds,.nilE hn,rfl⟩,hok,fun h=>⟨_,false,fun h=>(by cases h),rfl⟩,?_⟩
 rintro e ⟨b,h1,rfl⟩
 exact k b h1
theorem aAk {dst:Option Tmp} {op:Op} {ty:TypeId} {pos:String} {af:Array Edge} {g:Option (Nat×Bool)} {ds:List (DV×Option LB)} {rd wr:List Nat} {E:Ow->Prop}
  (G:Kr ops σ ⟨dst,op,ty,pos,af,g⟩=some true) (hds:Fz σ (K7 op) op.operands.toList=some ds) (hx:ExtR P cx.np (nb + 8 * i) op ty ds (Jc σ rd) wr E) (hrd:Qe σ 3 (Rm ds)=rd)
  (hok:Mc Rt i true (nb + 8 * i) rd wr lg=true) (hne:Rt.isSome=true->∃ e,E e) (k:∀ e,E e->Chain (D9 P cx fz) ops Rt nb (idx (i + 1) l) ((i,true,nb + 8 * i,rd,wr) :: lg) (σ.app dst e) Q) :
  Chain (D9 P cx fz) ops Rt nb (idx i (⟨dst,op,ty,pos,af,g⟩ :: l)) lg σ Q:=by
 subst hrd
 exact .inr ⟨_,wr,_,⟨G,_,hds,.ext hx,rfl⟩,hok,hne,k⟩
theorem aT0 {Q:Exit->St->Prop} {nb':Nat} (h:(∀ j,nb'<=j->σ.U j=false)->Q .normal σ):Chain (D9 P cx fz) ops Rt nb (idx i []) lg σ (fun σ'=>(∀ j,nb'<=j->σ'.U j=false)->Q .normal σ'):=h
theorem Ij {fl:List (Nat×DV)} {ll:List (Nat×LB)} {n:Nat}:∀ k,n<=k->(mk fl ll n).U k=false:=fun k hk=>by
 show Nat.blt k n=false
 cases h:Nat.blt k n with
 | false=>rfl
 | true=>have:k + 1<=n:=aEi h; omega
end
section
variable {P:Program} {t:TypeId} {X Y:Operand}
abbrev BO (P:Program) (op:BinOp) (t:TypeId) (X Y:Operand) (vx vy v:Value):Prop:=∀ w,(do eqGuard op t X Y vx vy; binOp op t vx vy:Sem Value).run P w=.ok v w
theorem aNg {k:IntKind} {x y:Int}:BO P .lss t X Y (.int k x) (.int k y) (.bool (decide (x < y))):=fun w=>by simp [eqGuard,binOp,Op.intCmp]
theorem aKx {k:IntKind} {x y:Int}:BO P .leq t X Y (.int k x) (.int k y) (.bool (decide (x<=y))):=fun w=>by simp [eqGuard,binOp,Op.intCmp]
theorem aLm {k:IntKind} {x y:Int}:BO P .gtr t X Y (.int k x) (.int k y) (.bool (decide (y < x))):=fun w=>by simp [eqGuard,binOp,Op.intCmp]
theorem aKd {k:IntKind} {x y:Int}:BO P .geq t X Y (.int k x) (.int k y) (.bool (decide (y<=x))):=fun w=>by simp [eqGuard,binOp,Op.intCmp]
theorem aJ5 {k:IntKind} {x y:Int}:BO P .eql t X Y (.int k x) (.int k y) (.bool (decide (x=y))):=fun w=>by
 simp [eqGuard,binOp,Op.intCmp]
 rfl
theorem aLb {k:IntKind} {x y:Int}:BO P .neq t X Y (.int k x) (.int k y) (.bool (decide (x≠y))):=fun w=>by
 simp [eqGuard,binOp,Op.intCmp]
 rfl
theorem aHc {k:IntKind} {x y:Int}:BO P .add t X Y (.int k x) (.int k y) (.int k (k.wrap (x + y))):=fun w=>by simp [eqGuard,binOp,Op.intArith]
theorem xY {k:IntKind} {x y:Int}:BO P .sub t X Y (.int k x) (.int k y) (.int k (k.wrap (x - y))):=fun w=>by simp [eqGuard,binOp,Op.intArith]
theorem yJ {k:IntKind} {x y:Int}:BO P .mul t X Y (.int k x) (.int k y) (.int k (k.wrap (x * y))):=fun w=>by simp [eqGuard,binOp,Op.intArith]
theorem aEv {k:IntKind} {x y:Int} (h:y≠0):BO P .rem t X Y (.int k x) (.int k y) (.int k (x.tmod y)):=fun w=>by simp [eqGuard,binOp,Op.intDiv,h]
theorem aK8 {k:IntKind} {x y:Int} (h:y≠0):BO P .quo t X Y (.int k x) (.int k y) (.int k (k.wrap (x.tdiv y))):=fun w=>by simp [eqGuard,binOp,Op.intDiv,h]
theorem lO (a b:ByteArray):(a.toList == b.toList)=decide (a=b):=by
 rw [ByteArray.toList_eq,ByteArray.toList_eq]
 by_cases h:a=b
 ·subst h; simp
 ·rw [aAw h]
  refine beq_eq_false_iff_ne.2 fun e=>h ?_
  cases a; cases b
  simp only [ByteArray.mk.injEq]
  exact bBi.1 e
theorem aGa {a b:ByteArray}:BO P .eql t X Y (.string a) (.string b) (.bool (decide (a=b))):=fun w=>by
 simp [eqGuard,binOp,Op.stringOp,lO]
theorem aGr {a b:ByteArray}:BO P .neq t X Y (.string a) (.string b) (.bool (decide (a≠b))):=fun w=>by
 simp [eqGuard,binOp,Op.stringOp,lO]
theorem aLy {b:Bool}:∀ w,(Op.unary .not (.bool b)).run P w=.ok (.bool (!b)) w:=fun w=>by simp [Op.unary]
theorem pK {src dst:TypeId} {k k':IntKind} {n:Int} (hs:(P.underlying src).isSome=true) (hd:P.underlying dst=some (.int k')):∀ w,(convert src dst (.int k n)).run P w=.ok (.int k' (k'.wrap n)) w:=fun w=>by
 obtain⟨d,hd'⟩:=Option.isSome_iff_exists.mp hs
 simp [convert,run_underlying hd',run_underlying hd,Conv.intToInt]
end
end Go.Proofs.YtobamahlipiakaaGreat
