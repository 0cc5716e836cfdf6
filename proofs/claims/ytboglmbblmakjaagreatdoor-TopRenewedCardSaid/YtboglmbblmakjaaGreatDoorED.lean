import Derived.Test.YtboglmbblmakjaaGreatDoorEX
import Derived.Test.YtboglmbblmakjaaGreatDoorEQ
import Derived.Laws.Cover3
import Derived.IntWalk
import Derived.Laws.StructEq
set_option linter.unusedVariables false
set_option linter.unusedSimpArgs false
namespace Go.Proofs.YtboglmbblmakjaaGreatDoor
open Go.RowKit
def Mx:List C->Prop
 | []=>True
 | .int k n :: l=>(k.min<=n/\n<=k.max)/\Mx l
 | .bool _ :: l=>Mx l
 | .str s :: l=>s.size<=maxLen/\Mx l
 | .raw _ :: l=>Mx l
 | .mp _ :: l=>Mx l
 | .ifc _ _ :: l=>Mx l
 | .ref _ _ :: l=>Mx l
 | .sl sz cs :: l=>(∃ n,cs.length=n * sz/\n<=maxLen)/\Mx cs/\Mx l
mutual
theorem Ga.ok {w:World} {S:Nat->Prop}:∀ (c:C) (v:Value),Ga w S c v->Mx [c]
 | .int k n,v,h=>by unfold Mx; unfold Ga at h; exact⟨h.2,by unfold Mx; trivial⟩
 | .bool _,_,_=>by unfold Mx; unfold Mx; trivial
 | .str s,v,h=>by unfold Mx; unfold Ga at h; exact⟨h.2,by unfold Mx; trivial⟩
 | .raw _,_,_=>by unfold Mx; unfold Mx; trivial
 | .mp _,_,_=>by unfold Mx; unfold Mx; trivial
 | .ifc _ _,_,_=>by unfold Mx; unfold Mx; trivial
 | .ref _ _,_,_=>by unfold Mx; unfold Mx; trivial
 | .sl sz cs,v,h=>by
  unfold Mx
  unfold Ga at h
  obtain⟨A,n,cap,h1,h2,h3,h4,h5⟩:=h
  refine⟨⟨n,h2,aRp h3 h4⟩,?_,by unfold Mx; trivial⟩
  rcases aLg n with h0 | h0
  ·subst h0
   have:cs=[]:=aF9 (by simpa using h2)
   subst this
   unfold Mx; trivial
  ·obtain⟨ad,-,-,h8⟩:=h5 h0
   exact Jq.ok ad cs 0 h8
theorem Jq.ok {w:World} {S:Nat->Prop} (ad:Addr):∀ (cs:List C) (i:Nat),Jq w S ad i cs->Mx cs
 | [],_,_=>by unfold Mx; trivial
 | c :: cs,i,h=>by
  unfold Jq at h
  obtain⟨⟨u,_,h1⟩,h2⟩:=h
  have a:=Ga.ok c u h1
  have b:=Jq.ok ad cs (i + 1) h2
  cases c <;> unfold Mx at a ⊢ <;> first | exact⟨a.1,b⟩ | exact b | exact⟨a.1,a.2.1,b⟩
end
theorem yA {w:World} {S:Nat->Prop}:∀ {cs:List C} {us:List Value},I1 w S cs us->Mx cs
 | [],_,_=>by unfold Mx; trivial
 | c :: cs,[],h=>by have:=h.1; simp at this
 | c :: cs,u :: us,h=>by
  have a:=Ga.ok c u (h.2 0 c u rfl rfl)
  have b:=yA (cs:=cs) (us:=us) ⟨by simpa using h.1,fun j c' u' x y=>h.2 (j + 1) c' u' (by simpa using x) (by simpa using y)⟩
  cases c <;> unfold Mx at a ⊢ <;> first | exact⟨a.1,b⟩ | exact b | exact⟨a.1,a.2.1,b⟩
mutual
def xA:DV->Prop
 | .sl sz cs=>(∃ n,cs.length=n * sz/\n<=maxLen)/\Mx cs
 | .slc sz cs=>(∃ n,cs.length=n * sz/\n<=maxLen)/\Mx cs
 | .mp _=>True
 | .imm _=>True
 | .elt cs=>Mx cs
 | .agg ds=>oW ds
 | .tup ds=>oW ds
 | .clo _ _ _=>True
 | .val _=>True
 | .row _=>True
 | .part _ _ _=>True
 | .ptr _ _=>True
def oW:List DV->Prop
 | []=>True
 | d :: ds=>xA d/\oW ds
end
def okB:LB->Prop
 | .box ds _=>oW ds
 | .row _ sz cs=>(∃ n,cs.length=n * sz/\n<=maxLen)/\Mx cs
 | .map _=>True
 | .mit ..=>True
 | .vec ds _=>oW ds
 | .lop _ ds _ _=>oW ds
mutual
theorem Dk.ok {ρ:Nat->Value} {I:Nat->Prop} {w:World}:∀ (d:DV) (v:Value),Dk ρ I w d v->xA d
 | .val _,_,_=>by unfold xA; trivial
 | .sl sz cs,v,h=>by
  unfold Dk at h
  have:=Ga.ok _ _ h
  unfold Mx at this
  unfold xA
  exact⟨this.1,this.2.1⟩
 | .mp _,_,_=>by unfold xA; trivial
 | .imm _,_,_=>by unfold xA; trivial
 | .slc sz cs,v,h=>by
  unfold Dk at h
  have:=Ga.ok _ _ h.1
  unfold Mx at this
  unfold xA
  exact⟨this.1,this.2.1⟩
 | .row _,_,_=>by unfold xA; trivial
 | .part _ _ _,_,_=>by unfold xA; trivial
 | .ptr _ _,_,_=>by unfold xA; trivial
 | .elt cs,v,h=>by
  unfold Dk at h
  obtain⟨ad,-,-,h⟩:=h
  unfold xA
  exact Jq.ok ad cs 0 h
 | .agg ds,v,h=>by
  unfold Dk at h
  obtain⟨vs,-,-,h⟩:=h
  unfold xA
  exact Cj.ok ds vs h
 | .clo _ _ _,_,_=>by unfold xA; trivial
 | .tup ds,v,h=>by
  unfold Dk at h
  obtain⟨vs,-,h⟩:=h
  unfold xA
  exact Cj.ok ds vs h
theorem Cj.ok {ρ:Nat->Value} {I:Nat->Prop} {w:World}:∀ (ds:List DV) (vs:List Value),Cj ρ I w ds vs->oW ds
 | [],_,_=>by unfold oW; trivial
 | d :: ds,vs,h=>by
  unfold Cj at h
  obtain⟨u,us,-,h1,h2⟩:=h
  unfold oW
  exact⟨Dk.ok d u h1,Cj.ok ds us h2⟩
end
theorem U2.ok {cx:Cx} {ρ:Nat->Value} {I:Nat->Prop} {w:World} {v:Value} {lb:LB} (h:U2 cx ρ I w v lb):okB lb:=by
 cases lb with
 | box ds ty=>
  obtain⟨b,vs,-,-,-,-,h5⟩:=h
  exact Cj.ok ds vs h5
 | row e sz cs=>
  obtain⟨n,us,ho,-,hr⟩:=h
  refine⟨⟨n,by rw [hr.1,ho.1],?_⟩,yA hr⟩
  rcases ho.2 with ⟨-,-,rfl⟩ | ⟨g,cap,cur,-,-,-,h2,h3,-⟩
  ·exact aLi _
  ·exact aRp h2 h3
 | map l=>trivial
 | mit k n s=>trivial
 | vec ds e=>
  obtain⟨b,vs,-,-,-,-,-,h5⟩:=h
  exact Cj.ok ds vs h5
 | lop ts ds N rc=>
  obtain⟨b,tm,-,-,-,-,h5⟩:=h
  exact Cj.ok ds _ h5
def Zd (P:Program) (f:FuncId):Prop:=∀ (vs:Array Value) (w:World),(callFunc f vs).run P w=.ok (.enter f vs) w
theorem Zd.of {P:Program} {f:FuncId} {fn:Func} (hf:P.funcs[f]?=some fn) (hn:(fn.name == "runtime.NumGoroutine")=false) (hb:fn.body.isNone=false):Zd P f:=by
 intro vs w
 simp only [callFunc,Sem.run_bind,run_program,Result.andThen_ok,hf,hn,hb,aYk,if_false,Sem.run_pure]
def ix:Nat->List LB->List (Nat×LB)
 | _,[]=>[]
 | k,x :: l=>(k,x) :: ix (k + 1) l
theorem xY:∀ {l:List LB} {k i:Nat},G1 (ix k l) (k + i)=l[i]?
 | [],k,i=>by simp [ix,G1]
 | x :: l,k,0=>by simp [ix,G1]
 | x :: l,k,i + 1=>by
  unfold ix G1
  have:Nat.beq (k + (i + 1)) k=false:=by
   cases h:Nat.beq (k + (i + 1)) k with
   | false=>rfl
   | true=>have:=aFs h; omega
  rw [this]
  simp only [aE8]
  rw [show k + (i + 1)=(k + 1) + i by omega,xY]
  simp
theorem aFo {l:List LB} {k:Nat} {lb:LB}:G1 (ix 0 l) k=some lb↔l[k]?=some lb:=by
 have:=xY (l:=l) (k:=0) (i:=k)
 rw [aNm] at this
 rw [this]
structure lT (ρ:Nat->Value) (I:Nat->Prop) (w:World) (np nq:Nat) (v:Value) (r:DV) (bx:List LB) (w':World):Prop where
 le:np<=bx.length/\bx.length<=np + 8
 os:w'.os=w.os/\w'.tape=w.tape/\w'.output=w.output/\w.heap.size<=w'.heap.size
 kept:∀ b,b < w.heap.size->(∀ k,k < nq->Dg (ρ k)≠some b)->w'.heap[b]?=w.heap[b]?
 data:∃ (ρ':Nat->Value) (J:Nat->Prop),(∀ k,k < np->ρ' k=ρ k)/\(∀ b,J b->b < w'.heap.size/\(b < w.heap.size->I b\/∃ k,np<=k/\k < nq/\Dg (ρ k)=some b)/\∀ k,k < bx.length->Dg (ρ' k)≠some b)/\Dk ρ' J w' r v/\
  (∀ (k:Nat) (lb:LB),bx[k]?=some lb->U2 ⟨w,I,ρ,np,nq,0,none⟩ ρ' J w' (ρ' k) lb)/\(∀ k b,np<=k->k < bx.length->Dg (ρ' k)=some b->w.heap.size<=b\/∃ k,np<=k/\k < nq/\Dg (ρ k)=some b)/\
  (∀ k k' b,k < bx.length->k' < bx.length->Dg (ρ' k)=some b->Dg (ρ' k')=some b->k=k')
 men:(∀ k,Go.Proofs.YtboglmbblmakjaaGreatDoor.men r k->k < bx.length)/\∀ (k:Nat) (lb:LB),bx[k]?=some lb->∀ k',Wt lb k'->k' < bx.length
def HI (ρ:Nat->Value) (I:Nat->Prop) (w:World) (n:Nat):Prop:=(∀ b,I b->b < w.heap.size/\∀ k,k < n->Dg (ρ k)≠some b)/\uK I w
def jS (ρ:Nat->Value) (I:Nat->Prop) (w:World) (v:Value):LB->Prop
 | .box ds ty=>∃ b vs,v=.pointer (some ⟨b,0,none⟩)/\w.heap[b]?=some (.cells vs.toArray ty)/\(∀ u∈vs,u.oneCell'=true)/\Cj ρ I w ds vs
 | .row e sz cs=>∃ n us,w.rowOk e sz v n us/\I1 w I cs us
 | .map l=>∃ g,v=.map (some g)/\Za w g l
 | .lop ts ds N rc=>∃ b tm,v=.pointer (some ⟨b,0,none⟩)/\w.heap[b]?=some (.loop { rc with tmps:=tm })/\tm.size=N/\Cj ρ I w ds (ts.map fun t=>tm.getD t undef)
 | _=>False
def Fn (P:Program) (f:FuncId) (np:Nat) (args:List DV) (bx:List LB) (R:DV->List LB->Prop):Prop:=
 np<=bx.length/\Zd P f/\∀ (ρ:Nat->Value) (I:Nat->Prop) (w:World) (vs:List Value),
  HI ρ I w bx.length->Cj ρ I w args vs->(∀ k lb,bx[k]?=some lb->jS ρ I w (ρ k) lb)->
  (∀ k k' b,k < bx.length->k' < bx.length->Dg (ρ k)=some b->Dg (ρ k')=some b->k=k')->
  Calls P f vs.toArray w fun e w'=>∃ v r bx',e=.returned v/\R r bx'/\lT ρ I w np bx.length v r bx' w'
theorem Fn.mono {P:Program} {f np:Nat} {args:List DV} {bx:List LB} {R R':DV->List LB->Prop} (h:Fn P f np args bx R) (hr:∀ r b,R r b->R' r b):Fn P f np args bx R':=
 ⟨h.1,h.2.1,fun ρ I w vs a b c d=>(h.2.2 ρ I w vs a b c d).mono (by rintro e w' ⟨v,r,bx',h1,h2,h3⟩; exact⟨v,r,bx',h1,hr r bx' h2,h3⟩)⟩
inductive aAe (P:Program) (σ:St):ResultVar->DV->Prop
 | tmp {t d} (h:σ.F t=some d):aAe P σ (.tmp t) d
 | cell1 {t ty k ds bt sz d} (h:σ.F t=some (.ptr k 0)) (hl:σ.L k=some (.box ds bt)) (ht:Ty P ty false sz) (hd:ds[0]?=some d):aAe P σ (.cell t ty) d
 | cellA {t ty k ds bt sz} (h:σ.F t=some (.ptr k 0)) (hl:σ.L k=some (.box ds bt)) (ht:Ty P ty true sz) (hs:ds.length=sz):aAe P σ (.cell t ty) (.agg ds)
inductive Wc (P:Program) (σ:St):List ResultVar->List DV->Prop
 | nil:Wc P σ [] []
 | cons {x d l ds} (h:aAe P σ x d) (hs:Wc P σ l ds):Wc P σ (x :: l) (d :: ds)
def aFb:List DV->DV
 | [d]=>d
 | ds=>.tup ds
def lU:Nat->List DV->List (Nat×DV)
 | _,[]=>[]
 | k,d :: l=>(k,d) :: lU (k + 1) l
section
variable {P:Program} {cx:Cx} {ρ:Nat->Value} {σ:St} {a:Act} {w:World}
theorem aAe.run (ha:Fg cx ρ σ a w) {x:ResultVar} {d:DV} (h:aAe P σ x d):∃ v,(match x with | .tmp t=>(pure (a.tmps.getD t undef):Sem Value) | .cell b t=>do loadVar t (<- asAddr (a.tmps.getD b undef))).run P w=.ok v w/\Dk ρ (O1 cx σ ρ w) w d v/\∀ k,men d k->σ.U k=true:=by
 cases h with
 | tmp h=>exact⟨_,rfl,ha.fr _ _ h,fun k hk=>ha.usedF _ _ k h hk⟩
 | cell1 h hl ht hd=>
  have h1:=ha.fr _ _ h
  unfold Dk at h1
  obtain⟨g,G,hv⟩:=h1
  obtain⟨g',vs,q1,q2,-,q4,q5⟩:=ha.lo _ _ hl
  rw [q1] at G
  injection G with G
  subst G
  obtain⟨v,hv',hd'⟩:=q5.at_ hd
  have hc:w.cell? ⟨g',0,none⟩=some v:=by simp [World.cell?,q2,hv']
  refine⟨v,?_,hd',fun k hk=>(ha.usedL _ _ hl).2 k (by unfold Wt; exact Pq.menL_at hd hk)⟩
  have:=X7 (w:=w) ht hc
  simp only [Instr.loadAt,Instr.sureAddr,Sem.run_bind,Sem.run_pure,Result.andThen_ok] at this
  simp only [hv,asAddr,Sem.run_bind,Sem.run_pure,Result.andThen_ok,this]
 | @cellA t ty k ds bt sz h hl ht hs=>
  have h1:=ha.fr _ _ h
  unfold Dk at h1
  obtain⟨g,G,hv⟩:=h1
  obtain⟨g',vs,q1,q2,-,q4,q5⟩:=ha.lo _ _ hl
  rw [q1] at G
  injection G with G
  subst G
  refine⟨.agg vs.toArray,?_,by unfold Dk; exact⟨vs,rfl,q4,q5⟩,fun k hk=>(ha.usedL _ _ hl).2 k (by unfold Wt; unfold men at hk; exact hk)⟩
  have:=X9 (w:=w) ht (ad:=⟨g',0,none⟩) (vs:=vs) (by rw [<- q5.length]; exact hs) (fun j v hj=>by rw [Tl,aNm]; simp [World.cell?,q2,hj])
  simp only [Instr.loadAt,Instr.sureAddr,Sem.run_bind,Sem.run_pure,Result.andThen_ok] at this
  simp only [hv,asAddr,Sem.run_bind,Sem.run_pure,Result.andThen_ok,this]
end
end Go.Proofs.YtboglmbblmakjaaGreatDoor
namespace Go.Proofs.YtboglmbblmakjaaGreatDoor
open Go.RowKit
section
variable {P:Program} {cx:Cx} {ρ:Nat->Value} {σ:St} {a:Act} {w:World}
def rv (a:Act):ResultVar->Sem Value
 | .tmp t=>pure (a.tmps.getD t undef)
 | .cell b t=>do loadVar t (<- asAddr (a.tmps.getD b undef))
theorem vX (fn:Func) (a:Act):results fn a.tmps=(do let vs <- fn.results.mapM (rv a); pure (if h:vs.size=1 then vs[0] else .tuple vs)):=by
 unfold results
 congr 1
theorem Wc.run (ha:Fg cx ρ σ a w):∀ {l:List ResultVar} {ds:List DV},Wc P σ l ds->∃ vs:List Value,(l.mapM (rv a)).run P w=.ok vs w/\Cj ρ (O1 cx σ ρ w) w ds vs/\∀ k,G9 ds k->σ.U k=true
 | _,_,.nil=>⟨[],by simp,by simp [Cj],fun k hk=>by unfold G9 at hk; exact hk.elim⟩
 | _,_,.cons (x:=x) h hs=>by
  obtain⟨v,h1,h2,h3⟩:=h.run ha
  obtain⟨vs,k1,k2,k3⟩:=hs.run ha
  refine⟨v :: vs,?_,by unfold Cj; exact⟨v,vs,rfl,h2,k2⟩,fun k hk=>?_⟩
  ·have h1':(rv a x).run P w=.ok v w:=by cases x <;> exact h1
   rw [List.mapM_cons]
   simp only [Sem.run_bind,h1',Result.andThen_ok,k1,Sem.run_pure]
  ·unfold G9 at hk
   rcases hk with hk | hk
   ·exact h3 k hk
   ·exact k3 k hk
theorem rS (ha:Fg cx ρ σ a w) {fn:Func} {ds:List DV} (h:Wc P σ fn.results.toList ds):∃ v,(results fn a.tmps).run P w=.ok v w/\Dk ρ (O1 cx σ ρ w) w (aFb ds) v:=by
 obtain⟨vs,h1,h2,h3⟩:=h.run ha
 have hm:(fn.results.mapM (rv a)).run P w=.ok vs.toArray w:=by
  rw [Array.mapM_eq_mapM_toList,Sem.run_map,h1]
  rfl
 have hr:∀ v,v=(if h:vs.toArray.size=1 then vs.toArray[0] else .tuple vs.toArray)->(results fn a.tmps).run P w=.ok v w:=fun v hv=>by
  rw [vX,Sem.run_bind,hm]
  simp only [Result.andThen_ok,Sem.run_pure]
  rw [hv]
 have hlen:=h2.length
 match ds,vs,h2,hlen,hr with
 | [d],[v],h2,_,hr=>
  unfold Cj at h2
  obtain⟨u,us,e1,e2,-⟩:=h2
  injection e1 with e1 _
  subst e1
  exact⟨v,hr v (by simp),e2⟩
 | [],[],h2,_,hr=>exact⟨.tuple #[],hr _ (by simp),by unfold aFb Dk; exact⟨[],rfl,h2⟩⟩
 | d :: d2 :: ds,v :: v2 :: vs,h2,_,hr=>exact⟨.tuple (v :: v2 :: vs).toArray,hr _ (by simp),by unfold aFb Dk; exact⟨_,rfl,h2⟩⟩
def Fin (P:Program) (fn:Func) (np:Nat) (R:DV->List LB->Prop) (σ:St):Prop:=
 ∃ ds r bx θ,Wc P σ fn.results.toList ds/\R r bx/\Cv σ (G1 θ) (aFb ds) r/\oN σ (G1 θ) (ix 0 bx)/\oG [(0,r)] (ix 0 bx) bx.length θ=true/\lJ θ bx.length np=true/\Nat.ble np bx.length=true/\Nat.ble bx.length (np + 8)=true
def aJ7 (P:Program) (fn:Func) (np:Nat) (R:DV->List LB->Prop):Exit->St->Prop
 | .ret,σ=>Fin P fn np R σ
 | .normal,σ=>Fin P fn np R σ
 | _,_=>False
theorem yL {w0:World} {I:Nat->Prop} {ρ0:Nat->Value} {np nq N:Nat} {rr:Option Nat} {d r:DV} {v:Value} {bx:List LB} {θ:List (Nat×Nat)} (ha:Fg ⟨w0,I,ρ0,np,nq,N,rr⟩ ρ σ a w) (hq:np<=nq) (hr:Dk ρ (O1 ⟨w0,I,ρ0,np,nq,N,rr⟩ σ ρ w) w d v)
  (h3:Cv σ (G1 θ) d r) (h4:oN σ (G1 θ) (ix 0 bx)) (h5:oG [(0,r)] (ix 0 bx) bx.length θ=true) (h6:lJ θ bx.length np=true) (h7:Nat.ble np bx.length=true) (h8:Nat.ble bx.length (np + 8)=true):lT ρ0 I w0 np nq v r bx w:=by
 have hle:np<=bx.length/\bx.length<=np + 8:=⟨aC1 h7,aC1 h8⟩
 simp only [oG,aF5,aGo] at h5
 obtain⟨⟨c1,c2⟩,c3⟩:=h5
 obtain⟨hA,hC⟩:=ha.ren (σ':=mk [] (ix 0 bx) bx.length) (G1 θ) (fun t d' hd=>by simp [mk,G1] at hd) (fun k lb hl=>kC h4 _ (Jn hl)) (fun k k' j x y=>vE c3 (Jn x) (Jn y)) (fun k hk=>dY h6 k hk)
  (fun t d k hd hm=>by simp [mk,G1] at hd) (fun k lb hl=>by
   have:=c2 _ (Jn hl)
   exact⟨this.1,fun k' hk'=>gS this.2 k' hk'⟩)
 have hL:∀ k lb,(mk [] (ix 0 bx) bx.length).L k=some lb↔bx[k]?=some lb:=fun k lb=>aFo
 have live:∀ k,k < bx.length->∃ lb,(mk [] (ix 0 bx) bx.length).L k=some lb:=fun k hk=>⟨bx[k],(hL k _).2 (aBb hk)⟩
 obtain⟨k1,k2,k3,k4,k5⟩:=ha.kept
 refine⟨hle,⟨k1,k2,k3,k4⟩,fun b hb hn=>k5 b hb ?_,⟨bN (G1 θ) ρ,O1 ⟨w0,I,ρ0,np,nq,N,rr⟩ (mk [] (ix 0 bx) bx.length) (bN (G1 θ) ρ) w,fun k hk=>(hA.pin k hk).1,fun b hb=>⟨hb.1,hb.2.2,fun k hk hbk=>?_⟩,hC _ _ _ h3 hr,fun k lb hlb=>?_,fun k b hk1 hk2 hb=>?_,fun k k' b hk hk' e1 e2=>?_⟩,⟨fun k hk=>?_,fun k lb hlb k' hk'=>?_⟩⟩
 ·rintro⟨k,hk,hb'⟩
  exact hn k hk hb'
 ·obtain⟨lb,hlb⟩:=live k hk
  exact hb.2.1 ⟨k,lb,hlb,hbk⟩
 ·have:=hA.lo k lb ((hL k lb).2 hlb)
  cases lb <;> exact this
 ·obtain⟨lb,hlb⟩:=live k hk2
  exact hA.fresh k lb b hlb hk1 hb
 ·obtain⟨lb,hlb⟩:=live k hk
  obtain⟨lb',hlb'⟩:=live k' hk'
  exact hA.sep k k' lb lb' b hlb hlb' e1 e2
 ·have:=nO (c1 _ (aF2.2 rfl)) k hk
  exact aC1 this
 ·have:=gS (c2 _ (Jn ((hL k lb).2 hlb))).2 k' hk'
  exact aC1 this
theorem Fin.out {w0:World} {I:Nat->Prop} {ρ0:Nat->Value} {np nq N:Nat} {fn:Func} {R:DV->List LB->Prop} (h:Fin P fn np R σ) (hq:np<=nq) (ha:Fg ⟨w0,I,ρ0,np,nq,N,none⟩ ρ σ a w) :
  ∃ v,(results fn a.tmps).run P w=.ok v w/\∃ r bx,R r bx/\lT ρ0 I w0 np nq v r bx w:=by
 obtain⟨ds,r,bx,θ,h1,h2,h3,h4,h5,h6,h7,h8⟩:=h
 obtain⟨v,hv,hr⟩:=rS (P:=P) ha h1
 exact⟨v,hv,r,bx,h2,yL ha hq hr h3 h4 h5 h6 h7 h8⟩
theorem sR:∀ {l:List DV} {k i:Nat},G1 (lU k l) (k + i)=l[i]?
 | [],k,i=>by simp [lU,G1]
 | x :: l,k,0=>by simp [lU,G1]
 | x :: l,k,i + 1=>by
  unfold lU G1
  have:Nat.beq (k + (i + 1)) k=false:=by
   cases h:Nat.beq (k + (i + 1)) k with
   | false=>rfl
   | true=>have:=aFs h; omega
  rw [this]
  simp only [aE8]
  rw [show k + (i + 1)=(k + 1) + i by omega,sR]
  simp
theorem Fin.leaves {w0:World} {I:Nat->Prop} {ρ0:Nat->Value} {np nq N:Nat} {fn:Func} {R:DV->List LB->Prop} {σ:St} {ρ:Nat->Value} (h:Fin P fn np R σ) (hq:np<=nq):∀ {w:World} {a:Act} (ds:List Deferred),Fg ⟨w0,I,ρ0,np,nq,N,none⟩ ρ σ a w->a.defers=ds->
  LeavesInM (FW none) 0 P fn a.tmps (fun e w'=>∃ v r bx',e=.returned v/\R r bx'/\lT ρ0 I w0 np nq v r bx' w') ds .returning w
 | w,a,[],ha,_=>by
  obtain⟨v,hv,r,bx',h1,h2⟩:=Fin.out h hq ha
  exact⟨v,hv,v,r,bx',rfl,h1,h2⟩
 | w,a,d :: ds,ha,hd=>by
  obtain⟨D,rfl,h1,h2⟩:=ha.close hd
  exact⟨by simp,.inl ⟨D,_,rfl,run_takeDeferred h1,Fin.leaves h hq (a:={ a with defers:=ds }) ds h2 rfl⟩⟩
theorem sV {np N:Nat} {rr:Option Nat} {fl:List (Nat×DV)} {bx:List LB} {ρ:Nat->Value} {I:Nat->Prop} {w:World} {tm:Array Value} (c2:∀ lb∈bx,ltB bx.length lb=true) (c4:np<=bx.length) (hN:tm.size=N)
  (hI:HI ρ I w bx.length) (hfr:∀ t d,G1 fl t=some d->Dk ρ I w d (tm.getD t undef)/\∀ k,men d k->Nat.blt k bx.length=true) (hbx:∀ k lb,bx[k]?=some lb->jS ρ I w (ρ k) lb)
  (hsep:∀ k k' b,k < bx.length->k' < bx.length->Dg (ρ k)=some b->Dg (ρ k')=some b->k=k'):Fg ⟨w,I,ρ,np,bx.length,N,rr⟩ ρ (mk fl (ix 0 bx) bx.length) { tmps:=tm,defers:=[] } w:=by
 have hmk:∀ k lb,(mk fl (ix 0 bx) bx.length).L k=some lb↔bx[k]?=some lb:=fun k lb=>aFo
 have hbl:∀ k lb,bx[k]?=some lb->k < bx.length:=fun k lb h=>(aBe.1 h).1
 have himm:∀ b,I b->O1 ⟨w,I,ρ,np,bx.length,N,rr⟩ (mk fl (ix 0 bx) bx.length) ρ w b:=fun b hb=>⟨(hI.1 b hb).1,by
  rintro⟨k,lb,h1,h2⟩
  exact (hI.1 b hb).2 k (hbl k lb ((hmk k lb).1 h1)) h2,fun _=>.inl hb⟩
 refine⟨⟨.nil,fun d hd=>by cases hd⟩,hN,⟨rfl,rfl,rfl,aKp _,fun _ _ _=>rfl⟩,fun t d hd=>?_,fun k lb hl=>?_,fun k k' lb lb' b h1 h2 h3 h4=>hsep k k' b (hbl k lb ((hmk k lb).1 h1)) (hbl k' lb' ((hmk k' lb').1 h2)) h3 h4,fun t d k hd hm=>(hfr t d hd).2 k hm,fun k lb hl=>?_,fun k hk=>⟨rfl,aUg (aUp hk c4)⟩,fun k lb b hl=>?_,hI.2,fun b hb=>⟨(hI.1 b hb).1,fun ⟨k,q1,q2⟩=>(hI.1 b hb).2 k q1 q2⟩⟩
 ·exact Dk.step (fun b hb=>⟨himm b hb,rfl⟩) d _ (fun _ _=>rfl) (hfr t d hd).1
 ·have hlb:=(hmk k lb).1 hl
  have hB:=hbx k lb hlb
  cases lb with
  | box ds ty=>
   obtain⟨b,us,q1,q2,q3,q4⟩:=hB
   exact⟨b,us,q1,q2,.inr ⟨k,hbl k _ hlb,by show Dg (ρ k)=some b; rw [q1]; rfl⟩,q3,Cj.step (fun b hb=>⟨himm b hb,rfl⟩) ds us (fun _ _=>rfl) q4⟩
  | row e sz cs=>
   obtain⟨n,us,q1,q2⟩:=hB
   exact⟨n,us,q1,fun b hb=>.inr ⟨k,hbl k _ hlb,hb⟩,q2.keep_ (fun _ _=>rfl) fun b hb=>himm b hb⟩
  | map l=>
   obtain⟨g,rfl_,q2⟩:=hB
   exact⟨g,rfl_,q2,.inr ⟨k,hbl k _ hlb,by show Dg (ρ k)=some g; rw [rfl_]; rfl⟩⟩
  | mit k n s=>exact hB.elim
  | vec ds e=>exact hB.elim
  | lop ts ds N rc=>
   obtain⟨b,tm,q1,q2,q3,q4⟩:=hB
   exact⟨b,tm,q1,q2,.inr ⟨k,hbl k _ hlb,by show Dg (ρ k)=some b; rw [q1]; rfl⟩,q3,Cj.step (fun b hb=>⟨himm b hb,rfl⟩) ds _ (fun _ _=>rfl) q4⟩
 ·have hlb:=(hmk k lb).1 hl
  exact⟨aUg (hbl k lb hlb),fun k' hk'=>gS (c2 lb (aIm hlb)) k' hk'⟩
 ·intro h1 h2
  exact .inr ⟨k,h1,hbl k lb ((hmk k lb).1 hl),h2⟩
theorem aE9 {f np:Nat} {fn:Func} {c:Code} {args:List DV} {bx:List LB} {R:DV->List LB->Prop} (hf:P.funcs[f]?=some fn) (hb:fn.body=some c)
  (hchk:(Xz bx.length args && (bx.all (ltB bx.length) && Nat.ble args.length fn.ntmps && Nat.ble np bx.length))=true) {ρ:Nat->Value} {I:Nat->Prop} {w:World} {vs:List Value}
  (hI:HI ρ I w bx.length) (hargs:Cj ρ I w args vs) (hbx:∀ k lb,bx[k]?=some lb->jS ρ I w (ρ k) lb)
  (hsep:∀ k k' b,k < bx.length->k' < bx.length->Dg (ρ k)=some b->Dg (ρ k')=some b->k=k') (h:Kb P ⟨w,I,ρ,np,bx.length,fn.ntmps,none⟩ c (aJ7 P fn np R) (mk (lU 0 args) (ix 0 bx) bx.length)) :
  Calls P f vs.toArray w fun e w'=>∃ v r bx',e=.returned v/\R r bx'/\lT ρ I w np bx.length v r bx' w':=by
 simp only [aF5,aGo] at hchk
 obtain⟨c1,⟨c2,c3⟩,c4⟩:=hchk
 have c4:=aC1 c4
 have hlen:=hargs.length
 have hN:args.length<=fn.ntmps:=aC1 c3
 have hA:Fg ⟨w,I,ρ,np,bx.length,fn.ntmps,none⟩ ρ (mk (lU 0 args) (ix 0 bx) bx.length) { tmps:=vs.toArray ++ Array.replicate (fn.ntmps - vs.toArray.size) undef,defers:=[] } w:=by
  refine sV c2 c4 (by simp; omega) hI (fun t d hd=>?_) hbx hsep
  have hd':args[t]?=some d:=by
   have:=sR (l:=args) (k:=0) (i:=t)
   rw [aNm] at this
   rw [<- this]
   exact hd
  obtain⟨v,hv,hr⟩:=hargs.at_ hd'
  have e1:(vs.toArray ++ Array.replicate (fn.ntmps - vs.toArray.size) undef).getD t undef=v:=by
   have hlt:=(aBe.1 hv).1
   simp [Array.getElem?_append,hlt]
   simpa [hlt] using hv
  rw [e1]
  exact⟨hr,fun k hm=>O3 c1 k (Pq.menL_at hd' hm)⟩
 refine Zy.1 (callsIn_of_wp_marks (F:=FW none) (n:=0) hf hb trivial (Code.wpIn_mono ?_ (h 0 _ w ⟨ρ,hA⟩)) rfl)
 rintro e a' w' ⟨σ',hq,⟨ρ',hA'⟩⟩
 cases e with
 | normal=>exact Fin.leaves hq c4 _ hA' rfl
 | ret=>exact Fin.leaves hq c4 _ hA' rfl
 | _=>exact hq.elim
theorem Fn.of {f np:Nat} {fn:Func} {c:Code} {args:List DV} {bx:List LB} {R:DV->List LB->Prop} (hf:P.funcs[f]?=some fn) (hb:fn.body=some c) (hn:(fn.name == "runtime.NumGoroutine")=false)
  (hchk:(Xz bx.length args && (bx.all (ltB bx.length) && Nat.ble args.length fn.ntmps && Nat.ble np bx.length))=true) (h:∀ w0 I ρ0,Kb P ⟨w0,I,ρ0,np,bx.length,fn.ntmps,none⟩ c (aJ7 P fn np R) (mk (lU 0 args) (ix 0 bx) bx.length)):Fn P f np args bx R:=by
 refine⟨?_,Zd.of hf hn (by rw [hb]; rfl),fun ρ I w vs hI hargs hbx hsep=>aE9 hf hb hchk hI hargs hbx hsep (h w I ρ)⟩
 simp only [aF5,aGo] at hchk
 exact aC1 hchk.2.2
end
end Go.Proofs.YtboglmbblmakjaaGreatDoor
namespace Go.Proofs.YtboglmbblmakjaaGreatDoor
open Go.RowKit
mutual
def O4 (f:Nat->Nat):DV->DV
 | .row k=>.row (f k)
 | .part k o n=>.part (f k) o n
 | .ptr k i=>.ptr (f k) i
 | .agg ds=>.agg (Q8 f ds)
 | .tup ds=>.tup (Q8 f ds)
 | .clo g n ds=>.clo g n (Q8 f ds)
 | .val v=>.val v
 | .sl sz cs=>.sl sz cs
 | .slc sz cs=>.slc sz cs
 | .mp l=>.mp l
 | .imm c=>.imm c
 | .elt cs=>.elt cs
def Q8 (f:Nat->Nat):List DV->List DV
 | []=>[]
 | d :: ds=>O4 f d :: Q8 f ds
end
def aAo (f:Nat->Nat):LB->LB
 | .box ds ty=>.box (Q8 f ds) ty
 | .row e sz cs=>.row e sz cs
 | .map l=>.map l
 | .mit k n s=>.mit (f k) n s
 | .vec ds e=>.vec (Q8 f ds) e
 | .lop ts ds N rc=>.lop ts (Q8 f ds) N rc
mutual
def Kl:DV->Prop
 | .sl _ _=>False
 | .slc _ _=>False
 | .mp _=>False
 | .imm _=>False
 | .elt _=>False
 | .agg ds=>Nm ds
 | .tup ds=>Nm ds
 | .clo _ _ ds=>Nm ds
 | .val _=>True
 | .row _=>True
 | .part _ _ _=>True
 | .ptr _ _=>True
def Nm:List DV->Prop
 | []=>True
 | d :: ds=>Kl d/\Nm ds
end
def Pr:LB->Prop
 | .box ds _=>Nm ds
 | .row _ _ cs=>∀ c∈cs,xN c=true
 | .map _=>True
 | .mit ..=>True
 | .vec ds _=>Nm ds
 | .lop _ ds _ _=>Nm ds
section
variable {ρ ρ':Nat->Value} {I I':Nat->Prop} {w:World} {f:Nat->Nat}
mutual
theorem Dk.map (hI:∀ b,I b->I' b):∀ (d:DV) (v:Value),(∀ k,men d k->ρ' (f k)=ρ k)->Dk ρ I w d v->Dk ρ' I' w (O4 f d) v
 | .val _,_,_,h=>by unfold O4 Dk; unfold Dk at h; exact h
 | .sl _ _,_,_,h=>by unfold O4 Dk; unfold Dk at h; exact Ga.mono h hI
 | .slc _ _,_,_,h=>by unfold O4 Dk; unfold Dk at h; exact⟨Ga.mono h.1 hI,h.2⟩
 | .mp _,_,_,h=>by unfold O4 Dk; unfold Dk at h; exact Ga.mono h hI
 | .imm _,_,_,h=>by unfold O4 Dk; unfold Dk at h; exact Ga.mono h hI
 | .row k,_,hm,h=>by
  unfold O4 Dk; unfold Dk at h
  rw [hm k (by unfold men; rfl)]
  exact h
 | .part k _ _,_,hm,h=>by
  unfold O4 Dk; unfold Dk at h
  rw [hm k (by unfold men; rfl)]
  exact h
 | .ptr k _,_,hm,h=>by
  unfold O4 Dk; unfold Dk at h
  rw [hm k (by unfold men; rfl)]
  exact h
 | .elt _,_,_,h=>by
  unfold O4 Dk; unfold Dk at h
  obtain⟨ad,h1,h2,h3⟩:=h
  exact⟨ad,h1,hI _ h2,Jq.keep_ (fun _ _=>rfl) hI ad h2 _ 0 h3⟩
 | .agg ds,_,hm,h=>by
  unfold O4 Dk; unfold Dk at h
  obtain⟨vs,h1,h2,h3⟩:=h
  exact⟨vs,h1,h2,Cj.map hI ds vs (fun k hk=>hm k (by unfold men; exact hk)) h3⟩
 | .tup ds,_,hm,h=>by
  unfold O4 Dk; unfold Dk at h
  obtain⟨vs,h1,h3⟩:=h
  exact⟨vs,h1,Cj.map hI ds vs (fun k hk=>hm k (by unfold men; exact hk)) h3⟩
 | .clo _ _ ds,_,hm,h=>by
  unfold O4 Dk; unfold Dk at h
  obtain⟨vs,h1,h3⟩:=h
  exact⟨vs,h1,Cj.map hI ds vs (fun k hk=>hm k (by unfold men; exact hk)) h3⟩
theorem Cj.map (hI:∀ b,I b->I' b):∀ (ds:List DV) (vs:List Value),(∀ k,G9 ds k->ρ' (f k)=ρ k)->Cj ρ I w ds vs->Cj ρ' I' w (Q8 f ds) vs
 | [],_,_,h=>by unfold Q8 Cj; unfold Cj at h; exact h
 | d :: ds,_,hm,h=>by
  unfold Q8 Cj; unfold Cj at h
  obtain⟨u,us,h1,h2,h3⟩:=h
  exact⟨u,us,h1,Dk.map hI d u (fun k hk=>hm k (by unfold G9; exact .inl hk)) h2,Cj.map hI ds us (fun k hk=>hm k (by unfold G9; exact .inr hk)) h3⟩
end
mutual
theorem Dk.flat:∀ (d:DV) (v:Value),Kl d->Dk ρ I w d v->Dk ρ I' w d v
 | .val _,_,_,h=>by unfold Dk at *; exact h
 | .sl _ _,_,hf,_=>by unfold Kl at hf; exact hf.elim
 | .slc _ _,_,hf,_=>by unfold Kl at hf; exact hf.elim
 | .mp _,_,hf,_=>by unfold Kl at hf; exact hf.elim
 | .imm _,_,hf,_=>by unfold Kl at hf; exact hf.elim
 | .row k,_,_,h=>by unfold Dk at *; exact h
 | .part k _ _,_,_,h=>by unfold Dk at *; exact h
 | .ptr k _,_,_,h=>by unfold Dk at *; exact h
 | .elt _,_,hf,_=>by unfold Kl at hf; exact hf.elim
 | .agg ds,_,hf,h=>by
  unfold Dk at *
  obtain⟨vs,h1,h2,h3⟩:=h
  exact⟨vs,h1,h2,Cj.flat ds vs (by unfold Kl at hf; exact hf) h3⟩
 | .tup ds,_,hf,h=>by
  unfold Dk at *
  obtain⟨vs,h1,h3⟩:=h
  exact⟨vs,h1,Cj.flat ds vs (by unfold Kl at hf; exact hf) h3⟩
 | .clo _ _ ds,_,hf,h=>by
  unfold Dk at *
  obtain⟨vs,h1,h3⟩:=h
  exact⟨vs,h1,Cj.flat ds vs (by unfold Kl at hf; exact hf) h3⟩
theorem Cj.flat:∀ (ds:List DV) (vs:List Value),Nm ds->Cj ρ I w ds vs->Cj ρ I' w ds vs
 | [],_,_,h=>by unfold Cj at *; exact h
 | d :: ds,_,hf,h=>by
  unfold Cj at *
  unfold Nm at hf
  obtain⟨u,us,h1,h2,h3⟩:=h
  exact⟨u,us,h1,Dk.flat d u hf.1 h2,Cj.flat ds us hf.2 h3⟩
end
mutual
theorem yK:∀ (d:DV) (k:Nat),men (O4 f d) k->∃ j,men d j/\k=f j
 | .val _,k,h=>by unfold O4 men at h; exact h.elim
 | .sl _ _,k,h=>by unfold O4 men at h; exact h.elim
 | .slc _ _,k,h=>by unfold O4 men at h; exact h.elim
 | .mp _,k,h=>by unfold O4 men at h; exact h.elim
 | .imm _,k,h=>by unfold O4 men at h; exact h.elim
 | .row j,k,h=>by unfold O4 men at h; exact⟨j,by unfold men; rfl,h⟩
 | .part j _ _,k,h=>by unfold O4 men at h; exact⟨j,by unfold men; rfl,h⟩
 | .ptr j _,k,h=>by unfold O4 men at h; exact⟨j,by unfold men; rfl,h⟩
 | .elt _,k,h=>by unfold O4 men at h; exact h.elim
 | .agg ds,k,h=>by
  unfold O4 men at h
  obtain⟨j,h1,h2⟩:=Tr ds k h
  exact⟨j,by unfold men; exact h1,h2⟩
 | .tup ds,k,h=>by
  unfold O4 men at h
  obtain⟨j,h1,h2⟩:=Tr ds k h
  exact⟨j,by unfold men; exact h1,h2⟩
 | .clo _ _ ds,k,h=>by
  unfold O4 men at h
  obtain⟨j,h1,h2⟩:=Tr ds k h
  exact⟨j,by unfold men; exact h1,h2⟩
theorem Tr:∀ (ds:List DV) (k:Nat),G9 (Q8 f ds) k->∃ j,G9 ds j/\k=f j
 | [],k,h=>by unfold Q8 G9 at h; exact h.elim
 | d :: ds,k,h=>by
  unfold Q8 G9 at h
  rcases h with h | h
  ·obtain⟨j,h1,h2⟩:=yK d k h
   exact⟨j,by unfold G9; exact .inl h1,h2⟩
  ·obtain⟨j,h1,h2⟩:=Tr ds k h
   exact⟨j,by unfold G9; exact .inr h1,h2⟩
end
end
mutual
inductive Ag (fl:Bool) (ps:List Nat) (env:qK):DV->DV->Prop
 | fn {f}:Ag fl ps env (.val (.func (.func f) #[] #[])) (.clo f 0 [])
 | val {v}:Ag fl ps env (.val v) (.val v)
 | sl {sz cs}:Ag fl ps env (.sl sz cs) (.sl sz cs)
 | mp {l}:Ag fl ps env (.mp l) (.mp l)
 | imm {c}:Ag fl ps env (.imm c) (.imm c)
 | nils {sz}:Ag fl ps env (.val (.slice none 0 0)) (.sl sz [])
 | elt {cs}:Ag fl ps env (.elt cs) (.elt cs)
 | ptr {j k i} (h:ps[k]?=some j):Ag fl ps env (.ptr j i) (.ptr k i)
 | rowK {j k} (h:ps[k]?=some j):Ag fl ps env (.row j) (.row k)
 | row {j e sz cs} (h:fl=true) (hL:(j,some (.row e sz cs))∈env) (hj:ps.all (fun i=>!Nat.beq i j)=true):Ag fl ps env (.row j) (.sl sz cs)
 | part {j off n e sz cs} (h:fl=true) (hL:(j,some (.row e sz cs))∈env) (hj:ps.all (fun i=>!Nat.beq i j)=true) (hn:off + n * sz<=cs.length):Ag fl ps env (.part j off n) (.sl sz ((cs.drop off).take (n * sz)))
 | agg {ds ds'} (h:H1 fl ps env ds ds'):Ag fl ps env (.agg ds) (.agg ds')
 | tup {ds ds'} (h:H1 fl ps env ds ds'):Ag fl ps env (.tup ds) (.tup ds')
 | clo {f n ds ds'} (h:H1 fl ps env ds ds'):Ag fl ps env (.clo f n ds) (.clo f n ds')
inductive H1 (fl:Bool) (ps:List Nat) (env:qK):List DV->List DV->Prop
 | nil:H1 fl ps env [] []
 | cons {d d' l l'} (h:Ag fl ps env d d') (hs:H1 fl ps env l l'):H1 fl ps env (d :: l) (d' :: l')
end
def BxC (fl:Bool) (ps:List Nat) (env:qK):LB->LB->Prop
 | .box ds ty,lb=>∃ ds',lb=.box ds' ty/\H1 fl ps env ds ds'
 | .row e sz cs,lb=>lb=.row e sz cs
 | .map l,lb=>lb=.map l
 | .lop ts ds N rc,lb=>∃ ds',lb=.lop ts ds' N rc/\H1 fl ps env ds ds'
 | _,_=>False
def Zv (fl:Bool) (ps:List Nat) (env:qK):List Nat->List LB->Prop
 | [],bx=>bx=[]
 | j :: l,bx=>∃ lb lb' rest,bx=lb' :: rest/\(j,some lb)∈env/\BxC fl ps env lb lb'/\Zv fl ps env l rest
def In (ps:List Nat) (tk:Nat) (k:Nat):Nat:=match ps[k]? with | some j=>j | none=>tk + (k - ps.length)
def Yo (ps:List Nat) (tk:Nat):Nat->List LB->List (Nat×LB)
 | _,[]=>[]
 | k,x :: l=>(In ps tk k,aAo (In ps tk) x) :: Yo ps tk (k + 1) l
def P3 (ps gs:List Nat) (tk:Nat) (r:DV) (bx:List LB):Q6:=⟨some (O4 (In ps tk) r),fun k=>match G1 (Yo ps tk 0 bx) k with | some lb=>some (some lb) | none=>bif gs.any (Nat.beq k) then some none else none⟩
def aAu (ps gs:List Nat) (tk:Nat) (R:DV->List LB->Prop):Q6->Prop:=fun e=>∃ r b,R r b/\e=P3 ps gs tk r b/\ps.length<=b.length/\b.length<=ps.length + 8
def O5 (np:Nat) (ps gs:List Nat):Bool:=ndB (ps ++ gs) && gs.all fun k=>Nat.ble np k
inductive CallR (P:Program) (np:Nat):Nat->Op->TypeId->List (DV×Option LB)->qK->List Nat->(Q6->Prop)->Prop
 | call {tk f xs tys ty dsA env ps gs args bx R} (fl:Bool) (hF:Fn P f ps.length args bx R) (hA:H1 fl (ps ++ gs) env (dsA.map (·.1)) args) (hB:Zv fl (ps ++ gs) env (ps ++ gs) bx) (hnd:O5 np ps gs=true) (hfl:fl=true->∀ r b,R r b->Kl r/\∀ lb∈b,Pr lb) :
  CallR P np tk (.call ⟨.value (.func f),xs,tys⟩) ty ((.val (.func (.func f) #[] #[]),none) :: dsA) env (ps ++ gs) (aAu ps gs tk R)
 | callC {tk t f n cs xs tys ty b dsA env ps gs args bx R} (fl:Bool) (hF:Fn P f ps.length args bx R) (hA:H1 fl (ps ++ gs) env (cs.take n ++ (dsA.map (·.1) ++ cs.drop n)) args) (hB:Zv fl (ps ++ gs) env (ps ++ gs) bx) (hnd:O5 np ps gs=true) (hfl:fl=true->∀ r b,R r b->Kl r/\∀ lb∈b,Pr lb) :
  CallR P np tk (.call ⟨.value (.tmp t),xs,tys⟩) ty ((.clo f n cs,b) :: dsA) env (ps ++ gs) (aAu ps gs tk R)
 | callV {tk t f xs tys ty b dsA env ps gs args bx R} (fl:Bool) (hF:Fn P f ps.length args bx R) (hA:H1 fl (ps ++ gs) env (dsA.map (·.1)) args) (hB:Zv fl (ps ++ gs) env (ps ++ gs) bx) (hnd:O5 np ps gs=true) (hfl:fl=true->∀ r b,R r b->Kl r/\∀ lb∈b,Pr lb) :
  CallR P np tk (.call ⟨.value (.tmp t),xs,tys⟩) ty ((.val (.func (.func f) #[] #[]),b) :: dsA) env (ps ++ gs) (aAu ps gs tk R)
 | callI {tk t nm tys ty t0 sz cs b env f R} (hm:∀ v w,(Go.method (P.types.size + Made.depth) t0 v nm).run P w=.ok (f,v) w) (hF:Fn P f 0 [.sl sz cs] [] R) :
  CallR P np tk (.call ⟨.invoke (.tmp t) nm,#[],tys⟩) ty [(.imm (.ifc t0 (.sl sz cs)),b)] env [] (aAu [] [] tk R)
 
 | ext {tk op ty ds env wr E} (h:ExtR P np tk op ty ds env wr E):CallR P np tk op ty ds env wr E
 | nilE {tk t X Y yt ty sz cs b1 b2 env} (hn:∃ e,P.underlying t=some (.slice e)):CallR P np tk (.binOp .eql t X Y yt) ty [(.sl sz cs,b1),(.val (.slice none 0 0),b2)] env [] (fun e=>∃ b,(b=true->cs=[])/\e=v0 (.val (.bool b)))
theorem Zv.length {fl:Bool} {ps:List Nat} {env:qK}:∀ {l:List Nat} {bx:List LB},Zv fl ps env l bx->bx.length=l.length
 | [],bx,h=>by unfold Zv at h; rw [h]; rfl
 | j :: l,bx,h=>by
  unfold Zv at h
  obtain⟨lb,lb',rest,rfl,-,-,h4⟩:=h
  simp [Zv.length h4]
theorem Zv.at_ {fl:Bool} {ps:List Nat} {env:qK}:∀ {l:List Nat} {bx:List LB},Zv fl ps env l bx->∀ {k:Nat} {j:Nat},l[k]?=some j->∃ lb lb',bx[k]?=some lb'/\(j,some lb)∈env/\BxC fl ps env lb lb'
 | [],bx,h,k,j,hl=>by simp at hl
 | j :: l,bx,h,0,j',hl=>by
  unfold Zv at h
  obtain⟨lb,lb',rest,rfl,h2,h3,h4⟩:=h
  simp at hl
  subst hl
  exact⟨lb,lb',rfl,h2,h3⟩
 | j :: l,bx,h,k + 1,j',hl=>by
  unfold Zv at h
  obtain⟨lb,lb',rest,rfl,h2,h3,h4⟩:=h
  have:=Zv.at_ h4 (k:=k) (j:=j') (by simpa using hl)
  simpa using this
theorem X6 {ps:List Nat} {tk:Nat}:∀ {l:List LB} {k k':Nat} {lb:LB},G1 (Yo ps tk k l) k'=some lb->∃ i x,l[i]?=some x/\k'=In ps tk (k + i)/\lb=aAo (In ps tk) x
 | [],_,_,_,h=>by simp [Yo,G1] at h
 | x :: l,k,k',lb,h=>by
  unfold Yo G1 at h
  cases hb:Nat.beq k' (In ps tk k) with
  | true=>
   rw [hb] at h
   simp at h
   exact⟨0,x,rfl,aFs hb,h.symm⟩
  | false=>
   rw [hb] at h
   obtain⟨i,y,h1,h2,h3⟩:=X6 (l:=l) (k:=k + 1) h
   exact⟨i + 1,y,by simpa using h1,by rw [h2]; congr 1; omega,h3⟩
theorem nE {ps:List Nat} {tk:Nat}:∀ {l:List LB} {k i:Nat} {x:LB},l[i]?=some x->∃ lb,G1 (Yo ps tk k l) (In ps tk (k + i))=some lb
 | [],_,_,_,h=>by simp at h
 | y :: l,k,i,x,h=>by
  unfold Yo G1
  cases hb:Nat.beq (In ps tk (k + i)) (In ps tk k) with
  | true=>exact⟨_,rfl⟩
  | false=>
   cases i with
   | zero=>simp at hb
   | succ i=>
    have:=nE (ps:=ps) (tk:=tk) (l:=l) (k:=k + 1) (i:=i) (x:=x) (by simpa using h)
    simp only [aE8]
    rwa [show k + (i + 1)=k + 1 + i by omega]
end Go.Proofs.YtboglmbblmakjaaGreatDoor
namespace Go.Proofs.YtboglmbblmakjaaGreatDoor
open Go.RowKit
section
variable {P:Program} {cx:Cx} {ρ:Nat->Value} {σ:St} {a:Act} {w:World} {o:Oper} {K:Act->World->Prop} {Q:Exit->Act->World->Prop}
def sI (fl:Bool) (ps:List Nat) (σ:St) (ρ:Nat->Value) (b:Nat):Prop:=fl=true/\∃ j e sz cs,j∉ps/\σ.L j=some (.row e sz cs)/\Dg (ρ j)=some b
theorem aB4 {ps:List Nat} {j:Nat} (h:ps.all (fun i=>!Nat.beq i j)=true):j∉ps:=fun hm=>by
 have:=aGo.1 h j hm
 simp at this
section
variable {fl:Bool} {ps l:List Nat}
mutual
theorem Ag.rep (ha:Fg cx ρ σ a w):∀ {d d':DV} (_:Ag fl ps (Kz σ l) d d') {v:Value},Dk ρ (O1 cx σ ρ w) w d v->Dk (fun k=>ρ (In ps 0 k)) (fun b=>O1 cx σ ρ w b\/sI fl ps σ ρ b) w d' v
 | _,_,.fn,v,hr=>by
  unfold Dk at *
  exact⟨[],by rw [hr.1]; rfl,by simp [Cj]⟩
 | _,_,.val,v,hr=>by unfold Dk at *; exact hr
 | _,_,.sl,v,hr=>by unfold Dk at *; exact hr.mono fun b hb=>.inl hb
 | _,_,.mp,v,hr=>by unfold Dk at *; exact hr.mono fun b hb=>.inl hb
 | _,_,.imm,v,hr=>by unfold Dk at *; exact hr.mono fun b hb=>.inl hb
 | _,_,.nils,v,hr=>by unfold Dk at *; rw [hr.1]; exact Ga.nil_ _
 | _,_,.elt,v,hr=>by
  unfold Dk at *
  obtain⟨ad,h2,h3,h4⟩:=hr
  exact⟨ad,h2,.inl h3,Jq.keep_ (fun _ _=>rfl) (fun b hb=>.inl hb) ad h3 _ 0 h4⟩
 | _,_,.ptr (j:=j) (k:=k) hk,v,hr=>by
  unfold Dk at *
  have:In ps 0 k=j:=by unfold In; rw [hk]
  simp only [this]
  exact hr
 | _,_,.rowK (j:=j) (k:=k) hk,v,hr=>by
  unfold Dk at *
  have:In ps 0 k=j:=by unfold In; rw [hk]
  simp only [this]
  exact hr
 | _,_,.row hfl hL hj,v,hr=>by
  have hL:=M6 hL
  unfold Dk at *
  rw [hr.1]
  obtain⟨n,us,ho,-,hu⟩:=ha.lo _ _ hL
  exact pI.cells ho hu (fun b hb=>.inl hb) fun b hb=>.inr ⟨hfl,_,_,_,_,aB4 hj,hL,hb⟩
 | _,_,.part hfl hL hj hn,v,hr=>by
  have hL:=M6 hL
  unfold Dk at *
  obtain⟨A,c,h4,h5,h6,h7,-⟩:=hr
  rw [h4]
  obtain⟨n,us,ho,-,hu⟩:=ha.lo _ _ hL
  exact wX ho hu (fun b hb=>.inl hb) (fun b hb=>.inr ⟨hfl,_,_,_,_,aB4 hj,hL,hb⟩) hn h5 h6 h7
 | _,_,.agg hs,v,hr=>by
  unfold Dk at *
  obtain⟨vs,h2,h3,h4⟩:=hr
  exact⟨vs,h2,h3,H1.rep ha hs h4⟩
 | _,_,.tup hs,v,hr=>by
  unfold Dk at *
  obtain⟨vs,h2,h4⟩:=hr
  exact⟨vs,h2,H1.rep ha hs h4⟩
 | _,_,.clo hs,v,hr=>by
  unfold Dk at *
  obtain⟨vs,h2,h4⟩:=hr
  exact⟨vs,h2,H1.rep ha hs h4⟩
theorem H1.rep (ha:Fg cx ρ σ a w):∀ {ds ds':List DV} (_:H1 fl ps (Kz σ l) ds ds') {vs:List Value},Cj ρ (O1 cx σ ρ w) w ds vs->Cj (fun k=>ρ (In ps 0 k)) (fun b=>O1 cx σ ρ w b\/sI fl ps σ ρ b) w ds' vs
 | _,_,.nil,vs,hr=>by unfold Cj at *; exact hr
 | _,_,.cons h hs,vs,hr=>by
  unfold Cj at *
  obtain⟨u,us,h1,h2,h3⟩:=hr
  exact⟨u,us,h1,Ag.rep ha h h2,H1.rep ha hs h3⟩
end
end
theorem Cj.app {I:Nat->Prop}:∀ {a b:List DV} {c d:List Value},Cj ρ I w a c->Cj ρ I w b d->Cj ρ I w (a ++ b) (c ++ d)
 | [],b,c,d,h1,h2=>by unfold Cj at h1; subst h1; simpa using h2
 | x :: a,b,c,d,h1,h2=>by
  unfold Cj at h1
  obtain⟨u,us,rfl,h3,h4⟩:=h1
  rw [aX1,aX1]
  unfold Cj
  exact⟨u,_,rfl,h3,Cj.app h4 h2⟩
theorem aDw:∀ {l:List Nat},ndB l=true->∀ {i j x:Nat},l[i]?=some x->l[j]?=some x->i=j
 | [],_,i,j,x,h,_=>by simp at h
 | y :: l,hn,0,0,x,_,_=>rfl
 | y :: l,hn,0,j + 1,x,h1,h2=>by
  simp only [ndB,aF5,aGo] at hn
  simp at h1 h2
  subst h1
  have:=hn.1 y (aIm h2)
  simp at this
 | y :: l,hn,i + 1,0,x,h1,h2=>by
  simp only [ndB,aF5,aGo] at hn
  simp at h1 h2
  subst h2
  have:=hn.1 y (aIm h1)
  simp at this
 | y :: l,hn,i + 1,j + 1,x,h1,h2=>by
  simp only [ndB,aF5] at hn
  have:=aDw hn.2 (i:=i) (j:=j) (x:=x) (by simpa using h1) (by simpa using h2)
  rw [this]
theorem zR {f:Nat->Nat} {lb:LB} {k:Nat} (h:Wt (aAo f lb) k):∃ j,Wt lb j/\k=f j:=by
 cases lb with
 | box ds ty=>exact Tr ds k h
 | row=>exact h.elim
 | map=>exact h.elim
 | mit k' n s=>exact⟨k',rfl,h⟩
 | vec ds e=>exact Tr ds k h
 | lop ts ds N rc=>exact Tr ds k h
theorem iY {wr ps gs l:List Nat} (hwr:wr=ps ++ gs) {args:List DV} {bx:List LB} {fl:Bool} {ads:List DV} {avs:List Value} (hA:H1 fl wr (Kz σ l) ads args) (hrep:Cj ρ (O1 cx σ ρ w) w ads avs)
  (hB:Zv fl wr (Kz σ l) wr bx) (hh:O5 cx.np ps gs=true) (ha:Fg cx ρ σ a w) :
  HI (fun k=>ρ (In wr 0 k)) (fun b=>O1 cx σ ρ w b\/sI fl wr σ ρ b) w bx.length/\Cj (fun k=>ρ (In wr 0 k)) (fun b=>O1 cx σ ρ w b\/sI fl wr σ ρ b) w args avs/\
  (∀ k lb,bx[k]?=some lb->jS (fun k=>ρ (In wr 0 k)) (fun b=>O1 cx σ ρ w b\/sI fl wr σ ρ b) w (ρ (In wr 0 k)) lb)/\
  (∀ k k' b,k < bx.length->k' < bx.length->Dg (ρ (In wr 0 k))=some b->Dg (ρ (In wr 0 k'))=some b->k=k'):=by
 unfold O5 at hh
 rw [<- hwr,aF5] at hh
 obtain⟨hnd,hgn⟩:=hh
 have hpl:∀ k j,ps[k]?=some j->wr[k]?=some j:=fun k j h=>by
  rw [hwr,aF7 (aBe.1 h).1]; exact h
 have hgs:∀ k j,ps.length<=k->wr[k]?=some j->j∈gs:=fun k j hk h=>by
  rw [hwr,aIp hk] at h
  exact aIm h
 have hgnp:∀ j,j∈gs->cx.np<=j:=fun j hj=>aC1 (aGo.1 hgn j hj)
 have hgin:∀ j,j∈gs->∃ k,ps.length<=k/\k < wr.length/\wr[k]?=some j:=fun j hj=>by
  obtain⟨i,hi,rfl⟩:=aUt hj
  refine⟨ps.length + i,by omega,by rw [hwr,aF3]; omega,?_⟩
  rw [hwr,aIp (by omega),aXt,aBb hi]
 have hpw:ps.length<=wr.length:=by rw [hwr,aF3]; omega
 have hbl:=hB.length
 have hpsL:∀ k j,wr[k]?=some j->∃ lb,σ.L j=some lb/\∃ lb',bx[k]?=some lb'/\BxC fl wr (Kz σ l) lb lb':=fun k j hk=>by
  obtain⟨lb,lb',h1,h2,h3⟩:=hB.at_ hk
  exact⟨lb,M6 h2,lb',h1,h3⟩
 have hi0:∀ k j,wr[k]?=some j->In wr 0 k=j:=fun k j h=>by unfold In; rw [h]
 have hin:∀ k,k < bx.length->∃ j,wr[k]?=some j:=fun k hk=>⟨wr[k]'(by omega),aBb (by omega)⟩
 have hUps:∀ k j,wr[k]?=some j->σ.U j=true:=fun k j h=>by
  obtain⟨lb,h1,-⟩:=hpsL k j h
  exact (ha.usedL _ _ h1).1
 refine⟨⟨(fun b hb=>by
   have key:∀ k,k < bx.length->Dg (ρ (In wr 0 k))=some b->False:=fun k hk hbk=>by
    obtain⟨j,hj⟩:=hin k hk
    rw [hi0 k j hj] at hbk
    obtain⟨lb,h1,-⟩:=hpsL k j hj
    rcases hb with hb | ⟨-,j',e,sz,cs,h2,h3,h4⟩
    ·exact hb.2.1 ⟨j,_,h1,hbk⟩
    ·have:=ha.sep j j' _ _ b h1 h3 hbk h4
     subst this
     exact h2 (aIm hj)
   refine⟨?_,fun k hk hbk=>key k hk hbk⟩
   rcases hb with hb | ⟨-,j',e,sz,cs,h2,h3,h4⟩
   ·exact hb.1
   ·exact ((ha.lo _ _ h3).blk h4).1),fun p hp=>Dk.step (fun b hb=>⟨.inl hb,rfl⟩) _ _ (fun k hk=>by unfold men at hk; exact hk.elim) (ha.globs p hp)⟩,H1.rep ha hA hrep,(fun k lb hlb=>by
   have hk:=(aBe.1 hlb).1
   obtain⟨j,hj⟩:=hin k hk
   obtain⟨lb0,h1,lb1,h2,h3⟩:=hpsL k j hj
   rw [h2] at hlb
   injection hlb with hlb
   subst hlb
   show jS _ _ w (ρ (In wr 0 k)) _
   rw [hi0 k j hj]
   cases lb0 with
   | box ds ty=>
    obtain⟨ds',rfl,h4⟩:=h3
    obtain⟨b,vs,q1,q2,-,q4,q5⟩:=ha.lo _ _ h1
    exact⟨b,vs,q1,q2,q4,H1.rep ha h4 q5⟩
   | row e sz cs=>
    have h3:lb1=.row e sz cs:=h3
    subst h3
    obtain⟨n,us,q1,-,q3⟩:=ha.lo _ _ h1
    exact⟨n,us,q1,q3.keep_ (fun _ _=>rfl) fun b hb=>.inl hb⟩
   | map l=>
    have h3:lb1=.map l:=h3
    subst h3
    obtain⟨g,q1,q2,-⟩:=ha.lo _ _ h1
    exact⟨g,q1,q2⟩
   | mit k n s=>exact h3.elim
   | vec ds e=>exact h3.elim
   | lop ts ds N rc=>
    obtain⟨ds',rfl,h4⟩:=h3
    obtain⟨b,tm,q1,q2,-,q4,q5⟩:=ha.lo _ _ h1
    exact⟨b,tm,q1,q2,q4,H1.rep ha h4 q5⟩),(fun k k' b hk hk' e1 e2=>by
   obtain⟨j,hj⟩:=hin k hk
   obtain⟨j',hj'⟩:=hin k' hk'
   simp only [hi0 k j hj] at e1
   simp only [hi0 k' j' hj'] at e2
   obtain⟨lb,h1,-⟩:=hpsL k j hj
   obtain⟨lb',h1',-⟩:=hpsL k' j' hj'
   have:=ha.sep j j' _ _ b h1 h1' e1 e2
   subst this
   exact aDw hnd hj hj')⟩
theorem dT {tk:Nat} {wr ps gs l:List Nat} (hwr:wr=ps ++ gs) {bx bx':List LB} {r:DV} {v:Value} {fl:Bool} {w':World} {dst:Option Tmp}
  (hB:Zv fl wr (Kz σ l) wr bx) (hh:O5 cx.np ps gs=true) (hfl:fl=true->Kl r/\∀ lb∈bx',Pr lb) (ha:Fg cx ρ σ a w) (hf:∀ j,j < 8->σ.U (tk + j)=false) (hdst:∀ t,dst=some t->t < cx.N)
  (hback:lT (fun k=>ρ (In wr 0 k)) (fun b=>O1 cx σ ρ w b\/sI fl wr σ ρ b) w ps.length bx.length v r bx' w'):∃ ρ2,Fg cx ρ2 (σ.app dst (P3 ps gs tk r bx')) (a.put dst v) w'/\∀ k,σ.U k=true->ρ2 k=ρ k:=by
 unfold O5 at hh
 rw [<- hwr,aF5] at hh
 obtain⟨hnd,hgn⟩:=hh
 have hpl:∀ k j,ps[k]?=some j->wr[k]?=some j:=fun k j h=>by
  rw [hwr,aF7 (aBe.1 h).1]; exact h
 have hgs:∀ k j,ps.length<=k->wr[k]?=some j->j∈gs:=fun k j hk h=>by
  rw [hwr,aIp hk] at h
  exact aIm h
 have hgnp:∀ j,j∈gs->cx.np<=j:=fun j hj=>aC1 (aGo.1 hgn j hj)
 have hgin:∀ j,j∈gs->∃ k,ps.length<=k/\k < wr.length/\wr[k]?=some j:=fun j hj=>by
  obtain⟨i,hi,rfl⟩:=aUt hj
  refine⟨ps.length + i,by omega,by rw [hwr,aF3]; omega,?_⟩
  rw [hwr,aIp (by omega),aXt,aBb hi]
 have hpw:ps.length<=wr.length:=by rw [hwr,aF3]; omega
 have hbl:=hB.length
 have hpsL:∀ k j,wr[k]?=some j->∃ lb,σ.L j=some lb/\∃ lb',bx[k]?=some lb'/\BxC fl wr (Kz σ l) lb lb':=fun k j hk=>by
  obtain⟨lb,lb',h1,h2,h3⟩:=hB.at_ hk
  exact⟨lb,M6 h2,lb',h1,h3⟩
 have hi0:∀ k j,wr[k]?=some j->In wr 0 k=j:=fun k j h=>by unfold In; rw [h]
 have hit:∀ k j,ps[k]?=some j->In ps tk k=j:=fun k j h=>by unfold In; rw [h]
 have hgt:∀ k,ps.length<=k->In ps tk k=tk + (k - ps.length):=fun k h=>by unfold In; rw [aUv h]
 have hin:∀ k,k < bx.length->∃ j,wr[k]?=some j:=fun k hk=>⟨wr[k]'(by omega),aBb (by omega)⟩
 have hUps:∀ k j,wr[k]?=some j->σ.U j=true:=fun k j h=>by
  obtain⟨lb,h1,-⟩:=hpsL k j h
  exact (ha.usedL _ _ h1).1
 obtain⟨⟨b1,b2⟩,⟨o1,o2,o3,o4⟩,hkept,⟨ρ',J,d1,d2,d3,d4,d5,d6⟩,⟨m1,m2⟩⟩:=hback
 have b1':ps.length<=bx'.length:=b1
 have b2':bx'.length<=ps.length + 8:=b2
 have himp:∀ k,k < bx'.length->(∃ j,ps[k]?=some j/\In ps tk k=j)\/(ps.length<=k/\In ps tk k=tk + (k - ps.length)/\k - ps.length < 8):=fun k hk=>by
  rcases aU5 k ps.length with h | h
  ·exact .inl ⟨ps[k],aBb h,hit k _ (aBb h)⟩
  ·exact .inr ⟨h,hgt k h,by omega⟩
 have hel:∀ k,(P3 ps gs tk r bx').l k=(match G1 (Yo ps tk 0 bx') k with | some lb=>some (some lb) | none=>bif gs.any (Nat.beq k) then some none else none):=fun _=>rfl
 have hel1:∀ k lb,(P3 ps gs tk r bx').l k=some (some lb)->∃ i x,bx'[i]?=some x/\k=In ps tk i/\lb=aAo (In ps tk) x:=fun k lb h=>by
  rw [hel] at h
  cases hl:G1 (Yo ps tk 0 bx') k with
  | none=>
   rw [hl] at h
   simp only [] at h
   cases G:gs.any (Nat.beq k) <;> rw [G] at h <;> cases h
  | some lb'=>
   rw [hl] at h
   injection h with h
   injection h with h
   subst h
   obtain⟨i,x,h1,h2,h3⟩:=X6 hl
   exact⟨i,x,h1,by simpa using h2,h3⟩
 have hel2:∀ i,i < bx'.length->(P3 ps gs tk r bx').l (In ps tk i)≠none:=fun i hi=>by
  obtain⟨lb,hlb⟩:=nE (ps:=ps) (tk:=tk) (k:=0) (aBb hi)
  rw [aNm] at hlb
  rw [hel,hlb]
  simp
 have hel3:∀ j,j∈gs->(P3 ps gs tk r bx').l j≠none:=fun j hj=>by
  rw [hel]
  cases hl:G1 (Yo ps tk 0 bx') j with
  | some lb=>simp
  | none=>
   have:gs.any (Nat.beq j)=true:=aLm.2 ⟨j,hj,aXq j⟩
   simp [this]
 let ρ2:Nat->Value:=fun k=>if tk<=k/\k < tk + 8 then ρ' (ps.length + (k - tk)) else ρ k
 have hρU:∀ k,σ.U k=true->ρ2 k=ρ k:=fun k hk=>by
  show (if tk<=k/\k < tk + 8 then _ else _)=_
  rw [if_neg]
  intro hh
  have:=hf (k - tk) (by omega)
  rw [show tk + (k - tk)=k by omega,hk] at this
  cases this
 have hρi:∀ i,i < bx'.length->ρ2 (In ps tk i)=ρ' i:=fun i hi=>by
  rcases himp i hi with ⟨j,h1,h2⟩ | ⟨h1,h2,h3⟩
  ·rw [h2,hρU j (hUps i j (hpl i j h1)),d1 i (aBe.1 h1).1]
   show ρ j=ρ (In wr 0 i)
   rw [hi0 i j (hpl i j h1)]
  ·rw [h2]
   show (if tk<=_/\_ < tk + 8 then _ else _)=_
   rw [if_pos (by omega)]
   congr 1
   omega
 refine⟨ρ2,ha.app (v:=v) ?_ o4 hdst hρU (fun b hb h=>hkept b hb fun k hk hbk=>?_) (fun k lb b h1 h2=>?_) (fun k k' lb lb' b h1 h2 h3 h4=>?_) (fun hI hI2=>?_) ⟨fun k lb k' h1 h2=>?_,fun d k' h1 h2=>?_⟩ (fun k lb b h1 h2 h3=>?_),hρU⟩
 ·obtain⟨k1,k2,k3,k4,k5⟩:=ha.kept
  refine⟨o1.trans k1,o2.trans k2,o3.trans k3,aRp k4 o4,fun b hb hM=>(hkept b (aUp hb k4) fun k hk hbk=>?_).trans (k5 b hb hM)⟩
  obtain⟨j,hj⟩:=hin k hk
  simp only [hi0 k j hj] at hbk
  obtain⟨lb,h1,-⟩:=hpsL k j hj
  rcases ((ha.lo _ _ h1).blk hbk).2 with h | h
  ·omega
  ·exact hM h
 ·obtain⟨j,hj⟩:=hin k hk
  simp only [hi0 k j hj] at hbk
  obtain⟨lb,h1,-⟩:=hpsL k j hj
  rcases aU5 k ps.length with hkp | hkp
  ·have hjp:ps[k]?=some j:=by
    rw [hwr,aF7 hkp] at hj; exact hj
   have:=hel2 k (by omega)
   rw [hit k j hjp] at this
   exact h j _ this h1 hbk
  ·exact h j _ (hel3 j (hgs k j hkp hj)) h1 hbk
 ·obtain⟨i,x,e1,rfl,rfl⟩:=hel1 k lb h1
  have hi:=(aBe.1 e1).1
  rw [hρi i hi] at h2
  rcases himp i hi with ⟨j,q1,q2⟩ | ⟨q1,q2,q3⟩
  ·right
   have hil:=(aBe.1 q1).1
   obtain⟨lb0,q3,-⟩:=hpsL i j (hpl i j q1)
   refine⟨j,_,?_,q3,?_⟩
   ·have:=hel2 i hi; rwa [q2] at this
   ·rw [d1 i hil] at h2
    simpa only [hi0 i j (hpl i j q1)] using h2
  ·rcases d5 i b q1 hi h2 with h4 | ⟨k,k1,k2,k3⟩
   ·exact .inl h4
   ·obtain⟨j,hj⟩:=hin k k2
    simp only [hi0 k j hj] at k3
    obtain⟨lb0,q4,-⟩:=hpsL k j hj
    exact .inr ⟨j,_,hel3 j (hgs k j k1 hj),q4,k3⟩
 ·obtain⟨i,x,e1,rfl,rfl⟩:=hel1 k lb h1
  obtain⟨i',x',e2,rfl,rfl⟩:=hel1 k' lb' h2
  have hi:=(aBe.1 e1).1
  have hi':=(aBe.1 e2).1
  rw [hρi i hi] at h3
  rw [hρi i' hi'] at h4
  rw [d6 i i' b hi hi' h3 h4]
 ·have hJ:fl=false->∀ b,J b->O1 cx (σ.app dst (P3 ps gs tk r bx')) ρ2 w' b:=fun hfl0 b hb=>by
   obtain⟨j1,j2,j3⟩:=d2 b hb
   rcases aU5 b w.heap.size with h | h
   ·rcases j2 h with (h1 | ⟨h1,-⟩) | ⟨k,k1,k2,k3⟩
    ·exact (hI b h1).1
    ·rw [hfl0] at h1; cases h1
    ·obtain⟨j,hj⟩:=hin k k2
     simp only [hi0 k j hj] at k3
     obtain⟨lb0,q4,-⟩:=hpsL k j hj
     have hjg:=hgs k j k1 hj
     refine⟨j1,?_,fun hlt=>?_⟩
     ·rintro⟨k',lb',h4,h5⟩
      cases hek:(P3 ps gs tk r bx').l k' with
      | none=>
       have h4':σ.L k'=some lb':=by simpa [St.app,hek] using h4
       rw [hρU k' (ha.usedL k' lb' h4').1] at h5
       have:=ha.sep k' j lb' lb0 b h4' q4 h5 k3
       subst this
       exact hel3 k' hjg hek
      | some x=>
       have h4':x=some lb':=by simpa [St.app,hek] using h4
       subst h4'
       obtain⟨i,x,e1,rfl,rfl⟩:=hel1 k' lb' hek
       have hi:=(aBe.1 e1).1
       rw [hρi i hi] at h5
       exact j3 i hi h5
     ·rcases ha.fresh j lb0 b q4 (hgnp j hjg) k3 with h6 | h6
      ·omega
      ·exact .inr h6
   ·refine hI2 b h j1 fun k lb h1 h2=>?_
    obtain⟨i,x,e1,rfl,rfl⟩:=hel1 k lb h1
    have hi:=(aBe.1 e1).1
    rw [hρi i hi] at h2
    exact j3 i hi h2
  have hmapB:∀ i x,bx'[i]?=some x->U2 cx ρ2 (O1 cx (σ.app dst (P3 ps gs tk r bx')) ρ2 w') w' (ρ' i) (aAo (In ps tk) x):=fun i x hx=>by
   have hi:=(aBe.1 hx).1
   have hb:=d4 i x hx
   cases x with
   | box ds ty=>
    obtain⟨b,vs,q1,q2,q3,q4,q5⟩:=hb
    refine⟨b,vs,q1,q2,?_,q4,?_⟩
    ·rcases q3 with q3 | ⟨k,hk,hk'⟩
     ·exact .inl (aRp ha.kept.2.2.2.1 q3)
     ·have hk:k < bx.length:=hk
      obtain⟨j,hj⟩:=hin k hk
      have hk':Dg (ρ (In wr 0 k))=some b:=hk'
      rw [hi0 k j hj] at hk'
      obtain⟨lb2,h1,-⟩:=hpsL k j hj
      exact ((ha.lo _ _ h1).blk hk').2
    ·have hm:∀ k,G9 ds k->ρ2 (In ps tk k)=ρ' k:=fun k hk=>hρi k (m2 i _ hx k hk)
     cases hfc:fl with
     | false=>exact Cj.map (hJ hfc) ds vs hm q5
     | true=>
      have hff:=(hfl hfc).2 _ (aIm hx)
      exact Cj.map (I:=O1 cx (σ.app dst (P3 ps gs tk r bx')) ρ2 w') (fun b hb=>hb) ds vs hm (Cj.flat ds vs hff q5)
   | row e sz cs=>
    obtain⟨n,us,q1,q3,q2⟩:=hb
    refine⟨n,us,q1,fun b hb=>?_,?_⟩
    ·rcases q3 b hb with q3 | ⟨k,hk,hk'⟩
     ·exact .inl (aRp ha.kept.2.2.2.1 q3)
     ·have hk:k < bx.length:=hk
      obtain⟨j,hj⟩:=hin k hk
      have hk':Dg (ρ (In wr 0 k))=some b:=hk'
      rw [hi0 k j hj] at hk'
      obtain⟨lb2,h1,-⟩:=hpsL k j hj
      exact ((ha.lo _ _ h1).blk hk').2
    ·cases hfc:fl with
     | false=>exact q2.keep_ (fun _ _=>rfl) (hJ hfc)
     | true=>
      have hff:=(hfl hfc).2 _ (aIm hx)
      exact q2.flat_any hff
   | map l=>
    obtain⟨g,q1,q2,q3⟩:=hb
    refine⟨g,q1,q2,?_⟩
    rcases q3 with q3 | ⟨k,hk,hk'⟩
    ·exact .inl (aRp ha.kept.2.2.2.1 q3)
    ·have hk:k < bx.length:=hk
     obtain⟨j,hj⟩:=hin k hk
     have hk':Dg (ρ (In wr 0 k))=some g:=hk'
     rw [hi0 k j hj] at hk'
     obtain⟨lb2,h1,-⟩:=hpsL k j hj
     exact ((ha.lo _ _ h1).blk hk').2
   | vec ds e=>
    obtain⟨b,vs,q1,q0,q2,q3,q4,q5⟩:=hb
    refine⟨b,vs,q1,q0,q2,?_,q4,?_⟩
    ·rcases q3 with q3 | ⟨k,hk,hk'⟩
     ·exact .inl (aRp ha.kept.2.2.2.1 q3)
     ·have hk:k < bx.length:=hk
      obtain⟨j,hj⟩:=hin k hk
      have hk':Dg (ρ (In wr 0 k))=some b:=hk'
      rw [hi0 k j hj] at hk'
      obtain⟨lb2,h1,-⟩:=hpsL k j hj
      exact ((ha.lo _ _ h1).blk hk').2
    ·have hm:∀ k,G9 ds k->ρ2 (In ps tk k)=ρ' k:=fun k hk=>hρi k (m2 i _ hx k hk)
     cases hfc:fl with
     | false=>exact Cj.map (hJ hfc) ds vs hm q5
     | true=>
      have hff:=(hfl hfc).2 _ (aIm hx)
      exact Cj.map (I:=O1 cx (σ.app dst (P3 ps gs tk r bx')) ρ2 w') (fun b hb=>hb) ds vs hm (Cj.flat ds vs hff q5)
   | lop ts ds N rc=>
    obtain⟨b,tm,q1,q2,q3,q4,q5⟩:=hb
    refine⟨b,tm,q1,q2,?_,q4,?_⟩
    ·rcases q3 with q3 | ⟨k,hk,hk'⟩
     ·exact .inl (aRp ha.kept.2.2.2.1 q3)
     ·have hk:k < bx.length:=hk
      obtain⟨j,hj⟩:=hin k hk
      have hk':Dg (ρ (In wr 0 k))=some b:=hk'
      rw [hi0 k j hj] at hk'
      obtain⟨lb2,h1,-⟩:=hpsL k j hj
      exact ((ha.lo _ _ h1).blk hk').2
    ·have hm:∀ k,G9 ds k->ρ2 (In ps tk k)=ρ' k:=fun k hk=>hρi k (m2 i _ hx k hk)
     cases hfc:fl with
     | false=>exact Cj.map (hJ hfc) ds _ hm q5
     | true=>
      have hff:=(hfl hfc).2 _ (aIm hx)
      exact Cj.map (I:=O1 cx (σ.app dst (P3 ps gs tk r bx')) ρ2 w') (fun b hb=>hb) ds _ hm (Cj.flat ds _ hff q5)
   | mit k2 n s=>
    obtain⟨b,g,q1,q0,q2,q3⟩:=hb
    refine⟨b,g,q1,(hρi k2 (m2 i _ hx k2 rfl)).trans q0,q2,?_⟩
    rcases q3 with q3 | ⟨k,hk,hk'⟩
    ·exact .inl (aRp ha.kept.2.2.2.1 q3)
    ·have hk:k < bx.length:=hk
     obtain⟨j,hj⟩:=hin k hk
     have hk':Dg (ρ (In wr 0 k))=some b:=hk'
     rw [hi0 k j hj] at hk'
     obtain⟨lb2,h1,-⟩:=hpsL k j hj
     exact ((ha.lo _ _ h1).blk hk').2
  refine⟨fun k lb h1=>?_,fun d h1=>?_⟩
  ·obtain⟨i,x,e1,rfl,rfl⟩:=hel1 k lb h1
   rw [hρi i (aBe.1 e1).1]
   exact hmapB i x e1
  ·injection h1 with h1
   subst h1
   have hm:∀ k,men r k->ρ2 (In ps tk k)=ρ' k:=fun k hk=>hρi k (m1 k hk)
   cases hfc:fl with
   | false=>exact Dk.map (hJ hfc) r v hm d3
   | true=>exact Dk.map (I:=O1 cx (σ.app dst (P3 ps gs tk r bx')) ρ2 w') (fun b hb=>hb) r v hm (Dk.flat r v (hfl hfc).1 d3)
 ·obtain⟨i,x,e1,rfl,rfl⟩:=hel1 k lb h1
  obtain⟨j,q1,rfl⟩:=zR h2
  have hj:=m2 i x e1 j q1
  exact .inr (hel2 j hj)
 ·injection h1 with h1
  subst h1
  obtain⟨j,q1,rfl⟩:=yK r k' h2
  exact .inr (hel2 j (m1 j q1))
 ·obtain⟨i,x,e1,rfl,rfl⟩:=hel1 k lb h1
  have hi:=(aBe.1 e1).1
  rw [hρi i hi] at h3
  rcases himp i hi with ⟨j,q1,q2⟩ | ⟨q1,q2,q3⟩
  ·have hil:=(aBe.1 q1).1
   obtain⟨lb0,q3,-⟩:=hpsL i j (hpl i j q1)
   rw [d1 i hil] at h3
   simp only [hi0 i j (hpl i j q1)] at h3
   exact ha.fresh j lb0 b q3 (by rw [q2] at h2; exact h2) h3
  ·rcases d5 i b q1 hi h3 with h4 | ⟨k,k1,k2,k3⟩
   ·exact .inl (aRp ha.kept.2.2.2.1 h4)
   ·obtain⟨j,hj⟩:=hin k k2
    simp only [hi0 k j hj] at k3
    obtain⟨lb0,q4,-⟩:=hpsL k j hj
    exact ha.fresh j lb0 b q4 (hgnp j (hgs k j k1 hj)) k3
theorem Yj {tk f:Nat} {wr ps gs l:List Nat} (hwr:wr=ps ++ gs) {args:List DV} {bx:List LB} {R:DV->List LB->Prop} {fl:Bool} (hF:Fn P f ps.length args bx R) {ads:List DV} {avs:List Value} (hA:H1 fl wr (Kz σ l) ads args) (hrep:Cj ρ (O1 cx σ ρ w) w ads avs)
  (hB:Zv fl wr (Kz σ l) wr bx) (hh:O5 cx.np ps gs=true) (hfl:fl=true->∀ r b,R r b->Kl r/\∀ lb∈b,Pr lb) (ha:Fg cx ρ σ a w) (hf:∀ j,j < 8->σ.U (tk + j)=false) (hdst:∀ t,o.dst=some t->t < cx.N)
  (hrun:(execOp a.eval o).run P w=.ok (.enter f avs.toArray) w) (hK:∀ e a' w',aAu ps gs tk R e->O8 cx (σ.app o.dst e) a' w'->K a' w'):o.wp P a w K Q:=by
 obtain⟨c1,c2,c3,c4⟩:=iY hwr hA hrep hB hh ha
 have hcalls:=hF.2.2 (fun k=>ρ (In wr 0 k)) (fun b=>O1 cx σ ρ w b\/sI fl wr σ ρ b) w avs c1 c2 c3 c4
 unfold Oper.wp
 rw [hrun]
 refine hcalls.mono ?_
 rintro e w' ⟨v,r,bx',rfl,hR,hback⟩
 exact hK (P3 ps gs tk r bx') _ _ ⟨r,bx',hR,rfl,hback.le.1,hback.le.2⟩ ((dT hwr hB hh (fun h=>hfl h r bx' hR) ha hf hdst hback).imp fun _ h=>h.1)
theorem CallR.sound {tk:Nat} {op:Op} {ty:TypeId} {ds:List (DV×Option LB)} {env:qK} {wr:List Nat} {E:Q6->Prop} (h:CallR P cx.np tk op ty ds env wr E) (ha:Fg cx ρ σ a w) (hds:Gk σ (Mp op) op.operands.toList=some ds) (henv:env=Kz σ (Ss σ 3 (Tz ds))) (hf:∀ j,j < 8->σ.U (tk + j)=false) (ho:o.op=op) (hdst:∀ t,o.dst=some t->t < cx.N)
  (hK:∀ e a' w',E e->O8 cx (σ.app o.dst e) a' w'->K a' w'):o.wp P a w K Q:=by
 subst henv
 cases h with
 | ext h=>exact h.sound ha hds rfl hf ho hdst hK
 | @call f xs tys _ dsA _ ps gs args bx R fl hF hA hB hnd hfl=>
  have hds':Gk σ true (.func f :: xs.toList)=some ((.val (.func (.func f) #[] #[]),none) :: dsA):=by
   have:(Op.call ⟨.value (.func f),xs,tys⟩).operands.toList=.func f :: xs.toList:=by simp [Op.operands,Call.operands]
   rw [<- this]; exact hds
  obtain⟨-,e2⟩:=S7 hds'
  refine Yj rfl hF hA (Rm ha e2).1 hB hnd hfl ha hf hdst ?_ hK
  have e1:(xs.toList.map a.eval).toArray=xs.map a.eval:=by rw [<- bB0,aWp]
  have h1:=hF.2.1 (xs.toList.map a.eval).toArray w
  rw [e1] at h1 ⊢
  have e4:a.eval (.func f)=.func (.func f) #[] #[]:=rfl
  have e3:(#[] ++ Array.map a.eval xs ++ #[]:Array Value)=Array.map a.eval xs:=by simp
  simp only [execOp,ho,resolve,e4,Deferred.ofValue,Sem.run_bind,Sem.run_pure,Result.andThen_ok,invoke,e3]
  exact h1
 | @callC t f n cs xs tys _ b dsA _ ps gs args bx R fl hF hA hB hnd hfl=>
  have hds':Gk σ true (.tmp t :: xs.toList)=some ((.clo f n cs,b) :: dsA):=by
   have:(Op.call ⟨.value (.tmp t),xs,tys⟩).operands.toList=.tmp t :: xs.toList:=by simp [Op.operands,Call.operands]
   rw [<- this]; exact hds
  obtain⟨e0,e2⟩:=S7 hds'
  obtain⟨h0,-,-⟩:=D8 ha e0
  unfold Dk at h0
  obtain⟨vs,hv,hr⟩:=h0
  have hr2:=(Rm ha e2).1
  have tk1:Cj ρ (O1 cx σ ρ w) w (cs.take n) (vs.take n):=by have:=hr.sub 0 n; simpa using this
  have tk2:Cj ρ (O1 cx σ ρ w) w (cs.drop n) (vs.drop n):=by
   have:=hr.sub n cs.length
   have e1:(cs.drop n).take cs.length=cs.drop n:=aKz (by rw [aKq]; omega)
   have e2:(vs.drop n).take cs.length=vs.drop n:=aKz (by rw [aKq,hr.length]; omega)
   rw [e1,e2] at this
   exact this
  refine Yj rfl hF hA (tk1.app (hr2.app tk2)) hB hnd hfl ha hf hdst ?_ hK
  have h1:=hF.2.1 (vs.take n ++ (xs.toList.map a.eval ++ vs.drop n)).toArray w
  have e5:((vs.take n).toArray ++ Array.map a.eval xs ++ (vs.drop n).toArray:Array Value)=(vs.take n ++ (xs.toList.map a.eval ++ vs.drop n)).toArray:=by
   apply Array.toList_inj.1
   simp
  simp only [execOp,ho,resolve,hv,Deferred.ofValue,Sem.run_bind,Sem.run_pure,Result.andThen_ok,invoke]
  rw [e5]
  exact h1
 | @callI t nm tys _ t0 sz cs b _ f R hm hF=>
  have hds':Gk σ true [.tmp t]=some [(.imm (.ifc t0 (.sl sz cs)),b)]:=hds
  obtain⟨h0,-,-⟩:=D8 ha (N4 hds')
  unfold Dk Ga at h0
  obtain⟨u,hv,hu⟩:=h0
  refine Yj (l:=[]) (ps:=[]) (gs:=[]) (fl:=false) (avs:=[u]) rfl hF (.cons .sl .nil) (by unfold Cj; exact⟨u,[],rfl,by unfold Dk; exact hu,by unfold Cj; rfl⟩) (by unfold Zv; rfl) (by simp [O5,ndB]) (fun h=>by cases h) ha hf hdst ?_ hK
  have h1:=hF.2.1 #[u] w
  have hv':a.eval (.tmp t)=.iface t0 u:=hv
  simp only [execOp,ho,resolve,hv',invoke,callMethod]
  simpa [Sem.run_bind,Sem.run_pure,Result.andThen_ok,hm] using h1
 | @callV t f xs tys _ b dsA _ ps gs args bx R fl hF hA hB hnd hfl=>
  have hds':Gk σ true (.tmp t :: xs.toList)=some ((.val (.func (.func f) #[] #[]),b) :: dsA):=by
   have:(Op.call ⟨.value (.tmp t),xs,tys⟩).operands.toList=.tmp t :: xs.toList:=by simp [Op.operands,Call.operands]
   rw [<- this]; exact hds
  obtain⟨e0,e2⟩:=S7 hds'
  have hv:=He ha e0
  refine Yj rfl hF hA (Rm ha e2).1 hB hnd hfl ha hf hdst ?_ hK
  have e1:(xs.toList.map a.eval).toArray=xs.map a.eval:=by rw [<- bB0,aWp]
  have h1:=hF.2.1 (xs.toList.map a.eval).toArray w
  rw [e1] at h1 ⊢
  have e3:(#[] ++ Array.map a.eval xs ++ #[]:Array Value)=Array.map a.eval xs:=by simp
  simp only [execOp,ho,resolve,hv,Deferred.ofValue,Sem.run_bind,Sem.run_pure,Result.andThen_ok,invoke,e3]
  exact h1
 | @nilE t X Y yt _ sz cs b1 b2 _ hn=>
  have hds':Gk σ false [X,Y]=some [(.sl sz cs,b1),(.val (.slice none 0 0),b2)]:=hds
  obtain⟨e1,e2⟩:=Vk hds'
  obtain⟨h1,-,-⟩:=D8 ha e1
  have hy:=He ha e2
  unfold Dk at h1
  obtain⟨A,n,c,hv,hl,hnc,hc⟩:=h1.slice
  obtain⟨e,hn⟩:=hn
  have hrun:(execOp a.eval o).run P w=.ok (.value (.bool A.isNone)) w:=by
   have h:=run_equal_slice_nil w t e A n c hn
   simp [execOp,ho,hv,hy,eqGuard,binOp,h]
  unfold Oper.wp
  rw [hrun]
  refine hK (v0 (.val (.bool A.isNone))) _ _ ⟨_,fun hA=>?_,rfl⟩ ⟨ρ,ha.put0 hdst (fun x hx=>by injection hx with hx; subst hx; exact Qe rfl) (fun x k hx hm=>by injection hx with hx; subst hx; exact gO k hm)⟩
  cases A with
  | some ad=>cases hA
  | none=>
   have h0:=h1
   rw [hv] at h0
   unfold Ga at h0
   obtain⟨A',n',cap,q1,q2,-,-,q3⟩:=h0
   injection q1 with q1 q4 q5
   rcases aLg n' with h | h
   ·subst h; exact aF9 (by simpa using q2)
   ·obtain⟨ad,q6,-⟩:=q3 h
    rw [<- q1] at q6; cases q6
theorem CallR.key {tk:Nat} {op:Op} {ty:TypeId} {ds:List (DV×Option LB)} {env:qK} {wr:List Nat} {E:Q6->Prop} {np:Nat} (h:CallR P np tk op ty ds env wr E):∀ e,E e->∀ k,e.l k≠none->k∈wr\/(tk<=k/\k < tk + 8):=by
 have key:∀ (ps gs:List Nat) (R:DV->List LB->Prop) e,aAu ps gs tk R e->∀ k,e.l k≠none->k∈ps ++ gs\/(tk<=k/\k < tk + 8):=by
  rintro ps gs R e ⟨r,b,-,rfl,h1,h2⟩ k hk
  have hk':(match G1 (Yo ps tk 0 b) k with | some lb=>some (some lb) | none=>bif gs.any (Nat.beq k) then some none else none)≠none:=hk
  cases hl:G1 (Yo ps tk 0 b) k with
  | none=>
   rw [hl] at hk'
   simp only [] at hk'
   cases G:gs.any (Nat.beq k) with
   | false=>rw [G] at hk'; exact absurd rfl hk'
   | true=>
    obtain⟨x,q1,q2⟩:=aLm.1 G
    rw [aFs q2]
    exact .inl (aQo _ q1)
  | some lb=>
   obtain⟨i,x,e1,e2,-⟩:=X6 hl
   rw [aNm] at e2
   have hi:=(aBe.1 e1).1
   unfold In at e2
   cases hw:ps[i]? with
   | some j=>rw [hw] at e2; simp only [] at e2; rw [e2]; exact .inl (aPy _ (aIm hw))
   | none=>
    rw [hw] at e2
    simp only [] at e2
    have:=List.getElem?_eq_none_iff.1 hw
    exact .inr (by omega)
 cases h with
 | call=>exact key _ _ _
 | callC=>exact key _ _ _
 | callI=>exact key _ _ _
 | callV=>exact key _ _ _
 | nilE=>rintro e ⟨b,-,rfl⟩ k hk; exact absurd rfl hk
 | ext h=>exact h.key
theorem CallR.sub {tk:Nat} {op:Op} {ty:TypeId} {ds:List (DV×Option LB)} {env:qK} {wr:List Nat} {E:Q6->Prop} {np:Nat} (h:CallR P np tk op ty ds env wr E):∀ k,k∈wr->k∈env.map (·.1):=by
 have key:∀ {fl:Bool} {bx:List LB},Zv fl wr env wr bx->∀ k,k∈wr->k∈env.map (·.1):=fun hB k hk=>by
  obtain⟨i,hi,rfl⟩:=aUt hk
  obtain⟨lb,lb',-,h2,-⟩:=hB.at_ (aBb hi)
  exact aP8.2 ⟨_,h2,rfl⟩
 cases h with
 | call fl hF hA hB=>exact key hB
 | callC fl hF hA hB=>exact key hB
 | callI=>intro k hk; cases hk
 | callV fl hF hA hB=>exact key hB
 | nilE=>intro k hk; simp at hk
 | ext h=>exact h.sub
end
section
variable {P:Program} {cx:Cx} {σ:St} {a:Act} {w:World} {ρ:Nat->Value}
def kM (sz:Nat) (cs:List C) (ks:List Nat):Q6:=⟨some (.sl sz cs),fun k=>bif ks.any (Nat.beq k) then some none else none⟩
abbrev zT (j:Nat) (k:Nat):Option Nat:=if k=j then none else some k
mutual
theorem Cv.self {j:Nat}:∀ d,(∀ k,men d k->k≠j)->Cv σ (zT j) d d
 | .val v,_=>.val v
 | .sl _ _,_=>.sl _ _
 | .slc _ _,_=>.slcc _ _
 | .mp _,_=>.mp _
 | .imm _,_=>.imm _
 | .elt _,_=>.elt _
 | .row k,h=>.row (if_neg (h k (by unfold men; rfl)))
 | .part k _ _,h=>.part (if_neg (h k (by unfold men; rfl)))
 | .ptr k _,h=>.ptr (if_neg (h k (by unfold men; rfl)))
 | .agg ds,h=>.agg (U5.self ds fun k hk=>h k (by unfold men; exact hk))
 | .tup ds,h=>.tup (U5.self ds fun k hk=>h k (by unfold men; exact hk))
 | .clo _ _ ds,h=>.clo _ _ (U5.self ds fun k hk=>h k (by unfold men; exact hk))
theorem U5.self {j:Nat}:∀ ds,(∀ k,G9 ds k->k≠j)->U5 σ (zT j) ds ds
 | [],_=>.nil
 | d :: ds,h=>.cons (Cv.self d fun k hk=>h k (by unfold G9; exact .inl hk)) (U5.self ds fun k hk=>h k (by unfold G9; exact .inr hk))
end
theorem O8.frzE {ρ0:Nat->Value} {a0:Act} {w00:World} (h0:Fg cx ρ0 σ a0 w00) {tk et sz:Nat} {cs:List C} {ks:List Nat} {dst:Option Tmp} (hf:σ.U tk=false) (h:O8 cx (σ.app dst (Sq tk (.row et sz cs) ks (.row tk))) a w):O8 cx (σ.app dst (Go.Proofs.YtboglmbblmakjaaGreatDoor.kM sz cs ks)) a w:=by
 obtain⟨ρ,ha⟩:=h
 have hnp:cx.np<=tk:=by
  rcases aU5 tk cx.np with h | h
  ·have:=(h0.pin tk h).2
   rw [hf] at this; cases this
  ·exact h
 have hLtk:(σ.app dst (Sq tk (.row et sz cs) ks (.row tk))).L tk=some (.row et sz cs):=by
  show (match (bif Nat.beq tk tk then some (some (LB.row et sz cs)) else _) with | some x=>x | none=>σ.L tk)=_
  rw [aXq]
  rfl
 have hLne:∀ k,k≠tk->(σ.app dst (Sq tk (.row et sz cs) ks (.row tk))).L k=(σ.app dst (Go.Proofs.YtboglmbblmakjaaGreatDoor.kM sz cs ks)).L k:=fun k hk=>by
  show (match (bif Nat.beq k tk then some (some (LB.row et sz cs)) else (bif ks.any (Nat.beq k) then some none else none)) with | some x=>x | none=>σ.L k)=(match (bif ks.any (Nat.beq k) then some none else none) with | some x=>x | none=>σ.L k)
  have:Nat.beq k tk=false:=by
   cases hb:Nat.beq k tk with
   | false=>rfl
   | true=>exact absurd (aFs hb) hk
  rw [this]
  rfl
 have B:∀ k,σ.U k=true->(σ.app dst (Go.Proofs.YtboglmbblmakjaaGreatDoor.kM sz cs ks)).U k=true:=fun k hk=>by
  show (σ.U k || _)=true
  rw [hk]; rfl
 have hLs:∀ k lb,(σ.app dst (Go.Proofs.YtboglmbblmakjaaGreatDoor.kM sz cs ks)).L k=some lb->σ.L k=some lb:=fun k lb hl=>by
  have hl':(match (bif ks.any (Nat.beq k) then some none else none) with | some x=>x | none=>σ.L k)=some lb:=hl
  cases hb:ks.any (Nat.beq k) with
  | true=>rw [hb] at hl'; cases hl'
  | false=>rw [hb] at hl'; exact hl'
 have hFs:∀ t d,(σ.app dst (Go.Proofs.YtboglmbblmakjaaGreatDoor.kM sz cs ks)).F t=some d->(dst=some t/\d=.sl sz cs)\/(dst≠some t/\σ.F t=some d):=fun t d hd=>by
  cases dst with
  | none=>exact .inr ⟨by simp,hd⟩
  | some t'=>
   by_cases h1:t=t'
   ·subst h1
    have:(σ.app (some t) (Go.Proofs.YtboglmbblmakjaaGreatDoor.kM sz cs ks)).F t=some (.sl sz cs):=dI _ _ _
    rw [this] at hd
    injection hd with hd
    exact .inl ⟨rfl,hd.symm⟩
   ·have:(σ.app (some t') (Go.Proofs.YtboglmbblmakjaaGreatDoor.kM sz cs ks)).F t=σ.F t:=S8 _ _ h1
    rw [this] at hd
    exact .inr ⟨fun h=>by injection h with h; exact h1 h.symm,hd⟩
 refine⟨_,(ha.ren (σ':=σ.app dst (Go.Proofs.YtboglmbblmakjaaGreatDoor.kM sz cs ks)) (zT tk) (fun t d' hd=>?_) (fun k lb' hl=>?_) (fun k k' i h1 h2=>?_) (fun k hk=>⟨if_neg (by omega),B k (h0.pin k hk).2⟩) (fun t d k hd hm=>?_) (fun k lb hl=>?_)).1⟩
 ·rcases hFs t d' hd with ⟨rfl,rfl⟩ | ⟨h1,h2⟩
  ·refine⟨.row tk,dI _ _ _,.frz hLtk fun k hk=>?_⟩
   unfold zT at hk
   split at hk
   ·cases hk
   ·rename_i hne
    injection hk with hk
    exact hne hk
  ·refine⟨d',?_,Cv.self d' fun k hk hkt=>?_⟩
   ·cases dst with
    | none=>exact h2
    | some t'=>exact (S8 _ _ fun h=>h1 (by rw [h])).trans h2
   ·have:=h0.usedF t d' k h2 hk
    rw [hkt,hf] at this; cases this
 ·have h1:=hLs k lb' hl
  have hk:k≠tk:=fun h=>by
   have:=(h0.usedL k _ h1).1
   rw [h,hf] at this; cases this
  refine .inl ⟨k,lb',if_neg hk,(hLne k hk).trans hl,?_⟩
  cases lb' with
  | row e s c=>exact⟨rfl,rfl,rfl⟩
  | map l=>exact rfl
  | lop ts ds N rc=>exact⟨⟨rfl,rfl,rfl⟩,U5.self ds fun k' hk' hkt=>by
    have:=(h0.usedL k _ h1).2 k' hk'
    rw [hkt,hf] at this; cases this⟩
  | mit k2 n s=>
   refine⟨if_neg fun h=>?_,rfl,rfl⟩
   have:=(h0.usedL k _ h1).2 k2 rfl
   rw [h,hf] at this
   cases this
  | vec ds e=>exact⟨rfl,U5.self ds fun k' hk' hkt=>by
    have:=(h0.usedL k _ h1).2 k' hk'
    rw [hkt,hf] at this; cases this⟩
  | box ds ty=>exact⟨rfl,U5.self ds fun k' hk' hkt=>by
    have:=(h0.usedL k _ h1).2 k' hk'
    rw [hkt,hf] at this; cases this⟩
 ·unfold zT at h1 h2
  split at h1
  ·cases h1
  ·split at h2
   ·cases h2
   ·injection h1 with h1
    injection h2 with h2
    omega
 ·rcases hFs t d hd with ⟨rfl,rfl⟩ | ⟨h1,h2⟩
  ·unfold men at hm; exact hm.elim
  ·exact B k (h0.usedF t d k h2 hm)
 ·have h1:=h0.usedL k _ (hLs k lb hl)
  exact⟨B k h1.1,fun k' hk'=>B k' (h1.2 k' hk')⟩
end
def zB (fz:List Nat) (tk:Nat):Bool:=fz.any (Nat.beq tk)
def zM (fz:List Nat) (tk:Nat):Nat:=bif zB fz tk then 1 else 0
def Sl (np:Nat) (op:Op) (wr:List Nat):Bool:=!aD8 op || wr.all fun k=>Nat.ble np k
theorem rG {np:Nat} {op:Op} {wr:List Nat} (h:Sl np op wr=true):aD8 op=true->∀ k∈wr,np<=k:=fun h1 k hk=>by
 unfold Sl at h
 rw [h1] at h
 exact aC1 (aGo.1 h k hk)
theorem aJ4 {P:Program} {np tk:Nat} {op:Op} {ty:TypeId} {ds:List (DV×Option LB)} {env:qK} {wr wr':List Nat} {e:Q6} {E:Q6->Prop} (h:Ha P tk op ty ds wr e) (h':CallR P np tk op ty ds env wr' E):False:=by
 cases h' with
 | call=>cases h
 | callC=>cases h
 | callI=>cases h
 | callV=>cases h
 | nilE=>cases h with | binOpA q=>simp [Qv] at q
 | ext h'=>exact h'.excl h
def OpZ (P:Program) (np:Nat) (fz:List Nat) (tk:Nat) (op:Op) (ty:TypeId) (ds:List (DV×Option LB)) (wr:List Nat) (e:Q6):Prop:=
 Sl np op wr=true/\((zM fz tk=0/\Ha P tk op ty ds wr e)\/(zM fz tk=1/\∃ e0 et sz cs,Ha P tk op ty ds wr e0/\e0=Sq tk (.row et sz cs) wr (.row tk)/\e=kM sz cs wr))
def E4 (P:Program) (cx:Cx) (fz:List Nat):Sys P cx where
 R:=OpZ P cx.np fz
 C:=CallR P cx.np
 soundR:=by
  intro tk op ty ds wr e h ρ σ a w ha hds hf o ho hty hdst K Q hK
  have hf0:σ.U tk=false:=by have:=hf 0 (by omega); simpa using this
  obtain⟨hap,h⟩:=h
  rcases h with ⟨-,h⟩ | ⟨-,e0,et,sz,cs,h,rfl,rfl⟩
  ·exact h.sound ha hds hf0 ho hty hdst (rG hap) hK
  ·exact h.sound ha hds hf0 ho hty hdst (rG hap) fun a' w' h'=>hK a' w' (O8.frzE ha hf0 h')
 soundC:=by
  intro tk op ty ds env wr E h ρ σ a w ha hds henv hf o ho hty hdst K Q hK
  exact h.sound ha hds henv hf ho hdst hK
 func:=by
  intro w tk op ty ds wr e wr' e' h h'
  rcases h with ⟨-,⟨z,h⟩ | ⟨z,e0,et,sz,cs,h,q1,rfl⟩⟩ <;> rcases h' with ⟨-,⟨z',h'⟩ | ⟨z',e0',et',sz',cs',h',q1',rfl⟩⟩
  ·exact h.func w h'
  ·rw [z] at z'; cases z'
  ·rw [z] at z'; cases z'
  ·obtain⟨rfl,e1⟩:=h.func w h'
   refine⟨rfl,?_⟩
   rw [q1,q1'] at e1
   have:=congrFun (congrArg Q6.l e1) tk
   have this:(bif Nat.beq tk tk then some (some (LB.row et sz cs)) else _)=(bif Nat.beq tk tk then some (some (LB.row et' sz' cs')) else _):=this
   rw [aXq] at this
   injection this with this
   injection this with this
   injection this with t1 t2 t3
   rw [t2,t3]
 excl:=by
  intro tk op ty ds env wr e wr' E h h'
  rcases h with ⟨-,⟨-,h⟩ | ⟨-,e0,et,sz,cs,h,-⟩⟩ <;> exact aJ4 h h'
 keyR:=by
  intro tk op ty ds wr e h
  rcases h with ⟨-,⟨-,h⟩ | ⟨-,e0,et,sz,cs,h,-,rfl⟩⟩
  ·exact h.key
  ·intro k hk
   have hk':(bif wr.any (Nat.beq k) then some (none:Option LB) else none)≠none:=hk
   cases hb:wr.any (Nat.beq k) with
   | false=>rw [hb] at hk'; exact absurd rfl hk'
   | true=>
    obtain⟨j,hj,hj'⟩:=aLm.1 hb
    rw [aFs hj']
    exact .inl hj
 keyC:=fun h=>h.key
 subR:=by
  intro tk op ty ds wr e h
  rcases h with ⟨-,⟨-,h⟩ | ⟨-,e0,et,sz,cs,h,-⟩⟩
  ·exact h.sub
  ·exact h.sub
 subC:=fun h=>h.sub
 sim:=by
  intro tk op ty ds ds' wr e h hs
  rcases h with ⟨hap,⟨hz,h⟩ | ⟨hz,e0,et,sz,cs,h,he,h'⟩⟩
  ·exact⟨hap,.inl ⟨hz,h.sim hs⟩⟩
  ·exact⟨hap,.inr ⟨hz,e0,et,sz,cs,h.sim hs,he,h'⟩⟩
end Go.Proofs.YtboglmbblmakjaaGreatDoor
namespace Go.Proofs.YtboglmbblmakjaaGreatDoor
open Go.RowKit
section
variable {P:Program} {cx:Cx} {ops:Array Oper} {Rt:Option (List Nat)} {nb i:Nat} {l:List Oper} {lg:pF} {σ:St} {Q:St->Prop} {fz:List Nat}
theorem Lk {dst:Option Tmp} {op:Op} {ty:TypeId} {pos:String} {af:Array Edge} {g:Option (Nat×Bool)} {ds:List (DV×Option LB)} {rd wr:List Nat} {e:Q6} (G:Ly ops σ ⟨dst,op,ty,pos,af,g⟩=some true) (hds:Gk σ (Mp op) op.operands.toList=some ds) (h:Ha P (nb + 8 * i) op ty ds wr e)
  (hrd:(bif Mp op then Ol (Po op) ds else [])=rd) (hok:Nj Rt i false (nb + 8 * i) rd wr lg=true) (k:Chain (E4 P cx fz) ops Rt nb (Ft (i + 1) l) ((i,false,nb + 8 * i,rd,wr) :: lg) (σ.app dst e) Q) (hz:zM fz (nb + 8 * i)=0:=by rfl) (hap:Sl cx.np op wr=true:=by rfl) :
  Chain (E4 P cx fz) ops Rt nb (Ft i (⟨dst,op,ty,pos,af,g⟩ :: l)) lg σ Q:=
 .inl ⟨_,wr,e,.inr ⟨G,ds,hds,⟨hap,.inl ⟨hz,h⟩⟩,hrd.symm⟩,hok,k⟩
theorem yT {dst:Option Tmp} {op:Op} {ty:TypeId} {pos:String} {af:Array Edge} {g:Option (Nat×Bool)} {ds:List (DV×Option LB)} {rd wr:List Nat} {e:Q6} {et sz:Nat} {cs:List C} (G:Ly ops σ ⟨dst,op,ty,pos,af,g⟩=some true) (hds:Gk σ (Mp op) op.operands.toList=some ds) (h:Ha P (nb + 8 * i) op ty ds wr e) (he:e=Sq (nb + 8 * i) (.row et sz cs) wr (.row (nb + 8 * i)))
  (hrd:(bif Mp op then Ol (Po op) ds else [])=rd) (hok:Nj Rt i false (nb + 8 * i) rd wr lg=true) (k:Chain (E4 P cx fz) ops Rt nb (Ft (i + 1) l) ((i,false,nb + 8 * i,rd,wr) :: lg) (σ.app dst (kM sz cs wr)) Q) (hz:zM fz (nb + 8 * i)=1:=by rfl) (hap:Sl cx.np op wr=true:=by rfl) :
  Chain (E4 P cx fz) ops Rt nb (Ft i (⟨dst,op,ty,pos,af,g⟩ :: l)) lg σ Q:=
 .inl ⟨_,wr,_,.inr ⟨G,ds,hds,⟨hap,.inr ⟨hz,e,et,sz,cs,h,he,rfl⟩⟩,hrd.symm⟩,hok,k⟩
theorem aHw {dst:Option Tmp} {op:Op} {ty:TypeId} {pos:String} {af:Array Edge} {g:Option (Nat×Bool)} (G:Ly ops σ ⟨dst,op,ty,pos,af,g⟩=some false)
  (hok:Nj Rt i false (nb + 8 * i) [] [] lg=true) (k:Chain (E4 P cx fz) ops Rt nb (Ft (i + 1) l) ((i,false,nb + 8 * i,[],[]) :: lg) (σ.app dst vN) Q) :
  Chain (E4 P cx fz) ops Rt nb (Ft i (⟨dst,op,ty,pos,af,g⟩ :: l)) lg σ Q:=
 .inl ⟨_,_,_,.inl ⟨G,rfl,rfl,rfl⟩,hok,k⟩
theorem Mq {dst:Option Tmp} {op:Op} {ty:TypeId} {pos:String} {af:Array Edge} {g:Nat} {b c:Bool} {t:Tmp} (ht:(ops[g]?).bind (·.dst)=some t) (hF:σ.F t=some (.val (.bool c))) (hc:c=b):Ly ops σ ⟨dst,op,ty,pos,af,some (g,b)⟩=some true:=by
 subst hc
 unfold Ly
 simp only []
 rw [ht]
 simp only []
 rw [hF]
 simp
theorem aLc {dst:Option Tmp} {op:Op} {ty:TypeId} {pos:String} {af:Array Edge} {g:Nat} {b c:Bool} {t:Tmp} (ht:(ops[g]?).bind (·.dst)=some t) (hF:σ.F t=some (.val (.bool c))) (hc:c=!b):Ly ops σ ⟨dst,op,ty,pos,af,some (g,b)⟩=some false:=by
 subst hc
 unfold Ly
 simp only []
 rw [ht]
 simp only []
 rw [hF]
 cases b <;> rfl
theorem aFh {f:FuncId} {xs:Array Operand} {tys:Array TypeId} {dsA:List (DV×Option LB)} (h:Gk σ true xs.toList=some dsA):Gk σ (Mp (.call ⟨.value (.func f),xs,tys⟩)) (Op.call ⟨.value (.func f),xs,tys⟩).operands.toList=some ((.val (.func (.func f) #[] #[]),none) :: dsA):=by
 have:(Op.call ⟨.value (.func f),xs,tys⟩).operands.toList=.func f :: xs.toList:=by simp [Op.operands,Call.operands]
 rw [this]
 show Gk σ true (.func f :: xs.toList)=_
 unfold Gk
 rw [h]
 rfl
theorem mV {t:Tmp} {xs:Array Operand} {tys:Array TypeId} {q:DV×Option LB} {dsA:List (DV×Option LB)} (h0:ev σ true (.tmp t)=some q) (h:Gk σ true xs.toList=some dsA):Gk σ (Mp (.call ⟨.value (.tmp t),xs,tys⟩)) (Op.call ⟨.value (.tmp t),xs,tys⟩).operands.toList=some (q :: dsA):=by
 have:(Op.call ⟨.value (.tmp t),xs,tys⟩).operands.toList=.tmp t :: xs.toList:=by simp [Op.operands,Call.operands]
 rw [this]
 show Gk σ true (.tmp t :: xs.toList)=_
 unfold Gk
 rw [h0,h]
theorem Gt {dst:Option Tmp} {f:FuncId} {xs:Array Operand} {tys:Array TypeId} {ty:TypeId} {pos:String} {af:Array Edge} {g:Option (Nat×Bool)} {dsA:List (DV×Option LB)} {rd ps gs:List Nat} {args:List DV} {bx:List LB} {R:DV->List LB->Prop} (fl:Bool)
  (G:Ly ops σ ⟨dst,.call ⟨.value (.func f),xs,tys⟩,ty,pos,af,g⟩=some true)
  (hF:Fn P f ps.length args bx R) (hds:Gk σ true xs.toList=some dsA) (hrd:Ss σ 3 (Tz dsA)=rd) (hA:H1 fl (ps ++ gs) (Kz σ rd) (dsA.map (·.1)) args) (hB:Zv fl (ps ++ gs) (Kz σ rd) (ps ++ gs) bx) (hnd:O5 cx.np ps gs=true) (hfl:fl=true->∀ r b,R r b->Kl r/\∀ lb∈b,Pr lb)
  (hok:Nj Rt i true (nb + 8 * i) rd (ps ++ gs) lg=true) (hne:Rt.isSome=true->∃ r b,R r b/\ps.length<=b.length/\b.length<=ps.length + 8)
  (k:∀ r b,R r b->Chain (E4 P cx fz) ops Rt nb (Ft (i + 1) l) ((i,true,nb + 8 * i,rd,ps ++ gs) :: lg) (σ.app dst (P3 ps gs (nb + 8 * i) r b)) Q) :
  Chain (E4 P cx fz) ops Rt nb (Ft i (⟨dst,.call ⟨.value (.func f),xs,tys⟩,ty,pos,af,g⟩ :: l)) lg σ Q:=by
 subst hrd
 refine .inr ⟨_,ps ++ gs,_,⟨G,_,aFh hds,.call fl hF hA hB hnd hfl,rfl⟩,hok,fun h=>?_,?_⟩
 ·obtain⟨r,b,h1,h2,h3⟩:=hne h
  exact⟨_,r,b,h1,rfl,h2,h3⟩
 ·rintro e ⟨r,b,h1,rfl,-,-⟩
  exact k r b h1
theorem kU {dst:Option Tmp} {t:Tmp} {f:FuncId} {n:Nat} {cs:List DV} {q:Option LB} {xs:Array Operand} {tys:Array TypeId} {ty:TypeId} {pos:String} {af:Array Edge} {g:Option (Nat×Bool)} {dsA:List (DV×Option LB)} {rd ps gs:List Nat} {args:List DV} {bx:List LB} {R:DV->List LB->Prop} (fl:Bool)
  (G:Ly ops σ ⟨dst,.call ⟨.value (.tmp t),xs,tys⟩,ty,pos,af,g⟩=some true) (hc:ev σ true (.tmp t)=some (.clo f n cs,q))
  (hF:Fn P f ps.length args bx R) (hds:Gk σ true xs.toList=some dsA) (hrd:Ss σ 3 (P0 cs ++ Tz dsA)=rd) (hA:H1 fl (ps ++ gs) (Kz σ rd) (cs.take n ++ (dsA.map (·.1) ++ cs.drop n)) args) (hB:Zv fl (ps ++ gs) (Kz σ rd) (ps ++ gs) bx) (hnd:O5 cx.np ps gs=true) (hfl:fl=true->∀ r b,R r b->Kl r/\∀ lb∈b,Pr lb)
  (hok:Nj Rt i true (nb + 8 * i) rd (ps ++ gs) lg=true) (hne:Rt.isSome=true->∃ r b,R r b/\ps.length<=b.length/\b.length<=ps.length + 8)
  (k:∀ r b,R r b->Chain (E4 P cx fz) ops Rt nb (Ft (i + 1) l) ((i,true,nb + 8 * i,rd,ps ++ gs) :: lg) (σ.app dst (P3 ps gs (nb + 8 * i) r b)) Q) :
  Chain (E4 P cx fz) ops Rt nb (Ft i (⟨dst,.call ⟨.value (.tmp t),xs,tys⟩,ty,pos,af,g⟩ :: l)) lg σ Q:=by
 subst hrd
 refine .inr ⟨_,ps ++ gs,_,⟨G,_,mV hc hds,.callC fl hF hA hB hnd hfl,rfl⟩,hok,fun h=>?_,?_⟩
 ·obtain⟨r,b,h1,h2,h3⟩:=hne h
  exact⟨_,r,b,h1,rfl,h2,h3⟩
 ·rintro e ⟨r,b,h1,rfl,-,-⟩
  exact k r b h1
theorem aD0 {dst:Option Tmp} {t:Tmp} {nm:String} {t0:TypeId} {sz:Nat} {cs:List C} {q:Option LB} {f:FuncId} {tys:Array TypeId} {ty:TypeId} {pos:String} {af:Array Edge} {g:Option (Nat×Bool)} {R:DV->List LB->Prop}
  (G:Ly ops σ ⟨dst,.call ⟨.invoke (.tmp t) nm,#[],tys⟩,ty,pos,af,g⟩=some true) (hc:ev σ true (.tmp t)=some (.imm (.ifc t0 (.sl sz cs)),q))
  (hm:∀ v w,(Go.method (P.types.size + Made.depth) t0 v nm).run P w=.ok (f,v) w) (hF:Fn P f 0 [.sl sz cs] [] R)
  (hok:Nj Rt i true (nb + 8 * i) [] [] lg=true) (hne:Rt.isSome=true->∃ r b,R r b/\b.length<=8)
  (k:∀ r b,R r b->Chain (E4 P cx fz) ops Rt nb (Ft (i + 1) l) ((i,true,nb + 8 * i,[],[]) :: lg) (σ.app dst (P3 [] [] (nb + 8 * i) r b)) Q) :
  Chain (E4 P cx fz) ops Rt nb (Ft i (⟨dst,.call ⟨.invoke (.tmp t) nm,#[],tys⟩,ty,pos,af,g⟩ :: l)) lg σ Q:=by
 refine .inr ⟨_,[],_,⟨G,_,(show Gk σ true [.tmp t]=_ by unfold Gk; rw [hc]; rfl),.callI hm hF,rfl⟩,hok,fun h=>?_,?_⟩
 ·obtain⟨r,b,h1,h2⟩:=hne h
  exact⟨_,r,b,h1,rfl,aLi _,by simpa using h2⟩
 ·rintro e ⟨r,b,h1,rfl,-,-⟩
  exact k r b h1
theorem aFy {dst:Option Tmp} {t:Tmp} {f:FuncId} {q:Option LB} {xs:Array Operand} {tys:Array TypeId} {ty:TypeId} {pos:String} {af:Array Edge} {g:Option (Nat×Bool)} {dsA:List (DV×Option LB)} {rd ps gs:List Nat} {args:List DV} {bx:List LB} {R:DV->List LB->Prop} (fl:Bool)
  (G:Ly ops σ ⟨dst,.call ⟨.value (.tmp t),xs,tys⟩,ty,pos,af,g⟩=some true) (hc:ev σ true (.tmp t)=some (.val (.func (.func f) #[] #[]),q))
  (hF:Fn P f ps.length args bx R) (hds:Gk σ true xs.toList=some dsA) (hrd:Ss σ 3 (Tz dsA)=rd) (hA:H1 fl (ps ++ gs) (Kz σ rd) (dsA.map (·.1)) args) (hB:Zv fl (ps ++ gs) (Kz σ rd) (ps ++ gs) bx) (hnd:O5 cx.np ps gs=true) (hfl:fl=true->∀ r b,R r b->Kl r/\∀ lb∈b,Pr lb)
  (hok:Nj Rt i true (nb + 8 * i) rd (ps ++ gs) lg=true) (hne:Rt.isSome=true->∃ r b,R r b/\ps.length<=b.length/\b.length<=ps.length + 8)
  (k:∀ r b,R r b->Chain (E4 P cx fz) ops Rt nb (Ft (i + 1) l) ((i,true,nb + 8 * i,rd,ps ++ gs) :: lg) (σ.app dst (P3 ps gs (nb + 8 * i) r b)) Q) :
  Chain (E4 P cx fz) ops Rt nb (Ft i (⟨dst,.call ⟨.value (.tmp t),xs,tys⟩,ty,pos,af,g⟩ :: l)) lg σ Q:=by
 subst hrd
 refine .inr ⟨_,ps ++ gs,_,⟨G,_,mV hc hds,.callV fl hF hA hB hnd hfl,rfl⟩,hok,fun h=>?_,?_⟩
 ·obtain⟨r,b,h1,h2,h3⟩:=hne h
  exact⟨_,r,b,h1,rfl,h2,h3⟩
 ·rintro e ⟨r,b,h1,rfl,-,-⟩
  exact k r b h1
theorem Yk {dst:Option Tmp} {t yt:TypeId} {X Y:Operand} {ty:TypeId} {pos:String} {af:Array Edge} {g:Option (Nat×Bool)} {sz:Nat} {cs:List C} {b1 b2:Option LB}
  (G:Ly ops σ ⟨dst,.binOp .eql t X Y yt,ty,pos,af,g⟩=some true) (hds:Gk σ false [X,Y]=some [(.sl sz cs,b1),(.val (.slice none 0 0),b2)]) (hn:∃ e,P.underlying t=some (.slice e))
  (hok:Nj Rt i true (nb + 8 * i) [] [] lg=true) (k:∀ b:Bool,(b=true->cs=[])->Chain (E4 P cx fz) ops Rt nb (Ft (i + 1) l) ((i,true,nb + 8 * i,[],[]) :: lg) (σ.app dst (v0 (.val (.bool b)))) Q) :
  Chain (E4 P cx fz) ops Rt nb (Ft i (⟨dst,.binOp .eql t X Y yt,ty,pos,af,g⟩ :: l)) lg σ Q:=by
 refine .inr ⟨_,[],_,⟨G,_,hds,.nilE hn,rfl⟩,hok,fun h=>⟨_,false,fun h=>(by cases h),rfl⟩,?_⟩
 rintro e ⟨b,h1,rfl⟩
 exact k b h1
theorem Zc {dst:Option Tmp} {op:Op} {ty:TypeId} {pos:String} {af:Array Edge} {g:Option (Nat×Bool)} {ds:List (DV×Option LB)} {rd wr:List Nat} {E:Q6->Prop}
  (G:Ly ops σ ⟨dst,op,ty,pos,af,g⟩=some true) (hds:Gk σ (Mp op) op.operands.toList=some ds) (hx:ExtR P cx.np (nb + 8 * i) op ty ds (Kz σ rd) wr E) (hrd:Ss σ 3 (Tz ds)=rd)
  (hok:Nj Rt i true (nb + 8 * i) rd wr lg=true) (hne:Rt.isSome=true->∃ e,E e) (k:∀ e,E e->Chain (E4 P cx fz) ops Rt nb (Ft (i + 1) l) ((i,true,nb + 8 * i,rd,wr) :: lg) (σ.app dst e) Q) :
  Chain (E4 P cx fz) ops Rt nb (Ft i (⟨dst,op,ty,pos,af,g⟩ :: l)) lg σ Q:=by
 subst hrd
 exact .inr ⟨_,wr,_,⟨G,_,hds,.ext hx,rfl⟩,hok,hne,k⟩
theorem aWh {Q:Exit->St->Prop} {nb':Nat} (h:(∀ j,nb'<=j->σ.U j=false)->Q .normal σ):Chain (E4 P cx fz) ops Rt nb (Ft i []) lg σ (fun σ'=>(∀ j,nb'<=j->σ'.U j=false)->Q .normal σ'):=h
theorem Gu {fl:List (Nat×DV)} {ll:List (Nat×LB)} {n:Nat}:∀ k,n<=k->(mk fl ll n).U k=false:=fun k hk=>by
 show Nat.blt k n=false
 cases h:Nat.blt k n with
 | false=>rfl
 | true=>have:k + 1<=n:=aC1 h; omega
end
section
variable {P:Program} {t:TypeId} {X Y:Operand}
abbrev BO (P:Program) (op:BinOp) (t:TypeId) (X Y:Operand) (vx vy v:Value):Prop:=∀ w,(do eqGuard op t X Y vx vy; binOp op t vx vy:Sem Value).run P w=.ok v w
theorem aOp {k:IntKind} {x y:Int}:BO P .lss t X Y (.int k x) (.int k y) (.bool (decide (x < y))):=fun w=>by simp [eqGuard,binOp,Op.intCmp]
theorem aNe {k:IntKind} {x y:Int}:BO P .leq t X Y (.int k x) (.int k y) (.bool (decide (x<=y))):=fun w=>by simp [eqGuard,binOp,Op.intCmp]
theorem aN7 {k:IntKind} {x y:Int}:BO P .gtr t X Y (.int k x) (.int k y) (.bool (decide (y < x))):=fun w=>by simp [eqGuard,binOp,Op.intCmp]
theorem aN4 {k:IntKind} {x y:Int}:BO P .geq t X Y (.int k x) (.int k y) (.bool (decide (y<=x))):=fun w=>by simp [eqGuard,binOp,Op.intCmp]
theorem aP5 {k:IntKind} {x y:Int}:BO P .eql t X Y (.int k x) (.int k y) (.bool (decide (x=y))):=fun w=>by
 simp [eqGuard,binOp,Op.intCmp]
 rfl
theorem aPp {k:IntKind} {x y:Int}:BO P .neq t X Y (.int k x) (.int k y) (.bool (decide (x≠y))):=fun w=>by
 simp [eqGuard,binOp,Op.intCmp]
 rfl
theorem aH4 {k:IntKind} {x y:Int}:BO P .add t X Y (.int k x) (.int k y) (.int k (k.wrap (x + y))):=fun w=>by simp [eqGuard,binOp,Op.intArith]
theorem aGk {k:IntKind} {x y:Int}:BO P .sub t X Y (.int k x) (.int k y) (.int k (k.wrap (x - y))):=fun w=>by simp [eqGuard,binOp,Op.intArith]
theorem yI {k:IntKind} {x y:Int}:BO P .mul t X Y (.int k x) (.int k y) (.int k (k.wrap (x * y))):=fun w=>by simp [eqGuard,binOp,Op.intArith]
theorem aMr {k:IntKind} {x y:Int} (h:y≠0):BO P .rem t X Y (.int k x) (.int k y) (.int k (x.tmod y)):=fun w=>by simp [eqGuard,binOp,Op.intDiv,h]
theorem aN9 {k:IntKind} {x y:Int} (h:y≠0):BO P .quo t X Y (.int k x) (.int k y) (.int k (k.wrap (x.tdiv y))):=fun w=>by simp [eqGuard,binOp,Op.intDiv,h]
theorem mD (a b:ByteArray):(a.toList == b.toList)=decide (a=b):=by
 rw [ByteArray.toList_eq,ByteArray.toList_eq]
 by_cases h:a=b
 ·subst h; simp
 ·rw [aBc h]
  refine beq_eq_false_iff_ne.2 fun e=>h ?_
  cases a; cases b
  simp only [ByteArray.mk.injEq]
  exact Array.toList_inj.1 e
theorem aJv {a b:ByteArray}:BO P .eql t X Y (.string a) (.string b) (.bool (decide (a=b))):=fun w=>by
 simp [eqGuard,binOp,Op.stringOp,mD]
theorem aJ0 {a b:ByteArray}:BO P .neq t X Y (.string a) (.string b) (.bool (decide (a≠b))):=fun w=>by
 simp [eqGuard,binOp,Op.stringOp,mD]
theorem aPf {b:Bool}:∀ w,(Op.unary .not (.bool b)).run P w=.ok (.bool (!b)) w:=fun w=>by simp [Op.unary]
theorem aOc {k:IntKind} {x:Int}:∀ w,(Op.unary .neg (.int k x)).run P w=.ok (.int k (k.wrap (-x))) w:=fun w=>by simp [Op.unary,Op.intArith]
theorem oZ {src dst:TypeId} {k k':IntKind} {n:Int} (hs:(P.underlying src).isSome=true) (hd:P.underlying dst=some (.int k')):∀ w,(convert src dst (.int k n)).run P w=.ok (.int k' (k'.wrap n)) w:=fun w=>by
 obtain⟨d,hd'⟩:=Option.isSome_iff_exists.mp hs
 simp [convert,run_underlying hd',run_underlying hd,Conv.intToInt]
end
end Go.Proofs.YtboglmbblmakjaaGreatDoor
