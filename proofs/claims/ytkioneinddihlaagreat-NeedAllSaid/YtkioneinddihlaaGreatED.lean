import Derived.Test.YtkioneinddihlaaGreatEX
import Derived.Laws.Cover3
import Derived.IntWalk
import Derived.Laws.StructEq
set_option linter.unusedVariables false
set_option linter.unusedSimpArgs false
namespace Go.Proofs.YtkioneinddihlaaGreat
open Go.RowKit
def Ko:List C->Prop
 | []=>True
 | .int k n :: l=>(k.min<=n/\n<=k.max)/\Ko l
 | .bool _ :: l=>Ko l
 | .str s :: l=>s.size<=maxLen/\Ko l
 | .raw _ :: l=>Ko l
 | .mp _ :: l=>Ko l
 | .sl sz cs :: l=>(∃ n,cs.length=n * sz/\n<=maxLen)/\Ko cs/\Ko l
mutual
theorem El.ok {w:World} {S:Nat->Prop}:∀ (c:C) (v:Value),El w S c v->Ko [c]
 | .int k n,v,h=>by unfold Ko; unfold El at h; exact⟨h.2,by unfold Ko; trivial⟩
 | .bool _,_,_=>by unfold Ko; unfold Ko; trivial
 | .str s,v,h=>by unfold Ko; unfold El at h; exact⟨h.2,by unfold Ko; trivial⟩
 | .raw _,_,_=>by unfold Ko; unfold Ko; trivial
 | .mp _,_,_=>by unfold Ko; unfold Ko; trivial
 | .sl sz cs,v,h=>by
  unfold Ko
  unfold El at h
  obtain⟨A,n,cap,h1,h2,h3,h4,h5⟩:=h
  refine⟨⟨n,h2,aH4 h3 h4⟩,?_,by unfold Ko; trivial⟩
  rcases aH2 n with h0 | h0
  ·subst h0
   have:cs=[]:=aFc (by simpa using h2)
   subst this
   unfold Ko; trivial
  ·obtain⟨ad,-,-,h8⟩:=h5 h0
   exact Jw.ok ad cs 0 h8
theorem Jw.ok {w:World} {S:Nat->Prop} (ad:Addr):∀ (cs:List C) (i:Nat),Jw w S ad i cs->Ko cs
 | [],_,_=>by unfold Ko; trivial
 | c :: cs,i,h=>by
  unfold Jw at h
  obtain⟨⟨u,_,h1⟩,h2⟩:=h
  have a:=El.ok c u h1
  have b:=Jw.ok ad cs (i + 1) h2
  cases c <;> unfold Ko at a ⊢ <;> first | exact⟨a.1,b⟩ | exact b | exact⟨a.1,a.2.1,b⟩
end
theorem mE {w:World} {S:Nat->Prop}:∀ {cs:List C} {us:List Value},Fl w S cs us->Ko cs
 | [],_,_=>by unfold Ko; trivial
 | c :: cs,[],h=>by have:=h.1; simp at this
 | c :: cs,u :: us,h=>by
  have a:=El.ok c u (h.2 0 c u rfl rfl)
  have b:=mE (cs:=cs) (us:=us) ⟨by simpa using h.1,fun j c' u' x y=>h.2 (j + 1) c' u' (by simpa using x) (by simpa using y)⟩
  cases c <;> unfold Ko at a ⊢ <;> first | exact⟨a.1,b⟩ | exact b | exact⟨a.1,a.2.1,b⟩
mutual
def kD:DV->Prop
 | .sl sz cs=>(∃ n,cs.length=n * sz/\n<=maxLen)/\Ko cs
 | .slc sz cs=>(∃ n,cs.length=n * sz/\n<=maxLen)/\Ko cs
 | .mp _=>True
 | .elt cs=>Ko cs
 | .agg ds=>jE ds
 | .tup ds=>jE ds
 | .clo _ _ _=>True
 | .val _=>True
 | .row _=>True
 | .part _ _ _=>True
 | .ptr _ _=>True
 | .nst _ _ _=>True
 | .npt _ _ _ _=>True
def jE:List DV->Prop
 | []=>True
 | d :: ds=>kD d/\jE ds
end
def okB:LB->Prop
 | .box ds _=>jE ds
 | .row _ sz cs=>(∃ n,cs.length=n * sz/\n<=maxLen)/\Ko cs
 | .map _=>True
 | .mit ..=>True
 | .vec ds _=>jE ds
 | .tree ..=>True
 | .gho=>True
mutual
theorem Cp.ok {ρ:Nat->Value} {I:Nat->Prop} {w:World}:∀ (d:DV) (v:Value),Cp ρ I w d v->kD d
 | .val _,_,_=>by unfold kD; trivial
 | .sl sz cs,v,h=>by
  unfold Cp at h
  have:=El.ok _ _ h
  unfold Ko at this
  unfold kD
  exact⟨this.1,this.2.1⟩
 | .mp _,_,_=>by unfold kD; trivial
 | .slc sz cs,v,h=>by
  unfold Cp at h
  have:=El.ok _ _ h.1
  unfold Ko at this
  unfold kD
  exact⟨this.1,this.2.1⟩
 | .row _,_,_=>by unfold kD; trivial
 | .part _ _ _,_,_=>by unfold kD; trivial
 | .ptr _ _,_,_=>by unfold kD; trivial
 | .nst _ _ _,_,_=>by unfold kD; trivial
 | .npt _ _ _ _,_,_=>by unfold kD; trivial
 | .elt cs,v,h=>by
  unfold Cp at h
  obtain⟨ad,-,-,h⟩:=h
  unfold kD
  exact Jw.ok ad cs 0 h
 | .agg ds,v,h=>by
  unfold Cp at h
  obtain⟨vs,-,-,h⟩:=h
  unfold kD
  exact Cb.ok ds vs h
 | .clo _ _ _,_,_=>by unfold kD; trivial
 | .tup ds,v,h=>by
  unfold Cp at h
  obtain⟨vs,-,h⟩:=h
  unfold kD
  exact Cb.ok ds vs h
theorem Cb.ok {ρ:Nat->Value} {I:Nat->Prop} {w:World}:∀ (ds:List DV) (vs:List Value),Cb ρ I w ds vs->jE ds
 | [],_,_=>by unfold jE; trivial
 | d :: ds,vs,h=>by
  unfold Cb at h
  obtain⟨u,us,-,h1,h2⟩:=h
  unfold jE
  exact⟨Cp.ok d u h1,Cb.ok ds us h2⟩
end
theorem Q5.ok {cx:Cx} {ρ:Nat->Value} {I:Nat->Prop} {w:World} {v:Value} {lb:LB} (h:Q5 cx ρ I w v lb):okB lb:=by
 cases lb with
 | box ds ty=>
  obtain⟨b,vs,-,-,-,-,h5⟩:=h
  exact Cb.ok ds vs h5
 | row e sz cs=>
  obtain⟨n,us,ho,-,hr⟩:=h
  refine⟨⟨n,by rw [hr.1,ho.1],?_⟩,mE hr⟩
  rcases ho.2 with ⟨-,-,rfl⟩ | ⟨g,cap,cur,-,-,-,h2,h3,-⟩
  ·exact aFf _
  ·exact aH4 h2 h3
 | map l=>trivial
 | mit k n s=>trivial
 | tree=>trivial
 | gho=>trivial
 | vec ds e=>
  obtain⟨b,vs,-,-,-,-,-,h5⟩:=h
  exact Cb.ok ds vs h5
def eD (P:Program) (f:FuncId):Prop:=∀ (vs:Array Value) (w:World),(callFunc f vs).run P w=.ok (.enter f vs) w
theorem eD.of {P:Program} {f:FuncId} {fn:Func} (hf:P.funcs[f]?=some fn) (hn:(fn.name == "runtime.NumGoroutine")=false) (hb:fn.body.isNone=false):eD P f:=by
 intro vs w
 simp only [callFunc,Sem.run_bind,run_program,Result.andThen_ok,hf,hn,hb,aPn,if_false,Sem.run_pure]
def ix:Nat->List LB->List (Nat×LB)
 | _,[]=>[]
 | k,x :: l=>(k,x) :: ix (k + 1) l
theorem mC:∀ {l:List LB} {k i:Nat},E5 (ix k l) (k + i)=l[i]?
 | [],k,i=>by simp [ix,E5]
 | x :: l,k,0=>by simp [ix,E5]
 | x :: l,k,i + 1=>by
  unfold ix E5
  have:Nat.beq (k + (i + 1)) k=false:=by
   cases h:Nat.beq (k + (i + 1)) k with
   | false=>rfl
   | true=>have:=aEr h; omega
  rw [this]
  simp only [aD6]
  rw [show k + (i + 1)=(k + 1) + i by omega,mC]
  simp
theorem rK {l:List LB} {k:Nat} {lb:LB}:E5 (ix 0 l) k=some lb↔l[k]?=some lb:=by
 have:=mC (l:=l) (k:=0) (i:=k)
 rw [aI4] at this
 rw [this]
def noT:LB->Bool
 | .tree ..=>false
 | _=>true
theorem mZ {ρ:Nat->Value} {v:Value} {lb:LB} {b:Nat} (h:noT lb=true) (ho:own ρ v lb b):Dd v=some b:=by
 cases lb with
 | tree=>cases h
 | gho=>exact ho.elim
 | _=>exact ho
structure aFj (ρ:Nat->Value) (I:Nat->Prop) (w:World) (np nq:Nat) (v:Value) (r:DV) (bx:List LB) (w':World):Prop where
 le:np<=bx.length/\bx.length<=np + 8
 os:w'.os=w.os/\w'.tape=w.tape/\w'.output=w.output/\w.heap.size<=w'.heap.size
 kept:∀ b,b < w.heap.size->(∀ k,k < nq->Dd (ρ k)≠some b)->w'.heap[b]?=w.heap[b]?
 data:∃ (ρ':Nat->Value) (J:Nat->Prop),(∀ k,k < np->ρ' k=ρ k)/\(∀ b,J b->b < w'.heap.size/\(b < w.heap.size->I b\/∃ k,np<=k/\k < nq/\Dd (ρ k)=some b)/\∀ k lb,bx[k]?=some lb->¬ own ρ' (ρ' k) lb b)/\Cp ρ' J w' r v/\
  (∀ (k:Nat) (lb:LB),bx[k]?=some lb->Q5 ⟨w,I,ρ,np,nq,0⟩ ρ' J w' (ρ' k) lb)/\(∀ k lb b,np<=k->bx[k]?=some lb->own ρ' (ρ' k) lb b->w.heap.size<=b\/∃ k,np<=k/\k < nq/\Dd (ρ k)=some b)/\
  (∀ k k' lb lb' b,bx[k]?=some lb->bx[k']?=some lb'->own ρ' (ρ' k) lb b->own ρ' (ρ' k') lb' b->k=k')
 men:(∀ k,Go.Proofs.YtkioneinddihlaaGreat.men r k->k < bx.length)/\∀ (k:Nat) (lb:LB),bx[k]?=some lb->∀ k',Oj lb k'->k' < bx.length
 nt:∀ (k:Nat) (lb:LB),k < np->bx[k]?=some lb->noT lb=true
def mN (ρ:Nat->Value) (I:Nat->Prop) (w:World) (v:Value):LB->Prop
 | .box ds ty=>∃ b vs,v=.pointer (some ⟨b,0,none⟩)/\w.heap[b]?=some (.cells vs.toArray ty)/\(∀ u∈vs,u.oneCell'=true)/\Cb ρ I w ds vs
 | .row e sz cs=>∃ n us,w.rowOk e sz v n us/\Fl w I cs us
 | _=>False
theorem mN.own {ρ:Nat->Value} {I:Nat->Prop} {w:World} {v:Value} {lb:LB} {b:Nat} (h:mN ρ I w v lb) (ho:Go.Proofs.YtkioneinddihlaaGreat.own ρ v lb b):Dd v=some b:=by
 cases lb with
 | box ds ty=>exact ho
 | row e sz cs=>exact ho
 | _=>exact h.elim
def Fn (P:Program) (f:FuncId) (np:Nat) (args:List DV) (bx:List LB) (R:DV->List LB->Prop):Prop:=
 np<=bx.length/\eD P f/\∀ (ρ:Nat->Value) (I:Nat->Prop) (w:World) (vs:List Value),
  (∀ b,I b->b < w.heap.size/\∀ k,k < bx.length->Dd (ρ k)≠some b)->Cb ρ I w args vs->(∀ k lb,bx[k]?=some lb->mN ρ I w (ρ k) lb)->
  (∀ k k' b,k < bx.length->k' < bx.length->Dd (ρ k)=some b->Dd (ρ k')=some b->k=k')->
  Calls P f vs.toArray w fun e w'=>∃ v r bx',e=.returned v/\R r bx'/\aFj ρ I w np bx.length v r bx' w'
theorem Fn.mono {P:Program} {f np:Nat} {args:List DV} {bx:List LB} {R R':DV->List LB->Prop} (h:Fn P f np args bx R) (hr:∀ r b,R r b->R' r b):Fn P f np args bx R':=
 ⟨h.1,h.2.1,fun ρ I w vs a b c d=>(h.2.2 ρ I w vs a b c d).mono (by rintro e w' ⟨v,r,bx',h1,h2,h3⟩; exact⟨v,r,bx',h1,hr r bx' h2,h3⟩)⟩
inductive pQ (P:Program) (σ:St):ResultVar->DV->Prop
 | tmp {t d} (h:σ.F t=some d):pQ P σ (.tmp t) d
 | cell1 {t ty k ds bt sz d} (h:σ.F t=some (.ptr k 0)) (hl:σ.L k=some (.box ds bt)) (ht:Ty P ty false sz) (hd:ds[0]?=some d):pQ P σ (.cell t ty) d
 | cellA {t ty k ds bt sz} (h:σ.F t=some (.ptr k 0)) (hl:σ.L k=some (.box ds bt)) (ht:Ty P ty true sz) (hs:ds.length=sz):pQ P σ (.cell t ty) (.agg ds)
inductive Qs (P:Program) (σ:St):List ResultVar->List DV->Prop
 | nil:Qs P σ [] []
 | cons {x d l ds} (h:pQ P σ x d) (hs:Qs P σ l ds):Qs P σ (x :: l) (d :: ds)
def tC:List DV->DV
 | [d]=>d
 | ds=>.tup ds
def aD:Nat->List DV->List (Nat×DV)
 | _,[]=>[]
 | k,d :: l=>(k,d) :: aD (k + 1) l
section
variable {P:Program} {cx:Cx} {ρ:Nat->Value} {σ:St} {a:Act} {w:World}
theorem pQ.run (ha:D7 cx ρ σ a w) {x:ResultVar} {d:DV} (h:pQ P σ x d):∃ v,(match x with | .tmp t=>(pure (a.tmps.getD t undef):Sem Value) | .cell b t=>do loadVar t (<- asAddr (a.tmps.getD b undef))).run P w=.ok v w/\Cp ρ (K5 cx σ ρ w) w d v/\∀ k,men d k->σ.U k=true:=by
 cases h with
 | tmp h=>exact⟨_,rfl,ha.fr _ _ h,fun k hk=>ha.usedF _ _ k h hk⟩
 | cell1 h hl ht hd=>
  have h1:=ha.fr _ _ h
  unfold Cp at h1
  obtain⟨g,G,hv⟩:=h1
  obtain⟨g',vs,q1,q2,-,q4,q5⟩:=ha.lo _ _ hl
  rw [q1] at G
  injection G with G
  subst G
  obtain⟨v,hv',hd'⟩:=q5.at_ hd
  have hc:w.cell? ⟨g',0,none⟩=some v:=by simp [World.cell?,q2,hv']
  refine⟨v,?_,hd',fun k hk=>(ha.usedL _ _ hl).2 k (by unfold Oj; exact Nj.menL_at hd hk)⟩
  have:=K8 (w:=w) ht hc
  simp only [Instr.loadAt,Instr.sureAddr,Sem.run_bind,Sem.run_pure,Result.andThen_ok] at this
  simp only [hv,asAddr,Sem.run_bind,Sem.run_pure,Result.andThen_ok,this]
 | @cellA t ty k ds bt sz h hl ht hs=>
  have h1:=ha.fr _ _ h
  unfold Cp at h1
  obtain⟨g,G,hv⟩:=h1
  obtain⟨g',vs,q1,q2,-,q4,q5⟩:=ha.lo _ _ hl
  rw [q1] at G
  injection G with G
  subst G
  refine⟨.agg vs.toArray,?_,by unfold Cp; exact⟨vs,rfl,q4,q5⟩,fun k hk=>(ha.usedL _ _ hl).2 k (by unfold Oj; unfold men at hk; exact hk)⟩
  have:=Pq (w:=w) ht (ad:=⟨g',0,none⟩) (vs:=vs) (by rw [<- q5.length]; exact hs) (fun j v hj=>by rw [Jg,aI4]; simp [World.cell?,q2,hj])
  simp only [Instr.loadAt,Instr.sureAddr,Sem.run_bind,Sem.run_pure,Result.andThen_ok] at this
  simp only [hv,asAddr,Sem.run_bind,Sem.run_pure,Result.andThen_ok,this]
end
end Go.Proofs.YtkioneinddihlaaGreat
namespace Go.Proofs.YtkioneinddihlaaGreat
open Go.RowKit
section
variable {P:Program} {cx:Cx} {ρ:Nat->Value} {σ:St} {a:Act} {w:World}
def rv (a:Act):ResultVar->Sem Value
 | .tmp t=>pure (a.tmps.getD t undef)
 | .cell b t=>do loadVar t (<- asAddr (a.tmps.getD b undef))
theorem kK (fn:Func) (a:Act):results fn a.tmps=(do let vs <- fn.results.mapM (rv a); pure (if h:vs.size=1 then vs[0] else .tuple vs)):=by
 unfold results
 congr 1
theorem Qs.run (ha:D7 cx ρ σ a w):∀ {l:List ResultVar} {ds:List DV},Qs P σ l ds->∃ vs:List Value,(l.mapM (rv a)).run P w=.ok vs w/\Cb ρ (K5 cx σ ρ w) w ds vs/\∀ k,Ft ds k->σ.U k=true
 | _,_,.nil=>⟨[],by simp,by simp [Cb],fun k hk=>by unfold Ft at hk; exact hk.elim⟩
 | _,_,.cons (x:=x) h hs=>by
  obtain⟨v,h1,h2,h3⟩:=h.run ha
  obtain⟨vs,k1,k2,k3⟩:=hs.run ha
  refine⟨v :: vs,?_,by unfold Cb; exact⟨v,vs,rfl,h2,k2⟩,fun k hk=>?_⟩
  ·have h1':(rv a x).run P w=.ok v w:=by cases x <;> exact h1
   rw [List.mapM_cons]
   simp only [Sem.run_bind,h1',Result.andThen_ok,k1,Sem.run_pure]
  ·unfold Ft at hk
   rcases hk with hk | hk
   ·exact h3 k hk
   ·exact k3 k hk
theorem fY (ha:D7 cx ρ σ a w) {fn:Func} {ds:List DV} (h:Qs P σ fn.results.toList ds):∃ v,(results fn a.tmps).run P w=.ok v w/\Cp ρ (K5 cx σ ρ w) w (tC ds) v:=by
 obtain⟨vs,h1,h2,h3⟩:=h.run ha
 have hm:(fn.results.mapM (rv a)).run P w=.ok vs.toArray w:=by
  rw [Array.mapM_eq_mapM_toList,Sem.run_map,h1]
  rfl
 have hr:∀ v,v=(if h:vs.toArray.size=1 then vs.toArray[0] else .tuple vs.toArray)->(results fn a.tmps).run P w=.ok v w:=fun v hv=>by
  rw [kK,Sem.run_bind,hm]
  simp only [Result.andThen_ok,Sem.run_pure]
  rw [hv]
 have hlen:=h2.length
 match ds,vs,h2,hlen,hr with
 | [d],[v],h2,_,hr=>
  unfold Cb at h2
  obtain⟨u,us,e1,e2,-⟩:=h2
  injection e1 with e1 _
  subst e1
  exact⟨v,hr v (by simp),e2⟩
 | [],[],h2,_,hr=>exact⟨.tuple #[],hr _ (by simp),by unfold tC Cp; exact⟨[],rfl,h2⟩⟩
 | d :: d2 :: ds,v :: v2 :: vs,h2,_,hr=>exact⟨.tuple (v :: v2 :: vs).toArray,hr _ (by simp),by unfold tC Cp; exact⟨_,rfl,h2⟩⟩
def Fin (P:Program) (fn:Func) (np:Nat) (R:DV->List LB->Prop) (σ:St):Prop:=
 ∃ ds r bx θ,Qs P σ fn.results.toList ds/\R r bx/\Cv σ (E5 θ) (tC ds) r/\oT σ (E5 θ) (ix 0 bx)/\pC [(0,r)] (ix 0 bx) bx.length θ=true/\kT θ bx.length np=true/\Nat.ble np bx.length=true/\Nat.ble bx.length (np + 8)=true/\(bx.take np).all noT=true
def aFe (P:Program) (fn:Func) (np:Nat) (R:DV->List LB->Prop):Exit->St->Prop
 | .ret,σ=>Fin P fn np R σ
 | .normal,σ=>Fin P fn np R σ
 | _,_=>False
theorem Fin.out {w0:World} {I:Nat->Prop} {ρ0:Nat->Value} {np nq N:Nat} {fn:Func} {R:DV->List LB->Prop} (h:Fin P fn np R σ) (hq:np<=nq) (ha:D7 ⟨w0,I,ρ0,np,nq,N⟩ ρ σ a w) :
  ∃ v,(results fn a.tmps).run P w=.ok v w/\∃ r bx,R r bx/\aFj ρ0 I w0 np nq v r bx w:=by
 obtain⟨ds,r,bx,θ,h1,h2,h3,h4,h5,h6,h7,h8,h9⟩:=h
 obtain⟨v,hv,hr⟩:=fY (P:=P) ha h1
 have hle:np<=bx.length/\bx.length<=np + 8:=⟨aEn h7,aEn h8⟩
 simp only [pC,aEs,aHf] at h5
 obtain⟨⟨c1,c2⟩,c3⟩:=h5
 obtain⟨hA,hC⟩:=ha.ren (σ':=mk [] (ix 0 bx) bx.length) (E5 θ) (fun t d' hd=>by simp [mk,E5] at hd) (fun k lb hl=>Ya h4 _ (F3 hl)) (fun k k' j x y=>kL c3 (F3 x) (F3 y)) (fun k hk=>Vk h6 k hk)
  (fun t d k hd hm=>by simp [mk,E5] at hd) (fun k lb hl=>by
   have:=c2 _ (F3 hl)
   exact⟨this.1,fun k' hk'=>Xr this.2 k' hk'⟩)
 have hL:∀ k lb,(mk [] (ix 0 bx) bx.length).L k=some lb↔bx[k]?=some lb:=fun k lb=>rK
 have live:∀ k,k < bx.length->∃ lb,(mk [] (ix 0 bx) bx.length).L k=some lb:=fun k hk=>⟨bx[k],(hL k _).2 (aAy hk)⟩
 obtain⟨k1,k2,k3,k4,k5⟩:=ha.kept
 refine⟨v,hv,r,bx,h2,hle,⟨k1,k2,k3,k4⟩,fun b hb hn=>k5 b hb ?_,⟨Q8 (E5 θ) ρ,K5 ⟨w0,I,ρ0,np,nq,N⟩ (mk [] (ix 0 bx) bx.length) (Q8 (E5 θ) ρ) w,fun k hk=>(hA.pin k hk).1,fun b hb=>⟨hb.1,hb.2.2,fun k lb hlb hbk=>?_⟩,hC _ _ _ h3 hr,fun k lb hlb=>?_,fun k lb b hk1 hlb hb=>?_,fun k k' lb lb' b hlb hlb' e1 e2=>?_⟩,⟨fun k hk=>?_,fun k lb hlb k' hk'=>?_⟩,fun k lb hk hlb=>aHf.1 h9 lb (aG3 (by rw [aH3,if_pos hk]; exact hlb))⟩
 ·rintro⟨k,hk,hb'⟩
  exact hn k hk hb'
 ·exact hb.2.1 ⟨k,lb,(hL k lb).2 hlb,hbk⟩
 ·have:=hA.lo k lb ((hL k lb).2 hlb)
  cases lb with
  | tree e sz o e2 sz2 s hh cs=>
   obtain⟨n,us,vs,q⟩:=this
   exact⟨n,us,vs,q.ho,q.hs,q.row,q.hn,q.hl,q.hM,q.flat,q.nest,q.dist⟩
  | _=>exact this
 ·exact hA.fresh k lb b ((hL k lb).2 hlb) hk1 hb
 ·exact hA.sep k k' lb lb' b ((hL k lb).2 hlb) ((hL k' lb').2 hlb') e1 e2
 ·have:=fA (c1 _ (aEp.2 rfl)) k hk
  exact aEn this
 ·have:=Xr (c2 _ (F3 ((hL k lb).2 hlb))).2 k' hk'
  exact aEn this
theorem Yb:∀ {l:List DV} {k i:Nat},E5 (aD k l) (k + i)=l[i]?
 | [],k,i=>by simp [aD,E5]
 | x :: l,k,0=>by simp [aD,E5]
 | x :: l,k,i + 1=>by
  unfold aD E5
  have:Nat.beq (k + (i + 1)) k=false:=by
   cases h:Nat.beq (k + (i + 1)) k with
   | false=>rfl
   | true=>have:=aEr h; omega
  rw [this]
  simp only [aD6]
  rw [show k + (i + 1)=(k + 1) + i by omega,Yb]
  simp
theorem Fn.of {f np:Nat} {fn:Func} {c:Code} {args:List DV} {bx:List LB} {R:DV->List LB->Prop} (hf:P.funcs[f]?=some fn) (hb:fn.body=some c) (hn:(fn.name == "runtime.NumGoroutine")=false)
  (hchk:(aK bx.length args && (bx.all (ltB bx.length) && Nat.ble args.length fn.ntmps && Nat.ble np bx.length))=true) (h:∀ w0 I ρ0,N1 P ⟨w0,I,ρ0,np,bx.length,fn.ntmps⟩ c (aFe P fn np R) (mk (aD 0 args) (ix 0 bx) bx.length)):Fn P f np args bx R:=by
 simp only [aEs,aHf] at hchk
 obtain⟨c1,⟨c2,c3⟩,c4⟩:=hchk
 have c4:=aEn c4
 refine⟨c4,eD.of hf hn (by rw [hb]; rfl),fun ρ I w vs hI hargs hbx hsep=>?_⟩
 have hlen:=hargs.length
 have hN:args.length<=fn.ntmps:=aEn c3
 have hmk:∀ k lb,(mk (aD 0 args) (ix 0 bx) bx.length).L k=some lb↔bx[k]?=some lb:=fun k lb=>rK
 have hbl:∀ k lb,bx[k]?=some lb->k < bx.length:=fun k lb h=>(aDw.1 h).1
 have himm:∀ b,I b->K5 ⟨w,I,ρ,np,bx.length,fn.ntmps⟩ (mk (aD 0 args) (ix 0 bx) bx.length) ρ w b:=fun b hb=>⟨(hI b hb).1,by
  rintro⟨k,lb,h1,h2⟩
  exact (hI b hb).2 k (hbl k lb ((hmk k lb).1 h1)) ((hbx k lb ((hmk k lb).1 h1)).own h2),fun _=>.inl hb⟩
 have hA:D7 ⟨w,I,ρ,np,bx.length,fn.ntmps⟩ ρ (mk (aD 0 args) (ix 0 bx) bx.length) { tmps:=vs.toArray ++ Array.replicate (fn.ntmps - vs.toArray.size) undef,defers:=[] } w:=by
  refine⟨rfl,by simp; omega,⟨rfl,rfl,rfl,aHy _,fun _ _ _=>rfl⟩,fun t d hd=>?_,fun k lb hl=>?_,fun k k' lb lb' b h1 h2 h3 h4=>hsep k k' b (hbl k lb ((hmk k lb).1 h1)) (hbl k' lb' ((hmk k' lb').1 h2)) ((hbx k lb ((hmk k lb).1 h1)).own h3) ((hbx k' lb' ((hmk k' lb').1 h2)).own h4),fun t d k hd hm=>?_,fun k lb hl=>?_,fun k hk=>⟨rfl,aNs (aOo hk c4)⟩,fun k lb b hl=>?_⟩
  ·have hd':args[t]?=some d:=by
    have:=Yb (l:=args) (k:=0) (i:=t)
    rw [aI4] at this
    rw [<- this]
    exact hd
   obtain⟨v,hv,hr⟩:=hargs.at_ hd'
   have e1:(vs.toArray ++ Array.replicate (fn.ntmps - vs.toArray.size) undef).getD t undef=v:=by
    have hlt:=(aDw.1 hv).1
    simp [aP2,hlt]
    simpa [hlt] using hv
   rw [e1]
   exact Cp.step (fun b hb=>⟨himm b hb,rfl⟩) d v (fun _ _=>rfl) hr
  ·have hlb:=(hmk k lb).1 hl
   have hB:=hbx k lb hlb
   cases lb with
   | box ds ty=>
    obtain⟨b,us,q1,q2,q3,q4⟩:=hB
    exact⟨b,us,q1,q2,.inr ⟨k,hbl k _ hlb,by show Dd (ρ k)=some b; rw [q1]; rfl⟩,q3,Cb.step (fun b hb=>⟨himm b hb,rfl⟩) ds us (fun _ _=>rfl) q4⟩
   | row e sz cs=>
    obtain⟨n,us,q1,q2⟩:=hB
    exact⟨n,us,q1,fun b hb=>.inr ⟨k,hbl k _ hlb,hb⟩,q2.keep_ (fun _ _=>rfl) fun b hb=>himm b hb⟩
   | map l=>exact hB.elim
   | mit k n s=>exact hB.elim
   | vec ds e=>exact hB.elim
   | tree=>exact hB.elim
   | gho=>exact hB.elim
  ·have hd':args[t]?=some d:=by
    have:=Yb (l:=args) (k:=0) (i:=t)
    rw [aI4] at this
    rw [<- this]
    exact hd
   exact N7 c1 k (Nj.menL_at hd' hm)
  ·have hlb:=(hmk k lb).1 hl
   exact⟨aNs (hbl k lb hlb),fun k' hk'=>Xr (c2 lb (aG3 hlb)) k' hk'⟩
  ·intro h1 h2
   exact .inr ⟨k,h1,hbl k lb ((hmk k lb).1 hl),(hbx k lb ((hmk k lb).1 hl)).own h2⟩
 refine calls_of_wp hf hb (Code.wp_mono ?_ (h w I ρ _ w ⟨ρ,hA⟩))
 rintro e a' w' ⟨σ',hq,⟨ρ',hA'⟩⟩
 cases e with
 | normal=>
  obtain⟨v,hv,r,bx',h1,h2⟩:=Fin.out hq c4 hA'
  exact⟨hA'.defers,v,hv,v,r,bx',rfl,h1,h2⟩
 | ret=>
  obtain⟨v,hv,r,bx',h1,h2⟩:=Fin.out hq c4 hA'
  exact⟨hA'.defers,v,hv,v,r,bx',rfl,h1,h2⟩
 | _=>exact hq.elim
end
end Go.Proofs.YtkioneinddihlaaGreat
namespace Go.Proofs.YtkioneinddihlaaGreat
open Go.RowKit
mutual
def Ki (f:Nat->Nat):DV->DV
 | .row k=>.row (f k)
 | .part k o n=>.part (f k) o n
 | .ptr k i=>.ptr (f k) i
 | .agg ds=>.agg (M0 f ds)
 | .tup ds=>.tup (M0 f ds)
 | .clo g n ds=>.clo g n (M0 f ds)
 | .val v=>.val v
 | .sl sz cs=>.sl sz cs
 | .slc sz cs=>.slc sz cs
 | .mp l=>.mp l
 | .elt cs=>.elt cs
 | .nst k s i=>.nst (f k) (f s) i
 | .npt k s i j=>.npt (f k) (f s) i j
def M0 (f:Nat->Nat):List DV->List DV
 | []=>[]
 | d :: ds=>Ki f d :: M0 f ds
end
def kN (f:Nat->Nat):LB->LB
 | .box ds ty=>.box (M0 f ds) ty
 | .row e sz cs=>.row e sz cs
 | .map l=>.map l
 | .mit k n s=>.mit (f k) n s
 | .vec ds e=>.vec (M0 f ds) e
 | .tree e sz o e2 sz2 s h cs=>.tree e sz o e2 sz2 (f s) h cs
 | .gho=>.gho
mutual
def Kn:DV->Prop
 | .sl _ _=>False
 | .slc _ _=>False
 | .mp _=>False
 | .elt _=>False
 | .agg ds=>O3 ds
 | .tup ds=>O3 ds
 | .clo _ _ ds=>O3 ds
 | .val _=>True
 | .row _=>True
 | .part _ _ _=>True
 | .ptr _ _=>True
 | .nst _ _ _=>True
 | .npt _ _ _ _=>True
def O3:List DV->Prop
 | []=>True
 | d :: ds=>Kn d/\O3 ds
end
def Qw:LB->Prop
 | .box ds _=>O3 ds
 | .row _ _ cs=>∀ c∈cs,lQ c=true
 | .map _=>True
 | .mit ..=>True
 | .vec ds _=>O3 ds
 | .tree ..=>False
 | .gho=>True
section
variable {ρ ρ':Nat->Value} {I I':Nat->Prop} {w:World} {f:Nat->Nat}
mutual
theorem Cp.map (hI:∀ b,I b->I' b):∀ (d:DV) (v:Value),(∀ k,men d k->ρ' (f k)=ρ k)->Cp ρ I w d v->Cp ρ' I' w (Ki f d) v
 | .val _,_,_,h=>by unfold Ki Cp; unfold Cp at h; exact h
 | .sl _ _,_,_,h=>by unfold Ki Cp; unfold Cp at h; exact El.mono h hI
 | .slc _ _,_,_,h=>by unfold Ki Cp; unfold Cp at h; exact⟨El.mono h.1 hI,h.2⟩
 | .mp _,_,_,h=>by unfold Ki Cp; unfold Cp at h; exact El.mono h hI
 | .row k,_,hm,h=>by
  unfold Ki Cp; unfold Cp at h
  rw [hm k (by unfold men; rfl)]
  exact h
 | .part k _ _,_,hm,h=>by
  unfold Ki Cp; unfold Cp at h
  rw [hm k (by unfold men; rfl)]
  exact h
 | .ptr k _,_,hm,h=>by
  unfold Ki Cp; unfold Cp at h
  rw [hm k (by unfold men; rfl)]
  exact h
 | .elt _,_,_,h=>by
  unfold Ki Cp; unfold Cp at h
  obtain⟨ad,h1,h2,h3⟩:=h
  exact⟨ad,h1,hI _ h2,Jw.keep_ (fun _ _=>rfl) hI ad h2 _ 0 h3⟩
 | .agg ds,_,hm,h=>by
  unfold Ki Cp; unfold Cp at h
  obtain⟨vs,h1,h2,h3⟩:=h
  exact⟨vs,h1,h2,Cb.map hI ds vs (fun k hk=>hm k (by unfold men; exact hk)) h3⟩
 | .tup ds,_,hm,h=>by
  unfold Ki Cp; unfold Cp at h
  obtain⟨vs,h1,h3⟩:=h
  exact⟨vs,h1,Cb.map hI ds vs (fun k hk=>hm k (by unfold men; exact hk)) h3⟩
 | .clo _ _ ds,_,hm,h=>by
  unfold Ki Cp; unfold Cp at h
  obtain⟨vs,h1,h3⟩:=h
  exact⟨vs,h1,Cb.map hI ds vs (fun k hk=>hm k (by unfold men; exact hk)) h3⟩
 | .nst _ s _,_,hm,h=>by
  unfold Ki Cp; unfold Cp at h
  rw [hm s (by unfold men; exact .inr rfl)]
  exact h
 | .npt _ s _ _,_,hm,h=>by
  unfold Ki Cp; unfold Cp at h
  rw [hm s (by unfold men; exact .inr rfl)]
  exact h
theorem Cb.map (hI:∀ b,I b->I' b):∀ (ds:List DV) (vs:List Value),(∀ k,Ft ds k->ρ' (f k)=ρ k)->Cb ρ I w ds vs->Cb ρ' I' w (M0 f ds) vs
 | [],_,_,h=>by unfold M0 Cb; unfold Cb at h; exact h
 | d :: ds,_,hm,h=>by
  unfold M0 Cb; unfold Cb at h
  obtain⟨u,us,h1,h2,h3⟩:=h
  exact⟨u,us,h1,Cp.map hI d u (fun k hk=>hm k (by unfold Ft; exact .inl hk)) h2,Cb.map hI ds us (fun k hk=>hm k (by unfold Ft; exact .inr hk)) h3⟩
end
mutual
theorem Cp.flat:∀ (d:DV) (v:Value),Kn d->Cp ρ I w d v->Cp ρ I' w d v
 | .val _,_,_,h=>by unfold Cp at *; exact h
 | .sl _ _,_,hf,_=>by unfold Kn at hf; exact hf.elim
 | .slc _ _,_,hf,_=>by unfold Kn at hf; exact hf.elim
 | .mp _,_,hf,_=>by unfold Kn at hf; exact hf.elim
 | .row k,_,_,h=>by unfold Cp at *; exact h
 | .part k _ _,_,_,h=>by unfold Cp at *; exact h
 | .ptr k _,_,_,h=>by unfold Cp at *; exact h
 | .elt _,_,hf,_=>by unfold Kn at hf; exact hf.elim
 | .agg ds,_,hf,h=>by
  unfold Cp at *
  obtain⟨vs,h1,h2,h3⟩:=h
  exact⟨vs,h1,h2,Cb.flat ds vs (by unfold Kn at hf; exact hf) h3⟩
 | .tup ds,_,hf,h=>by
  unfold Cp at *
  obtain⟨vs,h1,h3⟩:=h
  exact⟨vs,h1,Cb.flat ds vs (by unfold Kn at hf; exact hf) h3⟩
 | .clo _ _ ds,_,hf,h=>by
  unfold Cp at *
  obtain⟨vs,h1,h3⟩:=h
  exact⟨vs,h1,Cb.flat ds vs (by unfold Kn at hf; exact hf) h3⟩
 | .nst _ _ _,_,_,h=>by unfold Cp at *; exact h
 | .npt _ _ _ _,_,_,h=>by unfold Cp at *; exact h
theorem Cb.flat:∀ (ds:List DV) (vs:List Value),O3 ds->Cb ρ I w ds vs->Cb ρ I' w ds vs
 | [],_,_,h=>by unfold Cb at *; exact h
 | d :: ds,_,hf,h=>by
  unfold Cb at *
  unfold O3 at hf
  obtain⟨u,us,h1,h2,h3⟩:=h
  exact⟨u,us,h1,Cp.flat d u hf.1 h2,Cb.flat ds us hf.2 h3⟩
end
mutual
theorem mD:∀ (d:DV) (k:Nat),men (Ki f d) k->∃ j,men d j/\k=f j
 | .val _,k,h=>by unfold Ki men at h; exact h.elim
 | .sl _ _,k,h=>by unfold Ki men at h; exact h.elim
 | .slc _ _,k,h=>by unfold Ki men at h; exact h.elim
 | .mp _,k,h=>by unfold Ki men at h; exact h.elim
 | .row j,k,h=>by unfold Ki men at h; exact⟨j,by unfold men; rfl,h⟩
 | .part j _ _,k,h=>by unfold Ki men at h; exact⟨j,by unfold men; rfl,h⟩
 | .ptr j _,k,h=>by unfold Ki men at h; exact⟨j,by unfold men; rfl,h⟩
 | .elt _,k,h=>by unfold Ki men at h; exact h.elim
 | .agg ds,k,h=>by
  unfold Ki men at h
  obtain⟨j,h1,h2⟩:=Pz ds k h
  exact⟨j,by unfold men; exact h1,h2⟩
 | .tup ds,k,h=>by
  unfold Ki men at h
  obtain⟨j,h1,h2⟩:=Pz ds k h
  exact⟨j,by unfold men; exact h1,h2⟩
 | .clo _ _ ds,k,h=>by
  unfold Ki men at h
  obtain⟨j,h1,h2⟩:=Pz ds k h
  exact⟨j,by unfold men; exact h1,h2⟩
 | .nst j s _,k,h=>by
  unfold Ki men at h
  rcases h with h | h
  ·exact⟨j,by unfold men; exact .inl rfl,h⟩
  ·exact⟨s,by unfold men; exact .inr rfl,h⟩
 | .npt j s _ _,k,h=>by
  unfold Ki men at h
  rcases h with h | h
  ·exact⟨j,by unfold men; exact .inl rfl,h⟩
  ·exact⟨s,by unfold men; exact .inr rfl,h⟩
theorem Pz:∀ (ds:List DV) (k:Nat),Ft (M0 f ds) k->∃ j,Ft ds j/\k=f j
 | [],k,h=>by unfold M0 Ft at h; exact h.elim
 | d :: ds,k,h=>by
  unfold M0 Ft at h
  rcases h with h | h
  ·obtain⟨j,h1,h2⟩:=mD d k h
   exact⟨j,by unfold Ft; exact .inl h1,h2⟩
  ·obtain⟨j,h1,h2⟩:=Pz ds k h
   exact⟨j,by unfold Ft; exact .inr h1,h2⟩
end
end
mutual
inductive Ag (fl:Bool) (ps:List Nat) (env:cK):DV->DV->Prop
 | fn {f}:Ag fl ps env (.val (.func (.func f) #[] #[])) (.clo f 0 [])
 | val {v}:Ag fl ps env (.val v) (.val v)
 | sl {sz cs}:Ag fl ps env (.sl sz cs) (.sl sz cs)
 | mp {l}:Ag fl ps env (.mp l) (.mp l)
 | nils {sz}:Ag fl ps env (.val (.slice none 0 0)) (.sl sz [])
 | elt {cs}:Ag fl ps env (.elt cs) (.elt cs)
 | ptr {j k i} (h:ps[k]?=some j):Ag fl ps env (.ptr j i) (.ptr k i)
 | rowK {j k} (h:ps[k]?=some j):Ag fl ps env (.row j) (.row k)
 | partK {j k off n} (h:ps[k]?=some j):Ag fl ps env (.part j off n) (.part k off n)
 | row {j e sz cs} (h:fl=true) (hL:(j,some (.row e sz cs))∈env) (hj:ps.all (fun i=>!Nat.beq i j)=true):Ag fl ps env (.row j) (.sl sz cs)
 | part {j off n e sz cs} (h:fl=true) (hL:(j,some (.row e sz cs))∈env) (hj:ps.all (fun i=>!Nat.beq i j)=true) (hn:off + n * sz<=cs.length):Ag fl ps env (.part j off n) (.sl sz ((cs.drop off).take (n * sz)))
 | agg {ds ds'} (h:Of fl ps env ds ds'):Ag fl ps env (.agg ds) (.agg ds')
 | tup {ds ds'} (h:Of fl ps env ds ds'):Ag fl ps env (.tup ds) (.tup ds')
 | clo {f n ds ds'} (h:Of fl ps env ds ds'):Ag fl ps env (.clo f n ds) (.clo f n ds')
inductive Of (fl:Bool) (ps:List Nat) (env:cK):List DV->List DV->Prop
 | nil:Of fl ps env [] []
 | cons {d d' l l'} (h:Ag fl ps env d d') (hs:Of fl ps env l l'):Of fl ps env (d :: l) (d' :: l')
end
def BxC (fl:Bool) (ps:List Nat) (env:cK):LB->LB->Prop
 | .box ds ty,lb=>∃ ds',lb=.box ds' ty/\Of fl ps env ds ds'
 | .row e sz cs,lb=>lb=.row e sz cs
 | _,_=>False
def Xz (fl:Bool) (ps:List Nat) (env:cK):List Nat->List LB->Prop
 | [],bx=>bx=[]
 | j :: l,bx=>∃ lb lb' rest,bx=lb' :: rest/\(j,some lb)∈env/\BxC fl ps env lb lb'/\Xz fl ps env l rest
def Hv (ps:List Nat) (tk:Nat) (k:Nat):Nat:=match ps[k]? with | some j=>j | none=>tk + (k - ps.length)
def Uw (ps:List Nat) (tk:Nat):Nat->List LB->List (Nat×LB)
 | _,[]=>[]
 | k,x :: l=>(Hv ps tk k,kN (Hv ps tk) x) :: Uw ps tk (k + 1) l
def Rz (ps gs:List Nat) (tk:Nat) (r:DV) (bx:List LB):Lz:=⟨some (Ki (Hv ps tk) r),fun k=>match E5 (Uw ps tk 0 bx) k with | some lb=>some (some lb) | none=>bif gs.any (Nat.beq k) then some none else none⟩
def sG (ps gs:List Nat) (tk:Nat) (R:DV->List LB->Prop):Lz->Prop:=fun e=>∃ r b,R r b/\e=Rz ps gs tk r b/\ps.length<=b.length/\b.length<=ps.length + 8
def Pl (np:Nat) (ps gs:List Nat):Bool:=xY (ps ++ gs) && gs.all fun k=>Nat.ble np k
inductive CallR (P:Program) (np:Nat):Nat->Op->TypeId->List (DV×Option LB)->cK->List Nat->(Lz->Prop)->Prop
 | call {tk f xs tys ty dsA env ps gs args bx R} (fl:Bool) (hF:Fn P f ps.length args bx R) (hA:Of fl (ps ++ gs) env (dsA.map (·.1)) args) (hB:Xz fl (ps ++ gs) env (ps ++ gs) bx) (hnd:Pl np ps gs=true) (hfl:fl=true->∀ r b,R r b->Kn r/\∀ lb∈b,Qw lb) :
  CallR P np tk (.call ⟨.value (.func f),xs,tys⟩) ty ((.val (.func (.func f) #[] #[]),none) :: dsA) env (ps ++ gs) (sG ps gs tk R)
 | callC {tk t f n cs xs tys ty b dsA env ps gs args bx R} (fl:Bool) (hF:Fn P f ps.length args bx R) (hA:Of fl (ps ++ gs) env (cs.take n ++ (dsA.map (·.1) ++ cs.drop n)) args) (hB:Xz fl (ps ++ gs) env (ps ++ gs) bx) (hnd:Pl np ps gs=true) (hfl:fl=true->∀ r b,R r b->Kn r/\∀ lb∈b,Qw lb) :
  CallR P np tk (.call ⟨.value (.tmp t),xs,tys⟩) ty ((.clo f n cs,b) :: dsA) env (ps ++ gs) (sG ps gs tk R)
 | callV {tk t f xs tys ty b dsA env ps gs args bx R} (fl:Bool) (hF:Fn P f ps.length args bx R) (hA:Of fl (ps ++ gs) env (dsA.map (·.1)) args) (hB:Xz fl (ps ++ gs) env (ps ++ gs) bx) (hnd:Pl np ps gs=true) (hfl:fl=true->∀ r b,R r b->Kn r/\∀ lb∈b,Qw lb) :
  CallR P np tk (.call ⟨.value (.tmp t),xs,tys⟩) ty ((.val (.func (.func f) #[] #[]),b) :: dsA) env (ps ++ gs) (sG ps gs tk R)
 
 | ext {tk op ty ds env wr E} (h:ExtR P np tk op ty ds env wr E):CallR P np tk op ty ds env wr E
 | nilE {tk t X Y yt ty sz cs b1 b2 env} (hn:∃ e,P.underlying t=some (.slice e)):CallR P np tk (.binOp .eql t X Y yt) ty [(.sl sz cs,b1),(.val (.slice none 0 0),b2)] env [] (fun e=>∃ b,(b=true->cs=[])/\e=v0 (.val (.bool b)))
theorem Xz.length {fl:Bool} {ps:List Nat} {env:cK}:∀ {l:List Nat} {bx:List LB},Xz fl ps env l bx->bx.length=l.length
 | [],bx,h=>by unfold Xz at h; rw [h]; rfl
 | j :: l,bx,h=>by
  unfold Xz at h
  obtain⟨lb,lb',rest,rfl,-,-,h4⟩:=h
  simp [Xz.length h4]
theorem Xz.at_ {fl:Bool} {ps:List Nat} {env:cK}:∀ {l:List Nat} {bx:List LB},Xz fl ps env l bx->∀ {k:Nat} {j:Nat},l[k]?=some j->∃ lb lb',bx[k]?=some lb'/\(j,some lb)∈env/\BxC fl ps env lb lb'
 | [],bx,h,k,j,hl=>by simp at hl
 | j :: l,bx,h,0,j',hl=>by
  unfold Xz at h
  obtain⟨lb,lb',rest,rfl,h2,h3,h4⟩:=h
  simp at hl
  subst hl
  exact⟨lb,lb',rfl,h2,h3⟩
 | j :: l,bx,h,k + 1,j',hl=>by
  unfold Xz at h
  obtain⟨lb,lb',rest,rfl,h2,h3,h4⟩:=h
  have:=Xz.at_ h4 (k:=k) (j:=j') (by simpa using hl)
  simpa using this
theorem Wa {ps:List Nat} {tk:Nat}:∀ {l:List LB} {k k':Nat} {lb:LB},E5 (Uw ps tk k l) k'=some lb->∃ i x,l[i]?=some x/\k'=Hv ps tk (k + i)/\lb=kN (Hv ps tk) x
 | [],_,_,_,h=>by simp [Uw,E5] at h
 | x :: l,k,k',lb,h=>by
  unfold Uw E5 at h
  cases hb:Nat.beq k' (Hv ps tk k) with
  | true=>
   rw [hb] at h
   simp at h
   exact⟨0,x,rfl,aEr hb,h.symm⟩
  | false=>
   rw [hb] at h
   obtain⟨i,y,h1,h2,h3⟩:=Wa (l:=l) (k:=k + 1) h
   exact⟨i + 1,y,by simpa using h1,by rw [h2]; congr 1; omega,h3⟩
theorem cI {ps:List Nat} {tk:Nat}:∀ {l:List LB} {k i:Nat} {x:LB},l[i]?=some x->∃ lb,E5 (Uw ps tk k l) (Hv ps tk (k + i))=some lb
 | [],_,_,_,h=>by simp at h
 | y :: l,k,i,x,h=>by
  unfold Uw E5
  cases hb:Nat.beq (Hv ps tk (k + i)) (Hv ps tk k) with
  | true=>exact⟨_,rfl⟩
  | false=>
   cases i with
   | zero=>simp at hb
   | succ i=>
    have:=cI (ps:=ps) (tk:=tk) (l:=l) (k:=k + 1) (i:=i) (x:=x) (by simpa using h)
    simp only [aD6]
    rwa [show k + (i + 1)=k + 1 + i by omega]
end Go.Proofs.YtkioneinddihlaaGreat
namespace Go.Proofs.YtkioneinddihlaaGreat
open Go.RowKit
section
variable {P:Program} {cx:Cx} {ρ:Nat->Value} {σ:St} {a:Act} {w:World} {o:Oper} {K:Act->World->Prop} {Q:Exit->Act->World->Prop}
def wS (fl:Bool) (ps:List Nat) (σ:St) (ρ:Nat->Value) (b:Nat):Prop:=fl=true/\∃ j e sz cs,j∉ps/\σ.L j=some (.row e sz cs)/\Dd (ρ j)=some b
theorem tB {ps:List Nat} {j:Nat} (h:ps.all (fun i=>!Nat.beq i j)=true):j∉ps:=fun hm=>by
 have:=aHf.1 h j hm
 simp at this
section
variable {fl:Bool} {ps l:List Nat}
mutual
theorem Ag.rep (ha:D7 cx ρ σ a w):∀ {d d':DV} (_:Ag fl ps (Kj σ l) d d') {v:Value},Cp ρ (K5 cx σ ρ w) w d v->Cp (fun k=>ρ (Hv ps 0 k)) (fun b=>K5 cx σ ρ w b\/wS fl ps σ ρ b) w d' v
 | _,_,.fn,v,hr=>by
  unfold Cp at *
  exact⟨[],by rw [hr.1]; rfl,by simp [Cb]⟩
 | _,_,.val,v,hr=>by unfold Cp at *; exact hr
 | _,_,.sl,v,hr=>by unfold Cp at *; exact hr.mono fun b hb=>.inl hb
 | _,_,.mp,v,hr=>by unfold Cp at *; exact hr.mono fun b hb=>.inl hb
 | _,_,.nils,v,hr=>by unfold Cp at *; rw [hr.1]; exact El.nil_ _
 | _,_,.elt,v,hr=>by
  unfold Cp at *
  obtain⟨ad,h2,h3,h4⟩:=hr
  exact⟨ad,h2,.inl h3,Jw.keep_ (fun _ _=>rfl) (fun b hb=>.inl hb) ad h3 _ 0 h4⟩
 | _,_,.ptr (j:=j) (k:=k) hk,v,hr=>by
  unfold Cp at *
  have:Hv ps 0 k=j:=by unfold Hv; rw [hk]
  simp only [this]
  exact hr
 | _,_,.rowK (j:=j) (k:=k) hk,v,hr=>by
  unfold Cp at *
  have:Hv ps 0 k=j:=by unfold Hv; rw [hk]
  simp only [this]
  exact hr
 | _,_,.partK (j:=j) (k:=k) hk,v,hr=>by
  unfold Cp at *
  have:Hv ps 0 k=j:=by unfold Hv; rw [hk]
  simp only [this]
  exact hr
 | _,_,.row hfl hL hj,v,hr=>by
  have hL:=Iz hL
  unfold Cp at *
  rw [hr.1]
  obtain⟨n,us,ho,-,hu⟩:=ha.lo _ _ hL
  exact fD.cells ho hu (fun b hb=>.inl hb) fun b hb=>.inr ⟨hfl,_,_,_,_,tB hj,hL,hb⟩
 | _,_,.part hfl hL hj hn,v,hr=>by
  have hL:=Iz hL
  unfold Cp at *
  obtain⟨A,c,h4,h5,h6,h7,-⟩:=hr
  rw [h4]
  obtain⟨n,us,ho,-,hu⟩:=ha.lo _ _ hL
  exact dX ho hu (fun b hb=>.inl hb) (fun b hb=>.inr ⟨hfl,_,_,_,_,tB hj,hL,hb⟩) hn h5 h6 h7
 | _,_,.agg hs,v,hr=>by
  unfold Cp at *
  obtain⟨vs,h2,h3,h4⟩:=hr
  exact⟨vs,h2,h3,Of.rep ha hs h4⟩
 | _,_,.tup hs,v,hr=>by
  unfold Cp at *
  obtain⟨vs,h2,h4⟩:=hr
  exact⟨vs,h2,Of.rep ha hs h4⟩
 | _,_,.clo hs,v,hr=>by
  unfold Cp at *
  obtain⟨vs,h2,h4⟩:=hr
  exact⟨vs,h2,Of.rep ha hs h4⟩
theorem Of.rep (ha:D7 cx ρ σ a w):∀ {ds ds':List DV} (_:Of fl ps (Kj σ l) ds ds') {vs:List Value},Cb ρ (K5 cx σ ρ w) w ds vs->Cb (fun k=>ρ (Hv ps 0 k)) (fun b=>K5 cx σ ρ w b\/wS fl ps σ ρ b) w ds' vs
 | _,_,.nil,vs,hr=>by unfold Cb at *; exact hr
 | _,_,.cons h hs,vs,hr=>by
  unfold Cb at *
  obtain⟨u,us,h1,h2,h3⟩:=hr
  exact⟨u,us,h1,Ag.rep ha h h2,Of.rep ha hs h3⟩
end
end
theorem Cb.app {I:Nat->Prop}:∀ {a b:List DV} {c d:List Value},Cb ρ I w a c->Cb ρ I w b d->Cb ρ I w (a ++ b) (c ++ d)
 | [],b,c,d,h1,h2=>by unfold Cb at h1; subst h1; simpa using h2
 | x :: a,b,c,d,h1,h2=>by
  unfold Cb at h1
  obtain⟨u,us,rfl,h3,h4⟩:=h1
  rw [aOp,aOp]
  unfold Cb
  exact⟨u,_,rfl,h3,Cb.app h4 h2⟩
theorem tA:∀ {l:List Nat},xY l=true->∀ {i j x:Nat},l[i]?=some x->l[j]?=some x->i=j
 | [],_,i,j,x,h,_=>by simp at h
 | y :: l,hn,0,0,x,_,_=>rfl
 | y :: l,hn,0,j + 1,x,h1,h2=>by
  simp only [xY,aEs,aHf] at hn
  simp at h1 h2
  subst h1
  have:=hn.1 y (aG3 h2)
  simp at this
 | y :: l,hn,i + 1,0,x,h1,h2=>by
  simp only [xY,aEs,aHf] at hn
  simp at h1 h2
  subst h2
  have:=hn.1 y (aG3 h1)
  simp at this
 | y :: l,hn,i + 1,j + 1,x,h1,h2=>by
  simp only [xY,aEs] at hn
  have:=tA hn.2 (i:=i) (j:=j) (x:=x) (by simpa using h1) (by simpa using h2)
  rw [this]
theorem oU {f:Nat->Nat} {lb:LB} {k:Nat} (h:Oj (kN f lb) k):∃ j,Oj lb j/\k=f j:=by
 cases lb with
 | box ds ty=>exact Pz ds k h
 | row=>exact h.elim
 | map=>exact h.elim
 | mit k' n s=>exact⟨k',rfl,h⟩
 | vec ds e=>exact Pz ds k h
 | tree e sz o e2 sz2 s hh cs=>exact⟨s,rfl,h⟩
 | gho=>exact h.elim
theorem P0 {f:Nat->Nat} {ρ ρ':Nat->Value} {v:Value} {lb:LB} {b:Nat} (hm:∀ k,Oj lb k->ρ (f k)=ρ' k) (h:own ρ v (kN f lb) b):own ρ' v lb b:=by
 cases lb with
 | tree e sz o e2 sz2 s hh cs=>
  rcases h with h | ⟨vs,i,u,h1,h2⟩
  ·exact .inl h
  ·exact .inr ⟨vs,i,u,(hm s rfl).symm.trans h1,h2⟩
 | _=>exact h
theorem BxC.own {fl:Bool} {ps:List Nat} {env:cK} {lb lb':LB} (h:BxC fl ps env lb lb') {ρ:Nat->Value} {v:Value} {b:Nat}:Go.Proofs.YtkioneinddihlaaGreat.own ρ v lb b↔Dd v=some b:=by
 cases lb with
 | box ds ty=>exact Iff.rfl
 | row e sz cs=>exact Iff.rfl
 | _=>exact h.elim
theorem Vx {tk f:Nat} {wr ps gs l:List Nat} (hwr:wr=ps ++ gs) {args:List DV} {bx:List LB} {R:DV->List LB->Prop} {fl:Bool} (hF:Fn P f ps.length args bx R) {ads:List DV} {avs:List Value} (hA:Of fl wr (Kj σ l) ads args) (hrep:Cb ρ (K5 cx σ ρ w) w ads avs)
  (hB:Xz fl wr (Kj σ l) wr bx) (hh:Pl cx.np ps gs=true) (hfl:fl=true->∀ r b,R r b->Kn r/\∀ lb∈b,Qw lb) (ha:D7 cx ρ σ a w) (hf:∀ j,j < 8->σ.U (tk + j)=false) (hdst:∀ t,o.dst=some t->t < cx.N)
  (hrun:(execOp a.eval o).run P w=.ok (.enter f avs.toArray) w) (hK:∀ e a' w',sG ps gs tk R e->I8 cx (σ.app o.dst e) a' w'->K a' w'):o.wp P a w K Q:=by
 unfold Pl at hh
 rw [<- hwr,aEs] at hh
 obtain⟨hnd,hgn⟩:=hh
 have hpl:∀ k j,ps[k]?=some j->wr[k]?=some j:=fun k j h=>by
  rw [hwr,aFm (aDw.1 h).1]; exact h
 have hgs:∀ k j,ps.length<=k->wr[k]?=some j->j∈gs:=fun k j hk h=>by
  rw [hwr,aF4 hk] at h
  exact aG3 h
 have hgnp:∀ j,j∈gs->cx.np<=j:=fun j hj=>aEn (aHf.1 hgn j hj)
 have hgin:∀ j,j∈gs->∃ k,ps.length<=k/\k < wr.length/\wr[k]?=some j:=fun j hj=>by
  obtain⟨i,hi,rfl⟩:=aOg hj
  refine⟨ps.length + i,by omega,by rw [hwr,aEq]; omega,?_⟩
  rw [hwr,aF4 (by omega),aOf,aAy hi]
 have hpw:ps.length<=wr.length:=by rw [hwr,aEq]; omega
 have hbl:=hB.length
 have hpsL:∀ k j,wr[k]?=some j->∃ lb,σ.L j=some lb/\∃ lb',bx[k]?=some lb'/\BxC fl wr (Kj σ l) lb lb':=fun k j hk=>by
  obtain⟨lb,lb',h1,h2,h3⟩:=hB.at_ hk
  exact⟨lb,Iz h2,lb',h1,h3⟩
 have hargs:=Of.rep ha hA hrep
 have hi0:∀ k j,wr[k]?=some j->Hv wr 0 k=j:=fun k j h=>by unfold Hv; rw [h]
 have hit:∀ k j,ps[k]?=some j->Hv ps tk k=j:=fun k j h=>by unfold Hv; rw [h]
 have hgt:∀ k,ps.length<=k->Hv ps tk k=tk + (k - ps.length):=fun k h=>by unfold Hv; rw [aPd h]
 have hin:∀ k,k < bx.length->∃ j,wr[k]?=some j:=fun k hk=>⟨wr[k]'(by omega),aAy (by omega)⟩
 have hUps:∀ k j,wr[k]?=some j->σ.U j=true:=fun k j h=>by
  obtain⟨lb,h1,-⟩:=hpsL k j h
  exact (ha.usedL _ _ h1).1
 have hcalls:=hF.2.2 (fun k=>ρ (Hv wr 0 k)) (fun b=>K5 cx σ ρ w b\/wS fl wr σ ρ b) w avs (fun b hb=>by
   have key:∀ k,k < bx.length->Dd (ρ (Hv wr 0 k))=some b->False:=fun k hk hbk=>by
    obtain⟨j,hj⟩:=hin k hk
    rw [hi0 k j hj] at hbk
    obtain⟨lb,h1,lb',-,hx⟩:=hpsL k j hj
    rcases hb with hb | ⟨-,j',e,sz,cs,h2,h3,h4⟩
    ·exact hb.2.1 ⟨j,_,h1,hx.own.2 hbk⟩
    ·have:=ha.sep j j' _ _ b h1 h3 (hx.own.2 hbk) h4
     subst this
     exact h2 (aG3 hj)
   refine⟨?_,fun k hk hbk=>key k hk hbk⟩
   rcases hb with hb | ⟨-,j',e,sz,cs,h2,h3,h4⟩
   ·exact hb.1
   ·exact ((ha.lo _ _ h3).blk h4).1) hargs (fun k lb hlb=>by
   have hk:=(aDw.1 hlb).1
   obtain⟨j,hj⟩:=hin k hk
   obtain⟨lb0,h1,lb1,h2,h3⟩:=hpsL k j hj
   rw [h2] at hlb
   injection hlb with hlb
   subst hlb
   show mN _ _ w (ρ (Hv wr 0 k)) _
   rw [hi0 k j hj]
   cases lb0 with
   | box ds ty=>
    obtain⟨ds',rfl,h4⟩:=h3
    obtain⟨b,vs,q1,q2,-,q4,q5⟩:=ha.lo _ _ h1
    exact⟨b,vs,q1,q2,q4,Of.rep ha h4 q5⟩
   | row e sz cs=>
    have h3:lb1=.row e sz cs:=h3
    subst h3
    obtain⟨n,us,q1,-,q3⟩:=ha.lo _ _ h1
    exact⟨n,us,q1,q3.keep_ (fun _ _=>rfl) fun b hb=>.inl hb⟩
   | map l=>exact h3.elim
   | mit k n s=>exact h3.elim
   | tree=>exact h3.elim
   | gho=>exact h3.elim
   | vec ds e=>exact h3.elim) (fun k k' b hk hk' e1 e2=>by
   obtain⟨j,hj⟩:=hin k hk
   obtain⟨j',hj'⟩:=hin k' hk'
   simp only [hi0 k j hj] at e1
   simp only [hi0 k' j' hj'] at e2
   obtain⟨lb,h1,_,-,hx⟩:=hpsL k j hj
   obtain⟨lb',h1',_,-,hx'⟩:=hpsL k' j' hj'
   have:=ha.sep j j' _ _ b h1 h1' (hx.own.2 e1) (hx'.own.2 e2)
   subst this
   exact tA hnd hj hj')
 unfold Oper.wp
 rw [hrun]
 refine hcalls.mono ?_
 rintro e w' ⟨v,r,bx',rfl,hR,hback⟩
 obtain⟨⟨b1,b2⟩,⟨o1,o2,o3,o4⟩,hkept,⟨ρ',J,d1,d2,d3,d4,d5,d6⟩,⟨m1,m2⟩,hnt⟩:=hback
 have b1':ps.length<=bx'.length:=b1
 have b2':bx'.length<=ps.length + 8:=b2
 refine hK (Rz ps gs tk r bx') _ _ ⟨r,bx',hR,rfl,b1',b2'⟩ ?_
 have himp:∀ k,k < bx'.length->(∃ j,ps[k]?=some j/\Hv ps tk k=j)\/(ps.length<=k/\Hv ps tk k=tk + (k - ps.length)/\k - ps.length < 8):=fun k hk=>by
  rcases aL2 k ps.length with h | h
  ·exact .inl ⟨ps[k],aAy h,hit k _ (aAy h)⟩
  ·exact .inr ⟨h,hgt k h,by omega⟩
 have hel:∀ k,(Rz ps gs tk r bx').l k=(match E5 (Uw ps tk 0 bx') k with | some lb=>some (some lb) | none=>bif gs.any (Nat.beq k) then some none else none):=fun _=>rfl
 have hel1:∀ k lb,(Rz ps gs tk r bx').l k=some (some lb)->∃ i x,bx'[i]?=some x/\k=Hv ps tk i/\lb=kN (Hv ps tk) x:=fun k lb h=>by
  rw [hel] at h
  cases hl:E5 (Uw ps tk 0 bx') k with
  | none=>
   rw [hl] at h
   simp only [] at h
   cases G:gs.any (Nat.beq k) <;> rw [G] at h <;> cases h
  | some lb'=>
   rw [hl] at h
   injection h with h
   injection h with h
   subst h
   obtain⟨i,x,h1,h2,h3⟩:=Wa hl
   exact⟨i,x,h1,by simpa using h2,h3⟩
 have hel2:∀ i,i < bx'.length->(Rz ps gs tk r bx').l (Hv ps tk i)≠none:=fun i hi=>by
  obtain⟨lb,hlb⟩:=cI (ps:=ps) (tk:=tk) (k:=0) (aAy hi)
  rw [aI4] at hlb
  rw [hel,hlb]
  simp
 have hel3:∀ j,j∈gs->(Rz ps gs tk r bx').l j≠none:=fun j hj=>by
  rw [hel]
  cases hl:E5 (Uw ps tk 0 bx') j with
  | some lb=>simp
  | none=>
   have:gs.any (Nat.beq j)=true:=aIi.2 ⟨j,hj,aOy j⟩
   simp [this]
 let ρ2:Nat->Value:=fun k=>if tk<=k/\k < tk + 8 then ρ' (ps.length + (k - tk)) else ρ k
 have hρU:∀ k,σ.U k=true->ρ2 k=ρ k:=fun k hk=>by
  show (if tk<=k/\k < tk + 8 then _ else _)=_
  rw [if_neg]
  intro hh
  have:=hf (k - tk) (by omega)
  rw [show tk + (k - tk)=k by omega,hk] at this
  cases this
 have hρi:∀ i,i < bx'.length->ρ2 (Hv ps tk i)=ρ' i:=fun i hi=>by
  rcases himp i hi with ⟨j,h1,h2⟩ | ⟨h1,h2,h3⟩
  ·rw [h2,hρU j (hUps i j (hpl i j h1)),d1 i (aDw.1 h1).1]
   show ρ j=ρ (Hv wr 0 i)
   rw [hi0 i j (hpl i j h1)]
  ·rw [h2]
   show (if tk<=_/\_ < tk + 8 then _ else _)=_
   rw [if_pos (by omega)]
   congr 1
   omega
 have hmo:∀ i x,bx'[i]?=some x->∀ k,Oj x k->ρ2 (Hv ps tk k)=ρ' k:=fun i x hx k hk=>hρi k (m2 i x hx k hk)
 refine⟨ρ2,ha.app (v:=v) ?_ o4 hdst hρU (fun b hb h=>hkept b hb fun k hk hbk=>?_) (fun k lb b h1 h2=>?_) (fun k k' lb lb' b h1 h2 h3 h4=>?_) (fun hI hI2=>?_) ⟨fun k lb k' h1 h2=>?_,fun d k' h1 h2=>?_⟩ (fun k lb b h1 h2 h3=>?_)⟩
 ·obtain⟨k1,k2,k3,k4,k5⟩:=ha.kept
  refine⟨o1.trans k1,o2.trans k2,o3.trans k3,aH4 k4 o4,fun b hb hM=>(hkept b (aOo hb k4) fun k hk hbk=>?_).trans (k5 b hb hM)⟩
  obtain⟨j,hj⟩:=hin k hk
  simp only [hi0 k j hj] at hbk
  obtain⟨lb,h1,_,-,hx⟩:=hpsL k j hj
  rcases ((ha.lo _ _ h1).blk (hx.own.2 hbk)).2 with h | h
  ·omega
  ·exact hM h
 ·obtain⟨j,hj⟩:=hin k hk
  simp only [hi0 k j hj] at hbk
  obtain⟨lb,h1,_,-,hx⟩:=hpsL k j hj
  have hbk:=(hx.own (ρ:=ρ)).2 hbk
  rcases aL2 k ps.length with hkp | hkp
  ·have hjp:ps[k]?=some j:=by
    rw [hwr,aFm hkp] at hj; exact hj
   have:=hel2 k (by omega)
   rw [hit k j hjp] at this
   exact h j _ this h1 hbk
  ·exact h j _ (hel3 j (hgs k j hkp hj)) h1 hbk
 ·obtain⟨i,x,e1,rfl,rfl⟩:=hel1 k lb h1
  have hi:=(aDw.1 e1).1
  rw [hρi i hi] at h2
  have h2:=P0 (hmo i x e1) h2
  rcases himp i hi with ⟨j,q1,q2⟩ | ⟨q1,q2,q3⟩
  ·right
   have hil:=(aDw.1 q1).1
   obtain⟨lb0,q3,_,-,hx⟩:=hpsL i j (hpl i j q1)
   refine⟨j,_,?_,q3,hx.own.2 ?_⟩
   ·have:=hel2 i hi; rwa [q2] at this
   ·have h2:=mZ (hnt i x hil e1) h2
    rw [d1 i hil] at h2
    simpa only [hi0 i j (hpl i j q1)] using h2
  ·rcases d5 i x b q1 e1 h2 with h4 | ⟨k,k1,k2,k3⟩
   ·exact .inl h4
   ·obtain⟨j,hj⟩:=hin k k2
    simp only [hi0 k j hj] at k3
    obtain⟨lb0,q4,_,-,hx⟩:=hpsL k j hj
    exact .inr ⟨j,_,hel3 j (hgs k j k1 hj),q4,hx.own.2 k3⟩
 ·obtain⟨i,x,e1,rfl,rfl⟩:=hel1 k lb h1
  obtain⟨i',x',e2,rfl,rfl⟩:=hel1 k' lb' h2
  have hi:=(aDw.1 e1).1
  have hi':=(aDw.1 e2).1
  rw [hρi i hi] at h3
  rw [hρi i' hi'] at h4
  rw [d6 i i' x x' b e1 e2 (P0 (hmo i x e1) h3) (P0 (hmo i' x' e2) h4)]
 ·have hJ:fl=false->∀ b,J b->K5 cx (σ.app o.dst (Rz ps gs tk r bx')) ρ2 w' b:=fun hfl0 b hb=>by
   obtain⟨j1,j2,j3⟩:=d2 b hb
   rcases aL2 b w.heap.size with h | h
   ·rcases j2 h with (h1 | ⟨h1,-⟩) | ⟨k,k1,k2,k3⟩
    ·exact (hI b h1).1
    ·rw [hfl0] at h1; cases h1
    ·obtain⟨j,hj⟩:=hin k k2
     simp only [hi0 k j hj] at k3
     obtain⟨lb0,q4,_,-,hx⟩:=hpsL k j hj
     have k3:=(hx.own (ρ:=ρ)).2 k3
     have hjg:=hgs k j k1 hj
     refine⟨j1,?_,fun hlt=>?_⟩
     ·rintro⟨k',lb',h4,h5⟩
      cases hek:(Rz ps gs tk r bx').l k' with
      | none=>
       have h4':σ.L k'=some lb':=by simpa [St.app,hek] using h4
       rw [hρU k' (ha.usedL k' lb' h4').1] at h5
       have h5:=Rv (ρ':=ρ) (fun q hq=>(hρU q ((ha.usedL k' lb' h4').2 q hq)).symm) h5
       have:=ha.sep k' j lb' lb0 b h4' q4 h5 k3
       subst this
       exact hel3 k' hjg hek
      | some x=>
       have h4':x=some lb':=by simpa [St.app,hek] using h4
       subst h4'
       obtain⟨i,x,e1,rfl,rfl⟩:=hel1 k' lb' hek
       have hi:=(aDw.1 e1).1
       rw [hρi i hi] at h5
       exact j3 i x e1 (P0 (hmo i x e1) h5)
     ·rcases ha.fresh j lb0 b q4 (hgnp j hjg) k3 with h6 | h6
      ·omega
      ·exact .inr h6
   ·refine hI2 b h j1 fun k lb h1 h2=>?_
    obtain⟨i,x,e1,rfl,rfl⟩:=hel1 k lb h1
    have hi:=(aDw.1 e1).1
    rw [hρi i hi] at h2
    exact j3 i x e1 (P0 (hmo i x e1) h2)
  have hmapB:∀ i x,bx'[i]?=some x->Q5 cx ρ2 (K5 cx (σ.app o.dst (Rz ps gs tk r bx')) ρ2 w') w' (ρ' i) (kN (Hv ps tk) x):=fun i x hx=>by
   have hi:=(aDw.1 hx).1
   have hb:=d4 i x hx
   cases x with
   | box ds ty=>
    obtain⟨b,vs,q1,q2,q3,q4,q5⟩:=hb
    refine⟨b,vs,q1,q2,?_,q4,?_⟩
    ·rcases q3 with q3 | ⟨k,hk,hk'⟩
     ·exact .inl (aH4 ha.kept.2.2.2.1 q3)
     ·have hk:k < bx.length:=hk
      obtain⟨j,hj⟩:=hin k hk
      have hk':Dd (ρ (Hv wr 0 k))=some b:=hk'
      rw [hi0 k j hj] at hk'
      obtain⟨lb2,h1,_,-,hx⟩:=hpsL k j hj
      exact ((ha.lo _ _ h1).blk (hx.own.2 hk')).2
    ·have hm:∀ k,Ft ds k->ρ2 (Hv ps tk k)=ρ' k:=fun k hk=>hρi k (m2 i _ hx k hk)
     cases hfc:fl with
     | false=>exact Cb.map (hJ hfc) ds vs hm q5
     | true=>
      have hff:=(hfl hfc r bx' hR).2 _ (aG3 hx)
      exact Cb.map (I:=K5 cx (σ.app o.dst (Rz ps gs tk r bx')) ρ2 w') (fun b hb=>hb) ds vs hm (Cb.flat ds vs hff q5)
   | row e sz cs=>
    obtain⟨n,us,q1,q3,q2⟩:=hb
    refine⟨n,us,q1,fun b hb=>?_,?_⟩
    ·rcases q3 b hb with q3 | ⟨k,hk,hk'⟩
     ·exact .inl (aH4 ha.kept.2.2.2.1 q3)
     ·have hk:k < bx.length:=hk
      obtain⟨j,hj⟩:=hin k hk
      have hk':Dd (ρ (Hv wr 0 k))=some b:=hk'
      rw [hi0 k j hj] at hk'
      obtain⟨lb2,h1,_,-,hx⟩:=hpsL k j hj
      exact ((ha.lo _ _ h1).blk (hx.own.2 hk')).2
    ·cases hfc:fl with
     | false=>exact q2.keep_ (fun _ _=>rfl) (hJ hfc)
     | true=>
      have hff:=(hfl hfc r bx' hR).2 _ (aG3 hx)
      exact q2.flat_any hff
   | map l=>
    obtain⟨g,q1,q2,q3⟩:=hb
    refine⟨g,q1,q2,?_⟩
    rcases q3 with q3 | ⟨k,hk,hk'⟩
    ·exact .inl (aH4 ha.kept.2.2.2.1 q3)
    ·have hk:k < bx.length:=hk
     obtain⟨j,hj⟩:=hin k hk
     have hk':Dd (ρ (Hv wr 0 k))=some g:=hk'
     rw [hi0 k j hj] at hk'
     obtain⟨lb2,h1,_,-,hx⟩:=hpsL k j hj
     exact ((ha.lo _ _ h1).blk (hx.own.2 hk')).2
   | vec ds e=>
    obtain⟨b,vs,q1,q0,q2,q3,q4,q5⟩:=hb
    refine⟨b,vs,q1,q0,q2,?_,q4,?_⟩
    ·rcases q3 with q3 | ⟨k,hk,hk'⟩
     ·exact .inl (aH4 ha.kept.2.2.2.1 q3)
     ·have hk:k < bx.length:=hk
      obtain⟨j,hj⟩:=hin k hk
      have hk':Dd (ρ (Hv wr 0 k))=some b:=hk'
      rw [hi0 k j hj] at hk'
      obtain⟨lb2,h1,_,-,hx⟩:=hpsL k j hj
      exact ((ha.lo _ _ h1).blk (hx.own.2 hk')).2
    ·have hm:∀ k,Ft ds k->ρ2 (Hv ps tk k)=ρ' k:=fun k hk=>hρi k (m2 i _ hx k hk)
     cases hfc:fl with
     | false=>exact Cb.map (hJ hfc) ds vs hm q5
     | true=>
      have hff:=(hfl hfc r bx' hR).2 _ (aG3 hx)
      exact Cb.map (I:=K5 cx (σ.app o.dst (Rz ps gs tk r bx')) ρ2 w') (fun b hb=>hb) ds vs hm (Cb.flat ds vs hff q5)
   | gho=>trivial
   | tree e sz o e2 sz2 s hh cs=>
    obtain⟨n,us,vs,q⟩:=hb
    have hM:∀ b,(w.heap.size<=b\/Cx.M ⟨w,fun b=>K5 cx σ ρ w b\/wS fl wr σ ρ b,fun k=>ρ (Hv wr 0 k),ps.length,bx.length,0⟩ b)->cx.w0.heap.size<=b\/cx.M b:=fun b q3=>by
     rcases q3 with q3 | ⟨k,hk,hk'⟩
     ·exact .inl (aH4 ha.kept.2.2.2.1 q3)
     ·have hk:k < bx.length:=hk
      obtain⟨j,hj⟩:=hin k hk
      have hk':Dd (ρ (Hv wr 0 k))=some b:=hk'
      rw [hi0 k j hj] at hk'
      obtain⟨lb2,h1,_,-,hx⟩:=hpsL k j hj
      exact ((ha.lo _ _ h1).blk (hx.own.2 hk')).2
    cases hfc:fl with
    | true=>exact ((hfl hfc r bx' hR).2 _ (aG3 hx)).elim
    | false=>
     refine⟨n,us,vs,q.ho,(hρi s (m2 i _ hx s rfl)).trans q.hs,q.row,q.hn,q.hl,fun b hb=>hM b (q.hM b hb),fun j c u a b d=>El.mono (q.flat j c u a b d) (hJ hfc),fun i' u a b=>?_,q.dist⟩
     obtain⟨q0,n2,us2,c2,q1,q2,q3,q4⟩:=q.nest i' u a b
     exact⟨q0,n2,us2,c2,q1,q2,q3.keep_ (fun _ _=>rfl) (hJ hfc),fun b hb=>⟨hM b (q4 b hb).1,(q4 b hb).2⟩⟩
   | mit k2 n s=>
    obtain⟨b,g,q1,q0,q2,q3⟩:=hb
    refine⟨b,g,q1,(hρi k2 (m2 i _ hx k2 rfl)).trans q0,q2,?_⟩
    rcases q3 with q3 | ⟨k,hk,hk'⟩
    ·exact .inl (aH4 ha.kept.2.2.2.1 q3)
    ·have hk:k < bx.length:=hk
     obtain⟨j,hj⟩:=hin k hk
     have hk':Dd (ρ (Hv wr 0 k))=some b:=hk'
     rw [hi0 k j hj] at hk'
     obtain⟨lb2,h1,_,-,hx⟩:=hpsL k j hj
     exact ((ha.lo _ _ h1).blk (hx.own.2 hk')).2
  refine⟨fun k lb h1=>?_,fun d h1=>?_⟩
  ·obtain⟨i,x,e1,rfl,rfl⟩:=hel1 k lb h1
   rw [hρi i (aDw.1 e1).1]
   exact hmapB i x e1
  ·injection h1 with h1
   subst h1
   have hm:∀ k,men r k->ρ2 (Hv ps tk k)=ρ' k:=fun k hk=>hρi k (m1 k hk)
   cases hfc:fl with
   | false=>exact Cp.map (hJ hfc) r v hm d3
   | true=>exact Cp.map (I:=K5 cx (σ.app o.dst (Rz ps gs tk r bx')) ρ2 w') (fun b hb=>hb) r v hm (Cp.flat r v (hfl hfc r bx' hR).1 d3)
 ·obtain⟨i,x,e1,rfl,rfl⟩:=hel1 k lb h1
  obtain⟨j,q1,rfl⟩:=oU h2
  have hj:=m2 i x e1 j q1
  exact .inr (hel2 j hj)
 ·injection h1 with h1
  subst h1
  obtain⟨j,q1,rfl⟩:=mD r k' h2
  exact .inr (hel2 j (m1 j q1))
 ·obtain⟨i,x,e1,rfl,rfl⟩:=hel1 k lb h1
  have hi:=(aDw.1 e1).1
  rw [hρi i hi] at h3
  have h3:=P0 (hmo i x e1) h3
  rcases himp i hi with ⟨j,q1,q2⟩ | ⟨q1,q2,q3⟩
  ·have hil:=(aDw.1 q1).1
   obtain⟨lb0,q3,_,-,hx⟩:=hpsL i j (hpl i j q1)
   have h3:=mZ (hnt i x hil e1) h3
   rw [d1 i hil] at h3
   simp only [hi0 i j (hpl i j q1)] at h3
   exact ha.fresh j lb0 b q3 (by rw [q2] at h2; exact h2) (hx.own.2 h3)
  ·rcases d5 i x b q1 e1 h3 with h4 | ⟨k,k1,k2,k3⟩
   ·exact .inl (aH4 ha.kept.2.2.2.1 h4)
   ·obtain⟨j,hj⟩:=hin k k2
    simp only [hi0 k j hj] at k3
    obtain⟨lb0,q4,_,-,hx⟩:=hpsL k j hj
    have k3:=(hx.own (ρ:=ρ)).2 k3
    exact ha.fresh j lb0 b q4 (hgnp j (hgs k j k1 hj)) k3
theorem CallR.sound {tk:Nat} {op:Op} {ty:TypeId} {ds:List (DV×Option LB)} {env:cK} {wr:List Nat} {E:Lz->Prop} (h:CallR P cx.np tk op ty ds env wr E) (ha:D7 cx ρ σ a w) (hds:Ef σ (Jc op) op.operands.toList=some ds) (henv:env=Kj σ (M9 σ 3 (Oe ds))) (hf:∀ j,j < 8->σ.U (tk + j)=false) (ho:o.op=op) (hdst:∀ t,o.dst=some t->t < cx.N)
  (hK:∀ e a' w',E e->I8 cx (σ.app o.dst e) a' w'->K a' w'):o.wp P a w K Q:=by
 subst henv
 cases h with
 | ext h=>exact h.sound ha hds rfl hf ho hdst hK
 | @call f xs tys _ dsA _ ps gs args bx R fl hF hA hB hnd hfl=>
  have hds':Ef σ true (.func f :: xs.toList)=some ((.val (.func (.func f) #[] #[]),none) :: dsA):=by
   have:(Op.call ⟨.value (.func f),xs,tys⟩).operands.toList=.func f :: xs.toList:=by simp [Op.operands,Call.operands]
   rw [<- this]; exact hds
  obtain⟨-,e2⟩:=Nx hds'
  refine Vx rfl hF hA (Mi ha e2).1 hB hnd hfl ha hf hdst ?_ hK
  have e1:(xs.toList.map a.eval).toArray=xs.map a.eval:=by rw [<- aP5,aPk]
  have h1:=hF.2.1 (xs.toList.map a.eval).toArray w
  rw [e1] at h1 ⊢
  have e4:a.eval (.func f)=.func (.func f) #[] #[]:=rfl
  have e3:(#[] ++ Array.map a.eval xs ++ #[]:Array Value)=Array.map a.eval xs:=by simp
  simp only [execOp,ho,resolve,e4,Deferred.ofValue,Sem.run_bind,Sem.run_pure,Result.andThen_ok,invoke,e3]
  exact h1
 | @callC t f n cs xs tys _ b dsA _ ps gs args bx R fl hF hA hB hnd hfl=>
  have hds':Ef σ true (.tmp t :: xs.toList)=some ((.clo f n cs,b) :: dsA):=by
   have:(Op.call ⟨.value (.tmp t),xs,tys⟩).operands.toList=.tmp t :: xs.toList:=by simp [Op.operands,Call.operands]
   rw [<- this]; exact hds
  obtain⟨e0,e2⟩:=Nx hds'
  obtain⟨h0,-,-⟩:=Ch ha e0
  unfold Cp at h0
  obtain⟨vs,hv,hr⟩:=h0
  have hr2:=(Mi ha e2).1
  have tk1:Cb ρ (K5 cx σ ρ w) w (cs.take n) (vs.take n):=by have:=hr.sub 0 n; simpa using this
  have tk2:Cb ρ (K5 cx σ ρ w) w (cs.drop n) (vs.drop n):=by
   have:=hr.sub n cs.length
   have e1:(cs.drop n).take cs.length=cs.drop n:=aHx (by rw [aH1]; omega)
   have e2:(vs.drop n).take cs.length=vs.drop n:=aHx (by rw [aH1,hr.length]; omega)
   rw [e1,e2] at this
   exact this
  refine Vx rfl hF hA (tk1.app (hr2.app tk2)) hB hnd hfl ha hf hdst ?_ hK
  have h1:=hF.2.1 (vs.take n ++ (xs.toList.map a.eval ++ vs.drop n)).toArray w
  have e5:((vs.take n).toArray ++ Array.map a.eval xs ++ (vs.drop n).toArray:Array Value)=(vs.take n ++ (xs.toList.map a.eval ++ vs.drop n)).toArray:=by
   apply Array.toList_inj.1
   simp
  simp only [execOp,ho,resolve,hv,Deferred.ofValue,Sem.run_bind,Sem.run_pure,Result.andThen_ok,invoke]
  rw [e5]
  exact h1
 | @callV t f xs tys _ b dsA _ ps gs args bx R fl hF hA hB hnd hfl=>
  have hds':Ef σ true (.tmp t :: xs.toList)=some ((.val (.func (.func f) #[] #[]),b) :: dsA):=by
   have:(Op.call ⟨.value (.tmp t),xs,tys⟩).operands.toList=.tmp t :: xs.toList:=by simp [Op.operands,Call.operands]
   rw [<- this]; exact hds
  obtain⟨e0,e2⟩:=Nx hds'
  have hv:=Eo ha e0
  refine Vx rfl hF hA (Mi ha e2).1 hB hnd hfl ha hf hdst ?_ hK
  have e1:(xs.toList.map a.eval).toArray=xs.map a.eval:=by rw [<- aP5,aPk]
  have h1:=hF.2.1 (xs.toList.map a.eval).toArray w
  rw [e1] at h1 ⊢
  have e3:(#[] ++ Array.map a.eval xs ++ #[]:Array Value)=Array.map a.eval xs:=by simp
  simp only [execOp,ho,resolve,hv,Deferred.ofValue,Sem.run_bind,Sem.run_pure,Result.andThen_ok,invoke,e3]
  exact h1
 | @nilE t X Y yt _ sz cs b1 b2 _ hn=>
  have hds':Ef σ false [X,Y]=some [(.sl sz cs,b1),(.val (.slice none 0 0),b2)]:=hds
  obtain⟨e1,e2⟩:=K1 hds'
  obtain⟨h1,-,-⟩:=Ch ha e1
  have hy:=Eo ha e2
  unfold Cp at h1
  obtain⟨A,n,c,hv,hl,hnc,hc⟩:=h1.slice
  obtain⟨e,hn⟩:=hn
  have hrun:(execOp a.eval o).run P w=.ok (.value (.bool A.isNone)) w:=by
   have h:=run_equal_slice_nil w t e A n c hn
   simp [execOp,ho,hv,hy,eqGuard,binOp,h]
  unfold Oper.wp
  rw [hrun]
  refine hK (v0 (.val (.bool A.isNone))) _ _ ⟨_,fun hA=>?_,rfl⟩ ⟨ρ,ha.put0 hdst (fun x hx=>by injection hx with hx; subst hx; exact Je rfl) (fun x k hx hm=>by injection hx with hx; subst hx; exact Sn k hm)⟩
  cases A with
  | some ad=>cases hA
  | none=>
   have h0:=h1
   rw [hv] at h0
   unfold El at h0
   obtain⟨A',n',cap,q1,q2,-,-,q3⟩:=h0
   injection q1 with q1 q4 q5
   rcases aH2 n' with h | h
   ·subst h; exact aFc (by simpa using q2)
   ·obtain⟨ad,q6,-⟩:=q3 h
    rw [<- q1] at q6; cases q6
theorem CallR.key {tk:Nat} {op:Op} {ty:TypeId} {ds:List (DV×Option LB)} {env:cK} {wr:List Nat} {E:Lz->Prop} {np:Nat} (h:CallR P np tk op ty ds env wr E):∀ e,E e->∀ k,e.l k≠none->k∈wr\/(tk<=k/\k < tk + 8):=by
 have key:∀ (ps gs:List Nat) (R:DV->List LB->Prop) e,sG ps gs tk R e->∀ k,e.l k≠none->k∈ps ++ gs\/(tk<=k/\k < tk + 8):=by
  rintro ps gs R e ⟨r,b,-,rfl,h1,h2⟩ k hk
  have hk':(match E5 (Uw ps tk 0 b) k with | some lb=>some (some lb) | none=>bif gs.any (Nat.beq k) then some none else none)≠none:=hk
  cases hl:E5 (Uw ps tk 0 b) k with
  | none=>
   rw [hl] at hk'
   simp only [] at hk'
   cases G:gs.any (Nat.beq k) with
   | false=>rw [G] at hk'; exact absurd rfl hk'
   | true=>
    obtain⟨x,q1,q2⟩:=aIi.1 G
    rw [aEr q2]
    exact .inl (aKt _ q1)
  | some lb=>
   obtain⟨i,x,e1,e2,-⟩:=Wa hl
   rw [aI4] at e2
   have hi:=(aDw.1 e1).1
   unfold Hv at e2
   cases hw:ps[i]? with
   | some j=>rw [hw] at e2; simp only [] at e2; rw [e2]; exact .inl (aJt _ (aG3 hw))
   | none=>
    rw [hw] at e2
    simp only [] at e2
    have:=List.getElem?_eq_none_iff.1 hw
    exact .inr (by omega)
 cases h with
 | call=>exact key _ _ _
 | callC=>exact key _ _ _
 | callV=>exact key _ _ _
 | nilE=>rintro e ⟨b,-,rfl⟩ k hk; exact absurd rfl hk
 | ext h=>exact h.key
theorem CallR.sub {tk:Nat} {op:Op} {ty:TypeId} {ds:List (DV×Option LB)} {env:cK} {wr:List Nat} {E:Lz->Prop} {np:Nat} (h:CallR P np tk op ty ds env wr E):∀ k,k∈wr->k∈env.map (·.1):=by
 have key:∀ {fl:Bool} {bx:List LB},Xz fl wr env wr bx->∀ k,k∈wr->k∈env.map (·.1):=fun hB k hk=>by
  obtain⟨i,hi,rfl⟩:=aOg hk
  obtain⟨lb,lb',-,h2,-⟩:=hB.at_ (aAy hi)
  exact aIk.2 ⟨_,h2,rfl⟩
 cases h with
 | call fl hF hA hB=>exact key hB
 | callC fl hF hA hB=>exact key hB
 | callV fl hF hA hB=>exact key hB
 | nilE=>intro k hk; simp at hk
 | ext h=>exact h.sub
end
section
variable {P:Program} {cx:Cx} {σ:St} {a:Act} {w:World} {ρ:Nat->Value}
def Yu (sz:Nat) (cs:List C) (ks:List Nat):Lz:=⟨some (.sl sz cs),fun k=>bif ks.any (Nat.beq k) then some none else none⟩
abbrev zT (j:Nat) (k:Nat):Option Nat:=if k=j then none else some k
mutual
theorem Cv.self {j:Nat}:∀ d,(∀ k,men d k->k≠j)->Cv σ (zT j) d d
 | .val v,_=>.val v
 | .sl _ _,_=>.sl _ _
 | .slc _ _,_=>.slcc _ _
 | .mp _,_=>.mp _
 | .elt _,_=>.elt _
 | .row k,h=>.row (if_neg (h k (by unfold men; rfl)))
 | .part k _ _,h=>.part (if_neg (h k (by unfold men; rfl)))
 | .ptr k _,h=>.ptr (if_neg (h k (by unfold men; rfl)))
 | .nst k s _,h=>.nst (if_neg (h k (by unfold men; exact .inl rfl))) (if_neg (h s (by unfold men; exact .inr rfl)))
 | .npt k s _ _,h=>.npt (if_neg (h k (by unfold men; exact .inl rfl))) (if_neg (h s (by unfold men; exact .inr rfl)))
 | .agg ds,h=>.agg (Q0.self ds fun k hk=>h k (by unfold men; exact hk))
 | .tup ds,h=>.tup (Q0.self ds fun k hk=>h k (by unfold men; exact hk))
 | .clo _ _ ds,h=>.clo _ _ (Q0.self ds fun k hk=>h k (by unfold men; exact hk))
theorem Q0.self {j:Nat}:∀ ds,(∀ k,Ft ds k->k≠j)->Q0 σ (zT j) ds ds
 | [],_=>.nil
 | d :: ds,h=>.cons (Cv.self d fun k hk=>h k (by unfold Ft; exact .inl hk)) (Q0.self ds fun k hk=>h k (by unfold Ft; exact .inr hk))
end
theorem I8.frzE {ρ0:Nat->Value} {a0:Act} {w00:World} (h0:D7 cx ρ0 σ a0 w00) {tk et sz:Nat} {cs:List C} {ks:List Nat} {dst:Option Tmp} (hf:σ.U tk=false) (h:I8 cx (σ.app dst (M3 tk (.row et sz cs) ks (.row tk))) a w):I8 cx (σ.app dst (Go.Proofs.YtkioneinddihlaaGreat.Yu sz cs ks)) a w:=by
 obtain⟨ρ,ha⟩:=h
 have hnp:cx.np<=tk:=by
  rcases aL2 tk cx.np with h | h
  ·have:=(h0.pin tk h).2
   rw [hf] at this; cases this
  ·exact h
 have hLtk:(σ.app dst (M3 tk (.row et sz cs) ks (.row tk))).L tk=some (.row et sz cs):=by
  show (match (bif Nat.beq tk tk then some (some (LB.row et sz cs)) else _) with | some x=>x | none=>σ.L tk)=_
  rw [aOy]
  rfl
 have hLne:∀ k,k≠tk->(σ.app dst (M3 tk (.row et sz cs) ks (.row tk))).L k=(σ.app dst (Go.Proofs.YtkioneinddihlaaGreat.Yu sz cs ks)).L k:=fun k hk=>by
  show (match (bif Nat.beq k tk then some (some (LB.row et sz cs)) else (bif ks.any (Nat.beq k) then some none else none)) with | some x=>x | none=>σ.L k)=(match (bif ks.any (Nat.beq k) then some none else none) with | some x=>x | none=>σ.L k)
  have:Nat.beq k tk=false:=by
   cases hb:Nat.beq k tk with
   | false=>rfl
   | true=>exact absurd (aEr hb) hk
  rw [this]
  rfl
 have B:∀ k,σ.U k=true->(σ.app dst (Go.Proofs.YtkioneinddihlaaGreat.Yu sz cs ks)).U k=true:=fun k hk=>by
  show (σ.U k || _)=true
  rw [hk]; rfl
 have hLs:∀ k lb,(σ.app dst (Go.Proofs.YtkioneinddihlaaGreat.Yu sz cs ks)).L k=some lb->σ.L k=some lb:=fun k lb hl=>by
  have hl':(match (bif ks.any (Nat.beq k) then some none else none) with | some x=>x | none=>σ.L k)=some lb:=hl
  cases hb:ks.any (Nat.beq k) with
  | true=>rw [hb] at hl'; cases hl'
  | false=>rw [hb] at hl'; exact hl'
 have hFs:∀ t d,(σ.app dst (Go.Proofs.YtkioneinddihlaaGreat.Yu sz cs ks)).F t=some d->(dst=some t/\d=.sl sz cs)\/(dst≠some t/\σ.F t=some d):=fun t d hd=>by
  cases dst with
  | none=>exact .inr ⟨by simp,hd⟩
  | some t'=>
   by_cases h1:t=t'
   ·subst h1
    have:(σ.app (some t) (Go.Proofs.YtkioneinddihlaaGreat.Yu sz cs ks)).F t=some (.sl sz cs):=Vu _ _ _
    rw [this] at hd
    injection hd with hd
    exact .inl ⟨rfl,hd.symm⟩
   ·have:(σ.app (some t') (Go.Proofs.YtkioneinddihlaaGreat.Yu sz cs ks)).F t=σ.F t:=N3 _ _ h1
    rw [this] at hd
    exact .inr ⟨fun h=>by injection h with h; exact h1 h.symm,hd⟩
 refine⟨_,(ha.ren (σ':=σ.app dst (Go.Proofs.YtkioneinddihlaaGreat.Yu sz cs ks)) (zT tk) (fun t d' hd=>?_) (fun k lb' hl=>?_) (fun k k' i h1 h2=>?_) (fun k hk=>⟨if_neg (by omega),B k (h0.pin k hk).2⟩) (fun t d k hd hm=>?_) (fun k lb hl=>?_)).1⟩
 ·rcases hFs t d' hd with ⟨rfl,rfl⟩ | ⟨h1,h2⟩
  ·refine⟨.row tk,Vu _ _ _,.frz hLtk fun k hk=>?_⟩
   unfold zT at hk
   split at hk
   ·cases hk
   ·rename_i hne
    injection hk with hk
    exact hne hk
  ·refine⟨d',?_,Cv.self d' fun k hk hkt=>?_⟩
   ·cases dst with
    | none=>exact h2
    | some t'=>exact (N3 _ _ fun h=>h1 (by rw [h])).trans h2
   ·have:=h0.usedF t d' k h2 hk
    rw [hkt,hf] at this; cases this
 ·have h1:=hLs k lb' hl
  have hk:k≠tk:=fun h=>by
   have:=(h0.usedL k _ h1).1
   rw [h,hf] at this; cases this
  refine .inl ⟨k,lb',if_neg hk,(hLne k hk).trans hl,?_⟩
  cases lb' with
  | row e s c=>exact⟨rfl,rfl,rfl⟩
  | map l=>exact rfl
  | gho=>trivial
  | tree e sz o e2 sz2 s hh cs=>
   refine⟨rfl,rfl,rfl,rfl,rfl,if_neg fun h=>?_,rfl,rfl⟩
   have:=(h0.usedL k _ h1).2 s rfl
   rw [h,hf] at this
   cases this
  | mit k2 n s=>
   refine⟨if_neg fun h=>?_,rfl,rfl⟩
   have:=(h0.usedL k _ h1).2 k2 rfl
   rw [h,hf] at this
   cases this
  | vec ds e=>exact⟨rfl,Q0.self ds fun k' hk' hkt=>by
    have:=(h0.usedL k _ h1).2 k' hk'
    rw [hkt,hf] at this; cases this⟩
  | box ds ty=>exact⟨rfl,Q0.self ds fun k' hk' hkt=>by
    have:=(h0.usedL k _ h1).2 k' hk'
    rw [hkt,hf] at this; cases this⟩
 ·unfold zT at h1 h2
  split at h1
  ·cases h1
  ·split at h2
   ·cases h2
   ·injection h1 with h1
    injection h2 with h2
    omega
 ·rcases hFs t d hd with ⟨rfl,rfl⟩ | ⟨h1,h2⟩
  ·unfold men at hm; exact hm.elim
  ·exact B k (h0.usedF t d k h2 hm)
 ·have h1:=h0.usedL k _ (hLs k lb hl)
  exact⟨B k h1.1,fun k' hk'=>B k' (h1.2 k' hk')⟩
end
def zB (fz:List Nat) (tk:Nat):Bool:=fz.any (Nat.beq tk)
def zM (fz:List Nat) (tk:Nat):Nat:=bif zB fz tk then 1 else 0
def M1 (np:Nat) (op:Op) (wr:List Nat):Bool:=!uI op || wr.all fun k=>Nat.ble np k
theorem iC {np:Nat} {op:Op} {wr:List Nat} (h:M1 np op wr=true):uI op=true->∀ k∈wr,np<=k:=fun h1 k hk=>by
 unfold M1 at h
 rw [h1] at h
 exact aEn (aHf.1 h k hk)
theorem xM {P:Program} {np tk:Nat} {op:Op} {ty:TypeId} {ds:List (DV×Option LB)} {env:cK} {wr wr':List Nat} {e:Lz} {E:Lz->Prop} (h:Fi P tk op ty ds wr e) (h':CallR P np tk op ty ds env wr' E):False:=by
 cases h' with
 | call=>cases h
 | callC=>cases h
 | callV=>cases h
 | nilE=>cases h with | binOpA q=>simp [Kw] at q
 | ext h'=>exact h'.excl h
def OpZ (P:Program) (np:Nat) (fz:List Nat) (tk:Nat) (op:Op) (ty:TypeId) (ds:List (DV×Option LB)) (wr:List Nat) (e:Lz):Prop:=
 M1 np op wr=true/\((zM fz tk=0/\Fi P tk op ty ds wr e)\/(zM fz tk=1/\∃ e0 et sz cs,Fi P tk op ty ds wr e0/\e0=M3 tk (.row et sz cs) wr (.row tk)/\e=Yu sz cs wr))
def Dx (P:Program) (cx:Cx) (fz:List Nat):vH P cx where
 R:=OpZ P cx.np fz
 C:=CallR P cx.np
 soundR:=by
  intro tk op ty ds wr e h ρ σ a w ha hds hf o ho hty hdst K Q hK
  have hf0:σ.U tk=false:=by have:=hf 0 (by omega); simpa using this
  obtain⟨hap,h⟩:=h
  rcases h with ⟨-,h⟩ | ⟨-,e0,et,sz,cs,h,rfl,rfl⟩
  ·exact h.sound ha hds hf0 ho hty hdst (iC hap) hK
  ·exact h.sound ha hds hf0 ho hty hdst (iC hap) fun a' w' h'=>hK a' w' (I8.frzE ha hf0 h')
 soundC:=by
  intro tk op ty ds env wr E h ρ σ a w ha hds henv hf o ho hty hdst K Q hK
  exact h.sound ha hds henv hf ho hdst hK
 func:=by
  intro w tk op ty ds wr e wr' e' h h'
  rcases h with ⟨-,⟨z,h⟩ | ⟨z,e0,et,sz,cs,h,q1,rfl⟩⟩ <;> rcases h' with ⟨-,⟨z',h'⟩ | ⟨z',e0',et',sz',cs',h',q1',rfl⟩⟩
  ·exact h.func w h'
  ·rw [z] at z'; cases z'
  ·rw [z] at z'; cases z'
  ·obtain⟨rfl,e1⟩:=h.func w h'
   refine⟨rfl,?_⟩
   rw [q1,q1'] at e1
   have:=congrFun (congrArg Lz.l e1) tk
   have this:(bif Nat.beq tk tk then some (some (LB.row et sz cs)) else _)=(bif Nat.beq tk tk then some (some (LB.row et' sz' cs')) else _):=this
   rw [aOy] at this
   injection this with this
   injection this with this
   injection this with t1 t2 t3
   rw [t2,t3]
 excl:=by
  intro tk op ty ds env wr e wr' E h h'
  rcases h with ⟨-,⟨-,h⟩ | ⟨-,e0,et,sz,cs,h,-⟩⟩ <;> exact xM h h'
 keyR:=by
  intro tk op ty ds wr e h
  rcases h with ⟨-,⟨-,h⟩ | ⟨-,e0,et,sz,cs,h,-,rfl⟩⟩
  ·exact h.key
  ·intro k hk
   have hk':(bif wr.any (Nat.beq k) then some (none:Option LB) else none)≠none:=hk
   cases hb:wr.any (Nat.beq k) with
   | false=>rw [hb] at hk'; exact absurd rfl hk'
   | true=>
    obtain⟨j,hj,hj'⟩:=aIi.1 hb
    rw [aEr hj']
    exact .inl hj
 keyC:=fun h=>h.key
 subR:=by
  intro tk op ty ds wr e h
  rcases h with ⟨-,⟨-,h⟩ | ⟨-,e0,et,sz,cs,h,-⟩⟩
  ·exact h.sub
  ·exact h.sub
 subC:=fun h=>h.sub
 sim:=by
  intro tk op ty ds ds' wr e h hs
  rcases h with ⟨hap,⟨hz,h⟩ | ⟨hz,e0,et,sz,cs,h,he,h'⟩⟩
  ·exact⟨hap,.inl ⟨hz,h.sim hs⟩⟩
  ·exact⟨hap,.inr ⟨hz,e0,et,sz,cs,h.sim hs,he,h'⟩⟩
end Go.Proofs.YtkioneinddihlaaGreat
namespace Go.Proofs.YtkioneinddihlaaGreat
open Go.RowKit
section
variable {P:Program} {cx:Cx} {ops:Array Oper} {Rt:Option (List Nat)} {nb i:Nat} {l:List Oper} {lg:fT} {σ:St} {Q:St->Prop} {fz:List Nat}
theorem Ik {dst:Option Tmp} {op:Op} {ty:TypeId} {pos:String} {af:Array Edge} {g:Option (Nat×Bool)} {ds:List (DV×Option LB)} {rd wr:List Nat} {e:Lz} (G:I7 ops σ ⟨dst,op,ty,pos,af,g⟩=some true) (hds:Ef σ (Jc op) op.operands.toList=some ds) (h:Fi P (nb + 8 * i) op ty ds wr e)
  (hrd:(bif Jc op then Kk (K3 op) ds else [])=rd) (hok:Ju Rt i false (nb + 8 * i) rd wr lg=true) (k:Chain (Dx P cx fz) ops Rt nb (idx (i + 1) l) ((i,false,nb + 8 * i,rd,wr) :: lg) (σ.app dst e) Q) (hz:zM fz (nb + 8 * i)=0:=by rfl) (hap:M1 cx.np op wr=true:=by rfl) :
  Chain (Dx P cx fz) ops Rt nb (idx i (⟨dst,op,ty,pos,af,g⟩ :: l)) lg σ Q:=
 .inl ⟨_,wr,e,.inr ⟨G,ds,hds,⟨hap,.inl ⟨hz,h⟩⟩,hrd.symm⟩,hok,k⟩
theorem yP {dst:Option Tmp} {op:Op} {ty:TypeId} {pos:String} {af:Array Edge} {g:Option (Nat×Bool)} {ds:List (DV×Option LB)} {rd wr:List Nat} {e:Lz} {et sz:Nat} {cs:List C} (G:I7 ops σ ⟨dst,op,ty,pos,af,g⟩=some true) (hds:Ef σ (Jc op) op.operands.toList=some ds) (h:Fi P (nb + 8 * i) op ty ds wr e) (he:e=M3 (nb + 8 * i) (.row et sz cs) wr (.row (nb + 8 * i)))
  (hrd:(bif Jc op then Kk (K3 op) ds else [])=rd) (hok:Ju Rt i false (nb + 8 * i) rd wr lg=true) (k:Chain (Dx P cx fz) ops Rt nb (idx (i + 1) l) ((i,false,nb + 8 * i,rd,wr) :: lg) (σ.app dst (Yu sz cs wr)) Q) (hz:zM fz (nb + 8 * i)=1:=by rfl) (hap:M1 cx.np op wr=true:=by rfl) :
  Chain (Dx P cx fz) ops Rt nb (idx i (⟨dst,op,ty,pos,af,g⟩ :: l)) lg σ Q:=
 .inl ⟨_,wr,_,.inr ⟨G,ds,hds,⟨hap,.inr ⟨hz,e,et,sz,cs,h,he,rfl⟩⟩,hrd.symm⟩,hok,k⟩
theorem vT {dst:Option Tmp} {op:Op} {ty:TypeId} {pos:String} {af:Array Edge} {g:Option (Nat×Bool)} (G:I7 ops σ ⟨dst,op,ty,pos,af,g⟩=some false)
  (hok:Ju Rt i false (nb + 8 * i) [] [] lg=true) (k:Chain (Dx P cx fz) ops Rt nb (idx (i + 1) l) ((i,false,nb + 8 * i,[],[]) :: lg) (σ.app dst lA) Q) :
  Chain (Dx P cx fz) ops Rt nb (idx i (⟨dst,op,ty,pos,af,g⟩ :: l)) lg σ Q:=
 .inl ⟨_,_,_,.inl ⟨G,rfl,rfl,rfl⟩,hok,k⟩
theorem Ht {dst:Option Tmp} {op:Op} {ty:TypeId} {pos:String} {af:Array Edge} {g:Nat} {b c:Bool} {t:Tmp} (ht:(ops[g]?).bind (·.dst)=some t) (hF:σ.F t=some (.val (.bool c))) (hc:c=b):I7 ops σ ⟨dst,op,ty,pos,af,some (g,b)⟩=some true:=by
 subst hc
 unfold I7
 simp only []
 rw [ht]
 simp only []
 rw [hF]
 simp
theorem aAb {dst:Option Tmp} {op:Op} {ty:TypeId} {pos:String} {af:Array Edge} {g:Nat} {b c:Bool} {t:Tmp} (ht:(ops[g]?).bind (·.dst)=some t) (hF:σ.F t=some (.val (.bool c))) (hc:c=!b):I7 ops σ ⟨dst,op,ty,pos,af,some (g,b)⟩=some false:=by
 subst hc
 unfold I7
 simp only []
 rw [ht]
 simp only []
 rw [hF]
 cases b <;> rfl
theorem sR {f:FuncId} {xs:Array Operand} {tys:Array TypeId} {dsA:List (DV×Option LB)} (h:Ef σ true xs.toList=some dsA):Ef σ (Jc (.call ⟨.value (.func f),xs,tys⟩)) (Op.call ⟨.value (.func f),xs,tys⟩).operands.toList=some ((.val (.func (.func f) #[] #[]),none) :: dsA):=by
 have:(Op.call ⟨.value (.func f),xs,tys⟩).operands.toList=.func f :: xs.toList:=by simp [Op.operands,Call.operands]
 rw [this]
 show Ef σ true (.func f :: xs.toList)=_
 unfold Ef
 rw [h]
 rfl
theorem bL {t:Tmp} {xs:Array Operand} {tys:Array TypeId} {q:DV×Option LB} {dsA:List (DV×Option LB)} (h0:ev σ true (.tmp t)=some q) (h:Ef σ true xs.toList=some dsA):Ef σ (Jc (.call ⟨.value (.tmp t),xs,tys⟩)) (Op.call ⟨.value (.tmp t),xs,tys⟩).operands.toList=some (q :: dsA):=by
 have:(Op.call ⟨.value (.tmp t),xs,tys⟩).operands.toList=.tmp t :: xs.toList:=by simp [Op.operands,Call.operands]
 rw [this]
 show Ef σ true (.tmp t :: xs.toList)=_
 unfold Ef
 rw [h0,h]
theorem R7 {dst:Option Tmp} {f:FuncId} {xs:Array Operand} {tys:Array TypeId} {ty:TypeId} {pos:String} {af:Array Edge} {g:Option (Nat×Bool)} {dsA:List (DV×Option LB)} {rd ps gs:List Nat} {args:List DV} {bx:List LB} {R:DV->List LB->Prop} (fl:Bool)
  (G:I7 ops σ ⟨dst,.call ⟨.value (.func f),xs,tys⟩,ty,pos,af,g⟩=some true)
  (hF:Fn P f ps.length args bx R) (hds:Ef σ true xs.toList=some dsA) (hrd:M9 σ 3 (Oe dsA)=rd) (hA:Of fl (ps ++ gs) (Kj σ rd) (dsA.map (·.1)) args) (hB:Xz fl (ps ++ gs) (Kj σ rd) (ps ++ gs) bx) (hnd:Pl cx.np ps gs=true) (hfl:fl=true->∀ r b,R r b->Kn r/\∀ lb∈b,Qw lb)
  (hok:Ju Rt i true (nb + 8 * i) rd (ps ++ gs) lg=true) (hne:Rt.isSome=true->∃ r b,R r b/\ps.length<=b.length/\b.length<=ps.length + 8)
  (k:∀ r b,R r b->Chain (Dx P cx fz) ops Rt nb (idx (i + 1) l) ((i,true,nb + 8 * i,rd,ps ++ gs) :: lg) (σ.app dst (Rz ps gs (nb + 8 * i) r b)) Q) :
  Chain (Dx P cx fz) ops Rt nb (idx i (⟨dst,.call ⟨.value (.func f),xs,tys⟩,ty,pos,af,g⟩ :: l)) lg σ Q:=by
 subst hrd
 refine .inr ⟨_,ps ++ gs,_,⟨G,_,sR hds,.call fl hF hA hB hnd hfl,rfl⟩,hok,fun h=>?_,?_⟩
 ·obtain⟨r,b,h1,h2,h3⟩:=hne h
  exact⟨_,r,b,h1,rfl,h2,h3⟩
 ·rintro e ⟨r,b,h1,rfl,-,-⟩
  exact k r b h1
theorem rZ {dst:Option Tmp} {t:Tmp} {f:FuncId} {n:Nat} {cs:List DV} {q:Option LB} {xs:Array Operand} {tys:Array TypeId} {ty:TypeId} {pos:String} {af:Array Edge} {g:Option (Nat×Bool)} {dsA:List (DV×Option LB)} {rd ps gs:List Nat} {args:List DV} {bx:List LB} {R:DV->List LB->Prop} (fl:Bool)
  (G:I7 ops σ ⟨dst,.call ⟨.value (.tmp t),xs,tys⟩,ty,pos,af,g⟩=some true) (hc:ev σ true (.tmp t)=some (.clo f n cs,q))
  (hF:Fn P f ps.length args bx R) (hds:Ef σ true xs.toList=some dsA) (hrd:M9 σ 3 (L5 cs ++ Oe dsA)=rd) (hA:Of fl (ps ++ gs) (Kj σ rd) (cs.take n ++ (dsA.map (·.1) ++ cs.drop n)) args) (hB:Xz fl (ps ++ gs) (Kj σ rd) (ps ++ gs) bx) (hnd:Pl cx.np ps gs=true) (hfl:fl=true->∀ r b,R r b->Kn r/\∀ lb∈b,Qw lb)
  (hok:Ju Rt i true (nb + 8 * i) rd (ps ++ gs) lg=true) (hne:Rt.isSome=true->∃ r b,R r b/\ps.length<=b.length/\b.length<=ps.length + 8)
  (k:∀ r b,R r b->Chain (Dx P cx fz) ops Rt nb (idx (i + 1) l) ((i,true,nb + 8 * i,rd,ps ++ gs) :: lg) (σ.app dst (Rz ps gs (nb + 8 * i) r b)) Q) :
  Chain (Dx P cx fz) ops Rt nb (idx i (⟨dst,.call ⟨.value (.tmp t),xs,tys⟩,ty,pos,af,g⟩ :: l)) lg σ Q:=by
 subst hrd
 refine .inr ⟨_,ps ++ gs,_,⟨G,_,bL hc hds,.callC fl hF hA hB hnd hfl,rfl⟩,hok,fun h=>?_,?_⟩
 ·obtain⟨r,b,h1,h2,h3⟩:=hne h
  exact⟨_,r,b,h1,rfl,h2,h3⟩
 ·rintro e ⟨r,b,h1,rfl,-,-⟩
  exact k r b h1
theorem qP {dst:Option Tmp} {t:Tmp} {f:FuncId} {q:Option LB} {xs:Array Operand} {tys:Array TypeId} {ty:TypeId} {pos:String} {af:Array Edge} {g:Option (Nat×Bool)} {dsA:List (DV×Option LB)} {rd ps gs:List Nat} {args:List DV} {bx:List LB} {R:DV->List LB->Prop} (fl:Bool)
  (G:I7 ops σ ⟨dst,.call ⟨.value (.tmp t),xs,tys⟩,ty,pos,af,g⟩=some true) (hc:ev σ true (.tmp t)=some (.val (.func (.func f) #[] #[]),q))
  (hF:Fn P f ps.length args bx R) (hds:Ef σ true xs.toList=some dsA) (hrd:M9 σ 3 (Oe dsA)=rd) (hA:Of fl (ps ++ gs) (Kj σ rd) (dsA.map (·.1)) args) (hB:Xz fl (ps ++ gs) (Kj σ rd) (ps ++ gs) bx) (hnd:Pl cx.np ps gs=true) (hfl:fl=true->∀ r b,R r b->Kn r/\∀ lb∈b,Qw lb)
  (hok:Ju Rt i true (nb + 8 * i) rd (ps ++ gs) lg=true) (hne:Rt.isSome=true->∃ r b,R r b/\ps.length<=b.length/\b.length<=ps.length + 8)
  (k:∀ r b,R r b->Chain (Dx P cx fz) ops Rt nb (idx (i + 1) l) ((i,true,nb + 8 * i,rd,ps ++ gs) :: lg) (σ.app dst (Rz ps gs (nb + 8 * i) r b)) Q) :
  Chain (Dx P cx fz) ops Rt nb (idx i (⟨dst,.call ⟨.value (.tmp t),xs,tys⟩,ty,pos,af,g⟩ :: l)) lg σ Q:=by
 subst hrd
 refine .inr ⟨_,ps ++ gs,_,⟨G,_,bL hc hds,.callV fl hF hA hB hnd hfl,rfl⟩,hok,fun h=>?_,?_⟩
 ·obtain⟨r,b,h1,h2,h3⟩:=hne h
  exact⟨_,r,b,h1,rfl,h2,h3⟩
 ·rintro e ⟨r,b,h1,rfl,-,-⟩
  exact k r b h1
theorem yH {dst:Option Tmp} {t yt:TypeId} {X Y:Operand} {ty:TypeId} {pos:String} {af:Array Edge} {g:Option (Nat×Bool)} {sz:Nat} {cs:List C} {b1 b2:Option LB}
  (G:I7 ops σ ⟨dst,.binOp .eql t X Y yt,ty,pos,af,g⟩=some true) (hds:Ef σ false [X,Y]=some [(.sl sz cs,b1),(.val (.slice none 0 0),b2)]) (hn:∃ e,P.underlying t=some (.slice e))
  (hok:Ju Rt i true (nb + 8 * i) [] [] lg=true) (k:∀ b:Bool,(b=true->cs=[])->Chain (Dx P cx fz) ops Rt nb (idx (i + 1) l) ((i,true,nb + 8 * i,[],[]) :: lg) (σ.app dst (v0 (.val (.bool b)))) Q) :
  Chain (Dx P cx fz) ops Rt nb (idx i (⟨dst,.binOp .eql t X Y yt,ty,pos,af,g⟩ :: l)) lg σ Q:=by
 refine .inr ⟨_,[],_,⟨G,_,hds,.nilE hn,rfl⟩,hok,fun h=>⟨_,false,fun h=>(by cases h),rfl⟩,?_⟩
 rintro e ⟨b,h1,rfl⟩
 exact k b h1
theorem Ua {dst:Option Tmp} {op:Op} {ty:TypeId} {pos:String} {af:Array Edge} {g:Option (Nat×Bool)} {ds:List (DV×Option LB)} {rd wr:List Nat} {E:Lz->Prop}
  (G:I7 ops σ ⟨dst,op,ty,pos,af,g⟩=some true) (hds:Ef σ (Jc op) op.operands.toList=some ds) (hx:ExtR P cx.np (nb + 8 * i) op ty ds (Kj σ rd) wr E) (hrd:M9 σ 3 (Oe ds)=rd)
  (hok:Ju Rt i true (nb + 8 * i) rd wr lg=true) (hne:Rt.isSome=true->∃ e,E e) (k:∀ e,E e->Chain (Dx P cx fz) ops Rt nb (idx (i + 1) l) ((i,true,nb + 8 * i,rd,wr) :: lg) (σ.app dst e) Q) :
  Chain (Dx P cx fz) ops Rt nb (idx i (⟨dst,op,ty,pos,af,g⟩ :: l)) lg σ Q:=by
 subst hrd
 exact .inr ⟨_,wr,_,⟨G,_,hds,.ext hx,rfl⟩,hok,hne,k⟩
theorem aJy {Q:Exit->St->Prop} {nb':Nat} (h:(∀ j,nb'<=j->σ.U j=false)->Q .normal σ):Chain (Dx P cx fz) ops Rt nb (idx i []) lg σ (fun σ'=>(∀ j,nb'<=j->σ'.U j=false)->Q .normal σ'):=h
theorem Ha {fl:List (Nat×DV)} {ll:List (Nat×LB)} {n:Nat}:∀ k,n<=k->(mk fl ll n).U k=false:=fun k hk=>by
 show Nat.blt k n=false
 cases h:Nat.blt k n with
 | false=>rfl
 | true=>have:k + 1<=n:=aEn h; omega
end
section
variable {P:Program} {t:TypeId} {X Y:Operand}
abbrev BO (P:Program) (op:BinOp) (t:TypeId) (X Y:Operand) (vx vy v:Value):Prop:=∀ w,(do eqGuard op t X Y vx vy; binOp op t vx vy:Sem Value).run P w=.ok v w
theorem aDi {k:IntKind} {x y:Int}:BO P .lss t X Y (.int k x) (.int k y) (.bool (decide (x < y))):=fun w=>by simp [eqGuard,binOp,Op.intCmp]
theorem aB1 {k:IntKind} {x y:Int}:BO P .leq t X Y (.int k x) (.int k y) (.bool (decide (x<=y))):=fun w=>by simp [eqGuard,binOp,Op.intCmp]
theorem aDk {k:IntKind} {x y:Int}:BO P .gtr t X Y (.int k x) (.int k y) (.bool (decide (y < x))):=fun w=>by simp [eqGuard,binOp,Op.intCmp]
theorem aAo {k:IntKind} {x y:Int}:BO P .geq t X Y (.int k x) (.int k y) (.bool (decide (y<=x))):=fun w=>by simp [eqGuard,binOp,Op.intCmp]
theorem aAm {k:IntKind} {x y:Int}:BO P .eql t X Y (.int k x) (.int k y) (.bool (decide (x=y))):=fun w=>by
 simp [eqGuard,binOp,Op.intCmp]
 rfl
theorem aEh {k:IntKind} {x y:Int}:BO P .neq t X Y (.int k x) (.int k y) (.bool (decide (x≠y))):=fun w=>by
 simp [eqGuard,binOp,Op.intCmp]
 rfl
theorem wZ {k:IntKind} {x y:Int}:BO P .add t X Y (.int k x) (.int k y) (.int k (k.wrap (x + y))):=fun w=>by simp [eqGuard,binOp,Op.intArith]
theorem lZ {k:IntKind} {x y:Int}:BO P .sub t X Y (.int k x) (.int k y) (.int k (k.wrap (x - y))):=fun w=>by simp [eqGuard,binOp,Op.intArith]
theorem nE {k:IntKind} {x y:Int}:BO P .mul t X Y (.int k x) (.int k y) (.int k (k.wrap (x * y))):=fun w=>by simp [eqGuard,binOp,Op.intArith]
theorem aB3 {k:IntKind} {x y:Int} (h:y≠0):BO P .rem t X Y (.int k x) (.int k y) (.int k (x.tmod y)):=fun w=>by simp [eqGuard,binOp,Op.intDiv,h]
theorem aDy {k:IntKind} {x y:Int} (h:y≠0):BO P .quo t X Y (.int k x) (.int k y) (.int k (k.wrap (x.tdiv y))):=fun w=>by simp [eqGuard,binOp,Op.intDiv,h]
theorem bP (a b:ByteArray):(a.toList == b.toList)=decide (a=b):=by
 rw [ByteArray.toList_eq,ByteArray.toList_eq]
 by_cases h:a=b
 ·subst h; simp
 ·rw [aAk h]
  refine beq_eq_false_iff_ne.2 fun e=>h ?_
  cases a; cases b
  simp only [ByteArray.mk.injEq]
  exact Array.toList_inj.1 e
theorem zF {a b:ByteArray}:BO P .eql t X Y (.string a) (.string b) (.bool (decide (a=b))):=fun w=>by
 simp [eqGuard,binOp,Op.stringOp,bP]
theorem wK {a b:ByteArray}:BO P .neq t X Y (.string a) (.string b) (.bool (decide (a≠b))):=fun w=>by
 simp [eqGuard,binOp,Op.stringOp,bP]
theorem aDq {b:Bool}:∀ w,(Op.unary .not (.bool b)).run P w=.ok (.bool (!b)) w:=fun w=>by simp [Op.unary]
theorem dY {src dst:TypeId} {k k':IntKind} {n:Int} (hs:(P.underlying src).isSome=true) (hd:P.underlying dst=some (.int k')):∀ w,(convert src dst (.int k n)).run P w=.ok (.int k' (k'.wrap n)) w:=fun w=>by
 obtain⟨d,hd'⟩:=Option.isSome_iff_exists.mp hs
 simp [convert,run_underlying hd',run_underlying hd,Conv.intToInt]
end
end Go.Proofs.YtkioneinddihlaaGreat
