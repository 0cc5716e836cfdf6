import Derived.LoopN
import Derived.Test.YtobamahlipiakaaGreatMem
import Derived.Orders
import Derived.Tactics
import Derived.TacticsIn
import Derived.OrdersIn
import Derived.LoopNIn
set_option linter.unusedVariables false
set_option linter.unusedSimpArgs false
namespace Go.Proofs.YtobamahlipiakaaGreat
open Go.RowKit
inductive DV where
 | val (v:Value)
 | sl (sz:Nat) (cs:List C)
 | slc (sz:Nat) (cs:List C)
 | row (k:Nat)
 | part (k off n:Nat)
 | ptr (k i:Nat)
 | elt (cs:List C)
 | agg (ds:List DV)
 | tup (ds:List DV)
 | clo (f:FuncId) (n:Nat) (ds:List DV)
 | mp (l:List (Value×Value))
inductive LB where
 | box (ds:List DV) (ty:TypeId)
 | row (e:TypeId) (sz:Nat) (cs:List C)
 | map (l:List (Value×Value))
 | mit (k n:Nat) (seen:List Nat)
 | vec (ds:List DV) (e:TypeId)
 | lop (ts:List Nat) (ds:List DV) (N:Nat) (rc:Loop)
def Cu:Value->Option Nat
 | .slice (some a) _ (_ + 1)=>some a.block
 | .pointer (some a)=>some a.block
 | .map (some g)=>some g
 | _=>none
theorem Gx {a:Addr} {n c g:Nat} (h:Cu (.slice (some a) n c)=some g):a.block=g/\0 < c:=by
 cases c with
 | zero=>cases h
 | succ c=>injection h with h; exact⟨h,Nat.succ_pos c⟩
theorem Kp {a:Addr} {n c:Nat} (h:0 < c):Cu (.slice (some a) n c)=some a.block:=by
 cases c with
 | zero=>cases h
 | succ c=>rfl
def _root_.Go.World.rowOk (w:World) (e:TypeId) (sz:Nat) (v:Value) (n:Nat) (us:List Value):Prop:=
 us.length=n * sz/\((∃ A,v=.slice A 0 0/\n=0)\/∃ g cap cur,v=.slice (some ⟨g,0,none⟩) n cap/\0 < cap/\w.heap[g]?=some (.cells cur e (0,0))/\n<=cap/\cap<=maxLen/\cur.size=cap * sz/\cur.toList.take (n * sz)=us)
theorem _root_.Go.World.rowOk_of {w:World} {base e sz n:Nat} {v:Value} {us:List Value} (h:w.ownsRow base e sz v n us):w.rowOk e sz v n us:=by
 refine⟨h.1,?_⟩
 rcases h.2 with ⟨rfl,rfl⟩ | ⟨g,cap,cur,rfl,-,h2,h3,h4⟩
 ·exact .inl ⟨none,rfl,rfl⟩
 ·rcases aLq cap with h0 | h0
  ·subst h0
   have:n=0:=by omega
   subst this
   exact .inl ⟨_,rfl,rfl⟩
  ·exact .inr ⟨g,cap,cur,rfl,h0,h2,h3,h4⟩
theorem _root_.Go.World.rowOk_nil (w:World) (e sz:Nat) (A:Option Addr):w.rowOk e sz (.slice A 0 0) 0 []:=⟨by simp,.inl ⟨A,rfl,rfl⟩⟩
mutual
def men:DV->Nat->Prop
 | .row k,j=>j=k
 | .part k _ _,j=>j=k
 | .ptr k _,j=>j=k
 | .agg ds,j=>Gu ds j
 | .tup ds,j=>Gu ds j
 | .clo _ _ ds,j=>Gu ds j
 | .val _,_=>False
 | .sl _ _,_=>False
 | .slc _ _,_=>False
 | .mp _,_=>False
 | .elt _,_=>False
def Gu:List DV->Nat->Prop
 | [],_=>False
 | d :: ds,j=>men d j\/Gu ds j
end
def Uy:LB->Nat->Prop
 | .box ds _,j=>Gu ds j
 | .row ..,_=>False
 | .map _,_=>False
 | .mit k _ _,j=>j=k
 | .vec ds _,j=>Gu ds j
 | .lop _ ds _ _,j=>Gu ds j
section
variable (ρ:Nat->Value) (I:Nat->Prop) (w:World)
mutual
def C3:DV->Value->Prop
 | .val x,v=>v=x/\Gd x=true
 | .sl sz cs,v=>F1 w I (.sl sz cs) v
 | .slc sz cs,v=>F1 w I (.sl sz cs) v/\∃ A n,v=.slice A n n/\cs.length=n * sz
 | .mp l,v=>F1 w I (.mp l) v
 | .row k,v=>v=ρ k/\(ρ k).oneCell'=true
 | .part k off n,v=>∃ A c,v=.slice A n c/\n<=c/\c<=maxLen/\(0 < n->∃ g,Cu (ρ k)=some g/\A=some ⟨g,off,none⟩)/\(off=0->∀ A' N c',ρ k=.slice A' N c'->A=A'/\c=c')
 | .ptr k i,v=>∃ g,Cu (ρ k)=some g/\v=.pointer (some ⟨g,i,none⟩)
 | .elt cs,v=>∃ ad,v=.pointer (some ad)/\I ad.block/\J0 w I ad 0 cs
 | .agg ds,v=>∃ vs,v=.agg vs.toArray/\(∀ u∈vs,u.oneCell'=true)/\B5 ds vs
 | .tup ds,v=>∃ vs,v=.tuple vs.toArray/\B5 ds vs
 | .clo f n ds,v=>∃ vs,v=.func (.func f) (vs.take n).toArray (vs.drop n).toArray/\B5 ds vs
def B5:List DV->List Value->Prop
 | [],vs=>vs=[]
 | d :: ds,vs=>∃ u us,vs=u :: us/\C3 d u/\B5 ds us
end
end
section
variable {ρ ρ':Nat->Value} {I I':Nat->Prop} {w w':World}
mutual
theorem C3.step (hI:∀ b,I b->I' b/\w'.heap[b]?=w.heap[b]?):∀ (d:DV) (v:Value),(∀ k,men d k->ρ' k=ρ k)->C3 ρ I w d v->C3 ρ' I' w' d v
 | .val _,_,_,h=>by unfold C3 at *; exact h
 | .sl _ _,v,_,h=>by
  unfold C3 at *
  exact F1.keep_ (fun b hb=>(hI b hb).2) (fun b hb=>(hI b hb).1) _ _ h
 | .mp _,v,_,h=>by
  unfold C3 at *
  exact F1.keep_ (fun b hb=>(hI b hb).2) (fun b hb=>(hI b hb).1) _ _ h
 | .slc _ _,v,_,h=>by
  unfold C3 at *
  exact⟨F1.keep_ (fun b hb=>(hI b hb).2) (fun b hb=>(hI b hb).1) _ _ h.1,h.2⟩
 | .row k,_,hm,h=>by
  unfold C3 at *
  rw [hm k (by unfold men; rfl)]
  exact h
 | .part k _ _,_,hm,h=>by
  unfold C3 at *
  obtain⟨A,c,h1,h2,h3,h4,h5⟩:=h
  rw [hm k (by unfold men; rfl)]
  exact⟨A,c,h1,h2,h3,h4,h5⟩
 | .ptr k _,_,hm,h=>by
  unfold C3 at *
  rw [hm k (by unfold men; rfl)]
  exact h
 | .elt _,_,_,h=>by
  unfold C3 at *
  obtain⟨ad,h1,h2,h3⟩:=h
  exact⟨ad,h1,(hI _ h2).1,J0.keep_ (fun b hb=>(hI b hb).2) (fun b hb=>(hI b hb).1) ad h2 _ 0 h3⟩
 | .agg ds,_,hm,h=>by
  unfold C3 at *
  obtain⟨vs,h1,h2,h3⟩:=h
  exact⟨vs,h1,h2,B5.step hI ds vs (fun k hk=>hm k (by unfold men; exact hk)) h3⟩
 | .tup ds,_,hm,h=>by
  unfold C3 at *
  obtain⟨vs,h1,h3⟩:=h
  exact⟨vs,h1,B5.step hI ds vs (fun k hk=>hm k (by unfold men; exact hk)) h3⟩
 | .clo _ _ ds,_,hm,h=>by
  unfold C3 at *
  obtain⟨vs,h1,h3⟩:=h
  exact⟨vs,h1,B5.step hI ds vs (fun k hk=>hm k (by unfold men; exact hk)) h3⟩
theorem B5.step (hI:∀ b,I b->I' b/\w'.heap[b]?=w.heap[b]?):∀ (ds:List DV) (vs:List Value),(∀ k,Gu ds k->ρ' k=ρ k)->B5 ρ I w ds vs->B5 ρ' I' w' ds vs
 | [],_,_,h=>by unfold B5 at *; exact h
 | d :: ds,_,hm,h=>by
  unfold B5 at *
  obtain⟨u,us,h1,h2,h3⟩:=h
  exact⟨u,us,h1,C3.step hI d u (fun k hk=>hm k (by unfold Gu; exact .inl hk)) h2,B5.step hI ds us (fun k hk=>hm k (by unfold Gu; exact .inr hk)) h3⟩
end
end
theorem B5.length {ρ:Nat->Value} {I:Nat->Prop} {w:World}:∀ {ds:List DV} {vs:List Value},B5 ρ I w ds vs->ds.length=vs.length
 | [],vs,h=>by unfold B5 at h; rw [h]; rfl
 | d :: ds,vs,h=>by
  unfold B5 at h
  obtain⟨u,us,rfl,-,h3⟩:=h
  simp [B5.length h3]
theorem B5.at_ {ρ:Nat->Value} {I:Nat->Prop} {w:World}:∀ {ds:List DV} {vs:List Value} (_:B5 ρ I w ds vs) {i:Nat} {d:DV} (_:ds[i]?=some d),∃ v,vs[i]?=some v/\C3 ρ I w d v
 | [],vs,h,i,d,hd=>by simp at hd
 | d :: ds,vs,h,0,d',hd=>by
  unfold B5 at h
  obtain⟨u,us,rfl,h2,h3⟩:=h
  simp at hd
  subst hd
  exact⟨u,rfl,h2⟩
 | d :: ds,vs,h,i + 1,d',hd=>by
  unfold B5 at h
  obtain⟨u,us,rfl,h2,h3⟩:=h
  have:=B5.at_ h3 (i:=i) (d:=d') (by simpa using hd)
  simpa using this
structure St where
 F:Nat->Option DV
 L:Nat->Option LB
 U:Nat->Bool
structure Cx where
 w0:World
 I:Nat->Prop
 ρ0:Nat->Value
 np:Nat
 nq:Nat
 N:Nat
 rr:Option Nat
def Cx.M (cx:Cx) (b:Nat):Prop:=∃ k,k < cx.nq/\Cu (cx.ρ0 k)=some b
def Cx.G (cx:Cx) (b:Nat):Prop:=∃ k,cx.np<=k/\k < cx.nq/\Cu (cx.ρ0 k)=some b
def Cx.Kept (cx:Cx) (w:World):Prop:=
 w.os=cx.w0.os/\w.tape=cx.w0.tape/\w.output=cx.w0.output/\cx.w0.heap.size<=w.heap.size/\∀ b,b < cx.w0.heap.size->¬ cx.M b->w.heap[b]?=cx.w0.heap[b]?
def Loc (σ:St) (ρ:Nat->Value) (b:Nat):Prop:=∃ k lb,σ.L k=some lb/\Cu (ρ k)=some b
def Nc (cx:Cx) (σ:St) (ρ:Nat->Value) (w:World) (b:Nat):Prop:=b < w.heap.size/\¬ Loc σ ρ b/\(b < cx.w0.heap.size->cx.I b\/cx.G b)
def S5 (cx:Cx) (ρ:Nat->Value) (I:Nat->Prop) (w:World) (v:Value):LB->Prop
 | .box ds ty=>∃ b vs,v=.pointer (some ⟨b,0,none⟩)/\w.heap[b]?=some (.cells vs.toArray ty)/\(cx.w0.heap.size<=b\/cx.M b)/\(∀ u∈vs,u.oneCell'=true)/\B5 ρ I w ds vs
 | .row e sz cs=>∃ n us,w.rowOk e sz v n us/\(∀ b,Cu v=some b->cx.w0.heap.size<=b\/cx.M b)/\G0 w I cs us
 | .map l=>∃ g,v=.map (some g)/\Yn w g l/\(cx.w0.heap.size<=g\/cx.M g)
 | .mit k n seen=>∃ b g,v=.pointer (some ⟨b,0,none⟩)/\ρ k=.map (some g)/\w.heap[b]?=some (.mapIter (some g) n seen.toArray n)/\(cx.w0.heap.size<=b\/cx.M b)
 | .vec ds e=>∃ b vs,v=.slice (some ⟨b,0,none⟩) vs.length vs.length/\(0 < vs.length/\vs.length<=maxLen)/\w.heap[b]?=some (.cells vs.toArray e)/\(cx.w0.heap.size<=b\/cx.M b)/\(∀ u∈vs,u.oneCell'=true)/\B5 ρ I w ds vs
 | .lop ts ds N rc=>∃ b tm,v=.pointer (some ⟨b,0,none⟩)/\w.heap[b]?=some (.loop { rc with tmps:=tm })/\(cx.w0.heap.size<=b\/cx.M b)/\tm.size=N/\B5 ρ I w ds (ts.map fun t=>tm.getD t undef)
theorem S5.blk {cx:Cx} {ρ:Nat->Value} {I:Nat->Prop} {w:World} {v:Value} {lb:LB} (h:S5 cx ρ I w v lb) {b:Nat} (hb:Cu v=some b):b < w.heap.size/\(cx.w0.heap.size<=b\/cx.M b):=by
 cases lb with
 | box ds ty=>
  obtain⟨b',vs,rfl,h2,h3,-⟩:=h
  simp [Cu] at hb
  subst hb
  exact⟨(aJi.1 h2).1,h3⟩
 | row e sz cs=>
  obtain⟨n,us,ho,hM,-⟩:=h
  have hM:=hM b hb
  rcases ho.2 with ⟨A,rfl,-⟩ | ⟨g,cap,cur,rfl,h1,h2,-⟩
  ·cases A <;> cases hb
  ·obtain⟨rfl,-⟩:=Gx hb
   exact⟨(aJi.1 h2).1,hM⟩
 | map l=>
  obtain⟨g,rfl,⟨es,h2,-⟩,h3⟩:=h
  injection hb with hb
  subst hb
  exact⟨(aJi.1 h2).1,h3⟩
 | mit k n seen=>
  obtain⟨b',g,rfl,-,h2,h3⟩:=h
  injection hb with hb
  subst hb
  exact⟨(aJi.1 h2).1,h3⟩
 | vec ds e=>
  obtain⟨b',vs,rfl,-,h2,h3,-⟩:=h
  obtain⟨rfl,-⟩:=Gx hb
  exact⟨(aJi.1 h2).1,h3⟩
 | lop ts ds N rc=>
  obtain⟨b',tm,rfl,h2,h3,-⟩:=h
  injection hb with hb
  subst hb
  exact⟨(aJi.1 h2).1,h3⟩
theorem S5.step {cx:Cx} {ρ ρ':Nat->Value} {I I':Nat->Prop} {w w':World} {v:Value} {lb:LB} (h:S5 cx ρ I w v lb) (hI:∀ b,I b->I' b/\w'.heap[b]?=w.heap[b]?) (hρ:∀ k,Uy lb k->ρ' k=ρ k)
  (hb:∀ b,Cu v=some b->w'.heap[b]?=w.heap[b]?):S5 cx ρ' I' w' v lb:=by
 cases lb with
 | box ds ty=>
  obtain⟨b',vs,rfl,h2,h3,h4,h5⟩:=h
  exact⟨b',vs,rfl,(hb b' rfl).trans h2,h3,h4,B5.step hI ds vs hρ h5⟩
 | row e sz cs=>
  obtain⟨n,us,ho,hM,hr⟩:=h
  refine⟨n,us,⟨ho.1,?_⟩,hM,hr.keep_ (fun b hb=>(hI b hb).2) fun b hb=>(hI b hb).1⟩
  rcases ho.2 with h1 | ⟨g,cap,cur,rfl,h1,h2,h3⟩
  ·exact .inl h1
  ·exact .inr ⟨g,cap,cur,rfl,h1,(hb g (Kp h1)).trans h2,h3⟩
 | map l=>
  obtain⟨g,rfl,h2,h3⟩:=h
  exact⟨g,rfl,h2.keep (hb g rfl),h3⟩
 | mit k n seen=>
  obtain⟨b',g,rfl,h1,h2,h3⟩:=h
  exact⟨b',g,rfl,(hρ k rfl).trans h1,(hb b' rfl).trans h2,h3⟩
 | vec ds e=>
  obtain⟨b',vs,rfl,h1,h2,h3,h4,h5⟩:=h
  exact⟨b',vs,rfl,h1,(hb b' (Kp h1.1)).trans h2,h3,h4,B5.step hI ds vs hρ h5⟩
 | lop ts ds N rc=>
  obtain⟨b',tm,rfl,h2,h3,h4,h5⟩:=h
  exact⟨b',tm,rfl,(hb b' rfl).trans h2,h3,h4,B5.step hI ds _ hρ h5⟩
structure Ew (cx:Cx) (ρ:Nat->Value) (σ:St) (a:Act) (w:World):Prop where
 defers:(a.defers.Pairwise (·≠·))/\∀ d∈a.defers,∃ D,d={ target:=.collected D,args:=#[] }/\Nc cx σ ρ w D/\cx.w0.heap.size<=D/\w.heap[D]?=some (.deferred (some []))
 size:a.tmps.size=cx.N
 kept:cx.Kept w
 fr:∀ t d,σ.F t=some d->C3 ρ (Nc cx σ ρ w) w d (a.tmps.getD t undef)
 lo:∀ k lb,σ.L k=some lb->S5 cx ρ (Nc cx σ ρ w) w (ρ k) lb
 sep:∀ k k' lb lb' b,σ.L k=some lb->σ.L k'=some lb'->Cu (ρ k)=some b->Cu (ρ k')=some b->k=k'
 usedF:∀ t d k,σ.F t=some d->men d k->σ.U k=true
 usedL:∀ k lb,σ.L k=some lb->σ.U k=true/\∀ k',Uy lb k'->σ.U k'=true
 pin:∀ k,k < cx.np->ρ k=cx.ρ0 k/\σ.U k=true
 fresh:∀ k lb b,σ.L k=some lb->cx.np<=k->Cu (ρ k)=some b->cx.w0.heap.size<=b\/cx.G b
def Mx (cx:Cx) (σ:St) (a:Act) (w:World):Prop:=∃ ρ,Ew cx ρ σ a w
structure Ow where
 d:Option DV
 l:Nat->Option (Option LB)
def upd {α:Type} (f:Nat->Option α) (t:Nat) (x:Option α):Nat->Option α:=fun s=>bif Nat.beq s t then x else f s
def St.app (σ:St) (dst:Option Tmp) (e:Ow):St where
 F:=match dst with | some t=>upd σ.F t e.d | none=>σ.F
 L:=fun k=>match e.l k with | some x=>x | none=>σ.L k
 U:=fun k=>σ.U k || (e.l k).isSome
theorem bH {α:Type} (f:Nat->Option α) (t:Nat) (x:Option α):upd f t x t=x:=by simp [upd]
theorem Qz {α:Type} (f:Nat->Option α) {t s:Nat} (x:Option α) (h:s≠t):upd f t x s=f s:=by
 unfold upd
 cases hb:Nat.beq s t with
 | false=>rfl
 | true=>exact absurd (aF5 hb) h
section
variable {cx:Cx} {ρ ρ':Nat->Value} {σ:St} {a:Act} {w w':World}
theorem Ew.app (h:Ew cx ρ σ a w) {dst:Option Tmp} {e:Ow} {v:Value} (hk:cx.Kept w') (hsz:w.heap.size<=w'.heap.size) (hdst:∀ t,dst=some t->t < cx.N)
  (hρ:∀ k,σ.U k=true->ρ' k=ρ k)
  (hheap:∀ b,b < w.heap.size->(∀ k lb,e.l k≠none->σ.L k=some lb->Cu (ρ k)≠some b)->w'.heap[b]?=w.heap[b]?)
  (hblk:∀ k lb b,e.l k=some (some lb)->Cu (ρ' k)=some b->w.heap.size<=b\/∃ k' lb',e.l k'≠none/\σ.L k'=some lb'/\Cu (ρ k')=some b)
  (hsep:∀ k k' lb lb' b,e.l k=some (some lb)->e.l k'=some (some lb')->Cu (ρ' k)=some b->Cu (ρ' k')=some b->k=k')
  (hnew:(∀ b,Nc cx σ ρ w b->Nc cx (σ.app dst e) ρ' w' b/\w'.heap[b]?=w.heap[b]?)->(∀ b,w.heap.size<=b->b < w'.heap.size->(∀ k lb,e.l k=some (some lb)->Cu (ρ' k)≠some b)->Nc cx (σ.app dst e) ρ' w' b)->
   (∀ k lb,e.l k=some (some lb)->S5 cx ρ' (Nc cx (σ.app dst e) ρ' w') w' (ρ' k) lb)/\∀ d,e.d=some d->C3 ρ' (Nc cx (σ.app dst e) ρ' w') w' d v)
  (hu:(∀ k lb k',e.l k=some (some lb)->Uy lb k'->σ.U k'=true\/e.l k'≠none)/\∀ d k',e.d=some d->men d k'->σ.U k'=true\/e.l k'≠none)
  (hfr:∀ k lb b,e.l k=some (some lb)->cx.np<=k->Cu (ρ' k)=some b->cx.w0.heap.size<=b\/cx.G b) :
  Ew cx ρ' (σ.app dst e) (a.put dst v) w':=by
 have hLs:∀ k,e.l k=none->(σ.app dst e).L k=σ.L k:=fun k hk=>by simp [St.app,hk]
 have hLn:∀ k x,e.l k=some x->(σ.app dst e).L k=x:=fun k x hk=>by simp [St.app,hk]
 have B:∀ k,σ.U k=true\/e.l k≠none->(σ.app dst e).U k=true:=fun k hk=>by
  simp only [St.app,aR9,Option.isSome_iff_ne_none]; exact hk
 have hloc:∀ b,b < w.heap.size->Loc (σ.app dst e) ρ' b->Loc σ ρ b:=by
  rintro b hb ⟨k,lb,h1,h2⟩
  cases hek:e.l k with
  | none=>
   rw [hLs k hek] at h1
   exact⟨k,lb,h1,by rw [<- hρ k (h.usedL k lb h1).1]; exact h2⟩
  | some x=>
   rw [hLn k x hek] at h1
   subst h1
   rcases hblk k lb b hek h2 with h3 | ⟨k',lb',h3,h4,h5⟩
   ·omega
   ·exact⟨k',lb',h4,h5⟩
 have hI:∀ b,Nc cx σ ρ w b->Nc cx (σ.app dst e) ρ' w' b/\w'.heap[b]?=w.heap[b]?:=fun b hb=>
  ⟨⟨aY0 hb.1 hsz,fun hl=>hb.2.1 (hloc b hb.1 hl),hb.2.2⟩,hheap b hb.1 fun k lb _ h2 h3=>hb.2.1 ⟨k,lb,h2,h3⟩⟩
 have hI2:∀ b,w.heap.size<=b->b < w'.heap.size->(∀ k lb,e.l k=some (some lb)->Cu (ρ' k)≠some b)->Nc cx (σ.app dst e) ρ' w' b:=by
  rintro b h1 h2 h3
  refine⟨h2,?_,fun hlt=>by have:=h.kept.2.2.2.1; omega⟩
  rintro⟨k,lb,h4,h5⟩
  cases hek:e.l k with
  | none=>
   rw [hLs k hek] at h4
   rw [hρ k (h.usedL k lb h4).1] at h5
   have:=((h.lo k lb h4).blk h5).1
   omega
  | some x=>
   rw [hLn k x hek] at h4
   subst h4
   exact h3 k lb hek h5
 obtain⟨hn1,hn2⟩:=hnew hI hI2
 refine⟨?_,?_,hk,?_,?_,?_,?_,?_,fun k hk'=>⟨(hρ k (h.pin k hk').2).trans (h.pin k hk').1,B k (.inl (h.pin k hk').2)⟩,fun k lb b h1 h2 h3=>?_⟩
 ·refine⟨by cases dst <;> exact h.defers.1,fun d hd=>?_⟩
  obtain⟨D,h1,h2,h4,h3⟩:=h.defers.2 d (by cases dst <;> exact hd)
  exact⟨D,h1,(hI D h2).1,h4,(hI D h2).2.trans h3⟩
 ·cases dst with
  | none=>exact h.size
  | some t=>simpa [Act.put] using h.size
 ·intro t d hd
  have old:σ.F t=some d->C3 ρ' (Nc cx (σ.app dst e) ρ' w') w' d (a.tmps.getD t undef):=fun hd=>C3.step hI d _ (fun k hk=>hρ k (h.usedF t d k hd hk)) (h.fr t d hd)
  cases dst with
  | none=>exact old hd
  | some t'=>
   by_cases ht:t=t'
   ·subst ht
    have hd':e.d=some d:=by simpa [St.app,upd] using hd
    have:=hdst t rfl
    have e1:(a.put (some t) v).tmps.getD t undef=v:=by
     have h0:t < a.tmps.size:=by rw [h.size]; exact this
     simp [Act.put,h0]
    rw [e1]
    exact hn2 d hd'
   ·have hd':σ.F t=some d:=by have:=hd; simp only [St.app] at this; rwa [Qz _ _ ht] at this
    have e1:(a.put (some t') v).tmps.getD t undef=a.tmps.getD t undef:=by
     simp [Act.put,aTr,Ne.symm ht]
    rw [e1]
    exact old hd'
 ·intro k lb hl
  cases hek:e.l k with
  | none=>
   rw [hLs k hek] at hl
   have hu:=h.usedL k lb hl
   rw [hρ k hu.1]
   refine (h.lo k lb hl).step hI (fun k' hk'=>hρ k' (hu.2 k' hk')) fun b hb=>hheap b ((h.lo k lb hl).blk hb).1 fun k' lb' h1 h2 h3=>?_
   have:=h.sep k' k lb' lb b h2 hl h3 hb
   subst this
   exact h1 hek
  | some x=>
   rw [hLn k x hek] at hl
   subst hl
   exact hn1 k lb hek
 ·intro k k' lb lb' b h1 h2 h3 h4
  cases hek:e.l k with
  | none=>
   rw [hLs k hek] at h1
   rw [hρ k (h.usedL k lb h1).1] at h3
   cases hek':e.l k' with
   | none=>
    rw [hLs k' hek'] at h2
    rw [hρ k' (h.usedL k' lb' h2).1] at h4
    exact h.sep k k' lb lb' b h1 h2 h3 h4
   | some x=>
    rw [hLn k' x hek'] at h2
    subst h2
    exfalso
    rcases hblk k' lb' b hek' h4 with h5 | ⟨k2,lb2,h5,h6,h7⟩
    ·have:=((h.lo k lb h1).blk h3).1
     omega
    ·have:=h.sep k k2 lb lb2 b h1 h6 h3 h7
     subst this
     exact h5 hek
  | some x=>
   rw [hLn k x hek] at h1
   subst h1
   cases hek':e.l k' with
   | none=>
    rw [hLs k' hek'] at h2
    rw [hρ k' (h.usedL k' lb' h2).1] at h4
    exfalso
    rcases hblk k lb b hek h3 with h5 | ⟨k2,lb2,h5,h6,h7⟩
    ·have:=((h.lo k' lb' h2).blk h4).1
     omega
    ·have:=h.sep k' k2 lb' lb2 b h2 h6 h4 h7
     subst this
     exact h5 hek'
   | some y=>
    rw [hLn k' y hek'] at h2
    subst h2
    exact hsep k k' lb lb' b hek hek' h3 h4
 ·intro t d k hd hm
  have old:σ.F t=some d->(σ.app dst e).U k=true:=fun hd=>B k (.inl (h.usedF t d k hd hm))
  cases dst with
  | none=>exact old hd
  | some t'=>
   by_cases ht:t=t'
   ·subst ht
    have hd':e.d=some d:=by simpa [St.app,upd] using hd
    exact B k (hu.2 d k hd' hm)
   ·exact old (by have:=hd; simp only [St.app] at this; rwa [Qz _ _ ht] at this)
 ·intro k lb hl
  cases hek:e.l k with
  | none=>
   rw [hLs k hek] at hl
   exact⟨B k (.inl (h.usedL k lb hl).1),fun k' hk'=>B k' (.inl ((h.usedL k lb hl).2 k' hk'))⟩
  | some x=>
   rw [hLn k x hek] at hl
   subst hl
   exact⟨B k (.inr (by rw [hek]; simp)),fun k' hk'=>B k' (hu.1 k lb k' hek hk')⟩
 ·cases hek:e.l k with
  | none=>
   rw [hLs k hek] at h1
   rw [hρ k (h.usedL k lb h1).1] at h3
   exact h.fresh k lb b h1 h2 h3
  | some x=>
   rw [hLn k x hek] at h1
   subst h1
   exact hfr k lb b hek h2 h3
def rR (d:Option DV):Ow:=⟨d,fun _=>none⟩
theorem Ew.put0 (h:Ew cx ρ σ a w) {dst:Option Tmp} {d:Option DV} {v:Value} (hdst:∀ t,dst=some t->t < cx.N)
  (hd:∀ x,d=some x->C3 ρ (Nc cx σ ρ w) w x v) (hu:∀ x k,d=some x->men x k->σ.U k=true):Ew cx ρ (σ.app dst (rR d)) (a.put dst v) w:=by
 refine h.app h.kept (aJf _) hdst (fun _ _=>rfl) (fun _ _ _=>rfl) (fun k lb b h1=>by simp [Go.Proofs.YtobamahlipiakaaGreat.rR] at h1) (fun k k' lb lb' b h1=>by simp [Go.Proofs.YtobamahlipiakaaGreat.rR] at h1) (fun hI _=>⟨fun k lb h1=>by simp [Go.Proofs.YtobamahlipiakaaGreat.rR] at h1,fun x hx=>?_⟩) ⟨fun k lb k' h1=>by simp [Go.Proofs.YtobamahlipiakaaGreat.rR] at h1,fun x k hx hm=>.inl (hu x k hx hm)⟩ (fun k lb b h1=>by simp [Go.Proofs.YtobamahlipiakaaGreat.rR] at h1)
 exact C3.step hI x v (fun _ _=>rfl) (hd x hx)
end
end Go.Proofs.YtobamahlipiakaaGreat
namespace Go.Proofs.YtobamahlipiakaaGreat
open Go.RowKit
theorem rY {p:Nat->Prop} (h:∃ n,p n):∃ n,p n/\∀ m,p m->n<=m:=by
 obtain⟨n,hn⟩:=h
 induction n using Nat.strongRecOn with
 | _ n ih=>
  by_cases hm:∃ m,m < n/\p m
  ·obtain⟨m,h1,h2⟩:=hm
   exact ih m h1 h2
  ·exact⟨n,hn,fun m hpm=>Nat.le_of_not_lt fun hlt=>hm ⟨m,hlt,hpm⟩⟩
open Classical in
noncomputable def least (p:Nat->Prop):Nat:=if h:∃ n,p n then Classical.choose (rY h) else 0
theorem iQ {p:Nat->Prop} (h:∃ n,p n):p (least p)/\∀ m,p m->least p<=m:=by
 unfold least
 rw [dif_pos h]
 exact aWt (rY h)
def Rr (cx:Cx) (σ σ':St):Prop:=∀ a w,Mx cx σ a w->Mx cx σ' a w
theorem Rr.refl (cx:Cx) (σ:St):Rr cx σ σ:=fun _ _ h=>h
theorem Rr.trans {cx:Cx} {a b c:St} (h:Rr cx a b) (k:Rr cx b c):Rr cx a c:=fun _ _ x=>k _ _ (h _ _ x)
def Sa (cx:Cx) (Q:Exit->St->Prop):Exit->Act->World->Prop:=fun e a w=>∃ σ,Q e σ/\Mx cx σ a w
def FW (r:Option Nat):Fence:={ Fence.wide with round:=r }
theorem Xu {r:Option Nat} {n:Nat} {P:Program} {f:FuncId} {args:Array Value} {w:World} {R:Ending->World->Prop}:CallsIn (FW r) n P f args w R↔Calls P f args w R:=callsIn_wide (n:=n)
theorem aAd {r:Option Nat} {n:Nat} {P:Program} {row:String} {args:Array Value} {w:World} {R:Value->World->Prop} (h:Rows P row args w R):RowsIn (FW r) n P row args w R:=
 fun c cs _=>let ⟨v,w',q,s⟩:=h c cs; ⟨v,w',q,stepsIn_wide.2 s⟩
def aL9:Op->Bool
 | .defer _=>false
 | _=>true
theorem mH {P:Program} {r:Option Nat} {n:Nat} {o:Oper} {a:Act} {w:World} {K:Act->World->Prop} {Q:Exit->Act->World->Prop} (hd:aL9 o.op=true) (h:o.wp P a w K Q):o.wpIn (FW r) n P a w K Q:=by
 unfold Oper.wpIn
 refine⟨fun _ _=>trivial,?_⟩
 have e:o.semAt (FW r).round a.eval=execOp a.eval o:=by
  cases r with
  | none=>rfl
  | some l=>exact Oper.semAt_some l _ _ fun c hc=>by rw [hc] at hd; cases hd
 rw [e]
 unfold Oper.wp at h
 revert h
 generalize (execOp a.eval o).run P w=x
 intro h
 cases x with
 | ok y w'=>
  cases y with
  | enter f args=>exact⟨fun hs=>by simp [FW,Fence.wide] at hs,Xu.2 h⟩
  | row row args=>exact⟨fun hs=>by simp [FW,Fence.wide] at hs,aAd h⟩
  | value v=>exact h
  | skip=>exact h
  | defer d=>exact h
  | _=>exact h.elim
 | halt y w'=>
  cases y with
  | panic v=>exact h
  | _=>exact h.elim
def M1 (P:Program) (cx:Cx) (c:Code) (Q:Exit->St->Prop) (σ:St):Prop:=∀ n a w,Mx cx σ a w->c.wpIn (FW cx.rr) n P (Sa cx Q) a w
def thn (next:St->Prop) (Q:Exit->St->Prop):Exit->St->Prop
 | .normal,σ=>next σ
 | .exit i,σ=>Q (.exit i) σ
 | .goto i,σ=>Q (.goto i) σ
 | .ret,σ=>Q .ret σ
 | .panic c,σ=>Q (.panic c) σ
 | .outgrown,σ=>Q .outgrown σ
def inB (id:Nat) (Q:Exit->St->Prop):Exit->St->Prop
 | .normal,σ=>Q .normal σ
 | .exit i,σ=>if i=id then Q .normal σ else Q (.exit i) σ
 | .goto i,σ=>Q (.goto i) σ
 | .ret,σ=>Q .ret σ
 | .panic c,σ=>Q (.panic c) σ
 | .outgrown,σ=>Q .outgrown σ
section
variable {P:Program} {cx:Cx} {Q:Exit->St->Prop} {σ σ':St} {x y:Code}
theorem Hg (h:Rr cx σ σ') (hx:M1 P cx x Q σ'):M1 P cx x Q σ:=fun n a w ha=>hx n a w (h a w ha)
theorem Ay (hx:M1 P cx x (thn (M1 P cx y Q) Q) σ):M1 P cx (.seq x y) Q σ:=by
 intro n a w ha
 refine wpIn_seq (Code.wpIn_mono ?_ (hx n a w ha))
 rintro e a' w' ⟨σ',q,h'⟩
 cases e with
 | normal=>exact q n a' w' h'
 | _=>exact⟨σ',q,h'⟩
theorem eO {t:Nat} {b:Bool} (hc:σ.F t=some (.val (.bool b))) (h1:b=true->M1 P cx x Q σ) (h2:b=false->M1 P cx y Q σ):M1 P cx (.cond (.tmp t) x y) Q σ:=by
 intro n a w ha
 obtain⟨ρ,h⟩:=ha
 have hb:=h.fr t _ hc
 unfold C3 at hb
 exact wpIn_cond_split (t:=b) hb.1 (fun e=>h1 e n a w ⟨ρ,h⟩) (fun e=>h2 e n a w ⟨ρ,h⟩)
theorem aA3 {b:Bool} (h1:b=true->M1 P cx x Q σ) (h2:b=false->M1 P cx y Q σ):M1 P cx (.cond (.const (.bool b)) x y) Q σ:=by
 intro n a w ha
 exact wpIn_cond_split (t:=b) rfl (fun e=>h1 e n a w ha) (fun e=>h2 e n a w ha)
theorem Ly {id:Nat} (h:M1 P cx x (inB id Q) σ):M1 P cx (.block id x) Q σ:=by
 intro n a w ha
 refine wpIn_block (Code.wpIn_mono ?_ (h n a w ha))
 rintro e a' w' ⟨σ',q,h'⟩
 cases e with
 | exit i=>
  simp only [inB] at q
  simp only [Exit.inBlock]
  split
  ·rename_i hi
   rw [if_pos hi] at q
   exact⟨σ',q,h'⟩
  ·rename_i hi
   rw [if_neg hi] at q
   exact⟨σ',q,h'⟩
 | _=>exact⟨σ',q,h'⟩
theorem aDy {id:Nat} (h:Q (.exit id) σ):M1 P cx (.exit id) Q σ:=fun _ _ _ ha=>wpIn_exit ⟨σ,h,ha⟩
theorem dL (h:Q .ret σ):M1 P cx .ret Q σ:=fun _ _ _ ha=>wpIn_ret ⟨σ,h,ha⟩
theorem aDm (h:Q .normal σ):M1 P cx .skip Q σ:=fun _ _ _ ha=>wpIn_skip ⟨σ,h,ha⟩
theorem aEb {Q':Exit->St->Prop} (hq:∀ e σ,Q e σ->Q' e σ) (h:M1 P cx x Q σ):M1 P cx x Q' σ:=fun n a w ha=>
 Code.wpIn_mono (fun _ _ _ ⟨σ',q,h'⟩=>⟨σ',hq _ _ q,h'⟩) (h n a w ha)
theorem sW {ι:Type} (inv:ι->St) (ok:ι->Prop) (μ:ι->Nat) (i0:ι) (h0:Rr cx σ (inv i0)) (hi0:ok i0)
  (round:∀ i,ok i->M1 P cx x (thn (fun σ'=>∃ j,μ j < μ i/\ok j/\Rr cx σ' (inv j)) Q) (inv i)):M1 P cx (.loop x) Q σ:=by
 intro n a w ha
 refine wpIn_loop (fun a w=>∃ i,ok i/\Mx cx (inv i) a w) (fun a w=>least fun n=>∃ i,μ i=n/\ok i/\Mx cx (inv i) a w) ⟨i0,hi0,h0 a w ha⟩ ?_
 rintro a w ⟨i,hi,hA⟩
 have hs:=iQ (p:=fun n=>∃ i,μ i=n/\ok i/\Mx cx (inv i) a w) ⟨μ i,i,rfl,hi,hA⟩
 obtain⟨⟨i',h1,h2,h3⟩,-⟩:=hs
 refine Code.wpIn_mono ?_ (round i' h2 n a w h3)
 rintro e a' w' ⟨σ',q,h'⟩
 cases e with
 | normal=>
  obtain⟨j,q1,q2,q3⟩:=q
  refine⟨⟨j,q2,q3 a' w' h'⟩,?_⟩
  have:=(iQ (p:=fun n=>∃ i,μ i=n/\ok i/\Mx cx (inv i) a' w') ⟨μ j,j,rfl,q2,q3 a' w' h'⟩).2 (μ j) ⟨j,rfl,q2,q3 a' w' h'⟩
  show _ < _
  omega
 | _=>exact⟨σ',q,h'⟩
end
def H9 {α:Type}:List (Nat×α)->Nat->Option α
 | [],_=>none
 | (k,x) :: l,s=>bif Nat.beq s k then some x else H9 l s
def mk (fl:List (Nat×DV)) (ll:List (Nat×LB)) (n:Nat):St:=⟨H9 fl,H9 ll,fun k=>Nat.blt k n⟩
inductive kC:Option Nat->DV->C->Prop
 | int {s k n}:kC s (.val (.int k n)) (.int k n)
 | bool {s b}:kC s (.val (.bool b)) (.bool b)
 | str {s x}:kC s (.val (.string x)) (.str x)
 | sl {s sz cs}:kC s (.sl sz cs) (.sl sz cs)
 | mp {s l}:kC s (.mp l) (.mp l)
 | nil {sz}:kC (some sz) (.val (.slice none 0 0)) (.sl sz [])
 | ptr {s a}:kC s (.val (.pointer a)) (.raw (.pointer a))
 | func {s f a b}:kC s (.val (.func f a b)) (.raw (.func f a b))
inductive M2:List (Option Nat)->List DV->List C->Prop
 | nil {ks}:M2 ks [] []
 | cons {k ks d c ds cs} (h:kC k d c) (hs:M2 ks ds cs):M2 (k :: ks) (d :: ds) (c :: cs)
section
variable {ρ:Nat->Value} {w:World}
theorem kC.rd {I:Nat->Prop} {k:Option Nat} {d:DV} {c:C} {v:Value} (h:kC k d c) (hr:C3 ρ I w d v):F1 w I c v:=by
 cases h with
 | int=>unfold C3 at hr; unfold F1; exact⟨hr.1,I7.1 hr.2⟩
 | bool=>unfold C3 at hr; unfold F1; exact hr.1
 | str=>unfold C3 at hr; unfold F1; exact⟨hr.1,Qw.1 hr.2⟩
 | sl=>unfold C3 at hr; exact hr
 | mp=>unfold C3 at hr; exact hr
 | nil=>unfold C3 at hr; rw [hr.1]; exact F1.nil_ _
 | ptr=>unfold C3 at hr; unfold F1; exact⟨hr.1,rfl,rfl⟩
 | func=>unfold C3 at hr; unfold F1; exact⟨hr.1,rfl,rfl⟩
theorem M2.rd {I:Nat->Prop}:∀ {ks:List (Option Nat)} {ds:List DV} {cs:List C} {vs:List Value} (_:M2 ks ds cs) (_:B5 ρ I w ds vs),G0 w I cs vs
 | _,_,_,vs,.nil,hr=>by
  unfold B5 at hr
  subst hr
  exact⟨rfl,fun j c u h _=>by simp at h⟩
 | _,_,_,vs,.cons h hs,hr=>by
  unfold B5 at hr
  obtain⟨u,us,rfl,h1,h2⟩:=hr
  have:=M2.rd hs h2
  refine⟨by simpa using this.1,fun j c u' a b=>?_⟩
  cases j with
  | zero=>simp at a b; subst a b; exact h.rd h1
  | succ j=>exact this.2 j c u' (by simpa using a) (by simpa using b)
end
mutual
inductive Cv (σ:St) (θ:Nat->Option Nat):DV->DV->Prop
 | val (v:Value):Cv σ θ (.val v) (.val v)
 | sl (sz:Nat) (cs:List C):Cv σ θ (.sl sz cs) (.sl sz cs)
 | slc (sz:Nat) (cs:List C):Cv σ θ (.slc sz cs) (.sl sz cs)
 | slcc (sz:Nat) (cs:List C):Cv σ θ (.slc sz cs) (.slc sz cs)
 | mp (l:List (Value×Value)):Cv σ θ (.mp l) (.mp l)
 | frzM {j:Nat} {l:List (Value×Value)} (h:σ.L j=some (.map l)) (h':∀ k,θ k≠some j):Cv σ θ (.row j) (.mp l)
 | elt (cs:List C):Cv σ θ (.elt cs) (.elt cs)
 | row {j k:Nat} (h:θ k=some j):Cv σ θ (.row j) (.row k)
 | part {j k off n:Nat} (h:θ k=some j):Cv σ θ (.part j off n) (.part k off n)
 | ptr {j k i:Nat} (h:θ k=some j):Cv σ θ (.ptr j i) (.ptr k i)
 | nil {k:Nat} (h:θ k=none):Cv σ θ (.val (.slice none 0 0)) (.row k)
 | nils (sz:Nat):Cv σ θ (.val (.slice none 0 0)) (.sl sz [])
 | agg {ds ds':List DV} (h:Sz σ θ ds ds'):Cv σ θ (.agg ds) (.agg ds')
 | tup {ds ds':List DV} (h:Sz σ θ ds ds'):Cv σ θ (.tup ds) (.tup ds')
 | clo (f:FuncId) (n:Nat) {ds ds':List DV} (h:Sz σ θ ds ds'):Cv σ θ (.clo f n ds) (.clo f n ds')
 | frz {j:Nat} {e sz cs} (h:σ.L j=some (.row e sz cs)) (h':∀ k,θ k≠some j):Cv σ θ (.row j) (.sl sz cs)
 | frzb {j i:Nat} {ds:List DV} {ty:TypeId} {ks:List (Option Nat)} {cs:List C} (h:σ.L j=some (.box ds ty)) (hc:M2 ks ds cs) (h':∀ k,θ k≠some j):Cv σ θ (.ptr j i) (.elt (cs.drop i))
inductive Sz (σ:St) (θ:Nat->Option Nat):List DV->List DV->Prop
 | nil:Sz σ θ [] []
 | cons {d d' ds ds'} (h:Cv σ θ d d') (hs:Sz σ θ ds ds'):Sz σ θ (d :: ds) (d' :: ds')
end
def CvB (σ:St) (θ:Nat->Option Nat):LB->LB->Prop
 | .box ds ty,.box ds' ty'=>ty=ty'/\Sz σ θ ds ds'
 | .row e sz cs,.row e' sz' cs'=>e=e'/\sz=sz'/\cs=cs'
 | .map l,.map l'=>l=l'
 | .mit k n s,.mit k' n' s'=>θ k'=some k/\n=n'/\s=s'
 | .vec ds e,.vec ds' e'=>e=e'/\Sz σ θ ds ds'
 | .lop ts ds N rc,.lop ts' ds' N' rc'=>(ts=ts'/\N=N'/\rc=rc')/\Sz σ θ ds ds'
 | _,_=>False
def W0 (θ:Nat->Option Nat) (ρ:Nat->Value) (k:Nat):Value:=match θ k with | some j=>ρ j | none=>.slice none 0 0
theorem tU.cells {w:World} {e sz n:Nat} {v:Value} {us:List Value} {I:Nat->Prop} {cs:List C} (ho:w.rowOk e sz v n us) (hr:G0 w I cs us) {J:Nat->Prop} (hI:∀ b,I b->J b) (hb:∀ b,Cu v=some b->J b):F1 w J (.sl sz cs) v:=by
 have hl:cs.length=n * sz:=by rw [hr.1,ho.1]
 rcases ho.2 with ⟨A,rfl,rfl⟩ | ⟨g,cap,cur,rfl,h1,G,hn,hm,hs,ht⟩
 ·exact F1.mk_slice hl (aJf _) (aOm _) fun h=>absurd h (Nat.lt_irrefl 0)
 ·refine F1.mk_slice hl hn hm fun _=>⟨⟨g,0,none⟩,rfl,hb g (Kp h1),fun j c hj=>?_⟩
  have hjl:j < us.length:=by rw [<- hr.1]; exact (aDx.1 hj).1
  have hu:us[j]?=some us[j]:=aCv hjl
  refine⟨us[j],?_,(hr.2 j c _ hj hu).mono hI⟩
  have key:∀ u,us[j]?=some u->w.cell? ⟨g,j,none⟩=some u:=by
   intro u hu
   rw [<- ht,aOs] at hu
   split at hu
   ·simpa [World.cell?,G] using hu
   ·cases hu
  have e1:=key _ hu
  unfold Addr.add
  split
  ·rename_i h0; subst h0; exact e1
  ·simpa using e1
theorem qE {w:World} {e sz n:Nat} {v:Value} {us:List Value} {I:Nat->Prop} {cs:List C} (ho:w.rowOk e sz v n us) (hr:G0 w I cs us) {J:Nat->Prop} (hI:∀ b,I b->J b) (hb:∀ b,Cu v=some b->J b)
  {off m c:Nat} {A:Option Addr} (hm:off + m * sz<=cs.length) (hmc:m<=c) (hc:c<=maxLen) (hA:0 < m->∃ g,Cu v=some g/\A=some ⟨g,off,none⟩):F1 w J (.sl sz ((cs.drop off).take (m * sz))) (.slice A m c):=by
 refine F1.mk_slice (by rw [aJj,aJ4]; omega) hmc hc fun h0=>?_
 obtain⟨g,G,rfl⟩:=hA h0
 refine⟨_,rfl,hb g G,fun j x hj=>?_⟩
 have hj':cs[off + j]?=some x:=by
  rw [aOs] at hj
  split at hj
  ·rwa [aP4] at hj
  ·cases hj
 have hjl:off + j < us.length:=by rw [<- hr.1]; exact (aDx.1 hj').1
 have hu:us[off + j]?=some us[off + j]:=aCv hjl
 refine⟨us[off + j],?_,(hr.2 _ x _ hj' hu).mono hI⟩
 rcases ho.2 with ⟨A,rfl,-⟩ | ⟨g',cap,cur,rfl,h1,hg',hn,hm,hs,ht⟩
 ·cases A <;> cases G
 ·obtain⟨G,-⟩:=Gx G
  dsimp only at G
  subst G
  have key:∀ u,us[off + j]?=some u->w.cell? ⟨g',off + j,none⟩=some u:=by
   intro u hu
   rw [<- ht,aOs] at hu
   split at hu
   ·simpa [World.cell?,hg'] using hu
   ·cases hu
  have e1:=key _ hu
  unfold Addr.add
  split
  ·rename_i h0; subst h0; simpa using e1
  ·exact e1
section
variable {cx:Cx} {ρ:Nat->Value} {σ:St} {a:Act} {w:World} {θ:Nat->Option Nat} {I':Nat->Prop}
mutual
theorem Cv.rep (h:Ew cx ρ σ a w) (hI:∀ b,Nc cx σ ρ w b->I' b) (hfz:∀ j lb b,σ.L j=some lb->(∀ k,θ k≠some j)->Cu (ρ j)=some b->I' b):∀ {d d':DV} (_:Cv σ θ d d') (v:Value),C3 ρ (Nc cx σ ρ w) w d v->C3 (W0 θ ρ) I' w d' v
 | _,_,.val _,_,hr=>by unfold C3 at *; exact hr
 | _,_,.sl _ _,v,hr=>by unfold C3 at *; exact F1.mono hr hI
 | _,_,.slc _ _,v,hr=>by unfold C3 at *; exact F1.mono hr.1 hI
 | _,_,.slcc _ _,v,hr=>by unfold C3 at *; exact⟨F1.mono hr.1 hI,hr.2⟩
 | _,_,.mp _,v,hr=>by unfold C3 at *; exact F1.mono hr hI
 | _,_,.frzM hL h',v,hr=>by
  unfold C3 at *
  rw [hr.1]
  obtain⟨g,q1,q2,-⟩:=h.lo _ _ hL
  unfold F1
  exact⟨g,q1,hfz _ _ g hL h' (by rw [q1]; rfl),q2⟩
 | _,_,.elt _,v,hr=>by
  unfold C3 at *
  obtain⟨ad,h1,h2,h3⟩:=hr
  exact⟨ad,h1,hI _ h2,J0.keep_ (fun _ _=>rfl) hI ad h2 _ 0 h3⟩
 | _,_,.row hk,v,hr=>by unfold C3 at *; simpa [W0,hk] using hr
 | _,_,.part hk,v,hr=>by
  unfold C3 at *
  obtain⟨A,c,h1,h2,h3,h4,h5⟩:=hr
  exact⟨A,c,h1,h2,h3,fun hn=>by simpa [W0,hk] using h4 hn,fun h0 A' N c' hv=>h5 h0 A' N c' (by simpa [W0,hk] using hv)⟩
 | _,_,.ptr hk,v,hr=>by
  unfold C3 at *
  simpa [W0,hk] using hr
 | _,_,.nil hk,v,hr=>by unfold C3 at *; rw [hr.1]; simp [W0,hk,Value.oneCell']
 | _,_,.nils sz,v,hr=>by unfold C3 at *; rw [hr.1]; exact F1.nil_ sz
 | _,_,.agg hs,v,hr=>by
  unfold C3 at *
  obtain⟨vs,h1,h2,h3⟩:=hr
  exact⟨vs,h1,h2,Sz.rep h hI hfz hs vs h3⟩
 | _,_,.tup hs,v,hr=>by
  unfold C3 at *
  obtain⟨vs,h1,h3⟩:=hr
  exact⟨vs,h1,Sz.rep h hI hfz hs vs h3⟩
 | _,_,.clo _ _ hs,v,hr=>by
  unfold C3 at *
  obtain⟨vs,h1,h3⟩:=hr
  exact⟨vs,h1,Sz.rep h hI hfz hs vs h3⟩
 | _,_,.frz hL h',v,hr=>by
  unfold C3 at *
  rw [hr.1]
  obtain⟨n,us,ho,-,hu⟩:=h.lo _ _ hL
  exact tU.cells ho hu hI fun b hb=>hfz _ _ b hL h' hb
 | _,_,.frzb (j:=j) (i:=i) hL hc h',v,hr=>by
  unfold C3 at *
  obtain⟨g,G,rfl⟩:=hr
  obtain⟨b,vs,q1,q2,-,q4,q5⟩:=h.lo _ _ hL
  rw [q1] at G
  injection G with G
  subst G
  have hu:=M2.rd hc q5
  have hu':=hu.keep_ (fun _ _=>rfl) hI
  refine⟨_,rfl,hfz _ _ b hL h' (by rw [q1]; rfl),J0.of_at _ 0 fun k c hk=>?_⟩
  rw [aP4] at hk
  have hlt:i + k < vs.length:=by rw [<- hu.1]; exact (aDx.1 hk).1
  refine⟨vs[i + k],?_,hu'.2 _ c _ hk (aCv hlt)⟩
  have ha:(⟨b,i,none⟩:Addr).add (0 + k)=⟨b,i + k,none⟩:=by
   rw [aR3]
   unfold Addr.add
   split
   ·rename_i h0; subst h0; rfl
   ·rfl
  rw [ha]
  simp [World.cell?,q2,hlt]
theorem Sz.rep (h:Ew cx ρ σ a w) (hI:∀ b,Nc cx σ ρ w b->I' b) (hfz:∀ j lb b,σ.L j=some lb->(∀ k,θ k≠some j)->Cu (ρ j)=some b->I' b):∀ {ds ds':List DV} (_:Sz σ θ ds ds') (vs:List Value),B5 ρ (Nc cx σ ρ w) w ds vs->B5 (W0 θ ρ) I' w ds' vs
 | _,_,.nil,_,hr=>by unfold B5 at *; exact hr
 | _,_,.cons hd hs,vs,hr=>by
  unfold B5 at *
  obtain⟨u,us,h1,h2,h3⟩:=hr
  exact⟨u,us,h1,Cv.rep h hI hfz hd u h2,Sz.rep h hI hfz hs us h3⟩
end
end
theorem Ew.ren {cx:Cx} {σ σ':St} {ρ:Nat->Value} {a:Act} {w:World} (h:Ew cx ρ σ a w) (θ:Nat->Option Nat) (hF:∀ t d',σ'.F t=some d'->∃ d,σ.F t=some d/\Cv σ θ d d')
  (hL:∀ k lb',σ'.L k=some lb'->(∃ j lb,θ k=some j/\σ.L j=some lb/\CvB σ θ lb lb')\/(θ k=none/\∃ e sz,lb'=.row e sz []))
  (hinj:∀ k k' j,θ k=some j->θ k'=some j->k=k')
  (hpin:∀ k,k < cx.np->θ k=some k/\σ'.U k=true) (hUF:∀ t d k,σ'.F t=some d->men d k->σ'.U k=true) (hUL:∀ k lb,σ'.L k=some lb->σ'.U k=true/\∀ k',Uy lb k'->σ'.U k'=true) :
  Ew cx (Go.Proofs.YtobamahlipiakaaGreat.W0 θ ρ) σ' a w/\∀ d d' v,Cv σ θ d d'->C3 ρ (Nc cx σ ρ w) w d v->C3 (Go.Proofs.YtobamahlipiakaaGreat.W0 θ ρ) (Nc cx σ' (Go.Proofs.YtobamahlipiakaaGreat.W0 θ ρ) w) w d' v:=by
 have hloc:∀ b,Loc σ' (Go.Proofs.YtobamahlipiakaaGreat.W0 θ ρ) b->∃ k j lb,θ k=some j/\σ.L j=some lb/\Cu (ρ j)=some b:=by
  rintro b ⟨k,lb',h1,h2⟩
  rcases hL k lb' h1 with ⟨j,lb,h3,h4,-⟩ | ⟨h3,-⟩
  ·exact⟨k,j,lb,h3,h4,by simpa [Go.Proofs.YtobamahlipiakaaGreat.W0,h3] using h2⟩
  ·simp [Go.Proofs.YtobamahlipiakaaGreat.W0,h3,Cu] at h2
 have hI:∀ b,Nc cx σ ρ w b->Nc cx σ' (Go.Proofs.YtobamahlipiakaaGreat.W0 θ ρ) w b:=fun b hb=>⟨hb.1,fun hl=>by
  obtain⟨k,j,lb,-,h2,h3⟩:=hloc b hl
  exact hb.2.1 ⟨j,lb,h2,h3⟩,hb.2.2⟩
 have hfz:∀ j lb b,σ.L j=some lb->(∀ k,θ k≠some j)->Cu (ρ j)=some b->Nc cx σ' (Go.Proofs.YtobamahlipiakaaGreat.W0 θ ρ) w b:=fun j lb b h1 h2 h3=>⟨((h.lo j _ h1).blk h3).1,fun hl=>by
  obtain⟨k,j',lb',h4,h5,h6⟩:=hloc b hl
  have:=h.sep j j' _ lb' b h1 h5 h3 h6
  subst this
  exact h2 k h4,fun hlt=>by
  rcases aZf j cx.np with hj | hj
  ·exact (h2 j (hpin j hj).1).elim
  ·rcases h.fresh j _ b h1 hj h3 with h4 | h4
   ·omega
   ·exact .inr h4⟩
 refine⟨⟨⟨h.defers.1,fun d hd=>(h.defers.2 d hd).imp fun D q=>⟨q.1,hI D q.2.1,q.2.2⟩⟩,h.size,h.kept,?_,?_,?_,hUF,hUL,fun k hk=>⟨by rw [<- (h.pin k hk).1]; simp [Go.Proofs.YtobamahlipiakaaGreat.W0,(hpin k hk).1],(hpin k hk).2⟩,?_⟩,fun d d' v hc hr=>hc.rep h hI hfz v hr⟩
 ·intro t d' hd'
  obtain⟨d,h1,h2⟩:=hF t d' hd'
  exact h2.rep h hI hfz _ (h.fr t d h1)
 ·intro k lb' hl
  rcases hL k lb' hl with ⟨j,lb,h1,h2,h3⟩ | ⟨h1,e,sz,rfl⟩
  ·have hlo:=h.lo j lb h2
   have e1:Go.Proofs.YtobamahlipiakaaGreat.W0 θ ρ k=ρ j:=by simp [Go.Proofs.YtobamahlipiakaaGreat.W0,h1]
   rw [e1]
   cases lb with
   | map l=>
    cases lb' with
    | map l'=>
     have h3:l=l':=h3
     subst h3
     exact hlo
    | _=>exact h3.elim
   | vec ds e=>
    cases lb' with
    | vec ds' e'=>
     obtain⟨rfl,h5⟩:=h3
     obtain⟨b,vs,q1,q2,q3,q4,q5,q6⟩:=hlo
     exact⟨b,vs,q1,q2,q3,q4,q5,h5.rep h hI hfz vs q6⟩
    | _=>exact h3.elim
   | mit k1 n s=>
    cases lb' with
    | mit k2 n' s'=>
     obtain⟨h3,rfl,rfl⟩:=h3
     obtain⟨b,g,q1,q2,q3⟩:=hlo
     exact⟨b,g,q1,by simpa [Go.Proofs.YtobamahlipiakaaGreat.W0,h3] using q2,q3⟩
    | _=>exact h3.elim
   | lop ts ds N rc=>
    cases lb' with
    | lop ts' ds' N' rc'=>
     obtain⟨⟨rfl,rfl,rfl⟩,h5⟩:=h3
     obtain⟨b,tm,q1,q2,q3,q4,q5⟩:=hlo
     exact⟨b,tm,q1,q2,q3,q4,h5.rep h hI hfz _ q5⟩
    | _=>exact h3.elim
   | box ds ty=>
    cases lb' with
    | row e sz cs=>exact h3.elim
    | map l=>exact h3.elim
    | mit k n s=>exact h3.elim
    | vec ds e=>exact h3.elim
    | lop=>exact h3.elim
    | box ds' ty'=>
     obtain⟨rfl,h5⟩:=h3
     obtain⟨b,vs,q1,q2,q3,q4,q5⟩:=hlo
     exact⟨b,vs,q1,q2,q3,q4,h5.rep h hI hfz vs q5⟩
   | row e sz cs=>
    cases lb' with
    | box ds' ty'=>exact h3.elim
    | map l=>exact h3.elim
    | mit k n s=>exact h3.elim
    | vec ds e=>exact h3.elim
    | lop=>exact h3.elim
    | row e' sz' cs'=>
     obtain⟨rfl,rfl,rfl⟩:=h3
     obtain⟨n,us,q1,q2,q3⟩:=hlo
     exact⟨n,us,q1,q2,q3.keep_ (fun _ _=>rfl) hI⟩
  ·refine⟨0,[],?_,?_,rfl,fun _ _ _ h _=>by simp at h⟩
   ·simp only [Go.Proofs.YtobamahlipiakaaGreat.W0,h1]
    exact World.rowOk_nil _ _ _ _
   ·intro b hb
    simp [Go.Proofs.YtobamahlipiakaaGreat.W0,h1,Cu] at hb
 ·intro k k' lb lb' b h1 h2 h3 h4
  rcases hL k lb h1 with ⟨j,lb1,q1,q2,-⟩ | ⟨q1,-⟩
  ·rcases hL k' lb' h2 with ⟨j',lb2,q3,q4,-⟩ | ⟨q3,-⟩
   ·simp only [Go.Proofs.YtobamahlipiakaaGreat.W0,q1] at h3
    simp only [Go.Proofs.YtobamahlipiakaaGreat.W0,q3] at h4
    have:=h.sep j j' lb1 lb2 b q2 q4 h3 h4
    subst this
    exact hinj k k' j q1 q3
   ·simp [Go.Proofs.YtobamahlipiakaaGreat.W0,q3,Cu] at h4
  ·simp [Go.Proofs.YtobamahlipiakaaGreat.W0,q1,Cu] at h3
 ·intro k lb b h1 h2 h3
  rcases hL k lb h1 with ⟨j,lb1,q1,q2,-⟩ | ⟨q1,-⟩
  ·simp only [Go.Proofs.YtobamahlipiakaaGreat.W0,q1] at h3
   refine h.fresh j lb1 b q2 ?_ h3
   rcases aZf j cx.np with hj | hj
   ·have:=hinj k j j q1 (hpin j hj).1
    omega
   ·exact hj
  ·simp [Go.Proofs.YtobamahlipiakaaGreat.W0,q1,Cu] at h3
theorem Rr.of {cx:Cx} {σ σ':St} (θ:Nat->Option Nat) (hF:∀ t d',σ'.F t=some d'->∃ d,σ.F t=some d/\Cv σ θ d d')
  (hL:∀ k lb',σ'.L k=some lb'->(∃ j lb,θ k=some j/\σ.L j=some lb/\CvB σ θ lb lb')\/(θ k=none/\∃ e sz,lb'=.row e sz []))
  (hinj:∀ k k' j,θ k=some j->θ k'=some j->k=k')
  (hpin:∀ k,k < cx.np->θ k=some k/\σ'.U k=true) (hUF:∀ t d k,σ'.F t=some d->men d k->σ'.U k=true) (hUL:∀ k lb,σ'.L k=some lb->σ'.U k=true/\∀ k',Uy lb k'->σ'.U k'=true):Rr cx σ σ':=by
 rintro a w ⟨ρ,h⟩
 exact⟨_,(h.ren θ hF hL hinj hpin hUF hUL).1⟩
mutual
def ltD (n:Nat):DV->Bool
 | .row k=>Nat.blt k n
 | .part k _ _=>Nat.blt k n
 | .ptr k _=>Nat.blt k n
 | .agg ds=>U8 n ds
 | .tup ds=>U8 n ds
 | .clo _ _ ds=>U8 n ds
 | .val _=>true
 | .sl _ _=>true
 | .slc _ _=>true
 | .mp _=>true
 | .elt _=>true
def U8 (n:Nat):List DV->Bool
 | []=>true
 | d :: ds=>ltD n d && U8 n ds
end
def ltB (n:Nat):LB->Bool
 | .box ds _=>U8 n ds
 | .row ..=>true
 | .map _=>true
 | .mit k _ _=>Nat.blt k n
 | .vec ds _=>U8 n ds
 | .lop _ ds _ _=>U8 n ds
mutual
theorem oG {n:Nat}:∀ {d:DV},ltD n d=true->∀ k,men d k->Nat.blt k n=true
 | .row _,h,k,hk=>by unfold ltD at h; unfold men at hk; rw [hk]; exact h
 | .part _ _ _,h,k,hk=>by unfold ltD at h; unfold men at hk; rw [hk]; exact h
 | .ptr _ _,h,k,hk=>by unfold ltD at h; unfold men at hk; rw [hk]; exact h
 | .agg ds,h,k,hk=>by unfold ltD at h; unfold men at hk; exact M4 h k hk
 | .tup ds,h,k,hk=>by unfold ltD at h; unfold men at hk; exact M4 h k hk
 | .clo _ _ ds,h,k,hk=>by unfold ltD at h; unfold men at hk; exact M4 h k hk
 | .val _,_,k,hk=>by unfold men at hk; exact hk.elim
 | .sl _ _,_,k,hk=>by unfold men at hk; exact hk.elim
 | .slc _ _,_,k,hk=>by unfold men at hk; exact hk.elim
 | .mp _,_,k,hk=>by unfold men at hk; exact hk.elim
 | .elt _,_,k,hk=>by unfold men at hk; exact hk.elim
theorem M4 {n:Nat}:∀ {ds:List DV},U8 n ds=true->∀ k,Gu ds k->Nat.blt k n=true
 | [],_,k,hk=>by unfold Gu at hk; exact hk.elim
 | d :: ds,h,k,hk=>by
  unfold U8 at h
  unfold Gu at hk
  rw [aF1] at h
  rcases hk with hk | hk
  ·exact oG h.1 k hk
  ·exact M4 h.2 k hk
end
theorem dN {n:Nat} {lb:LB} (h:ltB n lb=true):∀ k,Uy lb k->Nat.blt k n=true:=by
 cases lb with
 | box ds ty=>exact M4 h
 | row e sz cs=>intro k hk; exact hk.elim
 | map l=>intro k hk; exact hk.elim
 | mit k' n' s=>intro k hk; have hk:k=k':=hk; subst hk; exact h
 | vec ds e=>exact M4 h
 | lop ts ds N rc=>exact M4 h
def ndB:List Nat->Bool
 | []=>true
 | x :: l=>(l.all fun y=>!Nat.beq x y) && ndB l
theorem Jt {α:Type}:∀ {l:List (Nat×α)} {k:Nat} {x:α},H9 l k=some x->(k,x)∈l
 | [],_,_,h=>by simp [H9] at h
 | (k',x') :: l,k,x,h=>by
  unfold H9 at h
  cases hb:Nat.beq k k' with
  | true=>
   rw [hb] at h
   have:=aF5 hb
   subst this
   simp at h
   subst h
   exact aI4 ..
  | false=>
   rw [hb] at h
   exact aHu _ (Jt h)
theorem uX:∀ {l:List (Nat×Nat)},ndB (l.map (·.2))=true->∀ {k k' j:Nat},(k,j)∈l->(k',j)∈l->k=k'
 | [],_,_,_,_,h,_=>by simp at h
 | (k0,j0) :: l,hn,k,k',j,h1,h2=>by
  simp only [aWq,ndB,aF1,aH8] at hn
  rcases aF2.1 h1 with e1 | e1
  ·rcases aF2.1 h2 with e2 | e2
   ·injection e1 with a1 b1; injection e2 with a2 b2; rw [a1,a2]
   ·injection e1 with a1 b1
    subst b1
    have:=hn.1 j (aOq.2 ⟨_,e2,rfl⟩)
    simp at this
  ·rcases aF2.1 h2 with e2 | e2
   ·injection e2 with a1 b1
    subst b1
    have:=hn.1 j (aOq.2 ⟨_,e1,rfl⟩)
    simp at this
   ·exact uX hn.2 e1 e2
def aGf (σ:St) (θ:Nat->Option Nat):List (Nat×DV)->Prop
 | []=>True
 | q :: l=>(∃ d,σ.F q.1=some d/\Cv σ θ d q.2)/\aGf σ θ l
def oS (σ:St) (θ:Nat->Option Nat):List (Nat×LB)->Prop
 | []=>True
 | q :: l=>((∃ j lb,θ q.1=some j/\σ.L j=some lb/\CvB σ θ lb q.2)\/(θ q.1=none/\∃ e sz,q.2=.row e sz []))/\oS σ θ l
theorem qX {σ:St} {θ:Nat->Option Nat}:∀ {l:List (Nat×DV)},aGf σ θ l->∀ q∈l,∃ d,σ.F q.1=some d/\Cv σ θ d q.2
 | [],_,q,hq=>by simp at hq
 | q0 :: l,h,q,hq=>by
  rcases aF2.1 hq with rfl | hq
  ·exact h.1
  ·exact qX h.2 q hq
theorem fS {σ:St} {θ:Nat->Option Nat}:∀ {l:List (Nat×LB)},oS σ θ l->∀ q∈l,(∃ j lb,θ q.1=some j/\σ.L j=some lb/\CvB σ θ lb q.2)\/(θ q.1=none/\∃ e sz,q.2=.row e sz [])
 | [],_,q,hq=>by simp at hq
 | q0 :: l,h,q,hq=>by
  rcases aF2.1 hq with rfl | hq
  ·exact h.1
  ·exact fS h.2 q hq
def kQ (θ:List (Nat×Nat)) (n:Nat):Nat->Bool
 | 0=>true
 | k + 1=>kQ θ n k && Nat.blt k n && (match H9 θ k with | some j=>Nat.beq j k | none=>false)
theorem bC {θ:List (Nat×Nat)} {n:Nat}:∀ {m:Nat},kQ θ n m=true->∀ k,k < m->H9 θ k=some k/\Nat.blt k n=true
 | 0,_,k,hk=>by omega
 | m + 1,h,k,hk=>by
  simp only [kQ,aF1] at h
  by_cases hkm:k=m
  ·subst hkm
   cases hl:H9 θ k with
   | none=>rw [hl] at h; exact absurd h.2 (by simp)
   | some j=>
    rw [hl] at h
    exact⟨by rw [aF5 h.2],h.1.2⟩
  ·exact bC h.1.1 k (by omega)
def oE (fl:List (Nat×DV)) (ll:List (Nat×LB)) (n:Nat) (θ:List (Nat×Nat)):Bool:=
 (fl.all fun q=>ltD n q.2) && (ll.all fun q=>Nat.blt q.1 n && ltB n q.2) && ndB (θ.map (·.2))
theorem Rr.lists {cx:Cx} {σ:St} {fl:List (Nat×DV)} {ll:List (Nat×LB)} {n:Nat} (θ:List (Nat×Nat)) (hc:oE fl ll n θ=true) (hp:kQ θ n cx.np=true) (hF:aGf σ (H9 θ) fl) (hL:oS σ (H9 θ) ll):Rr cx σ (mk fl ll n):=by
 simp only [oE,aF1,aH8] at hc
 obtain⟨⟨h1,h2⟩,h3⟩:=hc
 refine Rr.of (H9 θ) (fun t d' hd=>qX hF _ (Jt hd)) (fun k lb hl=>fS hL _ (Jt hl)) (fun k k' j a b=>uX h3 (Jt a) (Jt b)) (fun k hk=>bC hp k hk)
  (fun t d k hd hm=>oG (h1 _ (Jt hd)) k hm) (fun k lb hl=>?_)
 have:=h2 _ (Jt hl)
 exact⟨this.1,fun k' hk'=>dN this.2 k' hk'⟩
end Go.Proofs.YtobamahlipiakaaGreat
namespace Go.Proofs.YtobamahlipiakaaGreat
open Go.RowKit
def O6:DV->Option Nat
 | .row k=>some k
 | .part k _ _=>some k
 | .ptr k _=>some k
 | _=>none
def ev (σ:St) (tc:Bool):Operand->Option (DV×Option LB)
 | .tmp t=>match σ.F t with
  | some d=>some (d,bif tc then (match O6 d with | some k=>σ.L k | none=>none) else none)
  | none=>none
 | .const v=>bif Gd v then some (.val v,none) else none
 | .func f=>some (.val (.func (.func f) #[] #[]),none)
 | .global _=>none
def Fz (σ:St) (tc:Bool):List Operand->Option (List (DV×Option LB))
 | []=>some []
 | x :: l=>match ev σ tc x with
  | some d=>(match Fz σ tc l with | some ds=>some (d :: ds) | none=>none)
  | none=>none
def aY:DV->Bool
 | .part _ _ _=>true
 | _=>false
def Mw (b:Bool):List (DV×Option LB)->List Nat
 | []=>[]
 | (d,_) :: l=>match O6 d with | some k=>(bif b && aY d then Mw b l else k :: Mw b l) | none=>Mw b l
theorem lY {c:Bool} {j k:Nat} {l:List Nat} (h:k∈(bif c then l else j :: l)):k∈j :: l:=by
 cases c with
 | false=>exact h
 | true=>exact aHu _ h
def Nm:Op->Bool
 | .call ⟨.builtin .len,_,_⟩=>true
 | _=>false
def fT (b:Bool):List (DV×Option LB)->List (DV×Option LB)->Prop
 | [],[]=>True
 | x :: l,y :: m=>x.1=y.1/\(x.2=y.2\/(b=true/\aY x.1=true))/\fT b l m
 | _,_=>False
theorem fT.eq:∀ {l m:List (DV×Option LB)},fT false l m->l=m
 | [],[],_=>rfl
 | x :: l,y :: m,h=>by
  obtain⟨h1,h2,h3⟩:=h
  rcases h2 with h2 | ⟨h2,-⟩
  ·rw [fT.eq h3,Prod.ext h1 h2]
  ·cases h2
 | [],_ :: _,h=>h.elim
 | _ :: _,[],h=>h.elim
mutual
def Me:DV->List Nat
 | .row k=>[k]
 | .part k _ _=>[k]
 | .ptr k _=>[k]
 | .agg ds=>O3 ds
 | .tup ds=>O3 ds
 | .clo _ _ ds=>O3 ds
 | .val _=>[]
 | .sl _ _=>[]
 | .slc _ _=>[]
 | .mp _=>[]
 | .elt _=>[]
def O3:List DV->List Nat
 | []=>[]
 | d :: ds=>Me d ++ O3 ds
end
def oF (σ:St) (k:Nat):List Nat:=match σ.L k with
 | some (.box ds _)=>O3 ds
 | some (.mit k _ _)=>[k]
 | some (.vec ds _)=>O3 ds
 | some (.lop _ ds _ _)=>O3 ds
 | _=>[]
def Qe (σ:St):Nat->List Nat->List Nat
 | 0,l=>l
 | n + 1,l=>l ++ Qe σ n (l.flatMap (oF σ))
def Rm:List (DV×Option LB)->List Nat
 | []=>[]
 | q :: l=>Me q.1 ++ Rm l
def Jc (σ:St) (l:List Nat):List (Nat×Option LB):=l.map fun k=>(k,σ.L k)
def K7:Op->Bool
 | .load ..=>true
 | .store ..=>true
 | .indexAddr ..=>true
 | .slice ..=>true
 | .convert ..=>true
 | .call ..=>true
 | _=>false
def Kr (ops:Array Oper) (σ:St) (o:Oper):Option Bool:=
 match o.guard with
 | none=>some true
 | some (g,b)=>match (ops[g]?).bind (·.dst) with
  | some t=>match σ.F t with
   | some (.val (.bool c))=>some (c == b)
   | some (.val _)=>some false
   | _=>none
  | none=>none
def Pw:List Operand->List Tmp
 | []=>[]
 | .tmp t :: l=>t :: Pw l
 | _ :: l=>Pw l
def R2 (ops:Array Oper) (o:Oper):List Tmp:=
 Pw o.op.operands.toList ++ (match o.guard with | some (g,_)=>((ops[g]?).bind (·.dst)).toList | none=>[])
structure Sys (P:Program) (cx:Cx) where
 R:Nat->Op->TypeId->List (DV×Option LB)->List Nat->Ow->Prop
 C:Nat->Op->TypeId->List (DV×Option LB)->List (Nat×Option LB)->List Nat->(Ow->Prop)->Prop
 soundR:∀ {tk op ty ds wr e},R tk op ty ds wr e->∀ {ρ σ a w},Ew cx ρ σ a w->Fz σ (K7 op) op.operands.toList=some ds->(∀ j,j < 8->σ.U (tk + j)=false)->∀ o:Oper,o.op=op->o.type=ty->(∀ t,o.dst=some t->t < cx.N)->
  ∀ (K:Act->World->Prop) (Q:Exit->Act->World->Prop),(∀ a' w',Mx cx (σ.app o.dst e) a' w'->K a' w')->o.wp P a w K Q
 soundC:∀ {tk op ty ds env wr E},C tk op ty ds env wr E->∀ {ρ σ a w},Ew cx ρ σ a w->Fz σ (K7 op) op.operands.toList=some ds->env=Jc σ (Qe σ 3 (Rm ds))->(∀ j,j < 8->σ.U (tk + j)=false)->∀ o:Oper,o.op=op->o.type=ty->(∀ t,o.dst=some t->t < cx.N)->
  ∀ (K:Act->World->Prop) (Q:Exit->Act->World->Prop),(∀ e a' w',E e->Mx cx (σ.app o.dst e) a' w'->K a' w')->o.wp P a w K Q
 func:World->∀ {tk op ty ds wr e wr' e'},R tk op ty ds wr e->R tk op ty ds wr' e'->wr=wr'/\e=e'
 excl:∀ {tk op ty ds env wr e wr' E},R tk op ty ds wr e->C tk op ty ds env wr' E->False
 keyR:∀ {tk op ty ds wr e},R tk op ty ds wr e->∀ k,e.l k≠none->k∈wr\/(tk<=k/\k < tk + 8)
 keyC:∀ {tk op ty ds env wr E},C tk op ty ds env wr E->∀ e,E e->∀ k,e.l k≠none->k∈wr\/(tk<=k/\k < tk + 8)
 subR:∀ {tk op ty ds wr e},R tk op ty ds wr e->∀ k,k∈wr->K7 op=true/\k∈Mw (Nm op) ds
 sim:∀ {tk op ty ds ds' wr e},R tk op ty ds wr e->fT (Nm op) ds ds'->R tk op ty ds' wr e
 subC:∀ {tk op ty ds env wr E},C tk op ty ds env wr E->∀ k,k∈wr->k∈env.map (·.1)
def wF:Ow:=rR (some (.val undef))
section
variable {P:Program} {cx:Cx} (S:Sys P cx) (ops:Array Oper)
def SF (tk:Nat) (o:Oper) (σ:St) (rd wr:List Nat) (e:Ow):Prop:=
 (Kr ops σ o=some false/\rd=[]/\wr=[]/\e=wF)\/
 (Kr ops σ o=some true/\∃ ds,Fz σ (K7 o.op) o.op.operands.toList=some ds/\S.R tk o.op o.type ds wr e/\rd=bif K7 o.op then Mw (Nm o.op) ds else [])
def SC (tk:Nat) (o:Oper) (σ:St) (rd wr:List Nat) (E:Ow->Prop):Prop:=
 Kr ops σ o=some true/\∃ ds,Fz σ (K7 o.op) o.op.operands.toList=some ds/\S.C tk o.op o.type ds (Jc σ rd) wr E/\rd=Qe σ 3 (Rm ds)
abbrev oP:=List (Nat×Bool×Nat×List Nat×List Nat)
def aE0 (a b:List Nat):Bool:=a.all fun x=>b.all fun y=>!Nat.beq x y
def aKe (a:List Nat) (tk:Nat):Bool:=a.all fun x=>Nat.blt x tk || Nat.ble (tk + 8) x
def inR (m:List Nat) (p i:Nat):Bool:=Nat.testBit (m.getD i 0) p
def wV (Rt:List Nat) (i:Nat) (cl:Bool) (tk:Nat) (rd wr:List Nat) (q:Nat×Bool×Nat×List Nat×List Nat):Bool:=
 inR Rt q.1 i || (!(cl && q.2.1) && aE0 q.2.2.2.2 rd && aE0 q.2.2.2.1 wr && aKe rd q.2.2.1 && aKe q.2.2.2.1 tk)
def Mc (Rt:Option (List Nat)) (i:Nat) (cl:Bool) (tk:Nat) (rd wr:List Nat) (lg:oP):Bool:=
 match Rt with
 | some r=>lg.all (wV r i cl tk rd wr)
 | none=>true
def Chain (Rt:Option (List Nat)) (nb:Nat):List (Nat×Oper)->oP->St->(St->Prop)->Prop
 | [],_,σ,Q=>Q σ
 | (i,o) :: l,lg,σ,Q=>
  (∃ rd wr e,SF S ops (nb + 8 * i) o σ rd wr e/\Mc Rt i false (nb + 8 * i) rd wr lg=true/\Chain Rt nb l ((i,false,nb + 8 * i,rd,wr) :: lg) (σ.app o.dst e) Q)\/
  (∃ rd wr E,SC S ops (nb + 8 * i) o σ rd wr E/\Mc Rt i true (nb + 8 * i) rd wr lg=true/\(Rt.isSome=true->∃ e,E e)/\∀ e,E e->Chain Rt nb l ((i,true,nb + 8 * i,rd,wr) :: lg) (σ.app o.dst e) Q)
end
section
variable {P:Program} {cx:Cx} {S:Sys P cx} {ops:Array Oper} {σ σ':St} {o:Oper} {tk:Nat} {rd wr:List Nat} {e:Ow} {E:Ow->Prop}
theorem aI8 {tc:Bool} {x:Operand} (hF:∀ t,x=.tmp t->σ'.F t=σ.F t) (hL:∀ t d k,x=.tmp t->tc=true->σ.F t=some d->O6 d=some k->σ'.L k=σ.L k):ev σ' tc x=ev σ tc x:=by
 cases x with
 | tmp t=>
  simp only [ev]
  rw [hF t rfl]
  cases hd:σ.F t with
  | none=>rfl
  | some d=>
   cases tc with
   | false=>rfl
   | true=>
    simp only [aEa]
    cases hk:O6 d with
    | none=>rfl
    | some k=>simp only []; rw [hL t d k rfl rfl hd hk]
 | const v=>rfl
 | global g=>rfl
 | func f=>rfl
theorem aCk {tc:Bool}:∀ {l:List Operand} {ds:List (DV×Option LB)},(∀ t,t∈Pw l->σ'.F t=σ.F t)->Fz σ tc l=some ds->(tc=true->∀ k,k∈Mw false ds->σ'.L k=σ.L k)->Fz σ' tc l=some ds
 | [],_,_,h,_=>h
 | x :: l,ds,hF,h,hL=>by
  unfold Fz at h ⊢
  cases h1:ev σ tc x with
  | none=>rw [h1] at h; cases h
  | some d0=>
   rw [h1] at h
   simp only [] at h
   cases h2:Fz σ tc l with
   | none=>rw [h2] at h; cases h
   | some ds0=>
    rw [h2] at h
    simp only [] at h
    injection h with h
    subst h
    have e1:ev σ' tc x=some d0:=by
     rw [<- h1]
     refine aI8 (fun t ht=>hF t (by rw [ht]; simp [Pw])) fun t d k ht htc hd hk=>hL htc k ?_
     subst ht
     simp only [ev] at h1
     rw [hd] at h1
     injection h1 with h1
     subst h1
     simp [Mw,hk]
    have e2:Fz σ' tc l=some ds0:=by
     refine aCk (fun t ht=>hF t ?_) h2 fun htc k hk=>hL htc k ?_
     ·cases x <;> simp [Pw,ht]
     ·obtain⟨d,b⟩:=d0
      unfold Mw
      cases O6 d <;> simp [hk]
    rw [e1]
    simp only []
    rw [e2]
theorem fT.toks {b:Bool}:∀ {l m:List (DV×Option LB)},fT b l m->Go.Proofs.YtobamahlipiakaaGreat.Mw b l=Go.Proofs.YtobamahlipiakaaGreat.Mw b m
 | [],[],_=>rfl
 | (x,_) :: l,(y,_) :: m,h=>by
  obtain⟨h1,-,h3⟩:=h
  have h1:x=y:=h1
  subst h1
  unfold Go.Proofs.YtobamahlipiakaaGreat.Mw
  rw [fT.toks h3]
 | [],_ :: _,h=>h.elim
 | _ :: _,[],h=>h.elim
theorem yH {tc b:Bool}:∀ {l:List Operand} {ds:List (DV×Option LB)},(∀ t,t∈Pw l->σ'.F t=σ.F t)->Fz σ tc l=some ds->(tc=true->∀ k,k∈Mw b ds->σ'.L k=σ.L k)->∃ ds',Fz σ' tc l=some ds'/\fT b ds ds'
 | [],ds,_,h,_=>by
  unfold Fz at h
  injection h with h
  subst h
  exact⟨[],rfl,trivial⟩
 | x :: l,ds,hF,h,hL=>by
  unfold Fz at h ⊢
  cases h1:ev σ tc x with
  | none=>rw [h1] at h; cases h
  | some d0=>
   rw [h1] at h
   simp only [] at h
   cases h2:Fz σ tc l with
   | none=>rw [h2] at h; cases h
   | some ds0=>
    rw [h2] at h
    simp only [] at h
    injection h with h
    subst h
    have e1:∃ d1,ev σ' tc x=some d1/\d0.1=d1.1/\(d0.2=d1.2\/(b=true/\aY d0.1=true)):=by
     cases x with
     | tmp t=>
      simp only [ev] at h1 ⊢
      rw [hF t (by simp [Pw])]
      cases hd:σ.F t with
      | none=>rw [hd] at h1; cases h1
      | some d=>
       rw [hd] at h1
       injection h1 with h1
       subst h1
       refine⟨_,rfl,rfl,?_⟩
       cases hb:(b && aY d) with
       | true=>
        simp only [aF1] at hb
        exact .inr hb
       | false=>
        left
        cases tc with
        | false=>rfl
        | true=>
         simp only [aEa]
         cases hk:O6 d with
         | none=>rfl
         | some k=>
          simp only []
          rw [hL rfl k (by simp [Mw,hk,hb])]
     | const v=>exact⟨d0,h1,rfl,.inl rfl⟩
     | global g=>exact⟨d0,h1,rfl,.inl rfl⟩
     | func f=>exact⟨d0,h1,rfl,.inl rfl⟩
    obtain⟨d1,e1,e2,e3⟩:=e1
    obtain⟨ds',e4,e5⟩:=yH (b:=b) (ds:=ds0) (fun t ht=>hF t (by cases x <;> simp [Pw,ht])) h2 (fun htc k hk=>hL htc k (by
     obtain⟨d,q⟩:=d0
     unfold Mw
     cases O6 d with
     | none=>exact hk
     | some j=>
      simp only []
      cases (b && aY d)
      ·exact aHu _ hk
      ·exact hk))
    rw [e1]
    simp only []
    rw [e4]
    exact⟨_,rfl,e2,e3,e5⟩
theorem pP (hF:∀ t,t∈R2 ops o->σ'.F t=σ.F t):Kr ops σ' o=Kr ops σ o:=by
 unfold Kr
 cases G:o.guard with
 | none=>rfl
 | some q=>
  obtain⟨g,b⟩:=q
  simp only []
  cases ht:(ops[g]?).bind (·.dst) with
  | none=>rfl
  | some t=>
   simp only []
   rw [hF t (by simp [R2,G,ht])]
theorem SF.local (h:SF S ops tk o σ rd wr e) (hF:∀ t,t∈R2 ops o->σ'.F t=σ.F t) (hL:∀ k,k∈rd->σ'.L k=σ.L k):SF S ops tk o σ' rd wr e:=by
 rcases h with ⟨h1,h2⟩ | ⟨h1,ds,h2,h3,h4⟩
 ·exact .inl ⟨by rw [pP hF]; exact h1,h2⟩
 ·obtain⟨ds',h5,h6⟩:=yH (b:=Nm o.op) (fun t ht=>hF t (by simp [R2,ht])) h2 (fun htc k hk=>hL k (by rw [h4,htc]; exact hk))
  refine .inr ⟨by rw [pP hF]; exact h1,ds',h5,S.sim h3 h6,?_⟩
  rw [h4,fT.toks h6]
theorem Yg {α β:Type} {f g:α->List β}:∀ {l:List α},(∀ x∈l,f x=g x)->l.flatMap f=l.flatMap g
 | [],_=>rfl
 | x :: l,h=>by
  rw [aOo,aOo,h x (aI4 ..),Yg fun y hy=>h y (aHu _ hy)]
theorem aM {n:Nat} {l:List Nat} {k:Nat} (h:k∈l):k∈Qe σ n l:=by
 cases n with
 | zero=>exact h
 | succ n=>exact aR4 _ h
theorem xN:∀ {n:Nat} {l:List Nat},(∀ k,k∈Qe σ n l->σ'.L k=σ.L k)->Qe σ' n l=Qe σ n l
 | 0,_,_=>rfl
 | n + 1,l,h=>by
  have e1:l.flatMap (oF σ')=l.flatMap (oF σ):=by
   have:∀ k∈l,oF σ' k=oF σ k:=fun k hk=>by
    unfold oF
    rw [h k (aM hk)]
   exact Yg this
  show l ++ Qe σ' n (l.flatMap (oF σ'))=l ++ Qe σ n (l.flatMap (oF σ))
  rw [e1,xN fun k hk=>h k (aS1 _ hk)]
theorem aHh {l:List Nat} (h:∀ k,k∈l->σ'.L k=σ.L k):Jc σ' l=Jc σ l:=List.map_congr_left fun k hk=>by rw [h k hk]
theorem aE2 {d:DV} {k:Nat} (h:O6 d=some k):k∈Me d:=by
 cases d <;> simp [O6] at h <;> subst h <;> simp [Me]
theorem V5 {b:Bool}:∀ {ds:List (DV×Option LB)} {k:Nat},k∈Mw b ds->k∈Rm ds
 | [],k,h=>by simp [Mw] at h
 | (d,q) :: ds,k,h=>by
  unfold Mw at h
  unfold Rm
  cases hd:O6 d with
  | none=>rw [hd] at h; exact aS1 _ (V5 h)
  | some j=>
   rw [hd] at h
   rcases aF2.1 (lY h) with rfl | h
   ·exact aR4 _ (aE2 hd)
   ·exact aS1 _ (V5 h)
theorem SC.local (h:SC S ops tk o σ rd wr E) (hF:∀ t,t∈R2 ops o->σ'.F t=σ.F t) (hL:∀ k,k∈rd->σ'.L k=σ.L k):SC S ops tk o σ' rd wr E:=by
 obtain⟨h1,ds,h2,h3,h4⟩:=h
 refine⟨by rw [pP hF]; exact h1,ds,aCk (fun t ht=>hF t (by simp [R2,ht])) h2 (fun htc k hk=>hL k ?_),?_,?_⟩
 ·rw [h4]
  exact aM (V5 hk)
 ·rw [aHh hL]; exact h3
 ·rw [h4]
  exact (xN fun k hk=>hL k (by rw [h4]; exact hk)).symm
theorem SF.func (w:World) {rd' wr':List Nat} {e':Ow} (h:SF S ops tk o σ rd wr e) (h':SF S ops tk o σ rd' wr' e'):rd=rd'/\wr=wr'/\e=e':=by
 rcases h with ⟨h1,rfl,rfl,rfl⟩ | ⟨h1,ds,h2,h3,rfl⟩
 ·rcases h' with ⟨h1',rfl,rfl,rfl⟩ | ⟨h1',ds',h2',h3',rfl⟩
  ·exact⟨rfl,rfl,rfl⟩
  ·rw [h1] at h1'; cases h1'
 ·rcases h' with ⟨h1',rfl,rfl,rfl⟩ | ⟨h1',ds',h2',h3',rfl⟩
  ·rw [h1] at h1'; cases h1'
  ·rw [h2] at h2'
   injection h2' with h2'
   subst h2'
   obtain⟨a,b⟩:=S.func w h3 h3'
   exact⟨rfl,a,b⟩
theorem SF.excl {rd' wr':List Nat} (h:SF S ops tk o σ rd wr e) (h':SC S ops tk o σ rd' wr' E):False:=by
 obtain⟨h1',ds',h2',h3',-⟩:=h'
 rcases h with ⟨h1,-⟩ | ⟨h1,ds,h2,h3,-⟩
 ·rw [h1] at h1'; cases h1'
 ·rw [h2] at h2'
  injection h2' with h2'
  subst h2'
  exact S.excl h3 h3'
theorem SF.key (h:SF S ops tk o σ rd wr e):(∀ k,e.l k≠none->k∈wr\/(tk<=k/\k < tk + 8))/\∀ k,k∈wr->k∈rd:=by
 rcases h with ⟨h1,rfl,rfl,rfl⟩ | ⟨h1,ds,h2,h3,rfl⟩
 ·exact⟨fun k hk=>absurd rfl hk,fun k hk=>hk⟩
 ·refine⟨S.keyR h3,fun k hk=>?_⟩
  obtain⟨h4,h5⟩:=S.subR h3 k hk
  rw [h4]
  exact h5
theorem SC.key (h:SC S ops tk o σ rd wr E):(∀ e,E e->∀ k,e.l k≠none->k∈wr\/(tk<=k/\k < tk + 8))/\∀ k,k∈wr->k∈rd:=by
 obtain⟨h1,ds,h2,h3,h0⟩:=h
 refine⟨S.keyC h3,fun k hk=>?_⟩
 have:=S.subC h3 k hk
 simpa [Jc] using this
theorem lX {ρ:Nat->Value} {a:Act} {w:World} (h:Ew cx ρ σ a w) {tc bb:Bool}:∀ {l:List Operand} {ds:List (DV×Option LB)},Fz σ tc l=some ds->∀ k,k∈Mw bb ds->σ.U k=true
 | [],ds,hd,k,hk=>by
  unfold Fz at hd
  injection hd with hd
  subst hd
  simp [Mw] at hk
 | x :: l,ds,hd,k,hk=>by
  unfold Fz at hd
  cases h1:ev σ tc x with
  | none=>rw [h1] at hd; cases hd
  | some d0=>
   rw [h1] at hd
   simp only [] at hd
   cases h2:Fz σ tc l with
   | none=>rw [h2] at hd; cases hd
   | some ds0=>
    rw [h2] at hd
    simp only [] at hd
    injection hd with hd
    subst hd
    obtain⟨d,b⟩:=d0
    unfold Mw at hk
    have rec_:=lX (bb:=bb) h h2 k
    cases hd:O6 d with
    | none=>rw [hd] at hk; exact rec_ hk
    | some k'=>
     rw [hd] at hk
     rcases aF2.1 (lY hk) with rfl | hk
     ·cases x with
      | tmp t=>
       simp only [ev] at h1
       cases hF:σ.F t with
       | none=>rw [hF] at h1; cases h1
       | some d'=>
        rw [hF] at h1
        injection h1 with h1
        injection h1 with h1
        subst h1
        refine h.usedF t d' k hF ?_
        cases d' <;> simp [O6] at hd <;> subst hd <;> simp [men]
      | const v=>
       simp only [ev] at h1
       cases hv:Gd v with
       | false=>rw [hv] at h1; cases h1
       | true=>rw [hv] at h1; injection h1 with h1; injection h1 with h1; subst h1; cases hd
      | global g=>simp [ev] at h1
      | func f=>simp [ev] at h1; rw [<- h1.1] at hd; cases hd
     ·exact rec_ hk
theorem SF.used {ρ:Nat->Value} {a:Act} {w:World} (h:SF S ops tk o σ rd wr e) (ha:Ew cx ρ σ a w):∀ k,k∈rd->σ.U k=true:=by
 rcases h with ⟨h1,rfl,rfl,rfl⟩ | ⟨h1,ds,h2,h3,rfl⟩
 ·intro k hk; simp at hk
 ·intro k hk
  cases ht:K7 o.op with
  | false=>rw [ht] at hk; simp at hk
  | true=>rw [ht] at hk; exact lX ha h2 k hk
mutual
theorem sD:∀ {d:DV} {k:Nat},k∈Me d->men d k
 | .row _,k,h=>by simpa [Me,men] using h
 | .part _ _ _,k,h=>by simpa [Me,men] using h
 | .ptr _ _,k,h=>by simpa [Me,men] using h
 | .agg ds,k,h=>by unfold Me at h; unfold men; exact Pe h
 | .tup ds,k,h=>by unfold Me at h; unfold men; exact Pe h
 | .clo _ _ ds,k,h=>by unfold Me at h; unfold men; exact Pe h
 | .val _,k,h=>by simp [Me] at h
 | .sl _ _,k,h=>by simp [Me] at h
 | .slc _ _,k,h=>by simp [Me] at h
 | .mp _,k,h=>by simp [Me] at h
 | .elt _,k,h=>by simp [Me] at h
theorem Pe:∀ {ds:List DV} {k:Nat},k∈O3 ds->Gu ds k
 | [],k,h=>by simp [O3] at h
 | d :: ds,k,h=>by
  unfold O3 at h
  unfold Gu
  rcases aHs.1 h with h | h
  ·exact .inl (sD h)
  ·exact .inr (Pe h)
end
theorem mM {ρ:Nat->Value} {a:Act} {w:World} (h:Ew cx ρ σ a w) {tc:Bool}:∀ {l:List Operand} {ds:List (DV×Option LB)},Fz σ tc l=some ds->∀ k,k∈Rm ds->σ.U k=true
 | [],ds,hd,k,hk=>by
  unfold Fz at hd
  injection hd with hd
  subst hd
  simp [Rm] at hk
 | x :: l,ds,hd,k,hk=>by
  unfold Fz at hd
  cases h1:ev σ tc x with
  | none=>rw [h1] at hd; cases hd
  | some d0=>
   rw [h1] at hd
   simp only [] at hd
   cases h2:Fz σ tc l with
   | none=>rw [h2] at hd; cases hd
   | some ds0=>
    rw [h2] at hd
    simp only [] at hd
    injection hd with hd
    subst hd
    unfold Rm at hk
    rcases aHs.1 hk with hk | hk
    ·cases x with
     | tmp t=>
      simp only [ev] at h1
      cases hF:σ.F t with
      | none=>rw [hF] at h1; cases h1
      | some d'=>
       rw [hF] at h1
       injection h1 with h1
       subst h1
       exact h.usedF t d' k hF (sD hk)
     | const v=>
      simp only [ev] at h1
      cases hv:Gd v with
      | false=>rw [hv] at h1; cases h1
      | true=>rw [hv] at h1; injection h1 with h1; subst h1; simp [Me] at hk
     | global g=>simp [ev] at h1
     | func f=>simp only [ev] at h1; injection h1 with h1; subst h1; simp [Me] at hk
    ·exact mM h h2 k hk
theorem lW {ρ:Nat->Value} {a:Act} {w:World} (h:Ew cx ρ σ a w):∀ {n:Nat} {l:List Nat},(∀ k,k∈l->σ.U k=true)->∀ k,k∈Qe σ n l->σ.U k=true
 | 0,_,hl,k,hk=>hl k hk
 | n + 1,l,hl,k,hk=>by
  rcases aHs.1 hk with hk | hk
  ·exact hl k hk
  ·refine lW h (fun j hj=>?_) k hk
   obtain⟨i,hi,hj⟩:=List.mem_flatMap.1 hj
   unfold oF at hj
   cases hL:σ.L i with
   | none=>rw [hL] at hj; simp at hj
   | some lb=>
    rw [hL] at hj
    cases lb with
    | box ds ty=>exact (h.usedL i _ hL).2 j (Pe hj)
    | row=>simp at hj
    | map=>simp at hj
    | mit k' n s=>simp at hj; subst hj; exact (h.usedL i _ hL).2 _ rfl
    | lop ts ds N rc=>exact (h.usedL i _ hL).2 j (Pe hj)
    | vec ds e=>exact (h.usedL i _ hL).2 j (Pe hj)
theorem SC.used {ρ:Nat->Value} {a:Act} {w:World} (h:SC S ops tk o σ rd wr E) (ha:Ew cx ρ σ a w):∀ k,k∈rd->σ.U k=true:=by
 obtain⟨h1,ds,h2,h3,h4⟩:=h
 intro k hk
 rw [h4] at hk
 exact lW ha (mM ha h2) k hk
def aDh:Value->Option Bool
 | .bool b=>some b
 | _=>none
theorem Wo {ρ:Nat->Value} {a:Act} {w:World} (h:Ew cx ρ σ a w) {b:Bool} (G:Kr ops σ o=some b):Region.wanted o (yielded ops a.tmps)=b:=by
 unfold Kr at G
 unfold Region.wanted
 cases hq:o.guard with
 | none=>
  rw [hq] at G
  injection G
 | some q=>
  obtain⟨g,want⟩:=q
  rw [hq] at G
  simp only [] at G ⊢
  cases ht:(ops[g]?).bind (·.dst) with
  | none=>rw [ht] at G; cases G
  | some t=>
   rw [ht] at G
   simp only [] at G
   cases hF:σ.F t with
   | none=>rw [hF] at G; cases G
   | some d=>
    rw [hF] at G
    cases d with
    | val v=>
     have hr:=h.fr t _ hF
     unfold C3 at hr
     have hy:yielded ops a.tmps g=aDh v:=by
      unfold yielded
      rw [ht]
      simp only [aAg]
      by_cases hlt:t < a.tmps.size
      ·simp only [hlt,aYa]
       have e1:a.tmps[t]=v:=by simpa [hlt] using hr.1
       rw [e1]
       cases v <;> rfl
      ·have e1:a.tmps[t]?=none:=Array.getElem?_eq_none (Nat.le_of_not_lt hlt)
       have e2:v=undef:=by simpa [e1] using hr.1.symm
       rw [e1,e2]
       rfl
     rw [hy]
     cases v <;> simp at G <;> simp [aDh,<- G]
    | _=>cases G
theorem SF.sound {ρ:Nat->Value} {a:Act} {w:World} (h:SF S ops tk o σ rd wr e) (ha:Ew cx ρ σ a w) (hf:∀ j,j < 8->σ.U (tk + j)=false) (hdst:∀ t,o.dst=some t->t < cx.N) :
  ∀ (K:Act->World->Prop) (Q:Exit->Act->World->Prop),(∀ a' w',Mx cx (σ.app o.dst e) a' w'->K a' w')->if Region.wanted o (yielded ops a.tmps)=true then o.wp P a w K Q else K (a.put o.dst undef) w:=by
 rcases h with ⟨h1,rfl,rfl,rfl⟩ | ⟨h1,ds,h2,h3,rfl⟩
 ·intro K Q hK
  rw [Wo ha h1]
  simp only [bA2,if_false]
  exact hK _ _ ⟨ρ,ha.put0 hdst (fun x hx=>by injection hx with hx; subst hx; unfold C3; exact⟨rfl,rfl⟩) (fun x k hx hm=>by injection hx with hx; subst hx; unfold men at hm; exact hm.elim)⟩
 ·have h5:=S.soundR h3 ha h2 hf o rfl rfl hdst
  intro K Q hK
  rw [Wo ha h1]
  simp only [if_true]
  exact h5 K Q hK
theorem SC.sound {ρ:Nat->Value} {a:Act} {w:World} (h:SC S ops tk o σ rd wr E) (ha:Ew cx ρ σ a w) (hf:∀ j,j < 8->σ.U (tk + j)=false) (hdst:∀ t,o.dst=some t->t < cx.N) :
  ∀ (K:Act->World->Prop) (Q:Exit->Act->World->Prop),(∀ e a' w',E e->Mx cx (σ.app o.dst e) a' w'->K a' w')->if Region.wanted o (yielded ops a.tmps)=true then o.wp P a w K Q else K (a.put o.dst undef) w:=by
 obtain⟨h1,ds,h2,h3,h4⟩:=h
 intro K Q hK
 rw [Wo ha h1]
 simp only [if_true]
 exact S.soundC h3 ha h2 (by rw [h4]) hf o rfl rfl hdst K Q hK
def dI (b:Bool) (σ:St):List Operand->List Nat
 | []=>[]
 | x :: l=>match ev σ false x with
  | some (d,_)=>(match O6 d with | some k=>(bif b && aY d then dI b σ l else k :: dI b σ l) | none=>dI b σ l)
  | none=>dI b σ l
theorem aS6 {tc:Bool} {x:Operand} {d:DV} {b:Option LB} (h:ev σ tc x=some (d,b)):ev σ false x=some (d,none):=by
 cases x with
 | tmp t=>
  simp only [ev] at *
  cases hd:σ.F t with
  | none=>rw [hd] at h; cases h
  | some d'=>
   rw [hd] at h
   injection h with h
   injection h with h
   subst h
   rfl
 | const v=>
  simp only [ev] at *
  cases hv:Gd v with
  | false=>rw [hv] at h; cases h
  | true=>rw [hv] at h; injection h with h; injection h with h; subst h; rfl
 | global g=>simp [ev] at h
 | func f=>simp only [ev] at *; injection h with h; injection h with h; subst h; rfl
theorem pI {tc b:Bool}:∀ {l:List Operand} {ds:List (DV×Option LB)},Fz σ tc l=some ds->Mw b ds=dI b σ l
 | [],ds,hd=>by
  unfold Fz at hd
  injection hd with hd
  subst hd
  rfl
 | x :: l,ds,hd=>by
  unfold Fz at hd
  cases h1:ev σ tc x with
  | none=>rw [h1] at hd; cases hd
  | some d0=>
   rw [h1] at hd
   simp only [] at hd
   cases h2:Fz σ tc l with
   | none=>rw [h2] at hd; cases hd
   | some ds0=>
    rw [h2] at hd
    simp only [] at hd
    injection hd with hd
    subst hd
    obtain⟨d,q⟩:=d0
    unfold Mw dI
    rw [aS6 h1]
    simp only []
    rw [pI (b:=b) h2]
theorem fJ {b:Bool}:∀ {l:List Operand},(∀ t,t∈Pw l->σ'.F t=σ.F t)->dI b σ' l=dI b σ l
 | [],_=>rfl
 | x :: l,hF=>by
  unfold dI
  have e1:ev σ' false x=ev σ false x:=aI8 (fun t ht=>hF t (by rw [ht]; simp [Pw])) fun t d k _ h=>by cases h
  have e2:dI b σ' l=dI b σ l:=fJ fun t ht=>hF t (by cases x <;> simp [Pw,ht])
  rw [e1,e2]
def rdF (ops:Array Oper) (o:Oper) (σ:St):List Nat:=if Kr ops σ o=some true then (bif K7 o.op then dI (Nm o.op) σ o.op.operands.toList else []) else []
theorem SF.rdEq (h:SF S ops tk o σ rd wr e):rd=rdF ops o σ:=by
 unfold rdF
 rcases h with ⟨h1,rfl,-⟩ | ⟨h1,ds,h2,h3,rfl⟩
 ·rw [if_neg (by rw [h1]; simp)]
 ·rw [if_pos h1,pI h2]
theorem SC.rdSub (h:SC S ops tk o σ rd wr E):∀ k,k∈rdF ops o σ->k∈rd:=by
 unfold rdF
 obtain⟨h1,ds,h2,h3,h4⟩:=h
 rw [if_pos h1,h4]
 intro k hk
 cases ht:K7 o.op with
 | false=>rw [ht] at hk; simp at hk
 | true=>
  rw [ht] at hk
  simp only [aEa] at hk
  rw [<- pI h2] at hk
  exact aM (V5 hk)
theorem aAn (hF:∀ t,t∈R2 ops o->σ'.F t=σ.F t):rdF ops o σ'=rdF ops o σ:=by
 unfold rdF
 rw [pP hF,fJ fun t ht=>hF t (by simp [R2,ht])]
def Yd (nb:Nat) (l:List (Nat×Oper)) (σ:St):Prop:=∀ q∈l,∀ j,j < 8->σ.U (nb + 8 * q.1 + j)=false
def aE6 (cx:Cx) (l:List (Nat×Oper)):Prop:=∀ q∈l,(∀ t,q.2.dst=some t->t < cx.N)/\aL9 q.2.op=true
theorem xF {dst:Option Tmp} {k:Nat} (h:(σ.app dst e).U k=true):σ.U k=true\/e.l k≠none:=by
 simp only [St.app,aR9,Option.isSome_iff_ne_none] at h
 exact h
theorem Yd.next {nb i:Nat} {l:List (Nat×Oper)} {dst:Option Tmp} (hf:Yd nb l σ) (hk:∀ k,e.l k≠none->k∈wr\/(nb + 8 * i<=k/\k < nb + 8 * i + 8)) (hu:∀ k,k∈wr->σ.U k=true) (hi:∀ q∈l,q.1≠i):Yd nb l (σ.app dst e):=by
 intro q hq j hj
 have h0:=hf q hq j hj
 cases hc:(σ.app dst e).U (nb + 8 * q.1 + j) with
 | false=>rfl
 | true=>
  rcases xF hc with h1 | h1
  ·rw [h0] at h1; cases h1
  ·rcases hk _ h1 with h2 | h2
   ·rw [hu _ h2] at h0; cases h0
   ·have:=hi q hq
    omega
end
end Go.Proofs.YtobamahlipiakaaGreat
namespace Go.Proofs.YtobamahlipiakaaGreat
open Go.RowKit
def idx:Nat->List Oper->List (Nat×Oper)
 | _,[]=>[]
 | k,o :: l=>(k,o) :: idx (k + 1) l
theorem V7:∀ {l:List Oper} {k:Nat} {q:Nat×Oper},q∈idx k l->k<=q.1/\q.1 < k + l.length/\l[q.1 - k]?=some q.2
 | [],_,_,h=>by simp [idx] at h
 | o :: l,k,q,h=>by
  unfold idx at h
  rcases aF2.1 h with rfl | h
  ·simp
  ·obtain⟨h1,h2,h3⟩:=V7 h
   refine⟨by omega,by simp; omega,?_⟩
   rw [show q.1 - k=(q.1 - (k + 1)) + 1 by omega]
   simpa using h3
theorem eJ:∀ (l:List Oper) (k:Nat),(idx k l).length=l.length
 | [],_=>rfl
 | o :: l,k=>by simp [idx,eJ l]
theorem Z1:∀ {l:List Oper} {k i:Nat} {o:Oper},l[i]?=some o->(k + i,o)∈idx k l
 | [],_,_,_,h=>by simp at h
 | o' :: l,k,0,o,h=>by
  simp at h
  subst h
  simp [idx]
 | o' :: l,k,i + 1,o,h=>by
  have:=Z1 (l:=l) (k:=k + 1) (i:=i) (o:=o) (by simpa using h)
  unfold idx
  rw [show k + (i + 1)=k + 1 + i by omega]
  exact aHu _ this
theorem aCy:∀ (l:List Oper) (k:Nat),(idx k l).Pairwise fun a b=>a.1 < b.1
 | [],_=>by simp [idx]
 | o :: l,k=>by
  unfold idx
  exact aOn.2 ⟨fun q hq=>by have:=(V7 hq).1; dsimp only; omega,aCy l (k + 1)⟩
def nE (N:Nat) (l:List Oper):Bool:=l.all fun o=>(match o.dst with | some t=>Nat.blt t N | none=>true) && aL9 o.op
theorem bG {cx:Cx} {l:List Oper} {k:Nat} (h:nE cx.N l=true):aE6 cx (idx k l):=by
 intro q hq
 have h1:=aJz (V7 hq).2.2
 have:=aH8.1 h _ h1
 rw [aF1] at this
 refine⟨fun t ht=>?_,this.2⟩
 have:=this.1
 rw [ht] at this
 exact Nat.lt_of_succ_le (aEi this)
theorem Chain.log {P:Program} {cx:Cx} {S:Sys P cx} {ops:Array Oper} {Rt:Option (List Nat)} {nb:Nat} {Q:St->Prop}:∀ {l:List (Nat×Oper)} {lg lg':oP} {σ:St},(∀ q,q∈lg'->q∈lg)->Chain S ops Rt nb l lg σ Q->Chain S ops Rt nb l lg' σ Q
 | [],_,_,_,_,h=>h
 | (i,o) :: l,lg,lg',σ,hs,h=>by
  have ok:∀ {cl rd wr},Mc Rt i cl (nb + 8 * i) rd wr lg=true->Mc Rt i cl (nb + 8 * i) rd wr lg'=true:=fun {cl rd wr} h=>by
   unfold Mc at *
   cases Rt with
   | none=>rfl
   | some r=>exact aH8.2 fun q hq=>aH8.1 h q (hs q hq)
  have hs':∀ x:Nat×Bool×Nat×List Nat×List Nat,∀ q,q∈x :: lg'->q∈x :: lg:=fun x q hq=>by
   rcases aF2.1 hq with rfl | hq
   ·exact aI4 ..
   ·exact aHu _ (hs q hq)
  rcases h with ⟨rd,wr,e,h1,h2,h3⟩ | ⟨rd,wr,E,h1,h2,h2',h3⟩
  ·exact .inl ⟨rd,wr,e,h1,ok h2,Chain.log (hs' _) h3⟩
  ·exact .inr ⟨rd,wr,E,h1,ok h2,h2',fun e he=>Chain.log (hs' _) (h3 e he)⟩
section
variable {P:Program} {cx:Cx} {S:Sys P cx} {Q:Exit->St->Prop} {nb nb':Nat}
theorem X0 {nn:Nat} {ops:Array Oper}:∀ (l:List Oper) (k:Nat) (lg:oP) (σ:St) (a:Act) (w:World),Chain S ops none nb (idx k l) lg σ (fun σ'=>(∀ j,nb'<=j->σ'.U j=false)->Q .normal σ')->Yd nb (idx k l) σ->aE6 cx (idx k l)->(∀ j,nb'<=j->σ.U j=false)->nb + 8 * (k + l.length)<=nb'->Mx cx σ a w->wpListIn (FW cx.rr) nn P ops (Sa cx Q) l a w
 | [],k,lg,σ,a,w,h,_,_,B,_,ha=>⟨σ,h B,ha⟩
 | o :: l,k,lg,σ,a,w,h,hf,hd,B,hn,⟨ρ,ha⟩=>by
  have hf0:=hf (k,o) (by simp [idx])
  have hd0:=hd (k,o) (by simp [idx])
  have hf1:Yd nb (idx (k + 1) l) σ:=fun q hq=>hf q (by simp [idx,hq])
  have hd1:aE6 cx (idx (k + 1) l):=fun q hq=>hd q (by simp [idx,hq])
  have hne:∀ q∈idx (k + 1) l,q.1≠k:=fun q hq=>by have:=(V7 hq).1; omega
  have hn':nb + 8 * (k + 1 + l.length)<=nb':=by simp at hn; omega
  have hUn:∀ {e:Ow} {wr:List Nat} {rd:List Nat},(∀ j,e.l j≠none->j∈wr\/(nb + 8 * k<=j/\j < nb + 8 * k + 8))->(∀ j,j∈wr->j∈rd)->(∀ j,j∈rd->σ.U j=true)->∀ j,nb'<=j->(σ.app o.dst e).U j=false:=fun {e wr rd} hk hs hu j hj=>by
   cases hc:(σ.app o.dst e).U j with
   | false=>rfl
   | true=>
    rcases xF hc with h1 | h1
    ·rw [B j hj] at h1; cases h1
    ·rcases hk j h1 with h2 | h2
     ·exact absurd (hu j (hs j h2)) (by rw [B j hj]; simp)
     ·simp at hn; omega
  unfold wpListIn
  rcases h with ⟨rd,wr,e,h1,-,h3⟩ | ⟨rd,wr,E,h1,-,-,h3⟩
  ·have hs:=h1.sound ha hf0 hd0.1
   have:=hs (wpListIn (FW cx.rr) nn P ops (Sa cx Q) l) (Sa cx Q) fun a' w' ha'=>X0 l (k + 1) _ _ a' w' h3 (hf1.next h1.key.1 (fun j hj=>h1.used ha j (h1.key.2 j hj)) hne) hd1 (hUn h1.key.1 h1.key.2 (h1.used ha)) hn' ha'
   split
   ·rename_i hw
    rw [if_pos hw] at this
    exact mH hd0.2 this
   ·rename_i hw
    rw [if_neg hw] at this
    exact⟨fun _ _=>trivial,this⟩
  ·have:=h1.sound ha hf0 hd0.1 (wpListIn (FW cx.rr) nn P ops (Sa cx Q) l) (Sa cx Q) fun e a' w' he ha'=>X0 l (k + 1) _ _ a' w' (h3 e he) (hf1.next (h1.key.1 e he) (fun j hj=>h1.used ha j (h1.key.2 j hj)) hne) hd1 (hUn (h1.key.1 e he) h1.key.2 (h1.used ha)) hn' ha'
   split
   ·rename_i hw
    rw [if_pos hw] at this
    exact mH hd0.2 this
   ·rename_i hw
    rw [if_neg hw] at this
    exact⟨fun _ _=>trivial,this⟩
theorem Ci (S:Sys P cx) {id:Nat} {l:List Oper} {σ:St} (nb nb':Nat) (B:∀ k,nb<=k->σ.U k=false) (hn:Nat.ble (nb + 8 * l.length) nb'=true) (hd:nE cx.N l=true)
  (h:Chain S l.toArray none nb (idx 0 l) [] σ (fun σ'=>(∀ j,nb'<=j->σ'.U j=false)->Q .normal σ')):M1 P cx (.region id l.toArray false) Q σ:=by
 intro nn a w ha
 have hn':nb + 8 * l.length<=nb':=aEi hn
 exact wpIn_region_lit (X0 l 0 [] σ a w h (fun q hq j hj=>B _ (by omega)) (bG hd) (fun j hj=>B j (by omega)) (by simpa using hn') ha)
end
section
variable {P:Program} {cx:Cx} {S:Sys P cx} {ops:Array Oper} {nb:Nat} {r:List Nat}
structure xL (ops:Array Oper) (x y:Oper):Prop where
 a:∀ d,x.dst=some d->d∉R2 ops y
 b:∀ d,y.dst=some d->d∉R2 ops x
 c:∀ d,x.dst=some d->y.dst≠some d
theorem aJn {σ:St} {dst:Option Tmp} {e:Ow} {t:Nat} (h:dst≠some t):(σ.app dst e).F t=σ.F t:=by
 cases dst with
 | none=>rfl
 | some t'=>exact Qz _ _ (by rintro rfl; exact h rfl)
theorem bW {σ:St} {dst:Option Tmp} {e:Ow} {k:Nat} (h:e.l k=none):(σ.app dst e).L k=σ.L k:=by simp [St.app,h]
theorem gF {σ:St} {d d':Option Tmp} {e e':Ow} (hd:∀ t,d=some t->d'≠some t) (hl:∀ k,e.l k=none\/e'.l k=none):(σ.app d e).app d' e'=(σ.app d' e').app d e:=by
 unfold St.app
 congr 1
 ·cases d with
  | none=>rfl
  | some t=>
   cases d' with
   | none=>rfl
   | some t'=>
    funext s
    have hne:t'≠t:=fun h=>hd t rfl (by rw [h])
    by_cases h1:s=t
    ·subst h1
     dsimp only
     rw [Qz _ _ (Ne.symm hne),bH,bH]
    ·by_cases h2:s=t'
     ·subst h2
      dsimp only
      rw [bH,Qz _ _ h1,bH]
     ·dsimp only
      rw [Qz _ _ h2,Qz _ _ h1,Qz _ _ h1,Qz _ _ h2]
 ·funext k
  rcases hl k with h | h
  ·simp only [h]
  ·simp only [h]
 ·funext k
  dsimp only
  cases σ.U k <;> cases (e.l k).isSome <;> cases (e'.l k).isSome <;> rfl
theorem gO {a b:List Nat} (h:aE0 a b=true) {k:Nat} (ha:k∈a) (hb:k∈b):False:=by
 have:=aH8.1 (aH8.1 h k ha) k hb
 simp at this
theorem mA {a:List Nat} {tk:Nat} (h:aKe a tk=true) {k:Nat} (ha:k∈a):k < tk\/tk + 8<=k:=by
 have:=aH8.1 h k ha
 simp [Nat.blt] at this
 omega
theorem Nj {i:Nat} {cl:Bool} {tk:Nat} {rd wr:List Nat} {p:Nat} {cp:Bool} {tp:Nat} {rp wp:List Nat} (h:wV r i cl tk rd wr (p,cp,tp,rp,wp)=true) (hr:inR r p i=false) :
  (cl=true->cp=true->False)/\(∀ k,k∈wp->k∈rd->False)/\(∀ k,k∈rp->k∈wr->False)/\(∀ k,k∈rd->k < tp\/tp + 8<=k)/\(∀ k,k∈rp->k < tk\/tk + 8<=k):=by
 unfold wV at h
 rw [aR9] at h
 rcases h with h | h
 ·exfalso
  have h:inR r p i=true:=h
  rw [hr] at h
  cases h
 ·simp only [aF1] at h
  obtain⟨⟨⟨⟨h1,h2⟩,h3⟩,h4⟩,h5⟩:=h
  refine⟨fun a b=>?_,fun k a b=>gO h2 a b,fun k a b=>gO h3 a b,fun k hk=>mA h4 hk,fun k hk=>mA h5 hk⟩
  rw [a,b] at h1
  cases h1
theorem Qq {i:Nat} {cl:Bool} {tk:Nat} {rd wr:List Nat} {lg:oP} {x:Nat×Bool×Nat×List Nat×List Nat} (h:Mc (some r) i cl tk rd wr (x :: lg)=true):wV r i cl tk rd wr x=true/\Mc (some r) i cl tk rd wr lg=true:=by
 unfold Mc at *
 simp only [List.all_cons,aF1] at h
 exact h
structure bS (tp ti:Nat) (ep ei:Ow) (rp ri:List Nat):Prop where
 pi:∀ k,k∈ri->ep.l k=none
 ip:∀ k,k∈rp->ei.l k=none
 ee:∀ k,ep.l k=none\/ei.l k=none
theorem bS.of {tp ti:Nat} {ep ei:Ow} {rp wp ri wi:List Nat} (hkp:∀ k,ep.l k≠none->k∈wp\/(tp<=k/\k < tp + 8)) (hsp:∀ k,k∈wp->k∈rp) (hki:∀ k,ei.l k≠none->k∈wi\/(ti<=k/\k < ti + 8)) (hsi:∀ k,k∈wi->k∈ri)
  (h:(∀ k,k∈wp->k∈ri->False)/\(∀ k,k∈rp->k∈wi->False)/\(∀ k,k∈ri->k < tp\/tp + 8<=k)/\(∀ k,k∈rp->k < ti\/ti + 8<=k)) (ht:tp + 8<=ti\/ti + 8<=tp):bS tp ti ep ei rp ri:=by
 obtain⟨h1,h2,h3,h4⟩:=h
 have pi:∀ k,k∈ri->ep.l k=none:=fun k hk=>by
  cases hx:ep.l k with
  | none=>rfl
  | some x=>
   rcases hkp k (by rw [hx]; simp) with h5 | h5
   ·exact (h1 k h5 hk).elim
   ·have:=h3 k hk; omega
 have ip:∀ k,k∈rp->ei.l k=none:=fun k hk=>by
  cases hx:ei.l k with
  | none=>rfl
  | some x=>
   rcases hki k (by rw [hx]; simp) with h5 | h5
   ·exact (h2 k hk h5).elim
   ·have:=h4 k hk; omega
 refine⟨pi,ip,fun k=>?_⟩
 cases hx:ep.l k with
 | none=>exact .inl rfl
 | some x=>
  right
  cases hy:ei.l k with
  | none=>rfl
  | some y=>
   rcases hkp k (by rw [hx]; simp) with h5 | h5
   ·exact absurd (ip k (hsp k h5)) (by rw [hy]; simp)
   ·rcases hki k (by rw [hy]; simp) with h6 | h6
    ·exact absurd (pi k (hsi k h6)) (by rw [hx]; simp)
    ·omega
theorem aHt (w:World) {Q:St->Prop} {i:Nat} {o:Oper} {po:List (Nat×Oper)}:∀ (pre:List (Nat×Oper)) (lg:oP) (σ:St),(∀ p∈pre,inR r p.1 i=false/\xL ops p.2 o/\p.1 < i)->
  Chain S ops (some r) nb (pre ++ (i,o) :: po) lg σ Q->
  (∃ rd wr e,SF S ops (nb + 8 * i) o σ rd wr e/\Mc (some r) i false (nb + 8 * i) rd wr lg=true/\Chain S ops (some r) nb (pre ++ po) lg (σ.app o.dst e) Q)\/
  (∃ rd wr E,SC S ops (nb + 8 * i) o σ rd wr E/\Mc (some r) i true (nb + 8 * i) rd wr lg=true/\(∃ e,E e)/\∀ e,E e->Chain S ops (some r) nb (pre ++ po) lg (σ.app o.dst e) Q)
 | [],lg,σ,_,h=>by
  rcases h with ⟨rd,wr,e,h1,h2,h3⟩ | ⟨rd,wr,E,h1,h2,h2',h3⟩
  ·exact .inl ⟨rd,wr,e,h1,h2,Chain.log (fun q hq=>aHu _ hq) h3⟩
  ·exact .inr ⟨rd,wr,E,h1,h2,h2' rfl,fun e he=>Chain.log (fun q hq=>aHu _ hq) (h3 e he)⟩
 | (p,op) :: pre,lg,σ,hp,h=>by
  obtain⟨hr,hap,hlt⟩:=hp (p,op) (aI4 ..)
  have hp':∀ q∈pre,inR r q.1 i=false/\xL ops q.2 o/\q.1 < i:=fun q hq=>hp q (aHu _ hq)
  dsimp only at hr hap hlt
  have ht:nb + 8 * p + 8<=nb + 8 * i\/nb + 8 * i + 8<=nb + 8 * p:=by omega
  have hFi:∀ (e:Ow) t,t∈R2 ops o->(σ.app op.dst e).F t=σ.F t:=fun e t htr=>aJn fun hd=>hap.a t hd htr
  have hFp:∀ (e:Ow) t,t∈R2 ops op->(σ.app o.dst e).F t=σ.F t:=fun e t htr=>aJn fun hd=>hap.b t hd htr
  rcases h with ⟨rp,wp,ep,h1,h2,h3⟩ | ⟨rp,wp,Ep,h1,h2,h2',h3⟩
  ·rcases aHt w pre _ _ hp' h3 with ⟨rd,wr,e,k1,k2,k3⟩ | ⟨rd,wr,E,k1,k2,k2',k3⟩
   ·obtain⟨hpair,hok⟩:=Qq k2
    have hcl:=bS.of h1.key.1 h1.key.2 k1.key.1 k1.key.2 (Nj hpair hr).2 ht
    refine .inl ⟨rd,wr,e,k1.local (fun t htr=>(hFi ep t htr).symm) (fun k hk=>(bW (hcl.pi k hk)).symm),hok,.inl ⟨rp,wp,ep,h1.local (fun t htr=>hFp e t htr) (fun k hk=>bW (hcl.ip k hk)),h2,?_⟩⟩
    rw [gF (fun t hd hd'=>hap.c t hd' hd) (fun k=>(hcl.ee k).symm)]
    exact k3
   ·obtain⟨hpair,hok⟩:=Qq k2
    have hcl:=fun e he=>bS.of h1.key.1 h1.key.2 (k1.key.1 e he) k1.key.2 (Nj hpair hr).2 ht
    obtain⟨e0,he0⟩:=k2'
    refine .inr ⟨rd,wr,E,k1.local (fun t htr=>(hFi ep t htr).symm) (fun k hk=>(bW ((hcl e0 he0).pi k hk)).symm),hok,⟨e0,he0⟩,fun e he=>.inl ⟨rp,wp,ep,h1.local (fun t htr=>hFp e t htr) (fun k hk=>bW ((hcl e he).ip k hk)),h2,?_⟩⟩
    rw [gF (fun t hd hd'=>hap.c t hd' hd) (fun k=>((hcl e he).ee k).symm)]
    exact k3 e he
  ·obtain⟨e0,he0⟩:=h2' rfl
   rcases aHt w pre _ _ hp' (h3 e0 he0) with ⟨rd,wr,e,k1,k2,k3⟩ | ⟨rd,wr,E,k1,k2,k2',k3⟩
   ·obtain⟨hpair,hok⟩:=Qq k2
    have hcl0:=bS.of (h1.key.1 e0 he0) h1.key.2 k1.key.1 k1.key.2 (Nj hpair hr).2 ht
    have hs:SF S ops (nb + 8 * i) o σ rd wr e:=k1.local (fun t htr=>(hFi e0 t htr).symm) (fun k hk=>(bW (hcl0.pi k hk)).symm)
    refine .inl ⟨rd,wr,e,hs,hok,.inr ⟨rp,wp,Ep,h1.local (fun t htr=>hFp e t htr) (fun k hk=>bW (hcl0.ip k hk)),h2,h2',fun ep hep=>?_⟩⟩
    have hrd:rd=rdF ops o (σ.app op.dst ep):=by rw [aAn (hFi ep)]; exact hs.rdEq
    rcases aHt w pre _ _ hp' (h3 ep hep) with ⟨rd',wr',e',m1,m2,m3⟩ | ⟨rd',wr',E',m1,m2,m2',m3⟩
    ·have hrr:rd'=rd:=m1.rdEq.trans hrd.symm
     subst hrr
     have hpi:∀ k,k∈rd'->ep.l k=none:=(bS.of (h1.key.1 ep hep) h1.key.2 m1.key.1 m1.key.2 (Nj (Qq m2).1 hr).2 ht).pi
     obtain⟨-,rfl,rfl⟩:=m1.func w (hs.local (hFi ep) fun k hk=>bW (hpi k hk))
     have hcl:=bS.of (h1.key.1 ep hep) h1.key.2 m1.key.1 m1.key.2 (Nj (Qq m2).1 hr).2 ht
     rw [gF (fun t hd hd'=>hap.c t hd' hd) (fun k=>(hcl.ee k).symm)]
     exact m3
    ·have hrr:∀ k,k∈rd->k∈rd':=fun k hk=>m1.rdSub k (hrd ▸ hk)
     obtain⟨em,hem⟩:=m2'
     have hpi:∀ k,k∈rd'->ep.l k=none:=(bS.of (h1.key.1 ep hep) h1.key.2 (m1.key.1 em hem) m1.key.2 (Nj (Qq m2).1 hr).2 ht).pi
     exact ((hs.local (hFi ep) fun k hk=>bW (hpi k (hrr k hk))).excl m1).elim
   ·exact ((Nj (Qq k2).1 hr).1 rfl rfl).elim
def N0 (ops:Array Oper):Nat->Nat->Nat->Bool
 | 0,_,_=>false
 | n + 1,p,i=>match ops[i]? with
  | some o=>o.after.any fun e=>Region.binds .any e && (Nat.beq e.on p || N0 ops n p e.on)
  | none=>false
def vD (ops:Array Oper) (x y:Oper):Bool:=
 (match x.dst with | some d=>!(R2 ops y).contains d && (match y.dst with | some d'=>!Nat.beq d d' | none=>true) | none=>true) && (match y.dst with | some d=>!(R2 ops x).contains d | none=>true)
theorem tD {x y:Oper} (h:vD ops x y=true):xL ops x y:=by
 unfold vD at h
 rw [aF1] at h
 obtain⟨h1,h2⟩:=h
 refine⟨fun d hd hm=>?_,fun d hd hm=>?_,fun d hd hd'=>?_⟩
 ·rw [hd] at h1
  simp only [aF1] at h1
  have:=h1.1
  simp [hm] at this
 ·rw [hd] at h2
  simp [hm] at h2
 ·rw [hd,hd'] at h1
  simp at h1
def cQ (ms:List Nat):List Edge->Nat
 | []=>0
 | e :: l=>bif Region.binds .any e then ((1 <<< e.on) ||| ms.getD e.on 0) ||| cQ ms l else cQ ms l
def aMo:List Oper->List Nat->List Nat
 | [],ms=>ms
 | o :: l,ms=>aMo l (ms ++ [cQ ms o.after.toList])
def tH (l:List Oper) (r:List Nat):Bool:=
 (aMo l [] == r) &&
 ((idx 0 l).all fun q=>(q.2.after.all fun e=>!Region.binds .any e || Nat.blt e.on q.1)) &&
 ((idx 0 l).all fun q=>(idx 0 l).all fun p=>!Nat.blt p.1 q.1 || inR r p.1 q.1 || vD l.toArray p.2 q.2)
theorem gB {ops:Array Oper} {p:Nat}:∀ {n i:Nat},N0 ops n p i=true->N0 ops (n + 1) p i=true
 | 0,_,h=>by simp [N0] at h
 | n + 1,i,h=>by
  unfold N0 at h ⊢
  cases ho:ops[i]? with
  | none=>rw [ho] at h; cases h
  | some o=>
   rw [ho] at h
   simp only [] at h ⊢
   rw [<- Array.any_toList] at h ⊢
   obtain⟨e,he,h1⟩:=aL5.1 h
   refine aL5.2 ⟨e,he,?_⟩
   simp only [aF1,aR9] at h1 ⊢
   exact⟨h1.1,h1.2.imp id fun h2=>gB h2⟩
theorem sG {ops:Array Oper} {p i n m:Nat} (h:N0 ops n p i=true) (hm:n<=m):N0 ops m p i=true:=by
 induction hm with
 | refl=>exact h
 | step _ ih=>exact gB ih
theorem bA {ms:List Nat} {p:Nat}:∀ {l:List Edge},Nat.testBit (cQ ms l) p=true->∃ e∈l,Region.binds .any e=true/\(p=e.on\/Nat.testBit (ms.getD e.on 0) p=true)
 | [],h=>by simp [cQ] at h
 | e :: l,h=>by
  unfold cQ at h
  cases hb:Region.binds .any e with
  | false=>
   rw [hb] at h
   obtain⟨e',h1,h2⟩:=bA (l:=l) h
   exact⟨e',aHu _ h1,h2⟩
  | true=>
   rw [hb] at h
   simp only [aEa,Nat.testBit_or,aR9] at h
   rcases h with (h | h) | h
   ·refine⟨e,aI4 ..,hb,.inl ?_⟩
    rw [Nat.testBit_shiftLeft] at h
    simp only [aF1,aJc] at h
    have h2:=h.2
    rw [Nat.testBit_one_eq_true_iff_self_eq_zero] at h2
    have:=h.1
    omega
   ·exact⟨e,aI4 ..,hb,.inr h⟩
   ·obtain⟨e',h1,h2⟩:=bA (l:=l) h
    exact⟨e',aHu _ h1,h2⟩
theorem lR {ops:Array Oper}:∀ (l:List Oper) (ms:List Nat),(∀ j o,l[j]?=some o->ops[ms.length + j]?=some o)->(∀ i p,i < ms.length->Nat.testBit (ms.getD i 0) p=true->N0 ops (i + 1) p i=true)->(∀ j o,l[j]?=some o->∀ e∈o.after,Region.binds .any e=true->e.on < ms.length + j)->
  ∀ i p,i < ms.length + l.length->Nat.testBit ((aMo l ms).getD i 0) p=true->N0 ops (i + 1) p i=true
 | [],ms,_,h,_,i,p,hi,hb=>h i p (by simpa using hi) hb
 | o :: l,ms,hl,h,he,i,p,hi,hb=>by
  have h0:=hl 0 o rfl
  have step:∀ i p,i < (ms ++ [cQ ms o.after.toList]).length->Nat.testBit ((ms ++ [cQ ms o.after.toList]).getD i 0) p=true->N0 ops (i + 1) p i=true:=fun i p hi hb=>by
   rw [aF3,aF7] at hi
   rcases aZf i ms.length with hlt | hge
   ·refine h i p hlt ?_
    rw [show (ms ++ [cQ ms o.after.toList]).getD i 0=ms.getD i 0 by simp [List.getD,aNt hlt]] at hb
    exact hb
   ·have hie:i=ms.length:=by omega
    subst hie
    have e1:(ms ++ [cQ ms o.after.toList]).getD ms.length 0=cQ ms o.after.toList:=by simp [List.getD]
    rw [e1] at hb
    obtain⟨e,h1,h2,h3⟩:=bA hb
    have hon:=he 0 o rfl e (Array.mem_toList_iff.1 h1) h2
    unfold N0
    rw [show ops[ms.length]?=some o from h0]
    simp only []
    rw [<- Array.any_toList]
    refine aL5.2 ⟨e,h1,?_⟩
    simp only [aF1,aR9]
    refine⟨h2,?_⟩
    rcases h3 with h3 | h3
    ·exact .inl (by rw [h3]; exact bA1 _)
    ·exact .inr (sG (h e.on p (by omega) h3) (by omega))
  refine lR l (ms ++ [cQ ms o.after.toList]) (fun j o' h'=>?_) step (fun j o' h' e h1 h2=>?_) i p ?_ hb
  ·have:=hl (j + 1) o' h'
   rw [aF3,aF7]
   rwa [show ms.length + 1 + j=ms.length + (j + 1) by omega]
  ·have:=he (j + 1) o' h' e h1 h2
   rw [aF3,aF7]
   omega
  ·rw [aF3,aF7]
   simp only [aJw] at hi
   omega
theorem rX {L:List Oper} {r:List Nat} (hB:tH L r=true) (p i:Nat) (hi:i < L.length) (h:inR r p i=true):N0 L.toArray L.length p i=true:=by
 simp only [tH,aF1,aH8] at hB
 obtain⟨⟨h1,h2⟩,-⟩:=hB
 have h1:=eq_of_beq h1
 subst h1
 refine sG (lR (ops:=L.toArray) L [] (fun j o h=>by simpa using h) (fun i p hi=>by simp at hi) (fun j o h3 e h4 h5=>?_) i p (by simpa using hi) h) hi
 have:=h2 (j,o) (by have:=Z1 (k:=0) h3; simpa using this)
 have:=(aZs.1 this) e h4
 simp only [h5,aHl,aZk] at this
 have h6:=aEi this
 have h6:e.on + 1<=j:=h6
 show e.on < 0 + j
 omega
def yD (ops:Array Oper) (s:Array Bool):Prop:=∀ j o,ops[j]?=some o->s.getD j true=true->∀ e∈o.after,Region.binds .any e=true->s.getD e.on false=true
theorem hY {s:Array Bool} (hs:yD ops s) (hsz:s.size=ops.size):∀ (n p i:Nat) (o:Oper),ops[i]?=some o->(∀ e∈o.after,Region.binds .any e=true->s.getD e.on false=true)->N0 ops n p i=true->s.getD p false=true
 | 0,_,_,_,_,_,h=>by simp [N0] at h
 | n + 1,p,i,o,ho,hd,h=>by
  unfold N0 at h
  rw [ho] at h
  simp only [] at h
  obtain⟨e,he,h1⟩:=aL5.1 (by rw [<- Array.any_toList] at h; exact h)
  simp only [aF1,aR9] at h1
  have he':e∈o.after:=Array.mem_toList_iff.1 he
  have hon:=hd e he' h1.1
  rcases h1.2 with h2 | h2
  ·rw [<- aF5 h2]; exact hon
  ·cases hoj:ops[e.on]? with
   | none=>
    cases n <;> simp [N0,hoj] at h2
   | some oj=>
    have h3:s.getD e.on true=true:=by
     have hlt:e.on < s.size:=by rw [hsz]; exact (aJi.1 hoj).1
     simpa [hlt] using hon
    exact hY hs hsz n p e.on oj hoj (hs e.on oj hoj h3) h2
structure aPx (ops:Array Oper) (s:Array Bool) (l:List (Nat×Oper)):Prop where
 size:s.size=ops.size
 pw:l.Pairwise fun a b=>a.1 < b.1
 mem:∀ q∈l,ops[q.1]?=some q.2/\s.getD q.1 true=false
 all:∀ i o,ops[i]?=some o->s.getD i true=false->(i,o)∈l
 closed:yD ops s
theorem eZ {s:Array Bool} {i j:Nat} {b:Bool} (hi:i < s.size):(s.setIfInBounds i true).getD j b=if j=i then true else s.getD j b:=by
 by_cases h:j=i
 ·subst h
  simp [hi]
 ·simp [h,aTr,Ne.symm h]
theorem aEx {nn:Nat} (w0:World) {Q:Exit->St->Prop} {L:List Oper} {nb':Nat} (hB:tH L r=true) (hd:nE cx.N L=true) (hn:nb + 8 * L.length<=nb'):∀ (n:Nat) (l:List (Nat×Oper)) (s:Array Bool) (σ:St) (a:Act) (w:World),l.length=n->aPx L.toArray s l->
  Chain S L.toArray (some r) nb l [] σ (fun σ'=>(∀ j,nb'<=j->σ'.U j=false)->Q .normal σ')->Yd nb l σ->(∀ j,nb'<=j->σ.U j=false)->Mx cx σ a w->wpAnyIn (FW cx.rr) nn P .any L.toArray (Sa cx Q) n s a w:=by
 have hBr:=rX hB
 simp only [tH,aF1,aH8] at hB
 obtain⟨⟨hB1,hB2⟩,hB3⟩:=hB
 intro n
 induction n with
 | zero=>
  intro l s σ a w hl hL hc hf B ha
  obtain rfl:l=[]:=aG6 hl
  refine⟨?_,σ,hc B,ha⟩
  unfold Region.ready
  refine bA9.2 fun i hi hh=>?_
  simp only [aF1,aR1] at hh
  have hlt:i < L.toArray.size:=aSn.1 hi
  have:=hL.all i _ (aYa hlt) hh.1
  simp at this
 | succ n ih=>
  intro l s σ a w hl hL hc hf B ha
  have hready:∀ i o,(i,o)∈l->(∀ e∈o.after,Region.binds .any e=true->s.getD e.on false=true)->i∈Region.ready .any L.toArray s:=by
   intro i o hm hdone
   obtain⟨h1,h2⟩:=hL.mem _ hm
   dsimp only at h1 h2
   have hlt:i < L.toArray.size:=(aJi.1 h1).1
   unfold Region.ready
   refine aVk.2 ⟨aSn.2 hlt,?_⟩
   rw [h1,h2]
   simp only [aR0,aP5,bAq,Option.getD_some]
   rw [Array.all_eq_true]
   intro j hj
   cases hb:Region.binds .any o.after[j] with
   | false=>rfl
   | true=>simpa using hdone _ (Array.getElem_mem hj) hb
  refine⟨fun hemp=>?_,fun i hi=>?_⟩
  ·exfalso
   match l,hl with
   | (i,o) :: l',_=>
    have hm:=hL.mem (i,o) (aI4 ..)
    have h0:(i,o)∈idx 0 L:=by
     have:=Z1 (k:=0) (by simpa using hm.1:L[i]?=some o)
     simpa using this
    have hr:=hready i o (aI4 ..) fun e he hb=>?_
    ·rw [hemp] at hr; cases hr
    ·have h1:=hB2 _ h0
     rw [aZs] at h1
     have h2:=h1 e he
     rw [hb] at h2
     simp [Nat.blt] at h2
     have hlt:e.on < L.toArray.size:=by
      have:=(aJi.1 hm.1).1
      dsimp only at this
      omega
     cases hc:s.getD e.on true with
     | true=>
      have:e.on < s.size:=by rw [hL.size]; exact hlt
      simpa [this] using hc
     | false=>
      exfalso
      have h3:=hL.all e.on _ (aYa hlt) hc
      rcases aF2.1 h3 with h4 | h4
      ·injection h4 with h4 _
       omega
      ·have:=(aOn.1 hL.pw).1 _ h4
       dsimp only at this
       omega
  ·unfold Region.ready at hi
   obtain⟨hi1,hi2⟩:=aVk.1 hi
   have hlt:i < L.toArray.size:=aSn.1 hi1
   simp only [aF1,aR1] at hi2
   obtain⟨o,ho⟩:∃ o,L.toArray[i]?=some o:=⟨_,aYa hlt⟩
   have hdone:∀ e∈o.after,Region.binds .any e=true->s.getD e.on false=true:=by
    intro e he hb
    have h1:=hi2.2
    rw [ho] at h1
    simp only [bAq,Option.getD_some] at h1
    rw [aZs] at h1
    have:=h1 e he
    rw [hb] at this
    simpa using this
   have hm:=hL.all i o ho hi2.1
   obtain⟨pre,po,rfl⟩:=List.append_of_mem hm
   have hpw:=hL.pw
   rw [aZy] at hpw
   obtain⟨hw1,hw2,hw3⟩:=hpw
   obtain⟨hw2a,hw2b⟩:=aOn.1 hw2
   have hisz:i < s.size:=by rw [hL.size]; exact hlt
   have hi0:(i,o)∈idx 0 L:=by
    have:=Z1 (k:=0) (by simpa using ho:L[i]?=some o)
    simpa using this
   have hnot:∀ p∈pre,N0 L.toArray L.length p.1 i=true->False:=fun p hp hr=>by
    have h1:=hY hL.closed hL.size L.length p.1 i o ho hdone hr
    have h2:=(hL.mem p (aR4 _ hp)).2
    have hps:p.1 < s.size:=by
     rw [hL.size]
     exact (aJi.1 (hL.mem p (aR4 _ hp)).1).1
    simp [hps] at h1 h2
    rw [h1] at h2
    cases h2
   have hpre:∀ p∈pre,inR r p.1 i=false/\xL L.toArray p.2 o/\p.1 < i:=fun p hp=>by
    have hlt':p.1 < i:=hw3 p hp (i,o) (aI4 ..)
    refine⟨Bool.eq_false_iff.2 fun hr=>hnot p hp (hBr p.1 i (by have:=(aDx.1 (show L[i]?=some o by simpa using ho)).1; exact this) hr),?_,hlt'⟩
    have hp0:p∈idx 0 L:=by
     have:=Z1 (k:=0) (by simpa using (hL.mem p (aR4 _ hp)).1:L[p.1]?=some p.2)
     simpa using this
    have:=hB3 _ hi0 _ hp0
    simp only [aR9,aR1] at this
    rcases this with (h1 | h1) | h1
    ·exact absurd (show Nat.blt p.1 i=true from aT7 hlt') (by rw [h1]; simp)
    ·exact (hnot p hp (hBr p.1 i (by have:=(aDx.1 (show L[i]?=some o by simpa using ho)).1; exact this) h1)).elim
    ·exact tD h1
   have hL':aPx L.toArray (s.setIfInBounds i true) (pre ++ po):=by
    refine⟨by simpa using hL.size,?_,?_,?_,?_⟩
    ·rw [aZy]
     exact⟨hw1,hw2b,fun x hx y hy=>hw3 x hx y (aHu _ hy)⟩
    ·intro q hq
     have hne:q.1≠i:=by
      rcases aHs.1 hq with hq | hq
      ·have:=hw3 q hq (i,o) (aI4 ..)
       dsimp only at this
       omega
      ·have:=hw2a q hq
       dsimp only at this
       omega
     have hq':q∈pre ++ (i,o) :: po:=by
      rcases aHs.1 hq with hq | hq
      ·exact aR4 _ hq
      ·exact aS1 _ (aHu _ hq)
     refine⟨(hL.mem q hq').1,?_⟩
     rw [eZ hisz,if_neg hne]
     exact (hL.mem q hq').2
    ·intro j oj hj hjs
     rw [eZ hisz] at hjs
     split at hjs
     ·cases hjs
     ·rename_i hne
      have:=hL.all j oj hj hjs
      rcases aHs.1 this with h1 | h1
      ·exact aR4 _ h1
      ·rcases aF2.1 h1 with h2 | h2
       ·injection h2 with h2 _
        exact (hne h2).elim
       ·exact aS1 _ h2
    ·intro j oj hj hjs e he hb
     rw [eZ hisz] at hjs ⊢
     split
     ·rfl
     ·split at hjs
      ·rename_i hji
       subst hji
       rw [ho] at hj
       injection hj with hj
       subst hj
       exact hdone e he hb
      ·exact hL.closed j oj hj hjs e he hb
   have hlen:(pre ++ po).length=n:=by simp at hl ⊢; omega
   have hdi:=bG (k:=0) hd _ hi0
   have hfi:=hf (i,o) hm
   have hfn:Yd nb (pre ++ po) σ:=fun q hq=>hf q (by
    rcases aHs.1 hq with hq | hq
    ·exact aR4 _ hq
    ·exact aS1 _ (aHu _ hq))
   have hne:∀ q∈pre ++ po,q.1≠i:=fun q hq=>by
    rcases aHs.1 hq with hq | hq
    ·have:=hw3 q hq (i,o) (aI4 ..)
     dsimp only at this
     omega
    ·have:=hw2a q hq
     dsimp only at this
     omega
   have hUn:∀ {e:Ow} {wr rd:List Nat},(∀ j,e.l j≠none->j∈wr\/(nb + 8 * i<=j/\j < nb + 8 * i + 8))->(∀ j,j∈wr->j∈rd)->(∀ j,j∈rd->σ.U j=true)->∀ j,nb'<=j->(σ.app o.dst e).U j=false:=fun {e wr rd} hk hs hu j hj=>by
    cases hc:(σ.app o.dst e).U j with
    | false=>rfl
    | true=>
     rcases xF hc with h1 | h1
     ·rw [B j hj] at h1; cases h1
     ·rcases hk j h1 with h2 | h2
      ·exact absurd (hu j (hs j h2)) (by rw [B j hj]; simp)
      ·have:i < L.length:=by simpa using hlt
       omega
   unfold wpOpIn
   rw [ho]
   simp only []
   obtain⟨ρ,ha'⟩:=ha
   rcases aHt w0 pre [] σ hpre hc with ⟨rd,wr,e,k1,-,k3⟩ | ⟨rd,wr,E,k1,-,-,k3⟩
   ·have:=k1.sound ha' hfi hdi.1 (wpAnyIn (FW cx.rr) nn P .any L.toArray (Sa cx Q) n (s.setIfInBounds i true)) (Sa cx Q) fun a' w' h'=>ih _ _ _ a' w' hlen hL' k3 (hfn.next k1.key.1 (fun j hj=>k1.used ha' j (k1.key.2 j hj)) hne) (hUn k1.key.1 k1.key.2 (k1.used ha')) h'
    split
    ·rename_i hw
     rw [if_pos hw] at this
     exact mH hdi.2 this
    ·rename_i hw
     rw [if_neg hw] at this
     exact⟨fun _ _=>trivial,this⟩
   ·have:=k1.sound ha' hfi hdi.1 (wpAnyIn (FW cx.rr) nn P .any L.toArray (Sa cx Q) n (s.setIfInBounds i true)) (Sa cx Q) fun e a' w' he h'=>ih _ _ _ a' w' hlen hL' (k3 e he) (hfn.next (k1.key.1 e he) (fun j hj=>k1.used ha' j (k1.key.2 j hj)) hne) (hUn (k1.key.1 e he) k1.key.2 (k1.used ha')) h'
    split
    ·rename_i hw
     rw [if_pos hw] at this
     exact mH hdi.2 this
    ·rename_i hw
     rw [if_neg hw] at this
     exact⟨fun _ _=>trivial,this⟩
theorem Bg (S:Sys P cx) {Q:Exit->St->Prop} {id:Nat} {l:List Oper} {σ:St} (hm:P.follows .mixedOrders=true) (r:List Nat) (nb nb':Nat) (B:∀ k,nb<=k->σ.U k=false) (hn:Nat.ble (nb + 8 * l.length) nb'=true) (hd:nE cx.N l=true) (hB:tH l r=true)
  (h:Chain S l.toArray (some r) nb (idx 0 l) [] σ (fun σ'=>(∀ j,nb'<=j->σ'.U j=false)->Q .normal σ')):M1 P cx (.region id l.toArray true) Q σ:=by
 intro nn a w ha
 have hn':nb + 8 * l.length<=nb':=aEi hn
 refine wpIn_region_any hm ?_
 obtain⟨ρ,h1⟩:=ha
 have ha':Mx cx σ a { w with drawn:=w.drawn + 1 }:=⟨ρ,h1.defers,h1.size,h1.kept,fun t d hd=>C3.step (w:=w) (w':={ w with drawn:=w.drawn + 1 }) (I':=Nc cx σ ρ { w with drawn:=w.drawn + 1 }) (fun b hb=>⟨hb,rfl⟩) d _ (fun _ _=>rfl) (h1.fr t d hd),fun k lb hl=>(h1.lo k lb hl).step (w':={ w with drawn:=w.drawn + 1 }) (I':=Nc cx σ ρ { w with drawn:=w.drawn + 1 }) (fun b hb=>⟨hb,rfl⟩) (fun _ _=>rfl) (fun _ _=>rfl),h1.sep,h1.usedF,h1.usedL,h1.pin,h1.fresh⟩
 have:=aEx (nn:=nn) w (Q:=Q) hB hd hn' l.toArray.size (idx 0 l) (Array.replicate l.toArray.size false) σ a _ (by rw [eJ]; simp) ⟨by simp,aCy l 0,fun q hq=>?_,fun i o ho _=>?_,fun j o ho hs=>?_⟩ h (fun q hq j hj=>B _ (by omega)) (fun j hj=>B j (by omega)) ha'
 ·exact this
 ·have h2:=V7 hq
  have h3:q.1 < l.length:=by have:=h2.2.1; omega
  refine⟨by simpa using h2.2.2,?_⟩
  simp [h3]
 ·have:=Z1 (k:=0) (by simpa using ho:l[i]?=some o)
  simpa using this
 ·have hlt:j < l.length:=by simpa using (aJi.1 ho).1
  simp [hlt] at hs
end
end Go.Proofs.YtobamahlipiakaaGreat
