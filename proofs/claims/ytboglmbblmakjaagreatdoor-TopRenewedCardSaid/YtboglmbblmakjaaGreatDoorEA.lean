import Derived.LoopN
import Derived.Test.YtboglmbblmakjaaGreatDoorMem
import Derived.Test.YtboglmbblmakjaaGreatDoorGT
import Derived.Orders
import Derived.Tactics
import Derived.TacticsIn
import Derived.OrdersIn
import Derived.LoopNIn
set_option linter.unusedVariables false
set_option linter.unusedSimpArgs false
namespace Go.Proofs.YtboglmbblmakjaaGreatDoor
open Go.RowKit
inductive DV where
 | val (v:Value)
 | sl (sz:Nat) (cs:List C)
 | slc (sz:Nat) (cs:List C)
 | row (k:Nat)
 | part (k off n:Nat)
 | ptr (k i:Nat)
 | elt (cs:List C)
 | agg (ds:List DV)
 | tup (ds:List DV)
 | clo (f:FuncId) (n:Nat) (ds:List DV)
 | mp (l:List (Value×Value))
 | imm (c:C)
inductive LB where
 | box (ds:List DV) (ty:TypeId)
 | row (e:TypeId) (sz:Nat) (cs:List C)
 | map (l:List (Value×Value))
 | mit (k n:Nat) (seen:List Nat)
 | vec (ds:List DV) (e:TypeId)
 | lop (ts:List Nat) (ds:List DV) (N:Nat) (rc:Loop)
def Dg:Value->Option Nat
 | .slice (some a) _ (_ + 1)=>some a.block
 | .pointer (some a)=>some a.block
 | .map (some g)=>some g
 | _=>none
theorem Ks {a:Addr} {n c g:Nat} (h:Dg (.slice (some a) n c)=some g):a.block=g/\0 < c:=by
 cases c with
 | zero=>cases h
 | succ c=>injection h with h; exact⟨h,Nat.succ_pos c⟩
theorem Pt {a:Addr} {n c:Nat} (h:0 < c):Dg (.slice (some a) n c)=some a.block:=by
 cases c with
 | zero=>cases h
 | succ c=>rfl
def _root_.Go.World.rowOk (w:World) (e:TypeId) (sz:Nat) (v:Value) (n:Nat) (us:List Value):Prop:=
 us.length=n * sz/\((∃ A,v=.slice A 0 0/\n=0)\/∃ g cap cur,v=.slice (some ⟨g,0,none⟩) n cap/\0 < cap/\w.heap[g]?=some (.cells cur e (0,0))/\n<=cap/\cap<=maxLen/\cur.size=cap * sz/\cur.toList.take (n * sz)=us)
theorem _root_.Go.World.rowOk_of {w:World} {base e sz n:Nat} {v:Value} {us:List Value} (h:w.ownsRow base e sz v n us):w.rowOk e sz v n us:=by
 refine⟨h.1,?_⟩
 rcases h.2 with ⟨rfl,rfl⟩ | ⟨g,cap,cur,rfl,-,h2,h3,h4⟩
 ·exact .inl ⟨none,rfl,rfl⟩
 ·rcases aLg cap with h0 | h0
  ·subst h0
   have:n=0:=by omega
   subst this
   exact .inl ⟨_,rfl,rfl⟩
  ·exact .inr ⟨g,cap,cur,rfl,h0,h2,h3,h4⟩
theorem _root_.Go.World.rowOk_nil (w:World) (e sz:Nat) (A:Option Addr):w.rowOk e sz (.slice A 0 0) 0 []:=⟨by simp,.inl ⟨A,rfl,rfl⟩⟩
mutual
def men:DV->Nat->Prop
 | .row k,j=>j=k
 | .part k _ _,j=>j=k
 | .ptr k _,j=>j=k
 | .agg ds,j=>G9 ds j
 | .tup ds,j=>G9 ds j
 | .clo _ _ ds,j=>G9 ds j
 | .val _,_=>False
 | .sl _ _,_=>False
 | .slc _ _,_=>False
 | .mp _,_=>False
 | .imm _,_=>False
 | .elt _,_=>False
def G9:List DV->Nat->Prop
 | [],_=>False
 | d :: ds,j=>men d j\/G9 ds j
end
def Wt:LB->Nat->Prop
 | .box ds _,j=>G9 ds j
 | .row ..,_=>False
 | .map _,_=>False
 | .mit k _ _,j=>j=k
 | .vec ds _,j=>G9 ds j
 | .lop _ ds _ _,j=>G9 ds j
section
variable (ρ:Nat->Value) (I:Nat->Prop) (w:World)
mutual
def Dk:DV->Value->Prop
 | .val x,v=>v=x/\G6 x=true
 | .sl sz cs,v=>Ga w I (.sl sz cs) v
 | .slc sz cs,v=>Ga w I (.sl sz cs) v/\∃ A n,v=.slice A n n/\cs.length=n * sz
 | .mp l,v=>Ga w I (.mp l) v
 | .imm c,v=>Ga w I c v
 | .row k,v=>v=ρ k/\(ρ k).oneCell'=true
 | .part k off n,v=>∃ A c,v=.slice A n c/\n<=c/\c<=maxLen/\(0 < n->∃ g,Dg (ρ k)=some g/\A=some ⟨g,off,none⟩)/\(off=0->∀ A' N c',ρ k=.slice A' N c'->A=A'/\c=c')
 | .ptr k i,v=>∃ g,Dg (ρ k)=some g/\v=.pointer (some ⟨g,i,none⟩)
 | .elt cs,v=>∃ ad,v=.pointer (some ad)/\I ad.block/\Jq w I ad 0 cs
 | .agg ds,v=>∃ vs,v=.agg vs.toArray/\(∀ u∈vs,u.oneCell'=true)/\Cj ds vs
 | .tup ds,v=>∃ vs,v=.tuple vs.toArray/\Cj ds vs
 | .clo f n ds,v=>∃ vs,v=.func (.func f) (vs.take n).toArray (vs.drop n).toArray/\Cj ds vs
def Cj:List DV->List Value->Prop
 | [],vs=>vs=[]
 | d :: ds,vs=>∃ u us,vs=u :: us/\Dk d u/\Cj ds us
end
end
section
variable {ρ ρ':Nat->Value} {I I':Nat->Prop} {w w':World}
mutual
theorem Dk.step (hI:∀ b,I b->I' b/\w'.heap[b]?=w.heap[b]?):∀ (d:DV) (v:Value),(∀ k,men d k->ρ' k=ρ k)->Dk ρ I w d v->Dk ρ' I' w' d v
 | .val _,_,_,h=>by unfold Dk at *; exact h
 | .sl _ _,v,_,h=>by
  unfold Dk at *
  exact Ga.keep_ (fun b hb=>(hI b hb).2) (fun b hb=>(hI b hb).1) _ _ h
 | .mp _,v,_,h=>by
  unfold Dk at *
  exact Ga.keep_ (fun b hb=>(hI b hb).2) (fun b hb=>(hI b hb).1) _ _ h
 | .imm _,v,_,h=>by
  unfold Dk at *
  exact Ga.keep_ (fun b hb=>(hI b hb).2) (fun b hb=>(hI b hb).1) _ _ h
 | .slc _ _,v,_,h=>by
  unfold Dk at *
  exact⟨Ga.keep_ (fun b hb=>(hI b hb).2) (fun b hb=>(hI b hb).1) _ _ h.1,h.2⟩
 | .row k,_,hm,h=>by
  unfold Dk at *
  rw [hm k (by unfold men; rfl)]
  exact h
 | .part k _ _,_,hm,h=>by
  unfold Dk at *
  obtain⟨A,c,h1,h2,h3,h4,h5⟩:=h
  rw [hm k (by unfold men; rfl)]
  exact⟨A,c,h1,h2,h3,h4,h5⟩
 | .ptr k _,_,hm,h=>by
  unfold Dk at *
  rw [hm k (by unfold men; rfl)]
  exact h
 | .elt _,_,_,h=>by
  unfold Dk at *
  obtain⟨ad,h1,h2,h3⟩:=h
  exact⟨ad,h1,(hI _ h2).1,Jq.keep_ (fun b hb=>(hI b hb).2) (fun b hb=>(hI b hb).1) ad h2 _ 0 h3⟩
 | .agg ds,_,hm,h=>by
  unfold Dk at *
  obtain⟨vs,h1,h2,h3⟩:=h
  exact⟨vs,h1,h2,Cj.step hI ds vs (fun k hk=>hm k (by unfold men; exact hk)) h3⟩
 | .tup ds,_,hm,h=>by
  unfold Dk at *
  obtain⟨vs,h1,h3⟩:=h
  exact⟨vs,h1,Cj.step hI ds vs (fun k hk=>hm k (by unfold men; exact hk)) h3⟩
 | .clo _ _ ds,_,hm,h=>by
  unfold Dk at *
  obtain⟨vs,h1,h3⟩:=h
  exact⟨vs,h1,Cj.step hI ds vs (fun k hk=>hm k (by unfold men; exact hk)) h3⟩
theorem Cj.step (hI:∀ b,I b->I' b/\w'.heap[b]?=w.heap[b]?):∀ (ds:List DV) (vs:List Value),(∀ k,G9 ds k->ρ' k=ρ k)->Cj ρ I w ds vs->Cj ρ' I' w' ds vs
 | [],_,_,h=>by unfold Cj at *; exact h
 | d :: ds,_,hm,h=>by
  unfold Cj at *
  obtain⟨u,us,h1,h2,h3⟩:=h
  exact⟨u,us,h1,Dk.step hI d u (fun k hk=>hm k (by unfold G9; exact .inl hk)) h2,Cj.step hI ds us (fun k hk=>hm k (by unfold G9; exact .inr hk)) h3⟩
end
end
theorem Cj.length {ρ:Nat->Value} {I:Nat->Prop} {w:World}:∀ {ds:List DV} {vs:List Value},Cj ρ I w ds vs->ds.length=vs.length
 | [],vs,h=>by unfold Cj at h; rw [h]; rfl
 | d :: ds,vs,h=>by
  unfold Cj at h
  obtain⟨u,us,rfl,-,h3⟩:=h
  simp [Cj.length h3]
theorem Cj.at_ {ρ:Nat->Value} {I:Nat->Prop} {w:World}:∀ {ds:List DV} {vs:List Value} (_:Cj ρ I w ds vs) {i:Nat} {d:DV} (_:ds[i]?=some d),∃ v,vs[i]?=some v/\Dk ρ I w d v
 | [],vs,h,i,d,hd=>by simp at hd
 | d :: ds,vs,h,0,d',hd=>by
  unfold Cj at h
  obtain⟨u,us,rfl,h2,h3⟩:=h
  simp at hd
  subst hd
  exact⟨u,rfl,h2⟩
 | d :: ds,vs,h,i + 1,d',hd=>by
  unfold Cj at h
  obtain⟨u,us,rfl,h2,h3⟩:=h
  have:=Cj.at_ h3 (i:=i) (d:=d') (by simpa using hd)
  simpa using this
structure St where
 F:Nat->Option DV
 L:Nat->Option LB
 U:Nat->Bool
structure Cx where
 w0:World
 I:Nat->Prop
 ρ0:Nat->Value
 np:Nat
 nq:Nat
 N:Nat
 rr:Option Nat
def uK (I:Nat->Prop) (w:World):Prop:=∀ p∈aA8,Dk (fun _=>undef) I w (.elt p.2) (.pointer (some ⟨p.1,0,none⟩))
def Cx.M (cx:Cx) (b:Nat):Prop:=∃ k,k < cx.nq/\Dg (cx.ρ0 k)=some b
def Cx.G (cx:Cx) (b:Nat):Prop:=∃ k,cx.np<=k/\k < cx.nq/\Dg (cx.ρ0 k)=some b
def Cx.Kept (cx:Cx) (w:World):Prop:=
 w.os=cx.w0.os/\w.tape=cx.w0.tape/\w.output=cx.w0.output/\cx.w0.heap.size<=w.heap.size/\∀ b,b < cx.w0.heap.size->¬ cx.M b->w.heap[b]?=cx.w0.heap[b]?
def Loc (σ:St) (ρ:Nat->Value) (b:Nat):Prop:=∃ k lb,σ.L k=some lb/\Dg (ρ k)=some b
def O1 (cx:Cx) (σ:St) (ρ:Nat->Value) (w:World) (b:Nat):Prop:=b < w.heap.size/\¬ Loc σ ρ b/\(b < cx.w0.heap.size->cx.I b\/cx.G b)
def U2 (cx:Cx) (ρ:Nat->Value) (I:Nat->Prop) (w:World) (v:Value):LB->Prop
 | .box ds ty=>∃ b vs,v=.pointer (some ⟨b,0,none⟩)/\w.heap[b]?=some (.cells vs.toArray ty)/\(cx.w0.heap.size<=b\/cx.M b)/\(∀ u∈vs,u.oneCell'=true)/\Cj ρ I w ds vs
 | .row e sz cs=>∃ n us,w.rowOk e sz v n us/\(∀ b,Dg v=some b->cx.w0.heap.size<=b\/cx.M b)/\I1 w I cs us
 | .map l=>∃ g,v=.map (some g)/\Za w g l/\(cx.w0.heap.size<=g\/cx.M g)
 | .mit k n seen=>∃ b g,v=.pointer (some ⟨b,0,none⟩)/\ρ k=.map (some g)/\w.heap[b]?=some (.mapIter (some g) n seen.toArray n)/\(cx.w0.heap.size<=b\/cx.M b)
 | .vec ds e=>∃ b vs,v=.slice (some ⟨b,0,none⟩) vs.length vs.length/\(0 < vs.length/\vs.length<=maxLen)/\w.heap[b]?=some (.cells vs.toArray e)/\(cx.w0.heap.size<=b\/cx.M b)/\(∀ u∈vs,u.oneCell'=true)/\Cj ρ I w ds vs
 | .lop ts ds N rc=>∃ b tm,v=.pointer (some ⟨b,0,none⟩)/\w.heap[b]?=some (.loop { rc with tmps:=tm })/\(cx.w0.heap.size<=b\/cx.M b)/\tm.size=N/\Cj ρ I w ds (ts.map fun t=>tm.getD t undef)
theorem U2.blk {cx:Cx} {ρ:Nat->Value} {I:Nat->Prop} {w:World} {v:Value} {lb:LB} (h:U2 cx ρ I w v lb) {b:Nat} (hb:Dg v=some b):b < w.heap.size/\(cx.w0.heap.size<=b\/cx.M b):=by
 cases lb with
 | box ds ty=>
  obtain⟨b',vs,rfl,h2,h3,-⟩:=h
  simp [Dg] at hb
  subst hb
  exact⟨(aF8.1 h2).1,h3⟩
 | row e sz cs=>
  obtain⟨n,us,ho,hM,-⟩:=h
  have hM:=hM b hb
  rcases ho.2 with ⟨A,rfl,-⟩ | ⟨g,cap,cur,rfl,h1,h2,-⟩
  ·cases A <;> cases hb
  ·obtain⟨rfl,-⟩:=Ks hb
   exact⟨(aF8.1 h2).1,hM⟩
 | map l=>
  obtain⟨g,rfl,⟨es,h2,-⟩,h3⟩:=h
  injection hb with hb
  subst hb
  exact⟨(aF8.1 h2).1,h3⟩
 | mit k n seen=>
  obtain⟨b',g,rfl,-,h2,h3⟩:=h
  injection hb with hb
  subst hb
  exact⟨(aF8.1 h2).1,h3⟩
 | vec ds e=>
  obtain⟨b',vs,rfl,-,h2,h3,-⟩:=h
  obtain⟨rfl,-⟩:=Ks hb
  exact⟨(aF8.1 h2).1,h3⟩
 | lop ts ds N rc=>
  obtain⟨b',tm,rfl,h2,h3,-⟩:=h
  injection hb with hb
  subst hb
  exact⟨(aF8.1 h2).1,h3⟩
theorem U2.step {cx:Cx} {ρ ρ':Nat->Value} {I I':Nat->Prop} {w w':World} {v:Value} {lb:LB} (h:U2 cx ρ I w v lb) (hI:∀ b,I b->I' b/\w'.heap[b]?=w.heap[b]?) (hρ:∀ k,Wt lb k->ρ' k=ρ k)
  (hb:∀ b,Dg v=some b->w'.heap[b]?=w.heap[b]?):U2 cx ρ' I' w' v lb:=by
 cases lb with
 | box ds ty=>
  obtain⟨b',vs,rfl,h2,h3,h4,h5⟩:=h
  exact⟨b',vs,rfl,(hb b' rfl).trans h2,h3,h4,Cj.step hI ds vs hρ h5⟩
 | row e sz cs=>
  obtain⟨n,us,ho,hM,hr⟩:=h
  refine⟨n,us,⟨ho.1,?_⟩,hM,hr.keep_ (fun b hb=>(hI b hb).2) fun b hb=>(hI b hb).1⟩
  rcases ho.2 with h1 | ⟨g,cap,cur,rfl,h1,h2,h3⟩
  ·exact .inl h1
  ·exact .inr ⟨g,cap,cur,rfl,h1,(hb g (Pt h1)).trans h2,h3⟩
 | map l=>
  obtain⟨g,rfl,h2,h3⟩:=h
  exact⟨g,rfl,h2.keep (hb g rfl),h3⟩
 | mit k n seen=>
  obtain⟨b',g,rfl,h1,h2,h3⟩:=h
  exact⟨b',g,rfl,(hρ k rfl).trans h1,(hb b' rfl).trans h2,h3⟩
 | vec ds e=>
  obtain⟨b',vs,rfl,h1,h2,h3,h4,h5⟩:=h
  exact⟨b',vs,rfl,h1,(hb b' (Pt h1.1)).trans h2,h3,h4,Cj.step hI ds vs hρ h5⟩
 | lop ts ds N rc=>
  obtain⟨b',tm,rfl,h2,h3,h4,h5⟩:=h
  exact⟨b',tm,rfl,(hb b' rfl).trans h2,h3,h4,Cj.step hI ds _ hρ h5⟩
structure Fg (cx:Cx) (ρ:Nat->Value) (σ:St) (a:Act) (w:World):Prop where
 defers:(a.defers.Pairwise (·≠·))/\∀ d∈a.defers,∃ D,d={ target:=.collected D,args:=#[] }/\O1 cx σ ρ w D/\cx.w0.heap.size<=D/\w.heap[D]?=some (.deferred (some []))
 size:a.tmps.size=cx.N
 kept:cx.Kept w
 fr:∀ t d,σ.F t=some d->Dk ρ (O1 cx σ ρ w) w d (a.tmps.getD t undef)
 lo:∀ k lb,σ.L k=some lb->U2 cx ρ (O1 cx σ ρ w) w (ρ k) lb
 sep:∀ k k' lb lb' b,σ.L k=some lb->σ.L k'=some lb'->Dg (ρ k)=some b->Dg (ρ k')=some b->k=k'
 usedF:∀ t d k,σ.F t=some d->men d k->σ.U k=true
 usedL:∀ k lb,σ.L k=some lb->σ.U k=true/\∀ k',Wt lb k'->σ.U k'=true
 pin:∀ k,k < cx.np->ρ k=cx.ρ0 k/\σ.U k=true
 fresh:∀ k lb b,σ.L k=some lb->cx.np<=k->Dg (ρ k)=some b->cx.w0.heap.size<=b\/cx.G b
 glo:uK cx.I cx.w0/\∀ b,cx.I b->b < cx.w0.heap.size/\¬ cx.M b
theorem Fg.globs {cx:Cx} {ρ:Nat->Value} {σ:St} {a:Act} {w:World} (h:Fg cx ρ σ a w):uK (O1 cx σ ρ w) w:=fun p hp=>
 Dk.step (fun b hb=>by
  obtain⟨h1,h2⟩:=h.glo.2 b hb
  obtain⟨-,-,-,k4,k5⟩:=h.kept
  exact⟨⟨aUp h1 k4,fun ⟨k,lb,q1,q2⟩=>((h.lo k lb q1).blk q2).2.elim (fun q=>by omega) h2,fun _=>.inl hb⟩,k5 b h1 h2⟩) _ _ (fun k hk=>by unfold men at hk; exact hk.elim) (h.glo.1 p hp)
def O8 (cx:Cx) (σ:St) (a:Act) (w:World):Prop:=∃ ρ,Fg cx ρ σ a w
structure Q6 where
 d:Option DV
 l:Nat->Option (Option LB)
def upd {α:Type} (f:Nat->Option α) (t:Nat) (x:Option α):Nat->Option α:=fun s=>bif Nat.beq s t then x else f s
def St.app (σ:St) (dst:Option Tmp) (e:Q6):St where
 F:=match dst with | some t=>upd σ.F t e.d | none=>σ.F
 L:=fun k=>match e.l k with | some x=>x | none=>σ.L k
 U:=fun k=>σ.U k || (e.l k).isSome
theorem dI {α:Type} (f:Nat->Option α) (t:Nat) (x:Option α):upd f t x t=x:=by simp [upd]
theorem S8 {α:Type} (f:Nat->Option α) {t s:Nat} (x:Option α) (h:s≠t):upd f t x s=f s:=by
 unfold upd
 cases hb:Nat.beq s t with
 | false=>rfl
 | true=>exact absurd (aFs hb) h
section
variable {cx:Cx} {ρ ρ':Nat->Value} {σ:St} {a:Act} {w w':World}
theorem Fg.app (h:Fg cx ρ σ a w) {dst:Option Tmp} {e:Q6} {v:Value} (hk:cx.Kept w') (hsz:w.heap.size<=w'.heap.size) (hdst:∀ t,dst=some t->t < cx.N)
  (hρ:∀ k,σ.U k=true->ρ' k=ρ k)
  (hheap:∀ b,b < w.heap.size->(∀ k lb,e.l k≠none->σ.L k=some lb->Dg (ρ k)≠some b)->w'.heap[b]?=w.heap[b]?)
  (hblk:∀ k lb b,e.l k=some (some lb)->Dg (ρ' k)=some b->w.heap.size<=b\/∃ k' lb',e.l k'≠none/\σ.L k'=some lb'/\Dg (ρ k')=some b)
  (hsep:∀ k k' lb lb' b,e.l k=some (some lb)->e.l k'=some (some lb')->Dg (ρ' k)=some b->Dg (ρ' k')=some b->k=k')
  (hnew:(∀ b,O1 cx σ ρ w b->O1 cx (σ.app dst e) ρ' w' b/\w'.heap[b]?=w.heap[b]?)->(∀ b,w.heap.size<=b->b < w'.heap.size->(∀ k lb,e.l k=some (some lb)->Dg (ρ' k)≠some b)->O1 cx (σ.app dst e) ρ' w' b)->
   (∀ k lb,e.l k=some (some lb)->U2 cx ρ' (O1 cx (σ.app dst e) ρ' w') w' (ρ' k) lb)/\∀ d,e.d=some d->Dk ρ' (O1 cx (σ.app dst e) ρ' w') w' d v)
  (hu:(∀ k lb k',e.l k=some (some lb)->Wt lb k'->σ.U k'=true\/e.l k'≠none)/\∀ d k',e.d=some d->men d k'->σ.U k'=true\/e.l k'≠none)
  (hfr:∀ k lb b,e.l k=some (some lb)->cx.np<=k->Dg (ρ' k)=some b->cx.w0.heap.size<=b\/cx.G b) :
  Fg cx ρ' (σ.app dst e) (a.put dst v) w':=by
 have hLs:∀ k,e.l k=none->(σ.app dst e).L k=σ.L k:=fun k hk=>by simp [St.app,hk]
 have hLn:∀ k x,e.l k=some x->(σ.app dst e).L k=x:=fun k x hk=>by simp [St.app,hk]
 have B:∀ k,σ.U k=true\/e.l k≠none->(σ.app dst e).U k=true:=fun k hk=>by
  simp only [St.app,aT1,Option.isSome_iff_ne_none]; exact hk
 have hloc:∀ b,b < w.heap.size->Loc (σ.app dst e) ρ' b->Loc σ ρ b:=by
  rintro b hb ⟨k,lb,h1,h2⟩
  cases hek:e.l k with
  | none=>
   rw [hLs k hek] at h1
   exact⟨k,lb,h1,by rw [<- hρ k (h.usedL k lb h1).1]; exact h2⟩
  | some x=>
   rw [hLn k x hek] at h1
   subst h1
   rcases hblk k lb b hek h2 with h3 | ⟨k',lb',h3,h4,h5⟩
   ·omega
   ·exact⟨k',lb',h4,h5⟩
 have hI:∀ b,O1 cx σ ρ w b->O1 cx (σ.app dst e) ρ' w' b/\w'.heap[b]?=w.heap[b]?:=fun b hb=>
  ⟨⟨aUp hb.1 hsz,fun hl=>hb.2.1 (hloc b hb.1 hl),hb.2.2⟩,hheap b hb.1 fun k lb _ h2 h3=>hb.2.1 ⟨k,lb,h2,h3⟩⟩
 have hI2:∀ b,w.heap.size<=b->b < w'.heap.size->(∀ k lb,e.l k=some (some lb)->Dg (ρ' k)≠some b)->O1 cx (σ.app dst e) ρ' w' b:=by
  rintro b h1 h2 h3
  refine⟨h2,?_,fun hlt=>by have:=h.kept.2.2.2.1; omega⟩
  rintro⟨k,lb,h4,h5⟩
  cases hek:e.l k with
  | none=>
   rw [hLs k hek] at h4
   rw [hρ k (h.usedL k lb h4).1] at h5
   have:=((h.lo k lb h4).blk h5).1
   omega
  | some x=>
   rw [hLn k x hek] at h4
   subst h4
   exact h3 k lb hek h5
 obtain⟨hn1,hn2⟩:=hnew hI hI2
 refine⟨?_,?_,hk,?_,?_,?_,?_,?_,fun k hk'=>⟨(hρ k (h.pin k hk').2).trans (h.pin k hk').1,B k (.inl (h.pin k hk').2)⟩,fun k lb b h1 h2 h3=>?_,h.glo⟩
 ·refine⟨by cases dst <;> exact h.defers.1,fun d hd=>?_⟩
  obtain⟨D,h1,h2,h4,h3⟩:=h.defers.2 d (by cases dst <;> exact hd)
  exact⟨D,h1,(hI D h2).1,h4,(hI D h2).2.trans h3⟩
 ·cases dst with
  | none=>exact h.size
  | some t=>simpa [Act.put] using h.size
 ·intro t d hd
  have old:σ.F t=some d->Dk ρ' (O1 cx (σ.app dst e) ρ' w') w' d (a.tmps.getD t undef):=fun hd=>Dk.step hI d _ (fun k hk=>hρ k (h.usedF t d k hd hk)) (h.fr t d hd)
  cases dst with
  | none=>exact old hd
  | some t'=>
   by_cases ht:t=t'
   ·subst ht
    have hd':e.d=some d:=by simpa [St.app,upd] using hd
    have:=hdst t rfl
    have e1:(a.put (some t) v).tmps.getD t undef=v:=by
     have h0:t < a.tmps.size:=by rw [h.size]; exact this
     simp [Act.put,h0]
    rw [e1]
    exact hn2 d hd'
   ·have hd':σ.F t=some d:=by have:=hd; simp only [St.app] at this; rwa [S8 _ _ ht] at this
    have e1:(a.put (some t') v).tmps.getD t undef=a.tmps.getD t undef:=by
     simp [Act.put,aTm,Ne.symm ht]
    rw [e1]
    exact old hd'
 ·intro k lb hl
  cases hek:e.l k with
  | none=>
   rw [hLs k hek] at hl
   have hu:=h.usedL k lb hl
   rw [hρ k hu.1]
   refine (h.lo k lb hl).step hI (fun k' hk'=>hρ k' (hu.2 k' hk')) fun b hb=>hheap b ((h.lo k lb hl).blk hb).1 fun k' lb' h1 h2 h3=>?_
   have:=h.sep k' k lb' lb b h2 hl h3 hb
   subst this
   exact h1 hek
  | some x=>
   rw [hLn k x hek] at hl
   subst hl
   exact hn1 k lb hek
 ·intro k k' lb lb' b h1 h2 h3 h4
  cases hek:e.l k with
  | none=>
   rw [hLs k hek] at h1
   rw [hρ k (h.usedL k lb h1).1] at h3
   cases hek':e.l k' with
   | none=>
    rw [hLs k' hek'] at h2
    rw [hρ k' (h.usedL k' lb' h2).1] at h4
    exact h.sep k k' lb lb' b h1 h2 h3 h4
   | some x=>
    rw [hLn k' x hek'] at h2
    subst h2
    exfalso
    rcases hblk k' lb' b hek' h4 with h5 | ⟨k2,lb2,h5,h6,h7⟩
    ·have:=((h.lo k lb h1).blk h3).1
     omega
    ·have:=h.sep k k2 lb lb2 b h1 h6 h3 h7
     subst this
     exact h5 hek
  | some x=>
   rw [hLn k x hek] at h1
   subst h1
   cases hek':e.l k' with
   | none=>
    rw [hLs k' hek'] at h2
    rw [hρ k' (h.usedL k' lb' h2).1] at h4
    exfalso
    rcases hblk k lb b hek h3 with h5 | ⟨k2,lb2,h5,h6,h7⟩
    ·have:=((h.lo k' lb' h2).blk h4).1
     omega
    ·have:=h.sep k' k2 lb' lb2 b h2 h6 h4 h7
     subst this
     exact h5 hek'
   | some y=>
    rw [hLn k' y hek'] at h2
    subst h2
    exact hsep k k' lb lb' b hek hek' h3 h4
 ·intro t d k hd hm
  have old:σ.F t=some d->(σ.app dst e).U k=true:=fun hd=>B k (.inl (h.usedF t d k hd hm))
  cases dst with
  | none=>exact old hd
  | some t'=>
   by_cases ht:t=t'
   ·subst ht
    have hd':e.d=some d:=by simpa [St.app,upd] using hd
    exact B k (hu.2 d k hd' hm)
   ·exact old (by have:=hd; simp only [St.app] at this; rwa [S8 _ _ ht] at this)
 ·intro k lb hl
  cases hek:e.l k with
  | none=>
   rw [hLs k hek] at hl
   exact⟨B k (.inl (h.usedL k lb hl).1),fun k' hk'=>B k' (.inl ((h.usedL k lb hl).2 k' hk'))⟩
  | some x=>
   rw [hLn k x hek] at hl
   subst hl
   exact⟨B k (.inr (by rw [hek]; simp)),fun k' hk'=>B k' (hu.1 k lb k' hek hk')⟩
 ·cases hek:e.l k with
  | none=>
   rw [hLs k hek] at h1
   rw [hρ k (h.usedL k lb h1).1] at h3
   exact h.fresh k lb b h1 h2 h3
  | some x=>
   rw [hLn k x hek] at h1
   subst h1
   exact hfr k lb b hek h2 h3
def qN (d:Option DV):Q6:=⟨d,fun _=>none⟩
theorem Fg.put0 (h:Fg cx ρ σ a w) {dst:Option Tmp} {d:Option DV} {v:Value} (hdst:∀ t,dst=some t->t < cx.N)
  (hd:∀ x,d=some x->Dk ρ (O1 cx σ ρ w) w x v) (hu:∀ x k,d=some x->men x k->σ.U k=true):Fg cx ρ (σ.app dst (qN d)) (a.put dst v) w:=by
 refine h.app h.kept (aKp _) hdst (fun _ _=>rfl) (fun _ _ _=>rfl) (fun k lb b h1=>by simp [Go.Proofs.YtboglmbblmakjaaGreatDoor.qN] at h1) (fun k k' lb lb' b h1=>by simp [Go.Proofs.YtboglmbblmakjaaGreatDoor.qN] at h1) (fun hI _=>⟨fun k lb h1=>by simp [Go.Proofs.YtboglmbblmakjaaGreatDoor.qN] at h1,fun x hx=>?_⟩) ⟨fun k lb k' h1=>by simp [Go.Proofs.YtboglmbblmakjaaGreatDoor.qN] at h1,fun x k hx hm=>.inl (hu x k hx hm)⟩ (fun k lb b h1=>by simp [Go.Proofs.YtboglmbblmakjaaGreatDoor.qN] at h1)
 exact Dk.step hI x v (fun _ _=>rfl) (hd x hx)
end
end Go.Proofs.YtboglmbblmakjaaGreatDoor
namespace Go.Proofs.YtboglmbblmakjaaGreatDoor
open Go.RowKit
theorem sL {p:Nat->Prop} (h:∃ n,p n):∃ n,p n/\∀ m,p m->n<=m:=by
 obtain⟨n,hn⟩:=h
 induction n using Nat.strongRecOn with
 | _ n ih=>
  by_cases hm:∃ m,m < n/\p m
  ·obtain⟨m,h1,h2⟩:=hm
   exact ih m h1 h2
  ·exact⟨n,hn,fun m hpm=>Nat.le_of_not_lt fun hlt=>hm ⟨m,hlt,hpm⟩⟩
open Classical in
noncomputable def least (p:Nat->Prop):Nat:=if h:∃ n,p n then Classical.choose (sL h) else 0
theorem jW {p:Nat->Prop} (h:∃ n,p n):p (least p)/\∀ m,p m->least p<=m:=by
 unfold least
 rw [dif_pos h]
 exact aU2 (sL h)
def Rs (cx:Cx) (σ σ':St):Prop:=∀ a w,O8 cx σ a w->O8 cx σ' a w
theorem Rs.refl (cx:Cx) (σ:St):Rs cx σ σ:=fun _ _ h=>h
theorem Rs.trans {cx:Cx} {a b c:St} (h:Rs cx a b) (k:Rs cx b c):Rs cx a c:=fun _ _ x=>k _ _ (h _ _ x)
def Uk (cx:Cx) (Q:Exit->St->Prop):Exit->Act->World->Prop:=fun e a w=>∃ σ,Q e σ/\O8 cx σ a w
def FW (r:Option Nat):Fence:={ Fence.wide with round:=r }
theorem Zy {r:Option Nat} {n:Nat} {P:Program} {f:FuncId} {args:Array Value} {w:World} {R:Ending->World->Prop}:CallsIn (FW r) n P f args w R↔Calls P f args w R:=callsIn_wide (n:=n)
theorem zL {r:Option Nat} {n:Nat} {P:Program} {row:String} {args:Array Value} {w:World} {R:Value->World->Prop} (h:Rows P row args w R):RowsIn (FW r) n P row args w R:=
 fun c cs _=>let ⟨v,w',q,s⟩:=h c cs; ⟨v,w',q,stepsIn_wide.2 s⟩
def aO7:Op->Bool
 | .defer _=>false
 | _=>true
theorem mM {P:Program} {r:Option Nat} {n:Nat} {o:Oper} {a:Act} {w:World} {K:Act->World->Prop} {Q:Exit->Act->World->Prop} (hd:aO7 o.op=true) (h:o.wp P a w K Q):o.wpIn (FW r) n P a w K Q:=by
 unfold Oper.wpIn
 refine⟨fun _ _=>trivial,?_⟩
 have e:o.semAt (FW r).round a.eval=execOp a.eval o:=by
  cases r with
  | none=>rfl
  | some l=>exact Oper.semAt_some l _ _ fun c hc=>by rw [hc] at hd; cases hd
 rw [e]
 unfold Oper.wp at h
 revert h
 generalize (execOp a.eval o).run P w=x
 intro h
 cases x with
 | ok y w'=>
  cases y with
  | enter f args=>exact⟨fun hs=>by simp [FW,Fence.wide] at hs,Zy.2 h⟩
  | row row args=>exact⟨fun hs=>by simp [FW,Fence.wide] at hs,zL h⟩
  | value v=>exact h
  | skip=>exact h
  | defer d=>exact h
  | _=>exact h.elim
 | halt y w'=>
  cases y with
  | panic v=>exact h
  | _=>exact h.elim
def Kb (P:Program) (cx:Cx) (c:Code) (Q:Exit->St->Prop) (σ:St):Prop:=∀ n a w,O8 cx σ a w->c.wpIn (FW cx.rr) n P (Uk cx Q) a w
def thn (next:St->Prop) (Q:Exit->St->Prop):Exit->St->Prop
 | .normal,σ=>next σ
 | .exit i,σ=>Q (.exit i) σ
 | .goto i,σ=>Q (.goto i) σ
 | .ret,σ=>Q .ret σ
 | .panic c,σ=>Q (.panic c) σ
 | .outgrown,σ=>Q .outgrown σ
def inB (id:Nat) (Q:Exit->St->Prop):Exit->St->Prop
 | .normal,σ=>Q .normal σ
 | .exit i,σ=>if i=id then Q .normal σ else Q (.exit i) σ
 | .goto i,σ=>Q (.goto i) σ
 | .ret,σ=>Q .ret σ
 | .panic c,σ=>Q (.panic c) σ
 | .outgrown,σ=>Q .outgrown σ
section
variable {P:Program} {cx:Cx} {Q:Exit->St->Prop} {σ σ':St} {x y:Code}
theorem Gs (h:Rs cx σ σ') (hx:Kb P cx x Q σ'):Kb P cx x Q σ:=fun n a w ha=>hx n a w (h a w ha)
theorem Ar (hx:Kb P cx x (thn (Kb P cx y Q) Q) σ):Kb P cx (.seq x y) Q σ:=by
 intro n a w ha
 refine wpIn_seq (Code.wpIn_mono ?_ (hx n a w ha))
 rintro e a' w' ⟨σ',q,h'⟩
 cases e with
 | normal=>exact q n a' w' h'
 | _=>exact⟨σ',q,h'⟩
theorem Vg {t:Nat} {b:Bool} (hc:σ.F t=some (.val (.bool b))) (h1:b=true->Kb P cx x Q σ) (h2:b=false->Kb P cx y Q σ):Kb P cx (.cond (.tmp t) x y) Q σ:=by
 intro n a w ha
 obtain⟨ρ,h⟩:=ha
 have hb:=h.fr t _ hc
 unfold Dk at hb
 exact wpIn_cond_split (t:=b) hb.1 (fun e=>h1 e n a w ⟨ρ,h⟩) (fun e=>h2 e n a w ⟨ρ,h⟩)
theorem aAk {b:Bool} (h1:b=true->Kb P cx x Q σ) (h2:b=false->Kb P cx y Q σ):Kb P cx (.cond (.const (.bool b)) x y) Q σ:=by
 intro n a w ha
 exact wpIn_cond_split (t:=b) rfl (fun e=>h1 e n a w ha) (fun e=>h2 e n a w ha)
theorem Da {id:Nat} (h:Kb P cx x (inB id Q) σ):Kb P cx (.block id x) Q σ:=by
 intro n a w ha
 refine wpIn_block (Code.wpIn_mono ?_ (h n a w ha))
 rintro e a' w' ⟨σ',q,h'⟩
 cases e with
 | exit i=>
  simp only [inB] at q
  simp only [Exit.inBlock]
  split
  ·rename_i hi
   rw [if_pos hi] at q
   exact⟨σ',q,h'⟩
  ·rename_i hi
   rw [if_neg hi] at q
   exact⟨σ',q,h'⟩
 | _=>exact⟨σ',q,h'⟩
theorem aDr {id:Nat} (h:Q (.exit id) σ):Kb P cx (.exit id) Q σ:=fun _ _ _ ha=>wpIn_exit ⟨σ,h,ha⟩
theorem aP (h:Q .ret σ):Kb P cx .ret Q σ:=fun _ _ _ ha=>wpIn_ret ⟨σ,h,ha⟩
theorem aBx (h:Q .normal σ):Kb P cx .skip Q σ:=fun _ _ _ ha=>wpIn_skip ⟨σ,h,ha⟩
theorem aBl {Q':Exit->St->Prop} (hq:∀ e σ,Q e σ->Q' e σ) (h:Kb P cx x Q σ):Kb P cx x Q' σ:=fun n a w ha=>
 Code.wpIn_mono (fun _ _ _ ⟨σ',q,h'⟩=>⟨σ',hq _ _ q,h'⟩) (h n a w ha)
theorem sX {ι:Type} (inv:ι->St) (ok:ι->Prop) (μ:ι->Nat) (i0:ι) (h0:Rs cx σ (inv i0)) (hi0:ok i0)
  (round:∀ i,ok i->Kb P cx x (thn (fun σ'=>∃ j,μ j < μ i/\ok j/\Rs cx σ' (inv j)) Q) (inv i)):Kb P cx (.loop x) Q σ:=by
 intro n a w ha
 refine wpIn_loop (fun a w=>∃ i,ok i/\O8 cx (inv i) a w) (fun a w=>least fun n=>∃ i,μ i=n/\ok i/\O8 cx (inv i) a w) ⟨i0,hi0,h0 a w ha⟩ ?_
 rintro a w ⟨i,hi,hA⟩
 have hs:=jW (p:=fun n=>∃ i,μ i=n/\ok i/\O8 cx (inv i) a w) ⟨μ i,i,rfl,hi,hA⟩
 obtain⟨⟨i',h1,h2,h3⟩,-⟩:=hs
 refine Code.wpIn_mono ?_ (round i' h2 n a w h3)
 rintro e a' w' ⟨σ',q,h'⟩
 cases e with
 | normal=>
  obtain⟨j,q1,q2,q3⟩:=q
  refine⟨⟨j,q2,q3 a' w' h'⟩,?_⟩
  have:=(jW (p:=fun n=>∃ i,μ i=n/\ok i/\O8 cx (inv i) a' w') ⟨μ j,j,rfl,q2,q3 a' w' h'⟩).2 (μ j) ⟨j,rfl,q2,q3 a' w' h'⟩
  show _ < _
  omega
 | _=>exact⟨σ',q,h'⟩
end
def G1 {α:Type}:List (Nat×α)->Nat->Option α
 | [],_=>none
 | (k,x) :: l,s=>bif Nat.beq s k then some x else G1 l s
def mk (fl:List (Nat×DV)) (ll:List (Nat×LB)) (n:Nat):St:=⟨G1 fl,G1 ll,fun k=>Nat.blt k n⟩
inductive kZ:Option Nat->DV->C->Prop
 | int {s k n}:kZ s (.val (.int k n)) (.int k n)
 | bool {s b}:kZ s (.val (.bool b)) (.bool b)
 | str {s x}:kZ s (.val (.string x)) (.str x)
 | sl {s sz cs}:kZ s (.sl sz cs) (.sl sz cs)
 | mp {s l}:kZ s (.mp l) (.mp l)
 | imm {s c}:kZ s (.imm c) c
 | ref {s f cs}:kZ s (.clo f 0 [.elt cs]) (.ref f cs)
 | nil {sz}:kZ (some sz) (.val (.slice none 0 0)) (.sl sz [])
 | ptr {s a}:kZ s (.val (.pointer a)) (.raw (.pointer a))
 | func {s f a b}:kZ s (.val (.func f a b)) (.raw (.func f a b))
 | nilI {s}:kZ s (.val .nilIface) (.raw .nilIface)
inductive Mr:List (Option Nat)->List DV->List C->Prop
 | nil {ks}:Mr ks [] []
 | cons {k ks d c ds cs} (h:kZ k d c) (hs:Mr ks ds cs):Mr (k :: ks) (d :: ds) (c :: cs)
section
variable {ρ:Nat->Value} {w:World}
theorem kZ.rd {I:Nat->Prop} {k:Option Nat} {d:DV} {c:C} {v:Value} (h:kZ k d c) (hr:Dk ρ I w d v):Ga w I c v:=by
 cases h with
 | int=>unfold Dk at hr; unfold Ga; exact⟨hr.1,M7.1 hr.2⟩
 | bool=>unfold Dk at hr; unfold Ga; exact hr.1
 | str=>unfold Dk at hr; unfold Ga; exact⟨hr.1,Rq.1 hr.2⟩
 | sl=>unfold Dk at hr; exact hr
 | mp=>unfold Dk at hr; exact hr
 | imm=>unfold Dk at hr; exact hr
 | ref=>
  unfold Dk at hr
  obtain⟨vs,rfl,hr⟩:=hr
  unfold Cj at hr
  obtain⟨u,us,rfl,h1,h2⟩:=hr
  unfold Cj at h2
  subst h2
  unfold Dk at h1
  obtain⟨ad,rfl,h3,h4⟩:=h1
  unfold Ga
  exact⟨ad,rfl,h3,h4⟩
 | nil=>unfold Dk at hr; rw [hr.1]; exact Ga.nil_ _
 | ptr=>unfold Dk at hr; unfold Ga; exact⟨hr.1,rfl,rfl⟩
 | func=>unfold Dk at hr; unfold Ga; exact⟨hr.1,rfl,rfl⟩
 | nilI=>unfold Dk at hr; unfold Ga; exact⟨hr.1,rfl,rfl⟩
theorem Mr.rd {I:Nat->Prop}:∀ {ks:List (Option Nat)} {ds:List DV} {cs:List C} {vs:List Value} (_:Mr ks ds cs) (_:Cj ρ I w ds vs),I1 w I cs vs
 | _,_,_,vs,.nil,hr=>by
  unfold Cj at hr
  subst hr
  exact⟨rfl,fun j c u h _=>by simp at h⟩
 | _,_,_,vs,.cons h hs,hr=>by
  unfold Cj at hr
  obtain⟨u,us,rfl,h1,h2⟩:=hr
  have:=Mr.rd hs h2
  refine⟨by simpa using this.1,fun j c u' a b=>?_⟩
  cases j with
  | zero=>simp at a b; subst a b; exact h.rd h1
  | succ j=>exact this.2 j c u' (by simpa using a) (by simpa using b)
end
mutual
inductive Cv (σ:St) (θ:Nat->Option Nat):DV->DV->Prop
 | val (v:Value):Cv σ θ (.val v) (.val v)
 | sl (sz:Nat) (cs:List C):Cv σ θ (.sl sz cs) (.sl sz cs)
 | slc (sz:Nat) (cs:List C):Cv σ θ (.slc sz cs) (.sl sz cs)
 | slcc (sz:Nat) (cs:List C):Cv σ θ (.slc sz cs) (.slc sz cs)
 | mp (l:List (Value×Value)):Cv σ θ (.mp l) (.mp l)
 | imm (c:C):Cv σ θ (.imm c) (.imm c)
 | nilI:Cv σ θ (.val .nilIface) (.imm (.raw .nilIface))
 | frzM {j:Nat} {l:List (Value×Value)} (h:σ.L j=some (.map l)) (h':∀ k,θ k≠some j):Cv σ θ (.row j) (.mp l)
 | elt (cs:List C):Cv σ θ (.elt cs) (.elt cs)
 | row {j k:Nat} (h:θ k=some j):Cv σ θ (.row j) (.row k)
 | part {j k off n:Nat} (h:θ k=some j):Cv σ θ (.part j off n) (.part k off n)
 | ptr {j k i:Nat} (h:θ k=some j):Cv σ θ (.ptr j i) (.ptr k i)
 | nil {k:Nat} (h:θ k=none):Cv σ θ (.val (.slice none 0 0)) (.row k)
 | nils (sz:Nat):Cv σ θ (.val (.slice none 0 0)) (.sl sz [])
 | agg {ds ds':List DV} (h:U5 σ θ ds ds'):Cv σ θ (.agg ds) (.agg ds')
 | tup {ds ds':List DV} (h:U5 σ θ ds ds'):Cv σ θ (.tup ds) (.tup ds')
 | clo (f:FuncId) (n:Nat) {ds ds':List DV} (h:U5 σ θ ds ds'):Cv σ θ (.clo f n ds) (.clo f n ds')
 | frz {j:Nat} {e sz cs} (h:σ.L j=some (.row e sz cs)) (h':∀ k,θ k≠some j):Cv σ θ (.row j) (.sl sz cs)
 | frzb {j i:Nat} {ds:List DV} {ty:TypeId} {ks:List (Option Nat)} {cs:List C} (h:σ.L j=some (.box ds ty)) (hc:Mr ks ds cs) (h':∀ k,θ k≠some j):Cv σ θ (.ptr j i) (.elt (cs.drop i))
inductive U5 (σ:St) (θ:Nat->Option Nat):List DV->List DV->Prop
 | nil:U5 σ θ [] []
 | cons {d d' ds ds'} (h:Cv σ θ d d') (hs:U5 σ θ ds ds'):U5 σ θ (d :: ds) (d' :: ds')
end
def CvB (σ:St) (θ:Nat->Option Nat):LB->LB->Prop
 | .box ds ty,.box ds' ty'=>ty=ty'/\U5 σ θ ds ds'
 | .row e sz cs,.row e' sz' cs'=>e=e'/\sz=sz'/\cs=cs'
 | .map l,.map l'=>l=l'
 | .mit k n s,.mit k' n' s'=>θ k'=some k/\n=n'/\s=s'
 | .vec ds e,.vec ds' e'=>e=e'/\U5 σ θ ds ds'
 | .lop ts ds N rc,.lop ts' ds' N' rc'=>(ts=ts'/\N=N'/\rc=rc')/\U5 σ θ ds ds'
 | _,_=>False
def bN (θ:Nat->Option Nat) (ρ:Nat->Value) (k:Nat):Value:=match θ k with | some j=>ρ j | none=>.slice none 0 0
theorem pI.cells {w:World} {e sz n:Nat} {v:Value} {us:List Value} {I:Nat->Prop} {cs:List C} (ho:w.rowOk e sz v n us) (hr:I1 w I cs us) {J:Nat->Prop} (hI:∀ b,I b->J b) (hb:∀ b,Dg v=some b->J b):Ga w J (.sl sz cs) v:=by
 have hl:cs.length=n * sz:=by rw [hr.1,ho.1]
 rcases ho.2 with ⟨A,rfl,rfl⟩ | ⟨g,cap,cur,rfl,h1,G,hn,hm,hs,ht⟩
 ·exact Ga.mk_slice hl (aKp _) (aLi _) fun h=>absurd h (Nat.lt_irrefl 0)
 ·refine Ga.mk_slice hl hn hm fun _=>⟨⟨g,0,none⟩,rfl,hb g (Pt h1),fun j c hj=>?_⟩
  have hjl:j < us.length:=by rw [<- hr.1]; exact (aBe.1 hj).1
  have hu:us[j]?=some us[j]:=aBb hjl
  refine⟨us[j],?_,(hr.2 j c _ hj hu).mono hI⟩
  have key:∀ u,us[j]?=some u->w.cell? ⟨g,j,none⟩=some u:=by
   intro u hu
   rw [<- ht,aK0] at hu
   split at hu
   ·simpa [World.cell?,G] using hu
   ·cases hu
  have e1:=key _ hu
  unfold Addr.add
  split
  ·rename_i h0; subst h0; exact e1
  ·simpa using e1
theorem wX {w:World} {e sz n:Nat} {v:Value} {us:List Value} {I:Nat->Prop} {cs:List C} (ho:w.rowOk e sz v n us) (hr:I1 w I cs us) {J:Nat->Prop} (hI:∀ b,I b->J b) (hb:∀ b,Dg v=some b->J b)
  {off m c:Nat} {A:Option Addr} (hm:off + m * sz<=cs.length) (hmc:m<=c) (hc:c<=maxLen) (hA:0 < m->∃ g,Dg v=some g/\A=some ⟨g,off,none⟩):Ga w J (.sl sz ((cs.drop off).take (m * sz))) (.slice A m c):=by
 refine Ga.mk_slice (by rw [aHg,aKq]; omega) hmc hc fun h0=>?_
 obtain⟨g,G,rfl⟩:=hA h0
 refine⟨_,rfl,hb g G,fun j x hj=>?_⟩
 have hj':cs[off + j]?=some x:=by
  rw [aK0] at hj
  split at hj
  ·rwa [aLf] at hj
  ·cases hj
 have hjl:off + j < us.length:=by rw [<- hr.1]; exact (aBe.1 hj').1
 have hu:us[off + j]?=some us[off + j]:=aBb hjl
 refine⟨us[off + j],?_,(hr.2 _ x _ hj' hu).mono hI⟩
 rcases ho.2 with ⟨A,rfl,-⟩ | ⟨g',cap,cur,rfl,h1,hg',hn,hm,hs,ht⟩
 ·cases A <;> cases G
 ·obtain⟨G,-⟩:=Ks G
  dsimp only at G
  subst G
  have key:∀ u,us[off + j]?=some u->w.cell? ⟨g',off + j,none⟩=some u:=by
   intro u hu
   rw [<- ht,aK0] at hu
   split at hu
   ·simpa [World.cell?,hg'] using hu
   ·cases hu
  have e1:=key _ hu
  unfold Addr.add
  split
  ·rename_i h0; subst h0; simpa using e1
  ·exact e1
section
variable {cx:Cx} {ρ:Nat->Value} {σ:St} {a:Act} {w:World} {θ:Nat->Option Nat} {I':Nat->Prop}
mutual
theorem Cv.rep (h:Fg cx ρ σ a w) (hI:∀ b,O1 cx σ ρ w b->I' b) (hfz:∀ j lb b,σ.L j=some lb->(∀ k,θ k≠some j)->Dg (ρ j)=some b->I' b):∀ {d d':DV} (_:Cv σ θ d d') (v:Value),Dk ρ (O1 cx σ ρ w) w d v->Dk (bN θ ρ) I' w d' v
 | _,_,.val _,_,hr=>by unfold Dk at *; exact hr
 | _,_,.sl _ _,v,hr=>by unfold Dk at *; exact Ga.mono hr hI
 | _,_,.slc _ _,v,hr=>by unfold Dk at *; exact Ga.mono hr.1 hI
 | _,_,.slcc _ _,v,hr=>by unfold Dk at *; exact⟨Ga.mono hr.1 hI,hr.2⟩
 | _,_,.mp _,v,hr=>by unfold Dk at *; exact Ga.mono hr hI
 | _,_,.imm _,v,hr=>by unfold Dk at *; exact Ga.mono hr hI
 | _,_,.nilI,v,hr=>by unfold Dk at *; unfold Ga; exact⟨hr.1,rfl,rfl⟩
 | _,_,.frzM hL h',v,hr=>by
  unfold Dk at *
  rw [hr.1]
  obtain⟨g,q1,q2,-⟩:=h.lo _ _ hL
  unfold Ga
  exact⟨g,q1,hfz _ _ g hL h' (by rw [q1]; rfl),q2⟩
 | _,_,.elt _,v,hr=>by
  unfold Dk at *
  obtain⟨ad,h1,h2,h3⟩:=hr
  exact⟨ad,h1,hI _ h2,Jq.keep_ (fun _ _=>rfl) hI ad h2 _ 0 h3⟩
 | _,_,.row hk,v,hr=>by unfold Dk at *; simpa [bN,hk] using hr
 | _,_,.part hk,v,hr=>by
  unfold Dk at *
  obtain⟨A,c,h1,h2,h3,h4,h5⟩:=hr
  exact⟨A,c,h1,h2,h3,fun hn=>by simpa [bN,hk] using h4 hn,fun h0 A' N c' hv=>h5 h0 A' N c' (by simpa [bN,hk] using hv)⟩
 | _,_,.ptr hk,v,hr=>by
  unfold Dk at *
  simpa [bN,hk] using hr
 | _,_,.nil hk,v,hr=>by unfold Dk at *; rw [hr.1]; simp [bN,hk,Value.oneCell']
 | _,_,.nils sz,v,hr=>by unfold Dk at *; rw [hr.1]; exact Ga.nil_ sz
 | _,_,.agg hs,v,hr=>by
  unfold Dk at *
  obtain⟨vs,h1,h2,h3⟩:=hr
  exact⟨vs,h1,h2,U5.rep h hI hfz hs vs h3⟩
 | _,_,.tup hs,v,hr=>by
  unfold Dk at *
  obtain⟨vs,h1,h3⟩:=hr
  exact⟨vs,h1,U5.rep h hI hfz hs vs h3⟩
 | _,_,.clo _ _ hs,v,hr=>by
  unfold Dk at *
  obtain⟨vs,h1,h3⟩:=hr
  exact⟨vs,h1,U5.rep h hI hfz hs vs h3⟩
 | _,_,.frz hL h',v,hr=>by
  unfold Dk at *
  rw [hr.1]
  obtain⟨n,us,ho,-,hu⟩:=h.lo _ _ hL
  exact pI.cells ho hu hI fun b hb=>hfz _ _ b hL h' hb
 | _,_,.frzb (j:=j) (i:=i) hL hc h',v,hr=>by
  unfold Dk at *
  obtain⟨g,G,rfl⟩:=hr
  obtain⟨b,vs,q1,q2,-,q4,q5⟩:=h.lo _ _ hL
  rw [q1] at G
  injection G with G
  subst G
  have hu:=Mr.rd hc q5
  have hu':=hu.keep_ (fun _ _=>rfl) hI
  refine⟨_,rfl,hfz _ _ b hL h' (by rw [q1]; rfl),Jq.of_at _ 0 fun k c hk=>?_⟩
  rw [aLf] at hk
  have hlt:i + k < vs.length:=by rw [<- hu.1]; exact (aBe.1 hk).1
  refine⟨vs[i + k],?_,hu'.2 _ c _ hk (aBb hlt)⟩
  have ha:(⟨b,i,none⟩:Addr).add (0 + k)=⟨b,i + k,none⟩:=by
   rw [aNm]
   unfold Addr.add
   split
   ·rename_i h0; subst h0; rfl
   ·rfl
  rw [ha]
  simp [World.cell?,q2,hlt]
theorem U5.rep (h:Fg cx ρ σ a w) (hI:∀ b,O1 cx σ ρ w b->I' b) (hfz:∀ j lb b,σ.L j=some lb->(∀ k,θ k≠some j)->Dg (ρ j)=some b->I' b):∀ {ds ds':List DV} (_:U5 σ θ ds ds') (vs:List Value),Cj ρ (O1 cx σ ρ w) w ds vs->Cj (bN θ ρ) I' w ds' vs
 | _,_,.nil,_,hr=>by unfold Cj at *; exact hr
 | _,_,.cons hd hs,vs,hr=>by
  unfold Cj at *
  obtain⟨u,us,h1,h2,h3⟩:=hr
  exact⟨u,us,h1,Cv.rep h hI hfz hd u h2,U5.rep h hI hfz hs us h3⟩
end
end
theorem Fg.ren {cx:Cx} {σ σ':St} {ρ:Nat->Value} {a:Act} {w:World} (h:Fg cx ρ σ a w) (θ:Nat->Option Nat) (hF:∀ t d',σ'.F t=some d'->∃ d,σ.F t=some d/\Cv σ θ d d')
  (hL:∀ k lb',σ'.L k=some lb'->(∃ j lb,θ k=some j/\σ.L j=some lb/\CvB σ θ lb lb')\/(θ k=none/\∃ e sz,lb'=.row e sz []))
  (hinj:∀ k k' j,θ k=some j->θ k'=some j->k=k')
  (hpin:∀ k,k < cx.np->θ k=some k/\σ'.U k=true) (hUF:∀ t d k,σ'.F t=some d->men d k->σ'.U k=true) (hUL:∀ k lb,σ'.L k=some lb->σ'.U k=true/\∀ k',Wt lb k'->σ'.U k'=true) :
  Fg cx (Go.Proofs.YtboglmbblmakjaaGreatDoor.bN θ ρ) σ' a w/\∀ d d' v,Cv σ θ d d'->Dk ρ (O1 cx σ ρ w) w d v->Dk (Go.Proofs.YtboglmbblmakjaaGreatDoor.bN θ ρ) (O1 cx σ' (Go.Proofs.YtboglmbblmakjaaGreatDoor.bN θ ρ) w) w d' v:=by
 have hloc:∀ b,Loc σ' (Go.Proofs.YtboglmbblmakjaaGreatDoor.bN θ ρ) b->∃ k j lb,θ k=some j/\σ.L j=some lb/\Dg (ρ j)=some b:=by
  rintro b ⟨k,lb',h1,h2⟩
  rcases hL k lb' h1 with ⟨j,lb,h3,h4,-⟩ | ⟨h3,-⟩
  ·exact⟨k,j,lb,h3,h4,by simpa [Go.Proofs.YtboglmbblmakjaaGreatDoor.bN,h3] using h2⟩
  ·simp [Go.Proofs.YtboglmbblmakjaaGreatDoor.bN,h3,Dg] at h2
 have hI:∀ b,O1 cx σ ρ w b->O1 cx σ' (Go.Proofs.YtboglmbblmakjaaGreatDoor.bN θ ρ) w b:=fun b hb=>⟨hb.1,fun hl=>by
  obtain⟨k,j,lb,-,h2,h3⟩:=hloc b hl
  exact hb.2.1 ⟨j,lb,h2,h3⟩,hb.2.2⟩
 have hfz:∀ j lb b,σ.L j=some lb->(∀ k,θ k≠some j)->Dg (ρ j)=some b->O1 cx σ' (Go.Proofs.YtboglmbblmakjaaGreatDoor.bN θ ρ) w b:=fun j lb b h1 h2 h3=>⟨((h.lo j _ h1).blk h3).1,fun hl=>by
  obtain⟨k,j',lb',h4,h5,h6⟩:=hloc b hl
  have:=h.sep j j' _ lb' b h1 h5 h3 h6
  subst this
  exact h2 k h4,fun hlt=>by
  rcases aU5 j cx.np with hj | hj
  ·exact (h2 j (hpin j hj).1).elim
  ·rcases h.fresh j _ b h1 hj h3 with h4 | h4
   ·omega
   ·exact .inr h4⟩
 refine⟨⟨⟨h.defers.1,fun d hd=>(h.defers.2 d hd).imp fun D q=>⟨q.1,hI D q.2.1,q.2.2⟩⟩,h.size,h.kept,?_,?_,?_,hUF,hUL,fun k hk=>⟨by rw [<- (h.pin k hk).1]; simp [Go.Proofs.YtboglmbblmakjaaGreatDoor.bN,(hpin k hk).1],(hpin k hk).2⟩,?_,h.glo⟩,fun d d' v hc hr=>hc.rep h hI hfz v hr⟩
 ·intro t d' hd'
  obtain⟨d,h1,h2⟩:=hF t d' hd'
  exact h2.rep h hI hfz _ (h.fr t d h1)
 ·intro k lb' hl
  rcases hL k lb' hl with ⟨j,lb,h1,h2,h3⟩ | ⟨h1,e,sz,rfl⟩
  ·have hlo:=h.lo j lb h2
   have e1:Go.Proofs.YtboglmbblmakjaaGreatDoor.bN θ ρ k=ρ j:=by simp [Go.Proofs.YtboglmbblmakjaaGreatDoor.bN,h1]
   rw [e1]
   cases lb with
   | map l=>
    cases lb' with
    | map l'=>
     have h3:l=l':=h3
     subst h3
     exact hlo
    | _=>exact h3.elim
   | vec ds e=>
    cases lb' with
    | vec ds' e'=>
     obtain⟨rfl,h5⟩:=h3
     obtain⟨b,vs,q1,q2,q3,q4,q5,q6⟩:=hlo
     exact⟨b,vs,q1,q2,q3,q4,q5,h5.rep h hI hfz vs q6⟩
    | _=>exact h3.elim
   | mit k1 n s=>
    cases lb' with
    | mit k2 n' s'=>
     obtain⟨h3,rfl,rfl⟩:=h3
     obtain⟨b,g,q1,q2,q3⟩:=hlo
     exact⟨b,g,q1,by simpa [Go.Proofs.YtboglmbblmakjaaGreatDoor.bN,h3] using q2,q3⟩
    | _=>exact h3.elim
   | lop ts ds N rc=>
    cases lb' with
    | lop ts' ds' N' rc'=>
     obtain⟨⟨rfl,rfl,rfl⟩,h5⟩:=h3
     obtain⟨b,tm,q1,q2,q3,q4,q5⟩:=hlo
     exact⟨b,tm,q1,q2,q3,q4,h5.rep h hI hfz _ q5⟩
    | _=>exact h3.elim
   | box ds ty=>
    cases lb' with
    | row e sz cs=>exact h3.elim
    | map l=>exact h3.elim
    | mit k n s=>exact h3.elim
    | vec ds e=>exact h3.elim
    | lop=>exact h3.elim
    | box ds' ty'=>
     obtain⟨rfl,h5⟩:=h3
     obtain⟨b,vs,q1,q2,q3,q4,q5⟩:=hlo
     exact⟨b,vs,q1,q2,q3,q4,h5.rep h hI hfz vs q5⟩
   | row e sz cs=>
    cases lb' with
    | box ds' ty'=>exact h3.elim
    | map l=>exact h3.elim
    | mit k n s=>exact h3.elim
    | vec ds e=>exact h3.elim
    | lop=>exact h3.elim
    | row e' sz' cs'=>
     obtain⟨rfl,rfl,rfl⟩:=h3
     obtain⟨n,us,q1,q2,q3⟩:=hlo
     exact⟨n,us,q1,q2,q3.keep_ (fun _ _=>rfl) hI⟩
  ·refine⟨0,[],?_,?_,rfl,fun _ _ _ h _=>by simp at h⟩
   ·simp only [Go.Proofs.YtboglmbblmakjaaGreatDoor.bN,h1]
    exact World.rowOk_nil _ _ _ _
   ·intro b hb
    simp [Go.Proofs.YtboglmbblmakjaaGreatDoor.bN,h1,Dg] at hb
 ·intro k k' lb lb' b h1 h2 h3 h4
  rcases hL k lb h1 with ⟨j,lb1,q1,q2,-⟩ | ⟨q1,-⟩
  ·rcases hL k' lb' h2 with ⟨j',lb2,q3,q4,-⟩ | ⟨q3,-⟩
   ·simp only [Go.Proofs.YtboglmbblmakjaaGreatDoor.bN,q1] at h3
    simp only [Go.Proofs.YtboglmbblmakjaaGreatDoor.bN,q3] at h4
    have:=h.sep j j' lb1 lb2 b q2 q4 h3 h4
    subst this
    exact hinj k k' j q1 q3
   ·simp [Go.Proofs.YtboglmbblmakjaaGreatDoor.bN,q3,Dg] at h4
  ·simp [Go.Proofs.YtboglmbblmakjaaGreatDoor.bN,q1,Dg] at h3
 ·intro k lb b h1 h2 h3
  rcases hL k lb h1 with ⟨j,lb1,q1,q2,-⟩ | ⟨q1,-⟩
  ·simp only [Go.Proofs.YtboglmbblmakjaaGreatDoor.bN,q1] at h3
   refine h.fresh j lb1 b q2 ?_ h3
   rcases aU5 j cx.np with hj | hj
   ·have:=hinj k j j q1 (hpin j hj).1
    omega
   ·exact hj
  ·simp [Go.Proofs.YtboglmbblmakjaaGreatDoor.bN,q1,Dg] at h3
theorem Rs.of {cx:Cx} {σ σ':St} (θ:Nat->Option Nat) (hF:∀ t d',σ'.F t=some d'->∃ d,σ.F t=some d/\Cv σ θ d d')
  (hL:∀ k lb',σ'.L k=some lb'->(∃ j lb,θ k=some j/\σ.L j=some lb/\CvB σ θ lb lb')\/(θ k=none/\∃ e sz,lb'=.row e sz []))
  (hinj:∀ k k' j,θ k=some j->θ k'=some j->k=k')
  (hpin:∀ k,k < cx.np->θ k=some k/\σ'.U k=true) (hUF:∀ t d k,σ'.F t=some d->men d k->σ'.U k=true) (hUL:∀ k lb,σ'.L k=some lb->σ'.U k=true/\∀ k',Wt lb k'->σ'.U k'=true):Rs cx σ σ':=by
 rintro a w ⟨ρ,h⟩
 exact⟨_,(h.ren θ hF hL hinj hpin hUF hUL).1⟩
mutual
def ltD (n:Nat):DV->Bool
 | .row k=>Nat.blt k n
 | .part k _ _=>Nat.blt k n
 | .ptr k _=>Nat.blt k n
 | .agg ds=>Xz n ds
 | .tup ds=>Xz n ds
 | .clo _ _ ds=>Xz n ds
 | .val _=>true
 | .sl _ _=>true
 | .slc _ _=>true
 | .mp _=>true
 | .imm _=>true
 | .elt _=>true
def Xz (n:Nat):List DV->Bool
 | []=>true
 | d :: ds=>ltD n d && Xz n ds
end
def ltB (n:Nat):LB->Bool
 | .box ds _=>Xz n ds
 | .row ..=>true
 | .map _=>true
 | .mit k _ _=>Nat.blt k n
 | .vec ds _=>Xz n ds
 | .lop _ ds _ _=>Xz n ds
mutual
theorem nO {n:Nat}:∀ {d:DV},ltD n d=true->∀ k,men d k->Nat.blt k n=true
 | .row _,h,k,hk=>by unfold ltD at h; unfold men at hk; rw [hk]; exact h
 | .part _ _ _,h,k,hk=>by unfold ltD at h; unfold men at hk; rw [hk]; exact h
 | .ptr _ _,h,k,hk=>by unfold ltD at h; unfold men at hk; rw [hk]; exact h
 | .agg ds,h,k,hk=>by unfold ltD at h; unfold men at hk; exact O3 h k hk
 | .tup ds,h,k,hk=>by unfold ltD at h; unfold men at hk; exact O3 h k hk
 | .clo _ _ ds,h,k,hk=>by unfold ltD at h; unfold men at hk; exact O3 h k hk
 | .val _,_,k,hk=>by unfold men at hk; exact hk.elim
 | .sl _ _,_,k,hk=>by unfold men at hk; exact hk.elim
 | .slc _ _,_,k,hk=>by unfold men at hk; exact hk.elim
 | .mp _,_,k,hk=>by unfold men at hk; exact hk.elim
 | .imm _,_,k,hk=>by unfold men at hk; exact hk.elim
 | .elt _,_,k,hk=>by unfold men at hk; exact hk.elim
theorem O3 {n:Nat}:∀ {ds:List DV},Xz n ds=true->∀ k,G9 ds k->Nat.blt k n=true
 | [],_,k,hk=>by unfold G9 at hk; exact hk.elim
 | d :: ds,h,k,hk=>by
  unfold Xz at h
  unfold G9 at hk
  rw [aF5] at h
  rcases hk with hk | hk
  ·exact nO h.1 k hk
  ·exact O3 h.2 k hk
end
theorem gS {n:Nat} {lb:LB} (h:ltB n lb=true):∀ k,Wt lb k->Nat.blt k n=true:=by
 cases lb with
 | box ds ty=>exact O3 h
 | row e sz cs=>intro k hk; exact hk.elim
 | map l=>intro k hk; exact hk.elim
 | mit k' n' s=>intro k hk; have hk:k=k':=hk; subst hk; exact h
 | vec ds e=>exact O3 h
 | lop ts ds N rc=>exact O3 h
def ndB:List Nat->Bool
 | []=>true
 | x :: l=>(l.all fun y=>!Nat.beq x y) && ndB l
theorem Jn {α:Type}:∀ {l:List (Nat×α)} {k:Nat} {x:α},G1 l k=some x->(k,x)∈l
 | [],_,_,h=>by simp [G1] at h
 | (k',x') :: l,k,x,h=>by
  unfold G1 at h
  cases hb:Nat.beq k k' with
  | true=>
   rw [hb] at h
   have:=aFs hb
   subst this
   simp at h
   subst h
   exact aKw ..
  | false=>
   rw [hb] at h
   exact aIz _ (Jn h)
theorem vE:∀ {l:List (Nat×Nat)},ndB (l.map (·.2))=true->∀ {k k' j:Nat},(k,j)∈l->(k',j)∈l->k=k'
 | [],_,_,_,_,h,_=>by simp at h
 | (k0,j0) :: l,hn,k,k',j,h1,h2=>by
  simp only [aUl,ndB,aF5,aGo] at hn
  rcases aF6.1 h1 with e1 | e1
  ·rcases aF6.1 h2 with e2 | e2
   ·injection e1 with a1 b1; injection e2 with a2 b2; rw [a1,a2]
   ·injection e1 with a1 b1
    subst b1
    have:=hn.1 j (aP8.2 ⟨_,e2,rfl⟩)
    simp at this
  ·rcases aF6.1 h2 with e2 | e2
   ·injection e2 with a1 b1
    subst b1
    have:=hn.1 j (aP8.2 ⟨_,e1,rfl⟩)
    simp at this
   ·exact vE hn.2 e1 e2
def aJo (σ:St) (θ:Nat->Option Nat):List (Nat×DV)->Prop
 | []=>True
 | q :: l=>(∃ d,σ.F q.1=some d/\Cv σ θ d q.2)/\aJo σ θ l
def oN (σ:St) (θ:Nat->Option Nat):List (Nat×LB)->Prop
 | []=>True
 | q :: l=>((∃ j lb,θ q.1=some j/\σ.L j=some lb/\CvB σ θ lb q.2)\/(θ q.1=none/\∃ e sz,q.2=.row e sz []))/\oN σ θ l
theorem sD {σ:St} {θ:Nat->Option Nat}:∀ {l:List (Nat×DV)},aJo σ θ l->∀ q∈l,∃ d,σ.F q.1=some d/\Cv σ θ d q.2
 | [],_,q,hq=>by simp at hq
 | q0 :: l,h,q,hq=>by
  rcases aF6.1 hq with rfl | hq
  ·exact h.1
  ·exact sD h.2 q hq
theorem kC {σ:St} {θ:Nat->Option Nat}:∀ {l:List (Nat×LB)},oN σ θ l->∀ q∈l,(∃ j lb,θ q.1=some j/\σ.L j=some lb/\CvB σ θ lb q.2)\/(θ q.1=none/\∃ e sz,q.2=.row e sz [])
 | [],_,q,hq=>by simp at hq
 | q0 :: l,h,q,hq=>by
  rcases aF6.1 hq with rfl | hq
  ·exact h.1
  ·exact kC h.2 q hq
def lJ (θ:List (Nat×Nat)) (n:Nat):Nat->Bool
 | 0=>true
 | k + 1=>lJ θ n k && Nat.blt k n && (match G1 θ k with | some j=>Nat.beq j k | none=>false)
theorem dY {θ:List (Nat×Nat)} {n:Nat}:∀ {m:Nat},lJ θ n m=true->∀ k,k < m->G1 θ k=some k/\Nat.blt k n=true
 | 0,_,k,hk=>by omega
 | m + 1,h,k,hk=>by
  simp only [lJ,aF5] at h
  by_cases hkm:k=m
  ·subst hkm
   cases hl:G1 θ k with
   | none=>rw [hl] at h; exact absurd h.2 (by simp)
   | some j=>
    rw [hl] at h
    exact⟨by rw [aFs h.2],h.1.2⟩
  ·exact dY h.1.1 k (by omega)
def oG (fl:List (Nat×DV)) (ll:List (Nat×LB)) (n:Nat) (θ:List (Nat×Nat)):Bool:=
 (fl.all fun q=>ltD n q.2) && (ll.all fun q=>Nat.blt q.1 n && ltB n q.2) && ndB (θ.map (·.2))
theorem Rs.lists {cx:Cx} {σ:St} {fl:List (Nat×DV)} {ll:List (Nat×LB)} {n:Nat} (θ:List (Nat×Nat)) (hc:oG fl ll n θ=true) (hp:lJ θ n cx.np=true) (hF:aJo σ (G1 θ) fl) (hL:oN σ (G1 θ) ll):Rs cx σ (mk fl ll n):=by
 simp only [oG,aF5,aGo] at hc
 obtain⟨⟨h1,h2⟩,h3⟩:=hc
 refine Rs.of (G1 θ) (fun t d' hd=>sD hF _ (Jn hd)) (fun k lb hl=>kC hL _ (Jn hl)) (fun k k' j a b=>vE h3 (Jn a) (Jn b)) (fun k hk=>dY hp k hk)
  (fun t d k hd hm=>nO (h1 _ (Jn hd)) k hm) (fun k lb hl=>?_)
 have:=h2 _ (Jn hl)
 exact⟨this.1,fun k' hk'=>gS this.2 k' hk'⟩
end Go.Proofs.YtboglmbblmakjaaGreatDoor
namespace Go.Proofs.YtboglmbblmakjaaGreatDoor
open Go.RowKit
def Q9:DV->Option Nat
 | .row k=>some k
 | .part k _ _=>some k
 | .ptr k _=>some k
 | _=>none
def ev (σ:St) (tc:Bool):Operand->Option (DV×Option LB)
 | .tmp t=>match σ.F t with
  | some d=>some (d,bif tc then (match Q9 d with | some k=>σ.L k | none=>none) else none)
  | none=>none
 | .const v=>bif G6 v then some (.val v,none) else none
 | .func f=>some (.val (.func (.func f) #[] #[]),none)
 | .global g=>match G1 aA8 g with | some cs=>some (.elt cs,none) | none=>none
def Gk (σ:St) (tc:Bool):List Operand->Option (List (DV×Option LB))
 | []=>some []
 | x :: l=>match ev σ tc x with
  | some d=>(match Gk σ tc l with | some ds=>some (d :: ds) | none=>none)
  | none=>none
def dD:DV->Bool
 | .part _ _ _=>true
 | _=>false
def Ol (b:Bool):List (DV×Option LB)->List Nat
 | []=>[]
 | (d,_) :: l=>match Q9 d with | some k=>(bif b && dD d then Ol b l else k :: Ol b l) | none=>Ol b l
theorem mX {c:Bool} {j k:Nat} {l:List Nat} (h:k∈(bif c then l else j :: l)):k∈j :: l:=by
 cases c with
 | false=>exact h
 | true=>exact aIz _ h
def Po:Op->Bool
 | .call ⟨.builtin .len,_,_⟩=>true
 | _=>false
def iO (b:Bool):List (DV×Option LB)->List (DV×Option LB)->Prop
 | [],[]=>True
 | x :: l,y :: m=>x.1=y.1/\(x.2=y.2\/(b=true/\dD x.1=true))/\iO b l m
 | _,_=>False
theorem iO.eq:∀ {l m:List (DV×Option LB)},iO false l m->l=m
 | [],[],_=>rfl
 | x :: l,y :: m,h=>by
  obtain⟨h1,h2,h3⟩:=h
  rcases h2 with h2 | ⟨h2,-⟩
  ·rw [iO.eq h3,Prod.ext h1 h2]
  ·cases h2
 | [],_ :: _,h=>h.elim
 | _ :: _,[],h=>h.elim
mutual
def K0:DV->List Nat
 | .row k=>[k]
 | .part k _ _=>[k]
 | .ptr k _=>[k]
 | .agg ds=>P0 ds
 | .tup ds=>P0 ds
 | .clo _ _ ds=>P0 ds
 | .val _=>[]
 | .sl _ _=>[]
 | .slc _ _=>[]
 | .mp _=>[]
 | .imm _=>[]
 | .elt _=>[]
def P0:List DV->List Nat
 | []=>[]
 | d :: ds=>K0 d ++ P0 ds
end
def oC (σ:St) (k:Nat):List Nat:=match σ.L k with
 | some (.box ds _)=>P0 ds
 | some (.mit k _ _)=>[k]
 | some (.vec ds _)=>P0 ds
 | some (.lop _ ds _ _)=>P0 ds
 | _=>[]
def Ss (σ:St):Nat->List Nat->List Nat
 | 0,l=>l
 | n + 1,l=>l ++ Ss σ n (l.flatMap (oC σ))
def Tz:List (DV×Option LB)->List Nat
 | []=>[]
 | q :: l=>K0 q.1 ++ Tz l
def Kz (σ:St) (l:List Nat):List (Nat×Option LB):=l.map fun k=>(k,σ.L k)
def Mp:Op->Bool
 | .load ..=>true
 | .store ..=>true
 | .indexAddr ..=>true
 | .slice ..=>true
 | .convert ..=>true
 | .call ..=>true
 | _=>false
def Ly (ops:Array Oper) (σ:St) (o:Oper):Option Bool:=
 match o.guard with
 | none=>some true
 | some (g,b)=>match (ops[g]?).bind (·.dst) with
  | some t=>match σ.F t with
   | some (.val (.bool c))=>some (c == b)
   | some (.val _)=>some false
   | _=>none
  | none=>none
def Sc:List Operand->List Tmp
 | []=>[]
 | .tmp t :: l=>t :: Sc l
 | _ :: l=>Sc l
def T2 (ops:Array Oper) (o:Oper):List Tmp:=
 Sc o.op.operands.toList ++ (match o.guard with | some (g,_)=>((ops[g]?).bind (·.dst)).toList | none=>[])
structure Sys (P:Program) (cx:Cx) where
 R:Nat->Op->TypeId->List (DV×Option LB)->List Nat->Q6->Prop
 C:Nat->Op->TypeId->List (DV×Option LB)->List (Nat×Option LB)->List Nat->(Q6->Prop)->Prop
 soundR:∀ {tk op ty ds wr e},R tk op ty ds wr e->∀ {ρ σ a w},Fg cx ρ σ a w->Gk σ (Mp op) op.operands.toList=some ds->(∀ j,j < 8->σ.U (tk + j)=false)->∀ o:Oper,o.op=op->o.type=ty->(∀ t,o.dst=some t->t < cx.N)->
  ∀ (K:Act->World->Prop) (Q:Exit->Act->World->Prop),(∀ a' w',O8 cx (σ.app o.dst e) a' w'->K a' w')->o.wp P a w K Q
 soundC:∀ {tk op ty ds env wr E},C tk op ty ds env wr E->∀ {ρ σ a w},Fg cx ρ σ a w->Gk σ (Mp op) op.operands.toList=some ds->env=Kz σ (Ss σ 3 (Tz ds))->(∀ j,j < 8->σ.U (tk + j)=false)->∀ o:Oper,o.op=op->o.type=ty->(∀ t,o.dst=some t->t < cx.N)->
  ∀ (K:Act->World->Prop) (Q:Exit->Act->World->Prop),(∀ e a' w',E e->O8 cx (σ.app o.dst e) a' w'->K a' w')->o.wp P a w K Q
 func:World->∀ {tk op ty ds wr e wr' e'},R tk op ty ds wr e->R tk op ty ds wr' e'->wr=wr'/\e=e'
 excl:∀ {tk op ty ds env wr e wr' E},R tk op ty ds wr e->C tk op ty ds env wr' E->False
 keyR:∀ {tk op ty ds wr e},R tk op ty ds wr e->∀ k,e.l k≠none->k∈wr\/(tk<=k/\k < tk + 8)
 keyC:∀ {tk op ty ds env wr E},C tk op ty ds env wr E->∀ e,E e->∀ k,e.l k≠none->k∈wr\/(tk<=k/\k < tk + 8)
 subR:∀ {tk op ty ds wr e},R tk op ty ds wr e->∀ k,k∈wr->Mp op=true/\k∈Ol (Po op) ds
 sim:∀ {tk op ty ds ds' wr e},R tk op ty ds wr e->iO (Po op) ds ds'->R tk op ty ds' wr e
 subC:∀ {tk op ty ds env wr E},C tk op ty ds env wr E->∀ k,k∈wr->k∈env.map (·.1)
def vN:Q6:=qN (some (.val undef))
section
variable {P:Program} {cx:Cx} (S:Sys P cx) (ops:Array Oper)
def SF (tk:Nat) (o:Oper) (σ:St) (rd wr:List Nat) (e:Q6):Prop:=
 (Ly ops σ o=some false/\rd=[]/\wr=[]/\e=vN)\/
 (Ly ops σ o=some true/\∃ ds,Gk σ (Mp o.op) o.op.operands.toList=some ds/\S.R tk o.op o.type ds wr e/\rd=bif Mp o.op then Ol (Po o.op) ds else [])
def SC (tk:Nat) (o:Oper) (σ:St) (rd wr:List Nat) (E:Q6->Prop):Prop:=
 Ly ops σ o=some true/\∃ ds,Gk σ (Mp o.op) o.op.operands.toList=some ds/\S.C tk o.op o.type ds (Kz σ rd) wr E/\rd=Ss σ 3 (Tz ds)
abbrev pF:=List (Nat×Bool×Nat×List Nat×List Nat)
def aEq (a b:List Nat):Bool:=a.all fun x=>b.all fun y=>!Nat.beq x y
def aP4 (a:List Nat) (tk:Nat):Bool:=a.all fun x=>Nat.blt x tk || Nat.ble (tk + 8) x
def inR (m:List Nat) (p i:Nat):Bool:=Nat.testBit (m.getD i 0) p
def xO (Rt:List Nat) (i:Nat) (cl:Bool) (tk:Nat) (rd wr:List Nat) (q:Nat×Bool×Nat×List Nat×List Nat):Bool:=
 inR Rt q.1 i || (!(cl && q.2.1) && aEq q.2.2.2.2 rd && aEq q.2.2.2.1 wr && aP4 rd q.2.2.1 && aP4 q.2.2.2.1 tk)
def Nj (Rt:Option (List Nat)) (i:Nat) (cl:Bool) (tk:Nat) (rd wr:List Nat) (lg:pF):Bool:=
 match Rt with
 | some r=>lg.all (xO r i cl tk rd wr)
 | none=>true
def Chain (Rt:Option (List Nat)) (nb:Nat):List (Nat×Oper)->pF->St->(St->Prop)->Prop
 | [],_,σ,Q=>Q σ
 | (i,o) :: l,lg,σ,Q=>
  (∃ rd wr e,SF S ops (nb + 8 * i) o σ rd wr e/\Nj Rt i false (nb + 8 * i) rd wr lg=true/\Chain Rt nb l ((i,false,nb + 8 * i,rd,wr) :: lg) (σ.app o.dst e) Q)\/
  (∃ rd wr E,SC S ops (nb + 8 * i) o σ rd wr E/\Nj Rt i true (nb + 8 * i) rd wr lg=true/\(Rt.isSome=true->∃ e,E e)/\∀ e,E e->Chain Rt nb l ((i,true,nb + 8 * i,rd,wr) :: lg) (σ.app o.dst e) Q)
end
section
variable {P:Program} {cx:Cx} {S:Sys P cx} {ops:Array Oper} {σ σ':St} {o:Oper} {tk:Nat} {rd wr:List Nat} {e:Q6} {E:Q6->Prop}
theorem aK1 {tc:Bool} {x:Operand} (hF:∀ t,x=.tmp t->σ'.F t=σ.F t) (hL:∀ t d k,x=.tmp t->tc=true->σ.F t=some d->Q9 d=some k->σ'.L k=σ.L k):ev σ' tc x=ev σ tc x:=by
 cases x with
 | tmp t=>
  simp only [ev]
  rw [hF t rfl]
  cases hd:σ.F t with
  | none=>rfl
  | some d=>
   cases tc with
   | false=>rfl
   | true=>
    simp only [aHj]
    cases hk:Q9 d with
    | none=>rfl
    | some k=>simp only []; rw [hL t d k rfl rfl hd hk]
 | const v=>rfl
 | global g=>rfl
 | func f=>rfl
theorem aDf {tc:Bool}:∀ {l:List Operand} {ds:List (DV×Option LB)},(∀ t,t∈Sc l->σ'.F t=σ.F t)->Gk σ tc l=some ds->(tc=true->∀ k,k∈Ol false ds->σ'.L k=σ.L k)->Gk σ' tc l=some ds
 | [],_,_,h,_=>h
 | x :: l,ds,hF,h,hL=>by
  unfold Gk at h ⊢
  cases h1:ev σ tc x with
  | none=>rw [h1] at h; cases h
  | some d0=>
   rw [h1] at h
   simp only [] at h
   cases h2:Gk σ tc l with
   | none=>rw [h2] at h; cases h
   | some ds0=>
    rw [h2] at h
    simp only [] at h
    injection h with h
    subst h
    have e1:ev σ' tc x=some d0:=by
     rw [<- h1]
     refine aK1 (fun t ht=>hF t (by rw [ht]; simp [Sc])) fun t d k ht htc hd hk=>hL htc k ?_
     subst ht
     simp only [ev] at h1
     rw [hd] at h1
     injection h1 with h1
     subst h1
     simp [Ol,hk]
    have e2:Gk σ' tc l=some ds0:=by
     refine aDf (fun t ht=>hF t ?_) h2 fun htc k hk=>hL htc k ?_
     ·cases x <;> simp [Sc,ht]
     ·obtain⟨d,b⟩:=d0
      unfold Ol
      cases Q9 d <;> simp [hk]
    rw [e1]
    simp only []
    rw [e2]
theorem iO.toks {b:Bool}:∀ {l m:List (DV×Option LB)},iO b l m->Go.Proofs.YtboglmbblmakjaaGreatDoor.Ol b l=Go.Proofs.YtboglmbblmakjaaGreatDoor.Ol b m
 | [],[],_=>rfl
 | (x,_) :: l,(y,_) :: m,h=>by
  obtain⟨h1,-,h3⟩:=h
  have h1:x=y:=h1
  subst h1
  unfold Go.Proofs.YtboglmbblmakjaaGreatDoor.Ol
  rw [iO.toks h3]
 | [],_ :: _,h=>h.elim
 | _ :: _,[],h=>h.elim
theorem xC {tc b:Bool}:∀ {l:List Operand} {ds:List (DV×Option LB)},(∀ t,t∈Sc l->σ'.F t=σ.F t)->Gk σ tc l=some ds->(tc=true->∀ k,k∈Ol b ds->σ'.L k=σ.L k)->∃ ds',Gk σ' tc l=some ds'/\iO b ds ds'
 | [],ds,_,h,_=>by
  unfold Gk at h
  injection h with h
  subst h
  exact⟨[],rfl,trivial⟩
 | x :: l,ds,hF,h,hL=>by
  unfold Gk at h ⊢
  cases h1:ev σ tc x with
  | none=>rw [h1] at h; cases h
  | some d0=>
   rw [h1] at h
   simp only [] at h
   cases h2:Gk σ tc l with
   | none=>rw [h2] at h; cases h
   | some ds0=>
    rw [h2] at h
    simp only [] at h
    injection h with h
    subst h
    have e1:∃ d1,ev σ' tc x=some d1/\d0.1=d1.1/\(d0.2=d1.2\/(b=true/\dD d0.1=true)):=by
     cases x with
     | tmp t=>
      simp only [ev] at h1 ⊢
      rw [hF t (by simp [Sc])]
      cases hd:σ.F t with
      | none=>rw [hd] at h1; cases h1
      | some d=>
       rw [hd] at h1
       injection h1 with h1
       subst h1
       refine⟨_,rfl,rfl,?_⟩
       cases hb:(b && dD d) with
       | true=>
        simp only [aF5] at hb
        exact .inr hb
       | false=>
        left
        cases tc with
        | false=>rfl
        | true=>
         simp only [aHj]
         cases hk:Q9 d with
         | none=>rfl
         | some k=>
          simp only []
          rw [hL rfl k (by simp [Ol,hk,hb])]
     | const v=>exact⟨d0,h1,rfl,.inl rfl⟩
     | global g=>exact⟨d0,h1,rfl,.inl rfl⟩
     | func f=>exact⟨d0,h1,rfl,.inl rfl⟩
    obtain⟨d1,e1,e2,e3⟩:=e1
    obtain⟨ds',e4,e5⟩:=xC (b:=b) (ds:=ds0) (fun t ht=>hF t (by cases x <;> simp [Sc,ht])) h2 (fun htc k hk=>hL htc k (by
     obtain⟨d,q⟩:=d0
     unfold Ol
     cases Q9 d with
     | none=>exact hk
     | some j=>
      simp only []
      cases (b && dD d)
      ·exact aIz _ hk
      ·exact hk))
    rw [e1]
    simp only []
    rw [e4]
    exact⟨_,rfl,e2,e3,e5⟩
theorem oU (hF:∀ t,t∈T2 ops o->σ'.F t=σ.F t):Ly ops σ' o=Ly ops σ o:=by
 unfold Ly
 cases G:o.guard with
 | none=>rfl
 | some q=>
  obtain⟨g,b⟩:=q
  simp only []
  cases ht:(ops[g]?).bind (·.dst) with
  | none=>rfl
  | some t=>
   simp only []
   rw [hF t (by simp [T2,G,ht])]
theorem SF.local (h:SF S ops tk o σ rd wr e) (hF:∀ t,t∈T2 ops o->σ'.F t=σ.F t) (hL:∀ k,k∈rd->σ'.L k=σ.L k):SF S ops tk o σ' rd wr e:=by
 rcases h with ⟨h1,h2⟩ | ⟨h1,ds,h2,h3,h4⟩
 ·exact .inl ⟨by rw [oU hF]; exact h1,h2⟩
 ·obtain⟨ds',h5,h6⟩:=xC (b:=Po o.op) (fun t ht=>hF t (by simp [T2,ht])) h2 (fun htc k hk=>hL k (by rw [h4,htc]; exact hk))
  refine .inr ⟨by rw [oU hF]; exact h1,ds',h5,S.sim h3 h6,?_⟩
  rw [h4,iO.toks h6]
theorem bT {α β:Type} {f g:α->List β}:∀ {l:List α},(∀ x∈l,f x=g x)->l.flatMap f=l.flatMap g
 | [],_=>rfl
 | x :: l,h=>by
  rw [aNp,aNp,h x (aKw ..),bT fun y hy=>h y (aIz _ hy)]
theorem cB {n:Nat} {l:List Nat} {k:Nat} (h:k∈l):k∈Ss σ n l:=by
 cases n with
 | zero=>exact h
 | succ n=>exact aPy _ h
theorem yE:∀ {n:Nat} {l:List Nat},(∀ k,k∈Ss σ n l->σ'.L k=σ.L k)->Ss σ' n l=Ss σ n l
 | 0,_,_=>rfl
 | n + 1,l,h=>by
  have e1:l.flatMap (oC σ')=l.flatMap (oC σ):=by
   have:∀ k∈l,oC σ' k=oC σ k:=fun k hk=>by
    unfold oC
    rw [h k (cB hk)]
   exact bT this
  show l ++ Ss σ' n (l.flatMap (oC σ'))=l ++ Ss σ n (l.flatMap (oC σ))
  rw [e1,yE fun k hk=>h k (aQo _ hk)]
theorem aJq {l:List Nat} (h:∀ k,k∈l->σ'.L k=σ.L k):Kz σ' l=Kz σ l:=List.map_congr_left fun k hk=>by rw [h k hk]
theorem aCk {d:DV} {k:Nat} (h:Q9 d=some k):k∈K0 d:=by
 cases d <;> simp [Q9] at h <;> subst h <;> simp [K0]
theorem Yf {b:Bool}:∀ {ds:List (DV×Option LB)} {k:Nat},k∈Ol b ds->k∈Tz ds
 | [],k,h=>by simp [Ol] at h
 | (d,q) :: ds,k,h=>by
  unfold Ol at h
  unfold Tz
  cases hd:Q9 d with
  | none=>rw [hd] at h; exact aQo _ (Yf h)
  | some j=>
   rw [hd] at h
   rcases aF6.1 (mX h) with rfl | h
   ·exact aPy _ (aCk hd)
   ·exact aQo _ (Yf h)
theorem SC.local (h:SC S ops tk o σ rd wr E) (hF:∀ t,t∈T2 ops o->σ'.F t=σ.F t) (hL:∀ k,k∈rd->σ'.L k=σ.L k):SC S ops tk o σ' rd wr E:=by
 obtain⟨h1,ds,h2,h3,h4⟩:=h
 refine⟨by rw [oU hF]; exact h1,ds,aDf (fun t ht=>hF t (by simp [T2,ht])) h2 (fun htc k hk=>hL k ?_),?_,?_⟩
 ·rw [h4]
  exact cB (Yf hk)
 ·rw [aJq hL]; exact h3
 ·rw [h4]
  exact (yE fun k hk=>hL k (by rw [h4]; exact hk)).symm
theorem SF.func (w:World) {rd' wr':List Nat} {e':Q6} (h:SF S ops tk o σ rd wr e) (h':SF S ops tk o σ rd' wr' e'):rd=rd'/\wr=wr'/\e=e':=by
 rcases h with ⟨h1,rfl,rfl,rfl⟩ | ⟨h1,ds,h2,h3,rfl⟩
 ·rcases h' with ⟨h1',rfl,rfl,rfl⟩ | ⟨h1',ds',h2',h3',rfl⟩
  ·exact⟨rfl,rfl,rfl⟩
  ·rw [h1] at h1'; cases h1'
 ·rcases h' with ⟨h1',rfl,rfl,rfl⟩ | ⟨h1',ds',h2',h3',rfl⟩
  ·rw [h1] at h1'; cases h1'
  ·rw [h2] at h2'
   injection h2' with h2'
   subst h2'
   obtain⟨a,b⟩:=S.func w h3 h3'
   exact⟨rfl,a,b⟩
theorem SF.excl {rd' wr':List Nat} (h:SF S ops tk o σ rd wr e) (h':SC S ops tk o σ rd' wr' E):False:=by
 obtain⟨h1',ds',h2',h3',-⟩:=h'
 rcases h with ⟨h1,-⟩ | ⟨h1,ds,h2,h3,-⟩
 ·rw [h1] at h1'; cases h1'
 ·rw [h2] at h2'
  injection h2' with h2'
  subst h2'
  exact S.excl h3 h3'
theorem SF.key (h:SF S ops tk o σ rd wr e):(∀ k,e.l k≠none->k∈wr\/(tk<=k/\k < tk + 8))/\∀ k,k∈wr->k∈rd:=by
 rcases h with ⟨h1,rfl,rfl,rfl⟩ | ⟨h1,ds,h2,h3,rfl⟩
 ·exact⟨fun k hk=>absurd rfl hk,fun k hk=>hk⟩
 ·refine⟨S.keyR h3,fun k hk=>?_⟩
  obtain⟨h4,h5⟩:=S.subR h3 k hk
  rw [h4]
  exact h5
theorem SC.key (h:SC S ops tk o σ rd wr E):(∀ e,E e->∀ k,e.l k≠none->k∈wr\/(tk<=k/\k < tk + 8))/\∀ k,k∈wr->k∈rd:=by
 obtain⟨h1,ds,h2,h3,h0⟩:=h
 refine⟨S.keyC h3,fun k hk=>?_⟩
 have:=S.subC h3 k hk
 simpa [Kz] using this
theorem nF {ρ:Nat->Value} {a:Act} {w:World} (h:Fg cx ρ σ a w) {tc bb:Bool}:∀ {l:List Operand} {ds:List (DV×Option LB)},Gk σ tc l=some ds->∀ k,k∈Ol bb ds->σ.U k=true
 | [],ds,hd,k,hk=>by
  unfold Gk at hd
  injection hd with hd
  subst hd
  simp [Ol] at hk
 | x :: l,ds,hd,k,hk=>by
  unfold Gk at hd
  cases h1:ev σ tc x with
  | none=>rw [h1] at hd; cases hd
  | some d0=>
   rw [h1] at hd
   simp only [] at hd
   cases h2:Gk σ tc l with
   | none=>rw [h2] at hd; cases hd
   | some ds0=>
    rw [h2] at hd
    simp only [] at hd
    injection hd with hd
    subst hd
    obtain⟨d,b⟩:=d0
    unfold Ol at hk
    have rec_:=nF (bb:=bb) h h2 k
    cases hd:Q9 d with
    | none=>rw [hd] at hk; exact rec_ hk
    | some k'=>
     rw [hd] at hk
     rcases aF6.1 (mX hk) with rfl | hk
     ·cases x with
      | tmp t=>
       simp only [ev] at h1
       cases hF:σ.F t with
       | none=>rw [hF] at h1; cases h1
       | some d'=>
        rw [hF] at h1
        injection h1 with h1
        injection h1 with h1
        subst h1
        refine h.usedF t d' k hF ?_
        cases d' <;> simp [Q9] at hd <;> subst hd <;> simp [men]
      | const v=>
       simp only [ev] at h1
       cases hv:G6 v with
       | false=>rw [hv] at h1; cases h1
       | true=>rw [hv] at h1; injection h1 with h1; injection h1 with h1; subst h1; cases hd
      | global g=>simp only [ev] at h1; cases G:G1 aA8 g with | none=>rw [G] at h1; cases h1 | some cs=>rw [G] at h1; injection h1 with h1; injection h1 with h1; subst h1; cases hd
      | func f=>simp [ev] at h1; rw [<- h1.1] at hd; cases hd
     ·exact rec_ hk
theorem SF.used {ρ:Nat->Value} {a:Act} {w:World} (h:SF S ops tk o σ rd wr e) (ha:Fg cx ρ σ a w):∀ k,k∈rd->σ.U k=true:=by
 rcases h with ⟨h1,rfl,rfl,rfl⟩ | ⟨h1,ds,h2,h3,rfl⟩
 ·intro k hk; simp at hk
 ·intro k hk
  cases ht:Mp o.op with
  | false=>rw [ht] at hk; simp at hk
  | true=>rw [ht] at hk; exact nF ha h2 k hk
mutual
theorem rQ:∀ {d:DV} {k:Nat},k∈K0 d->men d k
 | .row _,k,h=>by simpa [K0,men] using h
 | .part _ _ _,k,h=>by simpa [K0,men] using h
 | .ptr _ _,k,h=>by simpa [K0,men] using h
 | .agg ds,k,h=>by unfold K0 at h; unfold men; exact Rb h
 | .tup ds,k,h=>by unfold K0 at h; unfold men; exact Rb h
 | .clo _ _ ds,k,h=>by unfold K0 at h; unfold men; exact Rb h
 | .val _,k,h=>by simp [K0] at h
 | .sl _ _,k,h=>by simp [K0] at h
 | .slc _ _,k,h=>by simp [K0] at h
 | .mp _,k,h=>by simp [K0] at h
 | .imm _,k,h=>by simp [K0] at h
 | .elt _,k,h=>by simp [K0] at h
theorem Rb:∀ {ds:List DV} {k:Nat},k∈P0 ds->G9 ds k
 | [],k,h=>by simp [P0] at h
 | d :: ds,k,h=>by
  unfold P0 at h
  unfold G9
  rcases aKi.1 h with h | h
  ·exact .inl (rQ h)
  ·exact .inr (Rb h)
end
theorem nL {ρ:Nat->Value} {a:Act} {w:World} (h:Fg cx ρ σ a w) {tc:Bool}:∀ {l:List Operand} {ds:List (DV×Option LB)},Gk σ tc l=some ds->∀ k,k∈Tz ds->σ.U k=true
 | [],ds,hd,k,hk=>by
  unfold Gk at hd
  injection hd with hd
  subst hd
  simp [Tz] at hk
 | x :: l,ds,hd,k,hk=>by
  unfold Gk at hd
  cases h1:ev σ tc x with
  | none=>rw [h1] at hd; cases hd
  | some d0=>
   rw [h1] at hd
   simp only [] at hd
   cases h2:Gk σ tc l with
   | none=>rw [h2] at hd; cases hd
   | some ds0=>
    rw [h2] at hd
    simp only [] at hd
    injection hd with hd
    subst hd
    unfold Tz at hk
    rcases aKi.1 hk with hk | hk
    ·cases x with
     | tmp t=>
      simp only [ev] at h1
      cases hF:σ.F t with
      | none=>rw [hF] at h1; cases h1
      | some d'=>
       rw [hF] at h1
       injection h1 with h1
       subst h1
       exact h.usedF t d' k hF (rQ hk)
     | const v=>
      simp only [ev] at h1
      cases hv:G6 v with
      | false=>rw [hv] at h1; cases h1
      | true=>rw [hv] at h1; injection h1 with h1; subst h1; simp [K0] at hk
     | global g=>simp only [ev] at h1; cases G:G1 aA8 g with | none=>rw [G] at h1; cases h1 | some cs=>rw [G] at h1; injection h1 with h1; subst h1; simp [K0] at hk
     | func f=>simp only [ev] at h1; injection h1 with h1; subst h1; simp [K0] at hk
    ·exact nL h h2 k hk
theorem nA {ρ:Nat->Value} {a:Act} {w:World} (h:Fg cx ρ σ a w):∀ {n:Nat} {l:List Nat},(∀ k,k∈l->σ.U k=true)->∀ k,k∈Ss σ n l->σ.U k=true
 | 0,_,hl,k,hk=>hl k hk
 | n + 1,l,hl,k,hk=>by
  rcases aKi.1 hk with hk | hk
  ·exact hl k hk
  ·refine nA h (fun j hj=>?_) k hk
   obtain⟨i,hi,hj⟩:=List.mem_flatMap.1 hj
   unfold oC at hj
   cases hL:σ.L i with
   | none=>rw [hL] at hj; simp at hj
   | some lb=>
    rw [hL] at hj
    cases lb with
    | box ds ty=>exact (h.usedL i _ hL).2 j (Rb hj)
    | row=>simp at hj
    | map=>simp at hj
    | mit k' n s=>simp at hj; subst hj; exact (h.usedL i _ hL).2 _ rfl
    | lop ts ds N rc=>exact (h.usedL i _ hL).2 j (Rb hj)
    | vec ds e=>exact (h.usedL i _ hL).2 j (Rb hj)
theorem SC.used {ρ:Nat->Value} {a:Act} {w:World} (h:SC S ops tk o σ rd wr E) (ha:Fg cx ρ σ a w):∀ k,k∈rd->σ.U k=true:=by
 obtain⟨h1,ds,h2,h3,h4⟩:=h
 intro k hk
 rw [h4] at hk
 exact nA ha (nL ha h2) k hk
def aCn:Value->Option Bool
 | .bool b=>some b
 | _=>none
theorem Yi {ρ:Nat->Value} {a:Act} {w:World} (h:Fg cx ρ σ a w) {b:Bool} (G:Ly ops σ o=some b):Region.wanted o (yielded ops a.tmps)=b:=by
 unfold Ly at G
 unfold Region.wanted
 cases hq:o.guard with
 | none=>
  rw [hq] at G
  injection G
 | some q=>
  obtain⟨g,want⟩:=q
  rw [hq] at G
  simp only [] at G ⊢
  cases ht:(ops[g]?).bind (·.dst) with
  | none=>rw [ht] at G; cases G
  | some t=>
   rw [ht] at G
   simp only [] at G
   cases hF:σ.F t with
   | none=>rw [hF] at G; cases G
   | some d=>
    rw [hF] at G
    cases d with
    | val v=>
     have hr:=h.fr t _ hF
     unfold Dk at hr
     have hy:yielded ops a.tmps g=aCn v:=by
      unfold yielded
      rw [ht]
      simp only [aAy]
      by_cases hlt:t < a.tmps.size
      ·simp only [hlt,aVs]
       have e1:a.tmps[t]=v:=by simpa [hlt] using hr.1
       rw [e1]
       cases v <;> rfl
      ·have e1:a.tmps[t]?=none:=bCy (Nat.le_of_not_lt hlt)
       have e2:v=undef:=by simpa [e1] using hr.1.symm
       rw [e1,e2]
       rfl
     rw [hy]
     cases v <;> simp at G <;> simp [aCn,<- G]
    | _=>cases G
theorem SF.sound {ρ:Nat->Value} {a:Act} {w:World} (h:SF S ops tk o σ rd wr e) (ha:Fg cx ρ σ a w) (hf:∀ j,j < 8->σ.U (tk + j)=false) (hdst:∀ t,o.dst=some t->t < cx.N) :
  ∀ (K:Act->World->Prop) (Q:Exit->Act->World->Prop),(∀ a' w',O8 cx (σ.app o.dst e) a' w'->K a' w')->if Region.wanted o (yielded ops a.tmps)=true then o.wp P a w K Q else K (a.put o.dst undef) w:=by
 rcases h with ⟨h1,rfl,rfl,rfl⟩ | ⟨h1,ds,h2,h3,rfl⟩
 ·intro K Q hK
  rw [Yi ha h1]
  simp only [aYk,if_false]
  exact hK _ _ ⟨ρ,ha.put0 hdst (fun x hx=>by injection hx with hx; subst hx; unfold Dk; exact⟨rfl,rfl⟩) (fun x k hx hm=>by injection hx with hx; subst hx; unfold men at hm; exact hm.elim)⟩
 ·have h5:=S.soundR h3 ha h2 hf o rfl rfl hdst
  intro K Q hK
  rw [Yi ha h1]
  simp only [if_true]
  exact h5 K Q hK
theorem SC.sound {ρ:Nat->Value} {a:Act} {w:World} (h:SC S ops tk o σ rd wr E) (ha:Fg cx ρ σ a w) (hf:∀ j,j < 8->σ.U (tk + j)=false) (hdst:∀ t,o.dst=some t->t < cx.N) :
  ∀ (K:Act->World->Prop) (Q:Exit->Act->World->Prop),(∀ e a' w',E e->O8 cx (σ.app o.dst e) a' w'->K a' w')->if Region.wanted o (yielded ops a.tmps)=true then o.wp P a w K Q else K (a.put o.dst undef) w:=by
 obtain⟨h1,ds,h2,h3,h4⟩:=h
 intro K Q hK
 rw [Yi ha h1]
 simp only [if_true]
 exact S.soundC h3 ha h2 (by rw [h4]) hf o rfl rfl hdst K Q hK
def fX (b:Bool) (σ:St):List Operand->List Nat
 | []=>[]
 | x :: l=>match ev σ false x with
  | some (d,_)=>(match Q9 d with | some k=>(bif b && dD d then fX b σ l else k :: fX b σ l) | none=>fX b σ l)
  | none=>fX b σ l
theorem aVb {tc:Bool} {x:Operand} {d:DV} {b:Option LB} (h:ev σ tc x=some (d,b)):ev σ false x=some (d,none):=by
 cases x with
 | tmp t=>
  simp only [ev] at *
  cases hd:σ.F t with
  | none=>rw [hd] at h; cases h
  | some d'=>
   rw [hd] at h
   injection h with h
   injection h with h
   subst h
   rfl
 | const v=>
  simp only [ev] at *
  cases hv:G6 v with
  | false=>rw [hv] at h; cases h
  | true=>rw [hv] at h; injection h with h; injection h with h; subst h; rfl
 | global g=>simp only [ev] at *; cases G:G1 aA8 g with | none=>rw [G] at h; cases h | some cs=>rw [G] at h; injection h with h; injection h with h; subst h; rfl
 | func f=>simp only [ev] at *; injection h with h; injection h with h; subst h; rfl
theorem pT {tc b:Bool}:∀ {l:List Operand} {ds:List (DV×Option LB)},Gk σ tc l=some ds->Ol b ds=fX b σ l
 | [],ds,hd=>by
  unfold Gk at hd
  injection hd with hd
  subst hd
  rfl
 | x :: l,ds,hd=>by
  unfold Gk at hd
  cases h1:ev σ tc x with
  | none=>rw [h1] at hd; cases hd
  | some d0=>
   rw [h1] at hd
   simp only [] at hd
   cases h2:Gk σ tc l with
   | none=>rw [h2] at hd; cases hd
   | some ds0=>
    rw [h2] at hd
    simp only [] at hd
    injection hd with hd
    subst hd
    obtain⟨d,q⟩:=d0
    unfold Ol fX
    rw [aVb h1]
    simp only []
    rw [pT (b:=b) h2]
theorem kQ {b:Bool}:∀ {l:List Operand},(∀ t,t∈Sc l->σ'.F t=σ.F t)->fX b σ' l=fX b σ l
 | [],_=>rfl
 | x :: l,hF=>by
  unfold fX
  have e1:ev σ' false x=ev σ false x:=aK1 (fun t ht=>hF t (by rw [ht]; simp [Sc])) fun t d k _ h=>by cases h
  have e2:fX b σ' l=fX b σ l:=kQ fun t ht=>hF t (by cases x <;> simp [Sc,ht])
  rw [e1,e2]
def rdF (ops:Array Oper) (o:Oper) (σ:St):List Nat:=if Ly ops σ o=some true then (bif Mp o.op then fX (Po o.op) σ o.op.operands.toList else []) else []
theorem SF.rdEq (h:SF S ops tk o σ rd wr e):rd=rdF ops o σ:=by
 unfold rdF
 rcases h with ⟨h1,rfl,-⟩ | ⟨h1,ds,h2,h3,rfl⟩
 ·rw [if_neg (by rw [h1]; simp)]
 ·rw [if_pos h1,pT h2]
theorem SC.rdSub (h:SC S ops tk o σ rd wr E):∀ k,k∈rdF ops o σ->k∈rd:=by
 unfold rdF
 obtain⟨h1,ds,h2,h3,h4⟩:=h
 rw [if_pos h1,h4]
 intro k hk
 cases ht:Mp o.op with
 | false=>rw [ht] at hk; simp at hk
 | true=>
  rw [ht] at hk
  simp only [aHj] at hk
  rw [<- pT h2] at hk
  exact cB (Yf hk)
theorem aAg (hF:∀ t,t∈T2 ops o->σ'.F t=σ.F t):rdF ops o σ'=rdF ops o σ:=by
 unfold rdF
 rw [oU hF,kQ fun t ht=>hF t (by simp [T2,ht])]
def bU (nb:Nat) (l:List (Nat×Oper)) (σ:St):Prop:=∀ q∈l,∀ j,j < 8->σ.U (nb + 8 * q.1 + j)=false
def aCh (cx:Cx) (l:List (Nat×Oper)):Prop:=∀ q∈l,(∀ t,q.2.dst=some t->t < cx.N)/\aO7 q.2.op=true
theorem yG {dst:Option Tmp} {k:Nat} (h:(σ.app dst e).U k=true):σ.U k=true\/e.l k≠none:=by
 simp only [St.app,aT1,Option.isSome_iff_ne_none] at h
 exact h
theorem bU.next {nb i:Nat} {l:List (Nat×Oper)} {dst:Option Tmp} (hf:bU nb l σ) (hk:∀ k,e.l k≠none->k∈wr\/(nb + 8 * i<=k/\k < nb + 8 * i + 8)) (hu:∀ k,k∈wr->σ.U k=true) (hi:∀ q∈l,q.1≠i):bU nb l (σ.app dst e):=by
 intro q hq j hj
 have h0:=hf q hq j hj
 cases hc:(σ.app dst e).U (nb + 8 * q.1 + j) with
 | false=>rfl
 | true=>
  rcases yG hc with h1 | h1
  ·rw [h0] at h1; cases h1
  ·rcases hk _ h1 with h2 | h2
   ·rw [hu _ h2] at h0; cases h0
   ·have:=hi q hq
    omega
end
end Go.Proofs.YtboglmbblmakjaaGreatDoor
namespace Go.Proofs.YtboglmbblmakjaaGreatDoor
open Go.RowKit
def Ft:Nat->List Oper->List (Nat×Oper)
 | _,[]=>[]
 | k,o :: l=>(k,o) :: Ft (k + 1) l
theorem Yd:∀ {l:List Oper} {k:Nat} {q:Nat×Oper},q∈Ft k l->k<=q.1/\q.1 < k + l.length/\l[q.1 - k]?=some q.2
 | [],_,_,h=>by simp [Ft] at h
 | o :: l,k,q,h=>by
  unfold Ft at h
  rcases aF6.1 h with rfl | h
  ·simp
  ·obtain⟨h1,h2,h3⟩:=Yd h
   refine⟨by omega,by simp; omega,?_⟩
   rw [show q.1 - k=(q.1 - (k + 1)) + 1 by omega]
   simpa using h3
theorem iK:∀ (l:List Oper) (k:Nat),(Ft k l).length=l.length
 | [],_=>rfl
 | o :: l,k=>by simp [Ft,iK l]
theorem cC:∀ {l:List Oper} {k i:Nat} {o:Oper},l[i]?=some o->(k + i,o)∈Ft k l
 | [],_,_,_,h=>by simp at h
 | o' :: l,k,0,o,h=>by
  simp at h
  subst h
  simp [Ft]
 | o' :: l,k,i + 1,o,h=>by
  have:=cC (l:=l) (k:=k + 1) (i:=i) (o:=o) (by simpa using h)
  unfold Ft
  rw [show k + (i + 1)=k + 1 + i by omega]
  exact aIz _ this
theorem aEz:∀ (l:List Oper) (k:Nat),(Ft k l).Pairwise fun a b=>a.1 < b.1
 | [],_=>by simp [Ft]
 | o :: l,k=>by
  unfold Ft
  exact aYn.2 ⟨fun q hq=>by have:=(Yd hq).1; dsimp only; omega,aEz l (k + 1)⟩
def oH (N:Nat) (l:List Oper):Bool:=l.all fun o=>(match o.dst with | some t=>Nat.blt t N | none=>true) && aO7 o.op
theorem dM {cx:Cx} {l:List Oper} {k:Nat} (h:oH cx.N l=true):aCh cx (Ft k l):=by
 intro q hq
 have h1:=aIm (Yd hq).2.2
 have:=aGo.1 h _ h1
 rw [aF5] at this
 refine⟨fun t ht=>?_,this.2⟩
 have:=this.1
 rw [ht] at this
 exact Nat.lt_of_succ_le (aC1 this)
theorem Chain.log {P:Program} {cx:Cx} {S:Sys P cx} {ops:Array Oper} {Rt:Option (List Nat)} {nb:Nat} {Q:St->Prop}:∀ {l:List (Nat×Oper)} {lg lg':pF} {σ:St},(∀ q,q∈lg'->q∈lg)->Chain S ops Rt nb l lg σ Q->Chain S ops Rt nb l lg' σ Q
 | [],_,_,_,_,h=>h
 | (i,o) :: l,lg,lg',σ,hs,h=>by
  have ok:∀ {cl rd wr},Nj Rt i cl (nb + 8 * i) rd wr lg=true->Nj Rt i cl (nb + 8 * i) rd wr lg'=true:=fun {cl rd wr} h=>by
   unfold Nj at *
   cases Rt with
   | none=>rfl
   | some r=>exact aGo.2 fun q hq=>aGo.1 h q (hs q hq)
  have hs':∀ x:Nat×Bool×Nat×List Nat×List Nat,∀ q,q∈x :: lg'->q∈x :: lg:=fun x q hq=>by
   rcases aF6.1 hq with rfl | hq
   ·exact aKw ..
   ·exact aIz _ (hs q hq)
  rcases h with ⟨rd,wr,e,h1,h2,h3⟩ | ⟨rd,wr,E,h1,h2,h2',h3⟩
  ·exact .inl ⟨rd,wr,e,h1,ok h2,Chain.log (hs' _) h3⟩
  ·exact .inr ⟨rd,wr,E,h1,ok h2,h2',fun e he=>Chain.log (hs' _) (h3 e he)⟩
section
variable {P:Program} {cx:Cx} {S:Sys P cx} {Q:Exit->St->Prop} {nb nb':Nat}
theorem Zj {nn:Nat} {ops:Array Oper}:∀ (l:List Oper) (k:Nat) (lg:pF) (σ:St) (a:Act) (w:World),Chain S ops none nb (Ft k l) lg σ (fun σ'=>(∀ j,nb'<=j->σ'.U j=false)->Q .normal σ')->bU nb (Ft k l) σ->aCh cx (Ft k l)->(∀ j,nb'<=j->σ.U j=false)->nb + 8 * (k + l.length)<=nb'->O8 cx σ a w->wpListIn (FW cx.rr) nn P ops (Uk cx Q) l a w
 | [],k,lg,σ,a,w,h,_,_,B,_,ha=>⟨σ,h B,ha⟩
 | o :: l,k,lg,σ,a,w,h,hf,hd,B,hn,⟨ρ,ha⟩=>by
  have hf0:=hf (k,o) (by simp [Ft])
  have hd0:=hd (k,o) (by simp [Ft])
  have hf1:bU nb (Ft (k + 1) l) σ:=fun q hq=>hf q (by simp [Ft,hq])
  have hd1:aCh cx (Ft (k + 1) l):=fun q hq=>hd q (by simp [Ft,hq])
  have hne:∀ q∈Ft (k + 1) l,q.1≠k:=fun q hq=>by have:=(Yd hq).1; omega
  have hn':nb + 8 * (k + 1 + l.length)<=nb':=by simp at hn; omega
  have hUn:∀ {e:Q6} {wr:List Nat} {rd:List Nat},(∀ j,e.l j≠none->j∈wr\/(nb + 8 * k<=j/\j < nb + 8 * k + 8))->(∀ j,j∈wr->j∈rd)->(∀ j,j∈rd->σ.U j=true)->∀ j,nb'<=j->(σ.app o.dst e).U j=false:=fun {e wr rd} hk hs hu j hj=>by
   cases hc:(σ.app o.dst e).U j with
   | false=>rfl
   | true=>
    rcases yG hc with h1 | h1
    ·rw [B j hj] at h1; cases h1
    ·rcases hk j h1 with h2 | h2
     ·exact absurd (hu j (hs j h2)) (by rw [B j hj]; simp)
     ·simp at hn; omega
  unfold wpListIn
  rcases h with ⟨rd,wr,e,h1,-,h3⟩ | ⟨rd,wr,E,h1,-,-,h3⟩
  ·have hs:=h1.sound ha hf0 hd0.1
   have:=hs (wpListIn (FW cx.rr) nn P ops (Uk cx Q) l) (Uk cx Q) fun a' w' ha'=>Zj l (k + 1) _ _ a' w' h3 (hf1.next h1.key.1 (fun j hj=>h1.used ha j (h1.key.2 j hj)) hne) hd1 (hUn h1.key.1 h1.key.2 (h1.used ha)) hn' ha'
   split
   ·rename_i hw
    rw [if_pos hw] at this
    exact mM hd0.2 this
   ·rename_i hw
    rw [if_neg hw] at this
    exact⟨fun _ _=>trivial,this⟩
  ·have:=h1.sound ha hf0 hd0.1 (wpListIn (FW cx.rr) nn P ops (Uk cx Q) l) (Uk cx Q) fun e a' w' he ha'=>Zj l (k + 1) _ _ a' w' (h3 e he) (hf1.next (h1.key.1 e he) (fun j hj=>h1.used ha j (h1.key.2 j hj)) hne) hd1 (hUn (h1.key.1 e he) h1.key.2 (h1.used ha)) hn' ha'
   split
   ·rename_i hw
    rw [if_pos hw] at this
    exact mM hd0.2 this
   ·rename_i hw
    rw [if_neg hw] at this
    exact⟨fun _ _=>trivial,this⟩
theorem B7 (S:Sys P cx) {id:Nat} {l:List Oper} {σ:St} (nb nb':Nat) (B:∀ k,nb<=k->σ.U k=false) (hn:Nat.ble (nb + 8 * l.length) nb'=true) (hd:oH cx.N l=true)
  (h:Chain S l.toArray none nb (Ft 0 l) [] σ (fun σ'=>(∀ j,nb'<=j->σ'.U j=false)->Q .normal σ')):Kb P cx (.region id l.toArray false) Q σ:=by
 intro nn a w ha
 have hn':nb + 8 * l.length<=nb':=aC1 hn
 exact wpIn_region_lit (Zj l 0 [] σ a w h (fun q hq j hj=>B _ (by omega)) (dM hd) (fun j hj=>B j (by omega)) (by simpa using hn') ha)
end
section
variable {P:Program} {cx:Cx} {S:Sys P cx} {ops:Array Oper} {nb:Nat} {r:List Nat}
structure xT (ops:Array Oper) (x y:Oper):Prop where
 a:∀ d,x.dst=some d->d∉T2 ops y
 b:∀ d,y.dst=some d->d∉T2 ops x
 c:∀ d,x.dst=some d->y.dst≠some d
theorem aK3 {σ:St} {dst:Option Tmp} {e:Q6} {t:Nat} (h:dst≠some t):(σ.app dst e).F t=σ.F t:=by
 cases dst with
 | none=>rfl
 | some t'=>exact S8 _ _ (by rintro rfl; exact h rfl)
theorem eH {σ:St} {dst:Option Tmp} {e:Q6} {k:Nat} (h:e.l k=none):(σ.app dst e).L k=σ.L k:=by simp [St.app,h]
theorem hZ {σ:St} {d d':Option Tmp} {e e':Q6} (hd:∀ t,d=some t->d'≠some t) (hl:∀ k,e.l k=none\/e'.l k=none):(σ.app d e).app d' e'=(σ.app d' e').app d e:=by
 unfold St.app
 congr 1
 ·cases d with
  | none=>rfl
  | some t=>
   cases d' with
   | none=>rfl
   | some t'=>
    funext s
    have hne:t'≠t:=fun h=>hd t rfl (by rw [h])
    by_cases h1:s=t
    ·subst h1
     dsimp only
     rw [S8 _ _ (Ne.symm hne),dI,dI]
    ·by_cases h2:s=t'
     ·subst h2
      dsimp only
      rw [dI,S8 _ _ h1,dI]
     ·dsimp only
      rw [S8 _ _ h2,S8 _ _ h1,S8 _ _ h1,S8 _ _ h2]
 ·funext k
  rcases hl k with h | h
  ·simp only [h]
  ·simp only [h]
 ·funext k
  dsimp only
  cases σ.U k <;> cases (e.l k).isSome <;> cases (e'.l k).isSome <;> rfl
theorem hH {a b:List Nat} (h:aEq a b=true) {k:Nat} (ha:k∈a) (hb:k∈b):False:=by
 have:=aGo.1 (aGo.1 h k ha) k hb
 simp at this
theorem mH {a:List Nat} {tk:Nat} (h:aP4 a tk=true) {k:Nat} (ha:k∈a):k < tk\/tk + 8<=k:=by
 have:=aGo.1 h k ha
 simp [Nat.blt] at this
 omega
theorem Pl {i:Nat} {cl:Bool} {tk:Nat} {rd wr:List Nat} {p:Nat} {cp:Bool} {tp:Nat} {rp wp:List Nat} (h:xO r i cl tk rd wr (p,cp,tp,rp,wp)=true) (hr:inR r p i=false) :
  (cl=true->cp=true->False)/\(∀ k,k∈wp->k∈rd->False)/\(∀ k,k∈rp->k∈wr->False)/\(∀ k,k∈rd->k < tp\/tp + 8<=k)/\(∀ k,k∈rp->k < tk\/tk + 8<=k):=by
 unfold xO at h
 rw [aT1] at h
 rcases h with h | h
 ·exfalso
  have h:inR r p i=true:=h
  rw [hr] at h
  cases h
 ·simp only [aF5] at h
  obtain⟨⟨⟨⟨h1,h2⟩,h3⟩,h4⟩,h5⟩:=h
  refine⟨fun a b=>?_,fun k a b=>hH h2 a b,fun k a b=>hH h3 a b,fun k hk=>mH h4 hk,fun k hk=>mH h5 hk⟩
  rw [a,b] at h1
  cases h1
theorem Tv {i:Nat} {cl:Bool} {tk:Nat} {rd wr:List Nat} {lg:pF} {x:Nat×Bool×Nat×List Nat×List Nat} (h:Nj (some r) i cl tk rd wr (x :: lg)=true):xO r i cl tk rd wr x=true/\Nj (some r) i cl tk rd wr lg=true:=by
 unfold Nj at *
 simp only [List.all_cons,aF5] at h
 exact h
structure eO (tp ti:Nat) (ep ei:Q6) (rp ri:List Nat):Prop where
 pi:∀ k,k∈ri->ep.l k=none
 ip:∀ k,k∈rp->ei.l k=none
 ee:∀ k,ep.l k=none\/ei.l k=none
theorem eO.of {tp ti:Nat} {ep ei:Q6} {rp wp ri wi:List Nat} (hkp:∀ k,ep.l k≠none->k∈wp\/(tp<=k/\k < tp + 8)) (hsp:∀ k,k∈wp->k∈rp) (hki:∀ k,ei.l k≠none->k∈wi\/(ti<=k/\k < ti + 8)) (hsi:∀ k,k∈wi->k∈ri)
  (h:(∀ k,k∈wp->k∈ri->False)/\(∀ k,k∈rp->k∈wi->False)/\(∀ k,k∈ri->k < tp\/tp + 8<=k)/\(∀ k,k∈rp->k < ti\/ti + 8<=k)) (ht:tp + 8<=ti\/ti + 8<=tp):eO tp ti ep ei rp ri:=by
 obtain⟨h1,h2,h3,h4⟩:=h
 have pi:∀ k,k∈ri->ep.l k=none:=fun k hk=>by
  cases hx:ep.l k with
  | none=>rfl
  | some x=>
   rcases hkp k (by rw [hx]; simp) with h5 | h5
   ·exact (h1 k h5 hk).elim
   ·have:=h3 k hk; omega
 have ip:∀ k,k∈rp->ei.l k=none:=fun k hk=>by
  cases hx:ei.l k with
  | none=>rfl
  | some x=>
   rcases hki k (by rw [hx]; simp) with h5 | h5
   ·exact (h2 k hk h5).elim
   ·have:=h4 k hk; omega
 refine⟨pi,ip,fun k=>?_⟩
 cases hx:ep.l k with
 | none=>exact .inl rfl
 | some x=>
  right
  cases hy:ei.l k with
  | none=>rfl
  | some y=>
   rcases hkp k (by rw [hx]; simp) with h5 | h5
   ·exact absurd (ip k (hsp k h5)) (by rw [hy]; simp)
   ·rcases hki k (by rw [hy]; simp) with h6 | h6
    ·exact absurd (pi k (hsi k h6)) (by rw [hx]; simp)
    ·omega
theorem aHm (w:World) {Q:St->Prop} {i:Nat} {o:Oper} {po:List (Nat×Oper)}:∀ (pre:List (Nat×Oper)) (lg:pF) (σ:St),(∀ p∈pre,inR r p.1 i=false/\xT ops p.2 o/\p.1 < i)->
  Chain S ops (some r) nb (pre ++ (i,o) :: po) lg σ Q->
  (∃ rd wr e,SF S ops (nb + 8 * i) o σ rd wr e/\Nj (some r) i false (nb + 8 * i) rd wr lg=true/\Chain S ops (some r) nb (pre ++ po) lg (σ.app o.dst e) Q)\/
  (∃ rd wr E,SC S ops (nb + 8 * i) o σ rd wr E/\Nj (some r) i true (nb + 8 * i) rd wr lg=true/\(∃ e,E e)/\∀ e,E e->Chain S ops (some r) nb (pre ++ po) lg (σ.app o.dst e) Q)
 | [],lg,σ,_,h=>by
  rcases h with ⟨rd,wr,e,h1,h2,h3⟩ | ⟨rd,wr,E,h1,h2,h2',h3⟩
  ·exact .inl ⟨rd,wr,e,h1,h2,Chain.log (fun q hq=>aIz _ hq) h3⟩
  ·exact .inr ⟨rd,wr,E,h1,h2,h2' rfl,fun e he=>Chain.log (fun q hq=>aIz _ hq) (h3 e he)⟩
 | (p,op) :: pre,lg,σ,hp,h=>by
  obtain⟨hr,hap,hlt⟩:=hp (p,op) (aKw ..)
  have hp':∀ q∈pre,inR r q.1 i=false/\xT ops q.2 o/\q.1 < i:=fun q hq=>hp q (aIz _ hq)
  dsimp only at hr hap hlt
  have ht:nb + 8 * p + 8<=nb + 8 * i\/nb + 8 * i + 8<=nb + 8 * p:=by omega
  have hFi:∀ (e:Q6) t,t∈T2 ops o->(σ.app op.dst e).F t=σ.F t:=fun e t htr=>aK3 fun hd=>hap.a t hd htr
  have hFp:∀ (e:Q6) t,t∈T2 ops op->(σ.app o.dst e).F t=σ.F t:=fun e t htr=>aK3 fun hd=>hap.b t hd htr
  rcases h with ⟨rp,wp,ep,h1,h2,h3⟩ | ⟨rp,wp,Ep,h1,h2,h2',h3⟩
  ·rcases aHm w pre _ _ hp' h3 with ⟨rd,wr,e,k1,k2,k3⟩ | ⟨rd,wr,E,k1,k2,k2',k3⟩
   ·obtain⟨hpair,hok⟩:=Tv k2
    have hcl:=eO.of h1.key.1 h1.key.2 k1.key.1 k1.key.2 (Pl hpair hr).2 ht
    refine .inl ⟨rd,wr,e,k1.local (fun t htr=>(hFi ep t htr).symm) (fun k hk=>(eH (hcl.pi k hk)).symm),hok,.inl ⟨rp,wp,ep,h1.local (fun t htr=>hFp e t htr) (fun k hk=>eH (hcl.ip k hk)),h2,?_⟩⟩
    rw [hZ (fun t hd hd'=>hap.c t hd' hd) (fun k=>(hcl.ee k).symm)]
    exact k3
   ·obtain⟨hpair,hok⟩:=Tv k2
    have hcl:=fun e he=>eO.of h1.key.1 h1.key.2 (k1.key.1 e he) k1.key.2 (Pl hpair hr).2 ht
    obtain⟨e0,he0⟩:=k2'
    refine .inr ⟨rd,wr,E,k1.local (fun t htr=>(hFi ep t htr).symm) (fun k hk=>(eH ((hcl e0 he0).pi k hk)).symm),hok,⟨e0,he0⟩,fun e he=>.inl ⟨rp,wp,ep,h1.local (fun t htr=>hFp e t htr) (fun k hk=>eH ((hcl e he).ip k hk)),h2,?_⟩⟩
    rw [hZ (fun t hd hd'=>hap.c t hd' hd) (fun k=>((hcl e he).ee k).symm)]
    exact k3 e he
  ·obtain⟨e0,he0⟩:=h2' rfl
   rcases aHm w pre _ _ hp' (h3 e0 he0) with ⟨rd,wr,e,k1,k2,k3⟩ | ⟨rd,wr,E,k1,k2,k2',k3⟩
   ·obtain⟨hpair,hok⟩:=Tv k2
    have hcl0:=eO.of (h1.key.1 e0 he0) h1.key.2 k1.key.1 k1.key.2 (Pl hpair hr).2 ht
    have hs:SF S ops (nb + 8 * i) o σ rd wr e:=k1.local (fun t htr=>(hFi e0 t htr).symm) (fun k hk=>(eH (hcl0.pi k hk)).symm)
    refine .inl ⟨rd,wr,e,hs,hok,.inr ⟨rp,wp,Ep,h1.local (fun t htr=>hFp e t htr) (fun k hk=>eH (hcl0.ip k hk)),h2,h2',fun ep hep=>?_⟩⟩
    have hrd:rd=rdF ops o (σ.app op.dst ep):=by rw [aAg (hFi ep)]; exact hs.rdEq
    rcases aHm w pre _ _ hp' (h3 ep hep) with ⟨rd',wr',e',m1,m2,m3⟩ | ⟨rd',wr',E',m1,m2,m2',m3⟩
    ·have hrr:rd'=rd:=m1.rdEq.trans hrd.symm
     subst hrr
     have hpi:∀ k,k∈rd'->ep.l k=none:=(eO.of (h1.key.1 ep hep) h1.key.2 m1.key.1 m1.key.2 (Pl (Tv m2).1 hr).2 ht).pi
     obtain⟨-,rfl,rfl⟩:=m1.func w (hs.local (hFi ep) fun k hk=>eH (hpi k hk))
     have hcl:=eO.of (h1.key.1 ep hep) h1.key.2 m1.key.1 m1.key.2 (Pl (Tv m2).1 hr).2 ht
     rw [hZ (fun t hd hd'=>hap.c t hd' hd) (fun k=>(hcl.ee k).symm)]
     exact m3
    ·have hrr:∀ k,k∈rd->k∈rd':=fun k hk=>m1.rdSub k (hrd ▸ hk)
     obtain⟨em,hem⟩:=m2'
     have hpi:∀ k,k∈rd'->ep.l k=none:=(eO.of (h1.key.1 ep hep) h1.key.2 (m1.key.1 em hem) m1.key.2 (Pl (Tv m2).1 hr).2 ht).pi
     exact ((hs.local (hFi ep) fun k hk=>eH (hpi k (hrr k hk))).excl m1).elim
   ·exact ((Pl (Tv k2).1 hr).1 rfl rfl).elim
def R2 (ops:Array Oper):Nat->Nat->Nat->Bool
 | 0,_,_=>false
 | n + 1,p,i=>match ops[i]? with
  | some o=>o.after.any fun e=>Region.binds .any e && (Nat.beq e.on p || R2 ops n p e.on)
  | none=>false
def vD (ops:Array Oper) (x y:Oper):Bool:=
 (match x.dst with | some d=>!(T2 ops y).contains d && (match y.dst with | some d'=>!Nat.beq d d' | none=>true) | none=>true) && (match y.dst with | some d=>!(T2 ops x).contains d | none=>true)
theorem rT {x y:Oper} (h:vD ops x y=true):xT ops x y:=by
 unfold vD at h
 rw [aF5] at h
 obtain⟨h1,h2⟩:=h
 refine⟨fun d hd hm=>?_,fun d hd hm=>?_,fun d hd hd'=>?_⟩
 ·rw [hd] at h1
  simp only [aF5] at h1
  have:=h1.1
  simp [hm] at this
 ·rw [hd] at h2
  simp [hm] at h2
 ·rw [hd,hd'] at h1
  simp at h1
def fC (ms:List Nat):List Edge->Nat
 | []=>0
 | e :: l=>bif Region.binds .any e then ((1 <<< e.on) ||| ms.getD e.on 0) ||| fC ms l else fC ms l
def aN5:List Oper->List Nat->List Nat
 | [],ms=>ms
 | o :: l,ms=>aN5 l (ms ++ [fC ms o.after.toList])
def rJ (l:List Oper) (r:List Nat):Bool:=
 (aN5 l [] == r) &&
 ((Ft 0 l).all fun q=>(q.2.after.all fun e=>!Region.binds .any e || Nat.blt e.on q.1)) &&
 ((Ft 0 l).all fun q=>(Ft 0 l).all fun p=>!Nat.blt p.1 q.1 || inR r p.1 q.1 || vD l.toArray p.2 q.2)
theorem jB {ops:Array Oper} {p:Nat}:∀ {n i:Nat},R2 ops n p i=true->R2 ops (n + 1) p i=true
 | 0,_,h=>by simp [R2] at h
 | n + 1,i,h=>by
  unfold R2 at h ⊢
  cases ho:ops[i]? with
  | none=>rw [ho] at h; cases h
  | some o=>
   rw [ho] at h
   simp only [] at h ⊢
   rw [<- Array.any_toList] at h ⊢
   obtain⟨e,he,h1⟩:=aLm.1 h
   refine aLm.2 ⟨e,he,?_⟩
   simp only [aF5,aT1] at h1 ⊢
   exact⟨h1.1,h1.2.imp id fun h2=>jB h2⟩
theorem tC {ops:Array Oper} {p i n m:Nat} (h:R2 ops n p i=true) (hm:n<=m):R2 ops m p i=true:=by
 induction hm with
 | refl=>exact h
 | step _ ih=>exact jB ih
theorem dJ {ms:List Nat} {p:Nat}:∀ {l:List Edge},Nat.testBit (fC ms l) p=true->∃ e∈l,Region.binds .any e=true/\(p=e.on\/Nat.testBit (ms.getD e.on 0) p=true)
 | [],h=>by simp [fC] at h
 | e :: l,h=>by
  unfold fC at h
  cases hb:Region.binds .any e with
  | false=>
   rw [hb] at h
   obtain⟨e',h1,h2⟩:=dJ (l:=l) h
   exact⟨e',aIz _ h1,h2⟩
  | true=>
   rw [hb] at h
   simp only [aHj,Nat.testBit_or,aT1] at h
   rcases h with (h | h) | h
   ·refine⟨e,aKw ..,hb,.inl ?_⟩
    rw [Nat.testBit_shiftLeft] at h
    simp only [aF5,aU9] at h
    have h2:=h.2
    rw [Nat.testBit_one_eq_true_iff_self_eq_zero] at h2
    have:=h.1
    omega
   ·exact⟨e,aKw ..,hb,.inr h⟩
   ·obtain⟨e',h1,h2⟩:=dJ (l:=l) h
    exact⟨e',aIz _ h1,h2⟩
theorem mA {ops:Array Oper}:∀ (l:List Oper) (ms:List Nat),(∀ j o,l[j]?=some o->ops[ms.length + j]?=some o)->(∀ i p,i < ms.length->Nat.testBit (ms.getD i 0) p=true->R2 ops (i + 1) p i=true)->(∀ j o,l[j]?=some o->∀ e∈o.after,Region.binds .any e=true->e.on < ms.length + j)->
  ∀ i p,i < ms.length + l.length->Nat.testBit ((aN5 l ms).getD i 0) p=true->R2 ops (i + 1) p i=true
 | [],ms,_,h,_,i,p,hi,hb=>h i p (by simpa using hi) hb
 | o :: l,ms,hl,h,he,i,p,hi,hb=>by
  have h0:=hl 0 o rfl
  have step:∀ i p,i < (ms ++ [fC ms o.after.toList]).length->Nat.testBit ((ms ++ [fC ms o.after.toList]).getD i 0) p=true->R2 ops (i + 1) p i=true:=fun i p hi hb=>by
   rw [aF3,aFu] at hi
   rcases aU5 i ms.length with hlt | hge
   ·refine h i p hlt ?_
    rw [show (ms ++ [fC ms o.after.toList]).getD i 0=ms.getD i 0 by simp [List.getD,aF7 hlt]] at hb
    exact hb
   ·have hie:i=ms.length:=by omega
    subst hie
    have e1:(ms ++ [fC ms o.after.toList]).getD ms.length 0=fC ms o.after.toList:=by simp [List.getD]
    rw [e1] at hb
    obtain⟨e,h1,h2,h3⟩:=dJ hb
    have hon:=he 0 o rfl e (Array.mem_toList_iff.1 h1) h2
    unfold R2
    rw [show ops[ms.length]?=some o from h0]
    simp only []
    rw [<- Array.any_toList]
    refine aLm.2 ⟨e,h1,?_⟩
    simp only [aF5,aT1]
    refine⟨h2,?_⟩
    rcases h3 with h3 | h3
    ·exact .inl (by rw [h3]; exact aXq _)
    ·exact .inr (tC (h e.on p (by omega) h3) (by omega))
  refine mA l (ms ++ [fC ms o.after.toList]) (fun j o' h'=>?_) step (fun j o' h' e h1 h2=>?_) i p ?_ hb
  ·have:=hl (j + 1) o' h'
   rw [aF3,aFu]
   rwa [show ms.length + 1 + j=ms.length + (j + 1) by omega]
  ·have:=he (j + 1) o' h' e h1 h2
   rw [aF3,aFu]
   omega
  ·rw [aF3,aFu]
   simp only [aP9] at hi
   omega
theorem rM {L:List Oper} {r:List Nat} (hB:rJ L r=true) (p i:Nat) (hi:i < L.length) (h:inR r p i=true):R2 L.toArray L.length p i=true:=by
 simp only [rJ,aF5,aGo] at hB
 obtain⟨⟨h1,h2⟩,-⟩:=hB
 have h1:=eq_of_beq h1
 subst h1
 refine tC (mA (ops:=L.toArray) L [] (fun j o h=>by simpa using h) (fun i p hi=>by simp at hi) (fun j o h3 e h4 h5=>?_) i p (by simpa using hi) h) hi
 have:=h2 (j,o) (by have:=cC (k:=0) h3; simpa using this)
 have:=(aVz.1 this) e h4
 simp only [h5,aI7,bB6] at this
 have h6:=aC1 this
 have h6:e.on + 1<=j:=h6
 show e.on < 0 + j
 omega
def xL (ops:Array Oper) (s:Array Bool):Prop:=∀ j o,ops[j]?=some o->s.getD j true=true->∀ e∈o.after,Region.binds .any e=true->s.getD e.on false=true
theorem kP {s:Array Bool} (hs:xL ops s) (hsz:s.size=ops.size):∀ (n p i:Nat) (o:Oper),ops[i]?=some o->(∀ e∈o.after,Region.binds .any e=true->s.getD e.on false=true)->R2 ops n p i=true->s.getD p false=true
 | 0,_,_,_,_,_,h=>by simp [R2] at h
 | n + 1,p,i,o,ho,hd,h=>by
  unfold R2 at h
  rw [ho] at h
  simp only [] at h
  obtain⟨e,he,h1⟩:=aLm.1 (by rw [<- Array.any_toList] at h; exact h)
  simp only [aF5,aT1] at h1
  have he':e∈o.after:=Array.mem_toList_iff.1 he
  have hon:=hd e he' h1.1
  rcases h1.2 with h2 | h2
  ·rw [<- aFs h2]; exact hon
  ·cases hoj:ops[e.on]? with
   | none=>
    cases n <;> simp [R2,hoj] at h2
   | some oj=>
    have h3:s.getD e.on true=true:=by
     have hlt:e.on < s.size:=by rw [hsz]; exact (aF8.1 hoj).1
     simpa [hlt] using hon
    exact kP hs hsz n p e.on oj hoj (hs e.on oj hoj h3) h2
structure aR1 (ops:Array Oper) (s:Array Bool) (l:List (Nat×Oper)):Prop where
 size:s.size=ops.size
 pw:l.Pairwise fun a b=>a.1 < b.1
 mem:∀ q∈l,ops[q.1]?=some q.2/\s.getD q.1 true=false
 all:∀ i o,ops[i]?=some o->s.getD i true=false->(i,o)∈l
 closed:xL ops s
theorem iD {s:Array Bool} {i j:Nat} {b:Bool} (hi:i < s.size):(s.setIfInBounds i true).getD j b=if j=i then true else s.getD j b:=by
 by_cases h:j=i
 ·subst h
  simp [hi]
 ·simp [h,aTm,Ne.symm h]
theorem aFl {nn:Nat} (w0:World) {Q:Exit->St->Prop} {L:List Oper} {nb':Nat} (hB:rJ L r=true) (hd:oH cx.N L=true) (hn:nb + 8 * L.length<=nb'):∀ (n:Nat) (l:List (Nat×Oper)) (s:Array Bool) (σ:St) (a:Act) (w:World),l.length=n->aR1 L.toArray s l->
  Chain S L.toArray (some r) nb l [] σ (fun σ'=>(∀ j,nb'<=j->σ'.U j=false)->Q .normal σ')->bU nb l σ->(∀ j,nb'<=j->σ.U j=false)->O8 cx σ a w->wpAnyIn (FW cx.rr) nn P .any L.toArray (Uk cx Q) n s a w:=by
 have hBr:=rM hB
 simp only [rJ,aF5,aGo] at hB
 obtain⟨⟨hB1,hB2⟩,hB3⟩:=hB
 intro n
 induction n with
 | zero=>
  intro l s σ a w hl hL hc hf B ha
  obtain rfl:l=[]:=aF9 hl
  refine⟨?_,σ,hc B,ha⟩
  unfold Region.ready
  refine List.filter_eq_nil_iff.2 fun i hi hh=>?_
  simp only [aF5,aWr] at hh
  have hlt:i < L.toArray.size:=bA1.1 hi
  have:=hL.all i _ (aVs hlt) hh.1
  simp at this
 | succ n ih=>
  intro l s σ a w hl hL hc hf B ha
  have hready:∀ i o,(i,o)∈l->(∀ e∈o.after,Region.binds .any e=true->s.getD e.on false=true)->i∈Region.ready .any L.toArray s:=by
   intro i o hm hdone
   obtain⟨h1,h2⟩:=hL.mem _ hm
   dsimp only at h1 h2
   have hlt:i < L.toArray.size:=(aF8.1 h1).1
   unfold Region.ready
   refine List.mem_filter.2 ⟨bA1.2 hlt,?_⟩
   rw [h1,h2]
   simp only [aVw,bD1,aZk,Option.getD_some]
   rw [Array.all_eq_true]
   intro j hj
   cases hb:Region.binds .any o.after[j] with
   | false=>rfl
   | true=>simpa using hdone _ (Array.getElem_mem hj) hb
  refine⟨fun hemp=>?_,fun i hi=>?_⟩
  ·exfalso
   match l,hl with
   | (i,o) :: l',_=>
    have hm:=hL.mem (i,o) (aKw ..)
    have h0:(i,o)∈Ft 0 L:=by
     have:=cC (k:=0) (by simpa using hm.1:L[i]?=some o)
     simpa using this
    have hr:=hready i o (aKw ..) fun e he hb=>?_
    ·rw [hemp] at hr; cases hr
    ·have h1:=hB2 _ h0
     rw [aVz] at h1
     have h2:=h1 e he
     rw [hb] at h2
     simp [Nat.blt] at h2
     have hlt:e.on < L.toArray.size:=by
      have:=(aF8.1 hm.1).1
      dsimp only at this
      omega
     cases hc:s.getD e.on true with
     | true=>
      have:e.on < s.size:=by rw [hL.size]; exact hlt
      simpa [this] using hc
     | false=>
      exfalso
      have h3:=hL.all e.on _ (aVs hlt) hc
      rcases aF6.1 h3 with h4 | h4
      ·injection h4 with h4 _
       omega
      ·have:=(aYn.1 hL.pw).1 _ h4
       dsimp only at this
       omega
  ·unfold Region.ready at hi
   obtain⟨hi1,hi2⟩:=List.mem_filter.1 hi
   have hlt:i < L.toArray.size:=bA1.1 hi1
   simp only [aF5,aWr] at hi2
   obtain⟨o,ho⟩:∃ o,L.toArray[i]?=some o:=⟨_,aVs hlt⟩
   have hdone:∀ e∈o.after,Region.binds .any e=true->s.getD e.on false=true:=by
    intro e he hb
    have h1:=hi2.2
    rw [ho] at h1
    simp only [aZk,Option.getD_some] at h1
    rw [aVz] at h1
    have:=h1 e he
    rw [hb] at this
    simpa using this
   have hm:=hL.all i o ho hi2.1
   obtain⟨pre,po,rfl⟩:=List.append_of_mem hm
   have hpw:=hL.pw
   rw [bDu] at hpw
   obtain⟨hw1,hw2,hw3⟩:=hpw
   obtain⟨hw2a,hw2b⟩:=aYn.1 hw2
   have hisz:i < s.size:=by rw [hL.size]; exact hlt
   have hi0:(i,o)∈Ft 0 L:=by
    have:=cC (k:=0) (by simpa using ho:L[i]?=some o)
    simpa using this
   have hnot:∀ p∈pre,R2 L.toArray L.length p.1 i=true->False:=fun p hp hr=>by
    have h1:=kP hL.closed hL.size L.length p.1 i o ho hdone hr
    have h2:=(hL.mem p (aPy _ hp)).2
    have hps:p.1 < s.size:=by
     rw [hL.size]
     exact (aF8.1 (hL.mem p (aPy _ hp)).1).1
    simp [hps] at h1 h2
    rw [h1] at h2
    cases h2
   have hpre:∀ p∈pre,inR r p.1 i=false/\xT L.toArray p.2 o/\p.1 < i:=fun p hp=>by
    have hlt':p.1 < i:=hw3 p hp (i,o) (aKw ..)
    refine⟨Bool.eq_false_iff.2 fun hr=>hnot p hp (hBr p.1 i (by have:=(aBe.1 (show L[i]?=some o by simpa using ho)).1; exact this) hr),?_,hlt'⟩
    have hp0:p∈Ft 0 L:=by
     have:=cC (k:=0) (by simpa using (hL.mem p (aPy _ hp)).1:L[p.1]?=some p.2)
     simpa using this
    have:=hB3 _ hi0 _ hp0
    simp only [aT1,aWr] at this
    rcases this with (h1 | h1) | h1
    ·exact absurd (show Nat.blt p.1 i=true from aUg hlt') (by rw [h1]; simp)
    ·exact (hnot p hp (hBr p.1 i (by have:=(aBe.1 (show L[i]?=some o by simpa using ho)).1; exact this) h1)).elim
    ·exact rT h1
   have hL':aR1 L.toArray (s.setIfInBounds i true) (pre ++ po):=by
    refine⟨by simpa using hL.size,?_,?_,?_,?_⟩
    ·rw [bDu]
     exact⟨hw1,hw2b,fun x hx y hy=>hw3 x hx y (aIz _ hy)⟩
    ·intro q hq
     have hne:q.1≠i:=by
      rcases aKi.1 hq with hq | hq
      ·have:=hw3 q hq (i,o) (aKw ..)
       dsimp only at this
       omega
      ·have:=hw2a q hq
       dsimp only at this
       omega
     have hq':q∈pre ++ (i,o) :: po:=by
      rcases aKi.1 hq with hq | hq
      ·exact aPy _ hq
      ·exact aQo _ (aIz _ hq)
     refine⟨(hL.mem q hq').1,?_⟩
     rw [iD hisz,if_neg hne]
     exact (hL.mem q hq').2
    ·intro j oj hj hjs
     rw [iD hisz] at hjs
     split at hjs
     ·cases hjs
     ·rename_i hne
      have:=hL.all j oj hj hjs
      rcases aKi.1 this with h1 | h1
      ·exact aPy _ h1
      ·rcases aF6.1 h1 with h2 | h2
       ·injection h2 with h2 _
        exact (hne h2).elim
       ·exact aQo _ h2
    ·intro j oj hj hjs e he hb
     rw [iD hisz] at hjs ⊢
     split
     ·rfl
     ·split at hjs
      ·rename_i hji
       subst hji
       rw [ho] at hj
       injection hj with hj
       subst hj
       exact hdone e he hb
      ·exact hL.closed j oj hj hjs e he hb
   have hlen:(pre ++ po).length=n:=by simp at hl ⊢; omega
   have hdi:=dM (k:=0) hd _ hi0
   have hfi:=hf (i,o) hm
   have hfn:bU nb (pre ++ po) σ:=fun q hq=>hf q (by
    rcases aKi.1 hq with hq | hq
    ·exact aPy _ hq
    ·exact aQo _ (aIz _ hq))
   have hne:∀ q∈pre ++ po,q.1≠i:=fun q hq=>by
    rcases aKi.1 hq with hq | hq
    ·have:=hw3 q hq (i,o) (aKw ..)
     dsimp only at this
     omega
    ·have:=hw2a q hq
     dsimp only at this
     omega
   have hUn:∀ {e:Q6} {wr rd:List Nat},(∀ j,e.l j≠none->j∈wr\/(nb + 8 * i<=j/\j < nb + 8 * i + 8))->(∀ j,j∈wr->j∈rd)->(∀ j,j∈rd->σ.U j=true)->∀ j,nb'<=j->(σ.app o.dst e).U j=false:=fun {e wr rd} hk hs hu j hj=>by
    cases hc:(σ.app o.dst e).U j with
    | false=>rfl
    | true=>
     rcases yG hc with h1 | h1
     ·rw [B j hj] at h1; cases h1
     ·rcases hk j h1 with h2 | h2
      ·exact absurd (hu j (hs j h2)) (by rw [B j hj]; simp)
      ·have:i < L.length:=by simpa using hlt
       omega
   unfold wpOpIn
   rw [ho]
   simp only []
   obtain⟨ρ,ha'⟩:=ha
   rcases aHm w0 pre [] σ hpre hc with ⟨rd,wr,e,k1,-,k3⟩ | ⟨rd,wr,E,k1,-,-,k3⟩
   ·have:=k1.sound ha' hfi hdi.1 (wpAnyIn (FW cx.rr) nn P .any L.toArray (Uk cx Q) n (s.setIfInBounds i true)) (Uk cx Q) fun a' w' h'=>ih _ _ _ a' w' hlen hL' k3 (hfn.next k1.key.1 (fun j hj=>k1.used ha' j (k1.key.2 j hj)) hne) (hUn k1.key.1 k1.key.2 (k1.used ha')) h'
    split
    ·rename_i hw
     rw [if_pos hw] at this
     exact mM hdi.2 this
    ·rename_i hw
     rw [if_neg hw] at this
     exact⟨fun _ _=>trivial,this⟩
   ·have:=k1.sound ha' hfi hdi.1 (wpAnyIn (FW cx.rr) nn P .any L.toArray (Uk cx Q) n (s.setIfInBounds i true)) (Uk cx Q) fun e a' w' he h'=>ih _ _ _ a' w' hlen hL' (k3 e he) (hfn.next (k1.key.1 e he) (fun j hj=>k1.used ha' j (k1.key.2 j hj)) hne) (hUn (k1.key.1 e he) k1.key.2 (k1.used ha')) h'
    split
    ·rename_i hw
     rw [if_pos hw] at this
     exact mM hdi.2 this
    ·rename_i hw
     rw [if_neg hw] at this
     exact⟨fun _ _=>trivial,this⟩
theorem Ca (S:Sys P cx) {Q:Exit->St->Prop} {id:Nat} {l:List Oper} {σ:St} (hm:P.follows .mixedOrders=true) (r:List Nat) (nb nb':Nat) (B:∀ k,nb<=k->σ.U k=false) (hn:Nat.ble (nb + 8 * l.length) nb'=true) (hd:oH cx.N l=true) (hB:rJ l r=true)
  (h:Chain S l.toArray (some r) nb (Ft 0 l) [] σ (fun σ'=>(∀ j,nb'<=j->σ'.U j=false)->Q .normal σ')):Kb P cx (.region id l.toArray true) Q σ:=by
 intro nn a w ha
 have hn':nb + 8 * l.length<=nb':=aC1 hn
 refine wpIn_region_any hm ?_
 obtain⟨ρ,h1⟩:=ha
 have ha':O8 cx σ a { w with drawn:=w.drawn + 1 }:=⟨ρ,h1.defers,h1.size,h1.kept,fun t d hd=>Dk.step (w:=w) (w':={ w with drawn:=w.drawn + 1 }) (I':=O1 cx σ ρ { w with drawn:=w.drawn + 1 }) (fun b hb=>⟨hb,rfl⟩) d _ (fun _ _=>rfl) (h1.fr t d hd),fun k lb hl=>(h1.lo k lb hl).step (w':={ w with drawn:=w.drawn + 1 }) (I':=O1 cx σ ρ { w with drawn:=w.drawn + 1 }) (fun b hb=>⟨hb,rfl⟩) (fun _ _=>rfl) (fun _ _=>rfl),h1.sep,h1.usedF,h1.usedL,h1.pin,h1.fresh,h1.glo⟩
 have:=aFl (nn:=nn) w (Q:=Q) hB hd hn' l.toArray.size (Ft 0 l) (Array.replicate l.toArray.size false) σ a _ (by rw [iK]; simp) ⟨by simp,aEz l 0,fun q hq=>?_,fun i o ho _=>?_,fun j o ho hs=>?_⟩ h (fun q hq j hj=>B _ (by omega)) (fun j hj=>B j (by omega)) ha'
 ·exact this
 ·have h2:=Yd hq
  have h3:q.1 < l.length:=by have:=h2.2.1; omega
  refine⟨by simpa using h2.2.2,?_⟩
  simp [h3]
 ·have:=cC (k:=0) (by simpa using ho:l[i]?=some o)
  simpa using this
 ·have hlt:j < l.length:=by simpa using (aF8.1 ho).1
  simp [hlt] at hs
end
end Go.Proofs.YtboglmbblmakjaaGreatDoor
