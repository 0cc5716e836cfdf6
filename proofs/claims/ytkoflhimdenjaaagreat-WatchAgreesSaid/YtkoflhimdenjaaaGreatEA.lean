import Derived.LoopN
import Derived.Test.YtkoflhimdenjaaaGreatMem
import Derived.Orders
import Derived.Tactics
set_option linter.unusedVariables false
set_option linter.unusedSimpArgs false
namespace Go.Proofs.YtkoflhimdenjaaaGreat
open Go.RowKit
inductive DV where
 | val (v:Value)
 | sl (sz:Nat) (cs:List C)
 | slc (sz:Nat) (cs:List C)
 | row (k:Nat)
 | part (k off n:Nat)
 | ptr (k i:Nat)
 | elt (cs:List C)
 | agg (ds:List DV)
 | tup (ds:List DV)
 | clo (f:FuncId) (n:Nat) (ds:List DV)
 | mp (l:List (Value×Value))
inductive LB where
 | box (ds:List DV) (ty:TypeId)
 | row (e:TypeId) (sz:Nat) (cs:List C)
 | map (l:List (Value×Value))
 | mit (k n:Nat) (seen:List Nat)
 | vec (ds:List DV) (e:TypeId)
def Dh:Value->Option Nat
 | .slice (some a) _ (_ + 1)=>some a.block
 | .pointer (some a)=>some a.block
 | .map (some g)=>some g
 | _=>none
theorem Fm {a:Addr} {n c g:Nat} (h:Dh (.slice (some a) n c)=some g):a.block=g/\0 < c:=by
 cases c with
 | zero=>cases h
 | succ c=>injection h with h; exact⟨h,Nat.succ_pos c⟩
theorem Jk {a:Addr} {n c:Nat} (h:0 < c):Dh (.slice (some a) n c)=some a.block:=by
 cases c with
 | zero=>cases h
 | succ c=>rfl
def _root_.Go.World.rowOk (w:World) (e:TypeId) (sz:Nat) (v:Value) (n:Nat) (us:List Value):Prop:=
 us.length=n * sz/\((∃ A,v=.slice A 0 0/\n=0)\/∃ g cap cur,v=.slice (some ⟨g,0,none⟩) n cap/\0 < cap/\w.heap[g]?=some (.cells cur e (0,0))/\n<=cap/\cap<=maxLen/\cur.size=cap * sz/\cur.toList.take (n * sz)=us)
theorem _root_.Go.World.rowOk_of {w:World} {base e sz n:Nat} {v:Value} {us:List Value} (h:w.ownsRow base e sz v n us):w.rowOk e sz v n us:=by
 refine⟨h.1,?_⟩
 rcases h.2 with ⟨rfl,rfl⟩ | ⟨g,cap,cur,rfl,-,h2,h3,h4⟩
 ·exact .inl ⟨none,rfl,rfl⟩
 ·rcases aHp cap with h0 | h0
  ·subst h0
   have:n=0:=by omega
   subst this
   exact .inl ⟨_,rfl,rfl⟩
  ·exact .inr ⟨g,cap,cur,rfl,h0,h2,h3,h4⟩
theorem _root_.Go.World.rowOk_nil (w:World) (e sz:Nat) (A:Option Addr):w.rowOk e sz (.slice A 0 0) 0 []:=⟨by simp,.inl ⟨A,rfl,rfl⟩⟩
mutual
def men:DV->Nat->Prop
 | .row k,j=>j=k
 | .part k _ _,j=>j=k
 | .ptr k _,j=>j=k
 | .agg ds,j=>Fr ds j
 | .tup ds,j=>Fr ds j
 | .clo _ _ ds,j=>Fr ds j
 | .val _,_=>False
 | .sl _ _,_=>False
 | .slc _ _,_=>False
 | .mp _,_=>False
 | .elt _,_=>False
def Fr:List DV->Nat->Prop
 | [],_=>False
 | d :: ds,j=>men d j\/Fr ds j
end
def Rp:LB->Nat->Prop
 | .box ds _,j=>Fr ds j
 | .row ..,_=>False
 | .map _,_=>False
 | .mit k _ _,j=>j=k
 | .vec ds _,j=>Fr ds j
section
variable (ρ:Nat->Value) (I:Nat->Prop) (w:World)
mutual
def C4:DV->Value->Prop
 | .val x,v=>v=x/\Ez x=true
 | .sl sz cs,v=>E3 w I (.sl sz cs) v
 | .slc sz cs,v=>E3 w I (.sl sz cs) v/\∃ A n,v=.slice A n n/\cs.length=n * sz
 | .mp l,v=>E3 w I (.mp l) v
 | .row k,v=>v=ρ k/\(ρ k).oneCell'=true
 | .part k off n,v=>∃ A c,v=.slice A n c/\n<=c/\c<=maxLen/\(0 < n->∃ g,Dh (ρ k)=some g/\A=some ⟨g,off,none⟩)/\(off=0->∀ A' N c',ρ k=.slice A' N c'->A=A'/\c=c')
 | .ptr k i,v=>∃ g,Dh (ρ k)=some g/\v=.pointer (some ⟨g,i,none⟩)
 | .elt cs,v=>∃ ad,v=.pointer (some ad)/\I ad.block/\Kp w I ad 0 cs
 | .agg ds,v=>∃ vs,v=.agg vs.toArray/\(∀ u∈vs,u.oneCell'=true)/\Cg ds vs
 | .tup ds,v=>∃ vs,v=.tuple vs.toArray/\Cg ds vs
 | .clo f n ds,v=>∃ vs,v=.func (.func f) (vs.take n).toArray (vs.drop n).toArray/\Cg ds vs
def Cg:List DV->List Value->Prop
 | [],vs=>vs=[]
 | d :: ds,vs=>∃ u us,vs=u :: us/\C4 d u/\Cg ds us
end
end
section
variable {ρ ρ':Nat->Value} {I I':Nat->Prop} {w w':World}
mutual
theorem C4.step (hI:∀ b,I b->I' b/\w'.heap[b]?=w.heap[b]?):∀ (d:DV) (v:Value),(∀ k,men d k->ρ' k=ρ k)->C4 ρ I w d v->C4 ρ' I' w' d v
 | .val _,_,_,h=>by unfold C4 at *; exact h
 | .sl _ _,v,_,h=>by
  unfold C4 at *
  exact E3.keep_ (fun b hb=>(hI b hb).2) (fun b hb=>(hI b hb).1) _ _ h
 | .mp _,v,_,h=>by
  unfold C4 at *
  exact E3.keep_ (fun b hb=>(hI b hb).2) (fun b hb=>(hI b hb).1) _ _ h
 | .slc _ _,v,_,h=>by
  unfold C4 at *
  exact⟨E3.keep_ (fun b hb=>(hI b hb).2) (fun b hb=>(hI b hb).1) _ _ h.1,h.2⟩
 | .row k,_,hm,h=>by
  unfold C4 at *
  rw [hm k (by unfold men; rfl)]
  exact h
 | .part k _ _,_,hm,h=>by
  unfold C4 at *
  obtain⟨A,c,h1,h2,h3,h4,h5⟩:=h
  rw [hm k (by unfold men; rfl)]
  exact⟨A,c,h1,h2,h3,h4,h5⟩
 | .ptr k _,_,hm,h=>by
  unfold C4 at *
  rw [hm k (by unfold men; rfl)]
  exact h
 | .elt _,_,_,h=>by
  unfold C4 at *
  obtain⟨ad,h1,h2,h3⟩:=h
  exact⟨ad,h1,(hI _ h2).1,Kp.keep_ (fun b hb=>(hI b hb).2) (fun b hb=>(hI b hb).1) ad h2 _ 0 h3⟩
 | .agg ds,_,hm,h=>by
  unfold C4 at *
  obtain⟨vs,h1,h2,h3⟩:=h
  exact⟨vs,h1,h2,Cg.step hI ds vs (fun k hk=>hm k (by unfold men; exact hk)) h3⟩
 | .tup ds,_,hm,h=>by
  unfold C4 at *
  obtain⟨vs,h1,h3⟩:=h
  exact⟨vs,h1,Cg.step hI ds vs (fun k hk=>hm k (by unfold men; exact hk)) h3⟩
 | .clo _ _ ds,_,hm,h=>by
  unfold C4 at *
  obtain⟨vs,h1,h3⟩:=h
  exact⟨vs,h1,Cg.step hI ds vs (fun k hk=>hm k (by unfold men; exact hk)) h3⟩
theorem Cg.step (hI:∀ b,I b->I' b/\w'.heap[b]?=w.heap[b]?):∀ (ds:List DV) (vs:List Value),(∀ k,Fr ds k->ρ' k=ρ k)->Cg ρ I w ds vs->Cg ρ' I' w' ds vs
 | [],_,_,h=>by unfold Cg at *; exact h
 | d :: ds,_,hm,h=>by
  unfold Cg at *
  obtain⟨u,us,h1,h2,h3⟩:=h
  exact⟨u,us,h1,C4.step hI d u (fun k hk=>hm k (by unfold Fr; exact .inl hk)) h2,Cg.step hI ds us (fun k hk=>hm k (by unfold Fr; exact .inr hk)) h3⟩
end
end
theorem Cg.length {ρ:Nat->Value} {I:Nat->Prop} {w:World}:∀ {ds:List DV} {vs:List Value},Cg ρ I w ds vs->ds.length=vs.length
 | [],vs,h=>by unfold Cg at h; rw [h]; rfl
 | d :: ds,vs,h=>by
  unfold Cg at h
  obtain⟨u,us,rfl,-,h3⟩:=h
  simp [Cg.length h3]
theorem Cg.at_ {ρ:Nat->Value} {I:Nat->Prop} {w:World}:∀ {ds:List DV} {vs:List Value} (_:Cg ρ I w ds vs) {i:Nat} {d:DV} (_:ds[i]?=some d),∃ v,vs[i]?=some v/\C4 ρ I w d v
 | [],vs,h,i,d,hd=>by simp at hd
 | d :: ds,vs,h,0,d',hd=>by
  unfold Cg at h
  obtain⟨u,us,rfl,h2,h3⟩:=h
  simp at hd
  subst hd
  exact⟨u,rfl,h2⟩
 | d :: ds,vs,h,i + 1,d',hd=>by
  unfold Cg at h
  obtain⟨u,us,rfl,h2,h3⟩:=h
  have:=Cg.at_ h3 (i:=i) (d:=d') (by simpa using hd)
  simpa using this
structure St where
 F:Nat->Option DV
 L:Nat->Option LB
 U:Nat->Bool
structure Cx where
 w0:World
 I:Nat->Prop
 ρ0:Nat->Value
 np:Nat
 nq:Nat
 N:Nat
def Cx.M (cx:Cx) (b:Nat):Prop:=∃ k,k < cx.nq/\Dh (cx.ρ0 k)=some b
def Cx.G (cx:Cx) (b:Nat):Prop:=∃ k,cx.np<=k/\k < cx.nq/\Dh (cx.ρ0 k)=some b
def Cx.Kept (cx:Cx) (w:World):Prop:=
 w.os=cx.w0.os/\w.tape=cx.w0.tape/\w.output=cx.w0.output/\cx.w0.heap.size<=w.heap.size/\∀ b,b < cx.w0.heap.size->¬ cx.M b->w.heap[b]?=cx.w0.heap[b]?
def Loc (σ:St) (ρ:Nat->Value) (b:Nat):Prop:=∃ k lb,σ.L k=some lb/\Dh (ρ k)=some b
def Ms (cx:Cx) (σ:St) (ρ:Nat->Value) (w:World) (b:Nat):Prop:=b < w.heap.size/\¬ Loc σ ρ b/\(b < cx.w0.heap.size->cx.I b\/cx.G b)
def Ta (cx:Cx) (ρ:Nat->Value) (I:Nat->Prop) (w:World) (v:Value):LB->Prop
 | .box ds ty=>∃ b vs,v=.pointer (some ⟨b,0,none⟩)/\w.heap[b]?=some (.cells vs.toArray ty)/\(cx.w0.heap.size<=b\/cx.M b)/\(∀ u∈vs,u.oneCell'=true)/\Cg ρ I w ds vs
 | .row e sz cs=>∃ n us,w.rowOk e sz v n us/\(∀ b,Dh v=some b->cx.w0.heap.size<=b\/cx.M b)/\Gp w I cs us
 | .map l=>∃ g,v=.map (some g)/\V0 w g l/\(cx.w0.heap.size<=g\/cx.M g)
 | .mit k n seen=>∃ b g,v=.pointer (some ⟨b,0,none⟩)/\ρ k=.map (some g)/\w.heap[b]?=some (.mapIter (some g) n seen.toArray n)/\(cx.w0.heap.size<=b\/cx.M b)
 | .vec ds e=>∃ b vs,v=.slice (some ⟨b,0,none⟩) vs.length vs.length/\(0 < vs.length/\vs.length<=maxLen)/\w.heap[b]?=some (.cells vs.toArray e)/\(cx.w0.heap.size<=b\/cx.M b)/\(∀ u∈vs,u.oneCell'=true)/\Cg ρ I w ds vs
theorem Ta.blk {cx:Cx} {ρ:Nat->Value} {I:Nat->Prop} {w:World} {v:Value} {lb:LB} (h:Ta cx ρ I w v lb) {b:Nat} (hb:Dh v=some b):b < w.heap.size/\(cx.w0.heap.size<=b\/cx.M b):=by
 cases lb with
 | box ds ty=>
  obtain⟨b',vs,rfl,h2,h3,-⟩:=h
  simp [Dh] at hb
  subst hb
  exact⟨(aHg.1 h2).1,h3⟩
 | row e sz cs=>
  obtain⟨n,us,ho,hM,-⟩:=h
  have hM:=hM b hb
  rcases ho.2 with ⟨A,rfl,-⟩ | ⟨g,cap,cur,rfl,h1,h2,-⟩
  ·cases A <;> cases hb
  ·obtain⟨rfl,-⟩:=Fm hb
   exact⟨(aHg.1 h2).1,hM⟩
 | map l=>
  obtain⟨g,rfl,⟨es,h2,-⟩,h3⟩:=h
  injection hb with hb
  subst hb
  exact⟨(aHg.1 h2).1,h3⟩
 | mit k n seen=>
  obtain⟨b',g,rfl,-,h2,h3⟩:=h
  injection hb with hb
  subst hb
  exact⟨(aHg.1 h2).1,h3⟩
 | vec ds e=>
  obtain⟨b',vs,rfl,-,h2,h3,-⟩:=h
  obtain⟨rfl,-⟩:=Fm hb
  exact⟨(aHg.1 h2).1,h3⟩
theorem Ta.step {cx:Cx} {ρ ρ':Nat->Value} {I I':Nat->Prop} {w w':World} {v:Value} {lb:LB} (h:Ta cx ρ I w v lb) (hI:∀ b,I b->I' b/\w'.heap[b]?=w.heap[b]?) (hρ:∀ k,Rp lb k->ρ' k=ρ k)
  (hb:∀ b,Dh v=some b->w'.heap[b]?=w.heap[b]?):Ta cx ρ' I' w' v lb:=by
 cases lb with
 | box ds ty=>
  obtain⟨b',vs,rfl,h2,h3,h4,h5⟩:=h
  exact⟨b',vs,rfl,(hb b' rfl).trans h2,h3,h4,Cg.step hI ds vs hρ h5⟩
 | row e sz cs=>
  obtain⟨n,us,ho,hM,hr⟩:=h
  refine⟨n,us,⟨ho.1,?_⟩,hM,hr.keep_ (fun b hb=>(hI b hb).2) fun b hb=>(hI b hb).1⟩
  rcases ho.2 with h1 | ⟨g,cap,cur,rfl,h1,h2,h3⟩
  ·exact .inl h1
  ·exact .inr ⟨g,cap,cur,rfl,h1,(hb g (Jk h1)).trans h2,h3⟩
 | map l=>
  obtain⟨g,rfl,h2,h3⟩:=h
  exact⟨g,rfl,h2.keep (hb g rfl),h3⟩
 | mit k n seen=>
  obtain⟨b',g,rfl,h1,h2,h3⟩:=h
  exact⟨b',g,rfl,(hρ k rfl).trans h1,(hb b' rfl).trans h2,h3⟩
 | vec ds e=>
  obtain⟨b',vs,rfl,h1,h2,h3,h4,h5⟩:=h
  exact⟨b',vs,rfl,h1,(hb b' (Jk h1.1)).trans h2,h3,h4,Cg.step hI ds vs hρ h5⟩
structure Em (cx:Cx) (ρ:Nat->Value) (σ:St) (a:Act) (w:World):Prop where
 defers:a.defers=[]
 size:a.tmps.size=cx.N
 kept:cx.Kept w
 fr:∀ t d,σ.F t=some d->C4 ρ (Ms cx σ ρ w) w d (a.tmps.getD t undef)
 lo:∀ k lb,σ.L k=some lb->Ta cx ρ (Ms cx σ ρ w) w (ρ k) lb
 sep:∀ k k' lb lb' b,σ.L k=some lb->σ.L k'=some lb'->Dh (ρ k)=some b->Dh (ρ k')=some b->k=k'
 usedF:∀ t d k,σ.F t=some d->men d k->σ.U k=true
 usedL:∀ k lb,σ.L k=some lb->σ.U k=true/\∀ k',Rp lb k'->σ.U k'=true
 pin:∀ k,k < cx.np->ρ k=cx.ρ0 k/\σ.U k=true
 fresh:∀ k lb b,σ.L k=some lb->cx.np<=k->Dh (ρ k)=some b->cx.w0.heap.size<=b\/cx.G b
def K2 (cx:Cx) (σ:St) (a:Act) (w:World):Prop:=∃ ρ,Em cx ρ σ a w
structure Mn where
 d:Option DV
 l:Nat->Option (Option LB)
def upd {α:Type} (f:Nat->Option α) (t:Nat) (x:Option α):Nat->Option α:=fun s=>bif Nat.beq s t then x else f s
def St.app (σ:St) (dst:Option Tmp) (e:Mn):St where
 F:=match dst with | some t=>upd σ.F t e.d | none=>σ.F
 L:=fun k=>match e.l k with | some x=>x | none=>σ.L k
 U:=fun k=>σ.U k || (e.l k).isSome
theorem Xn {α:Type} (f:Nat->Option α) (t:Nat) (x:Option α):upd f t x t=x:=by simp [upd]
theorem Oj {α:Type} (f:Nat->Option α) {t s:Nat} (x:Option α) (h:s≠t):upd f t x s=f s:=by
 unfold upd
 cases hb:Nat.beq s t with
 | false=>rfl
 | true=>exact absurd (aEk hb) h
section
variable {cx:Cx} {ρ ρ':Nat->Value} {σ:St} {a:Act} {w w':World}
theorem Em.app (h:Em cx ρ σ a w) {dst:Option Tmp} {e:Mn} {v:Value} (hk:cx.Kept w') (hsz:w.heap.size<=w'.heap.size) (hdst:∀ t,dst=some t->t < cx.N)
  (hρ:∀ k,σ.U k=true->ρ' k=ρ k)
  (hheap:∀ b,b < w.heap.size->(∀ k lb,e.l k≠none->σ.L k=some lb->Dh (ρ k)≠some b)->w'.heap[b]?=w.heap[b]?)
  (hblk:∀ k lb b,e.l k=some (some lb)->Dh (ρ' k)=some b->w.heap.size<=b\/∃ k' lb',e.l k'≠none/\σ.L k'=some lb'/\Dh (ρ k')=some b)
  (hsep:∀ k k' lb lb' b,e.l k=some (some lb)->e.l k'=some (some lb')->Dh (ρ' k)=some b->Dh (ρ' k')=some b->k=k')
  (hnew:(∀ b,Ms cx σ ρ w b->Ms cx (σ.app dst e) ρ' w' b/\w'.heap[b]?=w.heap[b]?)->(∀ b,w.heap.size<=b->b < w'.heap.size->(∀ k lb,e.l k=some (some lb)->Dh (ρ' k)≠some b)->Ms cx (σ.app dst e) ρ' w' b)->
   (∀ k lb,e.l k=some (some lb)->Ta cx ρ' (Ms cx (σ.app dst e) ρ' w') w' (ρ' k) lb)/\∀ d,e.d=some d->C4 ρ' (Ms cx (σ.app dst e) ρ' w') w' d v)
  (hu:(∀ k lb k',e.l k=some (some lb)->Rp lb k'->σ.U k'=true\/e.l k'≠none)/\∀ d k',e.d=some d->men d k'->σ.U k'=true\/e.l k'≠none)
  (hfr:∀ k lb b,e.l k=some (some lb)->cx.np<=k->Dh (ρ' k)=some b->cx.w0.heap.size<=b\/cx.G b) :
  Em cx ρ' (σ.app dst e) (a.put dst v) w':=by
 have hLs:∀ k,e.l k=none->(σ.app dst e).L k=σ.L k:=fun k hk=>by simp [St.app,hk]
 have hLn:∀ k x,e.l k=some x->(σ.app dst e).L k=x:=fun k x hk=>by simp [St.app,hk]
 have B:∀ k,σ.U k=true\/e.l k≠none->(σ.app dst e).U k=true:=fun k hk=>by
  simp only [St.app,aJf,Option.isSome_iff_ne_none]; exact hk
 have hloc:∀ b,b < w.heap.size->Loc (σ.app dst e) ρ' b->Loc σ ρ b:=by
  rintro b hb ⟨k,lb,h1,h2⟩
  cases hek:e.l k with
  | none=>
   rw [hLs k hek] at h1
   exact⟨k,lb,h1,by rw [<- hρ k (h.usedL k lb h1).1]; exact h2⟩
  | some x=>
   rw [hLn k x hek] at h1
   subst h1
   rcases hblk k lb b hek h2 with h3 | ⟨k',lb',h3,h4,h5⟩
   ·omega
   ·exact⟨k',lb',h4,h5⟩
 have hI:∀ b,Ms cx σ ρ w b->Ms cx (σ.app dst e) ρ' w' b/\w'.heap[b]?=w.heap[b]?:=fun b hb=>
  ⟨⟨aJx hb.1 hsz,fun hl=>hb.2.1 (hloc b hb.1 hl),hb.2.2⟩,hheap b hb.1 fun k lb _ h2 h3=>hb.2.1 ⟨k,lb,h2,h3⟩⟩
 have hI2:∀ b,w.heap.size<=b->b < w'.heap.size->(∀ k lb,e.l k=some (some lb)->Dh (ρ' k)≠some b)->Ms cx (σ.app dst e) ρ' w' b:=by
  rintro b h1 h2 h3
  refine⟨h2,?_,fun hlt=>by have:=h.kept.2.2.2.1; omega⟩
  rintro⟨k,lb,h4,h5⟩
  cases hek:e.l k with
  | none=>
   rw [hLs k hek] at h4
   rw [hρ k (h.usedL k lb h4).1] at h5
   have:=((h.lo k lb h4).blk h5).1
   omega
  | some x=>
   rw [hLn k x hek] at h4
   subst h4
   exact h3 k lb hek h5
 obtain⟨hn1,hn2⟩:=hnew hI hI2
 refine⟨?_,?_,hk,?_,?_,?_,?_,?_,fun k hk'=>⟨(hρ k (h.pin k hk').2).trans (h.pin k hk').1,B k (.inl (h.pin k hk').2)⟩,fun k lb b h1 h2 h3=>?_⟩
 ·cases dst <;> exact h.defers
 ·cases dst with
  | none=>exact h.size
  | some t=>simpa [Act.put] using h.size
 ·intro t d hd
  have old:σ.F t=some d->C4 ρ' (Ms cx (σ.app dst e) ρ' w') w' d (a.tmps.getD t undef):=fun hd=>C4.step hI d _ (fun k hk=>hρ k (h.usedF t d k hd hk)) (h.fr t d hd)
  cases dst with
  | none=>exact old hd
  | some t'=>
   by_cases ht:t=t'
   ·subst ht
    have hd':e.d=some d:=by simpa [St.app,upd] using hd
    have:=hdst t rfl
    have e1:(a.put (some t) v).tmps.getD t undef=v:=by
     have h0:t < a.tmps.size:=by rw [h.size]; exact this
     simp [Act.put,h0]
    rw [e1]
    exact hn2 d hd'
   ·have hd':σ.F t=some d:=by have:=hd; simp only [St.app] at this; rwa [Oj _ _ ht] at this
    have e1:(a.put (some t') v).tmps.getD t undef=a.tmps.getD t undef:=by
     simp [Act.put,aJ0,Ne.symm ht]
    rw [e1]
    exact old hd'
 ·intro k lb hl
  cases hek:e.l k with
  | none=>
   rw [hLs k hek] at hl
   have hu:=h.usedL k lb hl
   rw [hρ k hu.1]
   refine (h.lo k lb hl).step hI (fun k' hk'=>hρ k' (hu.2 k' hk')) fun b hb=>hheap b ((h.lo k lb hl).blk hb).1 fun k' lb' h1 h2 h3=>?_
   have:=h.sep k' k lb' lb b h2 hl h3 hb
   subst this
   exact h1 hek
  | some x=>
   rw [hLn k x hek] at hl
   subst hl
   exact hn1 k lb hek
 ·intro k k' lb lb' b h1 h2 h3 h4
  cases hek:e.l k with
  | none=>
   rw [hLs k hek] at h1
   rw [hρ k (h.usedL k lb h1).1] at h3
   cases hek':e.l k' with
   | none=>
    rw [hLs k' hek'] at h2
    rw [hρ k' (h.usedL k' lb' h2).1] at h4
    exact h.sep k k' lb lb' b h1 h2 h3 h4
   | some x=>
    rw [hLn k' x hek'] at h2
    subst h2
    exfalso
    rcases hblk k' lb' b hek' h4 with h5 | ⟨k2,lb2,h5,h6,h7⟩
    ·have:=((h.lo k lb h1).blk h3).1
     omega
    ·have:=h.sep k k2 lb lb2 b h1 h6 h3 h7
     subst this
     exact h5 hek
  | some x=>
   rw [hLn k x hek] at h1
   subst h1
   cases hek':e.l k' with
   | none=>
    rw [hLs k' hek'] at h2
    rw [hρ k' (h.usedL k' lb' h2).1] at h4
    exfalso
    rcases hblk k lb b hek h3 with h5 | ⟨k2,lb2,h5,h6,h7⟩
    ·have:=((h.lo k' lb' h2).blk h4).1
     omega
    ·have:=h.sep k' k2 lb' lb2 b h2 h6 h4 h7
     subst this
     exact h5 hek'
   | some y=>
    rw [hLn k' y hek'] at h2
    subst h2
    exact hsep k k' lb lb' b hek hek' h3 h4
 ·intro t d k hd hm
  have old:σ.F t=some d->(σ.app dst e).U k=true:=fun hd=>B k (.inl (h.usedF t d k hd hm))
  cases dst with
  | none=>exact old hd
  | some t'=>
   by_cases ht:t=t'
   ·subst ht
    have hd':e.d=some d:=by simpa [St.app,upd] using hd
    exact B k (hu.2 d k hd' hm)
   ·exact old (by have:=hd; simp only [St.app] at this; rwa [Oj _ _ ht] at this)
 ·intro k lb hl
  cases hek:e.l k with
  | none=>
   rw [hLs k hek] at hl
   exact⟨B k (.inl (h.usedL k lb hl).1),fun k' hk'=>B k' (.inl ((h.usedL k lb hl).2 k' hk'))⟩
  | some x=>
   rw [hLn k x hek] at hl
   subst hl
   exact⟨B k (.inr (by rw [hek]; simp)),fun k' hk'=>B k' (hu.1 k lb k' hek hk')⟩
 ·cases hek:e.l k with
  | none=>
   rw [hLs k hek] at h1
   rw [hρ k (h.usedL k lb h1).1] at h3
   exact h.fresh k lb b h1 h2 h3
  | some x=>
   rw [hLn k x hek] at h1
   subst h1
   exact hfr k lb b hek h2 h3
def iR (d:Option DV):Mn:=⟨d,fun _=>none⟩
theorem Em.put0 (h:Em cx ρ σ a w) {dst:Option Tmp} {d:Option DV} {v:Value} (hdst:∀ t,dst=some t->t < cx.N)
  (hd:∀ x,d=some x->C4 ρ (Ms cx σ ρ w) w x v) (hu:∀ x k,d=some x->men x k->σ.U k=true):Em cx ρ (σ.app dst (iR d)) (a.put dst v) w:=by
 refine h.app h.kept (aHl _) hdst (fun _ _=>rfl) (fun _ _ _=>rfl) (fun k lb b h1=>by simp [Go.Proofs.YtkoflhimdenjaaaGreat.iR] at h1) (fun k k' lb lb' b h1=>by simp [Go.Proofs.YtkoflhimdenjaaaGreat.iR] at h1) (fun hI _=>⟨fun k lb h1=>by simp [Go.Proofs.YtkoflhimdenjaaaGreat.iR] at h1,fun x hx=>?_⟩) ⟨fun k lb k' h1=>by simp [Go.Proofs.YtkoflhimdenjaaaGreat.iR] at h1,fun x k hx hm=>.inl (hu x k hx hm)⟩ (fun k lb b h1=>by simp [Go.Proofs.YtkoflhimdenjaaaGreat.iR] at h1)
 exact C4.step hI x v (fun _ _=>rfl) (hd x hx)
end
end Go.Proofs.YtkoflhimdenjaaaGreat
namespace Go.Proofs.YtkoflhimdenjaaaGreat
open Go.RowKit
theorem hZ {p:Nat->Prop} (h:∃ n,p n):∃ n,p n/\∀ m,p m->n<=m:=by
 obtain⟨n,hn⟩:=h
 induction n using Nat.strongRecOn with
 | _ n ih=>
  by_cases hm:∃ m,m < n/\p m
  ·obtain⟨m,h1,h2⟩:=hm
   exact ih m h1 h2
  ·exact⟨n,hn,fun m hpm=>Nat.le_of_not_lt fun hlt=>hm ⟨m,hlt,hpm⟩⟩
open Classical in
noncomputable def least (p:Nat->Prop):Nat:=if h:∃ n,p n then Classical.choose (hZ h) else 0
theorem Zp {p:Nat->Prop} (h:∃ n,p n):p (least p)/\∀ m,p m->least p<=m:=by
 unfold least
 rw [dif_pos h]
 exact aJ5 (hZ h)
def Pt (cx:Cx) (σ σ':St):Prop:=∀ a w,K2 cx σ a w->K2 cx σ' a w
theorem Pt.refl (cx:Cx) (σ:St):Pt cx σ σ:=fun _ _ h=>h
theorem Pt.trans {cx:Cx} {a b c:St} (h:Pt cx a b) (k:Pt cx b c):Pt cx a c:=fun _ _ x=>k _ _ (h _ _ x)
def Sk (cx:Cx) (Q:Exit->St->Prop):Exit->Act->World->Prop:=fun e a w=>∃ σ,Q e σ/\K2 cx σ a w
def B4 (P:Program) (cx:Cx) (c:Code) (Q:Exit->St->Prop) (σ:St):Prop:=∀ a w,K2 cx σ a w->c.wp P (Sk cx Q) a w
def qJ (next:St->Prop) (Q:Exit->St->Prop):Exit->St->Prop
 | .normal,σ=>next σ
 | .exit i,σ=>Q (.exit i) σ
 | .goto i,σ=>Q (.goto i) σ
 | .ret,σ=>Q .ret σ
 | .panic c,σ=>Q (.panic c) σ
 | .outgrown,σ=>Q .outgrown σ
def zR (id:Nat) (Q:Exit->St->Prop):Exit->St->Prop
 | .normal,σ=>Q .normal σ
 | .exit i,σ=>if i=id then Q .normal σ else Q (.exit i) σ
 | .goto i,σ=>Q (.goto i) σ
 | .ret,σ=>Q .ret σ
 | .panic c,σ=>Q (.panic c) σ
 | .outgrown,σ=>Q .outgrown σ
section
variable {P:Program} {cx:Cx} {Q:Exit->St->Prop} {σ σ':St} {x y:Code}
theorem Ey (h:Pt cx σ σ') (hx:B4 P cx x Q σ'):B4 P cx x Q σ:=fun a w ha=>hx a w (h a w ha)
theorem Ak (hx:B4 P cx x (qJ (B4 P cx y Q) Q) σ):B4 P cx (.seq x y) Q σ:=by
 intro a w ha
 refine wp_seq (Code.wp_mono ?_ (hx a w ha))
 rintro e a' w' ⟨σ',q,h'⟩
 cases e with
 | normal=>exact q a' w' h'
 | _=>exact⟨σ',q,h'⟩
theorem Jg {t:Nat} {b:Bool} (hc:σ.F t=some (.val (.bool b))) (h1:b=true->B4 P cx x Q σ) (h2:b=false->B4 P cx y Q σ):B4 P cx (.cond (.tmp t) x y) Q σ:=by
 intro a w ha
 obtain⟨ρ,h⟩:=ha
 have hb:=h.fr t _ hc
 unfold C4 at hb
 exact wp_cond_split (t:=b) hb.1 (fun e=>h1 e a w ⟨ρ,h⟩) (fun e=>h2 e a w ⟨ρ,h⟩)
theorem oD {b:Bool} (h1:b=true->B4 P cx x Q σ) (h2:b=false->B4 P cx y Q σ):B4 P cx (.cond (.const (.bool b)) x y) Q σ:=by
 intro a w ha
 exact wp_cond_split (t:=b) rfl (fun e=>h1 e a w ha) (fun e=>h2 e a w ha)
theorem Aq {id:Nat} (h:B4 P cx x (zR id Q) σ):B4 P cx (.block id x) Q σ:=by
 intro a w ha
 refine wp_block (Code.wp_mono ?_ (h a w ha))
 rintro e a' w' ⟨σ',q,h'⟩
 cases e with
 | exit i=>
  simp only [zR] at q
  simp only [Exit.inBlock]
  split
  ·rename_i hi
   rw [if_pos hi] at q
   exact⟨σ',q,h'⟩
  ·rename_i hi
   rw [if_neg hi] at q
   exact⟨σ',q,h'⟩
 | _=>exact⟨σ',q,h'⟩
theorem uZ {id:Nat} (h:Q (.exit id) σ):B4 P cx (.exit id) Q σ:=fun _ _ ha=>wp_exit ⟨σ,h,ha⟩
theorem fJ (h:Q .ret σ):B4 P cx .ret Q σ:=fun _ _ ha=>wp_ret ⟨σ,h,ha⟩
theorem tZ (h:Q .normal σ):B4 P cx .skip Q σ:=fun _ _ ha=>wp_skip ⟨σ,h,ha⟩
theorem tG {Q':Exit->St->Prop} (hq:∀ e σ,Q e σ->Q' e σ) (h:B4 P cx x Q σ):B4 P cx x Q' σ:=fun a w ha=>
 Code.wp_mono (fun _ _ _ ⟨σ',q,h'⟩=>⟨σ',hq _ _ q,h'⟩) (h a w ha)
def xW (P:Program) (cx:Cx) (x:Code) (Q:Exit->St->Prop):Nat->St->Prop
 | 0,_=>False
 | n + 1,σ=>B4 P cx x (qJ (xW P cx x Q n) Q) σ
theorem Yp {n:Nat} (h:B4 P cx x (qJ (xW P cx x Q n) Q) σ):xW P cx x Q (n + 1) σ:=h
theorem lH (n:Nat) (h:xW P cx x Q n σ):B4 P cx (.loop x) Q σ:=by
 intro a w ha
 refine wp_loop_rounds n ?_
 induction n generalizing σ a w with
 | zero=>exact h.elim
 | succ n ih=>
  rw [rounds_succ]
  refine Code.wp_mono ?_ (h a w ha)
  rintro e a' w' ⟨σ',q,h'⟩
  cases e with
  | normal=>exact ih q a' w' h'
  | _=>exact⟨σ',q,h'⟩
theorem rD {ι:Type} (inv:ι->St) (ok:ι->Prop) (μ:ι->Nat) (i0:ι) (h0:Pt cx σ (inv i0)) (hi0:ok i0)
  (round:∀ i,ok i->B4 P cx x (qJ (fun σ'=>∃ j,μ j < μ i/\ok j/\Pt cx σ' (inv j)) Q) (inv i)):B4 P cx (.loop x) Q σ:=by
 intro a w ha
 refine wp_loop (fun a w=>∃ i,ok i/\K2 cx (inv i) a w) (fun a w=>least fun n=>∃ i,μ i=n/\ok i/\K2 cx (inv i) a w) ⟨i0,hi0,h0 a w ha⟩ ?_
 rintro a w ⟨i,hi,hA⟩
 have hs:=Zp (p:=fun n=>∃ i,μ i=n/\ok i/\K2 cx (inv i) a w) ⟨μ i,i,rfl,hi,hA⟩
 obtain⟨⟨i',h1,h2,h3⟩,-⟩:=hs
 refine Code.wp_mono ?_ (round i' h2 a w h3)
 rintro e a' w' ⟨σ',q,h'⟩
 cases e with
 | normal=>
  obtain⟨j,q1,q2,q3⟩:=q
  refine⟨⟨j,q2,q3 a' w' h'⟩,?_⟩
  have:=(Zp (p:=fun n=>∃ i,μ i=n/\ok i/\K2 cx (inv i) a' w') ⟨μ j,j,rfl,q2,q3 a' w' h'⟩).2 (μ j) ⟨j,rfl,q2,q3 a' w' h'⟩
  show _ < _
  omega
 | _=>exact⟨σ',q,h'⟩
end
def Fx {α:Type}:List (Nat×α)->Nat->Option α
 | [],_=>none
 | (k,x) :: l,s=>bif Nat.beq s k then some x else Fx l s
def mk (fl:List (Nat×DV)) (ll:List (Nat×LB)) (n:Nat):St:=⟨Fx fl,Fx ll,fun k=>Nat.blt k n⟩
inductive bY:Option Nat->DV->C->Prop
 | int {s k n}:bY s (.val (.int k n)) (.int k n)
 | bool {s b}:bY s (.val (.bool b)) (.bool b)
 | str {s x}:bY s (.val (.string x)) (.str x)
 | sl {s sz cs}:bY s (.sl sz cs) (.sl sz cs)
 | mp {s l}:bY s (.mp l) (.mp l)
 | nil {sz}:bY (some sz) (.val (.slice none 0 0)) (.sl sz [])
 | ptr {s a}:bY s (.val (.pointer a)) (.raw (.pointer a))
 | func {s f a b}:bY s (.val (.func f a b)) (.raw (.func f a b))
 | nilF {s}:bY s (.val .nilFunc) (.raw .nilFunc)
 | nilI {s}:bY s (.val .nilIface) (.raw .nilIface)
inductive Kz:List (Option Nat)->List DV->List C->Prop
 | nil {ks}:Kz ks [] []
 | cons {k ks d c ds cs} (h:bY k d c) (hs:Kz ks ds cs):Kz (k :: ks) (d :: ds) (c :: cs)
section
variable {ρ:Nat->Value} {w:World}
theorem bY.rd {I:Nat->Prop} {k:Option Nat} {d:DV} {c:C} {v:Value} (h:bY k d c) (hr:C4 ρ I w d v):E3 w I c v:=by
 cases h with
 | int=>unfold C4 at hr; unfold E3; exact⟨hr.1,Io.1 hr.2⟩
 | bool=>unfold C4 at hr; unfold E3; exact hr.1
 | str=>unfold C4 at hr; unfold E3; exact⟨hr.1,Q9.1 hr.2⟩
 | sl=>unfold C4 at hr; exact hr
 | mp=>unfold C4 at hr; exact hr
 | nil=>unfold C4 at hr; rw [hr.1]; exact E3.nil_ _
 | ptr=>unfold C4 at hr; unfold E3; exact⟨hr.1,rfl,rfl⟩
 | func=>unfold C4 at hr; unfold E3; exact⟨hr.1,rfl,rfl⟩
 | nilF=>unfold C4 at hr; unfold E3; exact⟨hr.1,rfl,rfl⟩
 | nilI=>unfold C4 at hr; unfold E3; exact⟨hr.1,rfl,rfl⟩
theorem Kz.rd {I:Nat->Prop}:∀ {ks:List (Option Nat)} {ds:List DV} {cs:List C} {vs:List Value} (_:Kz ks ds cs) (_:Cg ρ I w ds vs),Gp w I cs vs
 | _,_,_,vs,.nil,hr=>by
  unfold Cg at hr
  subst hr
  exact⟨rfl,fun j c u h _=>by simp at h⟩
 | _,_,_,vs,.cons h hs,hr=>by
  unfold Cg at hr
  obtain⟨u,us,rfl,h1,h2⟩:=hr
  have:=Kz.rd hs h2
  refine⟨by simpa using this.1,fun j c u' a b=>?_⟩
  cases j with
  | zero=>simp at a b; subst a b; exact h.rd h1
  | succ j=>exact this.2 j c u' (by simpa using a) (by simpa using b)
end
mutual
inductive Cv (σ:St) (θ:Nat->Option Nat):DV->DV->Prop
 | val (v:Value):Cv σ θ (.val v) (.val v)
 | sl (sz:Nat) (cs:List C):Cv σ θ (.sl sz cs) (.sl sz cs)
 | slc (sz:Nat) (cs:List C):Cv σ θ (.slc sz cs) (.sl sz cs)
 | slcc (sz:Nat) (cs:List C):Cv σ θ (.slc sz cs) (.slc sz cs)
 | mp (l:List (Value×Value)):Cv σ θ (.mp l) (.mp l)
 | frzM {j:Nat} {l:List (Value×Value)} (h:σ.L j=some (.map l)) (h':∀ k,θ k≠some j):Cv σ θ (.row j) (.mp l)
 | elt (cs:List C):Cv σ θ (.elt cs) (.elt cs)
 | row {j k:Nat} (h:θ k=some j):Cv σ θ (.row j) (.row k)
 | part {j k off n:Nat} (h:θ k=some j):Cv σ θ (.part j off n) (.part k off n)
 | ptr {j k i:Nat} (h:θ k=some j):Cv σ θ (.ptr j i) (.ptr k i)
 | nil {k:Nat} (h:θ k=none):Cv σ θ (.val (.slice none 0 0)) (.row k)
 | nils (sz:Nat):Cv σ θ (.val (.slice none 0 0)) (.sl sz [])
 | agg {ds ds':List DV} (h:Sn σ θ ds ds'):Cv σ θ (.agg ds) (.agg ds')
 | tup {ds ds':List DV} (h:Sn σ θ ds ds'):Cv σ θ (.tup ds) (.tup ds')
 | clo (f:FuncId) (n:Nat) {ds ds':List DV} (h:Sn σ θ ds ds'):Cv σ θ (.clo f n ds) (.clo f n ds')
 | frz {j:Nat} {e sz cs} (h:σ.L j=some (.row e sz cs)) (h':∀ k,θ k≠some j):Cv σ θ (.row j) (.sl sz cs)
 | frzb {j i:Nat} {ds:List DV} {ty:TypeId} {ks:List (Option Nat)} {cs:List C} (h:σ.L j=some (.box ds ty)) (hc:Kz ks ds cs) (h':∀ k,θ k≠some j):Cv σ θ (.ptr j i) (.elt (cs.drop i))
 | rowP {j k n:Nat} {e sz cs} (h:θ k=some j) (hL:σ.L j=some (.row e sz cs)) (hz:0 < sz) (hn:cs.length=n * sz):Cv σ θ (.row j) (.part k 0 n)
 | partR {j k n:Nat} {e sz cs} (h:θ k=some j) (hL:σ.L j=some (.row e sz cs)) (hz:0 < sz) (hn:cs.length=n * sz):Cv σ θ (.part j 0 n) (.row k)
 | frzp {j off n:Nat} {e sz cs} (h:σ.L j=some (.row e sz cs)) (h':∀ k,θ k≠some j) (hn:off + n * sz<=cs.length):Cv σ θ (.part j off n) (.sl sz ((cs.drop off).take (n * sz)))
inductive Sn (σ:St) (θ:Nat->Option Nat):List DV->List DV->Prop
 | nil:Sn σ θ [] []
 | cons {d d' ds ds'} (h:Cv σ θ d d') (hs:Sn σ θ ds ds'):Sn σ θ (d :: ds) (d' :: ds')
end
def CvB (σ:St) (θ:Nat->Option Nat):LB->LB->Prop
 | .box ds ty,.box ds' ty'=>ty=ty'/\Sn σ θ ds ds'
 | .row e sz cs,.row e' sz' cs'=>e=e'/\sz=sz'/\cs=cs'
 | .map l,.map l'=>l=l'
 | .mit k n s,.mit k' n' s'=>θ k'=some k/\n=n'/\s=s'
 | .vec ds e,.vec ds' e'=>e=e'/\Sn σ θ ds ds'
 | _,_=>False
def Uq (θ:Nat->Option Nat) (ρ:Nat->Value) (k:Nat):Value:=match θ k with | some j=>ρ j | none=>.slice none 0 0
theorem jW.cells {w:World} {e sz n:Nat} {v:Value} {us:List Value} {I:Nat->Prop} {cs:List C} (ho:w.rowOk e sz v n us) (hr:Gp w I cs us) {J:Nat->Prop} (hI:∀ b,I b->J b) (hb:∀ b,Dh v=some b->J b):E3 w J (.sl sz cs) v:=by
 have hl:cs.length=n * sz:=by rw [hr.1,ho.1]
 rcases ho.2 with ⟨A,rfl,rfl⟩ | ⟨g,cap,cur,rfl,h1,G,hn,hm,hs,ht⟩
 ·exact E3.mk_slice hl (aHl _) (aI3 _) fun h=>absurd h (Nat.lt_irrefl 0)
 ·refine E3.mk_slice hl hn hm fun _=>⟨⟨g,0,none⟩,rfl,hb g (Jk h1),fun j c hj=>?_⟩
  have hjl:j < us.length:=by rw [<- hr.1]; exact (aBn.1 hj).1
  have hu:us[j]?=some us[j]:=aA9 hjl
  refine⟨us[j],?_,(hr.2 j c _ hj hu).mono hI⟩
  have key:∀ u,us[j]?=some u->w.cell? ⟨g,j,none⟩=some u:=by
   intro u hu
   rw [<- ht,aH4] at hu
   split at hu
   ·simpa [World.cell?,G] using hu
   ·cases hu
  have e1:=key _ hu
  unfold Addr.add
  split
  ·rename_i h0; subst h0; exact e1
  ·simpa using e1
theorem gH {w:World} {e sz n:Nat} {v:Value} {us:List Value} {I:Nat->Prop} {cs:List C} (ho:w.rowOk e sz v n us) (hr:Gp w I cs us) {J:Nat->Prop} (hI:∀ b,I b->J b) (hb:∀ b,Dh v=some b->J b)
  {off m c:Nat} {A:Option Addr} (hm:off + m * sz<=cs.length) (hmc:m<=c) (hc:c<=maxLen) (hA:0 < m->∃ g,Dh v=some g/\A=some ⟨g,off,none⟩):E3 w J (.sl sz ((cs.drop off).take (m * sz))) (.slice A m c):=by
 refine E3.mk_slice (by rw [aEl,aHh]; omega) hmc hc fun h0=>?_
 obtain⟨g,G,rfl⟩:=hA h0
 refine⟨_,rfl,hb g G,fun j x hj=>?_⟩
 have hj':cs[off + j]?=some x:=by
  rw [aH4] at hj
  split at hj
  ·rwa [aIn] at hj
  ·cases hj
 have hjl:off + j < us.length:=by rw [<- hr.1]; exact (aBn.1 hj').1
 have hu:us[off + j]?=some us[off + j]:=aA9 hjl
 refine⟨us[off + j],?_,(hr.2 _ x _ hj' hu).mono hI⟩
 rcases ho.2 with ⟨A,rfl,-⟩ | ⟨g',cap,cur,rfl,h1,hg',hn,hm,hs,ht⟩
 ·cases A <;> cases G
 ·obtain⟨G,-⟩:=Fm G
  dsimp only at G
  subst G
  have key:∀ u,us[off + j]?=some u->w.cell? ⟨g',off + j,none⟩=some u:=by
   intro u hu
   rw [<- ht,aH4] at hu
   split at hu
   ·simpa [World.cell?,hg'] using hu
   ·cases hu
  have e1:=key _ hu
  unfold Addr.add
  split
  ·rename_i h0; subst h0; simpa using e1
  ·exact e1
section
variable {cx:Cx} {ρ:Nat->Value} {σ:St} {a:Act} {w:World} {θ:Nat->Option Nat} {I':Nat->Prop}
mutual
theorem Cv.rep (h:Em cx ρ σ a w) (hI:∀ b,Ms cx σ ρ w b->I' b) (hfz:∀ j lb b,σ.L j=some lb->(∀ k,θ k≠some j)->Dh (ρ j)=some b->I' b):∀ {d d':DV} (_:Cv σ θ d d') (v:Value),C4 ρ (Ms cx σ ρ w) w d v->C4 (Uq θ ρ) I' w d' v
 | _,_,.val _,_,hr=>by unfold C4 at *; exact hr
 | _,_,.sl _ _,v,hr=>by unfold C4 at *; exact E3.mono hr hI
 | _,_,.slc _ _,v,hr=>by unfold C4 at *; exact E3.mono hr.1 hI
 | _,_,.slcc _ _,v,hr=>by unfold C4 at *; exact⟨E3.mono hr.1 hI,hr.2⟩
 | _,_,.mp _,v,hr=>by unfold C4 at *; exact E3.mono hr hI
 | _,_,.frzM hL h',v,hr=>by
  unfold C4 at *
  rw [hr.1]
  obtain⟨g,q1,q2,-⟩:=h.lo _ _ hL
  unfold E3
  exact⟨g,q1,hfz _ _ g hL h' (by rw [q1]; rfl),q2⟩
 | _,_,.elt _,v,hr=>by
  unfold C4 at *
  obtain⟨ad,h1,h2,h3⟩:=hr
  exact⟨ad,h1,hI _ h2,Kp.keep_ (fun _ _=>rfl) hI ad h2 _ 0 h3⟩
 | _,_,.row hk,v,hr=>by unfold C4 at *; simpa [Uq,hk] using hr
 | _,_,.part hk,v,hr=>by
  unfold C4 at *
  obtain⟨A,c,h1,h2,h3,h4,h5⟩:=hr
  exact⟨A,c,h1,h2,h3,fun hn=>by simpa [Uq,hk] using h4 hn,fun h0 A' N c' hv=>h5 h0 A' N c' (by simpa [Uq,hk] using hv)⟩
 | _,_,.ptr hk,v,hr=>by
  unfold C4 at *
  simpa [Uq,hk] using hr
 | _,_,.nil hk,v,hr=>by unfold C4 at *; rw [hr.1]; simp [Uq,hk,Value.oneCell']
 | _,_,.nils sz,v,hr=>by unfold C4 at *; rw [hr.1]; exact E3.nil_ sz
 | _,_,.agg hs,v,hr=>by
  unfold C4 at *
  obtain⟨vs,h1,h2,h3⟩:=hr
  exact⟨vs,h1,h2,Sn.rep h hI hfz hs vs h3⟩
 | _,_,.tup hs,v,hr=>by
  unfold C4 at *
  obtain⟨vs,h1,h3⟩:=hr
  exact⟨vs,h1,Sn.rep h hI hfz hs vs h3⟩
 | _,_,.clo _ _ hs,v,hr=>by
  unfold C4 at *
  obtain⟨vs,h1,h3⟩:=hr
  exact⟨vs,h1,Sn.rep h hI hfz hs vs h3⟩
 | _,_,.frz hL h',v,hr=>by
  unfold C4 at *
  rw [hr.1]
  obtain⟨n,us,ho,-,hu⟩:=h.lo _ _ hL
  exact jW.cells ho hu hI fun b hb=>hfz _ _ b hL h' hb
 | _,_,.frzb (j:=j) (i:=i) hL hc h',v,hr=>by
  unfold C4 at *
  obtain⟨g,G,rfl⟩:=hr
  obtain⟨b,vs,q1,q2,-,q4,q5⟩:=h.lo _ _ hL
  rw [q1] at G
  injection G with G
  subst G
  have hu:=Kz.rd hc q5
  have hu':=hu.keep_ (fun _ _=>rfl) hI
  refine⟨_,rfl,hfz _ _ b hL h' (by rw [q1]; rfl),Kp.of_at _ 0 fun k c hk=>?_⟩
  rw [aIn] at hk
  have hlt:i + k < vs.length:=by rw [<- hu.1]; exact (aBn.1 hk).1
  refine⟨vs[i + k],?_,hu'.2 _ c _ hk (aA9 hlt)⟩
  have ha:(⟨b,i,none⟩:Addr).add (0 + k)=⟨b,i + k,none⟩:=by
   rw [aJa]
   unfold Addr.add
   split
   ·rename_i h0; subst h0; rfl
   ·rfl
  rw [ha]
  simp [World.cell?,q2,hlt]
 | _,_,.rowP (j:=j) (k:=k) (n:=n) (sz:=sz) hk hL hz hn,v,hr=>by
  unfold C4 at *
  obtain⟨n',us,ho,-,hu⟩:=h.lo _ _ hL
  have hl:=hu.1
  rw [ho.1,hn] at hl
  have hnn:n=n':=aHu hz hl
  subst hnn
  have e1:Uq θ ρ k=ρ j:=by simp [Uq,hk]
  rw [e1]
  rcases ho.2 with ⟨A,h1,h2⟩ | ⟨g,cap,cur,h0,h1,G,h3,hm,hs,ht⟩
  ·have h5:n=0:=h2
   subst h5
   rw [h1] at hr ⊢
   refine⟨A,0,hr.1,aHl _,aI3 _,fun h=>by omega,fun _ A' N c' hv=>?_⟩
   injection hv with h5 h6 h7
   exact⟨h5,h7⟩
  ·rw [h0] at hr ⊢
   refine⟨_,cap,hr.1,h3,hm,fun _=>⟨g,Jk h1,rfl⟩,fun _ A' N c' hv=>?_⟩
   injection hv with h5 h6 h7
   exact⟨h5,h7⟩
 | _,_,.partR (j:=j) (k:=k) (n:=n) (sz:=sz) hk hL hz hn,v,hr=>by
  unfold C4 at *
  obtain⟨A,c,h1,h2,h3,h4,h5⟩:=hr
  obtain⟨n',us,ho,-,hu⟩:=h.lo _ _ hL
  have hl:=hu.1
  rw [ho.1,hn] at hl
  have hnn:n=n':=aHu hz hl
  subst hnn
  have e1:∃ A' c',ρ j=.slice A' n c':=by
   rcases ho.2 with ⟨A,h6,h7⟩ | ⟨g,cap,cur,h6,-⟩
   ·have h9:n=0:=h7
    rw [h9]
    exact⟨_,_,h6⟩
   ·exact⟨_,_,h6⟩
  obtain⟨A',c',e1⟩:=e1
  obtain⟨rfl,rfl⟩:=h5 rfl A' _ c' e1
  have e2:Uq θ ρ k=ρ j:=by simp [Uq,hk]
  rw [e2,e1]
  exact⟨h1,rfl⟩
 | _,_,.frzp hL h' hn,v,hr=>by
  unfold C4 at *
  obtain⟨A,c,rfl,h2,h3,h4,-⟩:=hr
  obtain⟨n,us,ho,-,hu⟩:=h.lo _ _ hL
  exact gH ho hu hI (fun b hb=>hfz _ _ b hL h' hb) hn h2 h3 h4
theorem Sn.rep (h:Em cx ρ σ a w) (hI:∀ b,Ms cx σ ρ w b->I' b) (hfz:∀ j lb b,σ.L j=some lb->(∀ k,θ k≠some j)->Dh (ρ j)=some b->I' b):∀ {ds ds':List DV} (_:Sn σ θ ds ds') (vs:List Value),Cg ρ (Ms cx σ ρ w) w ds vs->Cg (Uq θ ρ) I' w ds' vs
 | _,_,.nil,_,hr=>by unfold Cg at *; exact hr
 | _,_,.cons hd hs,vs,hr=>by
  unfold Cg at *
  obtain⟨u,us,h1,h2,h3⟩:=hr
  exact⟨u,us,h1,Cv.rep h hI hfz hd u h2,Sn.rep h hI hfz hs us h3⟩
end
end
theorem Em.ren {cx:Cx} {σ σ':St} {ρ:Nat->Value} {a:Act} {w:World} (h:Em cx ρ σ a w) (θ:Nat->Option Nat) (hF:∀ t d',σ'.F t=some d'->∃ d,σ.F t=some d/\Cv σ θ d d')
  (hL:∀ k lb',σ'.L k=some lb'->(∃ j lb,θ k=some j/\σ.L j=some lb/\CvB σ θ lb lb')\/(θ k=none/\∃ e sz,lb'=.row e sz []))
  (hinj:∀ k k' j,θ k=some j->θ k'=some j->k=k')
  (hpin:∀ k,k < cx.np->θ k=some k/\σ'.U k=true) (hUF:∀ t d k,σ'.F t=some d->men d k->σ'.U k=true) (hUL:∀ k lb,σ'.L k=some lb->σ'.U k=true/\∀ k',Rp lb k'->σ'.U k'=true) :
  Em cx (Go.Proofs.YtkoflhimdenjaaaGreat.Uq θ ρ) σ' a w/\∀ d d' v,Cv σ θ d d'->C4 ρ (Ms cx σ ρ w) w d v->C4 (Go.Proofs.YtkoflhimdenjaaaGreat.Uq θ ρ) (Ms cx σ' (Go.Proofs.YtkoflhimdenjaaaGreat.Uq θ ρ) w) w d' v:=by
 have hloc:∀ b,Loc σ' (Go.Proofs.YtkoflhimdenjaaaGreat.Uq θ ρ) b->∃ k j lb,θ k=some j/\σ.L j=some lb/\Dh (ρ j)=some b:=by
  rintro b ⟨k,lb',h1,h2⟩
  rcases hL k lb' h1 with ⟨j,lb,h3,h4,-⟩ | ⟨h3,-⟩
  ·exact⟨k,j,lb,h3,h4,by simpa [Go.Proofs.YtkoflhimdenjaaaGreat.Uq,h3] using h2⟩
  ·simp [Go.Proofs.YtkoflhimdenjaaaGreat.Uq,h3,Dh] at h2
 have hI:∀ b,Ms cx σ ρ w b->Ms cx σ' (Go.Proofs.YtkoflhimdenjaaaGreat.Uq θ ρ) w b:=fun b hb=>⟨hb.1,fun hl=>by
  obtain⟨k,j,lb,-,h2,h3⟩:=hloc b hl
  exact hb.2.1 ⟨j,lb,h2,h3⟩,hb.2.2⟩
 have hfz:∀ j lb b,σ.L j=some lb->(∀ k,θ k≠some j)->Dh (ρ j)=some b->Ms cx σ' (Go.Proofs.YtkoflhimdenjaaaGreat.Uq θ ρ) w b:=fun j lb b h1 h2 h3=>⟨((h.lo j _ h1).blk h3).1,fun hl=>by
  obtain⟨k,j',lb',h4,h5,h6⟩:=hloc b hl
  have:=h.sep j j' _ lb' b h1 h5 h3 h6
  subst this
  exact h2 k h4,fun hlt=>by
  rcases aJv j cx.np with hj | hj
  ·exact (h2 j (hpin j hj).1).elim
  ·rcases h.fresh j _ b h1 hj h3 with h4 | h4
   ·omega
   ·exact .inr h4⟩
 refine⟨⟨h.defers,h.size,h.kept,?_,?_,?_,hUF,hUL,fun k hk=>⟨by rw [<- (h.pin k hk).1]; simp [Go.Proofs.YtkoflhimdenjaaaGreat.Uq,(hpin k hk).1],(hpin k hk).2⟩,?_⟩,fun d d' v hc hr=>hc.rep h hI hfz v hr⟩
 ·intro t d' hd'
  obtain⟨d,h1,h2⟩:=hF t d' hd'
  exact h2.rep h hI hfz _ (h.fr t d h1)
 ·intro k lb' hl
  rcases hL k lb' hl with ⟨j,lb,h1,h2,h3⟩ | ⟨h1,e,sz,rfl⟩
  ·have hlo:=h.lo j lb h2
   have e1:Go.Proofs.YtkoflhimdenjaaaGreat.Uq θ ρ k=ρ j:=by simp [Go.Proofs.YtkoflhimdenjaaaGreat.Uq,h1]
   rw [e1]
   cases lb with
   | map l=>
    cases lb' with
    | map l'=>
     have h3:l=l':=h3
     subst h3
     exact hlo
    | _=>exact h3.elim
   | vec ds e=>
    cases lb' with
    | vec ds' e'=>
     obtain⟨rfl,h5⟩:=h3
     obtain⟨b,vs,q1,q2,q3,q4,q5,q6⟩:=hlo
     exact⟨b,vs,q1,q2,q3,q4,q5,h5.rep h hI hfz vs q6⟩
    | _=>exact h3.elim
   | mit k1 n s=>
    cases lb' with
    | mit k2 n' s'=>
     obtain⟨h3,rfl,rfl⟩:=h3
     obtain⟨b,g,q1,q2,q3⟩:=hlo
     exact⟨b,g,q1,by simpa [Go.Proofs.YtkoflhimdenjaaaGreat.Uq,h3] using q2,q3⟩
    | _=>exact h3.elim
   | box ds ty=>
    cases lb' with
    | row e sz cs=>exact h3.elim
    | map l=>exact h3.elim
    | mit k n s=>exact h3.elim
    | vec ds e=>exact h3.elim
    | box ds' ty'=>
     obtain⟨rfl,h5⟩:=h3
     obtain⟨b,vs,q1,q2,q3,q4,q5⟩:=hlo
     exact⟨b,vs,q1,q2,q3,q4,h5.rep h hI hfz vs q5⟩
   | row e sz cs=>
    cases lb' with
    | box ds' ty'=>exact h3.elim
    | map l=>exact h3.elim
    | mit k n s=>exact h3.elim
    | vec ds e=>exact h3.elim
    | row e' sz' cs'=>
     obtain⟨rfl,rfl,rfl⟩:=h3
     obtain⟨n,us,q1,q2,q3⟩:=hlo
     exact⟨n,us,q1,q2,q3.keep_ (fun _ _=>rfl) hI⟩
  ·refine⟨0,[],?_,?_,rfl,fun _ _ _ h _=>by simp at h⟩
   ·simp only [Go.Proofs.YtkoflhimdenjaaaGreat.Uq,h1]
    exact World.rowOk_nil _ _ _ _
   ·intro b hb
    simp [Go.Proofs.YtkoflhimdenjaaaGreat.Uq,h1,Dh] at hb
 ·intro k k' lb lb' b h1 h2 h3 h4
  rcases hL k lb h1 with ⟨j,lb1,q1,q2,-⟩ | ⟨q1,-⟩
  ·rcases hL k' lb' h2 with ⟨j',lb2,q3,q4,-⟩ | ⟨q3,-⟩
   ·simp only [Go.Proofs.YtkoflhimdenjaaaGreat.Uq,q1] at h3
    simp only [Go.Proofs.YtkoflhimdenjaaaGreat.Uq,q3] at h4
    have:=h.sep j j' lb1 lb2 b q2 q4 h3 h4
    subst this
    exact hinj k k' j q1 q3
   ·simp [Go.Proofs.YtkoflhimdenjaaaGreat.Uq,q3,Dh] at h4
  ·simp [Go.Proofs.YtkoflhimdenjaaaGreat.Uq,q1,Dh] at h3
 ·intro k lb b h1 h2 h3
  rcases hL k lb h1 with ⟨j,lb1,q1,q2,-⟩ | ⟨q1,-⟩
  ·simp only [Go.Proofs.YtkoflhimdenjaaaGreat.Uq,q1] at h3
   refine h.fresh j lb1 b q2 ?_ h3
   rcases aJv j cx.np with hj | hj
   ·have:=hinj k j j q1 (hpin j hj).1
    omega
   ·exact hj
  ·simp [Go.Proofs.YtkoflhimdenjaaaGreat.Uq,q1,Dh] at h3
theorem Pt.of {cx:Cx} {σ σ':St} (θ:Nat->Option Nat) (hF:∀ t d',σ'.F t=some d'->∃ d,σ.F t=some d/\Cv σ θ d d')
  (hL:∀ k lb',σ'.L k=some lb'->(∃ j lb,θ k=some j/\σ.L j=some lb/\CvB σ θ lb lb')\/(θ k=none/\∃ e sz,lb'=.row e sz []))
  (hinj:∀ k k' j,θ k=some j->θ k'=some j->k=k')
  (hpin:∀ k,k < cx.np->θ k=some k/\σ'.U k=true) (hUF:∀ t d k,σ'.F t=some d->men d k->σ'.U k=true) (hUL:∀ k lb,σ'.L k=some lb->σ'.U k=true/\∀ k',Rp lb k'->σ'.U k'=true):Pt cx σ σ':=by
 rintro a w ⟨ρ,h⟩
 exact⟨_,(h.ren θ hF hL hinj hpin hUF hUL).1⟩
mutual
def wA (n:Nat):DV->Bool
 | .row k=>Nat.blt k n
 | .part k _ _=>Nat.blt k n
 | .ptr k _=>Nat.blt k n
 | .agg ds=>eZ n ds
 | .tup ds=>eZ n ds
 | .clo _ _ ds=>eZ n ds
 | .val _=>true
 | .sl _ _=>true
 | .slc _ _=>true
 | .mp _=>true
 | .elt _=>true
def eZ (n:Nat):List DV->Bool
 | []=>true
 | d :: ds=>wA n d && eZ n ds
end
def ltB (n:Nat):LB->Bool
 | .box ds _=>eZ n ds
 | .row ..=>true
 | .map _=>true
 | .mit k _ _=>Nat.blt k n
 | .vec ds _=>eZ n ds
mutual
theorem gD {n:Nat}:∀ {d:DV},wA n d=true->∀ k,men d k->Nat.blt k n=true
 | .row _,h,k,hk=>by unfold wA at h; unfold men at hk; rw [hk]; exact h
 | .part _ _ _,h,k,hk=>by unfold wA at h; unfold men at hk; rw [hk]; exact h
 | .ptr _ _,h,k,hk=>by unfold wA at h; unfold men at hk; rw [hk]; exact h
 | .agg ds,h,k,hk=>by unfold wA at h; unfold men at hk; exact Pk h k hk
 | .tup ds,h,k,hk=>by unfold wA at h; unfold men at hk; exact Pk h k hk
 | .clo _ _ ds,h,k,hk=>by unfold wA at h; unfold men at hk; exact Pk h k hk
 | .val _,_,k,hk=>by unfold men at hk; exact hk.elim
 | .sl _ _,_,k,hk=>by unfold men at hk; exact hk.elim
 | .slc _ _,_,k,hk=>by unfold men at hk; exact hk.elim
 | .mp _,_,k,hk=>by unfold men at hk; exact hk.elim
 | .elt _,_,k,hk=>by unfold men at hk; exact hk.elim
theorem Pk {n:Nat}:∀ {ds:List DV},eZ n ds=true->∀ k,Fr ds k->Nat.blt k n=true
 | [],_,k,hk=>by unfold Fr at hk; exact hk.elim
 | d :: ds,h,k,hk=>by
  unfold eZ at h
  unfold Fr at hk
  rw [aEw] at h
  rcases hk with hk | hk
  ·exact gD h.1 k hk
  ·exact Pk h.2 k hk
end
theorem Y7 {n:Nat} {lb:LB} (h:ltB n lb=true):∀ k,Rp lb k->Nat.blt k n=true:=by
 cases lb with
 | box ds ty=>exact Pk h
 | row e sz cs=>intro k hk; exact hk.elim
 | map l=>intro k hk; exact hk.elim
 | mit k' n' s=>intro k hk; have hk:k=k':=hk; subst hk; exact h
 | vec ds e=>exact Pk h
def wK:List Nat->Bool
 | []=>true
 | x :: l=>(l.all fun y=>!Nat.beq x y) && wK l
theorem Ik {α:Type}:∀ {l:List (Nat×α)} {k:Nat} {x:α},Fx l k=some x->(k,x)∈l
 | [],_,_,h=>by simp [Fx] at h
 | (k',x') :: l,k,x,h=>by
  unfold Fx at h
  cases hb:Nat.beq k k' with
  | true=>
   rw [hb] at h
   have:=aEk hb
   subst this
   simp at h
   subst h
   exact aHt ..
  | false=>
   rw [hb] at h
   exact aHk _ (Ik h)
theorem lL:∀ {l:List (Nat×Nat)},wK (l.map (·.2))=true->∀ {k k' j:Nat},(k,j)∈l->(k',j)∈l->k=k'
 | [],_,_,_,_,h,_=>by simp at h
 | (k0,j0) :: l,hn,k,k',j,h1,h2=>by
  simp only [aJl,wK,aEw,aHi] at hn
  rcases aDv.1 h1 with e1 | e1
  ·rcases aDv.1 h2 with e2 | e2
   ·injection e1 with a1 b1; injection e2 with a2 b2; rw [a1,a2]
   ·injection e1 with a1 b1
    subst b1
    have:=hn.1 j (aIm.2 ⟨_,e2,rfl⟩)
    simp at this
  ·rcases aDv.1 h2 with e2 | e2
   ·injection e2 with a1 b1
    subst b1
    have:=hn.1 j (aIm.2 ⟨_,e1,rfl⟩)
    simp at this
   ·exact lL hn.2 e1 e2
def wG (σ:St) (θ:Nat->Option Nat):List (Nat×DV)->Prop
 | []=>True
 | q :: l=>(∃ d,σ.F q.1=some d/\Cv σ θ d q.2)/\wG σ θ l
def oI (σ:St) (θ:Nat->Option Nat):List (Nat×LB)->Prop
 | []=>True
 | q :: l=>((∃ j lb,θ q.1=some j/\σ.L j=some lb/\CvB σ θ lb q.2)\/(θ q.1=none/\∃ e sz,q.2=.row e sz []))/\oI σ θ l
theorem gU {σ:St} {θ:Nat->Option Nat}:∀ {l:List (Nat×DV)},wG σ θ l->∀ q∈l,∃ d,σ.F q.1=some d/\Cv σ θ d q.2
 | [],_,q,hq=>by simp at hq
 | q0 :: l,h,q,hq=>by
  rcases aDv.1 hq with rfl | hq
  ·exact h.1
  ·exact gU h.2 q hq
theorem bA {σ:St} {θ:Nat->Option Nat}:∀ {l:List (Nat×LB)},oI σ θ l->∀ q∈l,(∃ j lb,θ q.1=some j/\σ.L j=some lb/\CvB σ θ lb q.2)\/(θ q.1=none/\∃ e sz,q.2=.row e sz [])
 | [],_,q,hq=>by simp at hq
 | q0 :: l,h,q,hq=>by
  rcases aDv.1 hq with rfl | hq
  ·exact h.1
  ·exact bA h.2 q hq
def kU (θ:List (Nat×Nat)) (n:Nat):Nat->Bool
 | 0=>true
 | k + 1=>kU θ n k && Nat.blt k n && (match Fx θ k with | some j=>Nat.beq j k | none=>false)
theorem Ws {θ:List (Nat×Nat)} {n:Nat}:∀ {m:Nat},kU θ n m=true->∀ k,k < m->Fx θ k=some k/\Nat.blt k n=true
 | 0,_,k,hk=>by omega
 | m + 1,h,k,hk=>by
  simp only [kU,aEw] at h
  by_cases hkm:k=m
  ·subst hkm
   cases hl:Fx θ k with
   | none=>rw [hl] at h; exact absurd h.2 (by simp)
   | some j=>
    rw [hl] at h
    exact⟨by rw [aEk h.2],h.1.2⟩
  ·exact Ws h.1.1 k (by omega)
def nZ (fl:List (Nat×DV)) (ll:List (Nat×LB)) (n:Nat) (θ:List (Nat×Nat)):Bool:=
 (fl.all fun q=>wA n q.2) && (ll.all fun q=>Nat.blt q.1 n && ltB n q.2) && wK (θ.map (·.2))
theorem Pt.lists {cx:Cx} {σ:St} {fl:List (Nat×DV)} {ll:List (Nat×LB)} {n:Nat} (θ:List (Nat×Nat)) (hc:nZ fl ll n θ=true) (hp:kU θ n cx.np=true) (hF:wG σ (Fx θ) fl) (hL:oI σ (Fx θ) ll):Pt cx σ (mk fl ll n):=by
 simp only [nZ,aEw,aHi] at hc
 obtain⟨⟨h1,h2⟩,h3⟩:=hc
 refine Pt.of (Fx θ) (fun t d' hd=>gU hF _ (Ik hd)) (fun k lb hl=>bA hL _ (Ik hl)) (fun k k' j a b=>lL h3 (Ik a) (Ik b)) (fun k hk=>Ws hp k hk)
  (fun t d k hd hm=>gD (h1 _ (Ik hd)) k hm) (fun k lb hl=>?_)
 have:=h2 _ (Ik hl)
 exact⟨this.1,fun k' hk'=>Y7 this.2 k' hk'⟩
end Go.Proofs.YtkoflhimdenjaaaGreat
namespace Go.Proofs.YtkoflhimdenjaaaGreat
open Go.RowKit
def Md:DV->Option Nat
 | .row k=>some k
 | .part k _ _=>some k
 | .ptr k _=>some k
 | _=>none
def ev (σ:St) (tc:Bool):Operand->Option (DV×Option LB)
 | .tmp t=>match σ.F t with
  | some d=>some (d,bif tc then (match Md d with | some k=>σ.L k | none=>none) else none)
  | none=>none
 | .const v=>bif Ez v then some (.val v,none) else none
 | .func f=>some (.val (.func (.func f) #[] #[]),none)
 | .global _=>none
def Es (σ:St) (tc:Bool):List Operand->Option (List (DV×Option LB))
 | []=>some []
 | x :: l=>match ev σ tc x with
  | some d=>(match Es σ tc l with | some ds=>some (d :: ds) | none=>none)
  | none=>none
def Wq:DV->Bool
 | .part _ _ _=>true
 | _=>false
def K3 (b:Bool):List (DV×Option LB)->List Nat
 | []=>[]
 | (d,_) :: l=>match Md d with | some k=>(bif b && Wq d then K3 b l else k :: K3 b l) | none=>K3 b l
theorem cY {c:Bool} {j k:Nat} {l:List Nat} (h:k∈(bif c then l else j :: l)):k∈j :: l:=by
 cases c with
 | false=>exact h
 | true=>exact aHk _ h
def Lv:Op->Bool
 | .call ⟨.builtin .len,_,_⟩=>true
 | _=>false
def aI (b:Bool):List (DV×Option LB)->List (DV×Option LB)->Prop
 | [],[]=>True
 | x :: l,y :: m=>x.1=y.1/\(x.2=y.2\/(b=true/\Wq x.1=true))/\aI b l m
 | _,_=>False
theorem aI.eq:∀ {l m:List (DV×Option LB)},aI false l m->l=m
 | [],[],_=>rfl
 | x :: l,y :: m,h=>by
  obtain⟨h1,h2,h3⟩:=h
  rcases h2 with h2 | ⟨h2,-⟩
  ·rw [aI.eq h3,Prod.ext h1 h2]
  ·cases h2
 | [],_ :: _,h=>h.elim
 | _ :: _,[],h=>h.elim
mutual
def Ju:DV->List Nat
 | .row k=>[k]
 | .part k _ _=>[k]
 | .ptr k _=>[k]
 | .agg ds=>M7 ds
 | .tup ds=>M7 ds
 | .clo _ _ ds=>M7 ds
 | .val _=>[]
 | .sl _ _=>[]
 | .slc _ _=>[]
 | .mp _=>[]
 | .elt _=>[]
def M7:List DV->List Nat
 | []=>[]
 | d :: ds=>Ju d ++ M7 ds
end
def fD (σ:St) (k:Nat):List Nat:=match σ.L k with
 | some (.box ds _)=>M7 ds
 | some (.mit k _ _)=>[k]
 | some (.vec ds _)=>M7 ds
 | _=>[]
def Qm (σ:St):Nat->List Nat->List Nat
 | 0,l=>l
 | n + 1,l=>l ++ Qm σ n (l.flatMap (fD σ))
def Sl:List (DV×Option LB)->List Nat
 | []=>[]
 | q :: l=>Ju q.1 ++ Sl l
def L3 (σ:St) (l:List Nat):List (Nat×Option LB):=l.map fun k=>(k,σ.L k)
def Kf:Op->Bool
 | .load ..=>true
 | .store ..=>true
 | .indexAddr ..=>true
 | .slice ..=>true
 | .convert ..=>true
 | .call ..=>true
 | _=>false
def Kj (ops:Array Oper) (σ:St) (o:Oper):Option Bool:=
 match o.guard with
 | none=>some true
 | some (g,b)=>match (ops[g]?).bind (·.dst) with
  | some t=>match σ.F t with
   | some (.val (.bool c))=>some (c == b)
   | some (.val _)=>some false
   | _=>none
  | none=>none
def Nk:List Operand->List Tmp
 | []=>[]
 | .tmp t :: l=>t :: Nk l
 | _ :: l=>Nk l
def Pz (ops:Array Oper) (o:Oper):List Tmp:=
 Nk o.op.operands.toList ++ (match o.guard with | some (g,_)=>((ops[g]?).bind (·.dst)).toList | none=>[])
structure vL (P:Program) (cx:Cx) where
 R:Nat->Op->TypeId->List (DV×Option LB)->List Nat->Mn->Prop
 C:Nat->Op->TypeId->List (DV×Option LB)->List (Nat×Option LB)->List Nat->(Mn->Prop)->Prop
 soundR:∀ {tk op ty ds wr e},R tk op ty ds wr e->∀ {ρ σ a w},Em cx ρ σ a w->Es σ (Kf op) op.operands.toList=some ds->(∀ j,j < 8->σ.U (tk + j)=false)->∀ o:Oper,o.op=op->o.type=ty->(∀ t,o.dst=some t->t < cx.N)->
  ∀ (K:Act->World->Prop) (Q:Exit->Act->World->Prop),(∀ a' w',K2 cx (σ.app o.dst e) a' w'->K a' w')->o.wp P a w K Q
 soundC:∀ {tk op ty ds env wr E},C tk op ty ds env wr E->∀ {ρ σ a w},Em cx ρ σ a w->Es σ (Kf op) op.operands.toList=some ds->env=L3 σ (Qm σ 3 (Sl ds))->(∀ j,j < 8->σ.U (tk + j)=false)->∀ o:Oper,o.op=op->o.type=ty->(∀ t,o.dst=some t->t < cx.N)->
  ∀ (K:Act->World->Prop) (Q:Exit->Act->World->Prop),(∀ e a' w',E e->K2 cx (σ.app o.dst e) a' w'->K a' w')->o.wp P a w K Q
 func:World->∀ {tk op ty ds wr e wr' e'},R tk op ty ds wr e->R tk op ty ds wr' e'->wr=wr'/\e=e'
 excl:∀ {tk op ty ds env wr e wr' E},R tk op ty ds wr e->C tk op ty ds env wr' E->False
 keyR:∀ {tk op ty ds wr e},R tk op ty ds wr e->∀ k,e.l k≠none->k∈wr\/(tk<=k/\k < tk + 8)
 keyC:∀ {tk op ty ds env wr E},C tk op ty ds env wr E->∀ e,E e->∀ k,e.l k≠none->k∈wr\/(tk<=k/\k < tk + 8)
 subR:∀ {tk op ty ds wr e},R tk op ty ds wr e->∀ k,k∈wr->Kf op=true/\k∈K3 (Lv op) ds
 sim:∀ {tk op ty ds ds' wr e},R tk op ty ds wr e->aI (Lv op) ds ds'->R tk op ty ds' wr e
 subC:∀ {tk op ty ds env wr E},C tk op ty ds env wr E->∀ k,k∈wr->k∈env.map (·.1)
def lB:Mn:=iR (some (.val undef))
section
variable {P:Program} {cx:Cx} (S:vL P cx) (ops:Array Oper)
def SF (tk:Nat) (o:Oper) (σ:St) (rd wr:List Nat) (e:Mn):Prop:=
 (Kj ops σ o=some false/\rd=[]/\wr=[]/\e=lB)\/
 (Kj ops σ o=some true/\∃ ds,Es σ (Kf o.op) o.op.operands.toList=some ds/\S.R tk o.op o.type ds wr e/\rd=bif Kf o.op then K3 (Lv o.op) ds else [])
def SC (tk:Nat) (o:Oper) (σ:St) (rd wr:List Nat) (E:Mn->Prop):Prop:=
 Kj ops σ o=some true/\∃ ds,Es σ (Kf o.op) o.op.operands.toList=some ds/\S.C tk o.op o.type ds (L3 σ rd) wr E/\rd=Qm σ 3 (Sl ds)
abbrev jV:=List (Nat×Bool×Nat×List Nat×List Nat)
def uL (a b:List Nat):Bool:=a.all fun x=>b.all fun y=>!Nat.beq x y
def aBr (a:List Nat) (tk:Nat):Bool:=a.all fun x=>Nat.blt x tk || Nat.ble (tk + 8) x
def zX (m:List Nat) (p i:Nat):Bool:=Nat.testBit (m.getD i 0) p
def mG (Rt:List Nat) (i:Nat) (cl:Bool) (tk:Nat) (rd wr:List Nat) (q:Nat×Bool×Nat×List Nat×List Nat):Bool:=
 zX Rt q.1 i || (!(cl && q.2.1) && uL q.2.2.2.2 rd && uL q.2.2.2.1 wr && aBr rd q.2.2.1 && aBr q.2.2.2.1 tk)
def K9 (Rt:Option (List Nat)) (i:Nat) (cl:Bool) (tk:Nat) (rd wr:List Nat) (lg:jV):Bool:=
 match Rt with
 | some r=>lg.all (mG r i cl tk rd wr)
 | none=>true
def Chain (Rt:Option (List Nat)) (nb:Nat):List (Nat×Oper)->jV->St->(St->Prop)->Prop
 | [],_,σ,Q=>Q σ
 | (i,o) :: l,lg,σ,Q=>
  (∃ rd wr e,SF S ops (nb + 8 * i) o σ rd wr e/\K9 Rt i false (nb + 8 * i) rd wr lg=true/\Chain Rt nb l ((i,false,nb + 8 * i,rd,wr) :: lg) (σ.app o.dst e) Q)\/
  (∃ rd wr E,SC S ops (nb + 8 * i) o σ rd wr E/\K9 Rt i true (nb + 8 * i) rd wr lg=true/\(Rt.isSome=true->∃ e,E e)/\∀ e,E e->Chain Rt nb l ((i,true,nb + 8 * i,rd,wr) :: lg) (σ.app o.dst e) Q)
end
section
variable {P:Program} {cx:Cx} {S:vL P cx} {ops:Array Oper} {σ σ':St} {o:Oper} {tk:Nat} {rd wr:List Nat} {e:Mn} {E:Mn->Prop}
theorem zO {tc:Bool} {x:Operand} (hF:∀ t,x=.tmp t->σ'.F t=σ.F t) (hL:∀ t d k,x=.tmp t->tc=true->σ.F t=some d->Md d=some k->σ'.L k=σ.L k):ev σ' tc x=ev σ tc x:=by
 cases x with
 | tmp t=>
  simp only [ev]
  rw [hF t rfl]
  cases hd:σ.F t with
  | none=>rfl
  | some d=>
   cases tc with
   | false=>rfl
   | true=>
    simp only [aEn]
    cases hk:Md d with
    | none=>rfl
    | some k=>simp only []; rw [hL t d k rfl rfl hd hk]
 | const v=>rfl
 | global g=>rfl
 | func f=>rfl
theorem rB {tc:Bool}:∀ {l:List Operand} {ds:List (DV×Option LB)},(∀ t,t∈Nk l->σ'.F t=σ.F t)->Es σ tc l=some ds->(tc=true->∀ k,k∈K3 false ds->σ'.L k=σ.L k)->Es σ' tc l=some ds
 | [],_,_,h,_=>h
 | x :: l,ds,hF,h,hL=>by
  unfold Es at h ⊢
  cases h1:ev σ tc x with
  | none=>rw [h1] at h; cases h
  | some d0=>
   rw [h1] at h
   simp only [] at h
   cases h2:Es σ tc l with
   | none=>rw [h2] at h; cases h
   | some ds0=>
    rw [h2] at h
    simp only [] at h
    injection h with h
    subst h
    have e1:ev σ' tc x=some d0:=by
     rw [<- h1]
     refine zO (fun t ht=>hF t (by rw [ht]; simp [Nk])) fun t d k ht htc hd hk=>hL htc k ?_
     subst ht
     simp only [ev] at h1
     rw [hd] at h1
     injection h1 with h1
     subst h1
     simp [K3,hk]
    have e2:Es σ' tc l=some ds0:=by
     refine rB (fun t ht=>hF t ?_) h2 fun htc k hk=>hL htc k ?_
     ·cases x <;> simp [Nk,ht]
     ·obtain⟨d,b⟩:=d0
      unfold K3
      cases Md d <;> simp [hk]
    rw [e1]
    simp only []
    rw [e2]
theorem aI.toks {b:Bool}:∀ {l m:List (DV×Option LB)},aI b l m->Go.Proofs.YtkoflhimdenjaaaGreat.K3 b l=Go.Proofs.YtkoflhimdenjaaaGreat.K3 b m
 | [],[],_=>rfl
 | (x,_) :: l,(y,_) :: m,h=>by
  obtain⟨h1,-,h3⟩:=h
  have h1:x=y:=h1
  subst h1
  unfold Go.Proofs.YtkoflhimdenjaaaGreat.K3
  rw [aI.toks h3]
 | [],_ :: _,h=>h.elim
 | _ :: _,[],h=>h.elim
theorem mU {tc b:Bool}:∀ {l:List Operand} {ds:List (DV×Option LB)},(∀ t,t∈Nk l->σ'.F t=σ.F t)->Es σ tc l=some ds->(tc=true->∀ k,k∈K3 b ds->σ'.L k=σ.L k)->∃ ds',Es σ' tc l=some ds'/\aI b ds ds'
 | [],ds,_,h,_=>by
  unfold Es at h
  injection h with h
  subst h
  exact⟨[],rfl,trivial⟩
 | x :: l,ds,hF,h,hL=>by
  unfold Es at h ⊢
  cases h1:ev σ tc x with
  | none=>rw [h1] at h; cases h
  | some d0=>
   rw [h1] at h
   simp only [] at h
   cases h2:Es σ tc l with
   | none=>rw [h2] at h; cases h
   | some ds0=>
    rw [h2] at h
    simp only [] at h
    injection h with h
    subst h
    have e1:∃ d1,ev σ' tc x=some d1/\d0.1=d1.1/\(d0.2=d1.2\/(b=true/\Wq d0.1=true)):=by
     cases x with
     | tmp t=>
      simp only [ev] at h1 ⊢
      rw [hF t (by simp [Nk])]
      cases hd:σ.F t with
      | none=>rw [hd] at h1; cases h1
      | some d=>
       rw [hd] at h1
       injection h1 with h1
       subst h1
       refine⟨_,rfl,rfl,?_⟩
       cases hb:(b && Wq d) with
       | true=>
        simp only [aEw] at hb
        exact .inr hb
       | false=>
        left
        cases tc with
        | false=>rfl
        | true=>
         simp only [aEn]
         cases hk:Md d with
         | none=>rfl
         | some k=>
          simp only []
          rw [hL rfl k (by simp [K3,hk,hb])]
     | const v=>exact⟨d0,h1,rfl,.inl rfl⟩
     | global g=>exact⟨d0,h1,rfl,.inl rfl⟩
     | func f=>exact⟨d0,h1,rfl,.inl rfl⟩
    obtain⟨d1,e1,e2,e3⟩:=e1
    obtain⟨ds',e4,e5⟩:=mU (b:=b) (ds:=ds0) (fun t ht=>hF t (by cases x <;> simp [Nk,ht])) h2 (fun htc k hk=>hL htc k (by
     obtain⟨d,q⟩:=d0
     unfold K3
     cases Md d with
     | none=>exact hk
     | some j=>
      simp only []
      cases (b && Wq d)
      ·exact aHk _ hk
      ·exact hk))
    rw [e1]
    simp only []
    rw [e4]
    exact⟨_,rfl,e2,e3,e5⟩
theorem eN (hF:∀ t,t∈Pz ops o->σ'.F t=σ.F t):Kj ops σ' o=Kj ops σ o:=by
 unfold Kj
 cases G:o.guard with
 | none=>rfl
 | some q=>
  obtain⟨g,b⟩:=q
  simp only []
  cases ht:(ops[g]?).bind (·.dst) with
  | none=>rfl
  | some t=>
   simp only []
   rw [hF t (by simp [Pz,G,ht])]
theorem SF.local (h:SF S ops tk o σ rd wr e) (hF:∀ t,t∈Pz ops o->σ'.F t=σ.F t) (hL:∀ k,k∈rd->σ'.L k=σ.L k):SF S ops tk o σ' rd wr e:=by
 rcases h with ⟨h1,h2⟩ | ⟨h1,ds,h2,h3,h4⟩
 ·exact .inl ⟨by rw [eN hF]; exact h1,h2⟩
 ·obtain⟨ds',h5,h6⟩:=mU (b:=Lv o.op) (fun t ht=>hF t (by simp [Pz,ht])) h2 (fun htc k hk=>hL k (by rw [h4,htc]; exact hk))
  refine .inr ⟨by rw [eN hF]; exact h1,ds',h5,S.sim h3 h6,?_⟩
  rw [h4,aI.toks h6]
theorem Wb {α β:Type} {f g:α->List β}:∀ {l:List α},(∀ x∈l,f x=g x)->l.flatMap f=l.flatMap g
 | [],_=>rfl
 | x :: l,h=>by
  rw [aJn,aJn,h x (aHt ..),Wb fun y hy=>h y (aHk _ hy)]
theorem Xk {n:Nat} {l:List Nat} {k:Nat} (h:k∈l):k∈Qm σ n l:=by
 cases n with
 | zero=>exact h
 | succ n=>exact aI9 _ h
theorem mY:∀ {n:Nat} {l:List Nat},(∀ k,k∈Qm σ n l->σ'.L k=σ.L k)->Qm σ' n l=Qm σ n l
 | 0,_,_=>rfl
 | n + 1,l,h=>by
  have e1:l.flatMap (fD σ')=l.flatMap (fD σ):=by
   have:∀ k∈l,fD σ' k=fD σ k:=fun k hk=>by
    unfold fD
    rw [h k (Xk hk)]
   exact Wb this
  show l ++ Qm σ' n (l.flatMap (fD σ'))=l ++ Qm σ n (l.flatMap (fD σ))
  rw [e1,mY fun k hk=>h k (aJd _ hk)]
theorem wM {l:List Nat} (h:∀ k,k∈l->σ'.L k=σ.L k):L3 σ' l=L3 σ l:=List.map_congr_left fun k hk=>by rw [h k hk]
theorem sM {d:DV} {k:Nat} (h:Md d=some k):k∈Ju d:=by
 cases d <;> simp [Md] at h <;> subst h <;> simp [Ju]
theorem Tw {b:Bool}:∀ {ds:List (DV×Option LB)} {k:Nat},k∈K3 b ds->k∈Sl ds
 | [],k,h=>by simp [K3] at h
 | (d,q) :: ds,k,h=>by
  unfold K3 at h
  unfold Sl
  cases hd:Md d with
  | none=>rw [hd] at h; exact aJd _ (Tw h)
  | some j=>
   rw [hd] at h
   rcases aDv.1 (cY h) with rfl | h
   ·exact aI9 _ (sM hd)
   ·exact aJd _ (Tw h)
theorem SC.local (h:SC S ops tk o σ rd wr E) (hF:∀ t,t∈Pz ops o->σ'.F t=σ.F t) (hL:∀ k,k∈rd->σ'.L k=σ.L k):SC S ops tk o σ' rd wr E:=by
 obtain⟨h1,ds,h2,h3,h4⟩:=h
 refine⟨by rw [eN hF]; exact h1,ds,rB (fun t ht=>hF t (by simp [Pz,ht])) h2 (fun htc k hk=>hL k ?_),?_,?_⟩
 ·rw [h4]
  exact Xk (Tw hk)
 ·rw [wM hL]; exact h3
 ·rw [h4]
  exact (mY fun k hk=>hL k (by rw [h4]; exact hk)).symm
theorem SF.func (w:World) {rd' wr':List Nat} {e':Mn} (h:SF S ops tk o σ rd wr e) (h':SF S ops tk o σ rd' wr' e'):rd=rd'/\wr=wr'/\e=e':=by
 rcases h with ⟨h1,rfl,rfl,rfl⟩ | ⟨h1,ds,h2,h3,rfl⟩
 ·rcases h' with ⟨h1',rfl,rfl,rfl⟩ | ⟨h1',ds',h2',h3',rfl⟩
  ·exact⟨rfl,rfl,rfl⟩
  ·rw [h1] at h1'; cases h1'
 ·rcases h' with ⟨h1',rfl,rfl,rfl⟩ | ⟨h1',ds',h2',h3',rfl⟩
  ·rw [h1] at h1'; cases h1'
  ·rw [h2] at h2'
   injection h2' with h2'
   subst h2'
   obtain⟨a,b⟩:=S.func w h3 h3'
   exact⟨rfl,a,b⟩
theorem SF.excl {rd' wr':List Nat} (h:SF S ops tk o σ rd wr e) (h':SC S ops tk o σ rd' wr' E):False:=by
 obtain⟨h1',ds',h2',h3',-⟩:=h'
 rcases h with ⟨h1,-⟩ | ⟨h1,ds,h2,h3,-⟩
 ·rw [h1] at h1'; cases h1'
 ·rw [h2] at h2'
  injection h2' with h2'
  subst h2'
  exact S.excl h3 h3'
theorem SF.key (h:SF S ops tk o σ rd wr e):(∀ k,e.l k≠none->k∈wr\/(tk<=k/\k < tk + 8))/\∀ k,k∈wr->k∈rd:=by
 rcases h with ⟨h1,rfl,rfl,rfl⟩ | ⟨h1,ds,h2,h3,rfl⟩
 ·exact⟨fun k hk=>absurd rfl hk,fun k hk=>hk⟩
 ·refine⟨S.keyR h3,fun k hk=>?_⟩
  obtain⟨h4,h5⟩:=S.subR h3 k hk
  rw [h4]
  exact h5
theorem SC.key (h:SC S ops tk o σ rd wr E):(∀ e,E e->∀ k,e.l k≠none->k∈wr\/(tk<=k/\k < tk + 8))/\∀ k,k∈wr->k∈rd:=by
 obtain⟨h1,ds,h2,h3,h0⟩:=h
 refine⟨S.keyC h3,fun k hk=>?_⟩
 have:=S.subC h3 k hk
 simpa [L3] using this
theorem cL {ρ:Nat->Value} {a:Act} {w:World} (h:Em cx ρ σ a w) {tc bb:Bool}:∀ {l:List Operand} {ds:List (DV×Option LB)},Es σ tc l=some ds->∀ k,k∈K3 bb ds->σ.U k=true
 | [],ds,hd,k,hk=>by
  unfold Es at hd
  injection hd with hd
  subst hd
  simp [K3] at hk
 | x :: l,ds,hd,k,hk=>by
  unfold Es at hd
  cases h1:ev σ tc x with
  | none=>rw [h1] at hd; cases hd
  | some d0=>
   rw [h1] at hd
   simp only [] at hd
   cases h2:Es σ tc l with
   | none=>rw [h2] at hd; cases hd
   | some ds0=>
    rw [h2] at hd
    simp only [] at hd
    injection hd with hd
    subst hd
    obtain⟨d,b⟩:=d0
    unfold K3 at hk
    have rec_:=cL (bb:=bb) h h2 k
    cases hd:Md d with
    | none=>rw [hd] at hk; exact rec_ hk
    | some k'=>
     rw [hd] at hk
     rcases aDv.1 (cY hk) with rfl | hk
     ·cases x with
      | tmp t=>
       simp only [ev] at h1
       cases hF:σ.F t with
       | none=>rw [hF] at h1; cases h1
       | some d'=>
        rw [hF] at h1
        injection h1 with h1
        injection h1 with h1
        subst h1
        refine h.usedF t d' k hF ?_
        cases d' <;> simp [Md] at hd <;> subst hd <;> simp [men]
      | const v=>
       simp only [ev] at h1
       cases hv:Ez v with
       | false=>rw [hv] at h1; cases h1
       | true=>rw [hv] at h1; injection h1 with h1; injection h1 with h1; subst h1; cases hd
      | global g=>simp [ev] at h1
      | func f=>simp [ev] at h1; rw [<- h1.1] at hd; cases hd
     ·exact rec_ hk
theorem SF.used {ρ:Nat->Value} {a:Act} {w:World} (h:SF S ops tk o σ rd wr e) (ha:Em cx ρ σ a w):∀ k,k∈rd->σ.U k=true:=by
 rcases h with ⟨h1,rfl,rfl,rfl⟩ | ⟨h1,ds,h2,h3,rfl⟩
 ·intro k hk; simp at hk
 ·intro k hk
  cases ht:Kf o.op with
  | false=>rw [ht] at hk; simp at hk
  | true=>rw [ht] at hk; exact cL ha h2 k hk
mutual
theorem jG:∀ {d:DV} {k:Nat},k∈Ju d->men d k
 | .row _,k,h=>by simpa [Ju,men] using h
 | .part _ _ _,k,h=>by simpa [Ju,men] using h
 | .ptr _ _,k,h=>by simpa [Ju,men] using h
 | .agg ds,k,h=>by unfold Ju at h; unfold men; exact N2 h
 | .tup ds,k,h=>by unfold Ju at h; unfold men; exact N2 h
 | .clo _ _ ds,k,h=>by unfold Ju at h; unfold men; exact N2 h
 | .val _,k,h=>by simp [Ju] at h
 | .sl _ _,k,h=>by simp [Ju] at h
 | .slc _ _,k,h=>by simp [Ju] at h
 | .mp _,k,h=>by simp [Ju] at h
 | .elt _,k,h=>by simp [Ju] at h
theorem N2:∀ {ds:List DV} {k:Nat},k∈M7 ds->Fr ds k
 | [],k,h=>by simp [M7] at h
 | d :: ds,k,h=>by
  unfold M7 at h
  unfold Fr
  rcases aHm.1 h with h | h
  ·exact .inl (jG h)
  ·exact .inr (N2 h)
end
theorem cH {ρ:Nat->Value} {a:Act} {w:World} (h:Em cx ρ σ a w) {tc:Bool}:∀ {l:List Operand} {ds:List (DV×Option LB)},Es σ tc l=some ds->∀ k,k∈Sl ds->σ.U k=true
 | [],ds,hd,k,hk=>by
  unfold Es at hd
  injection hd with hd
  subst hd
  simp [Sl] at hk
 | x :: l,ds,hd,k,hk=>by
  unfold Es at hd
  cases h1:ev σ tc x with
  | none=>rw [h1] at hd; cases hd
  | some d0=>
   rw [h1] at hd
   simp only [] at hd
   cases h2:Es σ tc l with
   | none=>rw [h2] at hd; cases hd
   | some ds0=>
    rw [h2] at hd
    simp only [] at hd
    injection hd with hd
    subst hd
    unfold Sl at hk
    rcases aHm.1 hk with hk | hk
    ·cases x with
     | tmp t=>
      simp only [ev] at h1
      cases hF:σ.F t with
      | none=>rw [hF] at h1; cases h1
      | some d'=>
       rw [hF] at h1
       injection h1 with h1
       subst h1
       exact h.usedF t d' k hF (jG hk)
     | const v=>
      simp only [ev] at h1
      cases hv:Ez v with
      | false=>rw [hv] at h1; cases h1
      | true=>rw [hv] at h1; injection h1 with h1; subst h1; simp [Ju] at hk
     | global g=>simp [ev] at h1
     | func f=>simp only [ev] at h1; injection h1 with h1; subst h1; simp [Ju] at hk
    ·exact cH h h2 k hk
theorem cX {ρ:Nat->Value} {a:Act} {w:World} (h:Em cx ρ σ a w):∀ {n:Nat} {l:List Nat},(∀ k,k∈l->σ.U k=true)->∀ k,k∈Qm σ n l->σ.U k=true
 | 0,_,hl,k,hk=>hl k hk
 | n + 1,l,hl,k,hk=>by
  rcases aHm.1 hk with hk | hk
  ·exact hl k hk
  ·refine cX h (fun j hj=>?_) k hk
   obtain⟨i,hi,hj⟩:=List.mem_flatMap.1 hj
   unfold fD at hj
   cases hL:σ.L i with
   | none=>rw [hL] at hj; simp at hj
   | some lb=>
    rw [hL] at hj
    cases lb with
    | box ds ty=>exact (h.usedL i _ hL).2 j (N2 hj)
    | row=>simp at hj
    | map=>simp at hj
    | mit k' n s=>simp at hj; subst hj; exact (h.usedL i _ hL).2 _ rfl
    | vec ds e=>exact (h.usedL i _ hL).2 j (N2 hj)
theorem SC.used {ρ:Nat->Value} {a:Act} {w:World} (h:SC S ops tk o σ rd wr E) (ha:Em cx ρ σ a w):∀ k,k∈rd->σ.U k=true:=by
 obtain⟨h1,ds,h2,h3,h4⟩:=h
 intro k hk
 rw [h4] at hk
 exact cX ha (cH ha h2) k hk
def uQ:Value->Option Bool
 | .bool b=>some b
 | _=>none
theorem Xi {ρ:Nat->Value} {a:Act} {w:World} (h:Em cx ρ σ a w) {b:Bool} (G:Kj ops σ o=some b):Region.wanted o (yielded ops a.tmps)=b:=by
 unfold Kj at G
 unfold Region.wanted
 cases hq:o.guard with
 | none=>
  rw [hq] at G
  injection G
 | some q=>
  obtain⟨g,want⟩:=q
  rw [hq] at G
  simp only [] at G ⊢
  cases ht:(ops[g]?).bind (·.dst) with
  | none=>rw [ht] at G; cases G
  | some t=>
   rw [ht] at G
   simp only [] at G
   cases hF:σ.F t with
   | none=>rw [hF] at G; cases G
   | some d=>
    rw [hF] at G
    cases d with
    | val v=>
     have hr:=h.fr t _ hF
     unfold C4 at hr
     have hy:yielded ops a.tmps g=uQ v:=by
      unfold yielded
      rw [ht]
      simp only [aAf]
      by_cases hlt:t < a.tmps.size
      ·simp only [hlt,aJt]
       have e1:a.tmps[t]=v:=by simpa [hlt] using hr.1
       rw [e1]
       cases v <;> rfl
      ·have e1:a.tmps[t]?=none:=Array.getElem?_eq_none (Nat.le_of_not_lt hlt)
       have e2:v=undef:=by simpa [e1] using hr.1.symm
       rw [e1,e2]
       rfl
     rw [hy]
     cases v <;> simp at G <;> simp [uQ,<- G]
    | _=>cases G
theorem SF.sound {ρ:Nat->Value} {a:Act} {w:World} (h:SF S ops tk o σ rd wr e) (ha:Em cx ρ σ a w) (hf:∀ j,j < 8->σ.U (tk + j)=false) (hdst:∀ t,o.dst=some t->t < cx.N) :
  ∀ (K:Act->World->Prop) (Q:Exit->Act->World->Prop),(∀ a' w',K2 cx (σ.app o.dst e) a' w'->K a' w')->if Region.wanted o (yielded ops a.tmps)=true then o.wp P a w K Q else K (a.put o.dst undef) w:=by
 rcases h with ⟨h1,rfl,rfl,rfl⟩ | ⟨h1,ds,h2,h3,rfl⟩
 ·intro K Q hK
  rw [Xi ha h1]
  simp only [aK1,if_false]
  exact hK _ _ ⟨ρ,ha.put0 hdst (fun x hx=>by injection hx with hx; subst hx; unfold C4; exact⟨rfl,rfl⟩) (fun x k hx hm=>by injection hx with hx; subst hx; unfold men at hm; exact hm.elim)⟩
 ·have h5:=S.soundR h3 ha h2 hf o rfl rfl hdst
  intro K Q hK
  rw [Xi ha h1]
  simp only [if_true]
  exact h5 K Q hK
theorem SC.sound {ρ:Nat->Value} {a:Act} {w:World} (h:SC S ops tk o σ rd wr E) (ha:Em cx ρ σ a w) (hf:∀ j,j < 8->σ.U (tk + j)=false) (hdst:∀ t,o.dst=some t->t < cx.N) :
  ∀ (K:Act->World->Prop) (Q:Exit->Act->World->Prop),(∀ e a' w',E e->K2 cx (σ.app o.dst e) a' w'->K a' w')->if Region.wanted o (yielded ops a.tmps)=true then o.wp P a w K Q else K (a.put o.dst undef) w:=by
 obtain⟨h1,ds,h2,h3,h4⟩:=h
 intro K Q hK
 rw [Xi ha h1]
 simp only [if_true]
 exact S.soundC h3 ha h2 (by rw [h4]) hf o rfl rfl hdst K Q hK
def Yr (b:Bool) (σ:St):List Operand->List Nat
 | []=>[]
 | x :: l=>match ev σ false x with
  | some (d,_)=>(match Md d with | some k=>(bif b && Wq d then Yr b σ l else k :: Yr b σ l) | none=>Yr b σ l)
  | none=>Yr b σ l
theorem aIb {tc:Bool} {x:Operand} {d:DV} {b:Option LB} (h:ev σ tc x=some (d,b)):ev σ false x=some (d,none):=by
 cases x with
 | tmp t=>
  simp only [ev] at *
  cases hd:σ.F t with
  | none=>rw [hd] at h; cases h
  | some d'=>
   rw [hd] at h
   injection h with h
   injection h with h
   subst h
   rfl
 | const v=>
  simp only [ev] at *
  cases hv:Ez v with
  | false=>rw [hv] at h; cases h
  | true=>rw [hv] at h; injection h with h; injection h with h; subst h; rfl
 | global g=>simp [ev] at h
 | func f=>simp only [ev] at *; injection h with h; injection h with h; subst h; rfl
theorem gI {tc b:Bool}:∀ {l:List Operand} {ds:List (DV×Option LB)},Es σ tc l=some ds->K3 b ds=Yr b σ l
 | [],ds,hd=>by
  unfold Es at hd
  injection hd with hd
  subst hd
  rfl
 | x :: l,ds,hd=>by
  unfold Es at hd
  cases h1:ev σ tc x with
  | none=>rw [h1] at hd; cases hd
  | some d0=>
   rw [h1] at hd
   simp only [] at hd
   cases h2:Es σ tc l with
   | none=>rw [h2] at hd; cases hd
   | some ds0=>
    rw [h2] at hd
    simp only [] at hd
    injection hd with hd
    subst hd
    obtain⟨d,q⟩:=d0
    unfold K3 Yr
    rw [aIb h1]
    simp only []
    rw [gI (b:=b) h2]
theorem Z9 {b:Bool}:∀ {l:List Operand},(∀ t,t∈Nk l->σ'.F t=σ.F t)->Yr b σ' l=Yr b σ l
 | [],_=>rfl
 | x :: l,hF=>by
  unfold Yr
  have e1:ev σ' false x=ev σ false x:=zO (fun t ht=>hF t (by rw [ht]; simp [Nk])) fun t d k _ h=>by cases h
  have e2:Yr b σ' l=Yr b σ l:=Z9 fun t ht=>hF t (by cases x <;> simp [Nk,ht])
  rw [e1,e2]
def zZ (ops:Array Oper) (o:Oper) (σ:St):List Nat:=if Kj ops σ o=some true then (bif Kf o.op then Yr (Lv o.op) σ o.op.operands.toList else []) else []
theorem SF.rdEq (h:SF S ops tk o σ rd wr e):rd=zZ ops o σ:=by
 unfold zZ
 rcases h with ⟨h1,rfl,-⟩ | ⟨h1,ds,h2,h3,rfl⟩
 ·rw [if_neg (by rw [h1]; simp)]
 ·rw [if_pos h1,gI h2]
theorem SC.rdSub (h:SC S ops tk o σ rd wr E):∀ k,k∈zZ ops o σ->k∈rd:=by
 unfold zZ
 obtain⟨h1,ds,h2,h3,h4⟩:=h
 rw [if_pos h1,h4]
 intro k hk
 cases ht:Kf o.op with
 | false=>rw [ht] at hk; simp at hk
 | true=>
  rw [ht] at hk
  simp only [aEn] at hk
  rw [<- gI h2] at hk
  exact Xk (Tw hk)
theorem oQ (hF:∀ t,t∈Pz ops o->σ'.F t=σ.F t):zZ ops o σ'=zZ ops o σ:=by
 unfold zZ
 rw [eN hF,Z9 fun t ht=>hF t (by simp [Pz,ht])]
def V2 (nb:Nat) (l:List (Nat×Oper)) (σ:St):Prop:=∀ q∈l,∀ j,j < 8->σ.U (nb + 8 * q.1 + j)=false
def uH (cx:Cx) (l:List (Nat×Oper)):Prop:=∀ q∈l,∀ t,q.2.dst=some t->t < cx.N
theorem mC {dst:Option Tmp} {k:Nat} (h:(σ.app dst e).U k=true):σ.U k=true\/e.l k≠none:=by
 simp only [St.app,aJf,Option.isSome_iff_ne_none] at h
 exact h
theorem V2.next {nb i:Nat} {l:List (Nat×Oper)} {dst:Option Tmp} (hf:V2 nb l σ) (hk:∀ k,e.l k≠none->k∈wr\/(nb + 8 * i<=k/\k < nb + 8 * i + 8)) (hu:∀ k,k∈wr->σ.U k=true) (hi:∀ q∈l,q.1≠i):V2 nb l (σ.app dst e):=by
 intro q hq j hj
 have h0:=hf q hq j hj
 cases hc:(σ.app dst e).U (nb + 8 * q.1 + j) with
 | false=>rfl
 | true=>
  rcases mC hc with h1 | h1
  ·rw [h0] at h1; cases h1
  ·rcases hk _ h1 with h2 | h2
   ·rw [hu _ h2] at h0; cases h0
   ·have:=hi q hq
    omega
end
end Go.Proofs.YtkoflhimdenjaaaGreat
namespace Go.Proofs.YtkoflhimdenjaaaGreat
open Go.RowKit
def idx:Nat->List Oper->List (Nat×Oper)
 | _,[]=>[]
 | k,o :: l=>(k,o) :: idx (k + 1) l
theorem T4:∀ {l:List Oper} {k:Nat} {q:Nat×Oper},q∈idx k l->k<=q.1/\q.1 < k + l.length/\l[q.1 - k]?=some q.2
 | [],_,_,h=>by simp [idx] at h
 | o :: l,k,q,h=>by
  unfold idx at h
  rcases aDv.1 h with rfl | h
  ·simp
  ·obtain⟨h1,h2,h3⟩:=T4 h
   refine⟨by omega,by simp; omega,?_⟩
   rw [show q.1 - k=(q.1 - (k + 1)) + 1 by omega]
   simpa using h3
theorem aH:∀ (l:List Oper) (k:Nat),(idx k l).length=l.length
 | [],_=>rfl
 | o :: l,k=>by simp [idx,aH l]
theorem Xd:∀ {l:List Oper} {k i:Nat} {o:Oper},l[i]?=some o->(k + i,o)∈idx k l
 | [],_,_,_,h=>by simp at h
 | o' :: l,k,0,o,h=>by
  simp at h
  subst h
  simp [idx]
 | o' :: l,k,i + 1,o,h=>by
  have:=Xd (l:=l) (k:=k + 1) (i:=i) (o:=o) (by simpa using h)
  unfold idx
  rw [show k + (i + 1)=k + 1 + i by omega]
  exact aHk _ this
theorem sE:∀ (l:List Oper) (k:Nat),(idx k l).Pairwise fun a b=>a.1 < b.1
 | [],_=>by simp [idx]
 | o :: l,k=>by
  unfold idx
  exact aJc.2 ⟨fun q hq=>by have:=(T4 hq).1; dsimp only; omega,sE l (k + 1)⟩
def lA (N:Nat) (l:List Oper):Bool:=l.all fun o=>match o.dst with | some t=>Nat.blt t N | none=>true
theorem Xe {cx:Cx} {l:List Oper} {k:Nat} (h:lA cx.N l=true):uH cx (idx k l):=by
 intro q hq t ht
 have h1:=aHn (T4 hq).2.2
 have:=aHi.1 h _ h1
 rw [ht] at this
 exact Nat.lt_of_succ_le (aBe this)
theorem Chain.log {P:Program} {cx:Cx} {S:vL P cx} {ops:Array Oper} {Rt:Option (List Nat)} {nb:Nat} {Q:St->Prop}:∀ {l:List (Nat×Oper)} {lg lg':jV} {σ:St},(∀ q,q∈lg'->q∈lg)->Chain S ops Rt nb l lg σ Q->Chain S ops Rt nb l lg' σ Q
 | [],_,_,_,_,h=>h
 | (i,o) :: l,lg,lg',σ,hs,h=>by
  have ok:∀ {cl rd wr},K9 Rt i cl (nb + 8 * i) rd wr lg=true->K9 Rt i cl (nb + 8 * i) rd wr lg'=true:=fun {cl rd wr} h=>by
   unfold K9 at *
   cases Rt with
   | none=>rfl
   | some r=>exact aHi.2 fun q hq=>aHi.1 h q (hs q hq)
  have hs':∀ x:Nat×Bool×Nat×List Nat×List Nat,∀ q,q∈x :: lg'->q∈x :: lg:=fun x q hq=>by
   rcases aDv.1 hq with rfl | hq
   ·exact aHt ..
   ·exact aHk _ (hs q hq)
  rcases h with ⟨rd,wr,e,h1,h2,h3⟩ | ⟨rd,wr,E,h1,h2,h2',h3⟩
  ·exact .inl ⟨rd,wr,e,h1,ok h2,Chain.log (hs' _) h3⟩
  ·exact .inr ⟨rd,wr,E,h1,ok h2,h2',fun e he=>Chain.log (hs' _) (h3 e he)⟩
section
variable {P:Program} {cx:Cx} {S:vL P cx} {Q:Exit->St->Prop} {nb nb':Nat}
theorem U3 {ops:Array Oper}:∀ (l:List Oper) (k:Nat) (lg:jV) (σ:St) (a:Act) (w:World),Chain S ops none nb (idx k l) lg σ (fun σ'=>(∀ j,nb'<=j->σ'.U j=false)->Q .normal σ')->V2 nb (idx k l) σ->uH cx (idx k l)->(∀ j,nb'<=j->σ.U j=false)->nb + 8 * (k + l.length)<=nb'->K2 cx σ a w->wpList P ops (Sk cx Q) l a w
 | [],k,lg,σ,a,w,h,_,_,B,_,ha=>⟨σ,h B,ha⟩
 | o :: l,k,lg,σ,a,w,h,hf,hd,B,hn,⟨ρ,ha⟩=>by
  have hf0:=hf (k,o) (by simp [idx])
  have hd0:=hd (k,o) (by simp [idx])
  have hf1:V2 nb (idx (k + 1) l) σ:=fun q hq=>hf q (by simp [idx,hq])
  have hd1:uH cx (idx (k + 1) l):=fun q hq=>hd q (by simp [idx,hq])
  have hne:∀ q∈idx (k + 1) l,q.1≠k:=fun q hq=>by have:=(T4 hq).1; omega
  have hn':nb + 8 * (k + 1 + l.length)<=nb':=by simp at hn; omega
  have hUn:∀ {e:Mn} {wr:List Nat} {rd:List Nat},(∀ j,e.l j≠none->j∈wr\/(nb + 8 * k<=j/\j < nb + 8 * k + 8))->(∀ j,j∈wr->j∈rd)->(∀ j,j∈rd->σ.U j=true)->∀ j,nb'<=j->(σ.app o.dst e).U j=false:=fun {e wr rd} hk hs hu j hj=>by
   cases hc:(σ.app o.dst e).U j with
   | false=>rfl
   | true=>
    rcases mC hc with h1 | h1
    ·rw [B j hj] at h1; cases h1
    ·rcases hk j h1 with h2 | h2
     ·exact absurd (hu j (hs j h2)) (by rw [B j hj]; simp)
     ·simp at hn; omega
  unfold wpList
  rcases h with ⟨rd,wr,e,h1,-,h3⟩ | ⟨rd,wr,E,h1,-,-,h3⟩
  ·have hs:=h1.sound ha hf0 hd0
   have:=hs (wpList P ops (Sk cx Q) l) (Sk cx Q) fun a' w' ha'=>U3 l (k + 1) _ _ a' w' h3 (hf1.next h1.key.1 (fun j hj=>h1.used ha j (h1.key.2 j hj)) hne) hd1 (hUn h1.key.1 h1.key.2 (h1.used ha)) hn' ha'
   split
   ·rename_i hw
    rw [if_pos hw] at this
    exact .inl this
   ·rename_i hw
    rw [if_neg hw] at this
    exact this
  ·have:=h1.sound ha hf0 hd0 (wpList P ops (Sk cx Q) l) (Sk cx Q) fun e a' w' he ha'=>U3 l (k + 1) _ _ a' w' (h3 e he) (hf1.next (h1.key.1 e he) (fun j hj=>h1.used ha j (h1.key.2 j hj)) hne) hd1 (hUn (h1.key.1 e he) h1.key.2 (h1.used ha)) hn' ha'
   split
   ·rename_i hw
    rw [if_pos hw] at this
    exact .inl this
   ·rename_i hw
    rw [if_neg hw] at this
    exact this
theorem Al (S:vL P cx) {id:Nat} {l:List Oper} {σ:St} (nb nb':Nat) (B:∀ k,nb<=k->σ.U k=false) (hn:Nat.ble (nb + 8 * l.length) nb'=true) (hd:lA cx.N l=true)
  (h:Chain S l.toArray none nb (idx 0 l) [] σ (fun σ'=>(∀ j,nb'<=j->σ'.U j=false)->Q .normal σ')):B4 P cx (.region id l.toArray false) Q σ:=by
 intro a w ha
 have hn':nb + 8 * l.length<=nb':=aBe hn
 exact wp_region_lit (U3 l 0 [] σ a w h (fun q hq j hj=>B _ (by omega)) (Xe hd) (fun j hj=>B j (by omega)) (by simpa using hn') ha)
end
section
variable {P:Program} {cx:Cx} {S:vL P cx} {ops:Array Oper} {nb:Nat} {r:List Nat}
structure mS (ops:Array Oper) (x y:Oper):Prop where
 a:∀ d,x.dst=some d->d∉Pz ops y
 b:∀ d,y.dst=some d->d∉Pz ops x
 c:∀ d,x.dst=some d->y.dst≠some d
theorem zU {σ:St} {dst:Option Tmp} {e:Mn} {t:Nat} (h:dst≠some t):(σ.app dst e).F t=σ.F t:=by
 cases dst with
 | none=>rfl
 | some t'=>exact Oj _ _ (by rintro rfl; exact h rfl)
theorem X9 {σ:St} {dst:Option Tmp} {e:Mn} {k:Nat} (h:e.l k=none):(σ.app dst e).L k=σ.L k:=by simp [St.app,h]
theorem Zd {σ:St} {d d':Option Tmp} {e e':Mn} (hd:∀ t,d=some t->d'≠some t) (hl:∀ k,e.l k=none\/e'.l k=none):(σ.app d e).app d' e'=(σ.app d' e').app d e:=by
 unfold St.app
 congr 1
 ·cases d with
  | none=>rfl
  | some t=>
   cases d' with
   | none=>rfl
   | some t'=>
    funext s
    have hne:t'≠t:=fun h=>hd t rfl (by rw [h])
    by_cases h1:s=t
    ·subst h1
     dsimp only
     rw [Oj _ _ (Ne.symm hne),Xn,Xn]
    ·by_cases h2:s=t'
     ·subst h2
      dsimp only
      rw [Xn,Oj _ _ h1,Xn]
     ·dsimp only
      rw [Oj _ _ h2,Oj _ _ h1,Oj _ _ h1,Oj _ _ h2]
 ·funext k
  rcases hl k with h | h
  ·simp only [h]
  ·simp only [h]
 ·funext k
  dsimp only
  cases σ.U k <;> cases (e.l k).isSome <;> cases (e'.l k).isSome <;> rfl
theorem Z6 {a b:List Nat} (h:uL a b=true) {k:Nat} (ha:k∈a) (hb:k∈b):False:=by
 have:=aHi.1 (aHi.1 h k ha) k hb
 simp at this
theorem cQ {a:List Nat} {tk:Nat} (h:aBr a tk=true) {k:Nat} (ha:k∈a):k < tk\/tk + 8<=k:=by
 have:=aHi.1 h k ha
 simp [Nat.blt] at this
 omega
theorem Lg {i:Nat} {cl:Bool} {tk:Nat} {rd wr:List Nat} {p:Nat} {cp:Bool} {tp:Nat} {rp wp:List Nat} (h:mG r i cl tk rd wr (p,cp,tp,rp,wp)=true) (hr:zX r p i=false) :
  (cl=true->cp=true->False)/\(∀ k,k∈wp->k∈rd->False)/\(∀ k,k∈rp->k∈wr->False)/\(∀ k,k∈rd->k < tp\/tp + 8<=k)/\(∀ k,k∈rp->k < tk\/tk + 8<=k):=by
 unfold mG at h
 rw [aJf] at h
 rcases h with h | h
 ·exfalso
  have h:zX r p i=true:=h
  rw [hr] at h
  cases h
 ·simp only [aEw] at h
  obtain⟨⟨⟨⟨h1,h2⟩,h3⟩,h4⟩,h5⟩:=h
  refine⟨fun a b=>?_,fun k a b=>Z6 h2 a b,fun k a b=>Z6 h3 a b,fun k hk=>cQ h4 hk,fun k hk=>cQ h5 hk⟩
  rw [a,b] at h1
  cases h1
theorem Oy {i:Nat} {cl:Bool} {tk:Nat} {rd wr:List Nat} {lg:jV} {x:Nat×Bool×Nat×List Nat×List Nat} (h:K9 (some r) i cl tk rd wr (x :: lg)=true):mG r i cl tk rd wr x=true/\K9 (some r) i cl tk rd wr lg=true:=by
 unfold K9 at *
 simp only [List.all_cons,aEw] at h
 exact h
structure X0 (tp ti:Nat) (ep ei:Mn) (rp ri:List Nat):Prop where
 pi:∀ k,k∈ri->ep.l k=none
 ip:∀ k,k∈rp->ei.l k=none
 ee:∀ k,ep.l k=none\/ei.l k=none
theorem X0.of {tp ti:Nat} {ep ei:Mn} {rp wp ri wi:List Nat} (hkp:∀ k,ep.l k≠none->k∈wp\/(tp<=k/\k < tp + 8)) (hsp:∀ k,k∈wp->k∈rp) (hki:∀ k,ei.l k≠none->k∈wi\/(ti<=k/\k < ti + 8)) (hsi:∀ k,k∈wi->k∈ri)
  (h:(∀ k,k∈wp->k∈ri->False)/\(∀ k,k∈rp->k∈wi->False)/\(∀ k,k∈ri->k < tp\/tp + 8<=k)/\(∀ k,k∈rp->k < ti\/ti + 8<=k)) (ht:tp + 8<=ti\/ti + 8<=tp):X0 tp ti ep ei rp ri:=by
 obtain⟨h1,h2,h3,h4⟩:=h
 have pi:∀ k,k∈ri->ep.l k=none:=fun k hk=>by
  cases hx:ep.l k with
  | none=>rfl
  | some x=>
   rcases hkp k (by rw [hx]; simp) with h5 | h5
   ·exact (h1 k h5 hk).elim
   ·have:=h3 k hk; omega
 have ip:∀ k,k∈rp->ei.l k=none:=fun k hk=>by
  cases hx:ei.l k with
  | none=>rfl
  | some x=>
   rcases hki k (by rw [hx]; simp) with h5 | h5
   ·exact (h2 k hk h5).elim
   ·have:=h4 k hk; omega
 refine⟨pi,ip,fun k=>?_⟩
 cases hx:ep.l k with
 | none=>exact .inl rfl
 | some x=>
  right
  cases hy:ei.l k with
  | none=>rfl
  | some y=>
   rcases hkp k (by rw [hx]; simp) with h5 | h5
   ·exact absurd (ip k (hsp k h5)) (by rw [hy]; simp)
   ·rcases hki k (by rw [hy]; simp) with h6 | h6
    ·exact absurd (pi k (hsi k h6)) (by rw [hx]; simp)
    ·omega
theorem yO (w:World) {Q:St->Prop} {i:Nat} {o:Oper} {po:List (Nat×Oper)}:∀ (pre:List (Nat×Oper)) (lg:jV) (σ:St),(∀ p∈pre,zX r p.1 i=false/\mS ops p.2 o/\p.1 < i)->
  Chain S ops (some r) nb (pre ++ (i,o) :: po) lg σ Q->
  (∃ rd wr e,SF S ops (nb + 8 * i) o σ rd wr e/\K9 (some r) i false (nb + 8 * i) rd wr lg=true/\Chain S ops (some r) nb (pre ++ po) lg (σ.app o.dst e) Q)\/
  (∃ rd wr E,SC S ops (nb + 8 * i) o σ rd wr E/\K9 (some r) i true (nb + 8 * i) rd wr lg=true/\(∃ e,E e)/\∀ e,E e->Chain S ops (some r) nb (pre ++ po) lg (σ.app o.dst e) Q)
 | [],lg,σ,_,h=>by
  rcases h with ⟨rd,wr,e,h1,h2,h3⟩ | ⟨rd,wr,E,h1,h2,h2',h3⟩
  ·exact .inl ⟨rd,wr,e,h1,h2,Chain.log (fun q hq=>aHk _ hq) h3⟩
  ·exact .inr ⟨rd,wr,E,h1,h2,h2' rfl,fun e he=>Chain.log (fun q hq=>aHk _ hq) (h3 e he)⟩
 | (p,op) :: pre,lg,σ,hp,h=>by
  obtain⟨hr,hap,hlt⟩:=hp (p,op) (aHt ..)
  have hp':∀ q∈pre,zX r q.1 i=false/\mS ops q.2 o/\q.1 < i:=fun q hq=>hp q (aHk _ hq)
  dsimp only at hr hap hlt
  have ht:nb + 8 * p + 8<=nb + 8 * i\/nb + 8 * i + 8<=nb + 8 * p:=by omega
  have hFi:∀ (e:Mn) t,t∈Pz ops o->(σ.app op.dst e).F t=σ.F t:=fun e t htr=>zU fun hd=>hap.a t hd htr
  have hFp:∀ (e:Mn) t,t∈Pz ops op->(σ.app o.dst e).F t=σ.F t:=fun e t htr=>zU fun hd=>hap.b t hd htr
  rcases h with ⟨rp,wp,ep,h1,h2,h3⟩ | ⟨rp,wp,Ep,h1,h2,h2',h3⟩
  ·rcases yO w pre _ _ hp' h3 with ⟨rd,wr,e,k1,k2,k3⟩ | ⟨rd,wr,E,k1,k2,k2',k3⟩
   ·obtain⟨hpair,hok⟩:=Oy k2
    have hcl:=X0.of h1.key.1 h1.key.2 k1.key.1 k1.key.2 (Lg hpair hr).2 ht
    refine .inl ⟨rd,wr,e,k1.local (fun t htr=>(hFi ep t htr).symm) (fun k hk=>(X9 (hcl.pi k hk)).symm),hok,.inl ⟨rp,wp,ep,h1.local (fun t htr=>hFp e t htr) (fun k hk=>X9 (hcl.ip k hk)),h2,?_⟩⟩
    rw [Zd (fun t hd hd'=>hap.c t hd' hd) (fun k=>(hcl.ee k).symm)]
    exact k3
   ·obtain⟨hpair,hok⟩:=Oy k2
    have hcl:=fun e he=>X0.of h1.key.1 h1.key.2 (k1.key.1 e he) k1.key.2 (Lg hpair hr).2 ht
    obtain⟨e0,he0⟩:=k2'
    refine .inr ⟨rd,wr,E,k1.local (fun t htr=>(hFi ep t htr).symm) (fun k hk=>(X9 ((hcl e0 he0).pi k hk)).symm),hok,⟨e0,he0⟩,fun e he=>.inl ⟨rp,wp,ep,h1.local (fun t htr=>hFp e t htr) (fun k hk=>X9 ((hcl e he).ip k hk)),h2,?_⟩⟩
    rw [Zd (fun t hd hd'=>hap.c t hd' hd) (fun k=>((hcl e he).ee k).symm)]
    exact k3 e he
  ·obtain⟨e0,he0⟩:=h2' rfl
   rcases yO w pre _ _ hp' (h3 e0 he0) with ⟨rd,wr,e,k1,k2,k3⟩ | ⟨rd,wr,E,k1,k2,k2',k3⟩
   ·obtain⟨hpair,hok⟩:=Oy k2
    have hcl0:=X0.of (h1.key.1 e0 he0) h1.key.2 k1.key.1 k1.key.2 (Lg hpair hr).2 ht
    have hs:SF S ops (nb + 8 * i) o σ rd wr e:=k1.local (fun t htr=>(hFi e0 t htr).symm) (fun k hk=>(X9 (hcl0.pi k hk)).symm)
    refine .inl ⟨rd,wr,e,hs,hok,.inr ⟨rp,wp,Ep,h1.local (fun t htr=>hFp e t htr) (fun k hk=>X9 (hcl0.ip k hk)),h2,h2',fun ep hep=>?_⟩⟩
    have hrd:rd=zZ ops o (σ.app op.dst ep):=by rw [oQ (hFi ep)]; exact hs.rdEq
    rcases yO w pre _ _ hp' (h3 ep hep) with ⟨rd',wr',e',m1,m2,m3⟩ | ⟨rd',wr',E',m1,m2,m2',m3⟩
    ·have hrr:rd'=rd:=m1.rdEq.trans hrd.symm
     subst hrr
     have hpi:∀ k,k∈rd'->ep.l k=none:=(X0.of (h1.key.1 ep hep) h1.key.2 m1.key.1 m1.key.2 (Lg (Oy m2).1 hr).2 ht).pi
     obtain⟨-,rfl,rfl⟩:=m1.func w (hs.local (hFi ep) fun k hk=>X9 (hpi k hk))
     have hcl:=X0.of (h1.key.1 ep hep) h1.key.2 m1.key.1 m1.key.2 (Lg (Oy m2).1 hr).2 ht
     rw [Zd (fun t hd hd'=>hap.c t hd' hd) (fun k=>(hcl.ee k).symm)]
     exact m3
    ·have hrr:∀ k,k∈rd->k∈rd':=fun k hk=>m1.rdSub k (hrd ▸ hk)
     obtain⟨em,hem⟩:=m2'
     have hpi:∀ k,k∈rd'->ep.l k=none:=(X0.of (h1.key.1 ep hep) h1.key.2 (m1.key.1 em hem) m1.key.2 (Lg (Oy m2).1 hr).2 ht).pi
     exact ((hs.local (hFi ep) fun k hk=>X9 (hpi k (hrr k hk))).excl m1).elim
   ·exact ((Lg (Oy k2).1 hr).1 rfl rfl).elim
def M1 (ops:Array Oper):Nat->Nat->Nat->Bool
 | 0,_,_=>false
 | n + 1,p,i=>match ops[i]? with
  | some o=>o.after.any fun e=>Region.binds .any e && (Nat.beq e.on p || M1 ops n p e.on)
  | none=>false
def kC (ops:Array Oper) (x y:Oper):Bool:=
 (match x.dst with | some d=>!(Pz ops y).contains d && (match y.dst with | some d'=>!Nat.beq d d' | none=>true) | none=>true) && (match y.dst with | some d=>!(Pz ops x).contains d | none=>true)
theorem jU {x y:Oper} (h:kC ops x y=true):mS ops x y:=by
 unfold kC at h
 rw [aEw] at h
 obtain⟨h1,h2⟩:=h
 refine⟨fun d hd hm=>?_,fun d hd hm=>?_,fun d hd hd'=>?_⟩
 ·rw [hd] at h1
  simp only [aEw] at h1
  have:=h1.1
  simp [hm] at this
 ·rw [hd] at h2
  simp [hm] at h2
 ·rw [hd,hd'] at h1
  simp at h1
def Yn (ms:List Nat):List Edge->Nat
 | []=>0
 | e :: l=>bif Region.binds .any e then ((1 <<< e.on) ||| ms.getD e.on 0) ||| Yn ms l else Yn ms l
def aCw:List Oper->List Nat->List Nat
 | [],ms=>ms
 | o :: l,ms=>aCw l (ms ++ [Yn ms o.after.toList])
def iU (l:List Oper) (r:List Nat):Bool:=
 (aCw l [] == r) &&
 ((idx 0 l).all fun q=>(q.2.after.all fun e=>!Region.binds .any e || Nat.blt e.on q.1)) &&
 ((idx 0 l).all fun q=>(idx 0 l).all fun p=>!Nat.blt p.1 q.1 || zX r p.1 q.1 || kC l.toArray p.2 q.2)
theorem Z5 {ops:Array Oper} {p:Nat}:∀ {n i:Nat},M1 ops n p i=true->M1 ops (n + 1) p i=true
 | 0,_,h=>by simp [M1] at h
 | n + 1,i,h=>by
  unfold M1 at h ⊢
  cases ho:ops[i]? with
  | none=>rw [ho] at h; cases h
  | some o=>
   rw [ho] at h
   simp only [] at h ⊢
   rw [<- Array.any_toList] at h ⊢
   obtain⟨e,he,h1⟩:=aIc.1 h
   refine aIc.2 ⟨e,he,?_⟩
   simp only [aEw,aJf] at h1 ⊢
   exact⟨h1.1,h1.2.imp id fun h2=>Z5 h2⟩
theorem jH {ops:Array Oper} {p i n m:Nat} (h:M1 ops n p i=true) (hm:n<=m):M1 ops m p i=true:=by
 induction hm with
 | refl=>exact h
 | step _ ih=>exact Z5 ih
theorem Xh {ms:List Nat} {p:Nat}:∀ {l:List Edge},Nat.testBit (Yn ms l) p=true->∃ e∈l,Region.binds .any e=true/\(p=e.on\/Nat.testBit (ms.getD e.on 0) p=true)
 | [],h=>by simp [Yn] at h
 | e :: l,h=>by
  unfold Yn at h
  cases hb:Region.binds .any e with
  | false=>
   rw [hb] at h
   obtain⟨e',h1,h2⟩:=Xh (l:=l) h
   exact⟨e',aHk _ h1,h2⟩
  | true=>
   rw [hb] at h
   simp only [aEn,Nat.testBit_or,aJf] at h
   rcases h with (h | h) | h
   ·refine⟨e,aHt ..,hb,.inl ?_⟩
    rw [Nat.testBit_shiftLeft] at h
    simp only [aEw,aJr] at h
    have h2:=h.2
    rw [Nat.testBit_one_eq_true_iff_self_eq_zero] at h2
    have:=h.1
    omega
   ·exact⟨e,aHt ..,hb,.inr h⟩
   ·obtain⟨e',h1,h2⟩:=Xh (l:=l) h
    exact⟨e',aHk _ h1,h2⟩
theorem dC {ops:Array Oper}:∀ (l:List Oper) (ms:List Nat),(∀ j o,l[j]?=some o->ops[ms.length + j]?=some o)->(∀ i p,i < ms.length->Nat.testBit (ms.getD i 0) p=true->M1 ops (i + 1) p i=true)->(∀ j o,l[j]?=some o->∀ e∈o.after,Region.binds .any e=true->e.on < ms.length + j)->
  ∀ i p,i < ms.length + l.length->Nat.testBit ((aCw l ms).getD i 0) p=true->M1 ops (i + 1) p i=true
 | [],ms,_,h,_,i,p,hi,hb=>h i p (by simpa using hi) hb
 | o :: l,ms,hl,h,he,i,p,hi,hb=>by
  have h0:=hl 0 o rfl
  have step:∀ i p,i < (ms ++ [Yn ms o.after.toList]).length->Nat.testBit ((ms ++ [Yn ms o.after.toList]).getD i 0) p=true->M1 ops (i + 1) p i=true:=fun i p hi hb=>by
   rw [aEm,aEz] at hi
   rcases aJv i ms.length with hlt | hge
   ·refine h i p hlt ?_
    rw [show (ms ++ [Yn ms o.after.toList]).getD i 0=ms.getD i 0 by simp [List.getD,aHo hlt]] at hb
    exact hb
   ·have hie:i=ms.length:=by omega
    subst hie
    have e1:(ms ++ [Yn ms o.after.toList]).getD ms.length 0=Yn ms o.after.toList:=by simp [List.getD]
    rw [e1] at hb
    obtain⟨e,h1,h2,h3⟩:=Xh hb
    have hon:=he 0 o rfl e (Array.mem_toList_iff.1 h1) h2
    unfold M1
    rw [show ops[ms.length]?=some o from h0]
    simp only []
    rw [<- Array.any_toList]
    refine aIc.2 ⟨e,h1,?_⟩
    simp only [aEw,aJf]
    refine⟨h2,?_⟩
    rcases h3 with h3 | h3
    ·exact .inl (by rw [h3]; exact aKj _)
    ·exact .inr (jH (h e.on p (by omega) h3) (by omega))
  refine dC l (ms ++ [Yn ms o.after.toList]) (fun j o' h'=>?_) step (fun j o' h' e h1 h2=>?_) i p ?_ hb
  ·have:=hl (j + 1) o' h'
   rw [aEm,aEz]
   rwa [show ms.length + 1 + j=ms.length + (j + 1) by omega]
  ·have:=he (j + 1) o' h' e h1 h2
   rw [aEm,aEz]
   omega
  ·rw [aEm,aEz]
   simp only [aJg] at hi
   omega
theorem iS {L:List Oper} {r:List Nat} (hB:iU L r=true) (p i:Nat) (hi:i < L.length) (h:zX r p i=true):M1 L.toArray L.length p i=true:=by
 simp only [iU,aEw,aHi] at hB
 obtain⟨⟨h1,h2⟩,-⟩:=hB
 have h1:=eq_of_beq h1
 subst h1
 refine jH (dC (ops:=L.toArray) L [] (fun j o h=>by simpa using h) (fun i p hi=>by simp at hi) (fun j o h3 e h4 h5=>?_) i p (by simpa using hi) h) hi
 have:=h2 (j,o) (by have:=Xd (k:=0) h3; simpa using this)
 have:=(aKa.1 this) e h4
 simp only [h5,aI6,aLf] at this
 have h6:=aBe this
 have h6:e.on + 1<=j:=h6
 show e.on < 0 + j
 omega
def nF (ops:Array Oper) (s:Array Bool):Prop:=∀ j o,ops[j]?=some o->s.getD j true=true->∀ e∈o.after,Region.binds .any e=true->s.getD e.on false=true
theorem bH {s:Array Bool} (hs:nF ops s) (hsz:s.size=ops.size):∀ (n p i:Nat) (o:Oper),ops[i]?=some o->(∀ e∈o.after,Region.binds .any e=true->s.getD e.on false=true)->M1 ops n p i=true->s.getD p false=true
 | 0,_,_,_,_,_,h=>by simp [M1] at h
 | n + 1,p,i,o,ho,hd,h=>by
  unfold M1 at h
  rw [ho] at h
  simp only [] at h
  obtain⟨e,he,h1⟩:=aIc.1 (by rw [<- Array.any_toList] at h; exact h)
  simp only [aEw,aJf] at h1
  have he':e∈o.after:=Array.mem_toList_iff.1 he
  have hon:=hd e he' h1.1
  rcases h1.2 with h2 | h2
  ·rw [<- aEk h2]; exact hon
  ·cases hoj:ops[e.on]? with
   | none=>
    cases n <;> simp [M1,hoj] at h2
   | some oj=>
    have h3:s.getD e.on true=true:=by
     have hlt:e.on < s.size:=by rw [hsz]; exact (aHg.1 hoj).1
     simpa [hlt] using hon
    exact bH hs hsz n p e.on oj hoj (hs e.on oj hoj h3) h2
structure aFi (ops:Array Oper) (s:Array Bool) (l:List (Nat×Oper)):Prop where
 size:s.size=ops.size
 pw:l.Pairwise fun a b=>a.1 < b.1
 mem:∀ q∈l,ops[q.1]?=some q.2/\s.getD q.1 true=false
 all:∀ i o,ops[i]?=some o->s.getD i true=false->(i,o)∈l
 closed:nF ops s
theorem Zw {s:Array Bool} {i j:Nat} {b:Bool} (hi:i < s.size):(s.setIfInBounds i true).getD j b=if j=i then true else s.getD j b:=by
 by_cases h:j=i
 ·subst h
  simp [hi]
 ·simp [h,aJ0,Ne.symm h]
theorem rG (w0:World) {Q:Exit->St->Prop} {L:List Oper} {nb':Nat} (hB:iU L r=true) (hd:lA cx.N L=true) (hn:nb + 8 * L.length<=nb'):∀ (n:Nat) (l:List (Nat×Oper)) (s:Array Bool) (σ:St) (a:Act) (w:World),l.length=n->aFi L.toArray s l->
  Chain S L.toArray (some r) nb l [] σ (fun σ'=>(∀ j,nb'<=j->σ'.U j=false)->Q .normal σ')->V2 nb l σ->(∀ j,nb'<=j->σ.U j=false)->K2 cx σ a w->wpAny P .any L.toArray (Sk cx Q) n s a w:=by
 have hBr:=iS hB
 simp only [iU,aEw,aHi] at hB
 obtain⟨⟨hB1,hB2⟩,hB3⟩:=hB
 intro n
 induction n with
 | zero=>
  intro l s σ a w hl hL hc hf B ha
  obtain rfl:l=[]:=aEp hl
  refine⟨?_,σ,hc B,ha⟩
  unfold Region.ready
  refine List.filter_eq_nil_iff.2 fun i hi hh=>?_
  simp only [aEw,aJ1] at hh
  have hlt:i < L.toArray.size:=aKe.1 hi
  have:=hL.all i _ (aJt hlt) hh.1
  simp at this
 | succ n ih=>
  intro l s σ a w hl hL hc hf B ha
  have hready:∀ i o,(i,o)∈l->(∀ e∈o.after,Region.binds .any e=true->s.getD e.on false=true)->i∈Region.ready .any L.toArray s:=by
   intro i o hm hdone
   obtain⟨h1,h2⟩:=hL.mem _ hm
   dsimp only at h1 h2
   have hlt:i < L.toArray.size:=(aHg.1 h1).1
   unfold Region.ready
   refine List.mem_filter.2 ⟨aKe.2 hlt,?_⟩
   rw [h1,h2]
   simp only [aKf,aJu,aKk,Option.getD_some]
   rw [Array.all_eq_true]
   intro j hj
   cases hb:Region.binds .any o.after[j] with
   | false=>rfl
   | true=>simpa using hdone _ (Array.getElem_mem hj) hb
  refine⟨fun hemp=>?_,fun i hi=>?_⟩
  ·exfalso
   match l,hl with
   | (i,o) :: l',_=>
    have hm:=hL.mem (i,o) (aHt ..)
    have h0:(i,o)∈idx 0 L:=by
     have:=Xd (k:=0) (by simpa using hm.1:L[i]?=some o)
     simpa using this
    have hr:=hready i o (aHt ..) fun e he hb=>?_
    ·rw [hemp] at hr; cases hr
    ·have h1:=hB2 _ h0
     rw [aKa] at h1
     have h2:=h1 e he
     rw [hb] at h2
     simp [Nat.blt] at h2
     have hlt:e.on < L.toArray.size:=by
      have:=(aHg.1 hm.1).1
      dsimp only at this
      omega
     cases hc:s.getD e.on true with
     | true=>
      have:e.on < s.size:=by rw [hL.size]; exact hlt
      simpa [this] using hc
     | false=>
      exfalso
      have h3:=hL.all e.on _ (aJt hlt) hc
      rcases aDv.1 h3 with h4 | h4
      ·injection h4 with h4 _
       omega
      ·have:=(aJc.1 hL.pw).1 _ h4
       dsimp only at this
       omega
  ·unfold Region.ready at hi
   obtain⟨hi1,hi2⟩:=List.mem_filter.1 hi
   have hlt:i < L.toArray.size:=aKe.1 hi1
   simp only [aEw,aJ1] at hi2
   obtain⟨o,ho⟩:∃ o,L.toArray[i]?=some o:=⟨_,aJt hlt⟩
   have hdone:∀ e∈o.after,Region.binds .any e=true->s.getD e.on false=true:=by
    intro e he hb
    have h1:=hi2.2
    rw [ho] at h1
    simp only [aKk,Option.getD_some] at h1
    rw [aKa] at h1
    have:=h1 e he
    rw [hb] at this
    simpa using this
   have hm:=hL.all i o ho hi2.1
   obtain⟨pre,po,rfl⟩:=List.append_of_mem hm
   have hpw:=hL.pw
   rw [List.pairwise_append] at hpw
   obtain⟨hw1,hw2,hw3⟩:=hpw
   obtain⟨hw2a,hw2b⟩:=aJc.1 hw2
   have hisz:i < s.size:=by rw [hL.size]; exact hlt
   have hi0:(i,o)∈idx 0 L:=by
    have:=Xd (k:=0) (by simpa using ho:L[i]?=some o)
    simpa using this
   have hnot:∀ p∈pre,M1 L.toArray L.length p.1 i=true->False:=fun p hp hr=>by
    have h1:=bH hL.closed hL.size L.length p.1 i o ho hdone hr
    have h2:=(hL.mem p (aI9 _ hp)).2
    have hps:p.1 < s.size:=by
     rw [hL.size]
     exact (aHg.1 (hL.mem p (aI9 _ hp)).1).1
    simp [hps] at h1 h2
    rw [h1] at h2
    cases h2
   have hpre:∀ p∈pre,zX r p.1 i=false/\mS L.toArray p.2 o/\p.1 < i:=fun p hp=>by
    have hlt':p.1 < i:=hw3 p hp (i,o) (aHt ..)
    refine⟨Bool.eq_false_iff.2 fun hr=>hnot p hp (hBr p.1 i (by have:=(aBn.1 (show L[i]?=some o by simpa using ho)).1; exact this) hr),?_,hlt'⟩
    have hp0:p∈idx 0 L:=by
     have:=Xd (k:=0) (by simpa using (hL.mem p (aI9 _ hp)).1:L[p.1]?=some p.2)
     simpa using this
    have:=hB3 _ hi0 _ hp0
    simp only [aJf,aJ1] at this
    rcases this with (h1 | h1) | h1
    ·exact absurd (show Nat.blt p.1 i=true from aKl hlt') (by rw [h1]; simp)
    ·exact (hnot p hp (hBr p.1 i (by have:=(aBn.1 (show L[i]?=some o by simpa using ho)).1; exact this) h1)).elim
    ·exact jU h1
   have hL':aFi L.toArray (s.setIfInBounds i true) (pre ++ po):=by
    refine⟨by simpa using hL.size,?_,?_,?_,?_⟩
    ·rw [List.pairwise_append]
     exact⟨hw1,hw2b,fun x hx y hy=>hw3 x hx y (aHk _ hy)⟩
    ·intro q hq
     have hne:q.1≠i:=by
      rcases aHm.1 hq with hq | hq
      ·have:=hw3 q hq (i,o) (aHt ..)
       dsimp only at this
       omega
      ·have:=hw2a q hq
       dsimp only at this
       omega
     have hq':q∈pre ++ (i,o) :: po:=by
      rcases aHm.1 hq with hq | hq
      ·exact aI9 _ hq
      ·exact aJd _ (aHk _ hq)
     refine⟨(hL.mem q hq').1,?_⟩
     rw [Zw hisz,if_neg hne]
     exact (hL.mem q hq').2
    ·intro j oj hj hjs
     rw [Zw hisz] at hjs
     split at hjs
     ·cases hjs
     ·rename_i hne
      have:=hL.all j oj hj hjs
      rcases aHm.1 this with h1 | h1
      ·exact aI9 _ h1
      ·rcases aDv.1 h1 with h2 | h2
       ·injection h2 with h2 _
        exact (hne h2).elim
       ·exact aJd _ h2
    ·intro j oj hj hjs e he hb
     rw [Zw hisz] at hjs ⊢
     split
     ·rfl
     ·split at hjs
      ·rename_i hji
       subst hji
       rw [ho] at hj
       injection hj with hj
       subst hj
       exact hdone e he hb
      ·exact hL.closed j oj hj hjs e he hb
   have hlen:(pre ++ po).length=n:=by simp at hl ⊢; omega
   have hdi:=Xe (k:=0) hd _ hi0
   have hfi:=hf (i,o) hm
   have hfn:V2 nb (pre ++ po) σ:=fun q hq=>hf q (by
    rcases aHm.1 hq with hq | hq
    ·exact aI9 _ hq
    ·exact aJd _ (aHk _ hq))
   have hne:∀ q∈pre ++ po,q.1≠i:=fun q hq=>by
    rcases aHm.1 hq with hq | hq
    ·have:=hw3 q hq (i,o) (aHt ..)
     dsimp only at this
     omega
    ·have:=hw2a q hq
     dsimp only at this
     omega
   have hUn:∀ {e:Mn} {wr rd:List Nat},(∀ j,e.l j≠none->j∈wr\/(nb + 8 * i<=j/\j < nb + 8 * i + 8))->(∀ j,j∈wr->j∈rd)->(∀ j,j∈rd->σ.U j=true)->∀ j,nb'<=j->(σ.app o.dst e).U j=false:=fun {e wr rd} hk hs hu j hj=>by
    cases hc:(σ.app o.dst e).U j with
    | false=>rfl
    | true=>
     rcases mC hc with h1 | h1
     ·rw [B j hj] at h1; cases h1
     ·rcases hk j h1 with h2 | h2
      ·exact absurd (hu j (hs j h2)) (by rw [B j hj]; simp)
      ·have:i < L.length:=by simpa using hlt
       omega
   unfold wpOp
   rw [ho]
   simp only []
   obtain⟨ρ,ha'⟩:=ha
   rcases yO w0 pre [] σ hpre hc with ⟨rd,wr,e,k1,-,k3⟩ | ⟨rd,wr,E,k1,-,-,k3⟩
   ·have:=k1.sound ha' hfi hdi (wpAny P .any L.toArray (Sk cx Q) n (s.setIfInBounds i true)) (Sk cx Q) fun a' w' h'=>ih _ _ _ a' w' hlen hL' k3 (hfn.next k1.key.1 (fun j hj=>k1.used ha' j (k1.key.2 j hj)) hne) (hUn k1.key.1 k1.key.2 (k1.used ha')) h'
    split
    ·rename_i hw
     rw [if_pos hw] at this
     exact .inl this
    ·rename_i hw
     rw [if_neg hw] at this
     exact this
   ·have:=k1.sound ha' hfi hdi (wpAny P .any L.toArray (Sk cx Q) n (s.setIfInBounds i true)) (Sk cx Q) fun e a' w' he h'=>ih _ _ _ a' w' hlen hL' (k3 e he) (hfn.next (k1.key.1 e he) (fun j hj=>k1.used ha' j (k1.key.2 j hj)) hne) (hUn (k1.key.1 e he) k1.key.2 (k1.used ha')) h'
    split
    ·rename_i hw
     rw [if_pos hw] at this
     exact .inl this
    ·rename_i hw
     rw [if_neg hw] at this
     exact this
theorem Bu (S:vL P cx) {Q:Exit->St->Prop} {id:Nat} {l:List Oper} {σ:St} (hm:P.follows .mixedOrders=true) (r:List Nat) (nb nb':Nat) (B:∀ k,nb<=k->σ.U k=false) (hn:Nat.ble (nb + 8 * l.length) nb'=true) (hd:lA cx.N l=true) (hB:iU l r=true)
  (h:Chain S l.toArray (some r) nb (idx 0 l) [] σ (fun σ'=>(∀ j,nb'<=j->σ'.U j=false)->Q .normal σ')):B4 P cx (.region id l.toArray true) Q σ:=by
 intro a w ha
 have hn':nb + 8 * l.length<=nb':=aBe hn
 refine wp_region_any hm ?_
 obtain⟨ρ,h1⟩:=ha
 have ha':K2 cx σ a { w with drawn:=w.drawn + 1 }:=⟨ρ,h1.defers,h1.size,h1.kept,fun t d hd=>C4.step (w:=w) (w':={ w with drawn:=w.drawn + 1 }) (I':=Ms cx σ ρ { w with drawn:=w.drawn + 1 }) (fun b hb=>⟨hb,rfl⟩) d _ (fun _ _=>rfl) (h1.fr t d hd),fun k lb hl=>(h1.lo k lb hl).step (w':={ w with drawn:=w.drawn + 1 }) (I':=Ms cx σ ρ { w with drawn:=w.drawn + 1 }) (fun b hb=>⟨hb,rfl⟩) (fun _ _=>rfl) (fun _ _=>rfl),h1.sep,h1.usedF,h1.usedL,h1.pin,h1.fresh⟩
 have:=rG w (Q:=Q) hB hd hn' l.toArray.size (idx 0 l) (Array.replicate l.toArray.size false) σ a _ (by rw [aH]; simp) ⟨by simp,sE l 0,fun q hq=>?_,fun i o ho _=>?_,fun j o ho hs=>?_⟩ h (fun q hq j hj=>B _ (by omega)) (fun j hj=>B j (by omega)) ha'
 ·exact this
 ·have h2:=T4 hq
  have h3:q.1 < l.length:=by have:=h2.2.1; omega
  refine⟨by simpa using h2.2.2,?_⟩
  simp [h3]
 ·have:=Xd (k:=0) (by simpa using ho:l[i]?=some o)
  simpa using this
 ·have hlt:j < l.length:=by simpa using (aHg.1 ho).1
  simp [hlt] at hs
end
end Go.Proofs.YtkoflhimdenjaaaGreat
