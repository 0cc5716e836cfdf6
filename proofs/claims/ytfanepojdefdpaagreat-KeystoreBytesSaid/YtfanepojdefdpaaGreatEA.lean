import Derived.LoopN
import Derived.Test.YtfanepojdefdpaaGreatMem
import Derived.Orders
import Derived.Tactics
set_option linter.unusedVariables false
set_option linter.unusedSimpArgs false
namespace Go.Proofs.YtfanepojdefdpaaGreat
open Go.RowKit
inductive DV where
 | val (v:Value)
 | sl (sz:Nat) (cs:List C)
 | slc (sz:Nat) (cs:List C)
 | row (k:Nat)
 | part (k off n:Nat)
 | ptr (k i:Nat)
 | elt (cs:List C)
 | agg (ds:List DV)
 | tup (ds:List DV)
 | clo (f:FuncId) (n:Nat) (ds:List DV)
 | mp (l:List (Value×Value))
 | nst (k s i:Nat)
 | npt (k s i j:Nat)
 | npr (k s i off n:Nat)
 | qpt (k i:Nat)
structure Shp where
 R:World->(Nat->Prop)->Value->List Value->Prop
 own:Value->List Value->Nat->Prop
 stab:∀ {w w':World} {I I':Nat->Prop} {v:Value} {xs:List Value},R w I v xs->(∀ b,I b->I' b/\w'.heap[b]?=w.heap[b]?)->(∀ b,own v xs b->w'.heap[b]?=w.heap[b]?)->R w' I' v xs
 lt:∀ {w:World} {I:Nat->Prop} {v:Value} {xs:List Value} {b:Nat},R w I v xs->own v xs b->b < w.heap.size
 rd:Option (Nat×List C)
 rdOk:∀ {w:World} {I J:Nat->Prop} {v:Value} {xs:List Value} {sz:Nat} {cs:List C},rd=some (sz,cs)->R w I v xs->(∀ b,I b->J b)->(∀ b,own v xs b->J b)->D3 w J (.sl sz cs) v
inductive LB where
 | box (ds:List DV) (ty:TypeId)
 | row (e:TypeId) (sz:Nat) (cs:List C)
 | map (l:List (Value×Value))
 | mit (k n:Nat) (seen:List Nat)
 | vec (ds:List DV) (e:TypeId)
 | tree (e:TypeId) (sz o:Nat) (e2:TypeId) (sz2 s:Nat) (h:Option Nat) (cs:List C)
 | gho
 | que (e:TypeId) (sz:Nat) (cs:List C)
 | abs (ns:List Nat) (S:Shp)
def Br:Value->Option Nat
 | .slice (some a) _ (_ + 1)=>some a.block
 | .pointer (some a)=>some a.block
 | .map (some g)=>some g
 | _=>none
theorem Ft {a:Addr} {n c g:Nat} (h:Br (.slice (some a) n c)=some g):a.block=g/\0 < c:=by
 cases c with
 | zero=>cases h
 | succ c=>injection h with h; exact⟨h,Nat.succ_pos c⟩
theorem Gu {a:Addr} {n c:Nat} (h:0 < c):Br (.slice (some a) n c)=some a.block:=by
 cases c with
 | zero=>cases h
 | succ c=>rfl
def _root_.Go.World.rowOk (w:World) (e:TypeId) (sz:Nat) (v:Value) (n:Nat) (us:List Value):Prop:=
 us.length=n * sz/\((∃ A,v=.slice A 0 0/\n=0)\/∃ g cap cur,v=.slice (some ⟨g,0,none⟩) n cap/\0 < cap/\w.heap[g]?=some (.cells cur e (0,0))/\n<=cap/\cap<=maxLen/\cur.size=cap * sz/\cur.toList.take (n * sz)=us)
theorem _root_.Go.World.rowOk_of {w:World} {base e sz n:Nat} {v:Value} {us:List Value} (h:w.ownsRow base e sz v n us):w.rowOk e sz v n us:=by
 refine⟨h.1,?_⟩
 rcases h.2 with ⟨rfl,rfl⟩ | ⟨g,cap,cur,rfl,-,h2,h3,h4⟩
 ·exact .inl ⟨none,rfl,rfl⟩
 ·rcases aFa cap with h0 | h0
  ·subst h0
   have:n=0:=by omega
   subst this
   exact .inl ⟨_,rfl,rfl⟩
  ·exact .inr ⟨g,cap,cur,rfl,h0,h2,h3,h4⟩
theorem _root_.Go.World.rowOk_nil (w:World) (e sz:Nat) (A:Option Addr):w.rowOk e sz (.slice A 0 0) 0 []:=⟨by simp,.inl ⟨A,rfl,rfl⟩⟩
def _root_.Go.World.queOk (w:World) (e:TypeId) (sz:Nat) (v:Value) (n:Nat) (us:List Value):Prop:=
 us.length=n * sz/\((∃ A,v=.slice A 0 0/\n=0)\/∃ g base cap cur fr,v=.slice (some ⟨g,base,none⟩) n cap/\0 < cap/\w.heap[g]?=some (.cells cur e fr)/\n<=cap/\cap<=maxLen/\cur.size=base + cap * sz/\(cur.toList.drop base).take (n * sz)=us/\(fr.2=0\/cur.size<=fr.1))
theorem _root_.Go.World.rowOk.que {w:World} {e sz n:Nat} {v:Value} {us:List Value} (h:w.rowOk e sz v n us):w.queOk e sz v n us:=by
 refine⟨h.1,?_⟩
 rcases h.2 with h1 | ⟨g,cap,cur,h0,h1,h2,h3,h4,h5,h6⟩
 ·exact .inl h1
 ·exact .inr ⟨g,0,cap,cur,(0,0),h0,h1,h2,h3,h4,by omega,h6,.inl rfl⟩
theorem sB {w:World} {e:TypeId} {sz n b:Nat} {v:Value} {us:List Value} (ho:w.queOk e sz v n us) (hb:Br v=some b):b < w.heap.size:=by
 rcases ho.2 with ⟨A,rfl,-⟩ | ⟨g,base,cap,cur,fr,rfl,h1,h2,-⟩
 ·cases A <;> cases hb
 ·obtain⟨rfl,-⟩:=Ft hb
  exact (aEx.1 h2).1
theorem jQ {w w':World} {e:TypeId} {sz n:Nat} {v:Value} {us:List Value} (ho:w.queOk e sz v n us) (hb:∀ b,Br v=some b->w'.heap[b]?=w.heap[b]?):w'.queOk e sz v n us:=by
 refine⟨ho.1,?_⟩
 rcases ho.2 with h1 | ⟨g,base,cap,cur,fr,rfl,h1,h2,h3⟩
 ·exact .inl h1
 ·exact .inr ⟨g,base,cap,cur,fr,rfl,h1,(hb g (Gu h1)).trans h2,h3⟩
def own (ρ:Nat->Value) (v:Value):LB->Nat->Prop
 | .tree _ _ _ _ _ s h _,b=>Br v=some b\/∃ vs i u,ρ s=.tuple vs/\vs[i]?=some u/\h≠some i/\Br u=some b
 | .gho,_=>False
 | .abs ns S,b=>S.own v (ns.map ρ) b
 | .que ..,b=>Br v=some b
 | .box ..,b=>Br v=some b
 | .row ..,b=>Br v=some b
 | .map ..,b=>Br v=some b
 | .mit ..,b=>Br v=some b
 | .vec ..,b=>Br v=some b
mutual
def men:DV->Nat->Prop
 | .row k,j=>j=k
 | .part k _ _,j=>j=k
 | .ptr k _,j=>j=k
 | .agg ds,j=>E3 ds j
 | .tup ds,j=>E3 ds j
 | .clo _ _ ds,j=>E3 ds j
 | .val _,_=>False
 | .sl _ _,_=>False
 | .slc _ _,_=>False
 | .mp _,_=>False
 | .elt _,_=>False
 | .nst k s _,j=>j=k\/j=s
 | .npt k s _ _,j=>j=k\/j=s
 | .npr k s _ _ _,j=>j=k\/j=s
 | .qpt k _,j=>j=k
def E3:List DV->Nat->Prop
 | [],_=>False
 | d :: ds,j=>men d j\/E3 ds j
end
def Nq:LB->Nat->Prop
 | .box ds _,j=>E3 ds j
 | .row ..,_=>False
 | .map _,_=>False
 | .mit k _ _,j=>j=k
 | .vec ds _,j=>E3 ds j
 | .tree _ _ _ _ _ s _ _,j=>j=s
 | .gho,_=>False
 | .abs ns _,j=>j∈ns
 | .que ..,_=>False
section
variable (ρ:Nat->Value) (I:Nat->Prop) (w:World)
mutual
def B7:DV->Value->Prop
 | .val x,v=>v=x/\Fr x=true
 | .sl sz cs,v=>D3 w I (.sl sz cs) v
 | .slc sz cs,v=>D3 w I (.sl sz cs) v/\∃ A n,v=.slice A n n/\cs.length=n * sz
 | .mp l,v=>D3 w I (.mp l) v
 | .row k,v=>v=ρ k/\(ρ k).oneCell'=true
 | .part k off n,v=>∃ A c,v=.slice A n c/\n<=c/\c<=maxLen/\(0 < n->∃ g,Br (ρ k)=some g/\A=some ⟨g,off,none⟩)/\(off=0->∀ A' N c',ρ k=.slice A' N c'->A=A'/\c=c')
 | .ptr k i,v=>∃ g,Br (ρ k)=some g/\v=.pointer (some ⟨g,i,none⟩)
 | .elt cs,v=>∃ ad,v=.pointer (some ad)/\I ad.block/\Jl w I ad 0 cs
 | .agg ds,v=>∃ vs,v=.agg vs.toArray/\(∀ u∈vs,u.oneCell'=true)/\Bk ds vs
 | .tup ds,v=>∃ vs,v=.tuple vs.toArray/\Bk ds vs
 | .clo f n ds,v=>∃ vs,v=.func (.func f) (vs.take n).toArray (vs.drop n).toArray/\Bk ds vs
 | .nst _ s i,v=>∃ vs,ρ s=.tuple vs/\vs[i]?=some v
 | .npt _ s i j,v=>∃ vs u g,ρ s=.tuple vs/\vs[i]?=some u/\Br u=some g/\v=.pointer (some ⟨g,j,none⟩)
 | .npr _ s i off n,v=>∃ vs u A c,ρ s=.tuple vs/\vs[i]?=some u/\v=.slice A n c/\n<=c/\c<=maxLen/\(0 < n->∃ g,Br u=some g/\A=some ⟨g,off,none⟩)/\(off=0->∀ A' N c',u=.slice A' N c'->A=A'/\c=c')
 | .qpt k i,v=>∃ A n c,ρ k=.slice (some A) n c/\v=.pointer (some (A.add i))
def Bk:List DV->List Value->Prop
 | [],vs=>vs=[]
 | d :: ds,vs=>∃ u us,vs=u :: us/\B7 d u/\Bk ds us
end
end
section
variable {ρ ρ':Nat->Value} {I I':Nat->Prop} {w w':World}
mutual
theorem B7.step (hI:∀ b,I b->I' b/\w'.heap[b]?=w.heap[b]?):∀ (d:DV) (v:Value),(∀ k,men d k->ρ' k=ρ k)->B7 ρ I w d v->B7 ρ' I' w' d v
 | .val _,_,_,h=>by unfold B7 at *; exact h
 | .sl _ _,v,_,h=>by
  unfold B7 at *
  exact D3.keep_ (fun b hb=>(hI b hb).2) (fun b hb=>(hI b hb).1) _ _ h
 | .mp _,v,_,h=>by
  unfold B7 at *
  exact D3.keep_ (fun b hb=>(hI b hb).2) (fun b hb=>(hI b hb).1) _ _ h
 | .slc _ _,v,_,h=>by
  unfold B7 at *
  exact⟨D3.keep_ (fun b hb=>(hI b hb).2) (fun b hb=>(hI b hb).1) _ _ h.1,h.2⟩
 | .row k,_,hm,h=>by
  unfold B7 at *
  rw [hm k (by unfold men; rfl)]
  exact h
 | .part k _ _,_,hm,h=>by
  unfold B7 at *
  obtain⟨A,c,h1,h2,h3,h4,h5⟩:=h
  rw [hm k (by unfold men; rfl)]
  exact⟨A,c,h1,h2,h3,h4,h5⟩
 | .ptr k _,_,hm,h=>by
  unfold B7 at *
  rw [hm k (by unfold men; rfl)]
  exact h
 | .elt _,_,_,h=>by
  unfold B7 at *
  obtain⟨ad,h1,h2,h3⟩:=h
  exact⟨ad,h1,(hI _ h2).1,Jl.keep_ (fun b hb=>(hI b hb).2) (fun b hb=>(hI b hb).1) ad h2 _ 0 h3⟩
 | .agg ds,_,hm,h=>by
  unfold B7 at *
  obtain⟨vs,h1,h2,h3⟩:=h
  exact⟨vs,h1,h2,Bk.step hI ds vs (fun k hk=>hm k (by unfold men; exact hk)) h3⟩
 | .tup ds,_,hm,h=>by
  unfold B7 at *
  obtain⟨vs,h1,h3⟩:=h
  exact⟨vs,h1,Bk.step hI ds vs (fun k hk=>hm k (by unfold men; exact hk)) h3⟩
 | .clo _ _ ds,_,hm,h=>by
  unfold B7 at *
  obtain⟨vs,h1,h3⟩:=h
  exact⟨vs,h1,Bk.step hI ds vs (fun k hk=>hm k (by unfold men; exact hk)) h3⟩
 | .nst _ s _,_,hm,h=>by
  unfold B7 at *
  rw [hm s (by unfold men; exact .inr rfl)]
  exact h
 | .npt _ s _ _,_,hm,h=>by
  unfold B7 at *
  rw [hm s (by unfold men; exact .inr rfl)]
  exact h
 | .npr _ s _ _ _,_,hm,h=>by
  unfold B7 at *
  rw [hm s (by unfold men; exact .inr rfl)]
  exact h
 | .qpt k _,_,hm,h=>by
  unfold B7 at *
  rw [hm k (by unfold men; rfl)]
  exact h
theorem Bk.step (hI:∀ b,I b->I' b/\w'.heap[b]?=w.heap[b]?):∀ (ds:List DV) (vs:List Value),(∀ k,E3 ds k->ρ' k=ρ k)->Bk ρ I w ds vs->Bk ρ' I' w' ds vs
 | [],_,_,h=>by unfold Bk at *; exact h
 | d :: ds,_,hm,h=>by
  unfold Bk at *
  obtain⟨u,us,h1,h2,h3⟩:=h
  exact⟨u,us,h1,B7.step hI d u (fun k hk=>hm k (by unfold E3; exact .inl hk)) h2,Bk.step hI ds us (fun k hk=>hm k (by unfold E3; exact .inr hk)) h3⟩
end
end
theorem Bk.length {ρ:Nat->Value} {I:Nat->Prop} {w:World}:∀ {ds:List DV} {vs:List Value},Bk ρ I w ds vs->ds.length=vs.length
 | [],vs,h=>by unfold Bk at h; rw [h]; rfl
 | d :: ds,vs,h=>by
  unfold Bk at h
  obtain⟨u,us,rfl,-,h3⟩:=h
  simp [Bk.length h3]
theorem Bk.at_ {ρ:Nat->Value} {I:Nat->Prop} {w:World}:∀ {ds:List DV} {vs:List Value} (_:Bk ρ I w ds vs) {i:Nat} {d:DV} (_:ds[i]?=some d),∃ v,vs[i]?=some v/\B7 ρ I w d v
 | [],vs,h,i,d,hd=>by simp at hd
 | d :: ds,vs,h,0,d',hd=>by
  unfold Bk at h
  obtain⟨u,us,rfl,h2,h3⟩:=h
  simp at hd
  subst hd
  exact⟨u,rfl,h2⟩
 | d :: ds,vs,h,i + 1,d',hd=>by
  unfold Bk at h
  obtain⟨u,us,rfl,h2,h3⟩:=h
  have:=Bk.at_ h3 (i:=i) (d:=d') (by simpa using hd)
  simpa using this
structure St where
 F:Nat->Option DV
 L:Nat->Option LB
 U:Nat->Bool
structure Cx where
 w0:World
 I:Nat->Prop
 ρ0:Nat->Value
 np:Nat
 nq:Nat
 N:Nat
def Cx.M (cx:Cx) (b:Nat):Prop:=∃ k,k < cx.nq/\Br (cx.ρ0 k)=some b
def Cx.G (cx:Cx) (b:Nat):Prop:=∃ k,cx.np<=k/\k < cx.nq/\Br (cx.ρ0 k)=some b
def Cx.Kept (cx:Cx) (w:World):Prop:=
 w.os=cx.w0.os/\w.tape=cx.w0.tape/\w.output=cx.w0.output/\cx.w0.heap.size<=w.heap.size/\∀ b,b < cx.w0.heap.size->¬ cx.M b->w.heap[b]?=cx.w0.heap[b]?
def Loc (σ:St) (ρ:Nat->Value) (b:Nat):Prop:=∃ k lb,σ.L k=some lb/\own ρ (ρ k) lb b
def I4 (cx:Cx) (σ:St) (ρ:Nat->Value) (w:World) (b:Nat):Prop:=b < w.heap.size/\¬ Loc σ ρ b/\(b < cx.w0.heap.size->cx.I b\/cx.G b)
structure Oz (cx:Cx) (ρ:Nat->Value) (I:Nat->Prop) (w:World) (v:Value) (e:TypeId) (sz o:Nat) (e2:TypeId) (sz2 s:Nat) (h:Option Nat) (cs:List C) (n:Nat) (us:List Value) (vs:Array Value):Prop where
 ho:o < sz
 hs:ρ s=.tuple vs
 row:w.rowOk e sz v n us
 hn:vs.size=n
 hl:cs.length=us.length
 hM:∀ b,Br v=some b->cx.w0.heap.size<=b\/cx.M b
 flat:∀ j c u,cs[j]?=some c->us[j]?=some u->j % sz≠o->D3 w I c u
 nest:∀ i u,vs[i]?=some u->h≠some i->us[i * sz + o]?=some u/\∃ n2 us2 c2,cs[i * sz + o]?=some (.sl sz2 c2)/\w.rowOk e2 sz2 u n2 us2/\Fb w I c2 us2/\∀ b,Br u=some b->(cx.w0.heap.size<=b\/cx.M b)/\Br v≠some b
 dist:∀ i j u u' b,vs[i]?=some u->vs[j]?=some u'->h≠some i->h≠some j->Br u=some b->Br u'=some b->i=j
def N3 (cx:Cx) (ρ:Nat->Value) (I:Nat->Prop) (w:World) (v:Value):LB->Prop
 | .box ds ty=>∃ b vs,v=.pointer (some ⟨b,0,none⟩)/\w.heap[b]?=some (.cells vs.toArray ty)/\(cx.w0.heap.size<=b\/cx.M b)/\(∀ u∈vs,u.oneCell'=true)/\Bk ρ I w ds vs
 | .row e sz cs=>∃ n us,w.rowOk e sz v n us/\(∀ b,Br v=some b->cx.w0.heap.size<=b\/cx.M b)/\Fb w I cs us
 | .map l=>∃ g,v=.map (some g)/\fD w g l/\(cx.w0.heap.size<=g\/cx.M g)
 | .mit k n seen=>∃ b g,v=.pointer (some ⟨b,0,none⟩)/\ρ k=.map (some g)/\w.heap[b]?=some (.mapIter (some g) n seen.toArray n)/\(cx.w0.heap.size<=b\/cx.M b)
 | .vec ds e=>∃ b vs,v=.slice (some ⟨b,0,none⟩) vs.length vs.length/\(0 < vs.length/\vs.length<=maxLen)/\w.heap[b]?=some (.cells vs.toArray e)/\(cx.w0.heap.size<=b\/cx.M b)/\(∀ u∈vs,u.oneCell'=true)/\Bk ρ I w ds vs
 | .tree e sz o e2 sz2 s h cs=>∃ n us vs,Oz cx ρ I w v e sz o e2 sz2 s h cs n us vs
 | .gho=>True
 | .abs ns S=>S.R w I v (ns.map ρ)/\∀ b,S.own v (ns.map ρ) b->cx.w0.heap.size<=b\/cx.M b
 | .que e sz cs=>∃ n us,w.queOk e sz v n us/\(∀ b,Br v=some b->cx.w0.heap.size<=b\/cx.M b)/\Fb w I cs us
theorem Ho {w:World} {e:TypeId} {sz n b:Nat} {v:Value} {us:List Value} (ho:w.rowOk e sz v n us) (hb:Br v=some b):b < w.heap.size:=by
 rcases ho.2 with ⟨A,rfl,-⟩ | ⟨g,cap,cur,rfl,h1,h2,-⟩
 ·cases A <;> cases hb
 ·obtain⟨rfl,-⟩:=Ft hb
  exact (aEx.1 h2).1
theorem E9 {w w':World} {e:TypeId} {sz n:Nat} {v:Value} {us:List Value} (ho:w.rowOk e sz v n us) (hb:∀ b,Br v=some b->w'.heap[b]?=w.heap[b]?):w'.rowOk e sz v n us:=by
 refine⟨ho.1,?_⟩
 rcases ho.2 with h1 | ⟨g,cap,cur,rfl,h1,h2,h3⟩
 ·exact .inl h1
 ·exact .inr ⟨g,cap,cur,rfl,h1,(hb g (Gu h1)).trans h2,h3⟩
theorem N5 {ρ ρ':Nat->Value} {v:Value} {lb:LB} {b:Nat} (hρ:∀ k,Nq lb k->ρ' k=ρ k) (h:own ρ v lb b):own ρ' v lb b:=by
 cases lb with
 | tree e sz o e2 sz2 s hh cs=>
  rcases h with h | ⟨vs,i,u,h1,h2⟩
  ·exact .inl h
  ·exact .inr ⟨vs,i,u,(hρ s rfl).trans h1,h2⟩
 | abs ns S=>
  have e1:ns.map ρ'=ns.map ρ:=aGl fun k hk=>hρ k hk
  show S.own v (ns.map ρ') b
  rw [e1]
  exact h
 | _=>exact h
theorem N3.blk {cx:Cx} {ρ:Nat->Value} {I:Nat->Prop} {w:World} {v:Value} {lb:LB} (h:N3 cx ρ I w v lb) {b:Nat} (hb:own ρ v lb b):b < w.heap.size/\(cx.w0.heap.size<=b\/cx.M b):=by
 cases lb with
 | gho=>exact hb.elim
 | abs ns S=>exact⟨S.lt h.1 hb,h.2 b hb⟩
 | que e sz cs=>
  obtain⟨n,us,ho,hM,-⟩:=h
  exact⟨sB ho hb,hM b hb⟩
 | tree e sz o e2 sz2 s hh cs=>
  obtain⟨n,us,vs,h⟩:=h
  rcases hb with hb | ⟨vs',i,u,h1,h2,h3,h4⟩
  ·exact⟨Ho h.row hb,h.hM b hb⟩
  ·have h1:=h.hs.symm.trans h1
   injection h1 with h1
   subst h1
   obtain⟨-,n2,us2,c2,-,q1,-,q3⟩:=h.nest i u h2 h3
   exact⟨Ho q1 h4,(q3 b h4).1⟩
 | box ds ty=>
  obtain⟨b',vs,rfl,h2,h3,-⟩:=h
  simp [own,Br] at hb
  subst hb
  exact⟨(aEx.1 h2).1,h3⟩
 | row e sz cs=>
  obtain⟨n,us,ho,hM,-⟩:=h
  have hM:=hM b hb
  rcases ho.2 with ⟨A,rfl,-⟩ | ⟨g,cap,cur,rfl,h1,h2,-⟩
  ·cases A <;> cases hb
  ·obtain⟨rfl,-⟩:=Ft hb
   exact⟨(aEx.1 h2).1,hM⟩
 | map l=>
  obtain⟨g,rfl,⟨es,h2,-⟩,h3⟩:=h
  injection hb with hb
  subst hb
  exact⟨(aEx.1 h2).1,h3⟩
 | mit k n seen=>
  obtain⟨b',g,rfl,-,h2,h3⟩:=h
  injection hb with hb
  subst hb
  exact⟨(aEx.1 h2).1,h3⟩
 | vec ds e=>
  obtain⟨b',vs,rfl,-,h2,h3,-⟩:=h
  obtain⟨rfl,-⟩:=Ft hb
  exact⟨(aEx.1 h2).1,h3⟩
theorem N3.step {cx:Cx} {ρ ρ':Nat->Value} {I I':Nat->Prop} {w w':World} {v:Value} {lb:LB} (h:N3 cx ρ I w v lb) (hI:∀ b,I b->I' b/\w'.heap[b]?=w.heap[b]?) (hρ:∀ k,Nq lb k->ρ' k=ρ k)
  (hb:∀ b,own ρ v lb b->w'.heap[b]?=w.heap[b]?):N3 cx ρ' I' w' v lb:=by
 cases lb with
 | gho=>trivial
 | abs ns S=>
  have e1:ns.map ρ'=ns.map ρ:=aGl fun k hk=>hρ k hk
  show S.R w' I' v (ns.map ρ')/\∀ b,S.own v (ns.map ρ') b->_
  rw [e1]
  exact⟨S.stab h.1 hI hb,h.2⟩
 | que e sz cs=>
  obtain⟨n,us,ho,hM,hr⟩:=h
  exact⟨n,us,jQ ho hb,hM,hr.keep_ (fun b hb=>(hI b hb).2) fun b hb=>(hI b hb).1⟩
 | tree e sz o e2 sz2 s hh cs=>
  obtain⟨n,us,vs,h⟩:=h
  refine⟨n,us,vs,h.ho,(hρ s rfl).trans h.hs,E9 h.row fun b h1=>hb b (.inl h1),h.hn,h.hl,h.hM,fun j c u h1 h2 h3=>(D3.keep_ (fun b hb=>(hI b hb).2) (fun b hb=>(hI b hb).1) _ _ (h.flat j c u h1 h2 h3)),fun i u h1 h2=>?_,h.dist⟩
  obtain⟨q0,n2,us2,c2,q1,q2,q3,q4⟩:=h.nest i u h1 h2
  exact⟨q0,n2,us2,c2,q1,E9 q2 fun b h3=>hb b (.inr ⟨vs,i,u,h.hs,h1,h2,h3⟩),q3.keep_ (fun b hb=>(hI b hb).2) fun b hb=>(hI b hb).1,q4⟩
 | box ds ty=>
  obtain⟨b',vs,rfl,h2,h3,h4,h5⟩:=h
  exact⟨b',vs,rfl,(hb b' rfl).trans h2,h3,h4,Bk.step hI ds vs hρ h5⟩
 | row e sz cs=>
  obtain⟨n,us,ho,hM,hr⟩:=h
  refine⟨n,us,⟨ho.1,?_⟩,hM,hr.keep_ (fun b hb=>(hI b hb).2) fun b hb=>(hI b hb).1⟩
  rcases ho.2 with h1 | ⟨g,cap,cur,rfl,h1,h2,h3⟩
  ·exact .inl h1
  ·exact .inr ⟨g,cap,cur,rfl,h1,(hb g (Gu h1)).trans h2,h3⟩
 | map l=>
  obtain⟨g,rfl,h2,h3⟩:=h
  exact⟨g,rfl,h2.keep (hb g rfl),h3⟩
 | mit k n seen=>
  obtain⟨b',g,rfl,h1,h2,h3⟩:=h
  exact⟨b',g,rfl,(hρ k rfl).trans h1,(hb b' rfl).trans h2,h3⟩
 | vec ds e=>
  obtain⟨b',vs,rfl,h1,h2,h3,h4,h5⟩:=h
  exact⟨b',vs,rfl,h1,(hb b' (Gu h1.1)).trans h2,h3,h4,Bk.step hI ds vs hρ h5⟩
structure Dr (cx:Cx) (ρ:Nat->Value) (σ:St) (a:Act) (w:World):Prop where
 defers:a.defers=[]
 size:a.tmps.size=cx.N
 kept:cx.Kept w
 fr:∀ t d,σ.F t=some d->B7 ρ (I4 cx σ ρ w) w d (a.tmps.getD t undef)
 lo:∀ k lb,σ.L k=some lb->N3 cx ρ (I4 cx σ ρ w) w (ρ k) lb
 sep:∀ k k' lb lb' b,σ.L k=some lb->σ.L k'=some lb'->own ρ (ρ k) lb b->own ρ (ρ k') lb' b->k=k'
 usedF:∀ t d k,σ.F t=some d->men d k->σ.U k=true
 usedL:∀ k lb,σ.L k=some lb->σ.U k=true/\∀ k',Nq lb k'->σ.U k'=true
 pin:∀ k,k < cx.np->ρ k=cx.ρ0 k/\σ.U k=true
 fresh:∀ k lb b,σ.L k=some lb->cx.np<=k->own ρ (ρ k) lb b->cx.w0.heap.size<=b\/cx.G b
def Jf (cx:Cx) (σ:St) (a:Act) (w:World):Prop:=∃ ρ,Dr cx ρ σ a w
structure K4 where
 d:Option DV
 l:Nat->Option (Option LB)
def zQ {α:Type} (f:Nat->Option α) (t:Nat) (x:Option α):Nat->Option α:=fun s=>bif Nat.beq s t then x else f s
def St.app (σ:St) (dst:Option Tmp) (e:K4):St where
 F:=match dst with | some t=>zQ σ.F t e.d | none=>σ.F
 L:=fun k=>match e.l k with | some x=>x | none=>σ.L k
 U:=fun k=>σ.U k || (e.l k).isSome
theorem Np {α:Type} (f:Nat->Option α) (t:Nat) (x:Option α):zQ f t x t=x:=by simp [zQ]
theorem Km {α:Type} (f:Nat->Option α) {t s:Nat} (x:Option α) (h:s≠t):zQ f t x s=f s:=by
 unfold zQ
 cases hb:Nat.beq s t with
 | false=>rfl
 | true=>exact absurd (aDr hb) h
section
variable {cx:Cx} {ρ ρ':Nat->Value} {σ:St} {a:Act} {w w':World}
theorem Dr.app (h:Dr cx ρ σ a w) {dst:Option Tmp} {e:K4} {v:Value} (hk:cx.Kept w') (hsz:w.heap.size<=w'.heap.size) (hdst:∀ t,dst=some t->t < cx.N)
  (hρ:∀ k,σ.U k=true->ρ' k=ρ k)
  (hheap:∀ b,b < w.heap.size->(∀ k lb,e.l k≠none->σ.L k=some lb->¬ own ρ (ρ k) lb b)->w'.heap[b]?=w.heap[b]?)
  (hblk:∀ k lb b,e.l k=some (some lb)->own ρ' (ρ' k) lb b->w.heap.size<=b\/∃ k' lb',e.l k'≠none/\σ.L k'=some lb'/\own ρ (ρ k') lb' b)
  (hsep:∀ k k' lb lb' b,e.l k=some (some lb)->e.l k'=some (some lb')->own ρ' (ρ' k) lb b->own ρ' (ρ' k') lb' b->k=k')
  (hnew:(∀ b,I4 cx σ ρ w b->I4 cx (σ.app dst e) ρ' w' b/\w'.heap[b]?=w.heap[b]?)->(∀ b,w.heap.size<=b->b < w'.heap.size->(∀ k lb,e.l k=some (some lb)->¬ own ρ' (ρ' k) lb b)->I4 cx (σ.app dst e) ρ' w' b)->
   (∀ k lb,e.l k=some (some lb)->N3 cx ρ' (I4 cx (σ.app dst e) ρ' w') w' (ρ' k) lb)/\∀ d,e.d=some d->B7 ρ' (I4 cx (σ.app dst e) ρ' w') w' d v)
  (hu:(∀ k lb k',e.l k=some (some lb)->Nq lb k'->σ.U k'=true\/e.l k'≠none)/\∀ d k',e.d=some d->men d k'->σ.U k'=true\/e.l k'≠none)
  (hfr:∀ k lb b,e.l k=some (some lb)->cx.np<=k->own ρ' (ρ' k) lb b->cx.w0.heap.size<=b\/cx.G b) :
  Dr cx ρ' (σ.app dst e) (a.put dst v) w':=by
 have hLs:∀ k,e.l k=none->(σ.app dst e).L k=σ.L k:=fun k hk=>by simp [St.app,hk]
 have hLn:∀ k x,e.l k=some x->(σ.app dst e).L k=x:=fun k x hk=>by simp [St.app,hk]
 have B:∀ k,σ.U k=true\/e.l k≠none->(σ.app dst e).U k=true:=fun k hk=>by
  simp only [St.app,aGd,aHs]; exact hk
 have ho:∀ k lb b,σ.L k=some lb->own ρ' (ρ' k) lb b->own ρ (ρ k) lb b:=fun k lb b h1 h2=>by
  rw [hρ k (h.usedL k lb h1).1] at h2
  exact N5 (fun j hj=>(hρ j ((h.usedL k lb h1).2 j hj)).symm) h2
 have hloc:∀ b,b < w.heap.size->Loc (σ.app dst e) ρ' b->Loc σ ρ b:=by
  rintro b hb ⟨k,lb,h1,h2⟩
  cases hek:e.l k with
  | none=>
   rw [hLs k hek] at h1
   exact⟨k,lb,h1,ho k lb b h1 h2⟩
  | some x=>
   rw [hLn k x hek] at h1
   subst h1
   rcases hblk k lb b hek h2 with h3 | ⟨k',lb',h3,h4,h5⟩
   ·omega
   ·exact⟨k',lb',h4,h5⟩
 have hI:∀ b,I4 cx σ ρ w b->I4 cx (σ.app dst e) ρ' w' b/\w'.heap[b]?=w.heap[b]?:=fun b hb=>
  ⟨⟨aGq hb.1 hsz,fun hl=>hb.2.1 (hloc b hb.1 hl),hb.2.2⟩,hheap b hb.1 fun k lb _ h2 h3=>hb.2.1 ⟨k,lb,h2,h3⟩⟩
 have hI2:∀ b,w.heap.size<=b->b < w'.heap.size->(∀ k lb,e.l k=some (some lb)->¬ own ρ' (ρ' k) lb b)->I4 cx (σ.app dst e) ρ' w' b:=by
  rintro b h1 h2 h3
  refine⟨h2,?_,fun hlt=>by have:=h.kept.2.2.2.1; omega⟩
  rintro⟨k,lb,h4,h5⟩
  cases hek:e.l k with
  | none=>
   rw [hLs k hek] at h4
   have h5:=ho k lb b h4 h5
   have:=((h.lo k lb h4).blk h5).1
   omega
  | some x=>
   rw [hLn k x hek] at h4
   subst h4
   exact h3 k lb hek h5
 obtain⟨hn1,hn2⟩:=hnew hI hI2
 refine⟨?_,?_,hk,?_,?_,?_,?_,?_,fun k hk'=>⟨(hρ k (h.pin k hk').2).trans (h.pin k hk').1,B k (.inl (h.pin k hk').2)⟩,fun k lb b h1 h2 h3=>?_⟩
 ·cases dst <;> exact h.defers
 ·cases dst with
  | none=>exact h.size
  | some t=>simpa [Act.put] using h.size
 ·intro t d hd
  have old:σ.F t=some d->B7 ρ' (I4 cx (σ.app dst e) ρ' w') w' d (a.tmps.getD t undef):=fun hd=>B7.step hI d _ (fun k hk=>hρ k (h.usedF t d k hd hk)) (h.fr t d hd)
  cases dst with
  | none=>exact old hd
  | some t'=>
   by_cases ht:t=t'
   ·subst ht
    have hd':e.d=some d:=by simpa [St.app,zQ] using hd
    have:=hdst t rfl
    have e1:(a.put (some t) v).tmps.getD t undef=v:=by
     have h0:t < a.tmps.size:=by rw [h.size]; exact this
     simp [Act.put,h0]
    rw [e1]
    exact hn2 d hd'
   ·have hd':σ.F t=some d:=by have:=hd; simp only [St.app] at this; rwa [Km _ _ ht] at this
    have e1:(a.put (some t') v).tmps.getD t undef=a.tmps.getD t undef:=by
     simp [Act.put,aF3,Ne.symm ht]
    rw [e1]
    exact old hd'
 ·intro k lb hl
  cases hek:e.l k with
  | none=>
   rw [hLs k hek] at hl
   have hu:=h.usedL k lb hl
   rw [hρ k hu.1]
   refine (h.lo k lb hl).step hI (fun k' hk'=>hρ k' (hu.2 k' hk')) fun b hb=>hheap b ((h.lo k lb hl).blk hb).1 fun k' lb' h1 h2 h3=>?_
   have:=h.sep k' k lb' lb b h2 hl h3 hb
   subst this
   exact h1 hek
  | some x=>
   rw [hLn k x hek] at hl
   subst hl
   exact hn1 k lb hek
 ·intro k k' lb lb' b h1 h2 h3 h4
  cases hek:e.l k with
  | none=>
   rw [hLs k hek] at h1
   have h3:=ho k lb b h1 h3
   cases hek':e.l k' with
   | none=>
    rw [hLs k' hek'] at h2
    have h4:=ho k' lb' b h2 h4
    exact h.sep k k' lb lb' b h1 h2 h3 h4
   | some x=>
    rw [hLn k' x hek'] at h2
    subst h2
    exfalso
    rcases hblk k' lb' b hek' h4 with h5 | ⟨k2,lb2,h5,h6,h7⟩
    ·have:=((h.lo k lb h1).blk h3).1
     omega
    ·have:=h.sep k k2 lb lb2 b h1 h6 h3 h7
     subst this
     exact h5 hek
  | some x=>
   rw [hLn k x hek] at h1
   subst h1
   cases hek':e.l k' with
   | none=>
    rw [hLs k' hek'] at h2
    have h4:=ho k' lb' b h2 h4
    exfalso
    rcases hblk k lb b hek h3 with h5 | ⟨k2,lb2,h5,h6,h7⟩
    ·have:=((h.lo k' lb' h2).blk h4).1
     omega
    ·have:=h.sep k' k2 lb' lb2 b h2 h6 h4 h7
     subst this
     exact h5 hek'
   | some y=>
    rw [hLn k' y hek'] at h2
    subst h2
    exact hsep k k' lb lb' b hek hek' h3 h4
 ·intro t d k hd hm
  have old:σ.F t=some d->(σ.app dst e).U k=true:=fun hd=>B k (.inl (h.usedF t d k hd hm))
  cases dst with
  | none=>exact old hd
  | some t'=>
   by_cases ht:t=t'
   ·subst ht
    have hd':e.d=some d:=by simpa [St.app,zQ] using hd
    exact B k (hu.2 d k hd' hm)
   ·exact old (by have:=hd; simp only [St.app] at this; rwa [Km _ _ ht] at this)
 ·intro k lb hl
  cases hek:e.l k with
  | none=>
   rw [hLs k hek] at hl
   exact⟨B k (.inl (h.usedL k lb hl).1),fun k' hk'=>B k' (.inl ((h.usedL k lb hl).2 k' hk'))⟩
  | some x=>
   rw [hLn k x hek] at hl
   subst hl
   exact⟨B k (.inr (by rw [hek]; simp)),fun k' hk'=>B k' (hu.1 k lb k' hek hk')⟩
 ·cases hek:e.l k with
  | none=>
   rw [hLs k hek] at h1
   exact h.fresh k lb b h1 h2 (ho k lb b h1 h3)
  | some x=>
   rw [hLn k x hek] at h1
   subst h1
   exact hfr k lb b hek h2 h3
def eF (d:Option DV):K4:=⟨d,fun _=>none⟩
theorem Dr.put0 (h:Dr cx ρ σ a w) {dst:Option Tmp} {d:Option DV} {v:Value} (hdst:∀ t,dst=some t->t < cx.N)
  (hd:∀ x,d=some x->B7 ρ (I4 cx σ ρ w) w x v) (hu:∀ x k,d=some x->men x k->σ.U k=true):Dr cx ρ (σ.app dst (eF d)) (a.put dst v) w:=by
 refine h.app h.kept (aFf _) hdst (fun _ _=>rfl) (fun _ _ _=>rfl) (fun k lb b h1=>by simp [Go.Proofs.YtfanepojdefdpaaGreat.eF] at h1) (fun k k' lb lb' b h1=>by simp [Go.Proofs.YtfanepojdefdpaaGreat.eF] at h1) (fun hI _=>⟨fun k lb h1=>by simp [Go.Proofs.YtfanepojdefdpaaGreat.eF] at h1,fun x hx=>?_⟩) ⟨fun k lb k' h1=>by simp [Go.Proofs.YtfanepojdefdpaaGreat.eF] at h1,fun x k hx hm=>.inl (hu x k hx hm)⟩ (fun k lb b h1=>by simp [Go.Proofs.YtfanepojdefdpaaGreat.eF] at h1)
 exact B7.step hI x v (fun _ _=>rfl) (hd x hx)
end
end Go.Proofs.YtfanepojdefdpaaGreat
namespace Go.Proofs.YtfanepojdefdpaaGreat
open Go.RowKit
theorem fY {p:Nat->Prop} (h:∃ n,p n):∃ n,p n/\∀ m,p m->n<=m:=by
 obtain⟨n,hn⟩:=h
 induction n using Nat.strongRecOn with
 | _ n ih=>
  by_cases hm:∃ m,m < n/\p m
  ·obtain⟨m,h1,h2⟩:=hm
   exact ih m h1 h2
  ·exact⟨n,hn,fun m hpm=>Nat.le_of_not_lt fun hlt=>hm ⟨m,hlt,hpm⟩⟩
open Classical in
noncomputable def kW (p:Nat->Prop):Nat:=if h:∃ n,p n then Classical.choose (fY h) else 0
theorem X7 {p:Nat->Prop} (h:∃ n,p n):p (kW p)/\∀ m,p m->kW p<=m:=by
 unfold kW
 rw [dif_pos h]
 exact aGx (fY h)
def Mb (cx:Cx) (σ σ':St):Prop:=∀ a w,Jf cx σ a w->Jf cx σ' a w
theorem Mb.refl (cx:Cx) (σ:St):Mb cx σ σ:=fun _ _ h=>h
theorem Mb.trans {cx:Cx} {a b c:St} (h:Mb cx a b) (k:Mb cx b c):Mb cx a c:=fun _ _ x=>k _ _ (h _ _ x)
def post (cx:Cx) (Q:Exit->St->Prop):Exit->Act->World->Prop:=fun e a w=>∃ σ,Q e σ/\Jf cx σ a w
def Ca (P:Program) (cx:Cx) (c:Code) (Q:Exit->St->Prop) (σ:St):Prop:=∀ a w,Jf cx σ a w->c.wp P (post cx Q) a w
def sW (next:St->Prop) (Q:Exit->St->Prop):Exit->St->Prop
 | .normal,σ=>next σ
 | .exit i,σ=>Q (.exit i) σ
 | .goto i,σ=>Q (.goto i) σ
 | .ret,σ=>Q .ret σ
 | .panic c,σ=>Q (.panic c) σ
 | .outgrown,σ=>Q .outgrown σ
def wR (id:Nat) (Q:Exit->St->Prop):Exit->St->Prop
 | .normal,σ=>Q .normal σ
 | .exit i,σ=>if i=id then Q .normal σ else Q (.exit i) σ
 | .goto i,σ=>Q (.goto i) σ
 | .ret,σ=>Q .ret σ
 | .panic c,σ=>Q (.panic c) σ
 | .outgrown,σ=>Q .outgrown σ
section
variable {P:Program} {cx:Cx} {Q:Exit->St->Prop} {σ σ':St} {x y:Code}
theorem D1 (h:Mb cx σ σ') (hx:Ca P cx x Q σ'):Ca P cx x Q σ:=fun a w ha=>hx a w (h a w ha)
theorem Ah (hx:Ca P cx x (sW (Ca P cx y Q) Q) σ):Ca P cx (.seq x y) Q σ:=by
 intro a w ha
 refine wp_seq (Code.wp_mono ?_ (hx a w ha))
 rintro e a' w' ⟨σ',q,h'⟩
 cases e with
 | normal=>exact q a' w' h'
 | _=>exact⟨σ',q,h'⟩
theorem Jt {t:Nat} {b:Bool} (hc:σ.F t=some (.val (.bool b))) (h1:b=true->Ca P cx x Q σ) (h2:b=false->Ca P cx y Q σ):Ca P cx (.cond (.tmp t) x y) Q σ:=by
 intro a w ha
 obtain⟨ρ,h⟩:=ha
 have hb:=h.fr t _ hc
 unfold B7 at hb
 exact wp_cond_split (t:=b) hb.1 (fun e=>h1 e a w ⟨ρ,h⟩) (fun e=>h2 e a w ⟨ρ,h⟩)
theorem mF {b:Bool} (h1:b=true->Ca P cx x Q σ) (h2:b=false->Ca P cx y Q σ):Ca P cx (.cond (.const (.bool b)) x y) Q σ:=by
 intro a w ha
 exact wp_cond_split (t:=b) rfl (fun e=>h1 e a w ha) (fun e=>h2 e a w ha)
theorem Au {id:Nat} (h:Ca P cx x (wR id Q) σ):Ca P cx (.block id x) Q σ:=by
 intro a w ha
 refine wp_block (Code.wp_mono ?_ (h a w ha))
 rintro e a' w' ⟨σ',q,h'⟩
 cases e with
 | exit i=>
  simp only [wR] at q
  simp only [Exit.inBlock]
  split
  ·rename_i hi
   rw [if_pos hi] at q
   exact⟨σ',q,h'⟩
  ·rename_i hi
   rw [if_neg hi] at q
   exact⟨σ',q,h'⟩
 | _=>exact⟨σ',q,h'⟩
theorem B8 {id:Nat} (h:Q (.exit id) σ):Ca P cx (.exit id) Q σ:=fun _ _ ha=>wp_exit ⟨σ,h,ha⟩
theorem vO (h:Q .ret σ):Ca P cx .ret Q σ:=fun _ _ ha=>wp_ret ⟨σ,h,ha⟩
theorem Ao (h:Q .normal σ):Ca P cx .skip Q σ:=fun _ _ ha=>wp_skip ⟨σ,h,ha⟩
theorem rG {Q':Exit->St->Prop} (hq:∀ e σ,Q e σ->Q' e σ) (h:Ca P cx x Q σ):Ca P cx x Q' σ:=fun a w ha=>
 Code.wp_mono (fun _ _ _ ⟨σ',q,h'⟩=>⟨σ',hq _ _ q,h'⟩) (h a w ha)
def wB (P:Program) (cx:Cx) (x:Code) (Q:Exit->St->Prop):Nat->St->Prop
 | 0,_=>False
 | n + 1,σ=>Ca P cx x (sW (wB P cx x Q n) Q) σ
theorem dA {n:Nat} (h:Ca P cx x (sW (wB P cx x Q n) Q) σ):wB P cx x Q (n + 1) σ:=h
theorem iV (n:Nat) (h:wB P cx x Q n σ):Ca P cx (.loop x) Q σ:=by
 intro a w ha
 refine wp_loop_rounds n ?_
 induction n generalizing σ a w with
 | zero=>exact h.elim
 | succ n ih=>
  rw [rounds_succ]
  refine Code.wp_mono ?_ (h a w ha)
  rintro e a' w' ⟨σ',q,h'⟩
  cases e with
  | normal=>exact ih q a' w' h'
  | _=>exact⟨σ',q,h'⟩
theorem sA {ι:Type} (inv:ι->St) (ok:ι->Prop) (μ:ι->Nat) (i0:ι) (h0:Mb cx σ (inv i0)) (hi0:ok i0)
  (round:∀ i,ok i->Ca P cx x (sW (fun σ'=>∃ j,μ j < μ i/\ok j/\Mb cx σ' (inv j)) Q) (inv i)):Ca P cx (.loop x) Q σ:=by
 intro a w ha
 refine wp_loop (fun a w=>∃ i,ok i/\Jf cx (inv i) a w) (fun a w=>kW fun n=>∃ i,μ i=n/\ok i/\Jf cx (inv i) a w) ⟨i0,hi0,h0 a w ha⟩ ?_
 rintro a w ⟨i,hi,hA⟩
 have hs:=X7 (p:=fun n=>∃ i,μ i=n/\ok i/\Jf cx (inv i) a w) ⟨μ i,i,rfl,hi,hA⟩
 obtain⟨⟨i',h1,h2,h3⟩,-⟩:=hs
 refine Code.wp_mono ?_ (round i' h2 a w h3)
 rintro e a' w' ⟨σ',q,h'⟩
 cases e with
 | normal=>
  obtain⟨j,q1,q2,q3⟩:=q
  refine⟨⟨j,q2,q3 a' w' h'⟩,?_⟩
  have:=(X7 (p:=fun n=>∃ i,μ i=n/\ok i/\Jf cx (inv i) a' w') ⟨μ j,j,rfl,q2,q3 a' w' h'⟩).2 (μ j) ⟨j,rfl,q2,q3 a' w' h'⟩
  show _ < _
  omega
 | _=>exact⟨σ',q,h'⟩
end
def D5 {α:Type}:List (Nat×α)->Nat->Option α
 | [],_=>none
 | (k,x) :: l,s=>bif Nat.beq s k then some x else D5 l s
def mk (fl:List (Nat×DV)) (ll:List (Nat×LB)) (n:Nat):St:=⟨D5 fl,D5 ll,fun k=>Nat.blt k n⟩
inductive kN:Option Nat->DV->C->Prop
 | int {s k n}:kN s (.val (.int k n)) (.int k n)
 | bool {s b}:kN s (.val (.bool b)) (.bool b)
 | str {s x}:kN s (.val (.string x)) (.str x)
 | sl {s sz cs}:kN s (.sl sz cs) (.sl sz cs)
 | mp {s l}:kN s (.mp l) (.mp l)
 | nil {sz}:kN (some sz) (.val (.slice none 0 0)) (.sl sz [])
 | ptr {s a}:kN s (.val (.pointer a)) (.raw (.pointer a))
 | func {s f a b}:kN s (.val (.func f a b)) (.raw (.func f a b))
inductive Ib:List (Option Nat)->List DV->List C->Prop
 | nil {ks}:Ib ks [] []
 | cons {k ks d c ds cs} (h:kN k d c) (hs:Ib ks ds cs):Ib (k :: ks) (d :: ds) (c :: cs)
section
variable {ρ:Nat->Value} {w:World}
theorem kN.rd {I:Nat->Prop} {k:Option Nat} {d:DV} {c:C} {v:Value} (h:kN k d c) (hr:B7 ρ I w d v):D3 w I c v:=by
 cases h with
 | int=>unfold B7 at hr; unfold D3; exact⟨hr.1,Gr.1 hr.2⟩
 | bool=>unfold B7 at hr; unfold D3; exact hr.1
 | str=>unfold B7 at hr; unfold D3; exact⟨hr.1,Nu.1 hr.2⟩
 | sl=>unfold B7 at hr; exact hr
 | mp=>unfold B7 at hr; exact hr
 | nil=>unfold B7 at hr; rw [hr.1]; exact D3.nil_ _
 | ptr=>unfold B7 at hr; unfold D3; exact⟨hr.1,rfl,rfl⟩
 | func=>unfold B7 at hr; unfold D3; exact⟨hr.1,rfl,rfl⟩
theorem Ib.rd {I:Nat->Prop}:∀ {ks:List (Option Nat)} {ds:List DV} {cs:List C} {vs:List Value} (_:Ib ks ds cs) (_:Bk ρ I w ds vs),Fb w I cs vs
 | _,_,_,vs,.nil,hr=>by
  unfold Bk at hr
  subst hr
  exact⟨rfl,fun j c u h _=>by simp at h⟩
 | _,_,_,vs,.cons h hs,hr=>by
  unfold Bk at hr
  obtain⟨u,us,rfl,h1,h2⟩:=hr
  have:=Ib.rd hs h2
  refine⟨by simpa using this.1,fun j c u' a b=>?_⟩
  cases j with
  | zero=>simp at a b; subst a b; exact h.rd h1
  | succ j=>exact this.2 j c u' (by simpa using a) (by simpa using b)
end
mutual
inductive Cv (σ:St) (θ:Nat->Option Nat):DV->DV->Prop
 | val (v:Value):Cv σ θ (.val v) (.val v)
 | sl (sz:Nat) (cs:List C):Cv σ θ (.sl sz cs) (.sl sz cs)
 | slc (sz:Nat) (cs:List C):Cv σ θ (.slc sz cs) (.sl sz cs)
 | slcc (sz:Nat) (cs:List C):Cv σ θ (.slc sz cs) (.slc sz cs)
 | mp (l:List (Value×Value)):Cv σ θ (.mp l) (.mp l)
 | frzM {j:Nat} {l:List (Value×Value)} (h:σ.L j=some (.map l)) (h':∀ k,θ k≠some j):Cv σ θ (.row j) (.mp l)
 | elt (cs:List C):Cv σ θ (.elt cs) (.elt cs)
 | row {j k:Nat} (h:θ k=some j):Cv σ θ (.row j) (.row k)
 | part {j k off n:Nat} (h:θ k=some j):Cv σ θ (.part j off n) (.part k off n)
 | ptr {j k i:Nat} (h:θ k=some j):Cv σ θ (.ptr j i) (.ptr k i)
 | nil {k:Nat} (h:θ k=none):Cv σ θ (.val (.slice none 0 0)) (.row k)
 | nils (sz:Nat):Cv σ θ (.val (.slice none 0 0)) (.sl sz [])
 | agg {ds ds':List DV} (h:Pv σ θ ds ds'):Cv σ θ (.agg ds) (.agg ds')
 | tup {ds ds':List DV} (h:Pv σ θ ds ds'):Cv σ θ (.tup ds) (.tup ds')
 | clo (f:FuncId) (n:Nat) {ds ds':List DV} (h:Pv σ θ ds ds'):Cv σ θ (.clo f n ds) (.clo f n ds')
 | frz {j:Nat} {e sz cs} (h:σ.L j=some (.row e sz cs)) (h':∀ k,θ k≠some j):Cv σ θ (.row j) (.sl sz cs)
 | frzb {j i:Nat} {ds:List DV} {ty:TypeId} {ks:List (Option Nat)} {cs:List C} (h:σ.L j=some (.box ds ty)) (hc:Ib ks ds cs) (h':∀ k,θ k≠some j):Cv σ θ (.ptr j i) (.elt (cs.drop i))
 | frzT {j:Nat} {e sz o e2 sz2 s cs} (h:σ.L j=some (.tree e sz o e2 sz2 s none cs)) (h':∀ k,θ k≠some j):Cv σ θ (.row j) (.sl sz cs)
 | nst {j k s s' i:Nat} (h:θ k=some j) (hs:θ s'=some s):Cv σ θ (.nst j s i) (.nst k s' i)
 | npt {j k s s' i p:Nat} (h:θ k=some j) (hs:θ s'=some s):Cv σ θ (.npt j s i p) (.npt k s' i p)
 | npr {j k s s' i p n:Nat} (h:θ k=some j) (hs:θ s'=some s):Cv σ θ (.npr j s i p n) (.npr k s' i p n)
 | qpt {j k i:Nat} (h:θ k=some j):Cv σ θ (.qpt j i) (.qpt k i)
inductive Pv (σ:St) (θ:Nat->Option Nat):List DV->List DV->Prop
 | nil:Pv σ θ [] []
 | cons {d d' ds ds'} (h:Cv σ θ d d') (hs:Pv σ θ ds ds'):Pv σ θ (d :: ds) (d' :: ds')
end
def CvB (σ:St) (θ:Nat->Option Nat):LB->LB->Prop
 | .box ds ty,.box ds' ty'=>ty=ty'/\Pv σ θ ds ds'
 | .row e sz cs,.row e' sz' cs'=>e=e'/\sz=sz'/\cs=cs'
 | .map l,.map l'=>l=l'
 | .mit k n s,.mit k' n' s'=>θ k'=some k/\n=n'/\s=s'
 | .vec ds e,.vec ds' e'=>e=e'/\Pv σ θ ds ds'
 | .tree e sz o e2 sz2 s h cs,.tree e' sz' o' e2' sz2' s' h' cs'=>e=e'/\sz=sz'/\o=o'/\e2=e2'/\sz2=sz2'/\θ s'=some s/\h=h'/\cs=cs'
 | .gho,.gho=>True
 | .abs ns S,.abs ns' S'=>ns'.map θ=ns.map some/\S=S'
 | .que e sz cs,.que e' sz' cs'=>e=e'/\sz=sz'/\cs=cs'
 | .row e sz cs,.que e' sz' cs'=>e=e'/\sz=sz'/\cs=cs'
 | _,_=>False
def Om (θ:Nat->Option Nat) (ρ:Nat->Value) (k:Nat):Value:=match θ k with | some j=>ρ j | none=>.slice none 0 0
theorem Yr.cells {w:World} {e sz n:Nat} {v:Value} {us:List Value} {I:Nat->Prop} {cs:List C} (ho:w.rowOk e sz v n us) (hr:Fb w I cs us) {J:Nat->Prop} (hI:∀ b,I b->J b) (hb:∀ b,Br v=some b->J b):D3 w J (.sl sz cs) v:=by
 have hl:cs.length=n * sz:=by rw [hr.1,ho.1]
 rcases ho.2 with ⟨A,rfl,rfl⟩ | ⟨g,cap,cur,rfl,h1,D,hn,hm,hs,ht⟩
 ·exact D3.mk_slice hl (aFf _) (aFb _) fun h=>absurd h (Nat.lt_irrefl 0)
 ·refine D3.mk_slice hl hn hm fun _=>⟨⟨g,0,none⟩,rfl,hb g (Gu h1),fun j c hj=>?_⟩
  have hjl:j < us.length:=by rw [<- hr.1]; exact (aBw.1 hj).1
  have hu:us[j]?=some us[j]:=aA1 hjl
  refine⟨us[j],?_,(hr.2 j c _ hj hu).mono hI⟩
  have key:∀ u,us[j]?=some u->w.cell? ⟨g,j,none⟩=some u:=by
   intro u hu
   rw [<- ht,aE9] at hu
   split at hu
   ·simpa [World.cell?,D] using hu
   ·cases hu
  have e1:=key _ hu
  unfold Addr.add
  split
  ·rename_i h0; subst h0; exact e1
  ·simpa using e1
theorem Tree.cells {cx:Cx} {ρ:Nat->Value} {I:Nat->Prop} {w:World} {v:Value} {e sz o e2 sz2 s cs n us vs} (h:Oz cx ρ I w v e sz o e2 sz2 s none cs n us vs) {J:Nat->Prop} (hI:∀ b,I b->J b) (hb:∀ b,own ρ v (.tree e sz o e2 sz2 s none cs) b->J b):D3 w J (.sl sz cs) v:=by
 refine Yr.cells (I:=J) h.row ⟨h.hl,fun j c u hj hu=>?_⟩ (fun _ hb=>hb) fun b h1=>hb b (.inl h1)
 by_cases hjo:j % sz=o
 ·have hsz:0 < sz:=aGr (aFb _) h.ho
  have hjd:j / sz * sz + o=j:=by rw [<- hjo,aGj]; exact Nat.div_add_mod j sz
  have hlt:j < us.length:=(aBw.1 hu).1
  have hi:j / sz < vs.size:=by
   rw [h.hn]
   refine (aH9 hsz).2 ?_
   rw [<- h.row.1]
   exact hlt
  obtain⟨q0,n2,us2,c2,q1,q2,q3,q4⟩:=h.nest (j / sz) vs[j / sz] (aFq hi) (by simp)
  rw [hjd] at q0 q1
  rw [hj] at q1
  rw [hu] at q0
  injection q1 with q1
  injection q0 with q0
  subst q1
  rw [q0]
  exact Yr.cells q2 q3 hI fun b h1=>hb b (.inr ⟨vs,_,_,h.hs,aFq hi,by simp,h1⟩)
 ·exact D3.mono (h.flat j c u hj hu hjo) hI
theorem bY {w:World} {e sz n:Nat} {v:Value} {us:List Value} {I:Nat->Prop} {cs:List C} (ho:w.rowOk e sz v n us) (hr:Fb w I cs us) {J:Nat->Prop} (hI:∀ b,I b->J b) (hb:∀ b,Br v=some b->J b)
  {off m c:Nat} {A:Option Addr} (hm:off + m * sz<=cs.length) (hmc:m<=c) (hc:c<=maxLen) (hA:0 < m->∃ g,Br v=some g/\A=some ⟨g,off,none⟩):D3 w J (.sl sz ((cs.drop off).take (m * sz))) (.slice A m c):=by
 refine D3.mk_slice (by rw [aDy,aD1]; omega) hmc hc fun h0=>?_
 obtain⟨g,D,rfl⟩:=hA h0
 refine⟨_,rfl,hb g D,fun j x hj=>?_⟩
 have hj':cs[off + j]?=some x:=by
  rw [aE9] at hj
  split at hj
  ·rwa [aE8] at hj
  ·cases hj
 have hjl:off + j < us.length:=by rw [<- hr.1]; exact (aBw.1 hj').1
 have hu:us[off + j]?=some us[off + j]:=aA1 hjl
 refine⟨us[off + j],?_,(hr.2 _ x _ hj' hu).mono hI⟩
 rcases ho.2 with ⟨A,rfl,-⟩ | ⟨g',cap,cur,rfl,h1,hg',hn,hm,hs,ht⟩
 ·cases A <;> cases D
 ·obtain⟨D,-⟩:=Ft D
  dsimp only at D
  subst D
  have key:∀ u,us[off + j]?=some u->w.cell? ⟨g',off + j,none⟩=some u:=by
   intro u hu
   rw [<- ht,aE9] at hu
   split at hu
   ·simpa [World.cell?,hg'] using hu
   ·cases hu
  have e1:=key _ hu
  unfold Addr.add
  split
  ·rename_i h0; subst h0; simpa using e1
  ·exact e1
section
variable {cx:Cx} {ρ:Nat->Value} {σ:St} {a:Act} {w:World} {θ:Nat->Option Nat} {I':Nat->Prop}
mutual
theorem Cv.rep (h:Dr cx ρ σ a w) (hI:∀ b,I4 cx σ ρ w b->I' b) (hfz:∀ j lb b,σ.L j=some lb->(∀ k,θ k≠some j)->own ρ (ρ j) lb b->I' b):∀ {d d':DV} (_:Cv σ θ d d') (v:Value),B7 ρ (I4 cx σ ρ w) w d v->B7 (Om θ ρ) I' w d' v
 | _,_,.val _,_,hr=>by unfold B7 at *; exact hr
 | _,_,.sl _ _,v,hr=>by unfold B7 at *; exact D3.mono hr hI
 | _,_,.slc _ _,v,hr=>by unfold B7 at *; exact D3.mono hr.1 hI
 | _,_,.slcc _ _,v,hr=>by unfold B7 at *; exact⟨D3.mono hr.1 hI,hr.2⟩
 | _,_,.mp _,v,hr=>by unfold B7 at *; exact D3.mono hr hI
 | _,_,.frzM hL h',v,hr=>by
  unfold B7 at *
  rw [hr.1]
  obtain⟨g,q1,q2,-⟩:=h.lo _ _ hL
  unfold D3
  exact⟨g,q1,hfz _ _ g hL h' (by unfold own; rw [q1]; rfl),q2⟩
 | _,_,.nst hk hs,v,hr=>by
  unfold B7 at *
  simpa [Om,hs] using hr
 | _,_,.npt hk hs,v,hr=>by
  unfold B7 at *
  simpa [Om,hs] using hr
 | _,_,.npr hk hs,v,hr=>by
  unfold B7 at *
  simpa [Om,hs] using hr
 | _,_,.qpt hk,v,hr=>by
  unfold B7 at *
  simpa [Om,hk] using hr
 | _,_,.frzT hL h',v,hr=>by
  unfold B7 at *
  rw [hr.1]
  obtain⟨n,us,vs,ho⟩:=h.lo _ _ hL
  exact Tree.cells ho hI fun b hb=>hfz _ _ b hL h' hb
 | _,_,.elt _,v,hr=>by
  unfold B7 at *
  obtain⟨ad,h1,h2,h3⟩:=hr
  exact⟨ad,h1,hI _ h2,Jl.keep_ (fun _ _=>rfl) hI ad h2 _ 0 h3⟩
 | _,_,.row hk,v,hr=>by unfold B7 at *; simpa [Om,hk] using hr
 | _,_,.part hk,v,hr=>by
  unfold B7 at *
  obtain⟨A,c,h1,h2,h3,h4,h5⟩:=hr
  exact⟨A,c,h1,h2,h3,fun hn=>by simpa [Om,hk] using h4 hn,fun h0 A' N c' hv=>h5 h0 A' N c' (by simpa [Om,hk] using hv)⟩
 | _,_,.ptr hk,v,hr=>by
  unfold B7 at *
  simpa [Om,hk] using hr
 | _,_,.nil hk,v,hr=>by unfold B7 at *; rw [hr.1]; simp [Om,hk,Value.oneCell']
 | _,_,.nils sz,v,hr=>by unfold B7 at *; rw [hr.1]; exact D3.nil_ sz
 | _,_,.agg hs,v,hr=>by
  unfold B7 at *
  obtain⟨vs,h1,h2,h3⟩:=hr
  exact⟨vs,h1,h2,Pv.rep h hI hfz hs vs h3⟩
 | _,_,.tup hs,v,hr=>by
  unfold B7 at *
  obtain⟨vs,h1,h3⟩:=hr
  exact⟨vs,h1,Pv.rep h hI hfz hs vs h3⟩
 | _,_,.clo _ _ hs,v,hr=>by
  unfold B7 at *
  obtain⟨vs,h1,h3⟩:=hr
  exact⟨vs,h1,Pv.rep h hI hfz hs vs h3⟩
 | _,_,.frz hL h',v,hr=>by
  unfold B7 at *
  rw [hr.1]
  obtain⟨n,us,ho,-,hu⟩:=h.lo _ _ hL
  exact Yr.cells ho hu hI fun b hb=>hfz _ _ b hL h' hb
 | _,_,.frzb (j:=j) (i:=i) hL hc h',v,hr=>by
  unfold B7 at *
  obtain⟨g,D,rfl⟩:=hr
  obtain⟨b,vs,q1,q2,-,q4,q5⟩:=h.lo _ _ hL
  rw [q1] at D
  injection D with D
  subst D
  have hu:=Ib.rd hc q5
  have hu':=hu.keep_ (fun _ _=>rfl) hI
  refine⟨_,rfl,hfz _ _ b hL h' (by unfold own; rw [q1]; rfl),Jl.of_at _ 0 fun k c hk=>?_⟩
  rw [aE8] at hk
  have hlt:i + k < vs.length:=by rw [<- hu.1]; exact (aBw.1 hk).1
  refine⟨vs[i + k],?_,hu'.2 _ c _ hk (aA1 hlt)⟩
  have ha:(⟨b,i,none⟩:Addr).add (0 + k)=⟨b,i + k,none⟩:=by
   rw [aE6]
   unfold Addr.add
   split
   ·rename_i h0; subst h0; rfl
   ·rfl
  rw [ha]
  simp [World.cell?,q2,hlt]
theorem Pv.rep (h:Dr cx ρ σ a w) (hI:∀ b,I4 cx σ ρ w b->I' b) (hfz:∀ j lb b,σ.L j=some lb->(∀ k,θ k≠some j)->own ρ (ρ j) lb b->I' b):∀ {ds ds':List DV} (_:Pv σ θ ds ds') (vs:List Value),Bk ρ (I4 cx σ ρ w) w ds vs->Bk (Om θ ρ) I' w ds' vs
 | _,_,.nil,_,hr=>by unfold Bk at *; exact hr
 | _,_,.cons hd hs,vs,hr=>by
  unfold Bk at *
  obtain⟨u,us,h1,h2,h3⟩:=hr
  exact⟨u,us,h1,Cv.rep h hI hfz hd u h2,Pv.rep h hI hfz hs us h3⟩
end
end
theorem cZ {θ:Nat->Option Nat} {ρ:Nat->Value}:∀ {ns' ns:List Nat},ns'.map θ=ns.map some->ns'.map (Om θ ρ)=ns.map ρ
 | [],[],_=>rfl
 | [],_ :: _,h=>by cases h
 | _ :: _,[],h=>by cases h
 | a :: l,b :: m,h=>by
  rw [aFl,aFl] at h
  injection h with h1 h2
  rw [aFl,aFl,cZ h2]
  congr 1
  simp [Om,h1]
theorem Dr.ren {cx:Cx} {σ σ':St} {ρ:Nat->Value} {a:Act} {w:World} (h:Dr cx ρ σ a w) (θ:Nat->Option Nat) (hF:∀ t d',σ'.F t=some d'->∃ d,σ.F t=some d/\Cv σ θ d d')
  (hL:∀ k lb',σ'.L k=some lb'->(∃ j lb,θ k=some j/\σ.L j=some lb/\CvB σ θ lb lb')\/(θ k=none/\∃ e sz,lb'=.row e sz []))
  (hinj:∀ k k' j,θ k=some j->θ k'=some j->k=k')
  (hpin:∀ k,k < cx.np->θ k=some k/\σ'.U k=true) (hUF:∀ t d k,σ'.F t=some d->men d k->σ'.U k=true) (hUL:∀ k lb,σ'.L k=some lb->σ'.U k=true/\∀ k',Nq lb k'->σ'.U k'=true) :
  Dr cx (Go.Proofs.YtfanepojdefdpaaGreat.Om θ ρ) σ' a w/\∀ d d' v,Cv σ θ d d'->B7 ρ (I4 cx σ ρ w) w d v->B7 (Go.Proofs.YtfanepojdefdpaaGreat.Om θ ρ) (I4 cx σ' (Go.Proofs.YtfanepojdefdpaaGreat.Om θ ρ) w) w d' v:=by
 have hown:∀ k j lb lb' b,θ k=some j->CvB σ θ lb lb'->own (Go.Proofs.YtfanepojdefdpaaGreat.Om θ ρ) (Go.Proofs.YtfanepojdefdpaaGreat.Om θ ρ k) lb' b->own ρ (ρ j) lb b:=fun k j lb lb' b h1 h2 h3=>by
  have e1:Go.Proofs.YtfanepojdefdpaaGreat.Om θ ρ k=ρ j:=by simp [Go.Proofs.YtfanepojdefdpaaGreat.Om,h1]
  rw [e1] at h3
  cases lb <;> cases lb' <;> first | exact h2.elim | exact h3.elim | exact h3 | skip
  ·obtain⟨rfl,rfl,rfl,rfl,rfl,h4,rfl,rfl⟩:=h2
   rcases h3 with h3 | ⟨vs,i,u,h5,h6⟩
   ·exact .inl h3
   ·exact .inr ⟨vs,i,u,by simpa [Go.Proofs.YtfanepojdefdpaaGreat.Om,h4] using h5,h6⟩
  ·obtain⟨h4,rfl⟩:=h2
   rename_i ns S ns'
   have h3:S.own (ρ j) (ns'.map (Go.Proofs.YtfanepojdefdpaaGreat.Om θ ρ)) b:=h3
   show S.own (ρ j) (ns.map ρ) b
   rwa [cZ h4] at h3
 have hnil:∀ k e sz b,θ k=none->¬ own (Go.Proofs.YtfanepojdefdpaaGreat.Om θ ρ) (Go.Proofs.YtfanepojdefdpaaGreat.Om θ ρ k) (.row e sz []) b:=fun k e sz b h1 h2=>by
  have h2:Br (Go.Proofs.YtfanepojdefdpaaGreat.Om θ ρ k)=some b:=h2
  simp [Go.Proofs.YtfanepojdefdpaaGreat.Om,h1,Br] at h2
 have hloc:∀ b,Loc σ' (Go.Proofs.YtfanepojdefdpaaGreat.Om θ ρ) b->∃ k j lb,θ k=some j/\σ.L j=some lb/\own ρ (ρ j) lb b:=by
  rintro b ⟨k,lb',h1,h2⟩
  rcases hL k lb' h1 with ⟨j,lb,h3,h4,h5⟩ | ⟨h3,e,sz,rfl⟩
  ·exact⟨k,j,lb,h3,h4,hown k j lb lb' b h3 h5 h2⟩
  ·exact (hnil k e sz b h3 h2).elim
 have hI:∀ b,I4 cx σ ρ w b->I4 cx σ' (Go.Proofs.YtfanepojdefdpaaGreat.Om θ ρ) w b:=fun b hb=>⟨hb.1,fun hl=>by
  obtain⟨k,j,lb,-,h2,h3⟩:=hloc b hl
  exact hb.2.1 ⟨j,lb,h2,h3⟩,hb.2.2⟩
 have hfz:∀ j lb b,σ.L j=some lb->(∀ k,θ k≠some j)->own ρ (ρ j) lb b->I4 cx σ' (Go.Proofs.YtfanepojdefdpaaGreat.Om θ ρ) w b:=fun j lb b h1 h2 h3=>⟨((h.lo j _ h1).blk h3).1,fun hl=>by
  obtain⟨k,j',lb',h4,h5,h6⟩:=hloc b hl
  have:=h.sep j j' _ lb' b h1 h5 h3 h6
  subst this
  exact h2 k h4,fun hlt=>by
  rcases aF4 j cx.np with hj | hj
  ·exact (h2 j (hpin j hj).1).elim
  ·rcases h.fresh j _ b h1 hj h3 with h4 | h4
   ·omega
   ·exact .inr h4⟩
 refine⟨⟨h.defers,h.size,h.kept,?_,?_,?_,hUF,hUL,fun k hk=>⟨by rw [<- (h.pin k hk).1]; simp [Go.Proofs.YtfanepojdefdpaaGreat.Om,(hpin k hk).1],(hpin k hk).2⟩,?_⟩,fun d d' v hc hr=>hc.rep h hI hfz v hr⟩
 ·intro t d' hd'
  obtain⟨d,h1,h2⟩:=hF t d' hd'
  exact h2.rep h hI hfz _ (h.fr t d h1)
 ·intro k lb' hl
  rcases hL k lb' hl with ⟨j,lb,h1,h2,h3⟩ | ⟨h1,e,sz,rfl⟩
  ·have hlo:=h.lo j lb h2
   have e1:Go.Proofs.YtfanepojdefdpaaGreat.Om θ ρ k=ρ j:=by simp [Go.Proofs.YtfanepojdefdpaaGreat.Om,h1]
   rw [e1]
   cases lb with
   | que e sz cs=>
    cases lb' with
    | que e' sz' cs'=>
     obtain⟨rfl,rfl,rfl⟩:=h3
     obtain⟨n,us,q1,q2,q3⟩:=hlo
     exact⟨n,us,q1,q2,q3.keep_ (fun _ _=>rfl) hI⟩
    | _=>exact h3.elim
   | gho=>
    cases lb' with
    | gho=>trivial
    | _=>exact h3.elim
   | abs ns S=>
    cases lb' with
    | abs ns' S'=>
     obtain⟨h4,rfl⟩:=h3
     show S.R w _ (ρ j) (ns'.map (Go.Proofs.YtfanepojdefdpaaGreat.Om θ ρ))/\∀ b,S.own (ρ j) (ns'.map (Go.Proofs.YtfanepojdefdpaaGreat.Om θ ρ)) b->_
     rw [cZ h4]
     exact⟨S.stab hlo.1 (fun b hb=>⟨hI b hb,rfl⟩) fun _ _=>rfl,hlo.2⟩
    | _=>exact h3.elim
   | tree e sz o e2 sz2 s hh cs=>
    cases lb' with
    | tree e' sz' o' e2' sz2' s' hh' cs'=>
     obtain⟨rfl,rfl,rfl,rfl,rfl,h4,rfl,rfl⟩:=h3
     obtain⟨n,us,vs,q⟩:=hlo
     refine⟨n,us,vs,q.ho,by simpa [Go.Proofs.YtfanepojdefdpaaGreat.Om,h4] using q.hs,q.row,q.hn,q.hl,q.hM,fun j c u a b d=>D3.mono (q.flat j c u a b d) hI,fun i u a b=>?_,q.dist⟩
     obtain⟨q0,n2,us2,c2,q1,q2,q3,q4⟩:=q.nest i u a b
     exact⟨q0,n2,us2,c2,q1,q2,q3.keep_ (fun _ _=>rfl) hI,q4⟩
    | _=>exact h3.elim
   | map l=>
    cases lb' with
    | map l'=>
     have h3:l=l':=h3
     subst h3
     exact hlo
    | _=>exact h3.elim
   | vec ds e=>
    cases lb' with
    | vec ds' e'=>
     obtain⟨rfl,h5⟩:=h3
     obtain⟨b,vs,q1,q2,q3,q4,q5,q6⟩:=hlo
     exact⟨b,vs,q1,q2,q3,q4,q5,h5.rep h hI hfz vs q6⟩
    | _=>exact h3.elim
   | mit k1 n s=>
    cases lb' with
    | mit k2 n' s'=>
     obtain⟨h3,rfl,rfl⟩:=h3
     obtain⟨b,g,q1,q2,q3⟩:=hlo
     exact⟨b,g,q1,by simpa [Go.Proofs.YtfanepojdefdpaaGreat.Om,h3] using q2,q3⟩
    | _=>exact h3.elim
   | box ds ty=>
    cases lb' with
    | row e sz cs=>exact h3.elim
    | map l=>exact h3.elim
    | mit k n s=>exact h3.elim
    | vec ds e=>exact h3.elim
    | tree e sz o e2 sz2 s hh cs=>exact h3.elim
    | gho=>exact h3.elim
    | abs=>exact h3.elim
    | que e sz cs=>exact h3.elim
    | box ds' ty'=>
     obtain⟨rfl,h5⟩:=h3
     obtain⟨b,vs,q1,q2,q3,q4,q5⟩:=hlo
     exact⟨b,vs,q1,q2,q3,q4,h5.rep h hI hfz vs q5⟩
   | row e sz cs=>
    cases lb' with
    | box ds' ty'=>exact h3.elim
    | map l=>exact h3.elim
    | mit k n s=>exact h3.elim
    | vec ds e=>exact h3.elim
    | tree e sz o e2 sz2 s hh cs=>exact h3.elim
    | gho=>exact h3.elim
    | abs=>exact h3.elim
    | que e' sz' cs'=>
     obtain⟨rfl,rfl,rfl⟩:=h3
     obtain⟨n,us,q1,q2,q3⟩:=hlo
     exact⟨n,us,q1.que,q2,q3.keep_ (fun _ _=>rfl) hI⟩
    | row e' sz' cs'=>
     obtain⟨rfl,rfl,rfl⟩:=h3
     obtain⟨n,us,q1,q2,q3⟩:=hlo
     exact⟨n,us,q1,q2,q3.keep_ (fun _ _=>rfl) hI⟩
  ·refine⟨0,[],?_,?_,rfl,fun _ _ _ h _=>by simp at h⟩
   ·simp only [Go.Proofs.YtfanepojdefdpaaGreat.Om,h1]
    exact World.rowOk_nil _ _ _ _
   ·intro b hb
    simp [Go.Proofs.YtfanepojdefdpaaGreat.Om,h1,Br] at hb
 ·intro k k' lb lb' b h1 h2 h3 h4
  rcases hL k lb h1 with ⟨j,lb1,q1,q2,q5⟩ | ⟨q1,e,sz,rfl⟩
  ·rcases hL k' lb' h2 with ⟨j',lb2,q3,q4,q6⟩ | ⟨q3,e,sz,rfl⟩
   ·have:=h.sep j j' lb1 lb2 b q2 q4 (hown k j lb1 lb b q1 q5 h3) (hown k' j' lb2 lb' b q3 q6 h4)
    subst this
    exact hinj k k' j q1 q3
   ·exact (hnil k' e sz b q3 h4).elim
  ·exact (hnil k e sz b q1 h3).elim
 ·intro k lb b h1 h2 h3
  rcases hL k lb h1 with ⟨j,lb1,q1,q2,q5⟩ | ⟨q1,e,sz,rfl⟩
  ·refine h.fresh j lb1 b q2 ?_ (hown k j lb1 lb b q1 q5 h3)
   rcases aF4 j cx.np with hj | hj
   ·have:=hinj k j j q1 (hpin j hj).1
    omega
   ·exact hj
  ·exact (hnil k e sz b q1 h3).elim
theorem Mb.of {cx:Cx} {σ σ':St} (θ:Nat->Option Nat) (hF:∀ t d',σ'.F t=some d'->∃ d,σ.F t=some d/\Cv σ θ d d')
  (hL:∀ k lb',σ'.L k=some lb'->(∃ j lb,θ k=some j/\σ.L j=some lb/\CvB σ θ lb lb')\/(θ k=none/\∃ e sz,lb'=.row e sz []))
  (hinj:∀ k k' j,θ k=some j->θ k'=some j->k=k')
  (hpin:∀ k,k < cx.np->θ k=some k/\σ'.U k=true) (hUF:∀ t d k,σ'.F t=some d->men d k->σ'.U k=true) (hUL:∀ k lb,σ'.L k=some lb->σ'.U k=true/\∀ k',Nq lb k'->σ'.U k'=true):Mb cx σ σ':=by
 rintro a w ⟨ρ,h⟩
 exact⟨_,(h.ren θ hF hL hinj hpin hUF hUL).1⟩
mutual
def mH (n:Nat):DV->Bool
 | .row k=>Nat.blt k n
 | .part k _ _=>Nat.blt k n
 | .ptr k _=>Nat.blt k n
 | .agg ds=>dC n ds
 | .tup ds=>dC n ds
 | .clo _ _ ds=>dC n ds
 | .val _=>true
 | .sl _ _=>true
 | .slc _ _=>true
 | .mp _=>true
 | .elt _=>true
 | .nst k s _=>Nat.blt k n && Nat.blt s n
 | .npt k s _ _=>Nat.blt k n && Nat.blt s n
 | .npr k s _ _ _=>Nat.blt k n && Nat.blt s n
 | .qpt k _=>Nat.blt k n
def dC (n:Nat):List DV->Bool
 | []=>true
 | d :: ds=>mH n d && dC n ds
end
def ltB (n:Nat):LB->Bool
 | .box ds _=>dC n ds
 | .row ..=>true
 | .map _=>true
 | .mit k _ _=>Nat.blt k n
 | .vec ds _=>dC n ds
 | .tree _ _ _ _ _ s _ _=>Nat.blt s n
 | .gho=>true
 | .abs ns _=>ns.all fun k=>Nat.blt k n
 | .que ..=>true
mutual
theorem cW {n:Nat}:∀ {d:DV},mH n d=true->∀ k,men d k->Nat.blt k n=true
 | .row _,h,k,hk=>by unfold mH at h; unfold men at hk; rw [hk]; exact h
 | .part _ _ _,h,k,hk=>by unfold mH at h; unfold men at hk; rw [hk]; exact h
 | .ptr _ _,h,k,hk=>by unfold mH at h; unfold men at hk; rw [hk]; exact h
 | .agg ds,h,k,hk=>by unfold mH at h; unfold men at hk; exact Mu h k hk
 | .tup ds,h,k,hk=>by unfold mH at h; unfold men at hk; exact Mu h k hk
 | .clo _ _ ds,h,k,hk=>by unfold mH at h; unfold men at hk; exact Mu h k hk
 | .val _,_,k,hk=>by unfold men at hk; exact hk.elim
 | .sl _ _,_,k,hk=>by unfold men at hk; exact hk.elim
 | .slc _ _,_,k,hk=>by unfold men at hk; exact hk.elim
 | .mp _,_,k,hk=>by unfold men at hk; exact hk.elim
 | .elt _,_,k,hk=>by unfold men at hk; exact hk.elim
 | .nst _ _ _,h,k,hk=>by
  unfold mH at h
  unfold men at hk
  rw [aCe] at h
  rcases hk with rfl | rfl
  ·exact h.1
  ·exact h.2
 | .npt _ _ _ _,h,k,hk=>by
  unfold mH at h
  unfold men at hk
  rw [aCe] at h
  rcases hk with rfl | rfl
  ·exact h.1
  ·exact h.2
 | .npr _ _ _ _ _,h,k,hk=>by
  unfold mH at h
  unfold men at hk
  rw [aCe] at h
  rcases hk with rfl | rfl
  ·exact h.1
  ·exact h.2
 | .qpt _ _,h,k,hk=>by unfold mH at h; unfold men at hk; rw [hk]; exact h
theorem Mu {n:Nat}:∀ {ds:List DV},dC n ds=true->∀ k,E3 ds k->Nat.blt k n=true
 | [],_,k,hk=>by unfold E3 at hk; exact hk.elim
 | d :: ds,h,k,hk=>by
  unfold dC at h
  unfold E3 at hk
  rw [aCe] at h
  rcases hk with hk | hk
  ·exact cW h.1 k hk
  ·exact Mu h.2 k hk
end
theorem Wg {n:Nat} {lb:LB} (h:ltB n lb=true):∀ k,Nq lb k->Nat.blt k n=true:=by
 cases lb with
 | box ds ty=>exact Mu h
 | row e sz cs=>intro k hk; exact hk.elim
 | map l=>intro k hk; exact hk.elim
 | mit k' n' s=>intro k hk; have hk:k=k':=hk; subst hk; exact h
 | vec ds e=>exact Mu h
 | tree e sz o e2 sz2 s hh cs=>intro k hk; have hk:k=s:=hk; subst hk; exact h
 | gho=>intro k hk; exact hk.elim
 | abs ns S=>intro k hk; exact aEb.1 h k hk
 | que e sz cs=>intro k hk; exact hk.elim
def uY:List Nat->Bool
 | []=>true
 | x :: l=>(l.all fun y=>!Nat.beq x y) && uY l
theorem E4 {α:Type}:∀ {l:List (Nat×α)} {k:Nat} {x:α},D5 l k=some x->(k,x)∈l
 | [],_,_,h=>by simp [D5] at h
 | (k',x') :: l,k,x,h=>by
  unfold D5 at h
  cases hb:Nat.beq k k' with
  | true=>
   rw [hb] at h
   have:=aDr hb
   subst this
   simp at h
   subst h
   exact aE5 ..
  | false=>
   rw [hb] at h
   exact aEz _ (E4 h)
theorem gL:∀ {l:List (Nat×Nat)},uY (l.map (·.2))=true->∀ {k k' j:Nat},(k,j)∈l->(k',j)∈l->k=k'
 | [],_,_,_,_,h,_=>by simp at h
 | (k0,j0) :: l,hn,k,k',j,h1,h2=>by
  simp only [aFl,uY,aCe,aEb] at hn
  rcases aE1.1 h1 with e1 | e1
  ·rcases aE1.1 h2 with e2 | e2
   ·injection e1 with a1 b1; injection e2 with a2 b2; rw [a1,a2]
   ·injection e1 with a1 b1
    subst b1
    have:=hn.1 j (aFr.2 ⟨_,e2,rfl⟩)
    simp at this
  ·rcases aE1.1 h2 with e2 | e2
   ·injection e2 with a1 b1
    subst b1
    have:=hn.1 j (aFr.2 ⟨_,e1,rfl⟩)
    simp at this
   ·exact gL hn.2 e1 e2
def uT (σ:St) (θ:Nat->Option Nat):List (Nat×DV)->Prop
 | []=>True
 | q :: l=>(∃ d,σ.F q.1=some d/\Cv σ θ d q.2)/\uT σ θ l
def nP (σ:St) (θ:Nat->Option Nat):List (Nat×LB)->Prop
 | []=>True
 | q :: l=>((∃ j lb,θ q.1=some j/\σ.L j=some lb/\CvB σ θ lb q.2)\/(θ q.1=none/\∃ e sz,q.2=.row e sz []))/\nP σ θ l
theorem gD {σ:St} {θ:Nat->Option Nat}:∀ {l:List (Nat×DV)},uT σ θ l->∀ q∈l,∃ d,σ.F q.1=some d/\Cv σ θ d q.2
 | [],_,q,hq=>by simp at hq
 | q0 :: l,h,q,hq=>by
  rcases aE1.1 hq with rfl | hq
  ·exact h.1
  ·exact gD h.2 q hq
theorem Yp {σ:St} {θ:Nat->Option Nat}:∀ {l:List (Nat×LB)},nP σ θ l->∀ q∈l,(∃ j lb,θ q.1=some j/\σ.L j=some lb/\CvB σ θ lb q.2)\/(θ q.1=none/\∃ e sz,q.2=.row e sz [])
 | [],_,q,hq=>by simp at hq
 | q0 :: l,h,q,hq=>by
  rcases aE1.1 hq with rfl | hq
  ·exact h.1
  ·exact Yp h.2 q hq
def iR (θ:List (Nat×Nat)) (n:Nat):Nat->Bool
 | 0=>true
 | k + 1=>iR θ n k && Nat.blt k n && (match D5 θ k with | some j=>Nat.beq j k | none=>false)
theorem Ue {θ:List (Nat×Nat)} {n:Nat}:∀ {m:Nat},iR θ n m=true->∀ k,k < m->D5 θ k=some k/\Nat.blt k n=true
 | 0,_,k,hk=>by omega
 | m + 1,h,k,hk=>by
  simp only [iR,aCe] at h
  by_cases hkm:k=m
  ·subst hkm
   cases hl:D5 θ k with
   | none=>rw [hl] at h; exact absurd h.2 (by simp)
   | some j=>
    rw [hl] at h
    exact⟨by rw [aDr h.2],h.1.2⟩
  ·exact Ue h.1.1 k (by omega)
def nL (fl:List (Nat×DV)) (ll:List (Nat×LB)) (n:Nat) (θ:List (Nat×Nat)):Bool:=
 (fl.all fun q=>mH n q.2) && (ll.all fun q=>Nat.blt q.1 n && ltB n q.2) && uY (θ.map (·.2))
theorem Mb.lists {cx:Cx} {σ:St} {fl:List (Nat×DV)} {ll:List (Nat×LB)} {n:Nat} (θ:List (Nat×Nat)) (hc:nL fl ll n θ=true) (hp:iR θ n cx.np=true) (hF:uT σ (D5 θ) fl) (hL:nP σ (D5 θ) ll):Mb cx σ (mk fl ll n):=by
 simp only [nL,aCe,aEb] at hc
 obtain⟨⟨h1,h2⟩,h3⟩:=hc
 refine Mb.of (D5 θ) (fun t d' hd=>gD hF _ (E4 hd)) (fun k lb hl=>Yp hL _ (E4 hl)) (fun k k' j a b=>gL h3 (E4 a) (E4 b)) (fun k hk=>Ue hp k hk)
  (fun t d k hd hm=>cW (h1 _ (E4 hd)) k hm) (fun k lb hl=>?_)
 have:=h2 _ (E4 hl)
 exact⟨this.1,fun k' hk'=>Wg this.2 k' hk'⟩
end Go.Proofs.YtfanepojdefdpaaGreat
namespace Go.Proofs.YtfanepojdefdpaaGreat
open Go.RowKit
def L8:DV->Option Nat
 | .row k=>some k
 | .part k _ _=>some k
 | .ptr k _=>some k
 | .nst k _ _=>some k
 | .npt k _ _ _=>some k
 | .npr k _ _ _ _=>some k
 | .qpt k _=>some k
 | _=>none
def iC:Value->DV
 | .agg vs=>bif vs.toList.all (fun v=>Fr v && v.oneCell') then .agg (vs.toList.map DV.val) else .val (.agg vs)
 | v=>.val v
theorem W6:∀ (l:List Value) (k:Nat),¬ E3 (l.map DV.val) k
 | [],_,h=>by unfold List.map E3 at h; exact h
 | v :: l,k,h=>by
  unfold List.map E3 at h
  rcases h with h | h
  ·unfold men at h; exact h
  ·exact W6 l k h
theorem eR {v:Value} {k:Nat} (h:men (iC v) k):False:=by
 unfold iC at h
 split at h
 ·rename_i vs
  cases hb:vs.toList.all (fun v=>Fr v && v.oneCell') with
  | true=>rw [hb] at h; unfold cond at h; unfold men at h; exact W6 _ _ h
  | false=>rw [hb] at h; unfold cond at h; unfold men at h; exact h
 ·unfold men at h; exact h
theorem eZ {v:Value}:L8 (iC v)=none:=by
 unfold iC
 split
 ·rename_i vs
  cases hb:vs.toList.all (fun v=>Fr v && v.oneCell') <;> rfl
 ·rfl
theorem eT {ρ:Nat->Value} {I:Nat->Prop} {w:World}:∀ l:List Value,(∀ v∈l,Fr v=true)->Bk ρ I w (l.map DV.val) l
 | [],_=>by simp [Bk]
 | v :: l,h=>by
  rw [aFl]
  unfold Bk
  exact⟨v,l,rfl,by unfold B7; exact⟨rfl,h v (aE5 ..)⟩,eT l fun u hu=>h u (aEz _ hu)⟩
theorem pG {ρ:Nat->Value} {I:Nat->Prop} {w:World} {v:Value} (h:Fr v=true):B7 ρ I w (iC v) v:=by
 unfold iC
 split
 ·rename_i vs
  cases hb:vs.toList.all (fun v=>Fr v && v.oneCell') with
  | true=>
   simp only [aEu]
   rw [aEb] at hb
   unfold B7
   exact⟨vs.toList,rfl,fun u hu=>((aCe _ _).mp (hb u hu)).2,eT _ fun u hu=>((aCe _ _).mp (hb u hu)).1⟩
  | false=>
   simp only [aCc]
   unfold B7
   exact⟨rfl,h⟩
 ·unfold B7
  exact⟨rfl,h⟩
def ev (σ:St) (tc:Bool):Operand->Option (DV×Option LB)
 | .tmp t=>match σ.F t with
  | some d=>some (d,bif tc then (match L8 d with | some k=>σ.L k | none=>none) else none)
  | none=>none
 | .const v=>bif Fr v then some (iC v,none) else none
 | .func f=>some (.val (.func (.func f) #[] #[]),none)
 | .global _=>none
def Ey (σ:St) (tc:Bool):List Operand->Option (List (DV×Option LB))
 | []=>some []
 | x :: l=>match ev σ tc x with
  | some d=>(match Ey σ tc l with | some ds=>some (d :: ds) | none=>none)
  | none=>none
def M4:DV->Bool
 | .part _ _ _=>true
 | _=>false
def Li (b:Bool):List (DV×Option LB)->List Nat
 | []=>[]
 | (d,_) :: l=>match L8 d with | some k=>(bif b && M4 d then Li b l else k :: Li b l) | none=>Li b l
theorem mA {c:Bool} {j k:Nat} {l:List Nat} (h:k∈(bif c then l else j :: l)):k∈j :: l:=by
 cases c with
 | false=>exact h
 | true=>exact aEz _ h
def Ie:Op->Bool
 | .call ⟨.builtin .len,_,_⟩=>true
 | .store _ _ _=>true
 | _=>false
def Hj (b:Bool):List (DV×Option LB)->List (DV×Option LB)->Prop
 | [],[]=>True
 | x :: l,y :: m=>x.1=y.1/\(x.2=y.2\/(b=true/\M4 x.1=true))/\Hj b l m
 | _,_=>False
theorem Hj.eq:∀ {l m:List (DV×Option LB)},Hj false l m->l=m
 | [],[],_=>rfl
 | x :: l,y :: m,h=>by
  obtain⟨h1,h2,h3⟩:=h
  rcases h2 with h2 | ⟨h2,-⟩
  ·rw [Hj.eq h3,Prod.ext h1 h2]
  ·cases h2
 | [],_ :: _,h=>h.elim
 | _ :: _,[],h=>h.elim
mutual
def Iu:DV->List Nat
 | .row k=>[k]
 | .part k _ _=>[k]
 | .ptr k _=>[k]
 | .agg ds=>M0 ds
 | .tup ds=>M0 ds
 | .clo _ _ ds=>M0 ds
 | .val _=>[]
 | .sl _ _=>[]
 | .slc _ _=>[]
 | .mp _=>[]
 | .elt _=>[]
 | .nst k s _=>[k,s]
 | .npt k s _ _=>[k,s]
 | .npr k s _ _ _=>[k,s]
 | .qpt k _=>[k]
def M0:List DV->List Nat
 | []=>[]
 | d :: ds=>Iu d ++ M0 ds
end
def cJ (σ:St) (k:Nat):List Nat:=match σ.L k with
 | some (.box ds _)=>M0 ds
 | some (.mit k _ _)=>[k]
 | some (.vec ds _)=>M0 ds
 | _=>[]
def Rj (σ:St):Nat->List Nat->List Nat
 | 0,l=>l
 | n + 1,l=>l ++ Rj σ n (l.flatMap (cJ σ))
def Uz:List (DV×Option LB)->List Nat
 | []=>[]
 | q :: l=>Iu q.1 ++ Uz l
def P7 (b:Bool):List (DV×Option LB)->List Nat
 | []=>[]
 | q :: l=>(bif b && M4 q.1 then [] else Iu q.1) ++ P7 b l
theorem Qj:∀ ds:List (DV×Option LB),P7 false ds=Uz ds
 | []=>rfl
 | q :: l=>congrArg (Iu q.1 ++ ·) (Qj l)
theorem aN {b:Bool}:∀ {ds:List (DV×Option LB)} {k:Nat},k∈P7 b ds->k∈Uz ds
 | [],_,h=>h
 | q :: l,k,h=>by
  unfold P7 at h
  unfold Uz
  rcases aFh.1 h with h | h
  ·cases hb:(b && M4 q.1) with
   | true=>rw [hb] at h; cases h
   | false=>rw [hb] at h; exact aE7 _ h
  ·exact aE2 _ (aN h)
theorem Hj.argTb {b:Bool}:∀ {l m:List (DV×Option LB)},Hj b l m->P7 b l=P7 b m
 | [],[],_=>rfl
 | (x,_) :: l,(y,_) :: m,h=>by
  obtain⟨h1,-,h3⟩:=h
  have h1:x=y:=h1
  subst h1
  unfold Go.Proofs.YtfanepojdefdpaaGreat.P7
  rw [Hj.argTb h3]
 | [],_ :: _,h=>h.elim
 | _ :: _,[],h=>h.elim
theorem Hj.trans {b:Bool}:∀ {l m n:List (DV×Option LB)},Hj b l m->Hj b m n->Hj b l n
 | [],[],[],_,_=>trivial
 | x :: l,y :: m,z :: n,h,k=>by
  obtain⟨h1,h2,h3⟩:=h
  obtain⟨k1,k2,k3⟩:=k
  refine⟨h1.trans k1,?_,Hj.trans h3 k3⟩
  rcases h2 with h2 | h2
  ·rcases k2 with k2 | k2
   ·exact .inl (h2.trans k2)
   ·exact .inr ⟨k2.1,by rw [h1]; exact k2.2⟩
  ·exact .inr h2
 | [],_ :: _,_,h,_=>h.elim
 | _ :: _,[],_,h,_=>h.elim
 | [],[],_ :: _,_,k=>k.elim
 | _ :: _,_ :: _,[],_,k=>k.elim
theorem Hj.refl (b:Bool):∀ l:List (DV×Option LB),Hj b l l
 | []=>trivial
 | _ :: l=>⟨rfl,.inl rfl,Hj.refl b l⟩
theorem Hj.np {b:Bool}:∀ {l m:List (DV×Option LB)},Hj b l m->l.all (fun q=>!M4 q.1)=true->l=m
 | [],[],_,_=>rfl
 | x :: l,y :: m,h,hp=>by
  obtain⟨h1,h2,h3⟩:=h
  rw [aIk,aCe] at hp
  rcases h2 with h2 | ⟨-,h2⟩
  ·rw [Hj.np h3 hp.2,Prod.ext h1 h2]
  ·rw [h2] at hp; cases hp.1
 | [],_ :: _,h,_=>h.elim
 | _ :: _,[],h,_=>h.elim
def Ls (σ:St) (l:List Nat):List (Nat×Option LB):=l.map fun k=>(k,σ.L k)
def I3:Op->Bool
 | .load ..=>true
 | .store ..=>true
 | .indexAddr ..=>true
 | .slice ..=>true
 | .convert ..=>true
 | .call ..=>true
 | _=>false
def Kf (ops:Array Oper) (σ:St) (o:Oper):Option Bool:=
 match o.guard with
 | none=>some true
 | some (g,b)=>match (ops[g]?).bind (·.dst) with
  | some t=>match σ.F t with
   | some (.val (.bool c))=>some (c == b)
   | some (.val _)=>some false
   | _=>none
  | none=>none
def Ox:List Operand->List Tmp
 | []=>[]
 | .tmp t :: l=>t :: Ox l
 | _ :: l=>Ox l
def Nd (ops:Array Oper) (o:Oper):List Tmp:=
 Ox o.op.operands.toList ++ (match o.guard with | some (g,_)=>((ops[g]?).bind (·.dst)).toList | none=>[])
structure sZ (P:Program) (cx:Cx) where
 R:Nat->Op->TypeId->List (DV×Option LB)->List Nat->K4->Prop
 C:Nat->Op->TypeId->List (DV×Option LB)->List (Nat×Option LB)->List Nat->(K4->Prop)->Prop
 soundR:∀ {tk op ty ds wr e},R tk op ty ds wr e->∀ {ρ σ a w},Dr cx ρ σ a w->Ey σ (I3 op) op.operands.toList=some ds->(∀ j,j < 8->σ.U (tk + j)=false)->∀ o:Oper,o.op=op->o.type=ty->(∀ t,o.dst=some t->t < cx.N)->
  ∀ (K:Act->World->Prop) (Q:Exit->Act->World->Prop),(∀ a' w',Jf cx (σ.app o.dst e) a' w'->K a' w')->o.wp P a w K Q
 soundC:∀ {tk op ty ds env wr E},C tk op ty ds env wr E->∀ {ρ σ a w},Dr cx ρ σ a w->Ey σ (I3 op) op.operands.toList=some ds->(∃ l0,env=Ls σ l0)->(∀ j,j < 8->σ.U (tk + j)=false)->∀ o:Oper,o.op=op->o.type=ty->(∀ t,o.dst=some t->t < cx.N)->
  ∀ (K:Act->World->Prop) (Q:Exit->Act->World->Prop),(∀ e a' w',E e->Jf cx (σ.app o.dst e) a' w'->K a' w')->o.wp P a w K Q
 func:World->∀ {tk op ty ds wr e wr' e'},R tk op ty ds wr e->R tk op ty ds wr' e'->wr=wr'/\e=e'
 excl:∀ {tk op ty ds env wr e wr' E},R tk op ty ds wr e->C tk op ty ds env wr' E->False
 keyR:∀ {tk op ty ds wr e},R tk op ty ds wr e->∀ k,e.l k≠none->k∈wr\/(tk<=k/\k < tk + 8)
 keyC:∀ {tk op ty ds env wr E},C tk op ty ds env wr E->∀ e,E e->∀ k,e.l k≠none->k∈wr\/(tk<=k/\k < tk + 8)
 subR:∀ {tk op ty ds wr e},R tk op ty ds wr e->∀ k,k∈wr->I3 op=true/\k∈Li (Ie op) ds
 sim:∀ {tk op ty ds ds' wr e},R tk op ty ds wr e->Hj (Ie op) ds ds'->R tk op ty ds' wr e
 subC:∀ {tk op ty ds env wr E},C tk op ty ds env wr E->∀ k,k∈wr->k∈env.map (·.1)
 simC:∀ {tk op ty ds ds' env wr E},C tk op ty ds env wr E->Hj (Ie op) ds ds'->C tk op ty ds' env wr E
def iT:K4:=eF (some (.val undef))
section
variable {P:Program} {cx:Cx} (S:sZ P cx) (ops:Array Oper)
def SF (tk:Nat) (o:Oper) (σ:St) (rd wr:List Nat) (e:K4):Prop:=
 (Kf ops σ o=some false/\rd=[]/\wr=[]/\e=iT)\/
 (Kf ops σ o=some true/\∃ ds,Ey σ (I3 o.op) o.op.operands.toList=some ds/\S.R tk o.op o.type ds wr e/\rd=bif I3 o.op then Li (Ie o.op) ds else [])
def SC (tk:Nat) (o:Oper) (σ:St) (rd wr:List Nat) (E:K4->Prop):Prop:=
 Kf ops σ o=some true/\∃ ds,Ey σ (I3 o.op) o.op.operands.toList=some ds/\S.C tk o.op o.type ds (Ls σ rd) wr E/\rd=Rj σ 3 (P7 (Ie o.op) ds)
abbrev gS:=List (Nat×Bool×Nat×List Nat×List Nat)
def rS (a b:List Nat):Bool:=a.all fun x=>b.all fun y=>!Nat.beq x y
def xV (a:List Nat) (tk:Nat):Bool:=a.all fun x=>Nat.blt x tk || Nat.ble (tk + 8) x
def wI (m:List Nat) (p i:Nat):Bool:=Nat.testBit (m.getD i 0) p
def kQ (Rt:List Nat) (i:Nat) (cl:Bool) (tk:Nat) (rd wr:List Nat) (q:Nat×Bool×Nat×List Nat×List Nat):Bool:=
 wI Rt q.1 i || (!(cl && q.2.1) && rS q.2.2.2.2 rd && rS q.2.2.2.1 wr && xV rd q.2.2.1 && xV q.2.2.2.1 tk)
def K7 (Rt:Option (List Nat)) (i:Nat) (cl:Bool) (tk:Nat) (rd wr:List Nat) (lg:gS):Bool:=
 match Rt with
 | some r=>lg.all (kQ r i cl tk rd wr)
 | none=>true
def Chain (Rt:Option (List Nat)) (nb:Nat):List (Nat×Oper)->gS->St->(St->Prop)->Prop
 | [],_,σ,Q=>Q σ
 | (i,o) :: l,lg,σ,Q=>
  (∃ rd wr e,SF S ops (nb + 8 * i) o σ rd wr e/\K7 Rt i false (nb + 8 * i) rd wr lg=true/\Chain Rt nb l ((i,false,nb + 8 * i,rd,wr) :: lg) (σ.app o.dst e) Q)\/
  (∃ rd wr E,SC S ops (nb + 8 * i) o σ rd wr E/\K7 Rt i true (nb + 8 * i) rd wr lg=true/\(Rt.isSome=true->∃ e,E e)/\∀ e,E e->Chain Rt nb l ((i,true,nb + 8 * i,rd,wr) :: lg) (σ.app o.dst e) Q)
end
section
variable {P:Program} {cx:Cx} {S:sZ P cx} {ops:Array Oper} {σ σ':St} {o:Oper} {tk:Nat} {rd wr:List Nat} {e:K4} {E:K4->Prop}
theorem aCt {tc:Bool} {x:Operand} (hF:∀ t,x=.tmp t->σ'.F t=σ.F t) (hL:∀ t d k,x=.tmp t->tc=true->σ.F t=some d->L8 d=some k->σ'.L k=σ.L k):ev σ' tc x=ev σ tc x:=by
 cases x with
 | tmp t=>
  simp only [ev]
  rw [hF t rfl]
  cases hd:σ.F t with
  | none=>rfl
  | some d=>
   cases tc with
   | false=>rfl
   | true=>
    simp only [aEu]
    cases hk:L8 d with
    | none=>rfl
    | some k=>simp only []; rw [hL t d k rfl rfl hd hk]
 | const v=>rfl
 | global g=>rfl
 | func f=>rfl
theorem Hj.toks {b:Bool}:∀ {l m:List (DV×Option LB)},Hj b l m->Go.Proofs.YtfanepojdefdpaaGreat.Li b l=Go.Proofs.YtfanepojdefdpaaGreat.Li b m
 | [],[],_=>rfl
 | (x,_) :: l,(y,_) :: m,h=>by
  obtain⟨h1,-,h3⟩:=h
  have h1:x=y:=h1
  subst h1
  unfold Go.Proofs.YtfanepojdefdpaaGreat.Li
  rw [Hj.toks h3]
 | [],_ :: _,h=>h.elim
 | _ :: _,[],h=>h.elim
theorem bP {tc b:Bool}:∀ {l:List Operand} {ds:List (DV×Option LB)},(∀ t,t∈Ox l->σ'.F t=σ.F t)->Ey σ tc l=some ds->(tc=true->∀ k,k∈Li b ds->σ'.L k=σ.L k)->∃ ds',Ey σ' tc l=some ds'/\Hj b ds ds'
 | [],ds,_,h,_=>by
  unfold Ey at h
  injection h with h
  subst h
  exact⟨[],rfl,trivial⟩
 | x :: l,ds,hF,h,hL=>by
  unfold Ey at h ⊢
  cases h1:ev σ tc x with
  | none=>rw [h1] at h; cases h
  | some d0=>
   rw [h1] at h
   simp only [] at h
   cases h2:Ey σ tc l with
   | none=>rw [h2] at h; cases h
   | some ds0=>
    rw [h2] at h
    simp only [] at h
    injection h with h
    subst h
    have e1:∃ d1,ev σ' tc x=some d1/\d0.1=d1.1/\(d0.2=d1.2\/(b=true/\M4 d0.1=true)):=by
     cases x with
     | tmp t=>
      simp only [ev] at h1 ⊢
      rw [hF t (by simp [Ox])]
      cases hd:σ.F t with
      | none=>rw [hd] at h1; cases h1
      | some d=>
       rw [hd] at h1
       injection h1 with h1
       subst h1
       refine⟨_,rfl,rfl,?_⟩
       cases hb:(b && M4 d) with
       | true=>
        simp only [aCe] at hb
        exact .inr hb
       | false=>
        left
        cases tc with
        | false=>rfl
        | true=>
         simp only [aEu]
         cases hk:L8 d with
         | none=>rfl
         | some k=>
          simp only []
          rw [hL rfl k (by simp [Li,hk,hb])]
     | const v=>exact⟨d0,h1,rfl,.inl rfl⟩
     | global g=>exact⟨d0,h1,rfl,.inl rfl⟩
     | func f=>exact⟨d0,h1,rfl,.inl rfl⟩
    obtain⟨d1,e1,e2,e3⟩:=e1
    obtain⟨ds',e4,e5⟩:=bP (b:=b) (ds:=ds0) (fun t ht=>hF t (by cases x <;> simp [Ox,ht])) h2 (fun htc k hk=>hL htc k (by
     obtain⟨d,q⟩:=d0
     unfold Li
     cases L8 d with
     | none=>exact hk
     | some j=>
      simp only []
      cases (b && M4 d)
      ·exact aEz _ hk
      ·exact hk))
    rw [e1]
    simp only []
    rw [e4]
    exact⟨_,rfl,e2,e3,e5⟩
theorem cQ (hF:∀ t,t∈Nd ops o->σ'.F t=σ.F t):Kf ops σ' o=Kf ops σ o:=by
 unfold Kf
 cases D:o.guard with
 | none=>rfl
 | some q=>
  obtain⟨g,b⟩:=q
  simp only []
  cases ht:(ops[g]?).bind (·.dst) with
  | none=>rfl
  | some t=>
   simp only []
   rw [hF t (by simp [Nd,D,ht])]
theorem SF.local (h:SF S ops tk o σ rd wr e) (hF:∀ t,t∈Nd ops o->σ'.F t=σ.F t) (hL:∀ k,k∈rd->σ'.L k=σ.L k):SF S ops tk o σ' rd wr e:=by
 rcases h with ⟨h1,h2⟩ | ⟨h1,ds,h2,h3,h4⟩
 ·exact .inl ⟨by rw [cQ hF]; exact h1,h2⟩
 ·obtain⟨ds',h5,h6⟩:=bP (b:=Ie o.op) (fun t ht=>hF t (by simp [Nd,ht])) h2 (fun htc k hk=>hL k (by rw [h4,htc]; exact hk))
  refine .inr ⟨by rw [cQ hF]; exact h1,ds',h5,S.sim h3 h6,?_⟩
  rw [h4,Hj.toks h6]
theorem S6 {α β:Type} {f g:α->List β}:∀ {l:List α},(∀ x∈l,f x=g x)->l.flatMap f=l.flatMap g
 | [],_=>rfl
 | x :: l,h=>by
  rw [aFe,aFe,h x (aE5 ..),S6 fun y hy=>h y (aEz _ hy)]
theorem Ur {n:Nat} {l:List Nat} {k:Nat} (h:k∈l):k∈Rj σ n l:=by
 cases n with
 | zero=>exact h
 | succ n=>exact aE7 _ h
theorem kF:∀ {n:Nat} {l:List Nat},(∀ k,k∈Rj σ n l->σ'.L k=σ.L k)->Rj σ' n l=Rj σ n l
 | 0,_,_=>rfl
 | n + 1,l,h=>by
  have e1:l.flatMap (cJ σ')=l.flatMap (cJ σ):=by
   have:∀ k∈l,cJ σ' k=cJ σ k:=fun k hk=>by
    unfold cJ
    rw [h k (Ur hk)]
   exact S6 this
  show l ++ Rj σ' n (l.flatMap (cJ σ'))=l ++ Rj σ n (l.flatMap (cJ σ))
  rw [e1,kF fun k hk=>h k (aE2 _ hk)]
theorem uC {l:List Nat} (h:∀ k,k∈l->σ'.L k=σ.L k):Ls σ' l=Ls σ l:=aGl fun k hk=>by rw [h k hk]
theorem oW {d:DV} {k:Nat} (h:L8 d=some k):k∈Iu d:=by
 cases d <;> simp [L8] at h <;> subst h <;> simp [Iu]
theorem Na {b:Bool}:∀ {ds:List (DV×Option LB)} {k:Nat},k∈Li b ds->k∈P7 b ds
 | [],k,h=>by simp [Li] at h
 | (d,q) :: ds,k,h=>by
  unfold Li at h
  unfold P7
  cases hd:L8 d with
  | none=>rw [hd] at h; exact aE2 _ (Na h)
  | some j=>
   rw [hd] at h
   simp only [] at h
   cases hb:(b && M4 d) with
   | true=>rw [hb] at h; exact aE2 _ (Na h)
   | false=>
    rw [hb] at h
    rcases aE1.1 h with rfl | h
    ·exact aE7 _ (oW hd)
    ·exact aE2 _ (Na h)
theorem SC.local (h:SC S ops tk o σ rd wr E) (hF:∀ t,t∈Nd ops o->σ'.F t=σ.F t) (hL:∀ k,k∈rd->σ'.L k=σ.L k):SC S ops tk o σ' rd wr E:=by
 obtain⟨h1,ds,h2,h3,h4⟩:=h
 obtain⟨ds',h5,h6⟩:=bP (b:=Ie o.op) (fun t ht=>hF t (by simp [Nd,ht])) h2 (fun htc k hk=>hL k (by rw [h4]; exact Ur (Na hk)))
 refine⟨by rw [cQ hF]; exact h1,ds',h5,?_,?_⟩
 ·rw [uC hL]; exact S.simC h3 h6
 ·rw [h4,<- h6.argTb]
  exact (kF fun k hk=>hL k (by rw [h4]; exact hk)).symm
theorem SF.func (w:World) {rd' wr':List Nat} {e':K4} (h:SF S ops tk o σ rd wr e) (h':SF S ops tk o σ rd' wr' e'):rd=rd'/\wr=wr'/\e=e':=by
 rcases h with ⟨h1,rfl,rfl,rfl⟩ | ⟨h1,ds,h2,h3,rfl⟩
 ·rcases h' with ⟨h1',rfl,rfl,rfl⟩ | ⟨h1',ds',h2',h3',rfl⟩
  ·exact⟨rfl,rfl,rfl⟩
  ·rw [h1] at h1'; cases h1'
 ·rcases h' with ⟨h1',rfl,rfl,rfl⟩ | ⟨h1',ds',h2',h3',rfl⟩
  ·rw [h1] at h1'; cases h1'
  ·rw [h2] at h2'
   injection h2' with h2'
   subst h2'
   obtain⟨a,b⟩:=S.func w h3 h3'
   exact⟨rfl,a,b⟩
theorem SF.excl {rd' wr':List Nat} (h:SF S ops tk o σ rd wr e) (h':SC S ops tk o σ rd' wr' E):False:=by
 obtain⟨h1',ds',h2',h3',-⟩:=h'
 rcases h with ⟨h1,-⟩ | ⟨h1,ds,h2,h3,-⟩
 ·rw [h1] at h1'; cases h1'
 ·rw [h2] at h2'
  injection h2' with h2'
  subst h2'
  exact S.excl h3 h3'
theorem SF.key (h:SF S ops tk o σ rd wr e):(∀ k,e.l k≠none->k∈wr\/(tk<=k/\k < tk + 8))/\∀ k,k∈wr->k∈rd:=by
 rcases h with ⟨h1,rfl,rfl,rfl⟩ | ⟨h1,ds,h2,h3,rfl⟩
 ·exact⟨fun k hk=>absurd rfl hk,fun k hk=>hk⟩
 ·refine⟨S.keyR h3,fun k hk=>?_⟩
  obtain⟨h4,h5⟩:=S.subR h3 k hk
  rw [h4]
  exact h5
theorem SC.key (h:SC S ops tk o σ rd wr E):(∀ e,E e->∀ k,e.l k≠none->k∈wr\/(tk<=k/\k < tk + 8))/\∀ k,k∈wr->k∈rd:=by
 obtain⟨h1,ds,h2,h3,h0⟩:=h
 refine⟨S.keyC h3,fun k hk=>?_⟩
 have:=S.subC h3 k hk
 simpa [Ls] using this
theorem Zw {ρ:Nat->Value} {a:Act} {w:World} (h:Dr cx ρ σ a w) {tc bb:Bool}:∀ {l:List Operand} {ds:List (DV×Option LB)},Ey σ tc l=some ds->∀ k,k∈Li bb ds->σ.U k=true
 | [],ds,hd,k,hk=>by
  unfold Ey at hd
  injection hd with hd
  subst hd
  simp [Li] at hk
 | x :: l,ds,hd,k,hk=>by
  unfold Ey at hd
  cases h1:ev σ tc x with
  | none=>rw [h1] at hd; cases hd
  | some d0=>
   rw [h1] at hd
   simp only [] at hd
   cases h2:Ey σ tc l with
   | none=>rw [h2] at hd; cases hd
   | some ds0=>
    rw [h2] at hd
    simp only [] at hd
    injection hd with hd
    subst hd
    obtain⟨d,b⟩:=d0
    unfold Li at hk
    have rec_:=Zw (bb:=bb) h h2 k
    cases hd:L8 d with
    | none=>rw [hd] at hk; exact rec_ hk
    | some k'=>
     rw [hd] at hk
     rcases aE1.1 (mA hk) with rfl | hk
     ·cases x with
      | tmp t=>
       simp only [ev] at h1
       cases hF:σ.F t with
       | none=>rw [hF] at h1; cases h1
       | some d'=>
        rw [hF] at h1
        injection h1 with h1
        injection h1 with h1
        subst h1
        refine h.usedF t d' k hF ?_
        cases d' <;> simp [L8] at hd <;> subst hd <;> simp [men]
      | const v=>
       simp only [ev] at h1
       cases hv:Fr v with
       | false=>rw [hv] at h1; cases h1
       | true=>rw [hv] at h1; injection h1 with h1; injection h1 with h1; subst h1; rw [eZ] at hd; cases hd
      | global g=>simp [ev] at h1
      | func f=>simp [ev] at h1; rw [<- h1.1] at hd; cases hd
     ·exact rec_ hk
theorem SF.used {ρ:Nat->Value} {a:Act} {w:World} (h:SF S ops tk o σ rd wr e) (ha:Dr cx ρ σ a w):∀ k,k∈rd->σ.U k=true:=by
 rcases h with ⟨h1,rfl,rfl,rfl⟩ | ⟨h1,ds,h2,h3,rfl⟩
 ·intro k hk; simp at hk
 ·intro k hk
  cases ht:I3 o.op with
  | false=>rw [ht] at hk; simp at hk
  | true=>rw [ht] at hk; exact Zw ha h2 k hk
mutual
theorem Xk:∀ {d:DV} {k:Nat},k∈Iu d->men d k
 | .row _,k,h=>by simpa [Iu,men] using h
 | .part _ _ _,k,h=>by simpa [Iu,men] using h
 | .ptr _ _,k,h=>by simpa [Iu,men] using h
 | .agg ds,k,h=>by unfold Iu at h; unfold men; exact Ml h
 | .tup ds,k,h=>by unfold Iu at h; unfold men; exact Ml h
 | .clo _ _ ds,k,h=>by unfold Iu at h; unfold men; exact Ml h
 | .val _,k,h=>by simp [Iu] at h
 | .sl _ _,k,h=>by simp [Iu] at h
 | .slc _ _,k,h=>by simp [Iu] at h
 | .mp _,k,h=>by simp [Iu] at h
 | .elt _,k,h=>by simp [Iu] at h
 | .nst _ _ _,k,h=>by unfold men; simpa [Iu] using h
 | .npt _ _ _ _,k,h=>by unfold men; simpa [Iu] using h
 | .npr _ _ _ _ _,k,h=>by unfold men; simpa [Iu] using h
 | .qpt _ _,k,h=>by simpa [Iu,men] using h
theorem Ml:∀ {ds:List DV} {k:Nat},k∈M0 ds->E3 ds k
 | [],k,h=>by simp [M0] at h
 | d :: ds,k,h=>by
  unfold M0 at h
  unfold E3
  rcases aFh.1 h with h | h
  ·exact .inl (Xk h)
  ·exact .inr (Ml h)
end
theorem Zm {ρ:Nat->Value} {a:Act} {w:World} (h:Dr cx ρ σ a w) {tc:Bool}:∀ {l:List Operand} {ds:List (DV×Option LB)},Ey σ tc l=some ds->∀ k,k∈Uz ds->σ.U k=true
 | [],ds,hd,k,hk=>by
  unfold Ey at hd
  injection hd with hd
  subst hd
  simp [Uz] at hk
 | x :: l,ds,hd,k,hk=>by
  unfold Ey at hd
  cases h1:ev σ tc x with
  | none=>rw [h1] at hd; cases hd
  | some d0=>
   rw [h1] at hd
   simp only [] at hd
   cases h2:Ey σ tc l with
   | none=>rw [h2] at hd; cases hd
   | some ds0=>
    rw [h2] at hd
    simp only [] at hd
    injection hd with hd
    subst hd
    unfold Uz at hk
    rcases aFh.1 hk with hk | hk
    ·cases x with
     | tmp t=>
      simp only [ev] at h1
      cases hF:σ.F t with
      | none=>rw [hF] at h1; cases h1
      | some d'=>
       rw [hF] at h1
       injection h1 with h1
       subst h1
       exact h.usedF t d' k hF (Xk hk)
     | const v=>
      simp only [ev] at h1
      cases hv:Fr v with
      | false=>rw [hv] at h1; cases h1
      | true=>rw [hv] at h1; injection h1 with h1; subst h1; exact (eR (Xk hk)).elim
     | global g=>simp [ev] at h1
     | func f=>simp only [ev] at h1; injection h1 with h1; subst h1; simp [Iu] at hk
    ·exact Zm h h2 k hk
theorem aB {ρ:Nat->Value} {a:Act} {w:World} (h:Dr cx ρ σ a w):∀ {n:Nat} {l:List Nat},(∀ k,k∈l->σ.U k=true)->∀ k,k∈Rj σ n l->σ.U k=true
 | 0,_,hl,k,hk=>hl k hk
 | n + 1,l,hl,k,hk=>by
  rcases aFh.1 hk with hk | hk
  ·exact hl k hk
  ·refine aB h (fun j hj=>?_) k hk
   obtain⟨i,hi,hj⟩:=List.mem_flatMap.1 hj
   unfold cJ at hj
   cases hL:σ.L i with
   | none=>rw [hL] at hj; simp at hj
   | some lb=>
    rw [hL] at hj
    cases lb with
    | box ds ty=>exact (h.usedL i _ hL).2 j (Ml hj)
    | row=>simp at hj
    | map=>simp at hj
    | mit k' n s=>simp at hj; subst hj; exact (h.usedL i _ hL).2 _ rfl
    | vec ds e=>exact (h.usedL i _ hL).2 j (Ml hj)
    | tree=>simp at hj
    | gho=>simp at hj
    | abs=>simp at hj
    | que=>simp at hj
theorem SC.used {ρ:Nat->Value} {a:Act} {w:World} (h:SC S ops tk o σ rd wr E) (ha:Dr cx ρ σ a w):∀ k,k∈rd->σ.U k=true:=by
 obtain⟨h1,ds,h2,h3,h4⟩:=h
 intro k hk
 rw [h4] at hk
 exact aB ha (fun k hk=>Zm ha h2 k (aN hk)) k hk
def rI:Value->Option Bool
 | .bool b=>some b
 | _=>none
theorem T9 {ρ:Nat->Value} {a:Act} {w:World} (h:Dr cx ρ σ a w) {b:Bool} (D:Kf ops σ o=some b):Region.wanted o (yielded ops a.tmps)=b:=by
 unfold Kf at D
 unfold Region.wanted
 cases hq:o.guard with
 | none=>
  rw [hq] at D
  injection D
 | some q=>
  obtain⟨g,want⟩:=q
  rw [hq] at D
  simp only [] at D ⊢
  cases ht:(ops[g]?).bind (·.dst) with
  | none=>rw [ht] at D; cases D
  | some t=>
   rw [ht] at D
   simp only [] at D
   cases hF:σ.F t with
   | none=>rw [hF] at D; cases D
   | some d=>
    rw [hF] at D
    cases d with
    | val v=>
     have hr:=h.fr t _ hF
     unfold B7 at hr
     have hy:yielded ops a.tmps g=rI v:=by
      unfold yielded
      rw [ht]
      simp only [aAo]
      by_cases hlt:t < a.tmps.size
      ·simp only [hlt,aFq]
       have e1:a.tmps[t]=v:=by simpa [hlt] using hr.1
       rw [e1]
       cases v <;> rfl
      ·have e1:a.tmps[t]?=none:=Array.getElem?_eq_none (Nat.le_of_not_lt hlt)
       have e2:v=undef:=by simpa [e1] using hr.1.symm
       rw [e1,e2]
       rfl
     rw [hy]
     cases v <;> simp at D <;> simp [rI,<- D]
    | _=>cases D
theorem SF.sound {ρ:Nat->Value} {a:Act} {w:World} (h:SF S ops tk o σ rd wr e) (ha:Dr cx ρ σ a w) (hf:∀ j,j < 8->σ.U (tk + j)=false) (hdst:∀ t,o.dst=some t->t < cx.N) :
  ∀ (K:Act->World->Prop) (Q:Exit->Act->World->Prop),(∀ a' w',Jf cx (σ.app o.dst e) a' w'->K a' w')->if Region.wanted o (yielded ops a.tmps)=true then o.wp P a w K Q else K (a.put o.dst undef) w:=by
 rcases h with ⟨h1,rfl,rfl,rfl⟩ | ⟨h1,ds,h2,h3,rfl⟩
 ·intro K Q hK
  rw [T9 ha h1]
  simp only [aHx,if_false]
  exact hK _ _ ⟨ρ,ha.put0 hdst (fun x hx=>by injection hx with hx; subst hx; unfold B7; exact⟨rfl,rfl⟩) (fun x k hx hm=>by injection hx with hx; subst hx; unfold men at hm; exact hm.elim)⟩
 ·have h5:=S.soundR h3 ha h2 hf o rfl rfl hdst
  intro K Q hK
  rw [T9 ha h1]
  simp only [if_true]
  exact h5 K Q hK
theorem SC.sound {ρ:Nat->Value} {a:Act} {w:World} (h:SC S ops tk o σ rd wr E) (ha:Dr cx ρ σ a w) (hf:∀ j,j < 8->σ.U (tk + j)=false) (hdst:∀ t,o.dst=some t->t < cx.N) :
  ∀ (K:Act->World->Prop) (Q:Exit->Act->World->Prop),(∀ e a' w',E e->Jf cx (σ.app o.dst e) a' w'->K a' w')->if Region.wanted o (yielded ops a.tmps)=true then o.wp P a w K Q else K (a.put o.dst undef) w:=by
 obtain⟨h1,ds,h2,h3,h4⟩:=h
 intro K Q hK
 rw [T9 ha h1]
 simp only [if_true]
 exact S.soundC h3 ha h2 ⟨_,rfl⟩ hf o rfl rfl hdst K Q hK
def We (b:Bool) (σ:St):List Operand->List Nat
 | []=>[]
 | x :: l=>match ev σ false x with
  | some (d,_)=>(match L8 d with | some k=>(bif b && M4 d then We b σ l else k :: We b σ l) | none=>We b σ l)
  | none=>We b σ l
theorem aEl {tc:Bool} {x:Operand} {d:DV} {b:Option LB} (h:ev σ tc x=some (d,b)):ev σ false x=some (d,none):=by
 cases x with
 | tmp t=>
  simp only [ev] at *
  cases hd:σ.F t with
  | none=>rw [hd] at h; cases h
  | some d'=>
   rw [hd] at h
   injection h with h
   injection h with h
   subst h
   rfl
 | const v=>
  simp only [ev] at *
  cases hv:Fr v with
  | false=>rw [hv] at h; cases h
  | true=>rw [hv] at h; injection h with h; injection h with h; subst h; rfl
 | global g=>simp [ev] at h
 | func f=>simp only [ev] at *; injection h with h; injection h with h; subst h; rfl
theorem cL {tc b:Bool}:∀ {l:List Operand} {ds:List (DV×Option LB)},Ey σ tc l=some ds->Li b ds=We b σ l
 | [],ds,hd=>by
  unfold Ey at hd
  injection hd with hd
  subst hd
  rfl
 | x :: l,ds,hd=>by
  unfold Ey at hd
  cases h1:ev σ tc x with
  | none=>rw [h1] at hd; cases hd
  | some d0=>
   rw [h1] at hd
   simp only [] at hd
   cases h2:Ey σ tc l with
   | none=>rw [h2] at hd; cases hd
   | some ds0=>
    rw [h2] at hd
    simp only [] at hd
    injection hd with hd
    subst hd
    obtain⟨d,q⟩:=d0
    unfold Li We
    rw [aEl h1]
    simp only []
    rw [cL (b:=b) h2]
theorem Yn {b:Bool}:∀ {l:List Operand},(∀ t,t∈Ox l->σ'.F t=σ.F t)->We b σ' l=We b σ l
 | [],_=>rfl
 | x :: l,hF=>by
  unfold We
  have e1:ev σ' false x=ev σ false x:=aCt (fun t ht=>hF t (by rw [ht]; simp [Ox])) fun t d k _ h=>by cases h
  have e2:We b σ' l=We b σ l:=Yn fun t ht=>hF t (by cases x <;> simp [Ox,ht])
  rw [e1,e2]
def wM (ops:Array Oper) (o:Oper) (σ:St):List Nat:=if Kf ops σ o=some true then (bif I3 o.op then We (Ie o.op) σ o.op.operands.toList else []) else []
theorem SF.rdEq (h:SF S ops tk o σ rd wr e):rd=wM ops o σ:=by
 unfold wM
 rcases h with ⟨h1,rfl,-⟩ | ⟨h1,ds,h2,h3,rfl⟩
 ·rw [if_neg (by rw [h1]; simp)]
 ·rw [if_pos h1,cL h2]
theorem SC.rdSub (h:SC S ops tk o σ rd wr E):∀ k,k∈wM ops o σ->k∈rd:=by
 unfold wM
 obtain⟨h1,ds,h2,h3,h4⟩:=h
 rw [if_pos h1,h4]
 intro k hk
 cases ht:I3 o.op with
 | false=>rw [ht] at hk; simp at hk
 | true=>
  rw [ht] at hk
  simp only [aEu] at hk
  rw [<- cL h2] at hk
  exact Ur (Na hk)
theorem lZ (hF:∀ t,t∈Nd ops o->σ'.F t=σ.F t):wM ops o σ'=wM ops o σ:=by
 unfold wM
 rw [cQ hF,Yn fun t ht=>hF t (by simp [Nd,ht])]
def Tw (nb:Nat) (l:List (Nat×Oper)) (σ:St):Prop:=∀ q∈l,∀ j,j < 8->σ.U (nb + 8 * q.1 + j)=false
def rX (cx:Cx) (l:List (Nat×Oper)):Prop:=∀ q∈l,∀ t,q.2.dst=some t->t < cx.N
theorem kT {dst:Option Tmp} {k:Nat} (h:(σ.app dst e).U k=true):σ.U k=true\/e.l k≠none:=by
 simp only [St.app,aGd,aHs] at h
 exact h
theorem Tw.next {nb i:Nat} {l:List (Nat×Oper)} {dst:Option Tmp} (hf:Tw nb l σ) (hk:∀ k,e.l k≠none->k∈wr\/(nb + 8 * i<=k/\k < nb + 8 * i + 8)) (hu:∀ k,k∈wr->σ.U k=true) (hi:∀ q∈l,q.1≠i):Tw nb l (σ.app dst e):=by
 intro q hq j hj
 have h0:=hf q hq j hj
 cases hc:(σ.app dst e).U (nb + 8 * q.1 + j) with
 | false=>rfl
 | true=>
  rcases kT hc with h1 | h1
  ·rw [h0] at h1; cases h1
  ·rcases hk _ h1 with h2 | h2
   ·rw [hu _ h2] at h0; cases h0
   ·have:=hi q hq
    omega
end
end Go.Proofs.YtfanepojdefdpaaGreat
namespace Go.Proofs.YtfanepojdefdpaaGreat
open Go.RowKit
def Fj:Nat->List Oper->List (Nat×Oper)
 | _,[]=>[]
 | k,o :: l=>(k,o) :: Fj (k + 1) l
theorem Q7:∀ {l:List Oper} {k:Nat} {q:Nat×Oper},q∈Fj k l->k<=q.1/\q.1 < k + l.length/\l[q.1 - k]?=some q.2
 | [],_,_,h=>by simp [Fj] at h
 | o :: l,k,q,h=>by
  unfold Fj at h
  rcases aE1.1 h with rfl | h
  ·simp
  ·obtain⟨h1,h2,h3⟩:=Q7 h
   refine⟨by omega,by simp; omega,?_⟩
   rw [show q.1 - k=(q.1 - (k + 1)) + 1 by omega]
   simpa using h3
theorem Yy:∀ (l:List Oper) (k:Nat),(Fj k l).length=l.length
 | [],_=>rfl
 | o :: l,k=>by simp [Fj,Yy l]
theorem U5:∀ {l:List Oper} {k i:Nat} {o:Oper},l[i]?=some o->(k + i,o)∈Fj k l
 | [],_,_,_,h=>by simp at h
 | o' :: l,k,0,o,h=>by
  simp at h
  subst h
  simp [Fj]
 | o' :: l,k,i + 1,o,h=>by
  have:=U5 (l:=l) (k:=k + 1) (i:=i) (o:=o) (by simpa using h)
  unfold Fj
  rw [show k + (i + 1)=k + 1 + i by omega]
  exact aEz _ this
theorem oD:∀ (l:List Oper) (k:Nat),(Fj k l).Pairwise fun a b=>a.1 < b.1
 | [],_=>by simp [Fj]
 | o :: l,k=>by
  unfold Fj
  exact aFm.2 ⟨fun q hq=>by have:=(Q7 hq).1; dsimp only; omega,oD l (k + 1)⟩
def lM (N:Nat) (l:List Oper):Bool:=l.all fun o=>match o.dst with | some t=>Nat.blt t N | none=>true
theorem Uv {cx:Cx} {l:List Oper} {k:Nat} (h:lM cx.N l=true):rX cx (Fj k l):=by
 intro q hq t ht
 have h1:=aEy (Q7 hq).2.2
 have:=aEb.1 h _ h1
 rw [ht] at this
 exact aH4 (aC3 this)
theorem Chain.log {P:Program} {cx:Cx} {S:sZ P cx} {ops:Array Oper} {Rt:Option (List Nat)} {nb:Nat} {Q:St->Prop}:∀ {l:List (Nat×Oper)} {lg lg':gS} {σ:St},(∀ q,q∈lg'->q∈lg)->Chain S ops Rt nb l lg σ Q->Chain S ops Rt nb l lg' σ Q
 | [],_,_,_,_,h=>h
 | (i,o) :: l,lg,lg',σ,hs,h=>by
  have ok:∀ {cl rd wr},K7 Rt i cl (nb + 8 * i) rd wr lg=true->K7 Rt i cl (nb + 8 * i) rd wr lg'=true:=fun {cl rd wr} h=>by
   unfold K7 at *
   cases Rt with
   | none=>rfl
   | some r=>exact aEb.2 fun q hq=>aEb.1 h q (hs q hq)
  have hs':∀ x:Nat×Bool×Nat×List Nat×List Nat,∀ q,q∈x :: lg'->q∈x :: lg:=fun x q hq=>by
   rcases aE1.1 hq with rfl | hq
   ·exact aE5 ..
   ·exact aEz _ (hs q hq)
  rcases h with ⟨rd,wr,e,h1,h2,h3⟩ | ⟨rd,wr,E,h1,h2,h2',h3⟩
  ·exact .inl ⟨rd,wr,e,h1,ok h2,Chain.log (hs' _) h3⟩
  ·exact .inr ⟨rd,wr,E,h1,ok h2,h2',fun e he=>Chain.log (hs' _) (h3 e he)⟩
section
variable {P:Program} {cx:Cx} {S:sZ P cx} {Q:Exit->St->Prop} {nb nb':Nat}
theorem Sl {ops:Array Oper}:∀ (l:List Oper) (k:Nat) (lg:gS) (σ:St) (a:Act) (w:World),Chain S ops none nb (Fj k l) lg σ (fun σ'=>(∀ j,nb'<=j->σ'.U j=false)->Q .normal σ')->Tw nb (Fj k l) σ->rX cx (Fj k l)->(∀ j,nb'<=j->σ.U j=false)->nb + 8 * (k + l.length)<=nb'->Jf cx σ a w->wpList P ops (post cx Q) l a w
 | [],k,lg,σ,a,w,h,_,_,B,_,ha=>⟨σ,h B,ha⟩
 | o :: l,k,lg,σ,a,w,h,hf,hd,B,hn,⟨ρ,ha⟩=>by
  have hf0:=hf (k,o) (by simp [Fj])
  have hd0:=hd (k,o) (by simp [Fj])
  have hf1:Tw nb (Fj (k + 1) l) σ:=fun q hq=>hf q (by simp [Fj,hq])
  have hd1:rX cx (Fj (k + 1) l):=fun q hq=>hd q (by simp [Fj,hq])
  have hne:∀ q∈Fj (k + 1) l,q.1≠k:=fun q hq=>by have:=(Q7 hq).1; omega
  have hn':nb + 8 * (k + 1 + l.length)<=nb':=by simp at hn; omega
  have hUn:∀ {e:K4} {wr:List Nat} {rd:List Nat},(∀ j,e.l j≠none->j∈wr\/(nb + 8 * k<=j/\j < nb + 8 * k + 8))->(∀ j,j∈wr->j∈rd)->(∀ j,j∈rd->σ.U j=true)->∀ j,nb'<=j->(σ.app o.dst e).U j=false:=fun {e wr rd} hk hs hu j hj=>by
   cases hc:(σ.app o.dst e).U j with
   | false=>rfl
   | true=>
    rcases kT hc with h1 | h1
    ·rw [B j hj] at h1; cases h1
    ·rcases hk j h1 with h2 | h2
     ·exact absurd (hu j (hs j h2)) (by rw [B j hj]; simp)
     ·simp at hn; omega
  unfold wpList
  rcases h with ⟨rd,wr,e,h1,-,h3⟩ | ⟨rd,wr,E,h1,-,-,h3⟩
  ·have hs:=h1.sound ha hf0 hd0
   have:=hs (wpList P ops (post cx Q) l) (post cx Q) fun a' w' ha'=>Sl l (k + 1) _ _ a' w' h3 (hf1.next h1.key.1 (fun j hj=>h1.used ha j (h1.key.2 j hj)) hne) hd1 (hUn h1.key.1 h1.key.2 (h1.used ha)) hn' ha'
   split
   ·rename_i hw
    rw [if_pos hw] at this
    exact .inl this
   ·rename_i hw
    rw [if_neg hw] at this
    exact this
  ·have:=h1.sound ha hf0 hd0 (wpList P ops (post cx Q) l) (post cx Q) fun e a' w' he ha'=>Sl l (k + 1) _ _ a' w' (h3 e he) (hf1.next (h1.key.1 e he) (fun j hj=>h1.used ha j (h1.key.2 j hj)) hne) hd1 (hUn (h1.key.1 e he) h1.key.2 (h1.used ha)) hn' ha'
   split
   ·rename_i hw
    rw [if_pos hw] at this
    exact .inl this
   ·rename_i hw
    rw [if_neg hw] at this
    exact this
theorem Af (S:sZ P cx) {id:Nat} {l:List Oper} {σ:St} (nb nb':Nat) (B:∀ k,nb<=k->σ.U k=false) (hn:Nat.ble (nb + 8 * l.length) nb'=true) (hd:lM cx.N l=true)
  (h:Chain S l.toArray none nb (Fj 0 l) [] σ (fun σ'=>(∀ j,nb'<=j->σ'.U j=false)->Q .normal σ')):Ca P cx (.region id l.toArray false) Q σ:=by
 intro a w ha
 have hn':nb + 8 * l.length<=nb':=aC3 hn
 exact wp_region_lit (Sl l 0 [] σ a w h (fun q hq j hj=>B _ (by omega)) (Uv hd) (fun j hj=>B j (by omega)) (by simpa using hn') ha)
end
section
variable {P:Program} {cx:Cx} {S:sZ P cx} {ops:Array Oper} {nb:Nat} {r:List Nat}
structure lJ (ops:Array Oper) (x y:Oper):Prop where
 a:∀ d,x.dst=some d->d∉Nd ops y
 b:∀ d,y.dst=some d->d∉Nd ops x
 c:∀ d,x.dst=some d->y.dst≠some d
theorem wV {σ:St} {dst:Option Tmp} {e:K4} {t:Nat} (h:dst≠some t):(σ.app dst e).F t=σ.F t:=by
 cases dst with
 | none=>rfl
 | some t'=>exact Km _ _ (by rintro rfl; exact h rfl)
theorem Vk {σ:St} {dst:Option Tmp} {e:K4} {k:Nat} (h:e.l k=none):(σ.app dst e).L k=σ.L k:=by simp [St.app,h]
theorem W7 {σ:St} {d d':Option Tmp} {e e':K4} (hd:∀ t,d=some t->d'≠some t) (hl:∀ k,e.l k=none\/e'.l k=none):(σ.app d e).app d' e'=(σ.app d' e').app d e:=by
 unfold St.app
 congr 1
 ·cases d with
  | none=>rfl
  | some t=>
   cases d' with
   | none=>rfl
   | some t'=>
    funext s
    have hne:t'≠t:=fun h=>hd t rfl (by rw [h])
    by_cases h1:s=t
    ·subst h1
     dsimp only
     rw [Km _ _ (Ne.symm hne),Np,Np]
    ·by_cases h2:s=t'
     ·subst h2
      dsimp only
      rw [Np,Km _ _ h1,Np]
     ·dsimp only
      rw [Km _ _ h2,Km _ _ h1,Km _ _ h1,Km _ _ h2]
 ·funext k
  rcases hl k with h | h
  ·simp only [h]
  ·simp only [h]
 ·funext k
  dsimp only
  cases σ.U k <;> cases (e.l k).isSome <;> cases (e'.l k).isSome <;> rfl
theorem Xu {a b:List Nat} (h:rS a b=true) {k:Nat} (ha:k∈a) (hb:k∈b):False:=by
 have:=aEb.1 (aEb.1 h k ha) k hb
 simp at this
theorem Zq {a:List Nat} {tk:Nat} (h:xV a tk=true) {k:Nat} (ha:k∈a):k < tk\/tk + 8<=k:=by
 have:=aEb.1 h k ha
 simp [Nat.blt] at this
 omega
theorem Kl {i:Nat} {cl:Bool} {tk:Nat} {rd wr:List Nat} {p:Nat} {cp:Bool} {tp:Nat} {rp wp:List Nat} (h:kQ r i cl tk rd wr (p,cp,tp,rp,wp)=true) (hr:wI r p i=false) :
  (cl=true->cp=true->False)/\(∀ k,k∈wp->k∈rd->False)/\(∀ k,k∈rp->k∈wr->False)/\(∀ k,k∈rd->k < tp\/tp + 8<=k)/\(∀ k,k∈rp->k < tk\/tk + 8<=k):=by
 unfold kQ at h
 rw [aGd] at h
 rcases h with h | h
 ·exfalso
  have h:wI r p i=true:=h
  rw [hr] at h
  cases h
 ·simp only [aCe] at h
  obtain⟨⟨⟨⟨h1,h2⟩,h3⟩,h4⟩,h5⟩:=h
  refine⟨fun a b=>?_,fun k a b=>Xu h2 a b,fun k a b=>Xu h3 a b,fun k hk=>Zq h4 hk,fun k hk=>Zq h5 hk⟩
  rw [a,b] at h1
  cases h1
theorem Mz {i:Nat} {cl:Bool} {tk:Nat} {rd wr:List Nat} {lg:gS} {x:Nat×Bool×Nat×List Nat×List Nat} (h:K7 (some r) i cl tk rd wr (x :: lg)=true):kQ r i cl tk rd wr x=true/\K7 (some r) i cl tk rd wr lg=true:=by
 unfold K7 at *
 simp only [aIk,aCe] at h
 exact h
structure Vv (tp ti:Nat) (ep ei:K4) (rp ri:List Nat):Prop where
 pi:∀ k,k∈ri->ep.l k=none
 ip:∀ k,k∈rp->ei.l k=none
 ee:∀ k,ep.l k=none\/ei.l k=none
theorem Vv.of {tp ti:Nat} {ep ei:K4} {rp wp ri wi:List Nat} (hkp:∀ k,ep.l k≠none->k∈wp\/(tp<=k/\k < tp + 8)) (hsp:∀ k,k∈wp->k∈rp) (hki:∀ k,ei.l k≠none->k∈wi\/(ti<=k/\k < ti + 8)) (hsi:∀ k,k∈wi->k∈ri)
  (h:(∀ k,k∈wp->k∈ri->False)/\(∀ k,k∈rp->k∈wi->False)/\(∀ k,k∈ri->k < tp\/tp + 8<=k)/\(∀ k,k∈rp->k < ti\/ti + 8<=k)) (ht:tp + 8<=ti\/ti + 8<=tp):Vv tp ti ep ei rp ri:=by
 obtain⟨h1,h2,h3,h4⟩:=h
 have pi:∀ k,k∈ri->ep.l k=none:=fun k hk=>by
  cases hx:ep.l k with
  | none=>rfl
  | some x=>
   rcases hkp k (by rw [hx]; simp) with h5 | h5
   ·exact (h1 k h5 hk).elim
   ·have:=h3 k hk; omega
 have ip:∀ k,k∈rp->ei.l k=none:=fun k hk=>by
  cases hx:ei.l k with
  | none=>rfl
  | some x=>
   rcases hki k (by rw [hx]; simp) with h5 | h5
   ·exact (h2 k hk h5).elim
   ·have:=h4 k hk; omega
 refine⟨pi,ip,fun k=>?_⟩
 cases hx:ep.l k with
 | none=>exact .inl rfl
 | some x=>
  right
  cases hy:ei.l k with
  | none=>rfl
  | some y=>
   rcases hkp k (by rw [hx]; simp) with h5 | h5
   ·exact absurd (ip k (hsp k h5)) (by rw [hy]; simp)
   ·rcases hki k (by rw [hy]; simp) with h6 | h6
    ·exact absurd (pi k (hsi k h6)) (by rw [hx]; simp)
    ·omega
theorem tP (w:World) {Q:St->Prop} {i:Nat} {o:Oper} {po:List (Nat×Oper)}:∀ (pre:List (Nat×Oper)) (lg:gS) (σ:St),(∀ p∈pre,wI r p.1 i=false/\lJ ops p.2 o/\p.1 < i)->
  Chain S ops (some r) nb (pre ++ (i,o) :: po) lg σ Q->
  (∃ rd wr e,SF S ops (nb + 8 * i) o σ rd wr e/\K7 (some r) i false (nb + 8 * i) rd wr lg=true/\Chain S ops (some r) nb (pre ++ po) lg (σ.app o.dst e) Q)\/
  (∃ rd wr E,SC S ops (nb + 8 * i) o σ rd wr E/\K7 (some r) i true (nb + 8 * i) rd wr lg=true/\(∃ e,E e)/\∀ e,E e->Chain S ops (some r) nb (pre ++ po) lg (σ.app o.dst e) Q)
 | [],lg,σ,_,h=>by
  rcases h with ⟨rd,wr,e,h1,h2,h3⟩ | ⟨rd,wr,E,h1,h2,h2',h3⟩
  ·exact .inl ⟨rd,wr,e,h1,h2,Chain.log (fun q hq=>aEz _ hq) h3⟩
  ·exact .inr ⟨rd,wr,E,h1,h2,h2' rfl,fun e he=>Chain.log (fun q hq=>aEz _ hq) (h3 e he)⟩
 | (p,op) :: pre,lg,σ,hp,h=>by
  obtain⟨hr,hap,hlt⟩:=hp (p,op) (aE5 ..)
  have hp':∀ q∈pre,wI r q.1 i=false/\lJ ops q.2 o/\q.1 < i:=fun q hq=>hp q (aEz _ hq)
  dsimp only at hr hap hlt
  have ht:nb + 8 * p + 8<=nb + 8 * i\/nb + 8 * i + 8<=nb + 8 * p:=by omega
  have hFi:∀ (e:K4) t,t∈Nd ops o->(σ.app op.dst e).F t=σ.F t:=fun e t htr=>wV fun hd=>hap.a t hd htr
  have hFp:∀ (e:K4) t,t∈Nd ops op->(σ.app o.dst e).F t=σ.F t:=fun e t htr=>wV fun hd=>hap.b t hd htr
  rcases h with ⟨rp,wp,ep,h1,h2,h3⟩ | ⟨rp,wp,Ep,h1,h2,h2',h3⟩
  ·rcases tP w pre _ _ hp' h3 with ⟨rd,wr,e,k1,k2,k3⟩ | ⟨rd,wr,E,k1,k2,k2',k3⟩
   ·obtain⟨hpair,hok⟩:=Mz k2
    have hcl:=Vv.of h1.key.1 h1.key.2 k1.key.1 k1.key.2 (Kl hpair hr).2 ht
    refine .inl ⟨rd,wr,e,k1.local (fun t htr=>(hFi ep t htr).symm) (fun k hk=>(Vk (hcl.pi k hk)).symm),hok,.inl ⟨rp,wp,ep,h1.local (fun t htr=>hFp e t htr) (fun k hk=>Vk (hcl.ip k hk)),h2,?_⟩⟩
    rw [W7 (fun t hd hd'=>hap.c t hd' hd) (fun k=>(hcl.ee k).symm)]
    exact k3
   ·obtain⟨hpair,hok⟩:=Mz k2
    have hcl:=fun e he=>Vv.of h1.key.1 h1.key.2 (k1.key.1 e he) k1.key.2 (Kl hpair hr).2 ht
    obtain⟨e0,he0⟩:=k2'
    refine .inr ⟨rd,wr,E,k1.local (fun t htr=>(hFi ep t htr).symm) (fun k hk=>(Vk ((hcl e0 he0).pi k hk)).symm),hok,⟨e0,he0⟩,fun e he=>.inl ⟨rp,wp,ep,h1.local (fun t htr=>hFp e t htr) (fun k hk=>Vk ((hcl e he).ip k hk)),h2,?_⟩⟩
    rw [W7 (fun t hd hd'=>hap.c t hd' hd) (fun k=>((hcl e he).ee k).symm)]
    exact k3 e he
  ·obtain⟨e0,he0⟩:=h2' rfl
   rcases tP w pre _ _ hp' (h3 e0 he0) with ⟨rd,wr,e,k1,k2,k3⟩ | ⟨rd,wr,E,k1,k2,k2',k3⟩
   ·obtain⟨hpair,hok⟩:=Mz k2
    have hcl0:=Vv.of (h1.key.1 e0 he0) h1.key.2 k1.key.1 k1.key.2 (Kl hpair hr).2 ht
    have hs:SF S ops (nb + 8 * i) o σ rd wr e:=k1.local (fun t htr=>(hFi e0 t htr).symm) (fun k hk=>(Vk (hcl0.pi k hk)).symm)
    refine .inl ⟨rd,wr,e,hs,hok,.inr ⟨rp,wp,Ep,h1.local (fun t htr=>hFp e t htr) (fun k hk=>Vk (hcl0.ip k hk)),h2,h2',fun ep hep=>?_⟩⟩
    have hrd:rd=wM ops o (σ.app op.dst ep):=by rw [lZ (hFi ep)]; exact hs.rdEq
    rcases tP w pre _ _ hp' (h3 ep hep) with ⟨rd',wr',e',m1,m2,m3⟩ | ⟨rd',wr',E',m1,m2,m2',m3⟩
    ·have hrr:rd'=rd:=m1.rdEq.trans hrd.symm
     subst hrr
     have hpi:∀ k,k∈rd'->ep.l k=none:=(Vv.of (h1.key.1 ep hep) h1.key.2 m1.key.1 m1.key.2 (Kl (Mz m2).1 hr).2 ht).pi
     obtain⟨-,rfl,rfl⟩:=m1.func w (hs.local (hFi ep) fun k hk=>Vk (hpi k hk))
     have hcl:=Vv.of (h1.key.1 ep hep) h1.key.2 m1.key.1 m1.key.2 (Kl (Mz m2).1 hr).2 ht
     rw [W7 (fun t hd hd'=>hap.c t hd' hd) (fun k=>(hcl.ee k).symm)]
     exact m3
    ·have hrr:∀ k,k∈rd->k∈rd':=fun k hk=>m1.rdSub k (hrd ▸ hk)
     obtain⟨em,hem⟩:=m2'
     have hpi:∀ k,k∈rd'->ep.l k=none:=(Vv.of (h1.key.1 ep hep) h1.key.2 (m1.key.1 em hem) m1.key.2 (Kl (Mz m2).1 hr).2 ht).pi
     exact ((hs.local (hFi ep) fun k hk=>Vk (hpi k (hrr k hk))).excl m1).elim
   ·exact ((Kl (Mz k2).1 hr).1 rfl rfl).elim
def Lv (ops:Array Oper):Nat->Nat->Nat->Bool
 | 0,_,_=>false
 | n + 1,p,i=>match ops[i]? with
  | some o=>o.after.any fun e=>Region.binds .any e && (Nat.beq e.on p || Lv ops n p e.on)
  | none=>false
def iK (ops:Array Oper) (x y:Oper):Bool:=
 (match x.dst with | some d=>!(Nd ops y).contains d && (match y.dst with | some d'=>!Nat.beq d d' | none=>true) | none=>true) && (match y.dst with | some d=>!(Nd ops x).contains d | none=>true)
theorem gG {x y:Oper} (h:iK ops x y=true):lJ ops x y:=by
 unfold iK at h
 rw [aCe] at h
 obtain⟨h1,h2⟩:=h
 refine⟨fun d hd hm=>?_,fun d hd hm=>?_,fun d hd hd'=>?_⟩
 ·rw [hd] at h1
  simp only [aCe] at h1
  have:=h1.1
  simp [hm] at this
 ·rw [hd] at h2
  simp [hm] at h2
 ·rw [hd,hd'] at h1
  simp at h1
def Wf (ms:List Nat):List Edge->Nat
 | []=>0
 | e :: l=>bif Region.binds .any e then ((1 <<< e.on) ||| ms.getD e.on 0) ||| Wf ms l else Wf ms l
def yM:List Oper->List Nat->List Nat
 | [],ms=>ms
 | o :: l,ms=>yM l (ms ++ [Wf ms o.after.toList])
def fG (l:List Oper) (r:List Nat):Bool:=
 (yM l [] == r) &&
 ((Fj 0 l).all fun q=>(q.2.after.all fun e=>!Region.binds .any e || Nat.blt e.on q.1)) &&
 ((Fj 0 l).all fun q=>(Fj 0 l).all fun p=>!Nat.blt p.1 q.1 || wI r p.1 q.1 || iK l.toArray p.2 q.2)
theorem W8 {ops:Array Oper} {p:Nat}:∀ {n i:Nat},Lv ops n p i=true->Lv ops (n + 1) p i=true
 | 0,_,h=>by simp [Lv] at h
 | n + 1,i,h=>by
  unfold Lv at h ⊢
  cases ho:ops[i]? with
  | none=>rw [ho] at h; cases h
  | some o=>
   rw [ho] at h
   simp only [] at h ⊢
   rw [<- Array.any_toList] at h ⊢
   obtain⟨e,he,h1⟩:=aFn.1 h
   refine aFn.2 ⟨e,he,?_⟩
   simp only [aCe,aGd] at h1 ⊢
   exact⟨h1.1,h1.2.imp id fun h2=>W8 h2⟩
theorem dZ {ops:Array Oper} {p i n m:Nat} (h:Lv ops n p i=true) (hm:n<=m):Lv ops m p i=true:=by
 induction hm with
 | refl=>exact h
 | step _ ih=>exact W8 ih
theorem Uf {ms:List Nat} {p:Nat}:∀ {l:List Edge},Nat.testBit (Wf ms l) p=true->∃ e∈l,Region.binds .any e=true/\(p=e.on\/Nat.testBit (ms.getD e.on 0) p=true)
 | [],h=>by simp [Wf] at h
 | e :: l,h=>by
  unfold Wf at h
  cases hb:Region.binds .any e with
  | false=>
   rw [hb] at h
   obtain⟨e',h1,h2⟩:=Uf (l:=l) h
   exact⟨e',aEz _ h1,h2⟩
  | true=>
   rw [hb] at h
   simp only [aEu,Nat.testBit_or,aGd] at h
   rcases h with (h | h) | h
   ·refine⟨e,aE5 ..,hb,.inl ?_⟩
    rw [Nat.testBit_shiftLeft] at h
    simp only [aCe,aFz] at h
    have h2:=h.2
    rw [Nat.testBit_one_eq_true_iff_self_eq_zero] at h2
    have:=h.1
    omega
   ·exact⟨e,aE5 ..,hb,.inr h⟩
   ·obtain⟨e',h1,h2⟩:=Uf (l:=l) h
    exact⟨e',aEz _ h1,h2⟩
theorem aF {ops:Array Oper}:∀ (l:List Oper) (ms:List Nat),(∀ j o,l[j]?=some o->ops[ms.length + j]?=some o)->(∀ i p,i < ms.length->Nat.testBit (ms.getD i 0) p=true->Lv ops (i + 1) p i=true)->(∀ j o,l[j]?=some o->∀ e∈o.after,Region.binds .any e=true->e.on < ms.length + j)->
  ∀ i p,i < ms.length + l.length->Nat.testBit ((yM l ms).getD i 0) p=true->Lv ops (i + 1) p i=true
 | [],ms,_,h,_,i,p,hi,hb=>h i p (by simpa using hi) hb
 | o :: l,ms,hl,h,he,i,p,hi,hb=>by
  have h0:=hl 0 o rfl
  have step:∀ i p,i < (ms ++ [Wf ms o.after.toList]).length->Nat.testBit ((ms ++ [Wf ms o.after.toList]).getD i 0) p=true->Lv ops (i + 1) p i=true:=fun i p hi hb=>by
   rw [aDw,aEd] at hi
   rcases aF4 i ms.length with hlt | hge
   ·refine h i p hlt ?_
    rw [show (ms ++ [Wf ms o.after.toList]).getD i 0=ms.getD i 0 by simp [List.getD,aE3 hlt]] at hb
    exact hb
   ·have hie:i=ms.length:=by omega
    subst hie
    have e1:(ms ++ [Wf ms o.after.toList]).getD ms.length 0=Wf ms o.after.toList:=by simp [List.getD]
    rw [e1] at hb
    obtain⟨e,h1,h2,h3⟩:=Uf hb
    have hon:=he 0 o rfl e (Array.mem_toList_iff.1 h1) h2
    unfold Lv
    rw [show ops[ms.length]?=some o from h0]
    simp only []
    rw [<- Array.any_toList]
    refine aFn.2 ⟨e,h1,?_⟩
    simp only [aCe,aGd]
    refine⟨h2,?_⟩
    rcases h3 with h3 | h3
    ·exact .inl (by rw [h3]; exact aGp _)
    ·exact .inr (dZ (h e.on p (by omega) h3) (by omega))
  refine aF l (ms ++ [Wf ms o.after.toList]) (fun j o' h'=>?_) step (fun j o' h' e h1 h2=>?_) i p ?_ hb
  ·have:=hl (j + 1) o' h'
   rw [aDw,aEd]
   rwa [show ms.length + 1 + j=ms.length + (j + 1) by omega]
  ·have:=he (j + 1) o' h' e h1 h2
   rw [aDw,aEd]
   omega
  ·rw [aDw,aEd]
   simp only [aEw] at hi
   omega
theorem dT {L:List Oper} {r:List Nat} (hB:fG L r=true) (p i:Nat) (hi:i < L.length) (h:wI r p i=true):Lv L.toArray L.length p i=true:=by
 simp only [fG,aCe,aEb] at hB
 obtain⟨⟨h1,h2⟩,-⟩:=hB
 have h1:=eq_of_beq h1
 subst h1
 refine dZ (aF (ops:=L.toArray) L [] (fun j o h=>by simpa using h) (fun i p hi=>by simp at hi) (fun j o h3 e h4 h5=>?_) i p (by simpa using hi) h) hi
 have:=h2 (j,o) (by have:=U5 (k:=0) h3; simpa using this)
 have:=(aG5.1 this) e h4
 simp only [h5,aEv,aGy] at this
 have h6:=aC3 this
 have h6:e.on + 1<=j:=h6
 show e.on < 0 + j
 omega
def kL (ops:Array Oper) (s:Array Bool):Prop:=∀ j o,ops[j]?=some o->s.getD j true=true->∀ e∈o.after,Region.binds .any e=true->s.getD e.on false=true
theorem Yi {s:Array Bool} (hs:kL ops s) (hsz:s.size=ops.size):∀ (n p i:Nat) (o:Oper),ops[i]?=some o->(∀ e∈o.after,Region.binds .any e=true->s.getD e.on false=true)->Lv ops n p i=true->s.getD p false=true
 | 0,_,_,_,_,_,h=>by simp [Lv] at h
 | n + 1,p,i,o,ho,hd,h=>by
  unfold Lv at h
  rw [ho] at h
  simp only [] at h
  obtain⟨e,he,h1⟩:=aFn.1 (by rw [<- Array.any_toList] at h; exact h)
  simp only [aCe,aGd] at h1
  have he':e∈o.after:=Array.mem_toList_iff.1 he
  have hon:=hd e he' h1.1
  rcases h1.2 with h2 | h2
  ·rw [<- aDr h2]; exact hon
  ·cases hoj:ops[e.on]? with
   | none=>
    cases n <;> simp [Lv,hoj] at h2
   | some oj=>
    have h3:s.getD e.on true=true:=by
     have hlt:e.on < s.size:=by rw [hsz]; exact (aEx.1 hoj).1
     simpa [hlt] using hon
    exact Yi hs hsz n p e.on oj hoj (hs e.on oj hoj h3) h2
structure aBx (ops:Array Oper) (s:Array Bool) (l:List (Nat×Oper)):Prop where
 size:s.size=ops.size
 pw:l.Pairwise fun a b=>a.1 < b.1
 mem:∀ q∈l,ops[q.1]?=some q.2/\s.getD q.1 true=false
 all:∀ i o,ops[i]?=some o->s.getD i true=false->(i,o)∈l
 closed:kL ops s
theorem Ys {s:Array Bool} {i j:Nat} {b:Bool} (hi:i < s.size):(s.setIfInBounds i true).getD j b=if j=i then true else s.getD j b:=by
 by_cases h:j=i
 ·subst h
  simp [hi]
 ·simp [h,aF3,Ne.symm h]
theorem rD (w0:World) {Q:Exit->St->Prop} {L:List Oper} {nb':Nat} (hB:fG L r=true) (hd:lM cx.N L=true) (hn:nb + 8 * L.length<=nb'):∀ (n:Nat) (l:List (Nat×Oper)) (s:Array Bool) (σ:St) (a:Act) (w:World),l.length=n->aBx L.toArray s l->
  Chain S L.toArray (some r) nb l [] σ (fun σ'=>(∀ j,nb'<=j->σ'.U j=false)->Q .normal σ')->Tw nb l σ->(∀ j,nb'<=j->σ.U j=false)->Jf cx σ a w->wpAny P .any L.toArray (post cx Q) n s a w:=by
 have hBr:=dT hB
 simp only [fG,aCe,aEb] at hB
 obtain⟨⟨hB1,hB2⟩,hB3⟩:=hB
 intro n
 induction n with
 | zero=>
  intro l s σ a w hl hL hc hf B ha
  obtain rfl:l=[]:=aDu hl
  refine⟨?_,σ,hc B,ha⟩
  unfold Region.ready
  refine List.filter_eq_nil_iff.2 fun i hi hh=>?_
  simp only [aCe,aF0] at hh
  have hlt:i < L.toArray.size:=aG2.1 hi
  have:=hL.all i _ (aFq hlt) hh.1
  simp at this
 | succ n ih=>
  intro l s σ a w hl hL hc hf B ha
  have hready:∀ i o,(i,o)∈l->(∀ e∈o.after,Region.binds .any e=true->s.getD e.on false=true)->i∈Region.ready .any L.toArray s:=by
   intro i o hm hdone
   obtain⟨h1,h2⟩:=hL.mem _ hm
   dsimp only at h1 h2
   have hlt:i < L.toArray.size:=(aEx.1 h1).1
   unfold Region.ready
   refine aHf.2 ⟨aG2.2 hlt,?_⟩
   rw [h1,h2]
   simp only [aFt,aIl,aHy,Option.getD_some]
   rw [Array.all_eq_true]
   intro j hj
   cases hb:Region.binds .any o.after[j] with
   | false=>rfl
   | true=>simpa using hdone _ (Array.getElem_mem hj) hb
  refine⟨fun hemp=>?_,fun i hi=>?_⟩
  ·exfalso
   match l,hl with
   | (i,o) :: l',_=>
    have hm:=hL.mem (i,o) (aE5 ..)
    have h0:(i,o)∈Fj 0 L:=by
     have:=U5 (k:=0) (by simpa using hm.1:L[i]?=some o)
     simpa using this
    have hr:=hready i o (aE5 ..) fun e he hb=>?_
    ·rw [hemp] at hr; cases hr
    ·have h1:=hB2 _ h0
     rw [aG5] at h1
     have h2:=h1 e he
     rw [hb] at h2
     simp [Nat.blt] at h2
     have hlt:e.on < L.toArray.size:=by
      have:=(aEx.1 hm.1).1
      dsimp only at this
      omega
     cases hc:s.getD e.on true with
     | true=>
      have:e.on < s.size:=by rw [hL.size]; exact hlt
      simpa [this] using hc
     | false=>
      exfalso
      have h3:=hL.all e.on _ (aFq hlt) hc
      rcases aE1.1 h3 with h4 | h4
      ·injection h4 with h4 _
       omega
      ·have:=(aFm.1 hL.pw).1 _ h4
       dsimp only at this
       omega
  ·unfold Region.ready at hi
   obtain⟨hi1,hi2⟩:=aHf.1 hi
   have hlt:i < L.toArray.size:=aG2.1 hi1
   simp only [aCe,aF0] at hi2
   obtain⟨o,ho⟩:∃ o,L.toArray[i]?=some o:=⟨_,aFq hlt⟩
   have hdone:∀ e∈o.after,Region.binds .any e=true->s.getD e.on false=true:=by
    intro e he hb
    have h1:=hi2.2
    rw [ho] at h1
    simp only [aHy,Option.getD_some] at h1
    rw [aG5] at h1
    have:=h1 e he
    rw [hb] at this
    simpa using this
   have hm:=hL.all i o ho hi2.1
   obtain⟨pre,po,rfl⟩:=List.append_of_mem hm
   have hpw:=hL.pw
   rw [List.pairwise_append] at hpw
   obtain⟨hw1,hw2,hw3⟩:=hpw
   obtain⟨hw2a,hw2b⟩:=aFm.1 hw2
   have hisz:i < s.size:=by rw [hL.size]; exact hlt
   have hi0:(i,o)∈Fj 0 L:=by
    have:=U5 (k:=0) (by simpa using ho:L[i]?=some o)
    simpa using this
   have hnot:∀ p∈pre,Lv L.toArray L.length p.1 i=true->False:=fun p hp hr=>by
    have h1:=Yi hL.closed hL.size L.length p.1 i o ho hdone hr
    have h2:=(hL.mem p (aE7 _ hp)).2
    have hps:p.1 < s.size:=by
     rw [hL.size]
     exact (aEx.1 (hL.mem p (aE7 _ hp)).1).1
    simp [hps] at h1 h2
    rw [h1] at h2
    cases h2
   have hpre:∀ p∈pre,wI r p.1 i=false/\lJ L.toArray p.2 o/\p.1 < i:=fun p hp=>by
    have hlt':p.1 < i:=hw3 p hp (i,o) (aE5 ..)
    refine⟨Bool.eq_false_iff.2 fun hr=>hnot p hp (hBr p.1 i (by have:=(aBw.1 (show L[i]?=some o by simpa using ho)).1; exact this) hr),?_,hlt'⟩
    have hp0:p∈Fj 0 L:=by
     have:=U5 (k:=0) (by simpa using (hL.mem p (aE7 _ hp)).1:L[p.1]?=some p.2)
     simpa using this
    have:=hB3 _ hi0 _ hp0
    simp only [aGd,aF0] at this
    rcases this with (h1 | h1) | h1
    ·exact absurd (show Nat.blt p.1 i=true from aFx hlt') (by rw [h1]; simp)
    ·exact (hnot p hp (hBr p.1 i (by have:=(aBw.1 (show L[i]?=some o by simpa using ho)).1; exact this) h1)).elim
    ·exact gG h1
   have hL':aBx L.toArray (s.setIfInBounds i true) (pre ++ po):=by
    refine⟨by simpa using hL.size,?_,?_,?_,?_⟩
    ·rw [List.pairwise_append]
     exact⟨hw1,hw2b,fun x hx y hy=>hw3 x hx y (aEz _ hy)⟩
    ·intro q hq
     have hne:q.1≠i:=by
      rcases aFh.1 hq with hq | hq
      ·have:=hw3 q hq (i,o) (aE5 ..)
       dsimp only at this
       omega
      ·have:=hw2a q hq
       dsimp only at this
       omega
     have hq':q∈pre ++ (i,o) :: po:=by
      rcases aFh.1 hq with hq | hq
      ·exact aE7 _ hq
      ·exact aE2 _ (aEz _ hq)
     refine⟨(hL.mem q hq').1,?_⟩
     rw [Ys hisz,if_neg hne]
     exact (hL.mem q hq').2
    ·intro j oj hj hjs
     rw [Ys hisz] at hjs
     split at hjs
     ·cases hjs
     ·rename_i hne
      have:=hL.all j oj hj hjs
      rcases aFh.1 this with h1 | h1
      ·exact aE7 _ h1
      ·rcases aE1.1 h1 with h2 | h2
       ·injection h2 with h2 _
        exact (hne h2).elim
       ·exact aE2 _ h2
    ·intro j oj hj hjs e he hb
     rw [Ys hisz] at hjs ⊢
     split
     ·rfl
     ·split at hjs
      ·rename_i hji
       subst hji
       rw [ho] at hj
       injection hj with hj
       subst hj
       exact hdone e he hb
      ·exact hL.closed j oj hj hjs e he hb
   have hlen:(pre ++ po).length=n:=by simp at hl ⊢; omega
   have hdi:=Uv (k:=0) hd _ hi0
   have hfi:=hf (i,o) hm
   have hfn:Tw nb (pre ++ po) σ:=fun q hq=>hf q (by
    rcases aFh.1 hq with hq | hq
    ·exact aE7 _ hq
    ·exact aE2 _ (aEz _ hq))
   have hne:∀ q∈pre ++ po,q.1≠i:=fun q hq=>by
    rcases aFh.1 hq with hq | hq
    ·have:=hw3 q hq (i,o) (aE5 ..)
     dsimp only at this
     omega
    ·have:=hw2a q hq
     dsimp only at this
     omega
   have hUn:∀ {e:K4} {wr rd:List Nat},(∀ j,e.l j≠none->j∈wr\/(nb + 8 * i<=j/\j < nb + 8 * i + 8))->(∀ j,j∈wr->j∈rd)->(∀ j,j∈rd->σ.U j=true)->∀ j,nb'<=j->(σ.app o.dst e).U j=false:=fun {e wr rd} hk hs hu j hj=>by
    cases hc:(σ.app o.dst e).U j with
    | false=>rfl
    | true=>
     rcases kT hc with h1 | h1
     ·rw [B j hj] at h1; cases h1
     ·rcases hk j h1 with h2 | h2
      ·exact absurd (hu j (hs j h2)) (by rw [B j hj]; simp)
      ·have:i < L.length:=by simpa using hlt
       omega
   unfold wpOp
   rw [ho]
   simp only []
   obtain⟨ρ,ha'⟩:=ha
   rcases tP w0 pre [] σ hpre hc with ⟨rd,wr,e,k1,-,k3⟩ | ⟨rd,wr,E,k1,-,-,k3⟩
   ·have:=k1.sound ha' hfi hdi (wpAny P .any L.toArray (post cx Q) n (s.setIfInBounds i true)) (post cx Q) fun a' w' h'=>ih _ _ _ a' w' hlen hL' k3 (hfn.next k1.key.1 (fun j hj=>k1.used ha' j (k1.key.2 j hj)) hne) (hUn k1.key.1 k1.key.2 (k1.used ha')) h'
    split
    ·rename_i hw
     rw [if_pos hw] at this
     exact .inl this
    ·rename_i hw
     rw [if_neg hw] at this
     exact this
   ·have:=k1.sound ha' hfi hdi (wpAny P .any L.toArray (post cx Q) n (s.setIfInBounds i true)) (post cx Q) fun e a' w' he h'=>ih _ _ _ a' w' hlen hL' (k3 e he) (hfn.next (k1.key.1 e he) (fun j hj=>k1.used ha' j (k1.key.2 j hj)) hne) (hUn (k1.key.1 e he) k1.key.2 (k1.used ha')) h'
    split
    ·rename_i hw
     rw [if_pos hw] at this
     exact .inl this
    ·rename_i hw
     rw [if_neg hw] at this
     exact this
theorem Cs (S:sZ P cx) {Q:Exit->St->Prop} {id:Nat} {l:List Oper} {σ:St} (hm:P.follows .mixedOrders=true) (r:List Nat) (nb nb':Nat) (B:∀ k,nb<=k->σ.U k=false) (hn:Nat.ble (nb + 8 * l.length) nb'=true) (hd:lM cx.N l=true) (hB:fG l r=true)
  (h:Chain S l.toArray (some r) nb (Fj 0 l) [] σ (fun σ'=>(∀ j,nb'<=j->σ'.U j=false)->Q .normal σ')):Ca P cx (.region id l.toArray true) Q σ:=by
 intro a w ha
 have hn':nb + 8 * l.length<=nb':=aC3 hn
 refine wp_region_any hm ?_
 obtain⟨ρ,h1⟩:=ha
 have ha':Jf cx σ a { w with drawn:=w.drawn + 1 }:=⟨ρ,h1.defers,h1.size,h1.kept,fun t d hd=>B7.step (w:=w) (w':={ w with drawn:=w.drawn + 1 }) (I':=I4 cx σ ρ { w with drawn:=w.drawn + 1 }) (fun b hb=>⟨hb,rfl⟩) d _ (fun _ _=>rfl) (h1.fr t d hd),fun k lb hl=>(h1.lo k lb hl).step (w':={ w with drawn:=w.drawn + 1 }) (I':=I4 cx σ ρ { w with drawn:=w.drawn + 1 }) (fun b hb=>⟨hb,rfl⟩) (fun _ _=>rfl) (fun _ _=>rfl),h1.sep,h1.usedF,h1.usedL,h1.pin,h1.fresh⟩
 have:=rD w (Q:=Q) hB hd hn' l.toArray.size (Fj 0 l) (Array.replicate l.toArray.size false) σ a _ (by rw [Yy]; simp) ⟨by simp,oD l 0,fun q hq=>?_,fun i o ho _=>?_,fun j o ho hs=>?_⟩ h (fun q hq j hj=>B _ (by omega)) (fun j hj=>B j (by omega)) ha'
 ·exact this
 ·have h2:=Q7 hq
  have h3:q.1 < l.length:=by have:=h2.2.1; omega
  refine⟨by simpa using h2.2.2,?_⟩
  simp [h3]
 ·have:=U5 (k:=0) (by simpa using ho:l[i]?=some o)
  simpa using this
 ·have hlt:j < l.length:=by simpa using (aEx.1 ho).1
  simp [hlt] at hs
end
end Go.Proofs.YtfanepojdefdpaaGreat
