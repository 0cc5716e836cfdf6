import Derived.Test.YtboglmbblmakjaaGreatDoorEX
import Derived.RangeFuncLeaves
import Derived.RangeFuncRecord
set_option linter.unusedVariables false
set_option linter.unusedSimpArgs false
namespace Go.Proofs.YtboglmbblmakjaaGreatDoor
open Go.RowKit
def bX:Obj->Bool
 | .deferred _=>true
 | _=>false
section
variable {w w':World} {S S':Nat->Prop} {D:Nat} {o:Obj}
theorem aB5 (ho:w.heap[D]?=some o) (hi:bX o=true) {p:Addr} {u:Value} (h:w.cell? p=some u):p.block≠D:=fun e=>by
 unfold World.cell? at h
 rw [e,ho] at h
 cases o <;> first | (cases hi; done) | (cases h; done)
theorem dV (ho:w.heap[D]?=some o) (hi:bX o=true) {b:Nat} {o':Obj} (h:w.heap[b]?=some o') (hn:bX o'=false):b≠D:=fun e=>by
 rw [e,ho] at h
 cases h
 rw [hi] at hn
 cases hn
mutual
theorem Ga.turn (ho:w.heap[D]?=some o) (hi:bX o=true) (hb:∀ b,b≠D->w'.heap[b]?=w.heap[b]?) (hm:∀ b,S b->S' b):∀ (c:C) (v:Value),Ga w S c v->Ga w' S' c v
 | .int _ _,_,h=>h
 | .bool _,_,h=>h
 | .str _,_,h=>h
 | .raw _,_,h=>h
 | .mp l,v,h=>by
  unfold Ga at h ⊢
  obtain⟨g,h1,h2,h3⟩:=h
  refine⟨g,h1,hm _ h2,h3.keep (hb g ?_)⟩
  obtain⟨es,h4,-⟩:=h3
  exact dV ho hi h4 rfl
 | .ifc t c,v,h=>by
  unfold Ga at h ⊢
  obtain⟨u,h1,h2⟩:=h
  exact⟨u,h1,Ga.turn ho hi hb hm c u h2⟩
 | .ref f cs,v,h=>by
  unfold Ga at h ⊢
  obtain⟨ad,h1,h2,h3⟩:=h
  exact⟨ad,h1,hm _ h2,Jq.turn ho hi hb hm ad cs 0 h3⟩
 | .sl sz cs,v,h=>by
  unfold Ga at h ⊢
  obtain⟨A,n,cap,h1,h2,h3,h4,h5⟩:=h
  refine⟨A,n,cap,h1,h2,h3,h4,fun hn=>?_⟩
  obtain⟨ad,h6,h7,h8⟩:=h5 hn
  exact⟨ad,h6,hm _ h7,Jq.turn ho hi hb hm ad cs 0 h8⟩
theorem Jq.turn (ho:w.heap[D]?=some o) (hi:bX o=true) (hb:∀ b,b≠D->w'.heap[b]?=w.heap[b]?) (hm:∀ b,S b->S' b) (ad:Addr):∀ (cs:List C) (i:Nat),Jq w S ad i cs->Jq w' S' ad i cs
 | [],_,_=>by unfold Jq; trivial
 | c :: cs,i,h=>by
  unfold Jq at h ⊢
  obtain⟨⟨u,h1,h2⟩,h3⟩:=h
  exact⟨⟨u,(World.cell?_of_block (w:=w) (w':=w') (hb _ (aB5 ho hi h1))).trans h1,Ga.turn ho hi hb hm c u h2⟩,Jq.turn ho hi hb hm ad cs (i + 1) h3⟩
end
variable {ρ:Nat->Value}
mutual
theorem Dk.turn (ho:w.heap[D]?=some o) (hi:bX o=true) (hb:∀ b,b≠D->w'.heap[b]?=w.heap[b]?) (hm:∀ b,S b->S' b):∀ (d:DV) (v:Value),Dk ρ S w d v->Dk ρ S' w' d v
 | .val _,_,h=>by unfold Dk at *; exact h
 | .sl _ _,v,h=>by unfold Dk at *; exact Ga.turn ho hi hb hm _ _ h
 | .mp _,v,h=>by unfold Dk at *; exact Ga.turn ho hi hb hm _ _ h
 | .imm _,v,h=>by unfold Dk at *; exact Ga.turn ho hi hb hm _ _ h
 | .slc _ _,v,h=>by unfold Dk at *; exact⟨Ga.turn ho hi hb hm _ _ h.1,h.2⟩
 | .row k,_,h=>by unfold Dk at *; exact h
 | .part k _ _,_,h=>by unfold Dk at *; exact h
 | .ptr k _,_,h=>by unfold Dk at *; exact h
 | .elt _,_,h=>by
  unfold Dk at *
  obtain⟨ad,h1,h2,h3⟩:=h
  exact⟨ad,h1,hm _ h2,Jq.turn ho hi hb hm ad _ 0 h3⟩
 | .agg ds,_,h=>by
  unfold Dk at *
  obtain⟨vs,h1,h2,h3⟩:=h
  exact⟨vs,h1,h2,Cj.turn ho hi hb hm ds vs h3⟩
 | .tup ds,_,h=>by
  unfold Dk at *
  obtain⟨vs,h1,h3⟩:=h
  exact⟨vs,h1,Cj.turn ho hi hb hm ds vs h3⟩
 | .clo _ _ ds,_,h=>by
  unfold Dk at *
  obtain⟨vs,h1,h3⟩:=h
  exact⟨vs,h1,Cj.turn ho hi hb hm ds vs h3⟩
theorem Cj.turn (ho:w.heap[D]?=some o) (hi:bX o=true) (hb:∀ b,b≠D->w'.heap[b]?=w.heap[b]?) (hm:∀ b,S b->S' b):∀ (ds:List DV) (vs:List Value),Cj ρ S w ds vs->Cj ρ S' w' ds vs
 | [],_,h=>by unfold Cj at *; exact h
 | d :: ds,_,h=>by
  unfold Cj at *
  obtain⟨u,us,h1,h2,h3⟩:=h
  exact⟨u,us,h1,Dk.turn ho hi hb hm d u h2,Cj.turn ho hi hb hm ds us h3⟩
end
theorem U2.turn {cx cx':Cx} {v:Value} {lb:LB} (h:U2 cx ρ S w v lb) (ho:w.heap[D]?=some o) (hi:bX o=true) (hb:∀ b,b≠D->w'.heap[b]?=w.heap[b]?) (hm:∀ b,S b->S' b)
  (h0:∀ b,cx.w0.heap.size<=b\/cx.M b->cx'.w0.heap.size<=b\/cx'.M b):U2 cx' ρ S' w' v lb:=by
 cases lb with
 | box ds ty=>
  obtain⟨b',vs,rfl,h2,h3,h4,h5⟩:=h
  exact⟨b',vs,rfl,(hb b' (dV ho hi h2 rfl)).trans h2,h0 _ h3,h4,Cj.turn ho hi hb hm ds vs h5⟩
 | row e sz cs=>
  obtain⟨n,us,hr,hM,hu⟩:=h
  refine⟨n,us,⟨hr.1,?_⟩,fun b hbk=>h0 _ (hM b hbk),⟨hu.1,fun j c u h1 h2=>Ga.turn ho hi hb hm c u (hu.2 j c u h1 h2)⟩⟩
  rcases hr.2 with h1 | ⟨g,cap,cur,rfl,h1,h2,h3⟩
  ·exact .inl h1
  ·exact .inr ⟨g,cap,cur,rfl,h1,(hb g (dV ho hi h2 rfl)).trans h2,h3⟩
 | map l=>
  obtain⟨g,rfl,h2,h3⟩:=h
  refine⟨g,rfl,h2.keep (hb g ?_),h0 _ h3⟩
  obtain⟨es,h4,-⟩:=h2
  exact dV ho hi h4 rfl
 | mit k n seen=>
  obtain⟨b',g,rfl,h1,h2,h3⟩:=h
  exact⟨b',g,rfl,h1,(hb b' (dV ho hi h2 rfl)).trans h2,h0 _ h3⟩
 | vec ds e=>
  obtain⟨b',vs,rfl,h1,h2,h3,h4,h5⟩:=h
  exact⟨b',vs,rfl,h1,(hb b' (dV ho hi h2 rfl)).trans h2,h0 _ h3,h4,Cj.turn ho hi hb hm ds vs h5⟩
 | lop ts ds N rc=>
  obtain⟨b',tm,rfl,h1,h2,h3,h4⟩:=h
  exact⟨b',tm,rfl,(hb b' (fun e=>by rw [e,ho] at h1; cases h1; cases hi)).trans h1,h0 _ h2,h3,Cj.turn ho hi hb hm ds _ h4⟩
end
section
variable {cx:Cx} {ρ:Nat->Value} {σ:St} {a:Act} {w:World}
theorem Fg.turn (h:Fg cx ρ σ a w) {D:Nat} {o:Obj} (ho:w.heap[D]?=some o) (hi:bX o=true) {w' w0':World} {ds:List Deferred} (hsz:w'.heap.size=w.heap.size) (hb:∀ b,b≠D->w'.heap[b]?=w.heap[b]?) (h0:w0'.heap.size=cx.w0.heap.size)
  (hk:Cx.Kept { cx with w0:=w0' } w') (hds:ds.Pairwise (·≠·)) (hd:∀ d∈ds,d∈a.defers/\d≠{ target:=.collected D,args:=#[] }) (hglo:uK cx.I w0'/\∀ b,cx.I b->b < w0'.heap.size/\¬ Cx.M { cx with w0:=w0' } b):Fg { cx with w0:=w0' } ρ σ { a with defers:=ds } w':=by
 have hI:∀ b,O1 cx σ ρ w b->O1 { cx with w0:=w0' } σ ρ w' b:=fun b q=>⟨by rw [hsz]; exact q.1,q.2.1,fun hlt=>q.2.2 (by rw [<- h0]; exact hlt)⟩
 refine⟨⟨hds,fun d q=>?_⟩,h.size,hk,fun t d q=>Dk.turn ho hi hb hI d _ (h.fr t d q),fun k lb q=>(h.lo k lb q).turn ho hi hb hI (fun b q=>?_),h.sep,h.usedF,h.usedL,h.pin,fun k lb b q1 q2 q3=>?_,hglo⟩
 ·obtain⟨q1,q2⟩:=hd d q
  obtain⟨D',rfl,q3,q4,q5⟩:=h.defers.2 d q1
  refine⟨D',rfl,hI D' q3,by rw [show ({ cx with w0:=w0' }:Cx).w0=w0' from rfl,h0]; exact q4,(hb D' ?_).trans q5⟩
  rintro rfl
  exact q2 rfl
 ·rw [show ({ cx with w0:=w0' }:Cx).w0=w0' from rfl,h0]; exact q
 ·have:=h.fresh k lb b q1 q2 q3
  rw [show ({ cx with w0:=w0' }:Cx).w0=w0' from rfl,h0]; exact this
theorem Fg.close (h:Fg cx ρ σ a w) {d:Deferred} {ds:List Deferred} (hd:a.defers=d :: ds):∃ D,d={ target:=.collected D,args:=#[] }/\w.heap[D]?=some (.deferred (some []))/\Fg cx ρ σ { a with defers:=ds } (w.putObj D (.deferred none)):=by
 obtain⟨h1,h2⟩:=h.defers
 rw [hd] at h1 h2
 obtain⟨D,rfl,q1,q2,q3⟩:=h2 d (.head _)
 obtain⟨p1,p2⟩:=aYn.1 h1
 refine⟨D,rfl,q3,h.turn (w0':=cx.w0) q3 rfl (by simp) (fun b hb=>World.putObj_heap_other hb) rfl ?_ p2 (fun d hd'=>⟨by rw [hd]; exact .tail _ hd',fun e=>p1 d hd' e.symm⟩) h.glo⟩
 obtain⟨k1,k2,k3,k4,k5⟩:=h.kept
 exact⟨k1,k2,k3,by simpa using k4,fun b hb hM=>by rw [World.putObj_heap_other (show b≠D by have:cx.w0.heap.size<=D:=q2; have:b < cx.w0.heap.size:=hb; omega)]; exact k5 b hb hM⟩
end
end Go.Proofs.YtboglmbblmakjaaGreatDoor
