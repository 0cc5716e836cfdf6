import Derived.Test.YtboglmbblmakjaaGreatDoorED
import Derived.KernelRfl
import Derived.Test.YtboglmbblmakjaaGreatDoorPU
import Derived.Scope
set_option linter.unusedVariables false
set_option linter.unusedSimpArgs false
namespace Go.Proofs.YtboglmbblmakjaaGreatDoor
open Go.RowKit
section
variable {Q:Exit->St->Prop} {next:St->Prop} {σ:St} {i j:Nat}
theorem aEo (h:Q .normal σ):inB i Q (.exit i) σ:=by
 show (if i=i then _ else _)
 rw [if_pos rfl]
 exact h
theorem yZ (hne:j≠i) (h:Q (.exit j) σ):inB i Q (.exit j) σ:=by
 show (if j=i then _ else _)
 rw [if_neg hne]
 exact h
end
theorem aJ2 {P:Program} {t ty:TypeId} {s:ByteArray} (h:P.underlying t=some .string):∀ w,∀ cs,(builtin .len #[t] ty cs #[.string s]).run P w=.ok (.value (.int .i64 s.size)) w:=fun w cs=>by
 simp [builtin,Builtin.len_,run_underlying h,goInt]
theorem aLy {P:Program} {ts:Array TypeId} {ty:TypeId} {k:IntKind} {x y:Int}:∀ w,∀ cs,(builtin .min ts ty cs #[.int k x,.int k y]).run P w=.ok (.value (.int k (min x y))) w:=fun w cs=>by
 simp [builtin,Builtin.min_,Builtin.min2,go_sem]
 split <;> omega
section
variable {P:Program} {t:TypeId} {X Y:Operand}
end
section
variable {P:Program} {t:TypeId} {X Y:Operand} {k:IntKind} {x y:Int}
end
section
variable {P:Program} {t:TypeId} {X Y:Operand} {a b:ByteArray}
end
theorem H3 {θ:List (Nat×Nat)} {j:Nat} (h:(θ.all fun q=>!Nat.beq q.2 j)=true):∀ k,G1 θ k≠some j:=fun k hk=>by
 have:=aGo.1 h _ (Jn hk)
 simp at this
theorem Ba {P:Program} {cx:Cx} {x y:Code} {Q:Exit->St->Prop} {σ:St} {ι:Type} (mid:ι->St) (ok:ι->Prop) (hx:Kb P cx x (thn (fun σ'=>∃ i,ok i/\Rs cx σ' (mid i)) Q) σ) (hy:∀ i,ok i->Kb P cx y Q (mid i)):Kb P cx (.seq x y) Q σ:=by
 refine Ar (aBl ?_ hx)
 intro e σ' h
 cases e with
 | normal=>
  obtain⟨i,h1,h2⟩:=h
  exact Gs h2 (hy i h1)
 | _=>exact h
end Go.Proofs.YtboglmbblmakjaaGreatDoor
namespace Go.Proofs.YtboglmbblmakjaaGreatDoor
open Go.RowKit
mutual
def nop (j:Nat):DV->Bool
 | .part k _ _=>!Nat.beq k j
 | .ptr k _=>!Nat.beq k j
 | .agg ds=>lO j ds
 | .tup ds=>lO j ds
 | .clo _ _ ds=>lO j ds
 | .val _=>true
 | .sl _ _=>true
 | .slc _ _=>true
 | .mp _=>true
 | .imm _=>true
 | .elt _=>true
 | .row _=>true
def lO (j:Nat):List DV->Bool
 | []=>true
 | d :: ds=>nop j d && lO j ds
end
mutual
def P2 (j sz:Nat) (cs:List C):DV->DV
 | .row k=>bif Nat.beq k j then .sl sz cs else .row k
 | .agg ds=>.agg (U3 j sz cs ds)
 | .tup ds=>.tup (U3 j sz cs ds)
 | .clo f n ds=>.clo f n (U3 j sz cs ds)
 | .val v=>.val v
 | .sl s c=>.sl s c
 | .slc s c=>.slc s c
 | .mp l=>.mp l
 | .imm c=>.imm c
 | .elt c=>.elt c
 | .part k o n=>.part k o n
 | .ptr k i=>.ptr k i
def U3 (j sz:Nat) (cs:List C):List DV->List DV
 | []=>[]
 | d :: ds=>P2 j sz cs d :: U3 j sz cs ds
end
def St.frz (σ:St) (j sz:Nat) (cs:List C):St where
 F:=fun t=>match σ.F t with | some d=>bif nop j d then some (P2 j sz cs d) else none | none=>none
 L:=fun k=>bif Nat.beq k j then none else match σ.L k with | some (.box ds ty)=>(bif lO j ds then some (.box (U3 j sz cs ds) ty) else none) | some (.row e s c)=>some (.row e s c) | _=>none
 U:=σ.U
theorem Ym {a b:Nat} (h:Nat.beq a b=false):a≠b:=fun e=>by
 subst e
 rw [aXq] at h; cases h
section
variable {σ:St} {j e sz:Nat} {cs:List C}
abbrev aDj (j:Nat) (k:Nat):Option Nat:=if k=j then none else some k
mutual
theorem Cv.frzD (h:σ.L j=some (.row e sz cs)):∀ d,nop j d=true->Cv σ (aDj j) d (Go.Proofs.YtboglmbblmakjaaGreatDoor.P2 j sz cs d)
 | .val v,_=>by unfold Go.Proofs.YtboglmbblmakjaaGreatDoor.P2; exact .val v
 | .sl _ _,_=>by unfold Go.Proofs.YtboglmbblmakjaaGreatDoor.P2; exact .sl _ _
 | .slc _ _,_=>by unfold Go.Proofs.YtboglmbblmakjaaGreatDoor.P2; exact .slcc _ _
 | .mp _,_=>by unfold Go.Proofs.YtboglmbblmakjaaGreatDoor.P2; exact .mp _
 | .imm _,_=>by unfold Go.Proofs.YtboglmbblmakjaaGreatDoor.P2; exact .imm _
 | .elt _,_=>by unfold Go.Proofs.YtboglmbblmakjaaGreatDoor.P2; exact .elt _
 | .row k,_=>by
  unfold Go.Proofs.YtboglmbblmakjaaGreatDoor.P2
  cases hb:Nat.beq k j with
  | true=>
   have:=aFs hb
   subst this
   refine .frz h fun k' hk'=>?_
   unfold aDj at hk'
   split at hk'
   ·cases hk'
   ·rename_i hne
    injection hk' with hk'
    exact hne hk'
  | false=>exact .row (if_neg (Ym hb))
 | .part k _ _,hn=>by
  unfold nop at hn
  unfold Go.Proofs.YtboglmbblmakjaaGreatDoor.P2
  exact .part (if_neg (Ym (by simpa using hn)))
 | .ptr k _,hn=>by
  unfold nop at hn
  unfold Go.Proofs.YtboglmbblmakjaaGreatDoor.P2
  exact .ptr (if_neg (Ym (by simpa using hn)))
 | .agg ds,hn=>by
  unfold nop at hn
  unfold Go.Proofs.YtboglmbblmakjaaGreatDoor.P2
  exact .agg (U5.frzDs h ds hn)
 | .tup ds,hn=>by
  unfold nop at hn
  unfold Go.Proofs.YtboglmbblmakjaaGreatDoor.P2
  exact .tup (U5.frzDs h ds hn)
 | .clo f n ds,hn=>by
  unfold nop at hn
  unfold Go.Proofs.YtboglmbblmakjaaGreatDoor.P2
  exact .clo f n (U5.frzDs h ds hn)
theorem U5.frzDs (h:σ.L j=some (.row e sz cs)):∀ ds,lO j ds=true->U5 σ (aDj j) ds (Go.Proofs.YtboglmbblmakjaaGreatDoor.U3 j sz cs ds)
 | [],_=>by unfold Go.Proofs.YtboglmbblmakjaaGreatDoor.U3; exact .nil
 | d :: ds,hn=>by
  unfold lO at hn
  simp only [aF5] at hn
  unfold Go.Proofs.YtboglmbblmakjaaGreatDoor.U3
  exact .cons (Cv.frzD h d hn.1) (U5.frzDs h ds hn.2)
end
mutual
theorem xD:∀ (d:DV) (k:Nat),men (P2 j sz cs d) k->men d k
 | .val _,k,h=>by unfold P2 men at h; exact h.elim
 | .sl _ _,k,h=>by unfold P2 men at h; exact h.elim
 | .slc _ _,k,h=>by unfold P2 men at h; exact h.elim
 | .mp _,k,h=>by unfold P2 men at h; exact h.elim
 | .imm _,k,h=>by unfold P2 men at h; exact h.elim
 | .elt _,k,h=>by unfold P2 men at h; exact h.elim
 | .row i,k,h=>by
  unfold P2 at h
  cases hb:Nat.beq i j with
  | true=>rw [hb] at h; simp only [aHj] at h; unfold men at h; exact h.elim
  | false=>rw [hb] at h; exact h
 | .part _ _ _,k,h=>by unfold P2 at h; exact h
 | .ptr _ _,k,h=>by unfold P2 at h; exact h
 | .agg ds,k,h=>by unfold P2 men at h; unfold men; exact Xi ds k h
 | .tup ds,k,h=>by unfold P2 men at h; unfold men; exact Xi ds k h
 | .clo _ _ ds,k,h=>by unfold P2 men at h; unfold men; exact Xi ds k h
theorem Xi:∀ (ds:List DV) (k:Nat),G9 (U3 j sz cs ds) k->G9 ds k
 | [],k,h=>by unfold U3 G9 at h; exact h.elim
 | d :: ds,k,h=>by
  unfold U3 G9 at h
  unfold G9
  exact h.imp (xD d k) (Xi ds k)
end
theorem aKl {t:Nat} {d':DV} (h:(σ.frz j sz cs).F t=some d'):∃ d,σ.F t=some d/\nop j d=true/\d'=P2 j sz cs d:=by
 have h':(match σ.F t with | some d=>bif nop j d then some (P2 j sz cs d) else none | none=>none)=some d':=h
 cases hF:σ.F t with
 | none=>rw [hF] at h'; cases h'
 | some d=>
  rw [hF] at h'
  cases hn:nop j d with
  | false=>simp only [hn,aE8] at h'; cases h'
  | true=>simp only [hn,aHj] at h'; injection h' with h'; exact⟨d,rfl,hn,h'.symm⟩
theorem aK5 {k:Nat} {lb':LB} (h:(σ.frz j sz cs).L k=some lb'):k≠j/\((∃ ds ty,σ.L k=some (.box ds ty)/\lO j ds=true/\lb'=.box (U3 j sz cs ds) ty)\/∃ e s c,σ.L k=some (.row e s c)/\lb'=.row e s c):=by
 have h':(bif Nat.beq k j then none else match σ.L k with | some (.box ds ty)=>(bif lO j ds then some (LB.box (U3 j sz cs ds) ty) else none) | some (.row e s c)=>some (.row e s c) | _=>none)=some lb':=h
 cases hb:Nat.beq k j with
 | true=>rw [hb] at h'; cases h'
 | false=>
  refine⟨Ym hb,?_⟩
  rw [hb] at h'
  simp only [aE8] at h'
  cases hL:σ.L k with
  | none=>rw [hL] at h'; cases h'
  | some lb=>
   rw [hL] at h'
   cases lb with
   | row e s c=>simp only [] at h'; injection h' with h'; exact .inr ⟨e,s,c,rfl,h'.symm⟩
   | map l=>cases h'
   | mit k' n s=>cases h'
   | lop=>cases h'
   | vec ds e=>cases h'
   | box ds ty=>
    simp only [] at h'
    cases hn:lO j ds with
    | false=>rw [hn] at h'; cases h'
    | true=>rw [hn] at h'; injection h' with h'; exact .inl ⟨ds,ty,rfl,hn,h'.symm⟩
theorem Rs.frz {cx:Cx} (h:σ.L j=some (.row e sz cs)) (hj:Nat.ble cx.np j=true):Rs cx σ (σ.frz j sz cs):=by
 rintro a w ⟨ρ,ha⟩
 have hj':cx.np<=j:=aC1 hj
 refine⟨_,(ha.ren (σ':=σ.frz j sz cs) (aDj j) (fun t d' hd=>?_) (fun k lb' hl=>?_) (fun k k' i h1 h2=>?_) (fun k hk=>⟨if_neg (by omega),(ha.pin k hk).2⟩) (fun t d k hd hm=>?_) (fun k lb hl=>?_)).1⟩
 ·obtain⟨d,h1,h2,rfl⟩:=aKl hd
  exact⟨d,h1,Cv.frzD h d h2⟩
 ·obtain⟨hne,h1⟩:=aK5 hl
  refine .inl ?_
  rcases h1 with ⟨ds,ty,h1,h2,rfl⟩ | ⟨e',s,c,h1,rfl⟩
  ·exact⟨k,_,if_neg hne,h1,rfl,U5.frzDs h ds h2⟩
  ·exact⟨k,_,if_neg hne,h1,rfl,rfl,rfl⟩
 ·unfold aDj at h1 h2
  split at h1
  ·cases h1
  ·split at h2
   ·cases h2
   ·injection h1 with h1
    injection h2 with h2
    omega
 ·obtain⟨d',h1,h2,rfl⟩:=aKl hd
  exact ha.usedF t d' k h1 (xD d' k hm)
 ·obtain⟨hne,h1⟩:=aK5 hl
  rcases h1 with ⟨ds,ty,h1,h2,rfl⟩ | ⟨e',s,c,h1,rfl⟩
  ·exact⟨(ha.usedL k _ h1).1,fun k' hk'=>(ha.usedL k _ h1).2 k' (Xi ds k' hk')⟩
  ·exact⟨(ha.usedL k _ h1).1,fun k' hk'=>hk'.elim⟩
end
section
variable {P:Program} {cx:Cx} {ops:Array Oper} {Q:Exit->St->Prop} {l:List Oper} {σ σ':St}
def P5 (P:Program) (cx:Cx) (ops:Array Oper) (Q:Exit->St->Prop) (l:List Oper) (σ:St):Prop:=∀ n a w,O8 cx σ a w->wpListIn (FW cx.rr) n P ops (Uk cx Q) l a w
theorem T9 {id:Nat} (h:P5 P cx l.toArray Q l σ):Kb P cx (.region id l.toArray false) Q σ:=fun n a w ha=>wpIn_region_lit (h n a w ha)
theorem P5.sub (h:Rs cx σ σ') (k:P5 P cx ops Q l σ'):P5 P cx ops Q l σ:=fun n a w ha=>k n a w (h a w ha)
theorem P5.fin (h:Q .normal σ):P5 P cx ops Q [] σ:=fun _ a w ha=>⟨σ,h,ha⟩
variable {S:Sys P cx} {nb nb':Nat}
theorem dH {nn:Nat} {l2:List Oper}:∀ (l:List Oper) (k:Nat) (lg:pF) (σ:St) (a:Act) (w:World),Chain S ops none nb (Ft k l) lg σ (fun σ'=>(∀ j,nb'<=j->σ'.U j=false)->P5 P cx ops Q l2 σ')->bU nb (Ft k l) σ->aCh cx (Ft k l)->(∀ j,nb'<=j->σ.U j=false)->nb + 8 * (k + l.length)<=nb'->O8 cx σ a w->wpListIn (FW cx.rr) nn P ops (Uk cx Q) (l ++ l2) a w
 | [],k,lg,σ,a,w,h,_,_,B,_,ha=>h B nn a w ha
 | o :: l,k,lg,σ,a,w,h,hf,hd,B,hn,⟨ρ,ha⟩=>by
  have hf0:=hf (k,o) (by simp [Ft])
  have hd0:=hd (k,o) (by simp [Ft])
  have hf1:bU nb (Ft (k + 1) l) σ:=fun q hq=>hf q (by simp [Ft,hq])
  have hd1:aCh cx (Ft (k + 1) l):=fun q hq=>hd q (by simp [Ft,hq])
  have hne:∀ q∈Ft (k + 1) l,q.1≠k:=fun q hq=>by have:=(Yd hq).1; omega
  have hn':nb + 8 * (k + 1 + l.length)<=nb':=by simp at hn; omega
  have hUn:∀ {e:Q6} {wr:List Nat} {rd:List Nat},(∀ j,e.l j≠none->j∈wr\/(nb + 8 * k<=j/\j < nb + 8 * k + 8))->(∀ j,j∈wr->j∈rd)->(∀ j,j∈rd->σ.U j=true)->∀ j,nb'<=j->(σ.app o.dst e).U j=false:=fun {e wr rd} hk hs hu j hj=>by
   cases hc:(σ.app o.dst e).U j with
   | false=>rfl
   | true=>
    rcases yG hc with h1 | h1
    ·rw [B j hj] at h1; cases h1
    ·rcases hk j h1 with h2 | h2
     ·exact absurd (hu j (hs j h2)) (by rw [B j hj]; simp)
     ·simp at hn; omega
  show wpListIn (FW cx.rr) nn P ops (Uk cx Q) (o :: (l ++ l2)) a w
  unfold wpListIn
  rcases h with ⟨rd,wr,e,h1,-,h3⟩ | ⟨rd,wr,E,h1,-,-,h3⟩
  ·have hs:=h1.sound ha hf0 hd0.1
   have:=hs (wpListIn (FW cx.rr) nn P ops (Uk cx Q) (l ++ l2)) (Uk cx Q) fun a' w' ha'=>dH l (k + 1) _ _ a' w' h3 (hf1.next h1.key.1 (fun j hj=>h1.used ha j (h1.key.2 j hj)) hne) hd1 (hUn h1.key.1 h1.key.2 (h1.used ha)) hn' ha'
   split
   ·rename_i hw
    rw [if_pos hw] at this
    exact mM hd0.2 this
   ·rename_i hw
    rw [if_neg hw] at this
    exact⟨fun _ _=>trivial,this⟩
  ·have:=h1.sound ha hf0 hd0.1 (wpListIn (FW cx.rr) nn P ops (Uk cx Q) (l ++ l2)) (Uk cx Q) fun e a' w' he ha'=>dH l (k + 1) _ _ a' w' (h3 e he) (hf1.next (h1.key.1 e he) (fun j hj=>h1.used ha j (h1.key.2 j hj)) hne) hd1 (hUn (h1.key.1 e he) h1.key.2 (h1.used ha)) hn' ha'
   split
   ·rename_i hw
    rw [if_pos hw] at this
    exact mM hd0.2 this
   ·rename_i hw
    rw [if_neg hw] at this
    exact⟨fun _ _=>trivial,this⟩
theorem P5.chain (S:Sys P cx) (m nb nb':Nat) (B:∀ k,nb<=k->σ.U k=false) (hn:Nat.ble (nb + 8 * (l.take m).length) nb'=true) (hd:oH cx.N (l.take m)=true)
  (h:Chain S ops none nb (Ft 0 (l.take m)) [] σ (fun σ'=>(∀ j,nb'<=j->σ'.U j=false)->P5 P cx ops Q (l.drop m) σ')):P5 P cx ops Q l σ:=by
 intro nn a w ha
 have hn':nb + 8 * (l.take m).length<=nb':=aC1 hn
 have:=dH (nn:=nn) (l2:=l.drop m) (l.take m) 0 [] σ a w h (fun q hq j hj=>B _ (by omega)) (dM hd) (fun j hj=>B j (by omega)) (by simpa using hn') ha
 rwa [aU3] at this
theorem rD {l2:List Oper} (h:(∀ j,nb'<=j->σ.U j=false)->P5 P cx ops Q l2 σ) {lg:pF} {i:Nat}:Chain S ops none nb (Ft i []) lg σ (fun σ'=>(∀ j,nb'<=j->σ'.U j=false)->P5 P cx ops Q l2 σ'):=h
end
section
variable {P:Program} {f:FuncId} {args:List DV}
theorem Fn.plain {v:Value} {R:DV->List LB->Prop} {vs:List Value} {w:World} (h:Fn P f 0 args [] R) (hR:∀ r b,R r b->r=.val v) (ρ:Nat->Value) (I:Nat->Prop) (hI:∀ b,I b->b < w.heap.size) (hgl:uK I w) (hr:Cj ρ I w args vs):Calls P f vs.toArray w fun e w'=>e=.returned v/\gK w w':=by
 refine (h.2.2 ρ I w vs ⟨fun b hb=>⟨hI b hb,fun k hk=>by simp at hk⟩,hgl⟩ hr (fun k lb h=>by simp at h) (fun k k' b hk=>by simp at hk)).mono ?_
 rintro e w' ⟨u,r,b,rfl,h1,h2⟩
 obtain⟨-,⟨o1,o2,o3,o4⟩,hk,⟨ρ',J,-,-,hrep,-⟩,-⟩:=h2
 rw [hR r b h1] at hrep
 unfold Dk at hrep
 rw [hrep.1]
 exact⟨rfl,o1,o2,o3,o4,fun b hb=>hk b hb fun k hk=>by simp at hk⟩
end
end Go.Proofs.YtboglmbblmakjaaGreatDoor
namespace Go.Proofs.YtboglmbblmakjaaGreatDoor
open Go.RowKit
def noG (Q:Exit->St->Prop):Exit->St->Prop
 | .normal,σ=>Q .normal σ
 | .exit i,σ=>Q (.exit i) σ
 | .goto _,_=>False
 | .ret,σ=>Q .ret σ
 | .panic c,σ=>Q (.panic c) σ
 | .outgrown,σ=>Q .outgrown σ
section
variable {P:Program} {b:Frame} {a:Act} {k:List Item} {cs:List Frame} {w:World} {Q:Exit->Act->World->Prop} {F:Fence} {n:Nat}
end
def Ac {α:Type} (f:α->List C) (l:List α):List C:=l.flatMap f
def eI (x:Int):List C:=[.int .i64 x]
def eK (k:IntKind) (x:Int):List C:=[.int k x]
def e8 (x:UInt8):List C:=[.int .u8 (x.toNat:Int)]
def eS (x:ByteArray):List C:=[.str x]
def eB (x:Bool):List C:=[.bool x]
def eL {α:Type} (sz:Nat) (f:α->List C) (l:List α):List C:=[.sl sz (Ac f l)]
theorem R7 (x:Int):(eI x).length=1:=rfl
theorem Jl (k:IntKind) (x:Int):(eK k x).length=1:=rfl
theorem aEf (x:UInt8):(e8 x).length=1:=rfl
theorem jO (x:ByteArray):(eS x).length=1:=rfl
theorem aM7 (x:Bool):(eB x).length=1:=rfl
theorem vO {α:Type} (sz:Nat) (f:α->List C) (l:List α):(eL sz f l).length=1:=rfl
section
variable {α:Type} {f:α->List C} {sz:Nat}
theorem H8 (hf:∀ x,(f x).length=sz):∀ (l:List α),(Ac f l).length=l.length * sz
 | []=>by simp [Ac]
 | x :: l=>by
  have:=H8 hf l
  unfold Ac at this ⊢
  rw [aNp,aF3,hf,this,aP9,aUs,bC8,Nat.add_comm]
theorem Pv (l m:List α):Ac f (l ++ m)=Ac f l ++ Ac f m:=by unfold Ac; rw [List.flatMap_append]
theorem Vr {l:List α} {j:Nat} {x:α} (hx:l[j]?=some x):Ac f l=Ac f (l.take j) ++ (f x ++ Ac f (l.drop (j + 1))):=by
 have hj:=(aBe.1 hx).1
 have hxe:=(aBe.1 hx).2
 have e1:l=l.take j ++ (x :: l.drop (j + 1)):=by
  rw [<- hxe,List.getElem_cons_drop,aU3]
 rw [show Ac f l=Ac f (l.take j ++ (x :: l.drop (j + 1))) from congrArg _ e1,Pv]
 rfl
theorem S4 (hf:∀ x,(f x).length=sz) {l:List α} {j:Nat} (hj:j<=l.length):(Ac f (l.take j)).length=j * sz:=by
 rw [H8 hf,aHg,aY9 hj]
theorem pQ (hf:∀ x,(f x).length=sz) {l:List α} {j:Nat} {x:α} (hx:l[j]?=some x):j * sz + sz<=(Ac f l).length:=by
 have hj:=(aBe.1 hx).1
 rw [H8 hf]
 have:(j + 1) * sz<=l.length * sz:=aS3 _ hj
 rw [aUs,bC8] at this
 exact this
theorem vV (hf:∀ x,(f x).length=sz) {l:List α} {j o:Nat} {x:α} (hx:l[j]?=some x) (ho:o < sz) {a:Nat} (ha:a=j * sz + o):a < (Ac f l).length:=by
 have:=pQ hf hx
 omega
theorem jT (hf:∀ x,(f x).length=sz) {l:List α} {j o:Nat} {x:α} (hx:l[j]?=some x) (ho:o<=sz):(Ac f l).drop (j * sz + o)=(f x).drop o ++ Ac f (l.drop (j + 1)):=by
 have hj:=(aBe.1 hx).1
 have ht:=S4 hf (l:=l) (j:=j) (by omega)
 rw [Vr hx,<- ht,<- bDd,List.drop_left,List.drop_append_of_le_length (by rw [hf]; exact ho)]
theorem G3 (hf:∀ x,(f x).length=sz) {l:List α} {j o:Nat} {x:α} {c:C} (hx:l[j]?=some x) (hc:(f x)[o]?=some c) {a:Nat} (ha:a=j * sz + o):(Ac f l)[a]?=some c:=by
 subst ha
 have ho:o < sz:=by rw [<- hf x]; exact (aBe.1 hc).1
 have e1:=jT hf hx (Nat.le_of_lt ho)
 have e2:(Ac f l)[j * sz + o]?=((Ac f l).drop (j * sz + o))[0]?:=by rw [aLf]; rfl
 rw [e2,e1,aF7 (by rw [aKq,hf]; omega),aLf]
 exact hc
theorem K9 (hf:∀ x,(f x).length=sz) {l:List α} {j o m:Nat} {x:α} {cs:List C} (hx:l[j]?=some x) (hs:((f x).drop o).take m=cs) (ho:o + m<=sz) {a:Nat} (ha:a=j * sz + o):((Ac f l).drop a).take m=cs:=by
 subst ha
 rw [jT hf hx (by omega),List.take_append_of_le_length (by rw [aKq,hf]; omega)]
 exact hs
theorem Fh (hf:∀ x,(f x).length=sz) {l:List α} {j o m:Nat} {x:α} (hx:l[j]?=some x) (ho:o + m<=sz) {a:Nat} (ha:a=j * sz + o):a + m<=(Ac f l).length:=by
 have:=pQ hf hx
 omega
theorem My (hf:∀ x,(f x).length=sz) {l:List α} {j o:Nat} {x x':α} {cs:List C} (hx:l[j]?=some x) (ho:o + cs.length<=sz) (hs:Fa (f x) o cs=f x') {a:Nat} (ha:a=j * sz + o):Fa (Ac f l) a cs=Ac f (Jd l j x'):=by
 subst ha
 have hj:=(aBe.1 hx).1
 have ht:=S4 hf (l:=l) (j:=j) (by omega)
 have hset:Ac f (Jd l j x')=Ac f (l.take j) ++ (f x' ++ Ac f (l.drop (j + 1))):=by
  have:(Jd l j x')[j]?=some x':=by unfold Jd; rw [List.getElem?_set_self hj]
  rw [Vr this]
  unfold Jd
  rw [List.take_set_of_le (aKp _),List.drop_set_of_lt (by omega)]
 rw [hset,<- hs]
 unfold Fa
 have e1:(Ac f l).take (j * sz + o)=Ac f (l.take j) ++ (f x).take o:=by
  rw [Vr hx,bDm,ht,aXt,aKz (by rw [ht]; omega)]
  congr 1
  rw [List.take_append_of_le_length (by rw [hf]; omega)]
 have e2:(Ac f l).drop (j * sz + o + cs.length)=(f x).drop (o + cs.length) ++ Ac f (l.drop (j + 1)):=by
  rw [Nat.add_assoc,jT hf hx ho]
 rw [e1,e2]
 simp only [aUu]
theorem nQ (hf:∀ x,(f x).length=sz) (l:List α) (i j:Nat) (hij:i<=j) (hj:j<=l.length):((Ac f l).drop (i * sz)).take ((j - i) * sz)=Ac f ((l.drop i).take (j - i)):=by
 have e0:Ac f l=Ac f (l.take i) ++ Ac f (l.drop i):=by rw [<- Pv,aU3]
 have e1:Ac f (l.drop i)=Ac f ((l.drop i).take (j - i)) ++ Ac f ((l.drop i).drop (j - i)):=by rw [<- Pv,aU3]
 rw [e0]
 have ht:=S4 hf (l:=l) (j:=i) (by omega)
 have hd:((Ac f (l.take i)) ++ Ac f (l.drop i)).drop (i * sz)=Ac f (l.drop i):=by rw [<- ht,List.drop_left]
 rw [hd,e1]
 have ht2:=S4 hf (l:=l.drop i) (j:=j - i) (by rw [aKq]; omega)
 rw [<- ht2,List.take_left]
end
theorem aT0 (l:List UInt8):Ac e8 l=Zp l:=by
 induction l with
 | nil=>rfl
 | cons x l ih=>
  show e8 x ++ Ac e8 l=_
  rw [ih]
  rfl
section
variable {P:Program} {tk:Nat} {t ty yt:TypeId} {X Y:Operand} {b1 b2:Option LB} {k:IntKind} {x y:Int}
theorem aUa:Ha P tk (.binOp .lss t X Y yt) ty [(.val (.int k x),b1),(.val (.int k y),b2)] [] (v0 (.val (.bool (decide (x < y))))):=.binOp (fun _ _=>rfl) aOp
theorem aQ2:Ha P tk (.binOp .leq t X Y yt) ty [(.val (.int k x),b1),(.val (.int k y),b2)] [] (v0 (.val (.bool (decide (x<=y))))):=.binOp (fun _ _=>rfl) aNe
theorem aQ1:Ha P tk (.binOp .gtr t X Y yt) ty [(.val (.int k x),b1),(.val (.int k y),b2)] [] (v0 (.val (.bool (decide (y < x))))):=.binOp (fun _ _=>rfl) aN7
theorem aSs:Ha P tk (.binOp .geq t X Y yt) ty [(.val (.int k x),b1),(.val (.int k y),b2)] [] (v0 (.val (.bool (decide (y<=x))))):=.binOp (fun _ _=>rfl) aN4
theorem aR4:Ha P tk (.binOp .eql t X Y yt) ty [(.val (.int k x),b1),(.val (.int k y),b2)] [] (v0 (.val (.bool (decide (x=y))))):=.binOp (fun _ _=>rfl) aP5
theorem aTy:Ha P tk (.binOp .neq t X Y yt) ty [(.val (.int k x),b1),(.val (.int k y),b2)] [] (v0 (.val (.bool (!decide (x=y))))):=.binOp (fun _ _=>rfl) (fun w=>by rw [aPp w,decide_not])
theorem mZ (x:Int):IntKind.i64.wrap x=W x:=by rw [IntKind.wrap_i64]; unfold W; omega
theorem okW (x:Int):G6 (.int .i64 (W x))=true:=M7.2 (U6 (xX x))
theorem aQr (x:Int):IntKind.u8.wrap x=((u8 x).toNat:Int):=by rw [IntKind.wrap_u8,qW]
theorem ok8 (x:UInt8):G6 (.int .u8 (x.toNat:Int))=true:=M7.2 (sA ⟨by omega,by have:=x.toNat_lt; omega⟩)
theorem aUb:Ha P tk (.binOp .add t X Y yt) ty [(.val (.int .i64 x),b1),(.val (.int .i64 y),b2)] [] (v0 (.val (.int .i64 (W (x + y))))):=.binOp (fun _ _=>okW _) (fun w=>by rw [aH4 w,mZ])
theorem aTp:Ha P tk (.binOp .sub t X Y yt) ty [(.val (.int .i64 x),b1),(.val (.int .i64 y),b2)] [] (v0 (.val (.int .i64 (W (x - y))))):=.binOp (fun _ _=>okW _) (fun w=>by rw [aGk w,mZ])
theorem aQf:Ha P tk (.binOp .mul t X Y yt) ty [(.val (.int .i64 x),b1),(.val (.int .i64 y),b2)] [] (v0 (.val (.int .i64 (W (x * y))))):=.binOp (fun _ _=>okW _) (fun w=>by rw [yI w,mZ])
theorem aDi (x y:Int):(x.tmod y).natAbs<=x.natAbs:=by
 rw [Int.natAbs_tmod]
 exact Nat.mod_le _ _
theorem tZ {x y:Int} (h:-9223372036854775808<=x/\x<=9223372036854775807):-9223372036854775808<=x.tmod y/\x.tmod y<=9223372036854775807:=by
 have h0:=aDi x y
 rcases Int.le_total 0 x with hx | hx
 ·have h1:=Int.tmod_nonneg y hx
  omega
 ·have e:x.tmod y=-((-x).tmod y):=by rw [Int.neg_tmod]; omega
  have h1:=Int.tmod_nonneg y (show 0<=-x by omega)
  omega
theorem aJh {n:Int} (h:G6 (.int .i64 n)=true):-9223372036854775808<=n/\n<=9223372036854775807:=by
 have:=M7.1 h
 have h1:IntKind.i64.min=-9223372036854775808:=by decide
 have h2:IntKind.i64.max=9223372036854775807:=by decide
 rw [h1,h2] at this
 exact this
theorem aQq {z:Int} (h:dW x y=some z):Ha P tk (.binOp .rem t X Y yt) ty [(.val (.int .i64 x),b1),(.val (.int .i64 y),b2)] [] (v0 (.val (.int .i64 z))):=by
 obtain⟨hy,rfl⟩:=zN h
 exact .binOp (fun h _=>M7.2 (U6 (tZ (aJh h)))) (aMr hy)
theorem aSm {z:Int} (h:cD x y=some z):Ha P tk (.binOp .quo t X Y yt) ty [(.val (.int .i64 x),b1),(.val (.int .i64 y),b2)] [] (v0 (.val (.int .i64 z))):=by
 obtain⟨hy,rfl⟩:=zJ h
 exact .binOp (fun _ _=>okW _) (fun w=>by rw [aN9 hy w,mZ])
theorem aSn {b:Bool}:Ha P tk (.unOp .not t X) ty [(.val (.bool b),b1)] [] (v0 (.val (.bool (!b)))):=.unOp (fun _=>rfl) aPf
theorem aP1 {a b:Bool} (ht:P.underlying t=some .bool):Ha P tk (.binOp .eql t X Y yt) ty [(.val (.bool a),b1),(.val (.bool b),b2)] [] (v0 (.val (.bool (decide (a=b))))):=.binOp (fun _ _=>rfl) (fun w=>by cases a <;> cases b <;> simp [eqGuard,binOp,Op.equal,Op.maxDepth,run_equalIn_bool',ht])
theorem aPh {a b:Bool} (ht:P.underlying t=some .bool):Ha P tk (.binOp .neq t X Y yt) ty [(.val (.bool a),b1),(.val (.bool b),b2)] [] (v0 (.val (.bool (!decide (a=b))))):=.binOp (fun _ _=>rfl) (fun w=>by cases a <;> cases b <;> simp [eqGuard,binOp,Op.equal,Op.maxDepth,run_equalIn_bool',ht])
theorem aMz {a b:ByteArray}:Ha P tk (.binOp .eql t X Y yt) ty [(.val (.string a),b1),(.val (.string b),b2)] [] (v0 (.val (.bool (decide (a=b))))):=.binOp (fun _ _=>rfl) aJv
theorem aNv {a b:ByteArray}:Ha P tk (.binOp .neq t X Y yt) ty [(.val (.string a),b1),(.val (.string b),b2)] [] (v0 (.val (.bool (!decide (a=b))))):=.binOp (fun _ _=>rfl) (fun w=>by rw [aJ0 w,decide_not])
theorem aFp:∀ (a b:List UInt8),Op.bytesLess a b=tP a b
 | _,[]=>by cases ‹List UInt8› <;> rfl
 | [],_ :: _=>rfl
 | a :: x,b :: y=>by unfold Op.bytesLess tP; rw [aFp x y]
theorem aQn {a b c:ByteArray} (h:aFv a b=some c):Ha P tk (.binOp .add t X Y yt) ty [(.val (.string a),b1),(.val (.string b),b2)] [] (v0 (.val (.string c))):=by
 obtain⟨h1,rfl⟩:=zW h
 refine .binOp (fun _ _=>Rq.2 ?_) (fun w=>?_)
 ·rw [ByteArray.size_append]; exact h1
 ·have h2:¬ (9223372036854775807:Int) < ((a.size:Int) + (b.size:Int)):=by omega
  have hm:IntKind.i64.max=9223372036854775807:=by decide
  simp [eqGuard,binOp,Op.stringOp,hm,h2]
theorem mJ {src dst:TypeId} (hs:P.underlying src=some (.int k)) (hd:P.underlying dst=some (.int .u8)):Ha P tk (.convert src dst X) ty [(.val (.int k x),b1)] [] (v0 (.val (.int .u8 ((u8 x).toNat:Int)))):=
 .conv (by unfold scT; rw [hs]) (by unfold scT; rw [hd]) (fun _=>ok8 _) (fun w=>by rw [oZ (by rw [hs]; rfl) hd w,aQr])
theorem uU {src dst:TypeId} (hs:P.underlying src=some (.int k)) (hd:P.underlying dst=some (.int .i64)):Ha P tk (.convert src dst X) ty [(.val (.int k x),b1)] [] (v0 (.val (.int .i64 (W x)))):=
 .conv (by unfold scT; rw [hs]) (by unfold scT; rw [hd]) (fun _=>okW _) (fun w=>by rw [oZ (by rw [hs]; rfl) hd w,mZ])
theorem Ya {src dst:TypeId} {u:UInt8} (hs:P.underlying src=some (.int .u8)) (hd:P.underlying dst=some (.int .i64)):Ha P tk (.convert src dst X) ty [(.val (.int .u8 (u.toNat:Int)),b1)] [] (v0 (.val (.int .i64 (u.toNat:Int)))):=
 .conv (by unfold scT; rw [hs]) (by unfold scT; rw [hd]) (fun _=>M7.2 (U6 ⟨by omega,by have:=u.toNat_lt; omega⟩)) (fun w=>by
  have:=u.toNat_lt
  rw [oZ (by rw [hs]; rfl) hd w,mZ,Hh (by omega)])
theorem aSc {ts:Array TypeId}:Ha P tk (.call ⟨.builtin .min,#[X,Y],ts⟩) ty [(.val (.int k x),b1),(.val (.int k y),b2)] [] (v0 (.val (.int k (min x y)))):=
 .callV2 (vx:=.int k x) (vy:=.int k y) (v:=.int k (min x y)) (by decide) (fun h h'=>by
  rcases Int.le_total x y with hxy | hxy
  ·rw [Int.min_eq_left hxy]; exact h
  ·rw [Int.min_eq_right hxy]; exact h') aLy
theorem aPc {ts:Array TypeId}:∀ w,∀ cs,(builtin .max ts ty cs #[.int k x,.int k y]).run P w=.ok (.value (.int k (max x y))) w:=fun w cs=>by
 simp [builtin,Builtin.max_,Builtin.max2,go_sem]
 split <;> omega
theorem aRe {ts:Array TypeId}:Ha P tk (.call ⟨.builtin .max,#[X,Y],ts⟩) ty [(.val (.int k x),b1),(.val (.int k y),b2)] [] (v0 (.val (.int k (max x y)))):=
 .callV2 (vx:=.int k x) (vy:=.int k y) (v:=.int k (max x y)) (by decide) (fun h h'=>by
  rcases Int.le_total x y with hxy | hxy
  ·rw [Int.max_eq_right hxy]; exact h'
  ·rw [Int.max_eq_left hxy]; exact h) aPc
theorem aGi {Z:Operand} {c:Bool} {d1 d2:DV} {b3:Option LB} (h:c=true):Ha P tk (.pick X Y Z) ty [(.val (.bool c),b1),(d1,b2),(d2,b3)] [] (v0 d1):=by subst h; exact .pick
theorem aH1 {Z:Operand} {c:Bool} {d1 d2:DV} {b3:Option LB} (h:c=false):Ha P tk (.pick X Y Z) ty [(.val (.bool c),b1),(d1,b2),(d2,b3)] [] (v0 d2):=by subst h; exact .pick
theorem cI {s:ByteArray} (h:P.underlying t=some .string):Ha P tk (.call ⟨.builtin .len,#[X],#[t]⟩) ty [(.val (.string s),b1)] [] (v0 (.val (.int .i64 (s.size:Int)))):=
 .callV1 (fun h=>M7.2 (U6 ⟨by omega,by have:=Rq.1 h; unfold maxLen at this; omega⟩)) (aJ2 h)
end
section
variable {P:Program} {tk:Nat} {t ty e sz bytes:Nat} {X Y:Operand} {b1 b2:Option LB} {α:Type} {f:α->List C} {l:List α} {n:Int} {k:IntKind} {j kr e':Nat} {x:α}
theorem aPr (h:Jf P t e sz bytes) (hf:∀ x,(f x).length=sz):Ha P tk (.call ⟨.builtin .len,#[X],#[t]⟩) ty [(.sl sz (Ac f l),b1)] [] (v0 (.val (.int .i64 (l.length:Int)))):=.len h.elem (.sl h.hsz (H8 hf l))
theorem aMc (h:Jf P t e sz bytes) (hf:∀ x,(f x).length=sz):Ha P tk (.call ⟨.builtin .len,#[X],#[t]⟩) ty [(.row kr,some (.row e' sz (Ac f l)))] [] (v0 (.val (.int .i64 (l.length:Int)))):=.len h.elem (.row h.hsz (H8 hf l))
theorem aFc (h:Jf P t e sz bytes) (hf:∀ x,(f x).length=sz) (hj:n=(j:Int)) (hx:l[j]?=some x):Ha P tk (.indexAddr t X Y) ty [(.sl sz (Ac f l),b1),(.val (.int k n),b2)] [] (v0 (.elt ((Ac f l).drop (j * sz)))):=.idxS h hj (pQ hf hx)
theorem aC0 (h:Jf P t e sz bytes) (hf:∀ x,(f x).length=sz) (hj:n=(j:Int)) (hx:l[j]?=some x):Ha P tk (.indexAddr t X Y) ty [(.row kr,some (.row e' sz (Ac f l))),(.val (.int k n),b2)] [] (v0 (.ptr kr (j * sz))):=.idxR h hj (pQ hf hx)
theorem nW {a m:Nat} {b1:Option LB} (h:Jf P t e sz bytes) (hj:n=(j:Int)) (hx:((l.drop a).take m)[j]?=some x):Ha P tk (.indexAddr t X Y) ty [(.part kr (a * sz) m,b1),(.val (.int k n),b2)] [] (v0 (.ptr kr ((a + j) * sz))):=by
 have hl:=(aBe.1 hx).1
 rw [aHg] at hl
 rw [aUs]
 exact .idxP h hj (by omega)
theorem gN {a m:Nat} (hx:((l.drop a).take m)[j]?=some x):l[a + j]?=some x:=by
 rw [aK0] at hx
 split at hx
 ·rwa [aLf] at hx
 ·cases hx
theorem Ja {s g off ft sz':Nat} {ag:Bool} {cs:List C} {a:Nat} (h:Fd P s g off ft) (ht:Ty P ft ag sz') (hz:0 < sz') (hl:a + off < cs.length):Ha P tk (.fieldAddr s X g) ty [(.elt (cs.drop a),b1)] [] (v0 (.elt (cs.drop (a + off)))):=by
 have:=Ha.fieldE (P:=P) (tk:=tk) (x:=X) (ty:=ty) (b:=b1) h ht hz (cs:=cs.drop a) (by rw [aKq]; omega)
 rwa [bDd] at this
theorem Eb {sz' a:Nat} {cs:List C} {c:C} (ht:Ty P t false sz') (h:cs[a]?=some c):Ha P tk (.load t X) ty [(.elt (cs.drop a),b1)] [] (v0 (Wx c)):=.loadE1 ht (by rw [aLf]; exact h)
theorem Kr {m a:Nat} {cs cs2:List C} (ht:Ty P t true m) (h:(cs.drop a).take m=cs2) (hl:a + m<=cs.length):Ha P tk (.load t X) ty [(.elt (cs.drop a),b1)] [] (v0 (.agg (cs2.map Wx))):=by
 subst h
 exact .loadEA ht (by rw [aKq]; omega)
theorem aCe {m a s:Nat} {cs cs2:List C} (ht:Ty P t true m) (h:(cs.drop a).take m=cs2) (hl:a + m<=cs.length):Ha P tk (.load t X) ty [(.ptr kr a,some (.row e' s cs))] [] (v0 (.agg (cs2.map Wx))):=by
 subst h
 exact .loadRA ht hl
theorem Qu {i s:Nat} {cs cs' cs2:List C} {ag:Bool} {d:DV} {sz':Nat} {ck:List (Option Nat)} (ht:Ty P t ag sz') (hs:(Ed d).length=sz') (hi:i + sz'<=cs.length) (hk:Jk P 20 t=ck) (hd:Mr ck (Ed d) cs') (h:Fa cs i cs'=cs2):Ha P tk (.store t X Y) ty [(.ptr kr i,some (.row e' s cs)),(d,b2)] [kr] (Sn kr (.row e' s cs2)):=by
 subst h
 exact .storeR ht hs hi hk hd
theorem Od {d d':DV×Option LB} {l' l2:List α} {ks:List Nat} {kk:Nat} {cs cs':List C} (hS:Jf P t e sz bytes) (hf:∀ x,(f x).length=sz) (ht:Tgt d e sz cs ks) (hc:cs=Ac f l) (hs:vK d' sz cs') (hc':cs'=Ac f l') (h:Hc kk l l'=some l2) (hk:sz * bytes=kk):Ha P tk (.call ⟨.builtin .append,#[X,Y],#[t,t]⟩) ty [d,d'] ks (Sq tk (.row e sz (Ac f l2)) ks (.row tk)):=by
 subst hc hc'
 obtain⟨h1,rfl⟩:=zG h
 rw [Pv]
 refine .append hS ht hs ?_
 rw [H8 hf,H8 hf,<- aUs,Nat.mul_assoc,hk]
 exact h1
theorem xG {ck:List (Option Nat)} {ds:List DV} {z:α} (h:Mr ck ds (f z)) (hk:ck.length=ds.length):∀ m,Mr (List.replicate m ck).flatten (List.replicate m ds).flatten (Ac f (List.replicate m z))
 | 0=>.nil
 | m + 1=>by
  have ih:=xG h hk m
  rw [aUj,aUj,aUj,aVk,aVk]
  show Mr _ _ (f z ++ Ac f (List.replicate m z))
  have app:∀ {k1:List (Option Nat)} {d1:List DV} {c1:List C},Mr k1 d1 c1->k1.length=d1.length->∀ {k2 d2 c2},Mr k2 d2 c2->Mr (k1 ++ k2) (d1 ++ d2) (c1 ++ c2):=by
   intro k1 d1 c1 h1
   induction h1 with
   | @nil ks=>intro hl k2 d2 c2 h2; have:ks=[]:=aF9 (by simpa using hl); subst this; exact h2
   | cons h hs ih=>intro hl k2 d2 c2 h2; exact .cons h (ih (by simpa using hl) h2)
  exact app h hk ih
theorem aM {z:List Value} {k':IntKind} {z0:α} {kk:Nat} {ck:List (Option Nat)} (hS:Jf P t e sz bytes) (hz:Zt P e z) (hk:Jk P 20 e=ck) (hd:Mr ck (z.map DV.val) (f z0)) (hl:ck.length=(z.map DV.val).length) (h:jI kk n z0=some l) (hkk:bytes=kk) (hxy:X=Y:=by rfl):Ha P tk (.makeSlice t X Y) ty [(.val (.int k n),b1),(.val (.int k' n),b2)] [] (Wp tk (.row e sz (Ac f l)) (.row tk)):=by
 obtain⟨m,rfl,h1,h2,rfl⟩:=aA9 h
 subst hkk
 exact .makeSl hS hz rfl ⟨h1,h2⟩ hk (xG hd hl m) hxy
section
variable {lo hi:Operand} {a b:Int} {ka kb:IntKind} {b3:Option LB} {m:List α}
theorem aOi (hS:Jf P t e sz bytes) (hf:∀ x,(f x).length=sz):Ha P tk (.slice t X none (some lo) (some hi)) ty [(.sl sz (Ac f l),b1),(.val (.int ka (l.length:Int)),b2),(.val (.int kb (l.length:Int)),b3)] [] (v0 (.slc sz (Ac f l))):=by
 have:=Ha.sliC (P:=P) (tk:=tk) (x:=X) (hi:=lo) (mx:=hi) (ty:=ty) (k:=ka) (k':=kb) (b:=b1) (b1:=b2) (b2:=b3) hS (H8 hf l) (aKp l.length)
 rwa [aKz (by rw [H8 hf]; exact aKp _)] at this
theorem yS (hS:Jf P t e sz bytes) (hf:∀ x,(f x).length=sz) (h:pY l a (l.length:Int)=some m):Ha P tk (.slice t X (some lo) none none) ty [(.sl sz (Ac f l),b1),(.val (.int ka a),b2)] [] (v0 (.sl sz (Ac f m))):=by
 obtain⟨i,j,rfl,hj,h1,h2,rfl⟩:=aA h
 have:j=l.length:=by omega
 subst this
 rw [<- nQ hf l i l.length h1 h2]
 exact .sliS hS (H8 hf l) ⟨⟨_,_,_,rfl,rfl⟩,rfl⟩ ⟨h1,h2⟩
theorem aAt (hS:Jf P t e sz bytes) (hf:∀ x,(f x).length=sz) (h:pY l 0 b=some m):Ha P tk (.slice t X none (some hi) none) ty [(.sl sz (Ac f l),b1),(.val (.int kb b),b2)] [] (v0 (.sl sz (Ac f m))):=by
 obtain⟨i,j,hi',rfl,h1,h2,rfl⟩:=aA h
 have:i=0:=by omega
 subst this
 rw [<- nQ hf l 0 j h1 h2]
 exact .sliS hS (H8 hf l) ⟨⟨_,_,_,rfl,rfl⟩,rfl⟩ ⟨h1,h2⟩
end
theorem aJg {src dst:TypeId} {s:ByteArray} (hs:P.underlying src=some .string) (hd:P.underlying dst=some (.slice e)) (he:P.underlying e=some (.int .u8)):Ha P tk (.convert src dst X) ty [(.val (.string s),b1)] [] (v0 (.sl 1 (Ac e8 (Q2 s)))):=by
 have:=Ha.convB (P:=P) (tk:=tk) (x:=X) (ty:=ty) (b:=b1) (s:=s) hs hd he
 rw [<- aT0] at this
 exact this
end
theorem yJ {k:IntKind} {l:List Int} {j:Nat} {x:Int} (h:l[j]?=some x):(l.map fun x=>DV.val (.int k x))[j]?=some (.val (.int k x)):=by rw [aKm,h]; rfl
theorem Cv.frzE {σ:St} {θ:Nat->Option Nat} {j e sz:Nat} {cs:List C} (h:σ.L j=some (.row e sz cs)) (h':(match σ.L j with | some _=>true | none=>false)=true) (hn:∀ k,θ k≠some j):Cv σ θ (.row j) (.sl sz cs):=.frz h hn
end Go.Proofs.YtboglmbblmakjaaGreatDoor
namespace Go.Proofs.YtboglmbblmakjaaGreatDoor
open Go.RowKit
mutual
theorem xM (f:Nat->Nat):∀ d,K0 d=[]->O4 f d=d
 | .row _,h=>by simp [K0] at h
 | .part _ _ _,h=>by simp [K0] at h
 | .ptr _ _,h=>by simp [K0] at h
 | .val _,_=>rfl
 | .sl _ _,_=>rfl
 | .slc _ _,_=>rfl
 | .mp _,_=>rfl
 | .imm _,_=>rfl
 | .elt _,_=>rfl
 | .agg ds,h=>by unfold K0 at h; unfold O4; rw [Tf f ds h]
 | .tup ds,h=>by unfold K0 at h; unfold O4; rw [Tf f ds h]
 | .clo _ _ ds,h=>by unfold K0 at h; unfold O4; rw [Tf f ds h]
theorem Tf (f:Nat->Nat):∀ ds,P0 ds=[]->Q8 f ds=ds
 | [],_=>rfl
 | d :: ds,h=>by
  unfold P0 at h
  have h1:=List.append_eq_nil_iff.1 h
  unfold Q8
  rw [xM f d h1.1,Tf f ds h1.2]
end
def dR:LB->List Nat
 | .box ds _=>P0 ds
 | .row ..=>[]
 | .map _=>[]
 | .mit k _ _=>[k]
 | .lop _ ds _ _=>P0 ds
 | .vec ds _=>P0 ds
theorem aIa (f:Nat->Nat) {lb:LB} (h:dR lb=[]):aAo f lb=lb:=by
 cases lb with
 | box ds ty=>
  show LB.box (Q8 f ds) ty=_
  rw [Tf f ds h]
 | row=>rfl
 | map=>rfl
 | mit=>cases h
 | lop ts ds N rc=>
  show LB.lop ts (Q8 f ds) N rc=_
  rw [Tf f ds h]
 | vec ds e=>
  show LB.vec (Q8 f ds) e=_
  rw [Tf f ds h]
def fI (ps gs:List Nat) (r:DV) (bx:List LB):Q6:=⟨some r,fun k=>match G1 (ps.zip bx) k with | some lb=>some (some lb) | none=>bif gs.any (Nat.beq k) then some none else none⟩
theorem sW {ps:List Nat} {tk:Nat}:∀ {l:List Nat} {b:List LB} {i:Nat},(∀ j,l[j]?=ps[i + j]?)->b.length=l.length->(∀ lb∈b,dR lb=[])->Yo ps tk i b=l.zip b
 | [],[],_,_,_,_=>rfl
 | x :: l,lb :: b,i,hl,hb,ht=>by
  unfold Yo
  have h0:=hl 0
  simp only [Nat.add_zero] at h0
  have e1:In ps tk i=x:=by
   unfold In
   rw [<- h0]
   rfl
  rw [e1,aIa _ (ht lb (aKw ..)),sW (l:=l) (fun j=>by have:=hl (j + 1); rw [show i + 1 + j=i + (j + 1) by omega,<- this]; rfl) (by simpa using hb) fun lb h=>ht lb (aIz _ h)]
  rfl
 | [],_ :: _,_,_,h,_=>by simp at h
 | _ :: _,[],_,_,h,_=>by simp at h
theorem gI {ps gs:List Nat} {tk:Nat} {r:DV} {b:List LB} (hr:K0 r=[]) (hl:b.length=ps.length) (hb:∀ lb∈b,dR lb=[]):P3 ps gs tk r b=fI ps gs r b:=by
 unfold P3 fI
 rw [xM _ _ hr,sW (l:=ps) (fun j=>by rw [aNm]) hl hb]
 rfl
section
variable {P:Program} {cx:Cx} {ops:Array Oper} {Rt:Option (List Nat)} {nb i:Nat} {l:List Oper} {lg:pF} {σ:St} {Q:St->Prop} {fz:List Nat}
theorem kX {dst:Option Tmp} {f:FuncId} {xs:Array Operand} {tys:Array TypeId} {ty:TypeId} {pos:String} {af:Array Edge} {g:Option (Nat×Bool)} {dsA:List (DV×Option LB)} {rd ps gs:List Nat} {args:List DV} {bx:List LB} {d:DV} {b:List LB} (fl:Bool)
  (G:Ly ops σ ⟨dst,.call ⟨.value (.func f),xs,tys⟩,ty,pos,af,g⟩=some true)
  (hF:Fn P f ps.length args bx (fun d' b'=>d'=d/\b'=b)) (hds:Gk σ true xs.toList=some dsA) (hrd:Ss σ 3 (Tz dsA)=rd) (hA:H1 fl (ps ++ gs) (Kz σ rd) (dsA.map (·.1)) args) (hB:Zv fl (ps ++ gs) (Kz σ rd) (ps ++ gs) bx) (hnd:O5 cx.np ps gs=true) (hfl:fl=true->Kl d/\∀ lb∈b,Pr lb)
  (hok:Nj Rt i true (nb + 8 * i) rd (ps ++ gs) lg=true) (hr:K0 d=[]) (hl:b.length=ps.length) (hb:b.flatMap dR=[])
  (k:Chain (E4 P cx fz) ops Rt nb (Ft (i + 1) l) ((i,true,nb + 8 * i,rd,ps ++ gs) :: lg) (σ.app dst (fI ps gs d b)) Q) :
  Chain (E4 P cx fz) ops Rt nb (Ft i (⟨dst,.call ⟨.value (.func f),xs,tys⟩,ty,pos,af,g⟩ :: l)) lg σ Q:=by
 refine Gt fl G hF hds hrd hA hB hnd (fun h r b=>?_) hok (fun _=>⟨_,_,⟨rfl,rfl⟩,by omega,by omega⟩) fun r b=>?_
 ·rintro⟨rfl,rfl⟩; exact hfl h
 ·rintro⟨rfl,rfl⟩
  rw [gI hr hl fun lb h=>?_]
  ·exact k
  ·have:=bCi.1 hb lb h
   exact this
theorem U8 {dst:Option Tmp} {t:Tmp} {f:FuncId} {q:Option LB} {xs:Array Operand} {tys:Array TypeId} {ty:TypeId} {pos:String} {af:Array Edge} {g:Option (Nat×Bool)} {dsA:List (DV×Option LB)} {rd ps gs:List Nat} {args:List DV} {bx:List LB} {d:DV} {b:List LB} (fl:Bool)
  (G:Ly ops σ ⟨dst,.call ⟨.value (.tmp t),xs,tys⟩,ty,pos,af,g⟩=some true) (hc:ev σ true (.tmp t)=some (.val (.func (.func f) #[] #[]),q))
  (hF:Fn P f ps.length args bx (fun d' b'=>d'=d/\b'=b)) (hds:Gk σ true xs.toList=some dsA) (hrd:Ss σ 3 (Tz dsA)=rd) (hA:H1 fl (ps ++ gs) (Kz σ rd) (dsA.map (·.1)) args) (hB:Zv fl (ps ++ gs) (Kz σ rd) (ps ++ gs) bx) (hnd:O5 cx.np ps gs=true) (hfl:fl=true->Kl d/\∀ lb∈b,Pr lb)
  (hok:Nj Rt i true (nb + 8 * i) rd (ps ++ gs) lg=true) (hr:K0 d=[]) (hl:b.length=ps.length) (hb:b.flatMap dR=[])
  (k:Chain (E4 P cx fz) ops Rt nb (Ft (i + 1) l) ((i,true,nb + 8 * i,rd,ps ++ gs) :: lg) (σ.app dst (fI ps gs d b)) Q) :
  Chain (E4 P cx fz) ops Rt nb (Ft i (⟨dst,.call ⟨.value (.tmp t),xs,tys⟩,ty,pos,af,g⟩ :: l)) lg σ Q:=by
 refine aFy fl G hc hF hds hrd hA hB hnd (fun h r b=>?_) hok (fun _=>⟨_,_,⟨rfl,rfl⟩,by omega,by omega⟩) fun r b=>?_
 ·rintro⟨rfl,rfl⟩; exact hfl h
 ·rintro⟨rfl,rfl⟩
  rw [gI hr hl fun lb h=>?_]
  ·exact k
  ·have:=bCi.1 hb lb h
   exact this
theorem F5 {dst:Option Tmp} {t:Tmp} {f:FuncId} {n:Nat} {cs:List DV} {q:Option LB} {xs:Array Operand} {tys:Array TypeId} {ty:TypeId} {pos:String} {af:Array Edge} {g:Option (Nat×Bool)} {dsA:List (DV×Option LB)} {rd ps gs:List Nat} {args:List DV} {bx:List LB} {d:DV} {b:List LB} (fl:Bool)
  (G:Ly ops σ ⟨dst,.call ⟨.value (.tmp t),xs,tys⟩,ty,pos,af,g⟩=some true) (hc:ev σ true (.tmp t)=some (.clo f n cs,q))
  (hF:Fn P f ps.length args bx (fun d' b'=>d'=d/\b'=b)) (hds:Gk σ true xs.toList=some dsA) (hrd:Ss σ 3 (P0 cs ++ Tz dsA)=rd) (hA:H1 fl (ps ++ gs) (Kz σ rd) (cs.take n ++ (dsA.map (·.1) ++ cs.drop n)) args) (hB:Zv fl (ps ++ gs) (Kz σ rd) (ps ++ gs) bx) (hnd:O5 cx.np ps gs=true) (hfl:fl=true->Kl d/\∀ lb∈b,Pr lb)
  (hok:Nj Rt i true (nb + 8 * i) rd (ps ++ gs) lg=true) (hr:K0 d=[]) (hl:b.length=ps.length) (hb:b.flatMap dR=[])
  (k:Chain (E4 P cx fz) ops Rt nb (Ft (i + 1) l) ((i,true,nb + 8 * i,rd,ps ++ gs) :: lg) (σ.app dst (fI ps gs d b)) Q) :
  Chain (E4 P cx fz) ops Rt nb (Ft i (⟨dst,.call ⟨.value (.tmp t),xs,tys⟩,ty,pos,af,g⟩ :: l)) lg σ Q:=by
 refine kU fl G hc hF hds hrd hA hB hnd (fun h r b=>?_) hok (fun _=>⟨_,_,⟨rfl,rfl⟩,by omega,by omega⟩) fun r b=>?_
 ·rintro⟨rfl,rfl⟩; exact hfl h
 ·rintro⟨rfl,rfl⟩
  rw [gI hr hl fun lb h=>?_]
  ·exact k
  ·have:=bCi.1 hb lb h
   exact this
theorem S3 {dst:Option Tmp} {t:Tmp} {nm:String} {t0:TypeId} {sz:Nat} {cs:List C} {q:Option LB} {f:FuncId} {tys:Array TypeId} {ty:TypeId} {pos:String} {af:Array Edge} {g:Option (Nat×Bool)} {d:DV}
  (G:Ly ops σ ⟨dst,.call ⟨.invoke (.tmp t) nm,#[],tys⟩,ty,pos,af,g⟩=some true) (hc:ev σ true (.tmp t)=some (.imm (.ifc t0 (.sl sz cs)),q))
  (hm:∀ v w,(Go.method (P.types.size + Made.depth) t0 v nm).run P w=.ok (f,v) w) (hF:Fn P f 0 [.sl sz cs] [] (fun d' b'=>d'=d/\b'=[]))
  (hok:Nj Rt i true (nb + 8 * i) [] [] lg=true) (hr:K0 d=[])
  (k:Chain (E4 P cx fz) ops Rt nb (Ft (i + 1) l) ((i,true,nb + 8 * i,[],[]) :: lg) (σ.app dst (fI [] [] d [])) Q) :
  Chain (E4 P cx fz) ops Rt nb (Ft i (⟨dst,.call ⟨.invoke (.tmp t) nm,#[],tys⟩,ty,pos,af,g⟩ :: l)) lg σ Q:=by
 refine aD0 G hc hm hF hok (fun _=>⟨_,_,⟨rfl,rfl⟩,by simp⟩) fun r b=>?_
 rintro⟨rfl,rfl⟩
 rw [gI hr rfl fun lb h=>by cases h]
 exact k
end
section
variable {P:Program} {tk:Nat} {t ty yt:TypeId} {X Y:Operand} {b1 b2:Option LB} {k k':IntKind} {x y:Int}
theorem S2 (k:IntKind) (z:Int):G6 (.int k (k.wrap z))=true:=by
 rw [M7]
 cases k <;> simp [IntKind.wrap,IntKind.bits,IntKind.signed,IntKind.min,IntKind.max] <;> (try split) <;> omega
theorem aB9:Ha P tk (.binOp .mul t X Y yt) ty [(.val (.int k x),b1),(.val (.int k y),b2)] [] (v0 (.val (.int k (k.wrap (x * y))))):=.binOp (fun _ _=>S2 _ _) yI
theorem uZ:Ha P tk (.binOp .and t X Y yt) ty [(.val (.int k x),b1),(.val (.int k y),b2)] [] (v0 (.val (.int k (W7 k x y)))):=.binOp (fun _ _=>S2 _ _) (fun w=>by simp [eqGuard,binOp,Op.intBits,W7])
theorem mC:Ha P tk (.binOp .or t X Y yt) ty [(.val (.int k x),b1),(.val (.int k y),b2)] [] (v0 (.val (.int k (cA k x y)))):=.binOp (fun _ _=>S2 _ _) (fun w=>by simp [eqGuard,binOp,Op.intBits,cA])
theorem aN0:Ha P tk (.unOp .neg t X) ty [(.val (.int k x),b1)] [] (v0 (.val (.int k (k.wrap (-x))))):=.unOp (fun _=>S2 _ _) aOc
theorem aPq:Ha P tk (.unOp .xor t X) ty [(.val (.int k x),b1)] [] (v0 (.val (.int k (aFn k x)))):=.unOp (fun _=>S2 _ _) (fun w=>by simp [Op.unary,Op.intBits,aFn,bS])
theorem Yn:Ha P tk (.binOp .andNot t X Y yt) ty [(.val (.int k x),b1),(.val (.int k y),b2)] [] (v0 (.val (.int k (Qn k x y)))):=.binOp (fun _ _=>S2 _ _) (fun w=>by simp [eqGuard,binOp,Op.intBits,Qn])
theorem aUx (a b:UInt8):cA .u8 (a.toNat:Int) (b.toNat:Int)=((a ||| b).toNat:Int):=by
 have h (c:UInt8):BitVec.ofInt 8 (c.toNat:Int)=c.toBitVec:=by
  apply BitVec.eq_of_toNat_eq
  simp
 show IntKind.u8.wrap ((BitVec.ofInt 8 (a.toNat:Int) ||| BitVec.ofInt 8 (b.toNat:Int)).toNat:Int)=_
 rw [h,h]
 have e:(a.toBitVec ||| b.toBitVec).toNat=(a ||| b).toNat:=rfl
 rw [e]
 have:=(a ||| b).toNat_lt
 simp only [IntKind.wrap,IntKind.bits,IntKind.signed,Bool.false_and,aYk,if_false]
 omega
theorem aQ9 {a b:UInt8}:Ha P tk (.binOp .or t X Y yt) ty [(.val (.int .u8 (a.toNat:Int)),b1),(.val (.int .u8 (b.toNat:Int)),b2)] [] (v0 (.val (.int .u8 ((a ||| b).toNat:Int)))):=aUx a b ▸ mC
theorem lW {s r:ByteArray} {a b:Int} (h:eM s a b=some r):(0<=a/\a<=b/\b<=s.size)/\r=s.extract a.toNat b.toNat:=by
 unfold eM at h
 split at h
 ·rename_i hc
  injection h with h
  exact⟨hc,h.symm⟩
 ·cases h
theorem gY {s:ByteArray} {a b:Nat} (h:G6 (.string s)=true):G6 (.string (s.extract a b))=true:=by
 rw [Rq] at *
 rw [ByteArray.size_extract]
 omega
theorem aD7 {i j:Operand} {s r:ByteArray} {k k':IntKind} {a b:Int} {b3:Option LB} (ht:P.underlying t=some .string) (h:eM s a b=some r) :
  Ha P tk (.slice t X (some i) (some j) none) ty [(.val (.string s),b1),(.val (.int k a),b2),(.val (.int k' b),b3)] [] (v0 (.val (.string r))):=by
 obtain⟨⟨h0,h1,h2⟩,rfl⟩:=lW h
 refine .sliceS3 gY fun w=>?_
 rw [run_sliceAt_string (h:=ht)]
 have eb:(b.toNat:Int)=b:=Int.toNat_of_nonneg (by omega)
 simp [Instr.slice,run_underlying ht,Instr.sliceBounds,run_sliceBound,h0,h1,h2,eb,(by omega:0<=b)]
theorem aDp {i:Operand} {s r:ByteArray} {k:IntKind} {a:Int} (ht:P.underlying t=some .string) (h:eM s a (s.size:Int)=some r) :
  Ha P tk (.slice t X (some i) none none) ty [(.val (.string s),b1),(.val (.int k a),b2)] [] (v0 (.val (.string r))):=by
 obtain⟨⟨h0,h1,h2⟩,rfl⟩:=lW h
 refine .sliceS1 gY fun w=>?_
 rw [run_sliceAt_string (h:=ht)]
 simp [Instr.slice,run_underlying ht,Instr.sliceBounds,run_sliceBound,h0,h1]
theorem aLk:Ha P tk (.binOp .xor t X Y yt) ty [(.val (.int k x),b1),(.val (.int k y),b2)] [] (v0 (.val (.int k (bS k x y)))):=.binOp (fun _ _=>S2 _ _) (fun w=>by simp [eqGuard,binOp,Op.intBits,bS])
theorem aHn (k:IntKind):k.min<=0/\0<=k.max:=by cases k <;> decide
theorem sY {x d:Int} (hx:x<=0) (hd:0 < d):x / d<=0:=by
 rcases Int.lt_trichotomy (x / d) 0 with h | h | h
 ·omega
 ·omega
 ·exfalso
  have h1:=Int.mul_ediv_add_emod x d
  have h2:=Int.emod_nonneg x (show d≠0 by omega)
  have h3:d * 1<=d * (x / d):=Int.mul_le_mul_of_nonneg_left (by omega) (by omega)
  omega
theorem jE {z:Int} (h:Q3 k x y=some z):Ha P tk (.binOp .shr t X Y yt) ty [(.val (.int k x),b1),(.val (.int k' y),b2)] [] (v0 (.val (.int k z))):=by
 obtain⟨h0,rfl⟩:=zE h
 refine .binOp (fun hx _=>?_) (fun w=>by simp [eqGuard,binOp,Op.shift,h0])
 rw [M7] at hx ⊢
 have hm:=aHn k
 have hd:(0:Int) < 2 ^ min y.toNat k.bits:=Int.pow_pos (by omega)
 generalize (2:Int) ^ min y.toNat k.bits=d at hd
 rw [Int.fdiv_eq_ediv_of_nonneg _ (Int.le_of_lt hd)]
 rcases Int.le_total 0 x with hx0 | hx0
 ·have h1:=Int.ediv_nonneg hx0 (Int.le_of_lt hd)
  have h2:=Int.ediv_le_self d hx0
  omega
 ·have h1:x<=x / d:=by
   have:=Int.mul_ediv_add_emod x d
   have h3:=Int.emod_nonneg x (show d≠0 by omega)
   have h4:x / d<=0:=sY hx0 hd
   have h5:d * (x / d)<=1 * (x / d):=Int.mul_le_mul_of_nonpos_right (by omega) h4
   have h6:=Int.emod_lt_of_pos x hd
   by_cases h7:x / d=0
   ·omega
   ·have h8:x / d<=-1:=by omega
    have h9:(d - 1) * (x / d)<=(d - 1) * (-1):=Int.mul_le_mul_of_nonneg_left h8 (by omega)
    have h10:d * (x / d)=(d - 1) * (x / d) + x / d:=by rw [Int.sub_mul,Int.one_mul]; omega
    omega
  have h2:x / d<=0:=sY hx0 hd
  omega
theorem Zx {z:Int} (h:cE k x y=some z):Ha P tk (.binOp .shl t X Y yt) ty [(.val (.int k x),b1),(.val (.int k' y),b2)] [] (v0 (.val (.int k z))):=by
 obtain⟨h0,rfl⟩:=zV h
 exact .binOp (fun _ _=>S2 _ _) (fun w=>by simp [eqGuard,binOp,Op.shift,h0])
theorem aJs {src dst:TypeId} (hs:P.underlying src=some (.int k)) (hd:P.underlying dst=some (.int k')):Ha P tk (.convert src dst X) ty [(.val (.int k x),b1)] [] (v0 (.val (.int k' (k'.wrap x)))):=
 .conv (by unfold scT; rw [hs]) (by unfold scT; rw [hd]) (fun _=>S2 _ _) (oZ (by rw [hs]; rfl) hd)
theorem dU {s:ByteArray} {u:UInt8} (ht:P.underlying t=some .string) (h:Wo s x=some u):Ha P tk (.index t X Y) ty [(.val (.string s),b1),(.val (.int k x),b2)] [] (v0 (.val (.int .u8 (u.toNat:Int)))):=by
 unfold Wo at h
 split at h
 ·cases h
 ·rename_i h0
  have h1:0<=x:=by omega
  have hlt:=(aF8.1 h).1
  have hs:s[x.toNat]?=some u:=by
   have hlt':x.toNat < s.size:=hlt
   rw [getElem?_pos s x.toNat hlt']
   have:=(aF8.1 h).2
   exact congrArg some this
  exact .indexS (fun _ _=>ok8 _) (fun w=>by simp [Instr.index,asIntOf,run_underlying ht,h1,hs])
theorem aNa {a b:ByteArray}:Ha P tk (.binOp .geq t X Y yt) ty [(.val (.string a),b1),(.val (.string b),b2)] [] (v0 (.val (.bool (!tP (Q2 a) (Q2 b))))):=.binOp (fun _ _=>rfl) (fun w=>by
 simp [eqGuard,binOp,Op.stringOp,aFp,ByteArray.toList_eq,Q2])
end
section
variable {α:Type} {f:α->List C} {sz:Nat}
theorem Rj (hf:∀ x,(f x).length=sz) (h0:0 < sz) {l:List α} (h:Ac f l=[]):l=[]:=by
 have:=H8 hf l
 rw [h] at this
 rcases Nat.mul_eq_zero.1 this.symm with h1 | h1
 ·exact aF9 h1
 ·omega
end
section
variable {P:Program} {tk:Nat} {t ty e sz bytes:Nat} {X Y:Operand} {b1 b2 b3:Option LB} {α:Type} {f:α->List C} {l m:List α} {n:Int} {k ka kb:IntKind} {j kr e':Nat} {x:α} {lo hi:Operand} {a b:Int}
theorem aAx (hS:Jf P t e sz bytes) (hf:∀ x,(f x).length=sz) (h:pY l a (l.length:Int)=some m):Ha P tk (.slice t X (some lo) none none) ty [(.row kr,some (.row e' sz (Ac f l))),(.val (.int ka a),b2)] [] (v0 (.part kr (a.toNat * sz) ((l.length:Int).toNat - a.toNat))):=by
 obtain⟨i,j,rfl,hj,h1,h2,rfl⟩:=aA h
 have:j=l.length:=by omega
 subst this
 exact .sliR hS (H8 hf l) ⟨⟨_,_,_,rfl,rfl⟩,rfl⟩ ⟨h1,h2⟩
theorem mY (hS:Jf P t e sz bytes) (hf:∀ x,(f x).length=sz) (h:pY l 0 b=some m):Ha P tk (.slice t X none (some hi) none) ty [(.row kr,some (.row e' sz (Ac f l))),(.val (.int kb b),b3)] [] (v0 (.part kr ((0:Int).toNat * sz) (b.toNat - (0:Int).toNat))):=by
 obtain⟨i,j,hi',rfl,h1,h2,rfl⟩:=aA h
 have:i=0:=by omega
 subst this
 have e0:(0:Int).toNat * sz=0 * sz:=rfl
 exact .sliR hS (H8 hf l) ⟨⟨_,_,_,rfl,rfl⟩,rfl⟩ ⟨h1,h2⟩
theorem iA {sz:Nat}:∀ (ds:List DV) (k:Nat) (pre rest:List DV),pre.length=k * sz->rest.length=ds.length * sz->(∀ d∈ds,(Ed d).length=sz)->Pc (fun i=>some (i * sz,sz)) (pre ++ rest) ((List.range' k ds.length).zip ds)=some (pre ++ ds.flatMap Ed)
 | [],k,pre,rest,_,hr,_=>by
  have:rest=[]:=aF9 (by simpa using hr)
  subst this
  simp [Pc]
 | d :: ds,k,pre,rest,hp,hr,hd=>by
  have h0:=hd d (aKw ..)
  have hr':rest.length=ds.length * sz + sz:=by rw [hr,aP9,aUs,bC8]
  rw [aP9,List.range'_succ,List.zip_cons_cons]
  unfold Pc
  simp only []
  have c1:Nat.beq (Ed d).length sz=true:=by rw [h0]; exact aXq _
  have c2:Nat.ble (k * sz + sz) (pre ++ rest).length=true:=aUg (by rw [aF3,hp,hr']; omega)
  rw [c1,c2]
  simp only [Bool.and_self,aHj]
  have e1:Fa (pre ++ rest) (k * sz) (Ed d)=(pre ++ Ed d) ++ rest.drop sz:=by
   unfold Fa
   rw [h0,<- hp,List.take_left,<- bDd,List.drop_left,aUu]
  rw [e1,iA ds (k + 1) (pre ++ Ed d) (rest.drop sz) (by rw [aF3,hp,h0,aUs,bC8]) (by rw [aKq,hr']; omega) fun x hx=>hd x (aIz _ hx)]
  rw [aNp,aUu]
theorem Fm {len:Nat} {parts:Array (Nat×Operand)} {ds:List (DV×Option LB)} {z:List Value} {cs:List C} {ck:List (Option Nat)} (hS:Jf P t e sz bytes) (hz:Zt P e z) (hlen:len * sz<=16777216) (hp:parts.toList.map (·.1)=List.range' 0 len) (hzl:z.length=sz) (hn:ds.length=len) (hs:ds.all (fun q=>Nat.beq (Ed q.1).length sz)=true) (hk:Jk P 20 e=ck) (hc:Mr (List.replicate len ck).flatten (ds.flatMap fun q=>Ed q.1) cs) (ho:ds.all (fun q=>(Ed q.1).all kY)=true) (h:Ac f l=cs):Ha P tk (.buildSlice t len parts) ty ds [] (Wp tk (.row e sz (Ac f l)) (.row tk)):=by
 subst h
 refine .buildSl hS hz hlen ?_ hk hc ho
 have hd:=iA (sz:=sz) (ds.map (·.1)) 0 [] ((List.replicate len (z.map DV.val)).flatten) (by simp) (by simp [hzl,hn]) fun d hd=>by
  obtain⟨q,hq,rfl⟩:=aP8.1 hd
  exact aFs (aGo.1 hs q hq)
 rw [aVl,aVl,bD2,hn] at hd
 rw [hp,hd]
 congr 1
 rw [List.flatMap_map]
theorem aB6 {i bt sz':Nat} {ds ds':List DV} {ag:Bool} {d:DV} {kk:Nat} (ht:Ty P t ag sz') (hs:(Ed d).length=sz') (hi:i + sz'<=ds.length) (ho:(Ed d).all kY=true) (h:Fa ds i (Ed d)=ds'):Ha P tk (.store t X Y) ty [(.ptr kk i,some (.box ds bt)),(d,b2)] [kk] (Sn kk (.box ds' bt)):=by
 subst h
 exact .storeB ht hs hi ho
theorem nM {tk2:Nat} {m':Nat} {ds:List DV} {L:List α} (ht:P.underlying t=some (.array m' e)) (he:Ty P e true sz) (hf:∀ x,(f x).length=sz) (hds:ds=(Ac f L).map Wx) (hL:L.length=m') (hx:Bn L n=some x) {d2:List DV} (h2:(f x).map Wx=d2):Ha P tk2 (.index t X Y) ty [(.agg ds,b1),(.val (.int k n),b2)] [] (v0 (.agg d2)):=by
 have hx':=Cf hx
 refine .indexAA ht he (L0 hx) (by rw [<- hL]; exact (aBe.1 hx').1) ?_
 rw [hds,<- List.map_drop,<- List.map_take,<- h2]
 congr 1
 exact K9 hf hx' (o:=0) (by rw [bDb]; exact aKz (bB3 (hf _))) (by omega) rfl
end
def eA {α:Type} [Inhabited α] (n:Nat) (f:α->List C) (x:List α):List C:=(List.range n).flatMap fun i=>f (x[i]!)
theorem aNy {α:Type} [Inhabited α] {n sz:Nat} {f:α->List C} (hf:∀ x,(f x).length=sz) (x:List α):(eA n f x).length=n * sz:=by
 unfold eA
 induction n with
 | zero=>simp
 | succ n ih=>rw [List.range_succ,List.flatMap_append,aF3,ih,aNp,aUm,List.append_nil,hf,aUs,bC8]
class Stp (p:Prop) (q:outParam Prop):Prop where
 go:q->p
theorem st_ {p q:Prop} [s:Stp p q] (h:q):p:=s.go h
section
variable {next:St->Prop} {Q:Exit->St->Prop} {i:Nat} {σ:St}
instance:Stp (thn next Q .normal σ) (next σ):=⟨fun h=>h⟩
instance:Stp (thn next Q (.exit i) σ) (Q (.exit i) σ):=⟨fun h=>h⟩
instance:Stp (thn next Q .ret σ) (Q .ret σ):=⟨fun h=>h⟩
instance:Stp (inB i Q (.exit i) σ) (Q .normal σ):=⟨fun h=>aEo h⟩
instance:Stp (inB i Q .normal σ) (Q .normal σ):=⟨fun h=>h⟩
instance:Stp (inB i Q .ret σ) (Q .ret σ):=⟨fun h=>h⟩
instance:Stp (noG Q .normal σ) (Q .normal σ):=⟨fun h=>h⟩
instance:Stp (noG Q (.exit i) σ) (Q (.exit i) σ):=⟨fun h=>h⟩
instance:Stp (noG Q .ret σ) (Q .ret σ):=⟨fun h=>h⟩
end
class zQ (p:Prop) (q:outParam Prop):Prop where
 go:q->p
instance (priority:=low) stpN_nil (p:Prop):zQ p p:=⟨fun h=>h⟩
instance aQc {p p' q:Prop} [s:Stp p p'] [t:zQ p' q]:zQ p q:=⟨fun h=>s.go (t.go h)⟩
theorem tQ {P:Program} {cx:Cx} {Q:Exit->St->Prop} {σ:St} {q:Prop} [s:zQ (Q .ret σ) q] (h:q):Kb P cx .ret Q σ:=aP (s.go h)
theorem sn_ {Q:Exit->St->Prop} {i j:Nat} {σ:St} (h:Q (.exit j) σ) (hne:j≠i:=by decide):inB i Q (.exit j) σ:=yZ hne h
theorem Q1 {P:Program} {cx:Cx} {id:Nat} {l:List Oper} {σ:St} {y:Code} {Q:Exit->St->Prop} (nb nb':Nat) (B:∀ k,nb<=k->σ.U k=false)
  (h:Chain (E4 P cx []) l.toArray none nb (Ft 0 l) [] σ (fun σ'=>(∀ j,nb'<=j->σ'.U j=false)->thn (Kb P cx y Q) Q .normal σ')) (hn:Nat.ble (nb + 8 * l.length) nb'=true:=by rfl) (hd:oH cx.N l=true:=by rfl):Kb P cx (.seq (.region id l.toArray false) y) Q σ:=
 Ar (B7 (E4 _ _ []) nb nb' B hn hd h)
section
variable {P:Program} {cx:Cx} {ops:Array Oper} {Rt:Option (List Nat)} {nb i:Nat} {l:List Oper} {lg:pF} {σ:St} {Q:St->Prop} {fz:List Nat}
theorem Xu {Q:Exit->St->Prop} {nb':Nat} {q:Prop} [s:zQ (Q .normal σ) q] (h:(∀ j,nb'<=j->σ.U j=false)->q):Chain (E4 P cx fz) ops Rt nb (Ft i []) lg σ (fun σ'=>(∀ j,nb'<=j->σ'.U j=false)->Q .normal σ'):=aWh fun B=>s.go (h B)
theorem Ex {dst:Option Tmp} {op:Op} {ty:TypeId} {pos:String} {af:Array Edge} {g:Option (Nat×Bool)} {ds:List (DV×Option LB)} {wr:List Nat} {e:Q6} (G:Ly ops σ ⟨dst,op,ty,pos,af,g⟩=some true) (hds:Gk σ (Mp op) op.operands.toList=some ds) (h:Ha P (nb + 8 * i) op ty ds wr e)
  (hrd:(bif Mp op then Ol (Po op) ds else [])=[]) (hok:Nj Rt i false (nb + 8 * i) [] wr lg=true) (k:Chain (E4 P cx fz) ops Rt nb (Ft (i + 1) l) ((i,false,nb + 8 * i,[],wr) :: lg) (σ.app dst e) Q) (hz:zM fz (nb + 8 * i)=0:=by rfl) (hap:Sl cx.np op wr=true:=by rfl) :
  Chain (E4 P cx fz) ops Rt nb (Ft i (⟨dst,op,ty,pos,af,g⟩ :: l)) lg σ Q:=Lk (rd:=[]) G hds h hrd hok k hz hap
end
end Go.Proofs.YtboglmbblmakjaaGreatDoor
namespace Go.Proofs.YtboglmbblmakjaaGreatDoor
open Go.RowKit
theorem Xl:∀ {d:DV} {k:Nat},men d k->k∈K0 d
 | .row _,k,h=>by simpa [K0,men] using h
 | .part _ _ _,k,h=>by simpa [K0,men] using h
 | .ptr _ _,k,h=>by simpa [K0,men] using h
 | .agg ds,k,h=>by unfold men at h; unfold K0; exact menL_dtoks h
 | .tup ds,k,h=>by unfold men at h; unfold K0; exact menL_dtoks h
 | .clo _ _ ds,k,h=>by unfold men at h; unfold K0; exact menL_dtoks h
 | .val _,k,h=>by unfold men at h; exact h.elim
 | .sl _ _,k,h=>by unfold men at h; exact h.elim
 | .slc _ _,k,h=>by unfold men at h; exact h.elim
 | .mp _,k,h=>by unfold men at h; exact h.elim
 | .imm _,k,h=>by unfold men at h; exact h.elim
 | .elt _,k,h=>by unfold men at h; exact h.elim
where
 menL_dtoks:∀ {ds:List DV} {k:Nat},G9 ds k->k∈P0 ds
 | [],k,h=>by unfold G9 at h; exact h.elim
 | d :: ds,k,h=>by
  unfold G9 at h
  unfold P0
  rcases h with h | h
  ·exact aPy _ (Xl h)
  ·exact aQo _ (menL_dtoks h)
theorem Rs.cut {cx:Cx} {σ σ':St} {t k n e sz:Nat} {cs:List C} (hk:cx.np<=k) (hF:σ.F t=some (.part k 0 n)) (hL:σ.L k=some (.row e sz cs)) (hn:n * sz<=cs.length)
  (hF':∀ s d,σ'.F s=some d->(d=.row k/\s=t)\/(σ.F s=some d/\¬ men d k)) (hL':∀ j lb,σ'.L j=some lb->(j=k/\lb=.row e sz (cs.take (n * sz)))\/(j≠k/\σ.L j=some lb/\¬ Wt lb k)) (B:∀ j,σ'.U j=σ.U j):Rs cx σ σ':=by
 rintro a w ⟨ρ,h⟩
 obtain⟨N,us,q1,q0,q2⟩:=h.lo _ _ hL
 have hr:=h.fr _ _ hF
 unfold Dk at hr
 obtain⟨A,c,hv,hnc,hc,hA,hB⟩:=hr
 have hlen:n * sz<=us.length:=by rw [<- q2.1]; exact hn
 have hblk:∀ b,Dg (a.tmps.getD t undef)=some b->Dg (ρ k)=some b:=fun b hb=>by
  rcases q1.2 with ⟨A',e,-⟩ | ⟨g',cap,cur,e,r1,-⟩
  ·obtain⟨t1,t2⟩:=hB rfl _ _ _ e
   rw [hv,t2] at hb
   cases A <;> cases hb
  ·obtain⟨t1,t2⟩:=hB rfl _ _ _ e
   rw [hv,t1] at hb
   rw [e,Pt r1,(Ks hb).1]
 have hown:w.rowOk e sz (a.tmps.getD t undef) n (us.take (n * sz)):=by
  refine⟨by rw [aHg]; omega,?_⟩
  rcases q1.2 with ⟨A',e,q3⟩ | ⟨g,cap,cur,e,r1,r2,r3,r4,r5,r6⟩
  ·obtain⟨t1,t2⟩:=hB rfl _ _ _ e
   refine .inl ⟨A',by rw [hv,t1,t2]; congr 1; omega,by omega⟩
  ·obtain⟨t1,t2⟩:=hB rfl _ _ _ e
   refine .inr ⟨g,cap,cur,by rw [hv,t1,t2],r1,r2,by omega,r4,r5,?_⟩
   have hle:n * sz<=N * sz:=by rw [<- q1.1]; exact hlen
   rw [<- r6,bD4,aY9 hle]
 let ρ':Nat->Value:=fun j=>if j=k then a.tmps.getD t undef else ρ j
 have hk':ρ' k=a.tmps.getD t undef:=if_pos rfl
 have ho:∀ j,j≠k->ρ' j=ρ j:=fun j hj=>if_neg hj
 have loc:∀ j lb b,σ'.L j=some lb->Dg (ρ' j)=some b->∃ lb',σ.L j=some lb'/\Dg (ρ j)=some b:=fun j lb b hj hb=>by
  rcases hL' j lb hj with ⟨rfl,-⟩ | ⟨hne,h1,-⟩
  ·rw [hk'] at hb; exact⟨_,hL,hblk b hb⟩
  ·rw [ho j hne] at hb; exact⟨_,h1,hb⟩
 have hI:∀ b,O1 cx σ ρ w b->O1 cx σ' ρ' w b/\w.heap[b]?=w.heap[b]?:=fun b hb=>by
  refine⟨⟨hb.1,fun hl=>?_,hb.2.2⟩,rfl⟩
  obtain⟨j,lb,h1,h2⟩:=hl
  obtain⟨lb',h3,h4⟩:=loc j lb b h1 h2
  exact hb.2.1 ⟨j,lb',h3,h4⟩
 refine⟨ρ',⟨⟨h.defers.1,fun d hd=>(h.defers.2 d hd).imp fun D q=>⟨q.1,(hI D q.2.1).1,q.2.2⟩⟩,h.size,h.kept,fun s d hs=>?_,fun j lb hj=>?_,fun j j' lb lb' b h1 h2 h3 h4=>?_,fun s d j hs hm=>?_,fun j lb hj=>?_,fun j hj=>?_,fun j lb b hj hp hb=>?_,h.glo⟩⟩
 ·rcases hF' s d hs with ⟨rfl,rfl⟩ | ⟨h1,h2⟩
  ·unfold Dk
   rw [hk']
   refine⟨rfl,?_⟩
   rw [hv]; rfl
  ·exact Dk.step hI d _ (fun j hj=>ho j fun e=>h2 (e ▸ hj)) (h.fr _ _ h1)
 ·rcases hL' j lb hj with ⟨rfl,rfl⟩ | ⟨hne,h1,h2⟩
  ·rw [hk']
   refine⟨n,us.take (n * sz),hown,fun b hb=>q0 b (hblk b hb),?_⟩
   refine I1.keep_ (w:=w) ⟨by rw [aHg,aHg,q2.1],fun j c u a b=>?_⟩ (fun b hb=>rfl) fun b hb=>(hI b hb).1
   rw [aK0] at a b
   split at a
   ·rename_i hj
    rw [if_pos hj] at b
    exact q2.2 j c u a b
   ·cases a
  ·rw [ho j hne]
   exact (h.lo _ _ h1).step hI (fun j' hj'=>ho j' fun e=>h2 (e ▸ hj')) fun b _=>rfl
 ·obtain⟨_,e1,e2⟩:=loc _ _ _ h1 h3
  obtain⟨_,e3,e4⟩:=loc _ _ _ h2 h4
  exact h.sep _ _ _ _ _ e1 e3 e2 e4
 ·rw [B]
  rcases hF' s d hs with ⟨rfl,rfl⟩ | ⟨h1,h2⟩
  ·unfold men at hm
   subst hm
   exact (h.usedL _ _ hL).1
  ·exact h.usedF _ _ _ h1 hm
 ·rw [B]
  rcases hL' j lb hj with ⟨rfl,rfl⟩ | ⟨hne,h1,h2⟩
  ·exact⟨(h.usedL _ _ hL).1,fun k' hm=>hm.elim⟩
  ·exact⟨(h.usedL _ _ h1).1,fun k' hm=>by rw [B]; exact (h.usedL _ _ h1).2 k' hm⟩
 ·rw [B]
  exact⟨(ho j (by omega)).trans (h.pin j hj).1,(h.pin j hj).2⟩
 ·obtain⟨_,e1,e2⟩:=loc _ _ _ hj hb
  exact h.fresh _ _ _ e1 hp e2
def zY (t k:Nat):List (Nat×DV)->List (Nat×DV)
 | []=>[]
 | (s,d) :: l=>bif Nat.beq s t then (s,.row k) :: zY t k l else (s,d) :: zY t k l
def aAa (k:Nat) (lb:LB):List (Nat×LB)->List (Nat×LB)
 | []=>[]
 | (j,b) :: l=>bif Nat.beq j k then (j,lb) :: aAa k lb l else (j,b) :: aAa k lb l
def aS7 (t k:Nat) (fl:List (Nat×DV)) (ll:List (Nat×LB)):Bool:=
 fl.all (fun q=>Nat.beq q.1 t || !(K0 q.2).contains k) && ll.all (fun q=>Nat.beq q.1 k || !(dR q.2).contains k)
theorem eF {t k:Nat}:∀ {fl:List (Nat×DV)} {s:Nat} {d:DV},G1 (zY t k fl) s=some d->(s=t/\d=.row k)\/(s≠t/\G1 fl s=some d)
 | [],s,d,h=>by simp [zY,G1] at h
 | (s',d') :: l,s,d,h=>by
  unfold zY at h
  cases hb:Nat.beq s' t with
  | true=>
   rw [hb] at h
   simp only [aHj] at h
   have e0:=aFs hb
   unfold G1 at h
   cases hs:Nat.beq s s' with
   | true=>
    rw [hs] at h
    have:=aFs hs
    injection h with h
    exact .inl ⟨by omega,h.symm⟩
   | false=>
    rw [hs] at h
    rcases eF h with h | ⟨h1,h2⟩
    ·exact .inl h
    ·refine .inr ⟨h1,?_⟩
     unfold G1
     rw [hs]
     exact h2
  | false=>
   rw [hb] at h
   simp only [aE8] at h
   unfold G1 at h
   cases hs:Nat.beq s s' with
   | true=>
    rw [hs] at h
    have:=aFs hs
    refine .inr ⟨fun e=>?_,?_⟩
    ·subst this
     subst e
     rw [aXq] at hb
     cases hb
    ·unfold G1
     rw [hs]
     exact h
   | false=>
    rw [hs] at h
    rcases eF h with h | ⟨h1,h2⟩
    ·exact .inl h
    ·refine .inr ⟨h1,?_⟩
     unfold G1
     rw [hs]
     exact h2
theorem dC {k:Nat} {lb:LB}:∀ {ll:List (Nat×LB)} {j:Nat} {b:LB},G1 (aAa k lb ll) j=some b->(j=k/\b=lb)\/(j≠k/\G1 ll j=some b)
 | [],s,d,h=>by simp [aAa,G1] at h
 | (s',d') :: l,s,d,h=>by
  unfold aAa at h
  cases hb:Nat.beq s' k with
  | true=>
   rw [hb] at h
   simp only [aHj] at h
   have e0:=aFs hb
   unfold G1 at h
   cases hs:Nat.beq s s' with
   | true=>
    rw [hs] at h
    have:=aFs hs
    injection h with h
    exact .inl ⟨by omega,h.symm⟩
   | false=>
    rw [hs] at h
    rcases dC h with h | ⟨h1,h2⟩
    ·exact .inl h
    ·refine .inr ⟨h1,?_⟩
     unfold G1
     rw [hs]
     exact h2
  | false=>
   rw [hb] at h
   simp only [aE8] at h
   unfold G1 at h
   cases hs:Nat.beq s s' with
   | true=>
    rw [hs] at h
    have:=aFs hs
    refine .inr ⟨fun e=>?_,?_⟩
    ·subst this
     subst e
     rw [aXq] at hb
     cases hb
    ·unfold G1
     rw [hs]
     exact h
   | false=>
    rw [hs] at h
    rcases dC h with h | ⟨h1,h2⟩
    ·exact .inl h
    ·refine .inr ⟨h1,?_⟩
     unfold G1
     rw [hs]
     exact h2
theorem aAh {lb:LB} {k:Nat} (h:Wt lb k):k∈dR lb:=by
 cases lb with
 | box ds ty=>unfold dR; exact Xl.menL_dtoks h
 | row=>exact h.elim
 | map=>exact h.elim
 | mit k' n s=>have h:k=k':=h; subst h; exact aF2.2 rfl
 | lop ts ds N rc=>unfold dR; exact Xl.menL_dtoks h
 | vec ds e=>unfold dR; exact Xl.menL_dtoks h
theorem aA1 {α:Type} {f:α->List C} {sz:Nat} (hf:∀ x,(f x).length=sz) {l:List α} {n:Nat} (hn:n<=l.length):(Ac f l).take (n * sz)=Ac f (l.take n):=by
 have:=nQ hf l 0 n (aLi _) hn
 simpa using this
theorem aVa {α:Type} {f:α->List C} {L:List α} {cx:Cx} {fl:List (Nat×DV)} {ll:List (Nat×LB)} {N:Nat} (t k:Nat) {n e sz:Nat} (hf:∀ x,(f x).length=sz) (hn:n<=L.length) (hF:G1 fl t=some (.part k 0 n)) (hL:G1 ll k=some (.row e sz (Ac f L)))
  (hk:Nat.ble cx.np k=true) (hc:aS7 t k fl ll=true):Rs cx (mk fl ll N) (mk (zY t k fl) (aAa k (.row e sz (Ac f (L.take n))) ll) N):=by
 unfold aS7 at hc
 rw [aF5,aGo,aGo] at hc
 refine Rs.cut (t:=t) (k:=k) (n:=n) (e:=e) (sz:=sz) (cs:=Ac f L) (aC1 hk) hF hL (by rw [H8 hf]; exact aS3 _ hn) (fun s d hs=>?_) (fun j lb hj=>?_) fun _=>rfl
 ·rcases eF hs with ⟨rfl,rfl⟩ | ⟨h1,h2⟩
  ·exact .inl ⟨rfl,rfl⟩
  ·refine .inr ⟨h2,fun hm=>?_⟩
   have:=hc.1 _ (Jn h2)
   rw [aT1] at this
   rcases this with h | h
   ·exact h1 (aFs h)
   ·have hm':=Xl hm
    simp at h
    exact h hm'
 ·rcases dC hj with ⟨rfl,rfl⟩ | ⟨h1,h2⟩
  ·refine .inl ⟨rfl,?_⟩
   rw [aA1 hf hn]
  ·refine .inr ⟨h1,h2,fun hm=>?_⟩
   have:=hc.2 _ (Jn h2)
   rw [aT1] at this
   rcases this with h | h
   ·exact h1 (aFs h)
   ·have hm':=aAh hm
    simp at h
    exact h hm'
end Go.Proofs.YtboglmbblmakjaaGreatDoor
