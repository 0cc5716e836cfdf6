import Derived.Test.YtobamahlipiakaaGreatED
import Derived.KernelRfl
import Derived.Test.YtobamahlipiakaaGreatPU
import Derived.Scope
set_option linter.unusedVariables false
set_option linter.unusedSimpArgs false
namespace Go.Proofs.YtobamahlipiakaaGreat
open Go.RowKit
section
variable {Q:Exit->St->Prop} {next:St->Prop} {σ:St} {i j:Nat}
theorem aA7 (h:Q .normal σ):inB i Q (.exit i) σ:=by
 show (if i=i then _ else _)
 rw [if_pos rfl]
 exact h
theorem aAo (hne:j≠i) (h:Q (.exit j) σ):inB i Q (.exit j) σ:=by
 show (if j=i then _ else _)
 rw [if_neg hne]
 exact h
end
theorem aGq {P:Program} {t ty:TypeId} {s:ByteArray} (h:P.underlying t=some .string):∀ w,∀ cs,(builtin .len #[t] ty cs #[.string s]).run P w=.ok (.value (.int .i64 s.size)) w:=fun w cs=>by
 simp [builtin,Builtin.len_,run_underlying h,goInt]
theorem aM9 {P:Program} {ts:Array TypeId} {ty:TypeId} {k:IntKind} {x y:Int}:∀ w,∀ cs,(builtin .min ts ty cs #[.int k x,.int k y]).run P w=.ok (.value (.int k (min x y))) w:=fun w cs=>by
 simp [builtin,Builtin.min_,Builtin.min2,go_sem]
 split <;> omega
section
variable {P:Program} {t:TypeId} {X Y:Operand}
end
section
variable {P:Program} {t:TypeId} {X Y:Operand} {k:IntKind} {x y:Int}
end
section
variable {P:Program} {t:TypeId} {X Y:Operand} {a b:ByteArray}
end
theorem H3 {θ:List (Nat×Nat)} {j:Nat} (h:(θ.all fun q=>!Nat.beq q.2 j)=true):∀ k,H9 θ k≠some j:=fun k hk=>by
 have:=aH8.1 h _ (Jt hk)
 simp at this
theorem A4 {P:Program} {cx:Cx} {x y:Code} {Q:Exit->St->Prop} {σ:St} {ι:Type} (mid:ι->St) (ok:ι->Prop) (hx:M1 P cx x (thn (fun σ'=>∃ i,ok i/\Rr cx σ' (mid i)) Q) σ) (hy:∀ i,ok i->M1 P cx y Q (mid i)):M1 P cx (.seq x y) Q σ:=by
 refine Ay (aEb ?_ hx)
 intro e σ' h
 cases e with
 | normal=>
  obtain⟨i,h1,h2⟩:=h
  exact Hg h2 (hy i h1)
 | _=>exact h
end Go.Proofs.YtobamahlipiakaaGreat
namespace Go.Proofs.YtobamahlipiakaaGreat
open Go.RowKit
mutual
def nop (j:Nat):DV->Bool
 | .part k _ _=>!Nat.beq k j
 | .ptr k _=>!Nat.beq k j
 | .agg ds=>kH j ds
 | .tup ds=>kH j ds
 | .clo _ _ ds=>kH j ds
 | .val _=>true
 | .sl _ _=>true
 | .slc _ _=>true
 | .mp _=>true
 | .elt _=>true
 | .row _=>true
def kH (j:Nat):List DV->Bool
 | []=>true
 | d :: ds=>nop j d && kH j ds
end
mutual
def Ou (j sz:Nat) (cs:List C):DV->DV
 | .row k=>bif Nat.beq k j then .sl sz cs else .row k
 | .agg ds=>.agg (S7 j sz cs ds)
 | .tup ds=>.tup (S7 j sz cs ds)
 | .clo f n ds=>.clo f n (S7 j sz cs ds)
 | .val v=>.val v
 | .sl s c=>.sl s c
 | .slc s c=>.slc s c
 | .mp l=>.mp l
 | .elt c=>.elt c
 | .part k o n=>.part k o n
 | .ptr k i=>.ptr k i
def S7 (j sz:Nat) (cs:List C):List DV->List DV
 | []=>[]
 | d :: ds=>Ou j sz cs d :: S7 j sz cs ds
end
def St.frz (σ:St) (j sz:Nat) (cs:List C):St where
 F:=fun t=>match σ.F t with | some d=>bif nop j d then some (Ou j sz cs d) else none | none=>none
 L:=fun k=>bif Nat.beq k j then none else match σ.L k with | some (.box ds ty)=>(bif kH j ds then some (.box (S7 j sz cs ds) ty) else none) | some (.row e s c)=>some (.row e s c) | _=>none
 U:=σ.U
theorem V8 {a b:Nat} (h:Nat.beq a b=false):a≠b:=fun e=>by
 subst e
 rw [bA1] at h; cases h
section
variable {σ:St} {j e sz:Nat} {cs:List C}
abbrev aC0 (j:Nat) (k:Nat):Option Nat:=if k=j then none else some k
mutual
theorem Cv.frzD (h:σ.L j=some (.row e sz cs)):∀ d,nop j d=true->Cv σ (aC0 j) d (Go.Proofs.YtobamahlipiakaaGreat.Ou j sz cs d)
 | .val v,_=>by unfold Go.Proofs.YtobamahlipiakaaGreat.Ou; exact .val v
 | .sl _ _,_=>by unfold Go.Proofs.YtobamahlipiakaaGreat.Ou; exact .sl _ _
 | .slc _ _,_=>by unfold Go.Proofs.YtobamahlipiakaaGreat.Ou; exact .slcc _ _
 | .mp _,_=>by unfold Go.Proofs.YtobamahlipiakaaGreat.Ou; exact .mp _
 | .elt _,_=>by unfold Go.Proofs.YtobamahlipiakaaGreat.Ou; exact .elt _
 | .row k,_=>by
  unfold Go.Proofs.YtobamahlipiakaaGreat.Ou
  cases hb:Nat.beq k j with
  | true=>
   have:=aF5 hb
   subst this
   refine .frz h fun k' hk'=>?_
   unfold aC0 at hk'
   split at hk'
   ·cases hk'
   ·rename_i hne
    injection hk' with hk'
    exact hne hk'
  | false=>exact .row (if_neg (V8 hb))
 | .part k _ _,hn=>by
  unfold nop at hn
  unfold Go.Proofs.YtobamahlipiakaaGreat.Ou
  exact .part (if_neg (V8 (by simpa using hn)))
 | .ptr k _,hn=>by
  unfold nop at hn
  unfold Go.Proofs.YtobamahlipiakaaGreat.Ou
  exact .ptr (if_neg (V8 (by simpa using hn)))
 | .agg ds,hn=>by
  unfold nop at hn
  unfold Go.Proofs.YtobamahlipiakaaGreat.Ou
  exact .agg (Sz.frzDs h ds hn)
 | .tup ds,hn=>by
  unfold nop at hn
  unfold Go.Proofs.YtobamahlipiakaaGreat.Ou
  exact .tup (Sz.frzDs h ds hn)
 | .clo f n ds,hn=>by
  unfold nop at hn
  unfold Go.Proofs.YtobamahlipiakaaGreat.Ou
  exact .clo f n (Sz.frzDs h ds hn)
theorem Sz.frzDs (h:σ.L j=some (.row e sz cs)):∀ ds,kH j ds=true->Sz σ (aC0 j) ds (Go.Proofs.YtobamahlipiakaaGreat.S7 j sz cs ds)
 | [],_=>by unfold Go.Proofs.YtobamahlipiakaaGreat.S7; exact .nil
 | d :: ds,hn=>by
  unfold kH at hn
  simp only [aF1] at hn
  unfold Go.Proofs.YtobamahlipiakaaGreat.S7
  exact .cons (Cv.frzD h d hn.1) (Sz.frzDs h ds hn.2)
end
mutual
theorem wZ:∀ (d:DV) (k:Nat),men (Ou j sz cs d) k->men d k
 | .val _,k,h=>by unfold Ou men at h; exact h.elim
 | .sl _ _,k,h=>by unfold Ou men at h; exact h.elim
 | .slc _ _,k,h=>by unfold Ou men at h; exact h.elim
 | .mp _,k,h=>by unfold Ou men at h; exact h.elim
 | .elt _,k,h=>by unfold Ou men at h; exact h.elim
 | .row i,k,h=>by
  unfold Ou at h
  cases hb:Nat.beq i j with
  | true=>rw [hb] at h; simp only [aEa] at h; unfold men at h; exact h.elim
  | false=>rw [hb] at h; exact h
 | .part _ _ _,k,h=>by unfold Ou at h; exact h
 | .ptr _ _,k,h=>by unfold Ou at h; exact h
 | .agg ds,k,h=>by unfold Ou men at h; unfold men; exact U3 ds k h
 | .tup ds,k,h=>by unfold Ou men at h; unfold men; exact U3 ds k h
 | .clo _ _ ds,k,h=>by unfold Ou men at h; unfold men; exact U3 ds k h
theorem U3:∀ (ds:List DV) (k:Nat),Gu (S7 j sz cs ds) k->Gu ds k
 | [],k,h=>by unfold S7 Gu at h; exact h.elim
 | d :: ds,k,h=>by
  unfold S7 Gu at h
  unfold Gu
  exact h.imp (wZ d k) (U3 ds k)
end
theorem aJm {t:Nat} {d':DV} (h:(σ.frz j sz cs).F t=some d'):∃ d,σ.F t=some d/\nop j d=true/\d'=Ou j sz cs d:=by
 have h':(match σ.F t with | some d=>bif nop j d then some (Ou j sz cs d) else none | none=>none)=some d':=h
 cases hF:σ.F t with
 | none=>rw [hF] at h'; cases h'
 | some d=>
  rw [hF] at h'
  cases hn:nop j d with
  | false=>simp only [hn,aDb] at h'; cases h'
  | true=>simp only [hn,aEa] at h'; injection h' with h'; exact⟨d,rfl,hn,h'.symm⟩
theorem aI7 {k:Nat} {lb':LB} (h:(σ.frz j sz cs).L k=some lb'):k≠j/\((∃ ds ty,σ.L k=some (.box ds ty)/\kH j ds=true/\lb'=.box (S7 j sz cs ds) ty)\/∃ e s c,σ.L k=some (.row e s c)/\lb'=.row e s c):=by
 have h':(bif Nat.beq k j then none else match σ.L k with | some (.box ds ty)=>(bif kH j ds then some (LB.box (S7 j sz cs ds) ty) else none) | some (.row e s c)=>some (.row e s c) | _=>none)=some lb':=h
 cases hb:Nat.beq k j with
 | true=>rw [hb] at h'; cases h'
 | false=>
  refine⟨V8 hb,?_⟩
  rw [hb] at h'
  simp only [aDb] at h'
  cases hL:σ.L k with
  | none=>rw [hL] at h'; cases h'
  | some lb=>
   rw [hL] at h'
   cases lb with
   | row e s c=>simp only [] at h'; injection h' with h'; exact .inr ⟨e,s,c,rfl,h'.symm⟩
   | map l=>cases h'
   | mit k' n s=>cases h'
   | lop=>cases h'
   | vec ds e=>cases h'
   | box ds ty=>
    simp only [] at h'
    cases hn:kH j ds with
    | false=>rw [hn] at h'; cases h'
    | true=>rw [hn] at h'; injection h' with h'; exact .inl ⟨ds,ty,rfl,hn,h'.symm⟩
theorem Rr.frz {cx:Cx} (h:σ.L j=some (.row e sz cs)) (hj:Nat.ble cx.np j=true):Rr cx σ (σ.frz j sz cs):=by
 rintro a w ⟨ρ,ha⟩
 have hj':cx.np<=j:=aEi hj
 refine⟨_,(ha.ren (σ':=σ.frz j sz cs) (aC0 j) (fun t d' hd=>?_) (fun k lb' hl=>?_) (fun k k' i h1 h2=>?_) (fun k hk=>⟨if_neg (by omega),(ha.pin k hk).2⟩) (fun t d k hd hm=>?_) (fun k lb hl=>?_)).1⟩
 ·obtain⟨d,h1,h2,rfl⟩:=aJm hd
  exact⟨d,h1,Cv.frzD h d h2⟩
 ·obtain⟨hne,h1⟩:=aI7 hl
  refine .inl ?_
  rcases h1 with ⟨ds,ty,h1,h2,rfl⟩ | ⟨e',s,c,h1,rfl⟩
  ·exact⟨k,_,if_neg hne,h1,rfl,Sz.frzDs h ds h2⟩
  ·exact⟨k,_,if_neg hne,h1,rfl,rfl,rfl⟩
 ·unfold aC0 at h1 h2
  split at h1
  ·cases h1
  ·split at h2
   ·cases h2
   ·injection h1 with h1
    injection h2 with h2
    omega
 ·obtain⟨d',h1,h2,rfl⟩:=aJm hd
  exact ha.usedF t d' k h1 (wZ d' k hm)
 ·obtain⟨hne,h1⟩:=aI7 hl
  rcases h1 with ⟨ds,ty,h1,h2,rfl⟩ | ⟨e',s,c,h1,rfl⟩
  ·exact⟨(ha.usedL k _ h1).1,fun k' hk'=>(ha.usedL k _ h1).2 k' (U3 ds k' hk')⟩
  ·exact⟨(ha.usedL k _ h1).1,fun k' hk'=>hk'.elim⟩
end
section
variable {P:Program} {cx:Cx} {ops:Array Oper} {Q:Exit->St->Prop} {l:List Oper} {σ σ':St}
def Sc (P:Program) (cx:Cx) (ops:Array Oper) (Q:Exit->St->Prop) (l:List Oper) (σ:St):Prop:=∀ n a w,Mx cx σ a w->wpListIn (FW cx.rr) n P ops (Sa cx Q) l a w
theorem tP {id:Nat} (h:Sc P cx l.toArray Q l σ):M1 P cx (.region id l.toArray false) Q σ:=fun n a w ha=>wpIn_region_lit (h n a w ha)
theorem Sc.sub (h:Rr cx σ σ') (k:Sc P cx ops Q l σ'):Sc P cx ops Q l σ:=fun n a w ha=>k n a w (h a w ha)
theorem Sc.fin (h:Q .normal σ):Sc P cx ops Q [] σ:=fun _ a w ha=>⟨σ,h,ha⟩
variable {S:Sys P cx} {nb nb':Nat}
theorem aK {nn:Nat} {l2:List Oper}:∀ (l:List Oper) (k:Nat) (lg:oP) (σ:St) (a:Act) (w:World),Chain S ops none nb (idx k l) lg σ (fun σ'=>(∀ j,nb'<=j->σ'.U j=false)->Sc P cx ops Q l2 σ')->Yd nb (idx k l) σ->aE6 cx (idx k l)->(∀ j,nb'<=j->σ.U j=false)->nb + 8 * (k + l.length)<=nb'->Mx cx σ a w->wpListIn (FW cx.rr) nn P ops (Sa cx Q) (l ++ l2) a w
 | [],k,lg,σ,a,w,h,_,_,B,_,ha=>h B nn a w ha
 | o :: l,k,lg,σ,a,w,h,hf,hd,B,hn,⟨ρ,ha⟩=>by
  have hf0:=hf (k,o) (by simp [idx])
  have hd0:=hd (k,o) (by simp [idx])
  have hf1:Yd nb (idx (k + 1) l) σ:=fun q hq=>hf q (by simp [idx,hq])
  have hd1:aE6 cx (idx (k + 1) l):=fun q hq=>hd q (by simp [idx,hq])
  have hne:∀ q∈idx (k + 1) l,q.1≠k:=fun q hq=>by have:=(V7 hq).1; omega
  have hn':nb + 8 * (k + 1 + l.length)<=nb':=by simp at hn; omega
  have hUn:∀ {e:Ow} {wr:List Nat} {rd:List Nat},(∀ j,e.l j≠none->j∈wr\/(nb + 8 * k<=j/\j < nb + 8 * k + 8))->(∀ j,j∈wr->j∈rd)->(∀ j,j∈rd->σ.U j=true)->∀ j,nb'<=j->(σ.app o.dst e).U j=false:=fun {e wr rd} hk hs hu j hj=>by
   cases hc:(σ.app o.dst e).U j with
   | false=>rfl
   | true=>
    rcases xF hc with h1 | h1
    ·rw [B j hj] at h1; cases h1
    ·rcases hk j h1 with h2 | h2
     ·exact absurd (hu j (hs j h2)) (by rw [B j hj]; simp)
     ·simp at hn; omega
  show wpListIn (FW cx.rr) nn P ops (Sa cx Q) (o :: (l ++ l2)) a w
  unfold wpListIn
  rcases h with ⟨rd,wr,e,h1,-,h3⟩ | ⟨rd,wr,E,h1,-,-,h3⟩
  ·have hs:=h1.sound ha hf0 hd0.1
   have:=hs (wpListIn (FW cx.rr) nn P ops (Sa cx Q) (l ++ l2)) (Sa cx Q) fun a' w' ha'=>aK l (k + 1) _ _ a' w' h3 (hf1.next h1.key.1 (fun j hj=>h1.used ha j (h1.key.2 j hj)) hne) hd1 (hUn h1.key.1 h1.key.2 (h1.used ha)) hn' ha'
   split
   ·rename_i hw
    rw [if_pos hw] at this
    exact mH hd0.2 this
   ·rename_i hw
    rw [if_neg hw] at this
    exact⟨fun _ _=>trivial,this⟩
  ·have:=h1.sound ha hf0 hd0.1 (wpListIn (FW cx.rr) nn P ops (Sa cx Q) (l ++ l2)) (Sa cx Q) fun e a' w' he ha'=>aK l (k + 1) _ _ a' w' (h3 e he) (hf1.next (h1.key.1 e he) (fun j hj=>h1.used ha j (h1.key.2 j hj)) hne) hd1 (hUn (h1.key.1 e he) h1.key.2 (h1.used ha)) hn' ha'
   split
   ·rename_i hw
    rw [if_pos hw] at this
    exact mH hd0.2 this
   ·rename_i hw
    rw [if_neg hw] at this
    exact⟨fun _ _=>trivial,this⟩
theorem Sc.chain (S:Sys P cx) (m nb nb':Nat) (B:∀ k,nb<=k->σ.U k=false) (hn:Nat.ble (nb + 8 * (l.take m).length) nb'=true) (hd:nE cx.N (l.take m)=true)
  (h:Chain S ops none nb (idx 0 (l.take m)) [] σ (fun σ'=>(∀ j,nb'<=j->σ'.U j=false)->Sc P cx ops Q (l.drop m) σ')):Sc P cx ops Q l σ:=by
 intro nn a w ha
 have hn':nb + 8 * (l.take m).length<=nb':=aEi hn
 have:=aK (nn:=nn) (l2:=l.drop m) (l.take m) 0 [] σ a w h (fun q hq j hj=>B _ (by omega)) (bG hd) (fun j hj=>B j (by omega)) (by simpa using hn') ha
 rwa [aW8] at this
theorem aQj {l2:List Oper} (h:(∀ j,nb'<=j->σ.U j=false)->Sc P cx ops Q l2 σ) {lg:oP} {i:Nat}:Chain S ops none nb (idx i []) lg σ (fun σ'=>(∀ j,nb'<=j->σ'.U j=false)->Sc P cx ops Q l2 σ'):=h
end
section
variable {P:Program} {f:FuncId} {args:List DV}
theorem Fn.plain {v:Value} {R:DV->List LB->Prop} {vs:List Value} {w:World} (h:Fn P f 0 args [] R) (hR:∀ r b,R r b->r=.val v) (ρ:Nat->Value) (I:Nat->Prop) (hI:∀ b,I b->b < w.heap.size) (hr:B5 ρ I w args vs):Calls P f vs.toArray w fun e w'=>e=.returned v/\dT w w':=by
 refine (h.2.2 ρ I w vs (fun b hb=>⟨hI b hb,fun k hk=>by simp at hk⟩) hr (fun k lb h=>by simp at h) (fun k k' b hk=>by simp at hk)).mono ?_
 rintro e w' ⟨u,r,b,rfl,h1,h2⟩
 obtain⟨-,⟨o1,o2,o3,o4⟩,hk,⟨ρ',J,-,-,hrep,-⟩,-⟩:=h2
 rw [hR r b h1] at hrep
 unfold C3 at hrep
 rw [hrep.1]
 exact⟨rfl,o1,o2,o3,o4,fun b hb=>hk b hb fun k hk=>by simp at hk⟩
end
end Go.Proofs.YtobamahlipiakaaGreat
namespace Go.Proofs.YtobamahlipiakaaGreat
open Go.RowKit
def noG (Q:Exit->St->Prop):Exit->St->Prop
 | .normal,σ=>Q .normal σ
 | .exit i,σ=>Q (.exit i) σ
 | .goto _,_=>False
 | .ret,σ=>Q .ret σ
 | .panic c,σ=>Q (.panic c) σ
 | .outgrown,σ=>Q .outgrown σ
section
variable {P:Program} {b:Frame} {a:Act} {k:List Item} {cs:List Frame} {w:World} {Q:Exit->Act->World->Prop} {F:Fence} {n:Nat}
end
def Ai {α:Type} (f:α->List C) (l:List α):List C:=l.flatMap f
def eI (x:Int):List C:=[.int .i64 x]
def eK (k:IntKind) (x:Int):List C:=[.int k x]
def e8 (x:UInt8):List C:=[.int .u8 (x.toNat:Int)]
def eS (x:ByteArray):List C:=[.str x]
def eB (x:Bool):List C:=[.bool x]
def eL {α:Type} (sz:Nat) (f:α->List C) (l:List α):List C:=[.sl sz (Ai f l)]
theorem Mu (x:Int):(eI x).length=1:=rfl
theorem uM (k:IntKind) (x:Int):(eK k x).length=1:=rfl
theorem aD8 (x:UInt8):(e8 x).length=1:=rfl
theorem aMa (x:ByteArray):(eS x).length=1:=rfl
theorem aLl (x:Bool):(eB x).length=1:=rfl
theorem wC {α:Type} (sz:Nat) (f:α->List C) (l:List α):(eL sz f l).length=1:=rfl
section
variable {α:Type} {f:α->List C} {sz:Nat}
theorem I6 (hf:∀ x,(f x).length=sz):∀ (l:List α),(Ai f l).length=l.length * sz
 | []=>by simp [Ai]
 | x :: l=>by
  have:=I6 hf l
  unfold Ai at this ⊢
  rw [aOo,aF3,hf,this,aJw,aY3,bBb,Nat.add_comm]
theorem R7 (l m:List α):Ai f (l ++ m)=Ai f l ++ Ai f m:=by unfold Ai; rw [List.flatMap_append]
theorem Tz {l:List α} {j:Nat} {x:α} (hx:l[j]?=some x):Ai f l=Ai f (l.take j) ++ (f x ++ Ai f (l.drop (j + 1))):=by
 have hj:=(aDx.1 hx).1
 have hxe:=(aDx.1 hx).2
 have e1:l=l.take j ++ (x :: l.drop (j + 1)):=by
  rw [<- hxe,List.getElem_cons_drop,aW8]
 rw [show Ai f l=Ai f (l.take j ++ (x :: l.drop (j + 1))) from congrArg _ e1,R7]
 rfl
theorem Qj (hf:∀ x,(f x).length=sz) {l:List α} {j:Nat} (hj:j<=l.length):(Ai f (l.take j)).length=j * sz:=by
 rw [I6 hf,aJj,bAp hj]
theorem oV (hf:∀ x,(f x).length=sz) {l:List α} {j:Nat} {x:α} (hx:l[j]?=some x):j * sz + sz<=(Ai f l).length:=by
 have hj:=(aDx.1 hx).1
 rw [I6 hf]
 have:(j + 1) * sz<=l.length * sz:=aSt _ hj
 rw [aY3,bBb] at this
 exact this
theorem aFk (hf:∀ x,(f x).length=sz) {l:List α} {j o:Nat} {x:α} (hx:l[j]?=some x) (ho:o < sz) {a:Nat} (ha:a=j * sz + o):a < (Ai f l).length:=by
 have:=oV hf hx
 omega
theorem fB (hf:∀ x,(f x).length=sz) {l:List α} {j o:Nat} {x:α} (hx:l[j]?=some x) (ho:o<=sz):(Ai f l).drop (j * sz + o)=(f x).drop o ++ Ai f (l.drop (j + 1)):=by
 have hj:=(aDx.1 hx).1
 have ht:=Qj hf (l:=l) (j:=j) (by omega)
 rw [Tz hx,<- ht,<- aZg,bBs,List.drop_append_of_le_length (by rw [hf]; exact ho)]
theorem Pu (hf:∀ x,(f x).length=sz) {l:List α} {j o:Nat} {x:α} {c:C} (hx:l[j]?=some x) (hc:(f x)[o]?=some c) {a:Nat} (ha:a=j * sz + o):(Ai f l)[a]?=some c:=by
 subst ha
 have ho:o < sz:=by rw [<- hf x]; exact (aDx.1 hc).1
 have e1:=fB hf hx (Nat.le_of_lt ho)
 have e2:(Ai f l)[j * sz + o]?=((Ai f l).drop (j * sz + o))[0]?:=by rw [aP4]; rfl
 rw [e2,e1,aNt (by rw [aJ4,hf]; omega),aP4]
 exact hc
theorem Jj (hf:∀ x,(f x).length=sz) {l:List α} {j o m:Nat} {x:α} {cs:List C} (hx:l[j]?=some x) (hs:((f x).drop o).take m=cs) (ho:o + m<=sz) {a:Nat} (ha:a=j * sz + o):((Ai f l).drop a).take m=cs:=by
 subst ha
 rw [fB hf hx (by omega),aTc (by rw [aJ4,hf]; omega)]
 exact hs
theorem Ga (hf:∀ x,(f x).length=sz) {l:List α} {j o m:Nat} {x:α} (hx:l[j]?=some x) (ho:o + m<=sz) {a:Nat} (ha:a=j * sz + o):a + m<=(Ai f l).length:=by
 have:=oV hf hx
 omega
theorem T9 (hf:∀ x,(f x).length=sz) {l:List α} {j o:Nat} {x x':α} {cs:List C} (hx:l[j]?=some x) (ho:o + cs.length<=sz) (hs:El (f x) o cs=f x') {a:Nat} (ha:a=j * sz + o):El (Ai f l) a cs=Ai f (Ex l j x'):=by
 subst ha
 have hj:=(aDx.1 hx).1
 have ht:=Qj hf (l:=l) (j:=j) (by omega)
 have hset:Ai f (Ex l j x')=Ai f (l.take j) ++ (f x' ++ Ai f (l.drop (j + 1))):=by
  have:(Ex l j x')[j]?=some x':=by unfold Ex; rw [List.getElem?_set_self hj]
  rw [Tz this]
  unfold Ex
  rw [List.take_set_of_le (aJf _),List.drop_set_of_lt (by omega)]
 rw [hset,<- hs]
 unfold El
 have e1:(Ai f l).take (j * sz + o)=Ai f (l.take j) ++ (f x).take o:=by
  rw [Tz hx,List.take_append,ht,bAi,aJ0 (by rw [ht]; omega)]
  congr 1
  rw [aTc (by rw [hf]; omega)]
 have e2:(Ai f l).drop (j * sz + o + cs.length)=(f x).drop (o + cs.length) ++ Ai f (l.drop (j + 1)):=by
  rw [bBl,fB hf hx ho]
 rw [e1,e2]
 simp only [aTn]
theorem oA (hf:∀ x,(f x).length=sz) (l:List α) (i j:Nat) (hij:i<=j) (hj:j<=l.length):((Ai f l).drop (i * sz)).take ((j - i) * sz)=Ai f ((l.drop i).take (j - i)):=by
 have e0:Ai f l=Ai f (l.take i) ++ Ai f (l.drop i):=by rw [<- R7,aW8]
 have e1:Ai f (l.drop i)=Ai f ((l.drop i).take (j - i)) ++ Ai f ((l.drop i).drop (j - i)):=by rw [<- R7,aW8]
 rw [e0]
 have ht:=Qj hf (l:=l) (j:=i) (by omega)
 have hd:((Ai f (l.take i)) ++ Ai f (l.drop i)).drop (i * sz)=Ai f (l.drop i):=by rw [<- ht,bBs]
 rw [hd,e1]
 have ht2:=Qj hf (l:=l.drop i) (j:=j - i) (by rw [aJ4]; omega)
 rw [<- ht2,List.take_left]
theorem rK (hf:∀ x,(f x).length=sz) (l:List α) (i n:Nat) (hn:i + n<=l.length):((Ai f l).drop (i * sz)).take (n * sz)=Ai f ((l.drop i).take n):=by
 have:=oA hf l i (i + n) (by omega) (by omega)
 rw [bAi] at this
 exact this
end
theorem aRw (l:List UInt8):Ai e8 l=Lc l:=by
 induction l with
 | nil=>rfl
 | cons x l ih=>
  show e8 x ++ Ai e8 l=_
  rw [ih]
  rfl
section
variable {P:Program} {tk:Nat} {t ty yt:TypeId} {X Y:Operand} {b1 b2:Option LB} {k:IntKind} {x y:Int}
theorem aPj:Gw P tk (.binOp .lss t X Y yt) ty [(.val (.int k x),b1),(.val (.int k y),b2)] [] (v0 (.val (.bool (decide (x < y))))):=.binOp (fun _ _=>rfl) aNg
theorem aRh:Gw P tk (.binOp .leq t X Y yt) ty [(.val (.int k x),b1),(.val (.int k y),b2)] [] (v0 (.val (.bool (decide (x<=y))))):=.binOp (fun _ _=>rfl) aKx
theorem aPp:Gw P tk (.binOp .gtr t X Y yt) ty [(.val (.int k x),b1),(.val (.int k y),b2)] [] (v0 (.val (.bool (decide (y < x))))):=.binOp (fun _ _=>rfl) aLm
theorem aRp:Gw P tk (.binOp .geq t X Y yt) ty [(.val (.int k x),b1),(.val (.int k y),b2)] [] (v0 (.val (.bool (decide (y<=x))))):=.binOp (fun _ _=>rfl) aKd
theorem aQ6:Gw P tk (.binOp .eql t X Y yt) ty [(.val (.int k x),b1),(.val (.int k y),b2)] [] (v0 (.val (.bool (decide (x=y))))):=.binOp (fun _ _=>rfl) aJ5
theorem aRs:Gw P tk (.binOp .neq t X Y yt) ty [(.val (.int k x),b1),(.val (.int k y),b2)] [] (v0 (.val (.bool (!decide (x=y))))):=.binOp (fun _ _=>rfl) (fun w=>by rw [aLb w,decide_not])
theorem mG (x:Int):IntKind.i64.wrap x=W x:=by rw [IntKind.wrap_i64]; unfold W; omega
theorem okW (x:Int):Gd (.int .i64 (W x))=true:=I7.2 (Tj (xZ x))
theorem aQh (x:Int):IntKind.u8.wrap x=((u8 x).toNat:Int):=by rw [IntKind.wrap_u8,sM]
theorem ok8 (x:UInt8):Gd (.int .u8 (x.toNat:Int))=true:=I7.2 (hZ ⟨by omega,by have:=x.toNat_lt; omega⟩)
theorem aP3:Gw P tk (.binOp .add t X Y yt) ty [(.val (.int .i64 x),b1),(.val (.int .i64 y),b2)] [] (v0 (.val (.int .i64 (W (x + y))))):=.binOp (fun _ _=>okW _) (fun w=>by rw [aHc w,mG])
theorem aRx:Gw P tk (.binOp .sub t X Y yt) ty [(.val (.int .i64 x),b1),(.val (.int .i64 y),b2)] [] (v0 (.val (.int .i64 (W (x - y))))):=.binOp (fun _ _=>okW _) (fun w=>by rw [xY w,mG])
theorem aRm:Gw P tk (.binOp .mul t X Y yt) ty [(.val (.int .i64 x),b1),(.val (.int .i64 y),b2)] [] (v0 (.val (.int .i64 (W (x * y))))):=.binOp (fun _ _=>okW _) (fun w=>by rw [yJ w,mG])
theorem aBo (x y:Int):(x.tmod y).natAbs<=x.natAbs:=by
 rw [Int.natAbs_tmod]
 exact Nat.mod_le _ _
theorem uU {x y:Int} (h:-9223372036854775808<=x/\x<=9223372036854775807):-9223372036854775808<=x.tmod y/\x.tmod y<=9223372036854775807:=by
 have h0:=aBo x y
 rcases Int.le_total 0 x with hx | hx
 ·have h1:=bA4 y hx
  omega
 ·have e:x.tmod y=-((-x).tmod y):=by rw [Int.neg_tmod]; omega
  have h1:=bA4 y (show 0<=-x by omega)
  omega
theorem aGk {n:Int} (h:Gd (.int .i64 n)=true):-9223372036854775808<=n/\n<=9223372036854775807:=by
 have:=I7.1 h
 have h1:IntKind.i64.min=-9223372036854775808:=by decide
 have h2:IntKind.i64.max=9223372036854775807:=by decide
 rw [h1,h2] at this
 exact this
theorem aPb {z:Int} (h:Vk x y=some z):Gw P tk (.binOp .rem t X Y yt) ty [(.val (.int .i64 x),b1),(.val (.int .i64 y),b2)] [] (v0 (.val (.int .i64 z))):=by
 obtain⟨hy,rfl⟩:=zX h
 exact .binOp (fun h _=>I7.2 (Tj (uU (aGk h)))) (aEv hy)
theorem aO4 {z:Int} (h:Pm x y=some z):Gw P tk (.binOp .quo t X Y yt) ty [(.val (.int .i64 x),b1),(.val (.int .i64 y),b2)] [] (v0 (.val (.int .i64 z))):=by
 obtain⟨hy,rfl⟩:=yZ h
 exact .binOp (fun _ _=>okW _) (fun w=>by rw [aK8 hy w,mG])
theorem aLi {a b z:UInt8} (h:aB7 a b=some z):Gw P tk (.binOp .rem t X Y yt) ty [(.val (.int .u8 (a.toNat:Int)),b1),(.val (.int .u8 (b.toNat:Int)),b2)] [] (v0 (.val (.int .u8 (z.toNat:Int)))):=by
 obtain⟨hy,hz⟩:=aAj h
 refine .binOp (fun _ _=>I7.2 (hZ ⟨by omega,by have:=z.toNat_lt; omega⟩)) ?_
 rw [hz]
 exact aEv hy
theorem aQq {b:Bool}:Gw P tk (.unOp .not t X) ty [(.val (.bool b),b1)] [] (v0 (.val (.bool (!b)))):=.unOp (fun _=>rfl) aLy
theorem aOk {a b:Bool} (ht:P.underlying t=some .bool):Gw P tk (.binOp .eql t X Y yt) ty [(.val (.bool a),b1),(.val (.bool b),b2)] [] (v0 (.val (.bool (decide (a=b))))):=.binOp (fun _ _=>rfl) (fun w=>by cases a <;> cases b <;> simp [eqGuard,binOp,Op.equal,Op.maxDepth,run_equalIn_bool',ht])
theorem aN9 {a b:Bool} (ht:P.underlying t=some .bool):Gw P tk (.binOp .neq t X Y yt) ty [(.val (.bool a),b1),(.val (.bool b),b2)] [] (v0 (.val (.bool (!decide (a=b))))):=.binOp (fun _ _=>rfl) (fun w=>by cases a <;> cases b <;> simp [eqGuard,binOp,Op.equal,Op.maxDepth,run_equalIn_bool',ht])
theorem aMu {a b:ByteArray}:Gw P tk (.binOp .eql t X Y yt) ty [(.val (.string a),b1),(.val (.string b),b2)] [] (v0 (.val (.bool (decide (a=b))))):=.binOp (fun _ _=>rfl) aGa
theorem aLp {a b:ByteArray}:Gw P tk (.binOp .neq t X Y yt) ty [(.val (.string a),b1),(.val (.string b),b2)] [] (v0 (.val (.bool (!decide (a=b))))):=.binOp (fun _ _=>rfl) (fun w=>by rw [aGr w,decide_not])
theorem aC7:∀ (a b:List UInt8),Op.bytesLess a b=ltT a b
 | _,[]=>by cases ‹List UInt8› <;> rfl
 | [],_ :: _=>rfl
 | a :: x,b :: y=>by unfold Op.bytesLess ltT; rw [aC7 x y]
theorem aP2 {a b c:ByteArray} (h:aEs a b=some c):Gw P tk (.binOp .add t X Y yt) ty [(.val (.string a),b1),(.val (.string b),b2)] [] (v0 (.val (.string c))):=by
 obtain⟨h1,rfl⟩:=zI h
 refine .binOp (fun _ _=>Qw.2 ?_) (fun w=>?_)
 ·rw [bBg]; exact h1
 ·have h2:¬ (9223372036854775807:Int) < ((a.size:Int) + (b.size:Int)):=by omega
  have hm:IntKind.i64.max=9223372036854775807:=by decide
  simp [eqGuard,binOp,Op.stringOp,hm,h2]
theorem mO {src dst:TypeId} (hs:P.underlying src=some (.int k)) (hd:P.underlying dst=some (.int .u8)):Gw P tk (.convert src dst X) ty [(.val (.int k x),b1)] [] (v0 (.val (.int .u8 ((u8 x).toNat:Int)))):=
 .conv (by unfold xE; rw [hs]) (by unfold xE; rw [hd]) (fun _=>ok8 _) (fun w=>by rw [pK (by rw [hs]; rfl) hd w,aQh])
theorem vK {src dst:TypeId} (hs:P.underlying src=some (.int k)) (hd:P.underlying dst=some (.int .i64)):Gw P tk (.convert src dst X) ty [(.val (.int k x),b1)] [] (v0 (.val (.int .i64 (W x)))):=
 .conv (by unfold xE; rw [hs]) (by unfold xE; rw [hd]) (fun _=>okW _) (fun w=>by rw [pK (by rw [hs]; rfl) hd w,mG])
theorem lG {src dst:TypeId} {u:UInt8} (hs:P.underlying src=some (.int .u8)) (hd:P.underlying dst=some (.int .i64)):Gw P tk (.convert src dst X) ty [(.val (.int .u8 (u.toNat:Int)),b1)] [] (v0 (.val (.int .i64 (u.toNat:Int)))):=
 .conv (by unfold xE; rw [hs]) (by unfold xE; rw [hd]) (fun _=>I7.2 (Tj ⟨by omega,by have:=u.toNat_lt; omega⟩)) (fun w=>by
  have:=u.toNat_lt
  rw [pK (by rw [hs]; rfl) hd w,mG,Ej (by omega)])
theorem aPs {ts:Array TypeId}:Gw P tk (.call ⟨.builtin .min,#[X,Y],ts⟩) ty [(.val (.int k x),b1),(.val (.int k y),b2)] [] (v0 (.val (.int k (min x y)))):=
 .callV2 (vx:=.int k x) (vy:=.int k y) (v:=.int k (min x y)) (by decide) (fun h h'=>by
  rcases Int.le_total x y with hxy | hxy
  ·rw [Int.min_eq_left hxy]; exact h
  ·rw [Int.min_eq_right hxy]; exact h') aM9
theorem aNm {ts:Array TypeId}:∀ w,∀ cs,(builtin .max ts ty cs #[.int k x,.int k y]).run P w=.ok (.value (.int k (max x y))) w:=fun w cs=>by
 simp [builtin,Builtin.max_,Builtin.max2,go_sem]
 split <;> omega
theorem aQd {ts:Array TypeId}:Gw P tk (.call ⟨.builtin .max,#[X,Y],ts⟩) ty [(.val (.int k x),b1),(.val (.int k y),b2)] [] (v0 (.val (.int k (max x y)))):=
 .callV2 (vx:=.int k x) (vy:=.int k y) (v:=.int k (max x y)) (by decide) (fun h h'=>by
  rcases Int.le_total x y with hxy | hxy
  ·rw [Int.max_eq_right hxy]; exact h'
  ·rw [Int.max_eq_left hxy]; exact h) aNm
theorem aHw {Z:Operand} {c:Bool} {d1 d2:DV} {b3:Option LB} (h:c=true):Gw P tk (.pick X Y Z) ty [(.val (.bool c),b1),(d1,b2),(d2,b3)] [] (v0 d1):=by subst h; exact .pick
theorem aIw {Z:Operand} {c:Bool} {d1 d2:DV} {b3:Option LB} (h:c=false):Gw P tk (.pick X Y Z) ty [(.val (.bool c),b1),(d1,b2),(d2,b3)] [] (v0 d2):=by subst h; exact .pick
theorem aKn {s:ByteArray} (h:P.underlying t=some .string):Gw P tk (.call ⟨.builtin .len,#[X],#[t]⟩) ty [(.val (.string s),b1)] [] (v0 (.val (.int .i64 (s.size:Int)))):=
 .callV1 (fun h=>I7.2 (Tj ⟨by omega,by have:=Qw.1 h; unfold maxLen at this; omega⟩)) (aGq h)
end
section
variable {P:Program} {tk:Nat} {t ty e sz bytes:Nat} {X Y:Operand} {b1 b2:Option LB} {α:Type} {f:α->List C} {l:List α} {n:Int} {k:IntKind} {j kr e':Nat} {x:α}
theorem aKr (h:Iy P t e sz bytes) (hf:∀ x,(f x).length=sz):Gw P tk (.call ⟨.builtin .len,#[X],#[t]⟩) ty [(.sl sz (Ai f l),b1)] [] (v0 (.val (.int .i64 (l.length:Int)))):=.len h.elem (.sl h.hsz (I6 hf l))
theorem aNr (h:Iy P t e sz bytes) (hf:∀ x,(f x).length=sz):Gw P tk (.call ⟨.builtin .len,#[X],#[t]⟩) ty [(.row kr,some (.row e' sz (Ai f l)))] [] (v0 (.val (.int .i64 (l.length:Int)))):=.len h.elem (.row h.hsz (I6 hf l))
theorem aFh (h:Iy P t e sz bytes) (hf:∀ x,(f x).length=sz) (hj:n=(j:Int)) (hx:l[j]?=some x):Gw P tk (.indexAddr t X Y) ty [(.sl sz (Ai f l),b1),(.val (.int k n),b2)] [] (v0 (.elt ((Ai f l).drop (j * sz)))):=.idxS h hj (oV hf hx)
theorem aFy (h:Iy P t e sz bytes) (hf:∀ x,(f x).length=sz) (hj:n=(j:Int)) (hx:l[j]?=some x):Gw P tk (.indexAddr t X Y) ty [(.row kr,some (.row e' sz (Ai f l))),(.val (.int k n),b2)] [] (v0 (.ptr kr (j * sz))):=.idxR h hj (oV hf hx)
theorem Jy {s g off ft sz':Nat} {ag:Bool} {cs:List C} {a:Nat} (h:Fd P s g off ft) (ht:Ty P ft ag sz') (hz:0 < sz') (hl:a + off < cs.length):Gw P tk (.fieldAddr s X g) ty [(.elt (cs.drop a),b1)] [] (v0 (.elt (cs.drop (a + off)))):=by
 have:=Gw.fieldE (P:=P) (tk:=tk) (x:=X) (ty:=ty) (b:=b1) h ht hz (cs:=cs.drop a) (by rw [aJ4]; omega)
 rwa [aZg] at this
theorem Gq {sz' a:Nat} {cs:List C} {c:C} (ht:Ty P t false sz') (h:cs[a]?=some c):Gw P tk (.load t X) ty [(.elt (cs.drop a),b1)] [] (v0 (V2 c)):=.loadE1 ht (by rw [aP4]; exact h)
theorem I2 {m a:Nat} {cs cs2:List C} (ht:Ty P t true m) (h:(cs.drop a).take m=cs2) (hl:a + m<=cs.length):Gw P tk (.load t X) ty [(.elt (cs.drop a),b1)] [] (v0 (.agg (cs2.map V2))):=by
 subst h
 exact .loadEA ht (by rw [aJ4]; omega)
theorem aBq {m a s:Nat} {cs cs2:List C} (ht:Ty P t true m) (h:(cs.drop a).take m=cs2) (hl:a + m<=cs.length):Gw P tk (.load t X) ty [(.ptr kr a,some (.row e' s cs))] [] (v0 (.agg (cs2.map V2))):=by
 subst h
 exact .loadRA ht hl
theorem Yi {i s:Nat} {cs cs' cs2:List C} {ag:Bool} {d:DV} {sz':Nat} {ck:List (Option Nat)} (ht:Ty P t ag sz') (hs:(Do d).length=sz') (hi:i + sz'<=cs.length) (hk:Kx P 20 t=ck) (hd:M2 ck (Do d) cs') (h:El cs i cs'=cs2):Gw P tk (.store t X Y) ty [(.ptr kr i,some (.row e' s cs)),(d,b2)] [kr] (P1 kr (.row e' s cs2)):=by
 subst h
 exact .storeR ht hs hi hk hd
theorem Lw {d d':DV×Option LB} {l' l2:List α} {ks:List Nat} {kk:Nat} {cs cs':List C} (hS:Iy P t e sz bytes) (hf:∀ x,(f x).length=sz) (ht:Tgt d e sz cs ks) (hc:cs=Ai f l) (hs:qH d' sz cs') (hc':cs'=Ai f l') (h:Gy kk l l'=some l2) (hk:sz * bytes=kk):Gw P tk (.call ⟨.builtin .append,#[X,Y],#[t,t]⟩) ty [d,d'] ks (P6 tk (.row e sz (Ai f l2)) ks (.row tk)):=by
 subst hc hc'
 obtain⟨h1,rfl⟩:=zQ h
 rw [R7]
 refine .append hS ht hs ?_
 rw [I6 hf,I6 hf,<- aY3,Nat.mul_assoc,hk]
 exact h1
section
variable {lo hi:Operand} {a b:Int} {ka kb:IntKind} {b3:Option LB} {m:List α}
theorem zN (hS:Iy P t e sz bytes) (hf:∀ x,(f x).length=sz) (h:Zz l a (l.length:Int)=some m):Gw P tk (.slice t X (some lo) none none) ty [(.sl sz (Ai f l),b1),(.val (.int ka a),b2)] [] (v0 (.sl sz (Ai f m))):=by
 obtain⟨i,j,rfl,hj,h1,h2,rfl⟩:=Zb h
 have:j=l.length:=by omega
 subst this
 rw [<- oA hf l i l.length h1 h2]
 exact .sliS hS (I6 hf l) ⟨⟨_,_,_,rfl,rfl⟩,rfl⟩ ⟨h1,h2⟩
theorem zU (hS:Iy P t e sz bytes) (hf:∀ x,(f x).length=sz) (h:Zz l 0 b=some m):Gw P tk (.slice t X none (some hi) none) ty [(.sl sz (Ai f l),b1),(.val (.int kb b),b2)] [] (v0 (.sl sz (Ai f m))):=by
 obtain⟨i,j,hi',rfl,h1,h2,rfl⟩:=Zb h
 have:i=0:=by omega
 subst this
 rw [<- oA hf l 0 j h1 h2]
 exact .sliS hS (I6 hf l) ⟨⟨_,_,_,rfl,rfl⟩,rfl⟩ ⟨h1,h2⟩
end
theorem aIe {src dst:TypeId} {s:ByteArray} (hs:P.underlying src=some .string) (hd:P.underlying dst=some (.slice e)) (he:P.underlying e=some (.int .u8)):Gw P tk (.convert src dst X) ty [(.val (.string s),b1)] [] (v0 (.sl 1 (Ai e8 (Oz s)))):=by
 have:=Gw.convB (P:=P) (tk:=tk) (x:=X) (ty:=ty) (b:=b1) (s:=s) hs hd he
 rw [<- aRw] at this
 exact this
end
theorem wN {k:IntKind} {l:List Int} {j:Nat} {x:Int} (h:l[j]?=some x):(l.map fun x=>DV.val (.int k x))[j]?=some (.val (.int k x)):=by rw [aPc,h]; rfl
theorem Cv.frzE {σ:St} {θ:Nat->Option Nat} {j e sz:Nat} {cs:List C} (h:σ.L j=some (.row e sz cs)) (h':(match σ.L j with | some _=>true | none=>false)=true) (hn:∀ k,θ k≠some j):Cv σ θ (.row j) (.sl sz cs):=.frz h hn
end Go.Proofs.YtobamahlipiakaaGreat
namespace Go.Proofs.YtobamahlipiakaaGreat
open Go.RowKit
mutual
theorem yE (f:Nat->Nat):∀ d,Me d=[]->N5 f d=d
 | .row _,h=>by simp [Me] at h
 | .part _ _ _,h=>by simp [Me] at h
 | .ptr _ _,h=>by simp [Me] at h
 | .val _,_=>rfl
 | .sl _ _,_=>rfl
 | .slc _ _,_=>rfl
 | .mp _,_=>rfl
 | .elt _,_=>rfl
 | .agg ds,h=>by unfold Me at h; unfold N5; rw [Rf f ds h]
 | .tup ds,h=>by unfold Me at h; unfold N5; rw [Rf f ds h]
 | .clo _ _ ds,h=>by unfold Me at h; unfold N5; rw [Rf f ds h]
theorem Rf (f:Nat->Nat):∀ ds,O3 ds=[]->O4 f ds=ds
 | [],_=>rfl
 | d :: ds,h=>by
  unfold O3 at h
  have h1:=List.append_eq_nil_iff.1 h
  unfold O4
  rw [yE f d h1.1,Rf f ds h1.2]
end
def rD:LB->List Nat
 | .box ds _=>O3 ds
 | .row ..=>[]
 | .map _=>[]
 | .mit k _ _=>[k]
 | .lop _ ds _ _=>O3 ds
 | .vec ds _=>O3 ds
theorem aI3 (f:Nat->Nat) {lb:LB} (h:rD lb=[]):zR f lb=lb:=by
 cases lb with
 | box ds ty=>
  show LB.box (O4 f ds) ty=_
  rw [Rf f ds h]
 | row=>rfl
 | map=>rfl
 | mit=>cases h
 | lop ts ds N rc=>
  show LB.lop ts (O4 f ds) N rc=_
  rw [Rf f ds h]
 | vec ds e=>
  show LB.vec (O4 f ds) e=_
  rw [Rf f ds h]
def eP (ps gs:List Nat) (r:DV) (bx:List LB):Ow:=⟨some r,fun k=>match H9 (ps.zip bx) k with | some lb=>some (some lb) | none=>bif gs.any (Nat.beq k) then some none else none⟩
theorem sV {ps:List Nat} {tk:Nat}:∀ {l:List Nat} {b:List LB} {i:Nat},(∀ j,l[j]?=ps[i + j]?)->b.length=l.length->(∀ lb∈b,rD lb=[])->W5 ps tk i b=l.zip b
 | [],[],_,_,_,_=>rfl
 | x :: l,lb :: b,i,hl,hb,ht=>by
  unfold W5
  have h0:=hl 0
  simp only [Nat.add_zero] at h0
  have e1:G9 ps tk i=x:=by
   unfold G9
   rw [<- h0]
   rfl
  rw [e1,aI3 _ (ht lb (aI4 ..)),sV (l:=l) (fun j=>by have:=hl (j + 1); rw [show i + 1 + j=i + (j + 1) by omega,<- this]; rfl) (by simpa using hb) fun lb h=>ht lb (aHu _ h)]
  rfl
 | [],_ :: _,_,_,h,_=>by simp at h
 | _ :: _,[],_,_,h,_=>by simp at h
theorem pR {ps gs:List Nat} {tk:Nat} {r:DV} {b:List LB} (hr:Me r=[]) (hl:b.length=ps.length) (hb:∀ lb∈b,rD lb=[]):On ps gs tk r b=eP ps gs r b:=by
 unfold On eP
 rw [yE _ _ hr,sV (l:=ps) (fun j=>by rw [aR3]) hl hb]
 rfl
section
variable {P:Program} {cx:Cx} {ops:Array Oper} {Rt:Option (List Nat)} {nb i:Nat} {l:List Oper} {lg:oP} {σ:St} {Q:St->Prop} {fz:List Nat}
theorem gD {dst:Option Tmp} {f:FuncId} {xs:Array Operand} {tys:Array TypeId} {ty:TypeId} {pos:String} {af:Array Edge} {g:Option (Nat×Bool)} {dsA:List (DV×Option LB)} {rd ps gs:List Nat} {args:List DV} {bx:List LB} {d:DV} {b:List LB} (fl:Bool)
  (G:Kr ops σ ⟨dst,.call ⟨.value (.func f),xs,tys⟩,ty,pos,af,g⟩=some true)
  (hF:Fn P f ps.length args bx (fun d' b'=>d'=d/\b'=b)) (hds:Fz σ true xs.toList=some dsA) (hrd:Qe σ 3 (Rm dsA)=rd) (hA:K0 fl (ps ++ gs) (Jc σ rd) (dsA.map (·.1)) args) (hB:X8 fl (ps ++ gs) (Jc σ rd) (ps ++ gs) bx) (hnd:N1 cx.np ps gs=true) (hfl:fl=true->Kg d/\∀ lb∈b,N4 lb)
  (hok:Mc Rt i true (nb + 8 * i) rd (ps ++ gs) lg=true) (hr:Me d=[]) (hl:b.length=ps.length) (hb:b.flatMap rD=[])
  (k:Chain (D9 P cx fz) ops Rt nb (idx (i + 1) l) ((i,true,nb + 8 * i,rd,ps ++ gs) :: lg) (σ.app dst (eP ps gs d b)) Q) :
  Chain (D9 P cx fz) ops Rt nb (idx i (⟨dst,.call ⟨.value (.func f),xs,tys⟩,ty,pos,af,g⟩ :: l)) lg σ Q:=by
 refine Jw fl G hF hds hrd hA hB hnd (fun h r b=>?_) hok (fun _=>⟨_,_,⟨rfl,rfl⟩,by omega,by omega⟩) fun r b=>?_
 ·rintro⟨rfl,rfl⟩; exact hfl h
 ·rintro⟨rfl,rfl⟩
  rw [pR hr hl fun lb h=>?_]
  ·exact k
  ·have:=bA5.1 hb lb h
   exact this
theorem So {dst:Option Tmp} {t:Tmp} {f:FuncId} {q:Option LB} {xs:Array Operand} {tys:Array TypeId} {ty:TypeId} {pos:String} {af:Array Edge} {g:Option (Nat×Bool)} {dsA:List (DV×Option LB)} {rd ps gs:List Nat} {args:List DV} {bx:List LB} {d:DV} {b:List LB} (fl:Bool)
  (G:Kr ops σ ⟨dst,.call ⟨.value (.tmp t),xs,tys⟩,ty,pos,af,g⟩=some true) (hc:ev σ true (.tmp t)=some (.val (.func (.func f) #[] #[]),q))
  (hF:Fn P f ps.length args bx (fun d' b'=>d'=d/\b'=b)) (hds:Fz σ true xs.toList=some dsA) (hrd:Qe σ 3 (Rm dsA)=rd) (hA:K0 fl (ps ++ gs) (Jc σ rd) (dsA.map (·.1)) args) (hB:X8 fl (ps ++ gs) (Jc σ rd) (ps ++ gs) bx) (hnd:N1 cx.np ps gs=true) (hfl:fl=true->Kg d/\∀ lb∈b,N4 lb)
  (hok:Mc Rt i true (nb + 8 * i) rd (ps ++ gs) lg=true) (hr:Me d=[]) (hl:b.length=ps.length) (hb:b.flatMap rD=[])
  (k:Chain (D9 P cx fz) ops Rt nb (idx (i + 1) l) ((i,true,nb + 8 * i,rd,ps ++ gs) :: lg) (σ.app dst (eP ps gs d b)) Q) :
  Chain (D9 P cx fz) ops Rt nb (idx i (⟨dst,.call ⟨.value (.tmp t),xs,tys⟩,ty,pos,af,g⟩ :: l)) lg σ Q:=by
 refine aEl fl G hc hF hds hrd hA hB hnd (fun h r b=>?_) hok (fun _=>⟨_,_,⟨rfl,rfl⟩,by omega,by omega⟩) fun r b=>?_
 ·rintro⟨rfl,rfl⟩; exact hfl h
 ·rintro⟨rfl,rfl⟩
  rw [pR hr hl fun lb h=>?_]
  ·exact k
  ·have:=bA5.1 hb lb h
   exact this
theorem E1 {dst:Option Tmp} {t:Tmp} {f:FuncId} {n:Nat} {cs:List DV} {q:Option LB} {xs:Array Operand} {tys:Array TypeId} {ty:TypeId} {pos:String} {af:Array Edge} {g:Option (Nat×Bool)} {dsA:List (DV×Option LB)} {rd ps gs:List Nat} {args:List DV} {bx:List LB} {d:DV} {b:List LB} (fl:Bool)
  (G:Kr ops σ ⟨dst,.call ⟨.value (.tmp t),xs,tys⟩,ty,pos,af,g⟩=some true) (hc:ev σ true (.tmp t)=some (.clo f n cs,q))
  (hF:Fn P f ps.length args bx (fun d' b'=>d'=d/\b'=b)) (hds:Fz σ true xs.toList=some dsA) (hrd:Qe σ 3 (O3 cs ++ Rm dsA)=rd) (hA:K0 fl (ps ++ gs) (Jc σ rd) (cs.take n ++ (dsA.map (·.1) ++ cs.drop n)) args) (hB:X8 fl (ps ++ gs) (Jc σ rd) (ps ++ gs) bx) (hnd:N1 cx.np ps gs=true) (hfl:fl=true->Kg d/\∀ lb∈b,N4 lb)
  (hok:Mc Rt i true (nb + 8 * i) rd (ps ++ gs) lg=true) (hr:Me d=[]) (hl:b.length=ps.length) (hb:b.flatMap rD=[])
  (k:Chain (D9 P cx fz) ops Rt nb (idx (i + 1) l) ((i,true,nb + 8 * i,rd,ps ++ gs) :: lg) (σ.app dst (eP ps gs d b)) Q) :
  Chain (D9 P cx fz) ops Rt nb (idx i (⟨dst,.call ⟨.value (.tmp t),xs,tys⟩,ty,pos,af,g⟩ :: l)) lg σ Q:=by
 refine eR fl G hc hF hds hrd hA hB hnd (fun h r b=>?_) hok (fun _=>⟨_,_,⟨rfl,rfl⟩,by omega,by omega⟩) fun r b=>?_
 ·rintro⟨rfl,rfl⟩; exact hfl h
 ·rintro⟨rfl,rfl⟩
  rw [pR hr hl fun lb h=>?_]
  ·exact k
  ·have:=bA5.1 hb lb h
   exact this
end
section
variable {P:Program} {tk:Nat} {t ty yt:TypeId} {X Y:Operand} {b1 b2:Option LB} {k k':IntKind} {x y:Int}
theorem We (k:IntKind) (z:Int):Gd (.int k (k.wrap z))=true:=by
 rw [I7]
 cases k <;> simp [IntKind.wrap,IntKind.bits,IntKind.signed,IntKind.min,IntKind.max] <;> (try split) <;> omega
theorem aMw:Gw P tk (.binOp .sub t X Y yt) ty [(.val (.int k x),b1),(.val (.int k y),b2)] [] (v0 (.val (.int k (k.wrap (x - y))))):=.binOp (fun _ _=>We _ _) xY
theorem aMn:Gw P tk (.binOp .mul t X Y yt) ty [(.val (.int k x),b1),(.val (.int k y),b2)] [] (v0 (.val (.int k (k.wrap (x * y))))):=.binOp (fun _ _=>We _ _) yJ
theorem aNw:Gw P tk (.binOp .and t X Y yt) ty [(.val (.int k x),b1),(.val (.int k y),b2)] [] (v0 (.val (.int k (eX k x y)))):=.binOp (fun _ _=>We _ _) (fun w=>by simp [eqGuard,binOp,Op.intBits,eX])
theorem aN7:Gw P tk (.binOp .xor t X Y yt) ty [(.val (.int k x),b1),(.val (.int k y),b2)] [] (v0 (.val (.int k (Sr k x y)))):=.binOp (fun _ _=>We _ _) (fun w=>by simp [eqGuard,binOp,Op.intBits,Sr])
theorem aH9 (k:IntKind):k.min<=0/\0<=k.max:=by cases k <;> decide
theorem sQ {x d:Int} (hx:x<=0) (hd:0 < d):x / d<=0:=by
 rcases Int.lt_trichotomy (x / d) 0 with h | h | h
 ·omega
 ·omega
 ·exfalso
  have h1:=Int.mul_ediv_add_emod x d
  have h2:=Int.emod_nonneg x (show d≠0 by omega)
  have h3:d * 1<=d * (x / d):=Int.mul_le_mul_of_nonneg_left (by omega) (by omega)
  omega
theorem nF {z:Int} (h:Rn k x y=some z):Gw P tk (.binOp .shr t X Y yt) ty [(.val (.int k x),b1),(.val (.int k' y),b2)] [] (v0 (.val (.int k z))):=by
 obtain⟨h0,rfl⟩:=aA1 h
 refine .binOp (fun hx _=>?_) (fun w=>by simp [eqGuard,binOp,Op.shift,h0])
 rw [I7] at hx ⊢
 have hm:=aH9 k
 have hd:(0:Int) < 2 ^ min y.toNat k.bits:=Int.pow_pos (by omega)
 generalize (2:Int) ^ min y.toNat k.bits=d at hd
 rw [bAx _ (Int.le_of_lt hd)]
 rcases Int.le_total 0 x with hx0 | hx0
 ·have h1:=Int.ediv_nonneg hx0 (Int.le_of_lt hd)
  have h2:=Int.ediv_le_self d hx0
  omega
 ·have h1:x<=x / d:=by
   have:=Int.mul_ediv_add_emod x d
   have h3:=Int.emod_nonneg x (show d≠0 by omega)
   have h4:x / d<=0:=sQ hx0 hd
   have h5:d * (x / d)<=1 * (x / d):=Int.mul_le_mul_of_nonpos_right (by omega) h4
   have h6:=Int.emod_lt_of_pos x hd
   by_cases h7:x / d=0
   ·omega
   ·have h8:x / d<=-1:=by omega
    have h9:(d - 1) * (x / d)<=(d - 1) * (-1):=Int.mul_le_mul_of_nonneg_left h8 (by omega)
    have h10:d * (x / d)=(d - 1) * (x / d) + x / d:=by rw [Int.sub_mul,Int.one_mul]; omega
    omega
  have h2:x / d<=0:=sQ hx0 hd
  omega
theorem aL7 {z:Int} (h:jL k x y=some z):Gw P tk (.binOp .shl t X Y yt) ty [(.val (.int k x),b1),(.val (.int k' y),b2)] [] (v0 (.val (.int k z))):=by
 obtain⟨h0,rfl⟩:=zF h
 exact .binOp (fun _ _=>We _ _) (fun w=>by simp [eqGuard,binOp,Op.shift,h0])
theorem aGe {src dst:TypeId} (hs:P.underlying src=some (.int k)) (hd:P.underlying dst=some (.int k')):Gw P tk (.convert src dst X) ty [(.val (.int k x),b1)] [] (v0 (.val (.int k' (k'.wrap x)))):=
 .conv (by unfold xE; rw [hs]) (by unfold xE; rw [hd]) (fun _=>We _ _) (pK (by rw [hs]; rfl) hd)
theorem aEg {s:ByteArray} {u:UInt8} (ht:P.underlying t=some .string) (h:oI s x=some u):Gw P tk (.index t X Y) ty [(.val (.string s),b1),(.val (.int k x),b2)] [] (v0 (.val (.int .u8 (u.toNat:Int)))):=by
 unfold oI at h
 split at h
 ·cases h
 ·rename_i h0
  have h1:0<=x:=by omega
  have hlt:=(aJi.1 h).1
  have hs:s[x.toNat]?=some u:=by
   have hlt':x.toNat < s.size:=hlt
   rw [getElem?_pos s x.toNat hlt']
   have:=(aJi.1 h).2
   exact congrArg some this
  exact .indexS (fun _ _=>ok8 _) (fun w=>by simp [Instr.index,asIntOf,run_underlying ht,h1,hs])
theorem aMt {a b:ByteArray}:Gw P tk (.binOp .geq t X Y yt) ty [(.val (.string a),b1),(.val (.string b),b2)] [] (v0 (.val (.bool (!ltT (Oz a) (Oz b))))):=.binOp (fun _ _=>rfl) (fun w=>by
 simp [eqGuard,binOp,Op.stringOp,aC7,ByteArray.toList_eq,Oz])
end
section
variable {α:Type} {f:α->List C} {sz:Nat}
theorem wT (hf:∀ x,(f x).length=sz) {l:List α} {i n:Nat} (h:i + n<=l.length):i * sz + n * sz<=(Ai f l).length:=by
 rw [I6 hf,<- aY3]
 exact aSt _ h
theorem iB (hf:∀ x,(f x).length=sz) (h0:0 < sz) {l:List α} (h:Ai f l=[]):l=[]:=by
 have:=I6 hf l
 rw [h] at this
 rcases bA3.1 this.symm with h1 | h1
 ·exact aG6 h1
 ·omega
end
section
variable {P:Program} {tk:Nat} {t ty e sz bytes:Nat} {X Y:Operand} {b1 b2 b3:Option LB} {α:Type} {f:α->List C} {l m:List α} {n:Int} {k ka kb:IntKind} {j kr e':Nat} {x:α} {lo hi:Operand} {a b:Int}
theorem yV (hS:Iy P t e sz bytes) (hf:∀ x,(f x).length=sz) (h:Zz l a (l.length:Int)=some m):Gw P tk (.slice t X (some lo) none none) ty [(.row kr,some (.row e' sz (Ai f l))),(.val (.int ka a),b2)] [] (v0 (.part kr (a.toNat * sz) ((l.length:Int).toNat - a.toNat))):=by
 obtain⟨i,j,rfl,hj,h1,h2,rfl⟩:=Zb h
 have:j=l.length:=by omega
 subst this
 exact .sliR hS (I6 hf l) ⟨⟨_,_,_,rfl,rfl⟩,rfl⟩ ⟨h1,h2⟩
theorem yQ (hS:Iy P t e sz bytes) (hf:∀ x,(f x).length=sz) (h:Zz l 0 b=some m):Gw P tk (.slice t X none (some hi) none) ty [(.row kr,some (.row e' sz (Ai f l))),(.val (.int kb b),b3)] [] (v0 (.part kr ((0:Int).toNat * sz) (b.toNat - (0:Int).toNat))):=by
 obtain⟨i,j,hi',rfl,h1,h2,rfl⟩:=Zb h
 have:i=0:=by omega
 subst this
 have e0:(0:Int).toNat * sz=0 * sz:=rfl
 exact .sliR hS (I6 hf l) ⟨⟨_,_,_,rfl,rfl⟩,rfl⟩ ⟨h1,h2⟩
theorem eN {sz:Nat}:∀ (ds:List DV) (k:Nat) (pre rest:List DV),pre.length=k * sz->rest.length=ds.length * sz->(∀ d∈ds,(Do d).length=sz)->Jd (fun i=>some (i * sz,sz)) (pre ++ rest) ((List.range' k ds.length).zip ds)=some (pre ++ ds.flatMap Do)
 | [],k,pre,rest,_,hr,_=>by
  have:rest=[]:=aG6 (by simpa using hr)
  subst this
  simp [Jd]
 | d :: ds,k,pre,rest,hp,hr,hd=>by
  have h0:=hd d (aI4 ..)
  have hr':rest.length=ds.length * sz + sz:=by rw [hr,aJw,aY3,bBb]
  rw [aJw,List.range'_succ,List.zip_cons_cons]
  unfold Jd
  simp only []
  have c1:Nat.beq (Do d).length sz=true:=by rw [h0]; exact bA1 _
  have c2:Nat.ble (k * sz + sz) (pre ++ rest).length=true:=aT7 (by rw [aF3,hp,hr']; omega)
  rw [c1,c2]
  simp only [Bool.and_self,aEa]
  have e1:El (pre ++ rest) (k * sz) (Do d)=(pre ++ Do d) ++ rest.drop sz:=by
   unfold El
   rw [h0,<- hp,List.take_left,<- aZg,bBs,aTn]
  rw [e1,eN ds (k + 1) (pre ++ Do d) (rest.drop sz) (by rw [aF3,hp,h0,aY3,bBb]) (by rw [aJ4,hr']; omega) fun x hx=>hd x (aHu _ hx)]
  rw [aOo,aTn]
theorem D0 {len:Nat} {parts:Array (Nat×Operand)} {ds:List (DV×Option LB)} {z:List Value} {cs:List C} {ck:List (Option Nat)} (hS:Iy P t e sz bytes) (hz:Zt P e z) (hlen:len * sz<=16777216) (hp:parts.toList.map (·.1)=List.range' 0 len) (hzl:z.length=sz) (hn:ds.length=len) (hs:ds.all (fun q=>Nat.beq (Do q.1).length sz)=true) (hk:Kx P 20 e=ck) (hc:M2 (List.replicate len ck).flatten (ds.flatMap fun q=>Do q.1) cs) (ho:ds.all (fun q=>(Do q.1).all eG)=true) (h:Ai f l=cs):Gw P tk (.buildSlice t len parts) ty ds [] (Rj tk (.row e sz (Ai f l)) (.row tk)):=by
 subst h
 refine .buildSl hS hz hlen ?_ hk hc ho
 have hd:=eN (sz:=sz) (ds.map (·.1)) 0 [] ((List.replicate len (z.map DV.val)).flatten) (by simp) (by simp [hzl,hn]) fun d hd=>by
  obtain⟨q,hq,rfl⟩:=aOq.1 hd
  exact aF5 (aH8.1 hs q hq)
 rw [aSw,aSw,aYw,hn] at hd
 rw [hp,hd]
 congr 1
 rw [List.flatMap_map]
theorem aCj {i bt sz':Nat} {ds ds':List DV} {ag:Bool} {d:DV} {kk:Nat} (ht:Ty P t ag sz') (hs:(Do d).length=sz') (hi:i + sz'<=ds.length) (ho:(Do d).all eG=true) (h:El ds i (Do d)=ds'):Gw P tk (.store t X Y) ty [(.ptr kk i,some (.box ds bt)),(d,b2)] [kk] (P1 kk (.box ds' bt)):=by
 subst h
 exact .storeB ht hs hi ho
theorem mL {tk2:Nat} {m':Nat} {ds:List DV} {L:List α} (ht:P.underlying t=some (.array m' e)) (he:Ty P e true sz) (hf:∀ x,(f x).length=sz) (hds:ds=(Ai f L).map V2) (hL:L.length=m') (hx:Bm L n=some x) {d2:List DV} (h2:(f x).map V2=d2):Gw P tk2 (.index t X Y) ty [(.agg ds,b1),(.val (.int k n),b2)] [] (v0 (.agg d2)):=by
 have hx':=D5 hx
 refine .indexAA ht he (Tl hx) (by rw [<- hL]; exact (aDx.1 hx').1) ?_
 rw [hds,<- List.map_drop,<- List.map_take,<- h2]
 congr 1
 exact Jj hf hx' (o:=0) (by rw [bBe]; exact aJ0 (aZo (hf _))) (by omega) rfl
end
def eA {α:Type} [Inhabited α] (n:Nat) (f:α->List C) (x:List α):List C:=(List.range n).flatMap fun i=>f (x[i]!)
theorem aNp {α:Type} [Inhabited α] {n sz:Nat} {f:α->List C} (hf:∀ x,(f x).length=sz) (x:List α):(eA n f x).length=n * sz:=by
 unfold eA
 induction n with
 | zero=>simp
 | succ n ih=>rw [List.range_succ,List.flatMap_append,aF3,ih,aOo,aVf,aVv,hf,aY3,bBb]
class Stp (p:Prop) (q:outParam Prop):Prop where
 go:q->p
theorem st_ {p q:Prop} [s:Stp p q] (h:q):p:=s.go h
section
variable {next:St->Prop} {Q:Exit->St->Prop} {i:Nat} {σ:St}
instance:Stp (thn next Q .normal σ) (next σ):=⟨fun h=>h⟩
instance:Stp (thn next Q (.exit i) σ) (Q (.exit i) σ):=⟨fun h=>h⟩
instance:Stp (thn next Q .ret σ) (Q .ret σ):=⟨fun h=>h⟩
instance:Stp (inB i Q (.exit i) σ) (Q .normal σ):=⟨fun h=>aA7 h⟩
instance:Stp (inB i Q .normal σ) (Q .normal σ):=⟨fun h=>h⟩
instance:Stp (inB i Q .ret σ) (Q .ret σ):=⟨fun h=>h⟩
instance:Stp (noG Q .normal σ) (Q .normal σ):=⟨fun h=>h⟩
instance:Stp (noG Q (.exit i) σ) (Q (.exit i) σ):=⟨fun h=>h⟩
instance:Stp (noG Q .ret σ) (Q .ret σ):=⟨fun h=>h⟩
end
class aAv (p:Prop) (q:outParam Prop):Prop where
 go:q->p
instance (priority:=low) stpN_nil (p:Prop):aAv p p:=⟨fun h=>h⟩
instance aOp {p p' q:Prop} [s:Stp p p'] [t:aAv p' q]:aAv p q:=⟨fun h=>s.go (t.go h)⟩
theorem aCd {P:Program} {cx:Cx} {Q:Exit->St->Prop} {σ:St} {q:Prop} [s:aAv (Q .ret σ) q] (h:q):M1 P cx .ret Q σ:=dL (s.go h)
theorem sn_ {Q:Exit->St->Prop} {i j:Nat} {σ:St} (h:Q (.exit j) σ) (hne:j≠i:=by decide):inB i Q (.exit j) σ:=aAo hne h
theorem jF {P:Program} {cx:Cx} {id:Nat} {l:List Oper} {σ:St} {y:Code} {Q:Exit->St->Prop} (nb nb':Nat) (B:∀ k,nb<=k->σ.U k=false)
  (h:Chain (D9 P cx []) l.toArray none nb (idx 0 l) [] σ (fun σ'=>(∀ j,nb'<=j->σ'.U j=false)->thn (M1 P cx y Q) Q .normal σ')) (hn:Nat.ble (nb + 8 * l.length) nb'=true:=by rfl) (hd:nE cx.N l=true:=by rfl):M1 P cx (.seq (.region id l.toArray false) y) Q σ:=
 Ay (Ci (D9 _ _ []) nb nb' B hn hd h)
section
variable {P:Program} {cx:Cx} {ops:Array Oper} {Rt:Option (List Nat)} {nb i:Nat} {l:List Oper} {lg:oP} {σ:St} {Q:St->Prop} {fz:List Nat}
theorem qK {Q:Exit->St->Prop} {nb':Nat} {q:Prop} [s:aAv (Q .normal σ) q] (h:(∀ j,nb'<=j->σ.U j=false)->q):Chain (D9 P cx fz) ops Rt nb (idx i []) lg σ (fun σ'=>(∀ j,nb'<=j->σ'.U j=false)->Q .normal σ'):=aT0 fun B=>s.go (h B)
theorem F0 {dst:Option Tmp} {op:Op} {ty:TypeId} {pos:String} {af:Array Edge} {g:Option (Nat×Bool)} {ds:List (DV×Option LB)} {wr:List Nat} {e:Ow} (G:Kr ops σ ⟨dst,op,ty,pos,af,g⟩=some true) (hds:Fz σ (K7 op) op.operands.toList=some ds) (h:Gw P (nb + 8 * i) op ty ds wr e)
  (hrd:(bif K7 op then Mw (Nm op) ds else [])=[]) (hok:Mc Rt i false (nb + 8 * i) [] wr lg=true) (k:Chain (D9 P cx fz) ops Rt nb (idx (i + 1) l) ((i,false,nb + 8 * i,[],wr) :: lg) (σ.app dst e) Q) (hz:zM fz (nb + 8 * i)=0:=by rfl) (hap:P2 cx.np op wr=true:=by rfl) :
  Chain (D9 P cx fz) ops Rt nb (idx i (⟨dst,op,ty,pos,af,g⟩ :: l)) lg σ Q:=Sk (rd:=[]) G hds h hrd hok k hz hap
end
end Go.Proofs.YtobamahlipiakaaGreat
namespace Go.Proofs.YtobamahlipiakaaGreat
open Go.RowKit
theorem Rr.cut {cx:Cx} {σ σ':St} {t k n e sz:Nat} {cs:List C} (hk:cx.np<=k) (hF:σ.F t=some (.part k 0 n)) (hL:σ.L k=some (.row e sz cs)) (hn:n * sz<=cs.length)
  (hF':∀ s d,σ'.F s=some d->(d=.row k/\s=t)\/(σ.F s=some d/\¬ men d k)) (hL':∀ j lb,σ'.L j=some lb->(j=k/\lb=.row e sz (cs.take (n * sz)))\/(j≠k/\σ.L j=some lb/\¬ Uy lb k)) (B:∀ j,σ'.U j=σ.U j):Rr cx σ σ':=by
 rintro a w ⟨ρ,h⟩
 obtain⟨N,us,q1,q0,q2⟩:=h.lo _ _ hL
 have hr:=h.fr _ _ hF
 unfold C3 at hr
 obtain⟨A,c,hv,hnc,hc,hA,hB⟩:=hr
 have hlen:n * sz<=us.length:=by rw [<- q2.1]; exact hn
 have hblk:∀ b,Cu (a.tmps.getD t undef)=some b->Cu (ρ k)=some b:=fun b hb=>by
  rcases q1.2 with ⟨A',e,-⟩ | ⟨g',cap,cur,e,r1,-⟩
  ·obtain⟨t1,t2⟩:=hB rfl _ _ _ e
   rw [hv,t2] at hb
   cases A <;> cases hb
  ·obtain⟨t1,t2⟩:=hB rfl _ _ _ e
   rw [hv,t1] at hb
   rw [e,Kp r1,(Gx hb).1]
 have hown:w.rowOk e sz (a.tmps.getD t undef) n (us.take (n * sz)):=by
  refine⟨by rw [aJj]; omega,?_⟩
  rcases q1.2 with ⟨A',e,q3⟩ | ⟨g,cap,cur,e,r1,r2,r3,r4,r5,r6⟩
  ·obtain⟨t1,t2⟩:=hB rfl _ _ _ e
   refine .inl ⟨A',by rw [hv,t1,t2]; congr 1; omega,by omega⟩
  ·obtain⟨t1,t2⟩:=hB rfl _ _ _ e
   refine .inr ⟨g,cap,cur,by rw [hv,t1,t2],r1,r2,by omega,r4,r5,?_⟩
   have hle:n * sz<=N * sz:=by rw [<- q1.1]; exact hlen
   rw [<- r6,bBr,bAp hle]
 let ρ':Nat->Value:=fun j=>if j=k then a.tmps.getD t undef else ρ j
 have hk':ρ' k=a.tmps.getD t undef:=if_pos rfl
 have ho:∀ j,j≠k->ρ' j=ρ j:=fun j hj=>if_neg hj
 have loc:∀ j lb b,σ'.L j=some lb->Cu (ρ' j)=some b->∃ lb',σ.L j=some lb'/\Cu (ρ j)=some b:=fun j lb b hj hb=>by
  rcases hL' j lb hj with ⟨rfl,-⟩ | ⟨hne,h1,-⟩
  ·rw [hk'] at hb; exact⟨_,hL,hblk b hb⟩
  ·rw [ho j hne] at hb; exact⟨_,h1,hb⟩
 have hI:∀ b,Nc cx σ ρ w b->Nc cx σ' ρ' w b/\w.heap[b]?=w.heap[b]?:=fun b hb=>by
  refine⟨⟨hb.1,fun hl=>?_,hb.2.2⟩,rfl⟩
  obtain⟨j,lb,h1,h2⟩:=hl
  obtain⟨lb',h3,h4⟩:=loc j lb b h1 h2
  exact hb.2.1 ⟨j,lb',h3,h4⟩
 refine⟨ρ',⟨⟨h.defers.1,fun d hd=>(h.defers.2 d hd).imp fun D q=>⟨q.1,(hI D q.2.1).1,q.2.2⟩⟩,h.size,h.kept,fun s d hs=>?_,fun j lb hj=>?_,fun j j' lb lb' b h1 h2 h3 h4=>?_,fun s d j hs hm=>?_,fun j lb hj=>?_,fun j hj=>?_,fun j lb b hj hp hb=>?_⟩⟩
 ·rcases hF' s d hs with ⟨rfl,rfl⟩ | ⟨h1,h2⟩
  ·unfold C3
   rw [hk']
   refine⟨rfl,?_⟩
   rw [hv]; rfl
  ·exact C3.step hI d _ (fun j hj=>ho j fun e=>h2 (e ▸ hj)) (h.fr _ _ h1)
 ·rcases hL' j lb hj with ⟨rfl,rfl⟩ | ⟨hne,h1,h2⟩
  ·rw [hk']
   refine⟨n,us.take (n * sz),hown,fun b hb=>q0 b (hblk b hb),?_⟩
   refine G0.keep_ (w:=w) ⟨by rw [aJj,aJj,q2.1],fun j c u a b=>?_⟩ (fun b hb=>rfl) fun b hb=>(hI b hb).1
   rw [aOs] at a b
   split at a
   ·rename_i hj
    rw [if_pos hj] at b
    exact q2.2 j c u a b
   ·cases a
  ·rw [ho j hne]
   exact (h.lo _ _ h1).step hI (fun j' hj'=>ho j' fun e=>h2 (e ▸ hj')) fun b _=>rfl
 ·obtain⟨_,e1,e2⟩:=loc _ _ _ h1 h3
  obtain⟨_,e3,e4⟩:=loc _ _ _ h2 h4
  exact h.sep _ _ _ _ _ e1 e3 e2 e4
 ·rw [B]
  rcases hF' s d hs with ⟨rfl,rfl⟩ | ⟨h1,h2⟩
  ·unfold men at hm
   subst hm
   exact (h.usedL _ _ hL).1
  ·exact h.usedF _ _ _ h1 hm
 ·rw [B]
  rcases hL' j lb hj with ⟨rfl,rfl⟩ | ⟨hne,h1,h2⟩
  ·exact⟨(h.usedL _ _ hL).1,fun k' hm=>hm.elim⟩
  ·exact⟨(h.usedL _ _ h1).1,fun k' hm=>by rw [B]; exact (h.usedL _ _ h1).2 k' hm⟩
 ·rw [B]
  exact⟨(ho j (by omega)).trans (h.pin j hj).1,(h.pin j hj).2⟩
 ·obtain⟨_,e1,e2⟩:=loc _ _ _ hj hb
  exact h.fresh _ _ _ e1 hp e2
end Go.Proofs.YtobamahlipiakaaGreat
