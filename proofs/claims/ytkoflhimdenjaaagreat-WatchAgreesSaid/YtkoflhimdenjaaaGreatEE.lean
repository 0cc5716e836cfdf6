import Derived.Test.YtkoflhimdenjaaaGreatED
import Derived.KernelRfl
import Derived.Test.YtkoflhimdenjaaaGreatPU
import Derived.Scope
set_option linter.unusedVariables false
set_option linter.unusedSimpArgs false
namespace Go.Proofs.YtkoflhimdenjaaaGreat
open Go.RowKit
section
variable {Q:Exit->St->Prop} {next:St->Prop} {σ:St} {i j:Nat}
theorem sR (h:Q .normal σ):zR i Q (.exit i) σ:=by
 show (if i=i then _ else _)
 rw [if_pos rfl]
 exact h
theorem oK (hne:j≠i) (h:Q (.exit j) σ):zR i Q (.exit j) σ:=by
 show (if j=i then _ else _)
 rw [if_neg hne]
 exact h
end
theorem vP {P:Program} {t ty:TypeId} {s:ByteArray} (h:P.underlying t=some .string):∀ w,∀ cs,(builtin .len #[t] ty cs #[.string s]).run P w=.ok (.value (.int .i64 s.size)) w:=fun w cs=>by
 simp [builtin,Builtin.len_,run_underlying h,goInt]
section
variable {P:Program} {t:TypeId} {X Y:Operand}
end
section
variable {P:Program} {t:TypeId} {X Y:Operand} {k:IntKind} {x y:Int}
end
section
variable {P:Program} {t:TypeId} {X Y:Operand} {a b:ByteArray}
end
theorem Fg {θ:List (Nat×Nat)} {j:Nat} (h:(θ.all fun q=>!Nat.beq q.2 j)=true):∀ k,Fx θ k≠some j:=fun k hk=>by
 have:=aHi.1 h _ (Ik hk)
 simp at this
theorem Bs {P:Program} {cx:Cx} {x y:Code} {Q:Exit->St->Prop} {σ:St} {ι:Type} (mid:ι->St) (ok:ι->Prop) (hx:B4 P cx x (qJ (fun σ'=>∃ i,ok i/\Pt cx σ' (mid i)) Q) σ) (hy:∀ i,ok i->B4 P cx y Q (mid i)):B4 P cx (.seq x y) Q σ:=by
 refine Ak (tG ?_ hx)
 intro e σ' h
 cases e with
 | normal=>
  obtain⟨i,h1,h2⟩:=h
  exact Ey h2 (hy i h1)
 | _=>exact h
end Go.Proofs.YtkoflhimdenjaaaGreat
namespace Go.Proofs.YtkoflhimdenjaaaGreat
open Go.RowKit
mutual
def rF (j:Nat):DV->Bool
 | .part k _ _=>!Nat.beq k j
 | .ptr k _=>!Nat.beq k j
 | .agg ds=>cA j ds
 | .tup ds=>cA j ds
 | .clo _ _ ds=>cA j ds
 | .val _=>true
 | .sl _ _=>true
 | .slc _ _=>true
 | .mp _=>true
 | .elt _=>true
 | .row _=>true
def cA (j:Nat):List DV->Bool
 | []=>true
 | d :: ds=>rF j d && cA j ds
end
mutual
def Ma (j sz:Nat) (cs:List C):DV->DV
 | .row k=>bif Nat.beq k j then .sl sz cs else .row k
 | .agg ds=>.agg (Qk j sz cs ds)
 | .tup ds=>.tup (Qk j sz cs ds)
 | .clo f n ds=>.clo f n (Qk j sz cs ds)
 | .val v=>.val v
 | .sl s c=>.sl s c
 | .slc s c=>.slc s c
 | .mp l=>.mp l
 | .elt c=>.elt c
 | .part k o n=>.part k o n
 | .ptr k i=>.ptr k i
def Qk (j sz:Nat) (cs:List C):List DV->List DV
 | []=>[]
 | d :: ds=>Ma j sz cs d :: Qk j sz cs ds
end
def St.frz (σ:St) (j sz:Nat) (cs:List C):St where
 F:=fun t=>match σ.F t with | some d=>bif rF j d then some (Ma j sz cs d) else none | none=>none
 L:=fun k=>bif Nat.beq k j then none else match σ.L k with | some (.box ds ty)=>(bif cA j ds then some (.box (Qk j sz cs ds) ty) else none) | some (.row e s c)=>some (.row e s c) | _=>none
 U:=σ.U
theorem T6 {a b:Nat} (h:Nat.beq a b=false):a≠b:=fun e=>by
 subst e
 rw [aKj] at h; cases h
section
variable {σ:St} {j e sz:Nat} {cs:List C}
abbrev sS (j:Nat) (k:Nat):Option Nat:=if k=j then none else some k
mutual
theorem Cv.frzD (h:σ.L j=some (.row e sz cs)):∀ d,rF j d=true->Cv σ (sS j) d (Go.Proofs.YtkoflhimdenjaaaGreat.Ma j sz cs d)
 | .val v,_=>by unfold Go.Proofs.YtkoflhimdenjaaaGreat.Ma; exact .val v
 | .sl _ _,_=>by unfold Go.Proofs.YtkoflhimdenjaaaGreat.Ma; exact .sl _ _
 | .slc _ _,_=>by unfold Go.Proofs.YtkoflhimdenjaaaGreat.Ma; exact .slcc _ _
 | .mp _,_=>by unfold Go.Proofs.YtkoflhimdenjaaaGreat.Ma; exact .mp _
 | .elt _,_=>by unfold Go.Proofs.YtkoflhimdenjaaaGreat.Ma; exact .elt _
 | .row k,_=>by
  unfold Go.Proofs.YtkoflhimdenjaaaGreat.Ma
  cases hb:Nat.beq k j with
  | true=>
   have:=aEk hb
   subst this
   refine .frz h fun k' hk'=>?_
   unfold sS at hk'
   split at hk'
   ·cases hk'
   ·rename_i hne
    injection hk' with hk'
    exact hne hk'
  | false=>exact .row (if_neg (T6 hb))
 | .part k _ _,hn=>by
  unfold rF at hn
  unfold Go.Proofs.YtkoflhimdenjaaaGreat.Ma
  exact .part (if_neg (T6 (by simpa using hn)))
 | .ptr k _,hn=>by
  unfold rF at hn
  unfold Go.Proofs.YtkoflhimdenjaaaGreat.Ma
  exact .ptr (if_neg (T6 (by simpa using hn)))
 | .agg ds,hn=>by
  unfold rF at hn
  unfold Go.Proofs.YtkoflhimdenjaaaGreat.Ma
  exact .agg (Sn.frzDs h ds hn)
 | .tup ds,hn=>by
  unfold rF at hn
  unfold Go.Proofs.YtkoflhimdenjaaaGreat.Ma
  exact .tup (Sn.frzDs h ds hn)
 | .clo f n ds,hn=>by
  unfold rF at hn
  unfold Go.Proofs.YtkoflhimdenjaaaGreat.Ma
  exact .clo f n (Sn.frzDs h ds hn)
theorem Sn.frzDs (h:σ.L j=some (.row e sz cs)):∀ ds,cA j ds=true->Sn σ (sS j) ds (Go.Proofs.YtkoflhimdenjaaaGreat.Qk j sz cs ds)
 | [],_=>by unfold Go.Proofs.YtkoflhimdenjaaaGreat.Qk; exact .nil
 | d :: ds,hn=>by
  unfold cA at hn
  simp only [aEw] at hn
  unfold Go.Proofs.YtkoflhimdenjaaaGreat.Qk
  exact .cons (Cv.frzD h d hn.1) (Sn.frzDs h ds hn.2)
end
mutual
theorem mI:∀ (d:DV) (k:Nat),men (Ma j sz cs d) k->men d k
 | .val _,k,h=>by unfold Ma men at h; exact h.elim
 | .sl _ _,k,h=>by unfold Ma men at h; exact h.elim
 | .slc _ _,k,h=>by unfold Ma men at h; exact h.elim
 | .mp _,k,h=>by unfold Ma men at h; exact h.elim
 | .elt _,k,h=>by unfold Ma men at h; exact h.elim
 | .row i,k,h=>by
  unfold Ma at h
  cases hb:Nat.beq i j with
  | true=>rw [hb] at h; simp only [aEn] at h; unfold men at h; exact h.elim
  | false=>rw [hb] at h; exact h
 | .part _ _ _,k,h=>by unfold Ma at h; exact h
 | .ptr _ _,k,h=>by unfold Ma at h; exact h
 | .agg ds,k,h=>by unfold Ma men at h; unfold men; exact Te ds k h
 | .tup ds,k,h=>by unfold Ma men at h; unfold men; exact Te ds k h
 | .clo _ _ ds,k,h=>by unfold Ma men at h; unfold men; exact Te ds k h
theorem Te:∀ (ds:List DV) (k:Nat),Fr (Qk j sz cs ds) k->Fr ds k
 | [],k,h=>by unfold Qk Fr at h; exact h.elim
 | d :: ds,k,h=>by
  unfold Qk Fr at h
  unfold Fr
  exact h.imp (mI d k) (Te ds k)
end
theorem aAg {t:Nat} {d':DV} (h:(σ.frz j sz cs).F t=some d'):∃ d,σ.F t=some d/\rF j d=true/\d'=Ma j sz cs d:=by
 have h':(match σ.F t with | some d=>bif rF j d then some (Ma j sz cs d) else none | none=>none)=some d':=h
 cases hF:σ.F t with
 | none=>rw [hF] at h'; cases h'
 | some d=>
  rw [hF] at h'
  cases hn:rF j d with
  | false=>simp only [hn,aDk] at h'; cases h'
  | true=>simp only [hn,aEn] at h'; injection h' with h'; exact⟨d,rfl,hn,h'.symm⟩
theorem zP {k:Nat} {lb':LB} (h:(σ.frz j sz cs).L k=some lb'):k≠j/\((∃ ds ty,σ.L k=some (.box ds ty)/\cA j ds=true/\lb'=.box (Qk j sz cs ds) ty)\/∃ e s c,σ.L k=some (.row e s c)/\lb'=.row e s c):=by
 have h':(bif Nat.beq k j then none else match σ.L k with | some (.box ds ty)=>(bif cA j ds then some (LB.box (Qk j sz cs ds) ty) else none) | some (.row e s c)=>some (.row e s c) | _=>none)=some lb':=h
 cases hb:Nat.beq k j with
 | true=>rw [hb] at h'; cases h'
 | false=>
  refine⟨T6 hb,?_⟩
  rw [hb] at h'
  simp only [aDk] at h'
  cases hL:σ.L k with
  | none=>rw [hL] at h'; cases h'
  | some lb=>
   rw [hL] at h'
   cases lb with
   | row e s c=>simp only [] at h'; injection h' with h'; exact .inr ⟨e,s,c,rfl,h'.symm⟩
   | map l=>cases h'
   | mit k' n s=>cases h'
   | vec ds e=>cases h'
   | box ds ty=>
    simp only [] at h'
    cases hn:cA j ds with
    | false=>rw [hn] at h'; cases h'
    | true=>rw [hn] at h'; injection h' with h'; exact .inl ⟨ds,ty,rfl,hn,h'.symm⟩
theorem Pt.frz {cx:Cx} (h:σ.L j=some (.row e sz cs)) (hj:Nat.ble cx.np j=true):Pt cx σ (σ.frz j sz cs):=by
 rintro a w ⟨ρ,ha⟩
 have hj':cx.np<=j:=aBe hj
 refine⟨_,(ha.ren (σ':=σ.frz j sz cs) (sS j) (fun t d' hd=>?_) (fun k lb' hl=>?_) (fun k k' i h1 h2=>?_) (fun k hk=>⟨if_neg (by omega),(ha.pin k hk).2⟩) (fun t d k hd hm=>?_) (fun k lb hl=>?_)).1⟩
 ·obtain⟨d,h1,h2,rfl⟩:=aAg hd
  exact⟨d,h1,Cv.frzD h d h2⟩
 ·obtain⟨hne,h1⟩:=zP hl
  refine .inl ?_
  rcases h1 with ⟨ds,ty,h1,h2,rfl⟩ | ⟨e',s,c,h1,rfl⟩
  ·exact⟨k,_,if_neg hne,h1,rfl,Sn.frzDs h ds h2⟩
  ·exact⟨k,_,if_neg hne,h1,rfl,rfl,rfl⟩
 ·unfold sS at h1 h2
  split at h1
  ·cases h1
  ·split at h2
   ·cases h2
   ·injection h1 with h1
    injection h2 with h2
    omega
 ·obtain⟨d',h1,h2,rfl⟩:=aAg hd
  exact ha.usedF t d' k h1 (mI d' k hm)
 ·obtain⟨hne,h1⟩:=zP hl
  rcases h1 with ⟨ds,ty,h1,h2,rfl⟩ | ⟨e',s,c,h1,rfl⟩
  ·exact⟨(ha.usedL k _ h1).1,fun k' hk'=>(ha.usedL k _ h1).2 k' (Te ds k' hk')⟩
  ·exact⟨(ha.usedL k _ h1).1,fun k' hk'=>hk'.elim⟩
end
section
variable {P:Program} {cx:Cx} {ops:Array Oper} {Q:Exit->St->Prop} {l:List Oper} {σ σ':St}
def dZ (P:Program) (cx:Cx) (ops:Array Oper) (Q:Exit->St->Prop) (l:List Oper) (σ:St):Prop:=∀ a w,K2 cx σ a w->wpList P ops (Sk cx Q) l a w
theorem dZ.sub (h:Pt cx σ σ') (k:dZ P cx ops Q l σ'):dZ P cx ops Q l σ:=fun a w ha=>k a w (h a w ha)
theorem dZ.fin (h:Q .normal σ):dZ P cx ops Q [] σ:=fun a w ha=>⟨σ,h,ha⟩
variable {S:vL P cx} {nb nb':Nat}
theorem Xx {l2:List Oper}:∀ (l:List Oper) (k:Nat) (lg:jV) (σ:St) (a:Act) (w:World),Chain S ops none nb (idx k l) lg σ (fun σ'=>(∀ j,nb'<=j->σ'.U j=false)->dZ P cx ops Q l2 σ')->V2 nb (idx k l) σ->uH cx (idx k l)->(∀ j,nb'<=j->σ.U j=false)->nb + 8 * (k + l.length)<=nb'->K2 cx σ a w->wpList P ops (Sk cx Q) (l ++ l2) a w
 | [],k,lg,σ,a,w,h,_,_,B,_,ha=>h B a w ha
 | o :: l,k,lg,σ,a,w,h,hf,hd,B,hn,⟨ρ,ha⟩=>by
  have hf0:=hf (k,o) (by simp [idx])
  have hd0:=hd (k,o) (by simp [idx])
  have hf1:V2 nb (idx (k + 1) l) σ:=fun q hq=>hf q (by simp [idx,hq])
  have hd1:uH cx (idx (k + 1) l):=fun q hq=>hd q (by simp [idx,hq])
  have hne:∀ q∈idx (k + 1) l,q.1≠k:=fun q hq=>by have:=(T4 hq).1; omega
  have hn':nb + 8 * (k + 1 + l.length)<=nb':=by simp at hn; omega
  have hUn:∀ {e:Mn} {wr:List Nat} {rd:List Nat},(∀ j,e.l j≠none->j∈wr\/(nb + 8 * k<=j/\j < nb + 8 * k + 8))->(∀ j,j∈wr->j∈rd)->(∀ j,j∈rd->σ.U j=true)->∀ j,nb'<=j->(σ.app o.dst e).U j=false:=fun {e wr rd} hk hs hu j hj=>by
   cases hc:(σ.app o.dst e).U j with
   | false=>rfl
   | true=>
    rcases mC hc with h1 | h1
    ·rw [B j hj] at h1; cases h1
    ·rcases hk j h1 with h2 | h2
     ·exact absurd (hu j (hs j h2)) (by rw [B j hj]; simp)
     ·simp at hn; omega
  show wpList P ops (Sk cx Q) (o :: (l ++ l2)) a w
  unfold wpList
  rcases h with ⟨rd,wr,e,h1,-,h3⟩ | ⟨rd,wr,E,h1,-,-,h3⟩
  ·have hs:=h1.sound ha hf0 hd0
   have:=hs (wpList P ops (Sk cx Q) (l ++ l2)) (Sk cx Q) fun a' w' ha'=>Xx l (k + 1) _ _ a' w' h3 (hf1.next h1.key.1 (fun j hj=>h1.used ha j (h1.key.2 j hj)) hne) hd1 (hUn h1.key.1 h1.key.2 (h1.used ha)) hn' ha'
   split
   ·rename_i hw
    rw [if_pos hw] at this
    exact .inl this
   ·rename_i hw
    rw [if_neg hw] at this
    exact this
  ·have:=h1.sound ha hf0 hd0 (wpList P ops (Sk cx Q) (l ++ l2)) (Sk cx Q) fun e a' w' he ha'=>Xx l (k + 1) _ _ a' w' (h3 e he) (hf1.next (h1.key.1 e he) (fun j hj=>h1.used ha j (h1.key.2 j hj)) hne) hd1 (hUn (h1.key.1 e he) h1.key.2 (h1.used ha)) hn' ha'
   split
   ·rename_i hw
    rw [if_pos hw] at this
    exact .inl this
   ·rename_i hw
    rw [if_neg hw] at this
    exact this
theorem dZ.chain (S:vL P cx) (m nb nb':Nat) (B:∀ k,nb<=k->σ.U k=false) (hn:Nat.ble (nb + 8 * (l.take m).length) nb'=true) (hd:lA cx.N (l.take m)=true)
  (h:Chain S ops none nb (idx 0 (l.take m)) [] σ (fun σ'=>(∀ j,nb'<=j->σ'.U j=false)->dZ P cx ops Q (l.drop m) σ')):dZ P cx ops Q l σ:=by
 intro a w ha
 have hn':nb + 8 * (l.take m).length<=nb':=aBe hn
 have:=Xx (l2:=l.drop m) (l.take m) 0 [] σ a w h (fun q hq j hj=>B _ (by omega)) (Xe hd) (fun j hj=>B j (by omega)) (by simpa using hn') ha
 rwa [aJw] at this
end
section
variable {P:Program} {f:FuncId} {args:List DV}
theorem Fn.plain {v:Value} {R:DV->List LB->Prop} {vs:List Value} {w:World} (h:Fn P f 0 args [] R) (hR:∀ r b,R r b->r=.val v) (ρ:Nat->Value) (I:Nat->Prop) (hI:∀ b,I b->b < w.heap.size) (hr:Cg ρ I w args vs):Calls P f vs.toArray w fun e w'=>e=.returned v/\Y0 w w':=by
 refine (h.2.2 ρ I w vs (fun b hb=>⟨hI b hb,fun k hk=>by simp at hk⟩) hr (fun k lb h=>by simp at h) (fun k k' b hk=>by simp at hk)).mono ?_
 rintro e w' ⟨u,r,b,rfl,h1,h2⟩
 obtain⟨-,⟨o1,o2,o3,o4⟩,hk,⟨ρ',J,-,-,hrep,-⟩,-⟩:=h2
 rw [hR r b h1] at hrep
 unfold C4 at hrep
 rw [hrep.1]
 exact⟨rfl,o1,o2,o3,o4,fun b hb=>hk b hb fun k hk=>by simp at hk⟩
end
end Go.Proofs.YtkoflhimdenjaaaGreat
namespace Go.Proofs.YtkoflhimdenjaaaGreat
open Go.RowKit
def noG (Q:Exit->St->Prop):Exit->St->Prop
 | .normal,σ=>Q .normal σ
 | .exit i,σ=>Q (.exit i) σ
 | .goto _,_=>False
 | .ret,σ=>Q .ret σ
 | .panic c,σ=>Q (.panic c) σ
 | .outgrown,σ=>Q .outgrown σ
def As {α:Type} (f:α->List C) (l:List α):List C:=l.flatMap f
def eI (x:Int):List C:=[.int .i64 x]
def eK (k:IntKind) (x:Int):List C:=[.int k x]
def e8 (x:UInt8):List C:=[.int .u8 (x.toNat:Int)]
def eS (x:ByteArray):List C:=[.str x]
def eB (x:Bool):List C:=[.bool x]
def eL {α:Type} (sz:Nat) (f:α->List C) (l:List α):List C:=[.sl sz (As f l)]
theorem Ka (x:Int):(eI x).length=1:=rfl
theorem aCr (k:IntKind) (x:Int):(eK k x).length=1:=rfl
theorem Lf (x:UInt8):(e8 x).length=1:=rfl
theorem Zq (x:ByteArray):(eS x).length=1:=rfl
theorem aC1 (x:Bool):(eB x).length=1:=rfl
theorem sK {α:Type} (sz:Nat) (f:α->List C) (l:List α):(eL sz f l).length=1:=rfl
section
variable {α:Type} {f:α->List C} {sz:Nat}
theorem G3 (hf:∀ x,(f x).length=sz):∀ (l:List α),(As f l).length=l.length * sz
 | []=>by simp [As]
 | x :: l=>by
  have:=G3 hf l
  unfold As at this ⊢
  rw [aJn,aEm,hf,this,aJg,aJp,aK9,Nat.add_comm]
theorem Lj (l m:List α):As f (l ++ m)=As f l ++ As f m:=by unfold As; rw [List.flatMap_append]
theorem Rm {l:List α} {j:Nat} {x:α} (hx:l[j]?=some x):As f l=As f (l.take j) ++ (f x ++ As f (l.drop (j + 1))):=by
 have hj:=(aBn.1 hx).1
 have hxe:=(aBn.1 hx).2
 have e1:l=l.take j ++ (x :: l.drop (j + 1)):=by
  rw [<- hxe,List.getElem_cons_drop,aJw]
 rw [show As f l=As f (l.take j ++ (x :: l.drop (j + 1))) from congrArg _ e1,Lj]
 rfl
theorem N4 (hf:∀ x,(f x).length=sz) {l:List α} {j:Nat} (hj:j<=l.length):(As f (l.take j)).length=j * sz:=by
 rw [G3 hf,aEl,aKh hj]
theorem dQ (hf:∀ x,(f x).length=sz) {l:List α} {j:Nat} {x:α} (hx:l[j]?=some x):j * sz + sz<=(As f l).length:=by
 have hj:=(aBn.1 hx).1
 rw [G3 hf]
 have:(j + 1) * sz<=l.length * sz:=aI8 _ hj
 rw [aJp,aK9] at this
 exact this
theorem Jb (hf:∀ x,(f x).length=sz) {l:List α} {j o:Nat} {x:α} (hx:l[j]?=some x) (ho:o < sz) {a:Nat} (ha:a=j * sz + o):a < (As f l).length:=by
 have:=dQ hf hx
 omega
theorem aY (hf:∀ x,(f x).length=sz) {l:List α} {j o:Nat} {x:α} (hx:l[j]?=some x) (ho:o<=sz):(As f l).drop (j * sz + o)=(f x).drop o ++ As f (l.drop (j + 1)):=by
 have hj:=(aBn.1 hx).1
 have ht:=N4 hf (l:=l) (j:=j) (by omega)
 rw [Rm hx,<- ht,<- aKg,List.drop_left,List.drop_append_of_le_length (by rw [hf]; exact ho)]
theorem Eo (hf:∀ x,(f x).length=sz) {l:List α} {j o:Nat} {x:α} {c:C} (hx:l[j]?=some x) (hc:(f x)[o]?=some c) {a:Nat} (ha:a=j * sz + o):(As f l)[a]?=some c:=by
 subst ha
 have ho:o < sz:=by rw [<- hf x]; exact (aBn.1 hc).1
 have e1:=aY hf hx (Nat.le_of_lt ho)
 have e2:(As f l)[j * sz + o]?=((As f l).drop (j * sz + o))[0]?:=by rw [aIn]; rfl
 rw [e2,e1,aHo (by rw [aHh,hf]; omega),aIn]
 exact hc
theorem Hi (hf:∀ x,(f x).length=sz) {l:List α} {j o m:Nat} {x:α} {cs:List C} (hx:l[j]?=some x) (hs:((f x).drop o).take m=cs) (ho:o + m<=sz) {a:Nat} (ha:a=j * sz + o):((As f l).drop a).take m=cs:=by
 subst ha
 rw [aY hf hx (by omega),aJm (by rw [aHh,hf]; omega)]
 exact hs
theorem E1 (hf:∀ x,(f x).length=sz) {l:List α} {j o m:Nat} {x:α} (hx:l[j]?=some x) (ho:o + m<=sz) {a:Nat} (ha:a=j * sz + o):a + m<=(As f l).length:=by
 have:=dQ hf hx
 omega
theorem aD (hf:∀ x,(f x).length=sz) {l:List α} {j o:Nat} {x x':α} {cs:List C} (hx:l[j]?=some x) (ho:o + cs.length<=sz) (hs:Dr (f x) o cs=f x') {a:Nat} (ha:a=j * sz + o):Dr (As f l) a cs=As f (C2 l j x'):=by
 subst ha
 have hj:=(aBn.1 hx).1
 have ht:=N4 hf (l:=l) (j:=j) (by omega)
 have hset:As f (C2 l j x')=As f (l.take j) ++ (f x' ++ As f (l.drop (j + 1))):=by
  have:(C2 l j x')[j]?=some x':=by unfold C2; rw [aK8 hj]
  rw [Rm this]
  unfold C2
  rw [List.take_set_of_le (aHl _),List.drop_set_of_lt (by omega)]
 rw [hset,<- hs]
 unfold Dr
 have e1:(As f l).take (j * sz + o)=As f (l.take j) ++ (f x).take o:=by
  rw [Rm hx,aKx,ht,aK6,aHj (by rw [ht]; omega)]
  congr 1
  rw [aJm (by rw [hf]; omega)]
 have e2:(As f l).drop (j * sz + o + cs.length)=(f x).drop (o + cs.length) ++ As f (l.drop (j + 1)):=by
  rw [Nat.add_assoc,aY hf hx ho]
 rw [e1,e2]
 simp only [aJj]
theorem eH (hf:∀ x,(f x).length=sz) (l:List α) (i j:Nat) (hij:i<=j) (hj:j<=l.length):((As f l).drop (i * sz)).take ((j - i) * sz)=As f ((l.drop i).take (j - i)):=by
 have e0:As f l=As f (l.take i) ++ As f (l.drop i):=by rw [<- Lj,aJw]
 have e1:As f (l.drop i)=As f ((l.drop i).take (j - i)) ++ As f ((l.drop i).drop (j - i)):=by rw [<- Lj,aJw]
 rw [e0]
 have ht:=N4 hf (l:=l) (j:=i) (by omega)
 have hd:((As f (l.take i)) ++ As f (l.drop i)).drop (i * sz)=As f (l.drop i):=by rw [<- ht,List.drop_left]
 rw [hd,e1]
 have ht2:=N4 hf (l:=l.drop i) (j:=j - i) (by rw [aHh]; omega)
 rw [<- ht2,List.take_left]
end
theorem aFp (l:List UInt8):As e8 l=Jr l:=by
 induction l with
 | nil=>rfl
 | cons x l ih=>
  show e8 x ++ As e8 l=_
  rw [ih]
  rfl
section
variable {P:Program} {tk:Nat} {t ty yt:TypeId} {X Y:Operand} {b1 b2:Option LB} {k:IntKind} {x y:Int}
theorem aGl:Ft P tk (.binOp .lss t X Y yt) ty [(.val (.int k x),b1),(.val (.int k y),b2)] [] (v0 (.val (.bool (decide (x < y))))):=.binOp (fun _ _=>rfl) aA2
theorem aGv:Ft P tk (.binOp .leq t X Y yt) ty [(.val (.int k x),b1),(.val (.int k y),b2)] [] (v0 (.val (.bool (decide (x<=y))))):=.binOp (fun _ _=>rfl) aAo
theorem aGo:Ft P tk (.binOp .gtr t X Y yt) ty [(.val (.int k x),b1),(.val (.int k y),b2)] [] (v0 (.val (.bool (decide (y < x))))):=.binOp (fun _ _=>rfl) aDz
theorem aF6:Ft P tk (.binOp .geq t X Y yt) ty [(.val (.int k x),b1),(.val (.int k y),b2)] [] (v0 (.val (.bool (decide (y<=x))))):=.binOp (fun _ _=>rfl) aA7
theorem aF0:Ft P tk (.binOp .eql t X Y yt) ty [(.val (.int k x),b1),(.val (.int k y),b2)] [] (v0 (.val (.bool (decide (x=y))))):=.binOp (fun _ _=>rfl) aD3
theorem aE5:Ft P tk (.binOp .neq t X Y yt) ty [(.val (.int k x),b1),(.val (.int k y),b2)] [] (v0 (.val (.bool (!decide (x=y))))):=.binOp (fun _ _=>rfl) (fun w=>by rw [aAl w,decide_not])
theorem cZ (x:Int):IntKind.i64.wrap x=W x:=by rw [IntKind.wrap_i64]; unfold W; omega
theorem okW (x:Int):Ez (.int .i64 (W x))=true:=Io.2 (Qv (nP x))
theorem aE7 (x:Int):IntKind.u8.wrap x=((u8 x).toNat:Int):=by rw [IntKind.wrap_u8,hX]
theorem ok8 (x:UInt8):Ez (.int .u8 (x.toNat:Int))=true:=Io.2 (jE ⟨by omega,by have:=x.toNat_lt; omega⟩)
theorem zW:Ft P tk (.binOp .add t X Y yt) ty [(.val (.int .i64 x),b1),(.val (.int .i64 y),b2)] [] (v0 (.val (.int .i64 (W (x + y))))):=.binOp (fun _ _=>okW _) (fun w=>by rw [vM w,cZ])
theorem aGc:Ft P tk (.binOp .sub t X Y yt) ty [(.val (.int .i64 x),b1),(.val (.int .i64 y),b2)] [] (v0 (.val (.int .i64 (W (x - y))))):=.binOp (fun _ _=>okW _) (fun w=>by rw [mB w,cZ])
theorem aG3:Ft P tk (.binOp .mul t X Y yt) ty [(.val (.int .i64 x),b1),(.val (.int .i64 y),b2)] [] (v0 (.val (.int .i64 (W (x * y))))):=.binOp (fun _ _=>okW _) (fun w=>by rw [nB w,cZ])
theorem qG (x y:Int):(x.tmod y).natAbs<=x.natAbs:=by
 rw [Int.natAbs_tmod]
 exact Nat.mod_le _ _
theorem kA {x y:Int} (h:-9223372036854775808<=x/\x<=9223372036854775807):-9223372036854775808<=x.tmod y/\x.tmod y<=9223372036854775807:=by
 have h0:=qG x y
 rcases Int.le_total 0 x with hx | hx
 ·have h1:=Int.tmod_nonneg y hx
  omega
 ·have e:x.tmod y=-((-x).tmod y):=by rw [Int.neg_tmod]; omega
  have h1:=Int.tmod_nonneg y (show 0<=-x by omega)
  omega
theorem vY {n:Int} (h:Ez (.int .i64 n)=true):-9223372036854775808<=n/\n<=9223372036854775807:=by
 have:=Io.1 h
 have h1:IntKind.i64.min=-9223372036854775808:=by decide
 have h2:IntKind.i64.max=9223372036854775807:=by decide
 rw [h1,h2] at this
 exact this
theorem iC {z:Int} (h:Wy x y=some z):Ft P tk (.binOp .rem t X Y yt) ty [(.val (.int .i64 x),b1),(.val (.int .i64 y),b2)] [] (v0 (.val (.int .i64 z))):=by
 obtain⟨hy,rfl⟩:=pM h
 exact .binOp (fun h _=>Io.2 (Qv (kA (vY h)))) (aBm hy)
theorem Sx {z:Int} (h:M2 x y=some z):Ft P tk (.binOp .quo t X Y yt) ty [(.val (.int .i64 x),b1),(.val (.int .i64 y),b2)] [] (v0 (.val (.int .i64 z))):=by
 obtain⟨hy,rfl⟩:=pE h
 exact .binOp (fun _ _=>okW _) (fun w=>by rw [aCe hy w,cZ])
theorem Pm {z:Int} (h:W (x + y)=z):Ft P tk (.binOp .add t X Y yt) ty [(.val (.int .i64 x),b1),(.val (.int .i64 y),b2)] [] (v0 (.val (.int .i64 z))):=h ▸ zW
theorem aHb {b:Bool}:Ft P tk (.unOp .not t X) ty [(.val (.bool b),b1)] [] (v0 (.val (.bool (!b)))):=.unOp (fun _=>rfl) aBx
theorem aAk {a b:Bool} (ht:P.underlying t=some .bool):Ft P tk (.binOp .eql t X Y yt) ty [(.val (.bool a),b1),(.val (.bool b),b2)] [] (v0 (.val (.bool (decide (a=b))))):=.binOp (fun _ _=>rfl) (fun w=>by cases a <;> cases b <;> simp [eqGuard,binOp,Op.equal,Op.maxDepth,run_equalIn_bool',ht])
theorem sZ {a b:Bool} (ht:P.underlying t=some .bool):Ft P tk (.binOp .neq t X Y yt) ty [(.val (.bool a),b1),(.val (.bool b),b2)] [] (v0 (.val (.bool (!decide (a=b))))):=.binOp (fun _ _=>rfl) (fun w=>by cases a <;> cases b <;> simp [eqGuard,binOp,Op.equal,Op.maxDepth,run_equalIn_bool',ht])
theorem aDy {a b:ByteArray}:Ft P tk (.binOp .eql t X Y yt) ty [(.val (.string a),b1),(.val (.string b),b2)] [] (v0 (.val (.bool (decide (a=b))))):=.binOp (fun _ _=>rfl) xH
theorem aBk {a b:ByteArray}:Ft P tk (.binOp .neq t X Y yt) ty [(.val (.string a),b1),(.val (.string b),b2)] [] (v0 (.val (.bool (!decide (a=b))))):=.binOp (fun _ _=>rfl) (fun w=>by rw [yA w,decide_not])
theorem tH:∀ (a b:List UInt8),Op.bytesLess a b=L4 a b
 | _,[]=>by cases ‹List UInt8› <;> rfl
 | [],_ :: _=>rfl
 | a :: x,b :: y=>by unfold Op.bytesLess L4; rw [tH x y]
theorem Mo {src dst:TypeId} (hs:P.underlying src=some (.int k)) (hd:P.underlying dst=some (.int .u8)):Ft P tk (.convert src dst X) ty [(.val (.int k x),b1)] [] (v0 (.val (.int .u8 ((u8 x).toNat:Int)))):=
 .conv (by unfold nA; rw [hs]) (by unfold nA; rw [hd]) (fun _=>ok8 _) (fun w=>by rw [dR (by rw [hs]; rfl) hd w,aE7])
theorem Zh {src dst:TypeId} (hs:P.underlying src=some (.int k)) (hd:P.underlying dst=some (.int .i64)):Ft P tk (.convert src dst X) ty [(.val (.int k x),b1)] [] (v0 (.val (.int .i64 (W x)))):=
 .conv (by unfold nA; rw [hs]) (by unfold nA; rw [hd]) (fun _=>okW _) (fun w=>by rw [dR (by rw [hs]; rfl) hd w,cZ])
theorem nV {src dst:TypeId} {u:UInt8} (hs:P.underlying src=some (.int .u8)) (hd:P.underlying dst=some (.int .i64)):Ft P tk (.convert src dst X) ty [(.val (.int .u8 (u.toNat:Int)),b1)] [] (v0 (.val (.int .i64 (u.toNat:Int)))):=
 .conv (by unfold nA; rw [hs]) (by unfold nA; rw [hd]) (fun _=>Io.2 (Qv ⟨by omega,by have:=u.toNat_lt; omega⟩)) (fun w=>by
  have:=u.toNat_lt
  rw [dR (by rw [hs]; rfl) hd w,cZ,Ex (by omega)])
theorem aCl {ts:Array TypeId}:∀ w,∀ cs,(builtin .max ts ty cs #[.int k x,.int k y]).run P w=.ok (.value (.int k (max x y))) w:=fun w cs=>by
 simp [builtin,Builtin.max_,Builtin.max2,go_sem]
 split <;> omega
theorem aF9 {ts:Array TypeId}:Ft P tk (.call ⟨.builtin .max,#[X,Y],ts⟩) ty [(.val (.int k x),b1),(.val (.int k y),b2)] [] (v0 (.val (.int k (max x y)))):=
 .callV2 (vx:=.int k x) (vy:=.int k y) (v:=.int k (max x y)) (by decide) (fun h h'=>by
  rcases Int.le_total x y with hxy | hxy
  ·rw [Int.max_eq_right hxy]; exact h'
  ·rw [Int.max_eq_left hxy]; exact h) aCl
theorem yP {Z:Operand} {c:Bool} {d1 d2:DV} {b3:Option LB} (h:c=true):Ft P tk (.pick X Y Z) ty [(.val (.bool c),b1),(d1,b2),(d2,b3)] [] (v0 d1):=by subst h; exact .pick
theorem yL {Z:Operand} {c:Bool} {d1 d2:DV} {b3:Option LB} (h:c=false):Ft P tk (.pick X Y Z) ty [(.val (.bool c),b1),(d1,b2),(d2,b3)] [] (v0 d2):=by subst h; exact .pick
theorem Qa {s:ByteArray} (h:P.underlying t=some .string):Ft P tk (.call ⟨.builtin .len,#[X],#[t]⟩) ty [(.val (.string s),b1)] [] (v0 (.val (.int .i64 (s.size:Int)))):=
 .callV1 (fun h=>Io.2 (Qv ⟨by omega,by have:=Q9.1 h; unfold maxLen at this; omega⟩)) (vP h)
end
section
variable {P:Program} {tk:Nat} {t ty e sz bytes:Nat} {X Y:Operand} {b1 b2:Option LB} {α:Type} {f:α->List C} {l:List α} {n:Int} {k:IntKind} {j kr e':Nat} {x:α}
theorem aD9 (h:Iu P t e sz bytes) (hf:∀ x,(f x).length=sz):Ft P tk (.call ⟨.builtin .len,#[X],#[t]⟩) ty [(.sl sz (As f l),b1)] [] (v0 (.val (.int .i64 (l.length:Int)))):=.len h.elem (.sl h.hsz (G3 hf l))
theorem aB4 (h:Iu P t e sz bytes) (hf:∀ x,(f x).length=sz):Ft P tk (.call ⟨.builtin .len,#[X],#[t]⟩) ty [(.row kr,some (.row e' sz (As f l)))] [] (v0 (.val (.int .i64 (l.length:Int)))):=.len h.elem (.row h.hsz (G3 hf l))
theorem aEf (h:Iu P t e sz bytes) (hf:∀ x,(f x).length=sz) (hj:n=(j:Int)) (hx:l[j]?=some x):Ft P tk (.indexAddr t X Y) ty [(.sl sz (As f l),b1),(.val (.int k n),b2)] [] (v0 (.elt ((As f l).drop (j * sz)))):=.idxS h hj (dQ hf hx)
theorem aDr (h:Iu P t e sz bytes) (hf:∀ x,(f x).length=sz) (hj:n=(j:Int)) (hx:l[j]?=some x):Ft P tk (.indexAddr t X Y) ty [(.row kr,some (.row e' sz (As f l))),(.val (.int k n),b2)] [] (v0 (.ptr kr (j * sz))):=.idxR h hj (dQ hf hx)
theorem dO {a m:Nat} {b1:Option LB} (h:Iu P t e sz bytes) (hj:n=(j:Int)) (hx:((l.drop a).take m)[j]?=some x):Ft P tk (.indexAddr t X Y) ty [(.part kr (a * sz) m,b1),(.val (.int k n),b2)] [] (v0 (.ptr kr ((a + j) * sz))):=by
 have hl:=(aBn.1 hx).1
 rw [aEl] at hl
 rw [aJp]
 exact .idxP h hj (by omega)
theorem Rz {a m:Nat} (hx:((l.drop a).take m)[j]?=some x):l[a + j]?=some x:=by
 rw [aH4] at hx
 split at hx
 ·rwa [aIn] at hx
 ·cases hx
theorem Fa {s g off ft sz':Nat} {ag:Bool} {cs:List C} {a:Nat} (h:Fd P s g off ft) (ht:Ty P ft ag sz') (hz:0 < sz') (hl:a + off < cs.length):Ft P tk (.fieldAddr s X g) ty [(.elt (cs.drop a),b1)] [] (v0 (.elt (cs.drop (a + off)))):=by
 have:=Ft.fieldE (P:=P) (tk:=tk) (x:=X) (ty:=ty) (b:=b1) h ht hz (cs:=cs.drop a) (by rw [aHh]; omega)
 rwa [aKg] at this
theorem Da {sz' a:Nat} {cs:List C} {c:C} (ht:Ty P t false sz') (h:cs[a]?=some c):Ft P tk (.load t X) ty [(.elt (cs.drop a),b1)] [] (v0 (Xl c)):=.loadE1 ht (by rw [aIn]; exact h)
theorem D4 {m a:Nat} {cs cs2:List C} (ht:Ty P t true m) (h:(cs.drop a).take m=cs2) (hl:a + m<=cs.length):Ft P tk (.load t X) ty [(.elt (cs.drop a),b1)] [] (v0 (.agg (cs2.map Xl))):=by
 subst h
 exact .loadEA ht (by rw [aHh]; omega)
theorem Vq {m a s:Nat} {cs cs2:List C} (ht:Ty P t true m) (h:(cs.drop a).take m=cs2) (hl:a + m<=cs.length):Ft P tk (.load t X) ty [(.ptr kr a,some (.row e' s cs))] [] (v0 (.agg (cs2.map Xl))):=by
 subst h
 exact .loadRA ht hl
theorem iF {i s:Nat} {cs cs' cs2:List C} {ag:Bool} {d:DV} {sz':Nat} {ck:List (Option Nat)} (ht:Ty P t ag sz') (hs:(C7 d).length=sz') (hi:i + sz'<=cs.length) (hk:Jz P 20 t=ck) (hd:Kz ck (C7 d) cs') (h:Dr cs i cs'=cs2):Ft P tk (.store t X Y) ty [(.ptr kr i,some (.row e' s cs)),(d,b2)] [kr] (oO kr (.row e' s cs2)):=by
 subst h
 exact .storeR ht hs hi hk hd
theorem Dp {d d':DV×Option LB} {l' l2:List α} {ks:List Nat} {kk:Nat} {cs cs':List C} (hS:Iu P t e sz bytes) (hf:∀ x,(f x).length=sz) (ht:xA d e sz cs ks) (hc:cs=As f l) (hs:gP d' sz cs') (hc':cs'=As f l') (h:Ib kk l l'=some l2) (hk:sz * bytes=kk):Ft P tk (.call ⟨.builtin .append,#[X,Y],#[t,t]⟩) ty [d,d'] ks (Ns tk (.row e sz (As f l2)) ks (.row tk)):=by
 subst hc hc'
 obtain⟨h1,rfl⟩:=pF h
 rw [Lj]
 refine .append hS ht hs ?_
 rw [G3 hf,G3 hf,<- aJp,Nat.mul_assoc,hk]
 exact h1
section
variable {lo hi:Operand} {a b:Int} {ka kb:IntKind} {b3:Option LB} {m:List α}
theorem T1 (hS:Iu P t e sz bytes) (hf:∀ x,(f x).length=sz) (h:U0 l a (l.length:Int)=some m):Ft P tk (.slice t X (some lo) none none) ty [(.sl sz (As f l),b1),(.val (.int ka a),b2)] [] (v0 (.sl sz (As f m))):=by
 obtain⟨i,j,rfl,hj,h1,h2,rfl⟩:=Wn h
 have:j=l.length:=by omega
 subst this
 rw [<- eH hf l i l.length h1 h2]
 exact .sliS hS (G3 hf l) ⟨⟨_,_,_,rfl,rfl⟩,rfl⟩ ⟨h1,h2⟩
theorem Mf (hS:Iu P t e sz bytes) (hf:∀ x,(f x).length=sz) (h:U0 l 0 b=some m):Ft P tk (.slice t X none (some hi) none) ty [(.sl sz (As f l),b1),(.val (.int kb b),b2)] [] (v0 (.sl sz (As f m))):=by
 obtain⟨i,j,hi',rfl,h1,h2,rfl⟩:=Wn h
 have:i=0:=by omega
 subst this
 rw [<- eH hf l 0 j h1 h2]
 exact .sliS hS (G3 hf l) ⟨⟨_,_,_,rfl,rfl⟩,rfl⟩ ⟨h1,h2⟩
end
theorem fH {src dst:TypeId} {s:ByteArray} (hs:P.underlying src=some .string) (hd:P.underlying dst=some (.slice e)) (he:P.underlying e=some (.int .u8)):Ft P tk (.convert src dst X) ty [(.val (.string s),b1)] [] (v0 (.sl 1 (As e8 (Iv s)))):=by
 have:=Ft.convB (P:=P) (tk:=tk) (x:=X) (ty:=ty) (b:=b1) (s:=s) hs hd he
 rw [<- aFp] at this
 exact this
end
theorem Cv.frzE {σ:St} {θ:Nat->Option Nat} {j e sz:Nat} {cs:List C} (h:σ.L j=some (.row e sz cs)) (h':(match σ.L j with | some _=>true | none=>false)=true) (hn:∀ k,θ k≠some j):Cv σ θ (.row j) (.sl sz cs):=.frz h hn
end Go.Proofs.YtkoflhimdenjaaaGreat
namespace Go.Proofs.YtkoflhimdenjaaaGreat
open Go.RowKit
mutual
theorem mO (f:Nat->Nat):∀ d,Ju d=[]->Lm f d=d
 | .row _,h=>by simp [Ju] at h
 | .part _ _ _,h=>by simp [Ju] at h
 | .ptr _ _,h=>by simp [Ju] at h
 | .val _,_=>rfl
 | .sl _ _,_=>rfl
 | .slc _ _,_=>rfl
 | .mp _,_=>rfl
 | .elt _,_=>rfl
 | .agg ds,h=>by unfold Ju at h; unfold Lm; rw [Qi f ds h]
 | .tup ds,h=>by unfold Ju at h; unfold Lm; rw [Qi f ds h]
 | .clo _ _ ds,h=>by unfold Ju at h; unfold Lm; rw [Qi f ds h]
theorem Qi (f:Nat->Nat):∀ ds,M7 ds=[]->Nn f ds=ds
 | [],_=>rfl
 | d :: ds,h=>by
  unfold M7 at h
  have h1:=List.append_eq_nil_iff.1 h
  unfold Nn
  rw [mO f d h1.1,Qi f ds h1.2]
end
def Z7:LB->List Nat
 | .box ds _=>M7 ds
 | .row ..=>[]
 | .map _=>[]
 | .mit k _ _=>[k]
 | .vec ds _=>M7 ds
theorem xG (f:Nat->Nat) {lb:LB} (h:Z7 lb=[]):oS f lb=lb:=by
 cases lb with
 | box ds ty=>
  show LB.box (Nn f ds) ty=_
  rw [Qi f ds h]
 | row=>rfl
 | map=>rfl
 | mit=>cases h
 | vec ds e=>
  show LB.vec (Nn f ds) e=_
  rw [Qi f ds h]
def jX (ps gs:List Nat) (r:DV) (bx:List LB):Mn:=⟨some r,fun k=>match Fx (ps.zip bx) k with | some lb=>some (some lb) | none=>bif gs.any (Nat.beq k) then some none else none⟩
theorem iV {ps:List Nat} {tk:Nat}:∀ {l:List Nat} {b:List LB} {i:Nat},(∀ j,l[j]?=ps[i + j]?)->b.length=l.length->(∀ lb∈b,Z7 lb=[])->Vl ps tk i b=l.zip b
 | [],[],_,_,_,_=>rfl
 | x :: l,lb :: b,i,hl,hb,ht=>by
  unfold Vl
  have h0:=hl 0
  simp only [Nat.add_zero] at h0
  have e1:Iz ps tk i=x:=by
   unfold Iz
   rw [<- h0]
   rfl
  rw [e1,xG _ (ht lb (aHt ..)),iV (l:=l) (fun j=>by have:=hl (j + 1); rw [show i + 1 + j=i + (j + 1) by omega,<- this]; rfl) (by simpa using hb) fun lb h=>ht lb (aHk _ h)]
  rfl
 | [],_ :: _,_,_,h,_=>by simp at h
 | _ :: _,[],_,_,h,_=>by simp at h
theorem eU {ps gs:List Nat} {tk:Nat} {r:DV} {b:List LB} (hr:Ju r=[]) (hl:b.length=ps.length) (hb:∀ lb∈b,Z7 lb=[]):Su ps gs tk r b=jX ps gs r b:=by
 unfold Su jX
 rw [mO _ _ hr,iV (l:=ps) (fun j=>by rw [aJa]) hl hb]
 rfl
section
variable {P:Program} {cx:Cx} {ops:Array Oper} {Rt:Option (List Nat)} {nb i:Nat} {l:List Oper} {lg:jV} {σ:St} {Q:St->Prop} {fz:List Nat}
theorem jO {dst:Option Tmp} {f:FuncId} {xs:Array Operand} {tys:Array TypeId} {ty:TypeId} {pos:String} {af:Array Edge} {g:Option (Nat×Bool)} {dsA:List (DV×Option LB)} {rd ps gs:List Nat} {args:List DV} {bx:List LB} {d:DV} {b:List LB} (fl:Bool)
  (G:Kj ops σ ⟨dst,.call ⟨.value (.func f),xs,tys⟩,ty,pos,af,g⟩=some true)
  (hF:Fn P f ps.length args bx (fun d' b'=>d'=d/\b'=b)) (hds:Es σ true xs.toList=some dsA) (hrd:Qm σ 3 (Sl dsA)=rd) (hA:Pu fl (ps ++ gs) (L3 σ rd) (dsA.map (·.1)) args) (hB:aC fl (ps ++ gs) (L3 σ rd) (ps ++ gs) bx) (hnd:Sh cx.np ps gs=true) (hfl:fl=true->Jq d/\∀ lb∈b,N9 lb)
  (hok:K9 Rt i true (nb + 8 * i) rd (ps ++ gs) lg=true) (hr:Ju d=[]) (hl:b.length=ps.length) (hb:b.flatMap Z7=[])
  (k:Chain (Ch P cx fz) ops Rt nb (idx (i + 1) l) ((i,true,nb + 8 * i,rd,ps ++ gs) :: lg) (σ.app dst (jX ps gs d b)) Q) :
  Chain (Ch P cx fz) ops Rt nb (idx i (⟨dst,.call ⟨.value (.func f),xs,tys⟩,ty,pos,af,g⟩ :: l)) lg σ Q:=by
 refine H0 fl G hF hds hrd hA hB hnd (fun h r b=>?_) hok (fun _=>⟨_,_,⟨rfl,rfl⟩,by omega,by omega⟩) fun r b=>?_
 ·rintro⟨rfl,rfl⟩; exact hfl h
 ·rintro⟨rfl,rfl⟩
  rw [eU hr hl fun lb h=>?_]
  ·exact k
  ·have:=aK7.1 hb lb h
   exact this
theorem Ed {dst:Option Tmp} {t:Tmp} {f:FuncId} {q:Option LB} {xs:Array Operand} {tys:Array TypeId} {ty:TypeId} {pos:String} {af:Array Edge} {g:Option (Nat×Bool)} {dsA:List (DV×Option LB)} {rd ps gs:List Nat} {args:List DV} {bx:List LB} {d:DV} {b:List LB} (fl:Bool)
  (G:Kj ops σ ⟨dst,.call ⟨.value (.tmp t),xs,tys⟩,ty,pos,af,g⟩=some true) (hc:ev σ true (.tmp t)=some (.val (.func (.func f) #[] #[]),q))
  (hF:Fn P f ps.length args bx (fun d' b'=>d'=d/\b'=b)) (hds:Es σ true xs.toList=some dsA) (hrd:Qm σ 3 (Sl dsA)=rd) (hA:Pu fl (ps ++ gs) (L3 σ rd) (dsA.map (·.1)) args) (hB:aC fl (ps ++ gs) (L3 σ rd) (ps ++ gs) bx) (hnd:Sh cx.np ps gs=true) (hfl:fl=true->Jq d/\∀ lb∈b,N9 lb)
  (hok:K9 Rt i true (nb + 8 * i) rd (ps ++ gs) lg=true) (hr:Ju d=[]) (hl:b.length=ps.length) (hb:b.flatMap Z7=[])
  (k:Chain (Ch P cx fz) ops Rt nb (idx (i + 1) l) ((i,true,nb + 8 * i,rd,ps ++ gs) :: lg) (σ.app dst (jX ps gs d b)) Q) :
  Chain (Ch P cx fz) ops Rt nb (idx i (⟨dst,.call ⟨.value (.tmp t),xs,tys⟩,ty,pos,af,g⟩ :: l)) lg σ Q:=by
 refine uB fl G hc hF hds hrd hA hB hnd (fun h r b=>?_) hok (fun _=>⟨_,_,⟨rfl,rfl⟩,by omega,by omega⟩) fun r b=>?_
 ·rintro⟨rfl,rfl⟩; exact hfl h
 ·rintro⟨rfl,rfl⟩
  rw [eU hr hl fun lb h=>?_]
  ·exact k
  ·have:=aK7.1 hb lb h
   exact this
theorem Cw {dst:Option Tmp} {t:Tmp} {f:FuncId} {n:Nat} {cs:List DV} {q:Option LB} {xs:Array Operand} {tys:Array TypeId} {ty:TypeId} {pos:String} {af:Array Edge} {g:Option (Nat×Bool)} {dsA:List (DV×Option LB)} {rd ps gs:List Nat} {args:List DV} {bx:List LB} {d:DV} {b:List LB} (fl:Bool)
  (G:Kj ops σ ⟨dst,.call ⟨.value (.tmp t),xs,tys⟩,ty,pos,af,g⟩=some true) (hc:ev σ true (.tmp t)=some (.clo f n cs,q))
  (hF:Fn P f ps.length args bx (fun d' b'=>d'=d/\b'=b)) (hds:Es σ true xs.toList=some dsA) (hrd:Qm σ 3 (M7 cs ++ Sl dsA)=rd) (hA:Pu fl (ps ++ gs) (L3 σ rd) (cs.take n ++ (dsA.map (·.1) ++ cs.drop n)) args) (hB:aC fl (ps ++ gs) (L3 σ rd) (ps ++ gs) bx) (hnd:Sh cx.np ps gs=true) (hfl:fl=true->Jq d/\∀ lb∈b,N9 lb)
  (hok:K9 Rt i true (nb + 8 * i) rd (ps ++ gs) lg=true) (hr:Ju d=[]) (hl:b.length=ps.length) (hb:b.flatMap Z7=[])
  (k:Chain (Ch P cx fz) ops Rt nb (idx (i + 1) l) ((i,true,nb + 8 * i,rd,ps ++ gs) :: lg) (σ.app dst (jX ps gs d b)) Q) :
  Chain (Ch P cx fz) ops Rt nb (idx i (⟨dst,.call ⟨.value (.tmp t),xs,tys⟩,ty,pos,af,g⟩ :: l)) lg σ Q:=by
 refine tQ fl G hc hF hds hrd hA hB hnd (fun h r b=>?_) hok (fun _=>⟨_,_,⟨rfl,rfl⟩,by omega,by omega⟩) fun r b=>?_
 ·rintro⟨rfl,rfl⟩; exact hfl h
 ·rintro⟨rfl,rfl⟩
  rw [eU hr hl fun lb h=>?_]
  ·exact k
  ·have:=aK7.1 hb lb h
   exact this
end
section
variable {P:Program} {tk:Nat} {t ty yt:TypeId} {X Y:Operand} {b1 b2:Option LB} {k k':IntKind} {x y:Int}
theorem T5 (k:IntKind) (z:Int):Ez (.int k (k.wrap z))=true:=by
 rw [Io]
 cases k <;> simp [IntKind.wrap,IntKind.bits,IntKind.signed,IntKind.min,IntKind.max] <;> (try split) <;> omega
theorem aCf:Ft P tk (.binOp .sub t X Y yt) ty [(.val (.int k x),b1),(.val (.int k y),b2)] [] (v0 (.val (.int k (k.wrap (x - y))))):=.binOp (fun _ _=>T5 _ _) mB
theorem aDu:Ft P tk (.binOp .mul t X Y yt) ty [(.val (.int k x),b1),(.val (.int k y),b2)] [] (v0 (.val (.int k (k.wrap (x * y))))):=.binOp (fun _ _=>T5 _ _) nB
theorem aBl:Ft P tk (.binOp .and t X Y yt) ty [(.val (.int k x),b1),(.val (.int k y),b2)] [] (v0 (.val (.int k (gY k x y)))):=.binOp (fun _ _=>T5 _ _) (fun w=>by simp [eqGuard,binOp,Op.intBits,gY])
theorem dN:Ft P tk (.binOp .xor t X Y yt) ty [(.val (.int k x),b1),(.val (.int k y),b2)] [] (v0 (.val (.int k (Qy k x y)))):=.binOp (fun _ _=>T5 _ _) (fun w=>by simp [eqGuard,binOp,Op.intBits,Qy])
theorem xI (k:IntKind):k.min<=0/\0<=k.max:=by cases k <;> decide
theorem hQ {x d:Int} (hx:x<=0) (hd:0 < d):x / d<=0:=by
 rcases Int.lt_trichotomy (x / d) 0 with h | h | h
 ·omega
 ·omega
 ·exfalso
  have h1:=Int.mul_ediv_add_emod x d
  have h2:=Int.emod_nonneg x (show d≠0 by omega)
  have h3:d * 1<=d * (x / d):=Int.mul_le_mul_of_nonneg_left (by omega) (by omega)
  omega
theorem Xs {z:Int} (h:Uo k x y=some z):Ft P tk (.binOp .shr t X Y yt) ty [(.val (.int k x),b1),(.val (.int k' y),b2)] [] (v0 (.val (.int k z))):=by
 obtain⟨h0,rfl⟩:=oA h
 refine .binOp (fun hx _=>?_) (fun w=>by simp [eqGuard,binOp,Op.shift,h0])
 rw [Io] at hx ⊢
 have hm:=xI k
 have hd:(0:Int) < 2 ^ min y.toNat k.bits:=Int.pow_pos (by omega)
 generalize (2:Int) ^ min y.toNat k.bits=d at hd
 rw [aKs _ (Int.le_of_lt hd)]
 rcases Int.le_total 0 x with hx0 | hx0
 ·have h1:=Int.ediv_nonneg hx0 (Int.le_of_lt hd)
  have h2:=Int.ediv_le_self d hx0
  omega
 ·have h1:x<=x / d:=by
   have:=Int.mul_ediv_add_emod x d
   have h3:=Int.emod_nonneg x (show d≠0 by omega)
   have h4:x / d<=0:=hQ hx0 hd
   have h5:d * (x / d)<=1 * (x / d):=Int.mul_le_mul_of_nonpos_right (by omega) h4
   have h6:=Int.emod_lt_of_pos x hd
   by_cases h7:x / d=0
   ·omega
   ·have h8:x / d<=-1:=by omega
    have h9:(d - 1) * (x / d)<=(d - 1) * (-1):=Int.mul_le_mul_of_nonneg_left h8 (by omega)
    have h10:d * (x / d)=(d - 1) * (x / d) + x / d:=by rw [Int.sub_mul,Int.one_mul]; omega
    omega
  have h2:x / d<=0:=hQ hx0 hd
  omega
theorem kZ {z:Int} (h:cD k x y=some z):Ft P tk (.binOp .shl t X Y yt) ty [(.val (.int k x),b1),(.val (.int k' y),b2)] [] (v0 (.val (.int k z))):=by
 obtain⟨h0,rfl⟩:=pH h
 exact .binOp (fun _ _=>T5 _ _) (fun w=>by simp [eqGuard,binOp,Op.shift,h0])
theorem Y1 {src dst:TypeId} (hs:P.underlying src=some (.int k)) (hd:P.underlying dst=some (.int k')):Ft P tk (.convert src dst X) ty [(.val (.int k x),b1)] [] (v0 (.val (.int k' (k'.wrap x)))):=
 .conv (by unfold nA; rw [hs]) (by unfold nA; rw [hd]) (fun _=>T5 _ _) (dR (by rw [hs]; rfl) hd)
theorem fU {s:ByteArray} {u:UInt8} (ht:P.underlying t=some .string) (h:fY s x=some u):Ft P tk (.index t X Y) ty [(.val (.string s),b1),(.val (.int k x),b2)] [] (v0 (.val (.int .u8 (u.toNat:Int)))):=by
 unfold fY at h
 split at h
 ·cases h
 ·rename_i h0
  have h1:0<=x:=by omega
  have hlt:=(aHg.1 h).1
  have hs:s[x.toNat]?=some u:=by
   have hlt':x.toNat < s.size:=hlt
   rw [getElem?_pos s x.toNat hlt']
   have:=(aHg.1 h).2
   exact congrArg some this
  exact .indexS (fun _ _=>ok8 _) (fun w=>by simp [Instr.index,asIntOf,run_underlying ht,h1,hs])
theorem lF {a b:ByteArray}:Ft P tk (.binOp .geq t X Y yt) ty [(.val (.string a),b1),(.val (.string b),b2)] [] (v0 (.val (.bool (!L4 (Iv a) (Iv b))))):=.binOp (fun _ _=>rfl) (fun w=>by
 simp [eqGuard,binOp,Op.stringOp,tH,ByteArray.toList_eq,Iv])
end
section
variable {α:Type} {f:α->List C} {sz:Nat}
theorem lJ (hf:∀ x,(f x).length=sz) (h0:0 < sz) {l:List α} (h:As f l=[]):l=[]:=by
 have:=G3 hf l
 rw [h] at this
 rcases aK2.1 this.symm with h1 | h1
 ·exact aEp h1
 ·omega
end
section
variable {P:Program} {tk:Nat} {t ty e sz bytes:Nat} {X Y:Operand} {b1 b2 b3:Option LB} {α:Type} {f:α->List C} {l m:List α} {n:Int} {k ka kb:IntKind} {j kr e':Nat} {x:α} {lo hi:Operand} {a b:Int}
theorem W0 (hS:Iu P t e sz bytes) (hf:∀ x,(f x).length=sz) (h:U0 l a (l.length:Int)=some m):Ft P tk (.slice t X (some lo) none none) ty [(.row kr,some (.row e' sz (As f l))),(.val (.int ka a),b2)] [] (v0 (.part kr (a.toNat * sz) ((l.length:Int).toNat - a.toNat))):=by
 obtain⟨i,j,rfl,hj,h1,h2,rfl⟩:=Wn h
 have:j=l.length:=by omega
 subst this
 exact .sliR hS (G3 hf l) ⟨⟨_,_,_,rfl,rfl⟩,rfl⟩ ⟨h1,h2⟩
theorem Wz (hS:Iu P t e sz bytes) (hf:∀ x,(f x).length=sz) (h:U0 l 0 b=some m):Ft P tk (.slice t X none (some hi) none) ty [(.row kr,some (.row e' sz (As f l))),(.val (.int kb b),b3)] [] (v0 (.part kr ((0:Int).toNat * sz) (b.toNat - (0:Int).toNat))):=by
 obtain⟨i,j,hi',rfl,h1,h2,rfl⟩:=Wn h
 have:i=0:=by omega
 subst this
 have e0:(0:Int).toNat * sz=0 * sz:=rfl
 exact .sliR hS (G3 hf l) ⟨⟨_,_,_,rfl,rfl⟩,rfl⟩ ⟨h1,h2⟩
theorem aR {sz:Nat}:∀ (ds:List DV) (k:Nat) (pre rest:List DV),pre.length=k * sz->rest.length=ds.length * sz->(∀ d∈ds,(C7 d).length=sz)->Iw (fun i=>some (i * sz,sz)) (pre ++ rest) ((List.range' k ds.length).zip ds)=some (pre ++ ds.flatMap C7)
 | [],k,pre,rest,_,hr,_=>by
  have:rest=[]:=aEp (by simpa using hr)
  subst this
  simp [Iw]
 | d :: ds,k,pre,rest,hp,hr,hd=>by
  have h0:=hd d (aHt ..)
  have hr':rest.length=ds.length * sz + sz:=by rw [hr,aJg,aJp,aK9]
  rw [aJg,List.range'_succ,List.zip_cons_cons]
  unfold Iw
  simp only []
  have c1:Nat.beq (C7 d).length sz=true:=by rw [h0]; exact aKj _
  have c2:Nat.ble (k * sz + sz) (pre ++ rest).length=true:=aKl (by rw [aEm,hp,hr']; omega)
  rw [c1,c2]
  simp only [Bool.and_self,aEn]
  have e1:Dr (pre ++ rest) (k * sz) (C7 d)=(pre ++ C7 d) ++ rest.drop sz:=by
   unfold Dr
   rw [h0,<- hp,List.take_left,<- aKg,List.drop_left,aJj]
  rw [e1,aR ds (k + 1) (pre ++ C7 d) (rest.drop sz) (by rw [aEm,hp,h0,aJp,aK9]) (by rw [aHh,hr']; omega) fun x hx=>hd x (aHk _ hx)]
  rw [aJn,aJj]
theorem H7 {len:Nat} {parts:Array (Nat×Operand)} {ds:List (DV×Option LB)} {z:List Value} {cs:List C} {ck:List (Option Nat)} (hS:Iu P t e sz bytes) (hz:Zt P e z) (hlen:len * sz<=16777216) (hp:parts.toList.map (·.1)=List.range' 0 len) (hzl:z.length=sz) (hn:ds.length=len) (hs:ds.all (fun q=>Nat.beq (C7 q.1).length sz)=true) (hk:Jz P 20 e=ck) (hc:Kz (List.replicate len ck).flatten (ds.flatMap fun q=>C7 q.1) cs) (ho:ds.all (fun q=>(C7 q.1).all Y2)=true) (h:As f l=cs):Ft P tk (.buildSlice t len parts) ty ds [] (Pf tk (.row e sz (As f l)) (.row tk)):=by
 subst h
 refine .buildSl hS hz hlen ?_ hk hc ho
 have hd:=aR (sz:=sz) (ds.map (·.1)) 0 [] ((List.replicate len (z.map DV.val)).flatten) (by simp) (by simp [hzl,hn]) fun d hd=>by
  obtain⟨q,hq,rfl⟩:=aIm.1 hd
  exact aEk (aHi.1 hs q hq)
 rw [aIz,aIz,aK3,hn] at hd
 rw [hp,hd]
 congr 1
 rw [List.flatMap_map]
theorem tE {i bt sz':Nat} {ds ds':List DV} {ag:Bool} {d:DV} {kk:Nat} (ht:Ty P t ag sz') (hs:(C7 d).length=sz') (hi:i + sz'<=ds.length) (ho:(C7 d).all Y2=true) (h:Dr ds i (C7 d)=ds'):Ft P tk (.store t X Y) ty [(.ptr kk i,some (.box ds bt)),(d,b2)] [kk] (oO kk (.box ds' bt)):=by
 subst h
 exact .storeB ht hs hi ho
theorem cJ {tk2:Nat} {m':Nat} {ds:List DV} {L:List α} (ht:P.underlying t=some (.array m' e)) (he:Ty P e true sz) (hf:∀ x,(f x).length=sz) (hds:ds=(As f L).map Xl) (hL:L.length=m') (hx:B5 L n=some x) {d2:List DV} (h2:(f x).map Xl=d2):Ft P tk2 (.index t X Y) ty [(.agg ds,b1),(.val (.int k n),b2)] [] (v0 (.agg d2)):=by
 have hx':=B3 hx
 refine .indexAA ht he (Rn hx) (by rw [<- hL]; exact (aBn.1 hx').1) ?_
 rw [hds,<- List.map_drop,<- List.map_take,<- h2]
 congr 1
 exact Hi hf hx' (o:=0) (by rw [aLa]; exact aHj (aKn (hf _))) (by omega) rfl
end
def eA {α:Type} [Inhabited α] (n:Nat) (f:α->List C) (x:List α):List C:=(List.range n).flatMap fun i=>f (x[i]!)
theorem aC8 {α:Type} [Inhabited α] {n sz:Nat} {f:α->List C} (hf:∀ x,(f x).length=sz) (x:List α):(eA n f x).length=n * sz:=by
 unfold eA
 induction n with
 | zero=>simp
 | succ n ih=>rw [List.range_succ,List.flatMap_append,aEm,ih,aJn,aKz,aLg,hf,aJp,aK9]
class tU (p:Prop) (q:outParam Prop):Prop where
 go:q->p
theorem st_ {p q:Prop} [s:tU p q] (h:q):p:=s.go h
section
variable {next:St->Prop} {Q:Exit->St->Prop} {i:Nat} {σ:St}
instance:tU (qJ next Q .normal σ) (next σ):=⟨fun h=>h⟩
instance:tU (qJ next Q (.exit i) σ) (Q (.exit i) σ):=⟨fun h=>h⟩
instance:tU (qJ next Q .ret σ) (Q .ret σ):=⟨fun h=>h⟩
instance:tU (zR i Q (.exit i) σ) (Q .normal σ):=⟨fun h=>sR h⟩
instance:tU (zR i Q .normal σ) (Q .normal σ):=⟨fun h=>h⟩
instance:tU (zR i Q .ret σ) (Q .ret σ):=⟨fun h=>h⟩
instance:tU (noG Q .normal σ) (Q .normal σ):=⟨fun h=>h⟩
instance:tU (noG Q (.exit i) σ) (Q (.exit i) σ):=⟨fun h=>h⟩
instance:tU (noG Q .ret σ) (Q .ret σ):=⟨fun h=>h⟩
end
class pO (p:Prop) (q:outParam Prop):Prop where
 go:q->p
instance (priority:=low) stpN_nil (p:Prop):pO p p:=⟨fun h=>h⟩
instance aEj {p p' q:Prop} [s:tU p p'] [t:pO p' q]:pO p q:=⟨fun h=>s.go (t.go h)⟩
theorem Fj {P:Program} {cx:Cx} {Q:Exit->St->Prop} {σ:St} {q:Prop} [s:pO (Q .ret σ) q] (h:q):B4 P cx .ret Q σ:=fJ (s.go h)
theorem sn_ {Q:Exit->St->Prop} {i j:Nat} {σ:St} (h:Q (.exit j) σ) (hne:j≠i:=by decide):zR i Q (.exit j) σ:=oK hne h
theorem Ca {P:Program} {cx:Cx} {id:Nat} {l:List Oper} {σ:St} {y:Code} {Q:Exit->St->Prop} (nb nb':Nat) (B:∀ k,nb<=k->σ.U k=false)
  (h:Chain (Ch P cx []) l.toArray none nb (idx 0 l) [] σ (fun σ'=>(∀ j,nb'<=j->σ'.U j=false)->qJ (B4 P cx y Q) Q .normal σ')) (hn:Nat.ble (nb + 8 * l.length) nb'=true:=by rfl) (hd:lA cx.N l=true:=by rfl):B4 P cx (.seq (.region id l.toArray false) y) Q σ:=
 Ak (Al (Ch _ _ []) nb nb' B hn hd h)
section
variable {P:Program} {cx:Cx} {ops:Array Oper} {Rt:Option (List Nat)} {nb i:Nat} {l:List Oper} {lg:jV} {σ:St} {Q:St->Prop} {fz:List Nat}
theorem G9 {Q:Exit->St->Prop} {nb':Nat} {q:Prop} [s:pO (Q .normal σ) q] (h:(∀ j,nb'<=j->σ.U j=false)->q):Chain (Ch P cx fz) ops Rt nb (idx i []) lg σ (fun σ'=>(∀ j,nb'<=j->σ'.U j=false)->Q .normal σ'):=aHy fun B=>s.go (h B)
theorem C1 {dst:Option Tmp} {op:Op} {ty:TypeId} {pos:String} {af:Array Edge} {g:Option (Nat×Bool)} {ds:List (DV×Option LB)} {wr:List Nat} {e:Mn} (G:Kj ops σ ⟨dst,op,ty,pos,af,g⟩=some true) (hds:Es σ (Kf op) op.operands.toList=some ds) (h:Ft P (nb + 8 * i) op ty ds wr e)
  (hrd:(bif Kf op then K3 (Lv op) ds else [])=[]) (hok:K9 Rt i false (nb + 8 * i) [] wr lg=true) (k:Chain (Ch P cx fz) ops Rt nb (idx (i + 1) l) ((i,false,nb + 8 * i,[],wr) :: lg) (σ.app dst e) Q) (hz:zM fz (nb + 8 * i)=0:=by rfl) (hap:Pr cx.np op wr=true:=by rfl) :
  Chain (Ch P cx fz) ops Rt nb (idx i (⟨dst,op,ty,pos,af,g⟩ :: l)) lg σ Q:=Gs (rd:=[]) G hds h hrd hok k hz hap
end
end Go.Proofs.YtkoflhimdenjaaaGreat
namespace Go.Proofs.YtkoflhimdenjaaaGreat
open Go.RowKit
theorem Wl:∀ {d:DV} {k:Nat},men d k->k∈Ju d
 | .row _,k,h=>by simpa [Ju,men] using h
 | .part _ _ _,k,h=>by simpa [Ju,men] using h
 | .ptr _ _,k,h=>by simpa [Ju,men] using h
 | .agg ds,k,h=>by unfold men at h; unfold Ju; exact menL_dtoks h
 | .tup ds,k,h=>by unfold men at h; unfold Ju; exact menL_dtoks h
 | .clo _ _ ds,k,h=>by unfold men at h; unfold Ju; exact menL_dtoks h
 | .val _,k,h=>by unfold men at h; exact h.elim
 | .sl _ _,k,h=>by unfold men at h; exact h.elim
 | .slc _ _,k,h=>by unfold men at h; exact h.elim
 | .mp _,k,h=>by unfold men at h; exact h.elim
 | .elt _,k,h=>by unfold men at h; exact h.elim
where
 menL_dtoks:∀ {ds:List DV} {k:Nat},Fr ds k->k∈M7 ds
 | [],k,h=>by unfold Fr at h; exact h.elim
 | d :: ds,k,h=>by
  unfold Fr at h
  unfold M7
  rcases h with h | h
  ·exact aI9 _ (Wl h)
  ·exact aJd _ (menL_dtoks h)
theorem Pt.cut {cx:Cx} {σ σ':St} {t k n e sz:Nat} {cs:List C} (hk:cx.np<=k) (hF:σ.F t=some (.part k 0 n)) (hL:σ.L k=some (.row e sz cs)) (hn:n * sz<=cs.length)
  (hF':∀ s d,σ'.F s=some d->(d=.row k/\s=t)\/(σ.F s=some d/\¬ men d k)) (hL':∀ j lb,σ'.L j=some lb->(j=k/\lb=.row e sz (cs.take (n * sz)))\/(j≠k/\σ.L j=some lb/\¬ Rp lb k)) (B:∀ j,σ'.U j=σ.U j):Pt cx σ σ':=by
 rintro a w ⟨ρ,h⟩
 obtain⟨N,us,q1,q0,q2⟩:=h.lo _ _ hL
 have hr:=h.fr _ _ hF
 unfold C4 at hr
 obtain⟨A,c,hv,hnc,hc,hA,hB⟩:=hr
 have hlen:n * sz<=us.length:=by rw [<- q2.1]; exact hn
 have hblk:∀ b,Dh (a.tmps.getD t undef)=some b->Dh (ρ k)=some b:=fun b hb=>by
  rcases q1.2 with ⟨A',e,-⟩ | ⟨g',cap,cur,e,r1,-⟩
  ·obtain⟨t1,t2⟩:=hB rfl _ _ _ e
   rw [hv,t2] at hb
   cases A <;> cases hb
  ·obtain⟨t1,t2⟩:=hB rfl _ _ _ e
   rw [hv,t1] at hb
   rw [e,Jk r1,(Fm hb).1]
 have hown:w.rowOk e sz (a.tmps.getD t undef) n (us.take (n * sz)):=by
  refine⟨by rw [aEl]; omega,?_⟩
  rcases q1.2 with ⟨A',e,q3⟩ | ⟨g,cap,cur,e,r1,r2,r3,r4,r5,r6⟩
  ·obtain⟨t1,t2⟩:=hB rfl _ _ _ e
   refine .inl ⟨A',by rw [hv,t1,t2]; congr 1; omega,by omega⟩
  ·obtain⟨t1,t2⟩:=hB rfl _ _ _ e
   refine .inr ⟨g,cap,cur,by rw [hv,t1,t2],r1,r2,by omega,r4,r5,?_⟩
   have hle:n * sz<=N * sz:=by rw [<- q1.1]; exact hlen
   rw [<- r6,aLj,aKh hle]
 let ρ':Nat->Value:=fun j=>if j=k then a.tmps.getD t undef else ρ j
 have hk':ρ' k=a.tmps.getD t undef:=if_pos rfl
 have ho:∀ j,j≠k->ρ' j=ρ j:=fun j hj=>if_neg hj
 have loc:∀ j lb b,σ'.L j=some lb->Dh (ρ' j)=some b->∃ lb',σ.L j=some lb'/\Dh (ρ j)=some b:=fun j lb b hj hb=>by
  rcases hL' j lb hj with ⟨rfl,-⟩ | ⟨hne,h1,-⟩
  ·rw [hk'] at hb; exact⟨_,hL,hblk b hb⟩
  ·rw [ho j hne] at hb; exact⟨_,h1,hb⟩
 have hI:∀ b,Ms cx σ ρ w b->Ms cx σ' ρ' w b/\w.heap[b]?=w.heap[b]?:=fun b hb=>by
  refine⟨⟨hb.1,fun hl=>?_,hb.2.2⟩,rfl⟩
  obtain⟨j,lb,h1,h2⟩:=hl
  obtain⟨lb',h3,h4⟩:=loc j lb b h1 h2
  exact hb.2.1 ⟨j,lb',h3,h4⟩
 refine⟨ρ',⟨h.defers,h.size,h.kept,fun s d hs=>?_,fun j lb hj=>?_,fun j j' lb lb' b h1 h2 h3 h4=>?_,fun s d j hs hm=>?_,fun j lb hj=>?_,fun j hj=>?_,fun j lb b hj hp hb=>?_⟩⟩
 ·rcases hF' s d hs with ⟨rfl,rfl⟩ | ⟨h1,h2⟩
  ·unfold C4
   rw [hk']
   refine⟨rfl,?_⟩
   rw [hv]; rfl
  ·exact C4.step hI d _ (fun j hj=>ho j fun e=>h2 (e ▸ hj)) (h.fr _ _ h1)
 ·rcases hL' j lb hj with ⟨rfl,rfl⟩ | ⟨hne,h1,h2⟩
  ·rw [hk']
   refine⟨n,us.take (n * sz),hown,fun b hb=>q0 b (hblk b hb),?_⟩
   refine Gp.keep_ (w:=w) ⟨by rw [aEl,aEl,q2.1],fun j c u a b=>?_⟩ (fun b hb=>rfl) fun b hb=>(hI b hb).1
   rw [aH4] at a b
   split at a
   ·rename_i hj
    rw [if_pos hj] at b
    exact q2.2 j c u a b
   ·cases a
  ·rw [ho j hne]
   exact (h.lo _ _ h1).step hI (fun j' hj'=>ho j' fun e=>h2 (e ▸ hj')) fun b _=>rfl
 ·obtain⟨_,e1,e2⟩:=loc _ _ _ h1 h3
  obtain⟨_,e3,e4⟩:=loc _ _ _ h2 h4
  exact h.sep _ _ _ _ _ e1 e3 e2 e4
 ·rw [B]
  rcases hF' s d hs with ⟨rfl,rfl⟩ | ⟨h1,h2⟩
  ·unfold men at hm
   subst hm
   exact (h.usedL _ _ hL).1
  ·exact h.usedF _ _ _ h1 hm
 ·rw [B]
  rcases hL' j lb hj with ⟨rfl,rfl⟩ | ⟨hne,h1,h2⟩
  ·exact⟨(h.usedL _ _ hL).1,fun k' hm=>hm.elim⟩
  ·exact⟨(h.usedL _ _ h1).1,fun k' hm=>by rw [B]; exact (h.usedL _ _ h1).2 k' hm⟩
 ·rw [B]
  exact⟨(ho j (by omega)).trans (h.pin j hj).1,(h.pin j hj).2⟩
 ·obtain⟨_,e1,e2⟩:=loc _ _ _ hj hb
  exact h.fresh _ _ _ e1 hp e2
def oV (t k:Nat):List (Nat×DV)->List (Nat×DV)
 | []=>[]
 | (s,d) :: l=>bif Nat.beq s t then (s,.row k) :: oV t k l else (s,d) :: oV t k l
def oW (k:Nat) (lb:LB):List (Nat×LB)->List (Nat×LB)
 | []=>[]
 | (j,b) :: l=>bif Nat.beq j k then (j,lb) :: oW k lb l else (j,b) :: oW k lb l
def aGp (t k:Nat) (fl:List (Nat×DV)) (ll:List (Nat×LB)):Bool:=
 fl.all (fun q=>Nat.beq q.1 t || !(Ju q.2).contains k) && ll.all (fun q=>Nat.beq q.1 k || !(Z7 q.2).contains k)
theorem W1 {t k:Nat}:∀ {fl:List (Nat×DV)} {s:Nat} {d:DV},Fx (oV t k fl) s=some d->(s=t/\d=.row k)\/(s≠t/\Fx fl s=some d)
 | [],s,d,h=>by simp [oV,Fx] at h
 | (s',d') :: l,s,d,h=>by
  unfold oV at h
  cases hb:Nat.beq s' t with
  | true=>
   rw [hb] at h
   simp only [aEn] at h
   have e0:=aEk hb
   unfold Fx at h
   cases hs:Nat.beq s s' with
   | true=>
    rw [hs] at h
    have:=aEk hs
    injection h with h
    exact .inl ⟨by omega,h.symm⟩
   | false=>
    rw [hs] at h
    rcases W1 h with h | ⟨h1,h2⟩
    ·exact .inl h
    ·refine .inr ⟨h1,?_⟩
     unfold Fx
     rw [hs]
     exact h2
  | false=>
   rw [hb] at h
   simp only [aDk] at h
   unfold Fx at h
   cases hs:Nat.beq s s' with
   | true=>
    rw [hs] at h
    have:=aEk hs
    refine .inr ⟨fun e=>?_,?_⟩
    ·subst this
     subst e
     rw [aKj] at hb
     cases hb
    ·unfold Fx
     rw [hs]
     exact h
   | false=>
    rw [hs] at h
    rcases W1 h with h | ⟨h1,h2⟩
    ·exact .inl h
    ·refine .inr ⟨h1,?_⟩
     unfold Fx
     rw [hs]
     exact h2
theorem W4 {k:Nat} {lb:LB}:∀ {ll:List (Nat×LB)} {j:Nat} {b:LB},Fx (oW k lb ll) j=some b->(j=k/\b=lb)\/(j≠k/\Fx ll j=some b)
 | [],s,d,h=>by simp [oW,Fx] at h
 | (s',d') :: l,s,d,h=>by
  unfold oW at h
  cases hb:Nat.beq s' k with
  | true=>
   rw [hb] at h
   simp only [aEn] at h
   have e0:=aEk hb
   unfold Fx at h
   cases hs:Nat.beq s s' with
   | true=>
    rw [hs] at h
    have:=aEk hs
    injection h with h
    exact .inl ⟨by omega,h.symm⟩
   | false=>
    rw [hs] at h
    rcases W4 h with h | ⟨h1,h2⟩
    ·exact .inl h
    ·refine .inr ⟨h1,?_⟩
     unfold Fx
     rw [hs]
     exact h2
  | false=>
   rw [hb] at h
   simp only [aDk] at h
   unfold Fx at h
   cases hs:Nat.beq s s' with
   | true=>
    rw [hs] at h
    have:=aEk hs
    refine .inr ⟨fun e=>?_,?_⟩
    ·subst this
     subst e
     rw [aKj] at hb
     cases hb
    ·unfold Fx
     rw [hs]
     exact h
   | false=>
    rw [hs] at h
    rcases W4 h with h | ⟨h1,h2⟩
    ·exact .inl h
    ·refine .inr ⟨h1,?_⟩
     unfold Fx
     rw [hs]
     exact h2
theorem nU {lb:LB} {k:Nat} (h:Rp lb k):k∈Z7 lb:=by
 cases lb with
 | box ds ty=>unfold Z7; exact Wl.menL_dtoks h
 | row=>exact h.elim
 | map=>exact h.elim
 | mit k' n s=>have h:k=k':=h; subst h; exact aEo.2 rfl
 | vec ds e=>unfold Z7; exact Wl.menL_dtoks h
theorem oN {α:Type} {f:α->List C} {sz:Nat} (hf:∀ x,(f x).length=sz) {l:List α} {n:Nat} (hn:n<=l.length):(As f l).take (n * sz)=As f (l.take n):=by
 have:=eH hf l 0 n (aI3 _) hn
 simpa using this
theorem aE2 {α:Type} {f:α->List C} {L:List α} {cx:Cx} {fl:List (Nat×DV)} {ll:List (Nat×LB)} {N:Nat} (t k:Nat) {n e sz:Nat} (hf:∀ x,(f x).length=sz) (hn:n<=L.length) (hF:Fx fl t=some (.part k 0 n)) (hL:Fx ll k=some (.row e sz (As f L)))
  (hk:Nat.ble cx.np k=true) (hc:aGp t k fl ll=true):Pt cx (mk fl ll N) (mk (oV t k fl) (oW k (.row e sz (As f (L.take n))) ll) N):=by
 unfold aGp at hc
 rw [aEw,aHi,aHi] at hc
 refine Pt.cut (t:=t) (k:=k) (n:=n) (e:=e) (sz:=sz) (cs:=As f L) (aBe hk) hF hL (by rw [G3 hf]; exact aI8 _ hn) (fun s d hs=>?_) (fun j lb hj=>?_) fun _=>rfl
 ·rcases W1 hs with ⟨rfl,rfl⟩ | ⟨h1,h2⟩
  ·exact .inl ⟨rfl,rfl⟩
  ·refine .inr ⟨h2,fun hm=>?_⟩
   have:=hc.1 _ (Ik h2)
   rw [aJf] at this
   rcases this with h | h
   ·exact h1 (aEk h)
   ·have hm':=Wl hm
    simp at h
    exact h hm'
 ·rcases W4 hj with ⟨rfl,rfl⟩ | ⟨h1,h2⟩
  ·refine .inl ⟨rfl,?_⟩
   rw [oN hf hn]
  ·refine .inr ⟨h1,h2,fun hm=>?_⟩
   have:=hc.2 _ (Ik h2)
   rw [aJf] at this
   rcases this with h | h
   ·exact h1 (aEk h)
   ·have hm':=nU hm
    simp at h
    exact h hm'
end Go.Proofs.YtkoflhimdenjaaaGreat
