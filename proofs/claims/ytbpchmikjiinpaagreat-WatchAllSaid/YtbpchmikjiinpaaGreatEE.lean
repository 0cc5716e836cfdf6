import Derived.Test.YtbpchmikjiinpaaGreatED
import Derived.KernelRfl
import Derived.Test.YtbpchmikjiinpaaGreatPU
import Derived.Scope
set_option linter.unusedVariables false
set_option linter.unusedSimpArgs false
namespace Go.Proofs.YtbpchmikjiinpaaGreat
open Go.RowKit
section
variable {Q:Exit->St->Prop} {next:St->Prop} {σ:St} {i j:Nat}
theorem vF (h:Q .normal σ):inB i Q (.exit i) σ:=by
 show (if i=i then _ else _)
 rw [if_pos rfl]
 exact h
theorem rD (hne:j≠i) (h:Q (.exit j) σ):inB i Q (.exit j) σ:=by
 show (if j=i then _ else _)
 rw [if_neg hne]
 exact h
end
theorem aA3 {P:Program} {t ty:TypeId} {s:ByteArray} (h:P.underlying t=some .string):∀ w,∀ cs,(builtin .len #[t] ty cs #[.string s]).run P w=.ok (.value (.int .i64 s.size)) w:=fun w cs=>by
 simp [builtin,Builtin.len_,run_underlying h,goInt]
section
variable {P:Program} {t:TypeId} {X Y:Operand}
end
section
variable {P:Program} {t:TypeId} {X Y:Operand} {k:IntKind} {x y:Int}
end
section
variable {P:Program} {t:TypeId} {X Y:Operand} {a b:ByteArray}
end
theorem Fr {θ:List (Nat×Nat)} {j:Nat} (h:(θ.all fun q=>!Nat.beq q.2 j)=true):∀ k,Gf θ k≠some j:=fun k hk=>by
 have:=aG8.1 h _ (Iu hk)
 simp at this
theorem Ba {P:Program} {cx:Cx} {x y:Code} {Q:Exit->St->Prop} {σ:St} {ι:Type} (mid:ι->St) (ok:ι->Prop) (hx:Oy P cx x (tF (fun σ'=>∃ i,ok i/\O5 cx σ' (mid i)) Q) σ) (hy:∀ i,ok i->Oy P cx y Q (mid i)):Oy P cx (.seq x y) Q σ:=by
 refine Au (vW ?_ hx)
 intro e σ' h
 cases e with
 | normal=>
  obtain⟨i,h1,h2⟩:=h
  exact Ew h2 (hy i h1)
 | _=>exact h
end Go.Proofs.YtbpchmikjiinpaaGreat
namespace Go.Proofs.YtbpchmikjiinpaaGreat
open Go.RowKit
mutual
def wU (j:Nat):DV->Bool
 | .part k _ _=>!Nat.beq k j
 | .ptr k _=>!Nat.beq k j
 | .agg ds=>dX j ds
 | .tup ds=>dX j ds
 | .clo _ _ ds=>dX j ds
 | .val _=>true
 | .sl _ _=>true
 | .slc _ _=>true
 | .mp _=>true
 | .elt _=>true
 | .row _=>true
def dX (j:Nat):List DV->Bool
 | []=>true
 | d :: ds=>wU j d && dX j ds
end
mutual
def Nj (j sz:Nat) (cs:List C):DV->DV
 | .row k=>bif Nat.beq k j then .sl sz cs else .row k
 | .agg ds=>.agg (Rq j sz cs ds)
 | .tup ds=>.tup (Rq j sz cs ds)
 | .clo f n ds=>.clo f n (Rq j sz cs ds)
 | .val v=>.val v
 | .sl s c=>.sl s c
 | .slc s c=>.slc s c
 | .mp l=>.mp l
 | .elt c=>.elt c
 | .part k o n=>.part k o n
 | .ptr k i=>.ptr k i
def Rq (j sz:Nat) (cs:List C):List DV->List DV
 | []=>[]
 | d :: ds=>Nj j sz cs d :: Rq j sz cs ds
end
def St.frz (σ:St) (j sz:Nat) (cs:List C):St where
 F:=fun t=>match σ.F t with | some d=>bif wU j d then some (Nj j sz cs d) else none | none=>none
 L:=fun k=>bif Nat.beq k j then none else match σ.L k with | some (.box ds ty)=>(bif dX j ds then some (.box (Rq j sz cs ds) ty) else none) | some (.row e s c)=>some (.row e s c) | _=>none
 U:=σ.U
theorem Uq {a b:Nat} (h:Nat.beq a b=false):a≠b:=fun e=>by
 subst e
 rw [aSm] at h; cases h
section
variable {σ:St} {j e sz:Nat} {cs:List C}
abbrev tQ (j:Nat) (k:Nat):Option Nat:=if k=j then none else some k
mutual
theorem Cv.frzD (h:σ.L j=some (.row e sz cs)):∀ d,wU j d=true->Cv σ (tQ j) d (Go.Proofs.YtbpchmikjiinpaaGreat.Nj j sz cs d)
 | .val v,_=>by unfold Go.Proofs.YtbpchmikjiinpaaGreat.Nj; exact .val v
 | .sl _ _,_=>by unfold Go.Proofs.YtbpchmikjiinpaaGreat.Nj; exact .sl _ _
 | .slc _ _,_=>by unfold Go.Proofs.YtbpchmikjiinpaaGreat.Nj; exact .slcc _ _
 | .mp _,_=>by unfold Go.Proofs.YtbpchmikjiinpaaGreat.Nj; exact .mp _
 | .elt _,_=>by unfold Go.Proofs.YtbpchmikjiinpaaGreat.Nj; exact .elt _
 | .row k,_=>by
  unfold Go.Proofs.YtbpchmikjiinpaaGreat.Nj
  cases hb:Nat.beq k j with
  | true=>
   have:=aDj hb
   subst this
   refine .frz h fun k' hk'=>?_
   unfold tQ at hk'
   split at hk'
   ·cases hk'
   ·rename_i hne
    injection hk' with hk'
    exact hne hk'
  | false=>exact .row (if_neg (Uq hb))
 | .part k _ _,hn=>by
  unfold wU at hn
  unfold Go.Proofs.YtbpchmikjiinpaaGreat.Nj
  exact .part (if_neg (Uq (by simpa using hn)))
 | .ptr k _,hn=>by
  unfold wU at hn
  unfold Go.Proofs.YtbpchmikjiinpaaGreat.Nj
  exact .ptr (if_neg (Uq (by simpa using hn)))
 | .agg ds,hn=>by
  unfold wU at hn
  unfold Go.Proofs.YtbpchmikjiinpaaGreat.Nj
  exact .agg (Tq.frzDs h ds hn)
 | .tup ds,hn=>by
  unfold wU at hn
  unfold Go.Proofs.YtbpchmikjiinpaaGreat.Nj
  exact .tup (Tq.frzDs h ds hn)
 | .clo f n ds,hn=>by
  unfold wU at hn
  unfold Go.Proofs.YtbpchmikjiinpaaGreat.Nj
  exact .clo f n (Tq.frzDs h ds hn)
theorem Tq.frzDs (h:σ.L j=some (.row e sz cs)):∀ ds,dX j ds=true->Tq σ (tQ j) ds (Go.Proofs.YtbpchmikjiinpaaGreat.Rq j sz cs ds)
 | [],_=>by unfold Go.Proofs.YtbpchmikjiinpaaGreat.Rq; exact .nil
 | d :: ds,hn=>by
  unfold dX at hn
  simp only [aFx] at hn
  unfold Go.Proofs.YtbpchmikjiinpaaGreat.Rq
  exact .cons (Cv.frzD h d hn.1) (Tq.frzDs h ds hn.2)
end
mutual
theorem qI:∀ (d:DV) (k:Nat),men (Nj j sz cs d) k->men d k
 | .val _,k,h=>by unfold Nj men at h; exact h.elim
 | .sl _ _,k,h=>by unfold Nj men at h; exact h.elim
 | .slc _ _,k,h=>by unfold Nj men at h; exact h.elim
 | .mp _,k,h=>by unfold Nj men at h; exact h.elim
 | .elt _,k,h=>by unfold Nj men at h; exact h.elim
 | .row i,k,h=>by
  unfold Nj at h
  cases hb:Nat.beq i j with
  | true=>rw [hb] at h; simp only [aDb] at h; unfold men at h; exact h.elim
  | false=>rw [hb] at h; exact h
 | .part _ _ _,k,h=>by unfold Nj at h; exact h
 | .ptr _ _,k,h=>by unfold Nj at h; exact h
 | .agg ds,k,h=>by unfold Nj men at h; unfold men; exact Uo ds k h
 | .tup ds,k,h=>by unfold Nj men at h; unfold men; exact Uo ds k h
 | .clo _ _ ds,k,h=>by unfold Nj men at h; unfold men; exact Uo ds k h
theorem Uo:∀ (ds:List DV) (k:Nat),F7 (Rq j sz cs ds) k->F7 ds k
 | [],k,h=>by unfold Rq F7 at h; exact h.elim
 | d :: ds,k,h=>by
  unfold Rq F7 at h
  unfold F7
  exact h.imp (qI d k) (Uo ds k)
end
theorem aDk {t:Nat} {d':DV} (h:(σ.frz j sz cs).F t=some d'):∃ d,σ.F t=some d/\wU j d=true/\d'=Nj j sz cs d:=by
 have h':(match σ.F t with | some d=>bif wU j d then some (Nj j sz cs d) else none | none=>none)=some d':=h
 cases hF:σ.F t with
 | none=>rw [hF] at h'; cases h'
 | some d=>
  rw [hF] at h'
  cases hn:wU j d with
  | false=>simp only [hn,aCv] at h'; cases h'
  | true=>simp only [hn,aDb] at h'; injection h' with h'; exact⟨d,rfl,hn,h'.symm⟩
theorem aDl {k:Nat} {lb':LB} (h:(σ.frz j sz cs).L k=some lb'):k≠j/\((∃ ds ty,σ.L k=some (.box ds ty)/\dX j ds=true/\lb'=.box (Rq j sz cs ds) ty)\/∃ e s c,σ.L k=some (.row e s c)/\lb'=.row e s c):=by
 have h':(bif Nat.beq k j then none else match σ.L k with | some (.box ds ty)=>(bif dX j ds then some (LB.box (Rq j sz cs ds) ty) else none) | some (.row e s c)=>some (.row e s c) | _=>none)=some lb':=h
 cases hb:Nat.beq k j with
 | true=>rw [hb] at h'; cases h'
 | false=>
  refine⟨Uq hb,?_⟩
  rw [hb] at h'
  simp only [aCv] at h'
  cases hL:σ.L k with
  | none=>rw [hL] at h'; cases h'
  | some lb=>
   rw [hL] at h'
   cases lb with
   | row e s c=>simp only [] at h'; injection h' with h'; exact .inr ⟨e,s,c,rfl,h'.symm⟩
   | map l=>cases h'
   | mit k' n s=>cases h'
   | vec ds e=>cases h'
   | box ds ty=>
    simp only [] at h'
    cases hn:dX j ds with
    | false=>rw [hn] at h'; cases h'
    | true=>rw [hn] at h'; injection h' with h'; exact .inl ⟨ds,ty,rfl,hn,h'.symm⟩
theorem O5.frz {cx:Cx} (h:σ.L j=some (.row e sz cs)) (hj:Nat.ble cx.np j=true):O5 cx σ (σ.frz j sz cs):=by
 rintro a w ⟨ρ,ha⟩
 have hj':cx.np<=j:=aCt hj
 refine⟨_,(ha.ren (σ':=σ.frz j sz cs) (tQ j) (fun t d' hd=>?_) (fun k lb' hl=>?_) (fun k k' i h1 h2=>?_) (fun k hk=>⟨if_neg (by omega),(ha.pin k hk).2⟩) (fun t d k hd hm=>?_) (fun k lb hl=>?_)).1⟩
 ·obtain⟨d,h1,h2,rfl⟩:=aDk hd
  exact⟨d,h1,Cv.frzD h d h2⟩
 ·obtain⟨hne,h1⟩:=aDl hl
  refine .inl ?_
  rcases h1 with ⟨ds,ty,h1,h2,rfl⟩ | ⟨e',s,c,h1,rfl⟩
  ·exact⟨k,_,if_neg hne,h1,rfl,Tq.frzDs h ds h2⟩
  ·exact⟨k,_,if_neg hne,h1,rfl,rfl,rfl⟩
 ·unfold tQ at h1 h2
  split at h1
  ·cases h1
  ·split at h2
   ·cases h2
   ·injection h1 with h1
    injection h2 with h2
    omega
 ·obtain⟨d',h1,h2,rfl⟩:=aDk hd
  exact ha.usedF t d' k h1 (qI d' k hm)
 ·obtain⟨hne,h1⟩:=aDl hl
  rcases h1 with ⟨ds,ty,h1,h2,rfl⟩ | ⟨e',s,c,h1,rfl⟩
  ·exact⟨(ha.usedL k _ h1).1,fun k' hk'=>(ha.usedL k _ h1).2 k' (Uo ds k' hk')⟩
  ·exact⟨(ha.usedL k _ h1).1,fun k' hk'=>hk'.elim⟩
end
section
variable {P:Program} {cx:Cx} {ops:Array Oper} {Q:Exit->St->Prop} {l:List Oper} {σ σ':St}
def hG (P:Program) (cx:Cx) (ops:Array Oper) (Q:Exit->St->Prop) (l:List Oper) (σ:St):Prop:=∀ a w,Lw cx σ a w->wpList P ops (Tn cx Q) l a w
theorem hG.sub (h:O5 cx σ σ') (k:hG P cx ops Q l σ'):hG P cx ops Q l σ:=fun a w ha=>k a w (h a w ha)
theorem hG.fin (h:Q .normal σ):hG P cx ops Q [] σ:=fun a w ha=>⟨σ,h,ha⟩
variable {S:yX P cx} {nb nb':Nat}
theorem Yj {l2:List Oper}:∀ (l:List Oper) (k:Nat) (lg:jT) (σ:St) (a:Act) (w:World),Chain S ops none nb (idx k l) lg σ (fun σ'=>(∀ j,nb'<=j->σ'.U j=false)->hG P cx ops Q l2 σ')->Xl nb (idx k l) σ->uI cx (idx k l)->(∀ j,nb'<=j->σ.U j=false)->nb + 8 * (k + l.length)<=nb'->Lw cx σ a w->wpList P ops (Tn cx Q) (l ++ l2) a w
 | [],k,lg,σ,a,w,h,_,_,B,_,ha=>h B a w ha
 | o :: l,k,lg,σ,a,w,h,hf,hd,B,hn,⟨ρ,ha⟩=>by
  have hf0:=hf (k,o) (by simp [idx])
  have hd0:=hd (k,o) (by simp [idx])
  have hf1:Xl nb (idx (k + 1) l) σ:=fun q hq=>hf q (by simp [idx,hq])
  have hd1:uI cx (idx (k + 1) l):=fun q hq=>hd q (by simp [idx,hq])
  have hne:∀ q∈idx (k + 1) l,q.1≠k:=fun q hq=>by have:=(U6 hq).1; omega
  have hn':nb + 8 * (k + 1 + l.length)<=nb':=by simp at hn; omega
  have hUn:∀ {e:Nq} {wr:List Nat} {rd:List Nat},(∀ j,e.l j≠none->j∈wr\/(nb + 8 * k<=j/\j < nb + 8 * k + 8))->(∀ j,j∈wr->j∈rd)->(∀ j,j∈rd->σ.U j=true)->∀ j,nb'<=j->(σ.app o.dst e).U j=false:=fun {e wr rd} hk hs hu j hj=>by
   cases hc:(σ.app o.dst e).U j with
   | false=>rfl
   | true=>
    rcases pE hc with h1 | h1
    ·rw [B j hj] at h1; cases h1
    ·rcases hk j h1 with h2 | h2
     ·exact absurd (hu j (hs j h2)) (by rw [B j hj]; simp)
     ·simp at hn; omega
  show wpList P ops (Tn cx Q) (o :: (l ++ l2)) a w
  unfold wpList
  rcases h with ⟨rd,wr,e,h1,-,h3⟩ | ⟨rd,wr,E,h1,-,-,h3⟩
  ·have hs:=h1.sound ha hf0 hd0
   have:=hs (wpList P ops (Tn cx Q) (l ++ l2)) (Tn cx Q) fun a' w' ha'=>Yj l (k + 1) _ _ a' w' h3 (hf1.next h1.key.1 (fun j hj=>h1.used ha j (h1.key.2 j hj)) hne) hd1 (hUn h1.key.1 h1.key.2 (h1.used ha)) hn' ha'
   split
   ·rename_i hw
    rw [if_pos hw] at this
    exact .inl this
   ·rename_i hw
    rw [if_neg hw] at this
    exact this
  ·have:=h1.sound ha hf0 hd0 (wpList P ops (Tn cx Q) (l ++ l2)) (Tn cx Q) fun e a' w' he ha'=>Yj l (k + 1) _ _ a' w' (h3 e he) (hf1.next (h1.key.1 e he) (fun j hj=>h1.used ha j (h1.key.2 j hj)) hne) hd1 (hUn (h1.key.1 e he) h1.key.2 (h1.used ha)) hn' ha'
   split
   ·rename_i hw
    rw [if_pos hw] at this
    exact .inl this
   ·rename_i hw
    rw [if_neg hw] at this
    exact this
theorem hG.chain (S:yX P cx) (m nb nb':Nat) (B:∀ k,nb<=k->σ.U k=false) (hn:Nat.ble (nb + 8 * (l.take m).length) nb'=true) (hd:iK cx.N (l.take m)=true)
  (h:Chain S ops none nb (idx 0 (l.take m)) [] σ (fun σ'=>(∀ j,nb'<=j->σ'.U j=false)->hG P cx ops Q (l.drop m) σ')):hG P cx ops Q l σ:=by
 intro a w ha
 have hn':nb + 8 * (l.take m).length<=nb':=aCt hn
 have:=Yj (l2:=l.drop m) (l.take m) 0 [] σ a w h (fun q hq j hj=>B _ (by omega)) (Yd hd) (fun j hj=>B j (by omega)) (by simpa using hn') ha
 rwa [aOc] at this
end
section
variable {P:Program} {f:FuncId} {args:List DV}
theorem Fn.plain {v:Value} {R:DV->List LB->Prop} {vs:List Value} {w:World} (h:Fn P f 0 args [] R) (hR:∀ r b,R r b->r=.val v) (ρ:Nat->Value) (I:Nat->Prop) (hI:∀ b,I b->b < w.heap.size) (hr:Cb ρ I w args vs):Calls P f vs.toArray w fun e w'=>e=.returned v/\aH w w':=by
 refine (h.2.2 ρ I w vs (fun b hb=>⟨hI b hb,fun k hk=>by simp at hk⟩) hr (fun k lb h=>by simp at h) (fun k k' b hk=>by simp at hk)).mono ?_
 rintro e w' ⟨u,r,b,rfl,h1,h2⟩
 obtain⟨-,⟨o1,o2,o3,o4⟩,hk,⟨ρ',J,-,-,hrep,-⟩,-⟩:=h2
 rw [hR r b h1] at hrep
 unfold Cw at hrep
 rw [hrep.1]
 exact⟨rfl,o1,o2,o3,o4,fun b hb=>hk b hb fun k hk=>by simp at hk⟩
end
end Go.Proofs.YtbpchmikjiinpaaGreat
namespace Go.Proofs.YtbpchmikjiinpaaGreat
open Go.RowKit
def noG (Q:Exit->St->Prop):Exit->St->Prop
 | .normal,σ=>Q .normal σ
 | .exit i,σ=>Q (.exit i) σ
 | .goto _,_=>False
 | .ret,σ=>Q .ret σ
 | .panic c,σ=>Q (.panic c) σ
 | .outgrown,σ=>Q .outgrown σ
def Aj {α:Type} (f:α->List C) (l:List α):List C:=l.flatMap f
def eI (x:Int):List C:=[.int .i64 x]
def eK (k:IntKind) (x:Int):List C:=[.int k x]
def e8 (x:UInt8):List C:=[.int .u8 (x.toNat:Int)]
def eS (x:ByteArray):List C:=[.str x]
def eB (x:Bool):List C:=[.bool x]
def eL {α:Type} (sz:Nat) (f:α->List C) (l:List α):List C:=[.sl sz (Aj f l)]
theorem Rf (x:Int):(eI x).length=1:=rfl
theorem aEs (k:IntKind) (x:Int):(eK k x).length=1:=rfl
theorem aGy (x:UInt8):(e8 x).length=1:=rfl
theorem iY (x:ByteArray):(eS x).length=1:=rfl
theorem aEn (x:Bool):(eB x).length=1:=rfl
theorem iV {α:Type} (sz:Nat) (f:α->List C) (l:List α):(eL sz f l).length=1:=rfl
section
variable {α:Type} {f:α->List C} {sz:Nat}
theorem Hk (hf:∀ x,(f x).length=sz):∀ (l:List α),(Aj f l).length=l.length * sz
 | []=>by simp [Aj]
 | x :: l=>by
  have:=Hk hf l
  unfold Aj at this ⊢
  rw [aNs,aDd,hf,this,aLg,aNn,aS5,Nat.add_comm]
theorem Mw (l m:List α):Aj f (l ++ m)=Aj f l ++ Aj f m:=by unfold Aj; rw [List.flatMap_append]
theorem S6 {l:List α} {j:Nat} {x:α} (hx:l[j]?=some x):Aj f l=Aj f (l.take j) ++ (f x ++ Aj f (l.drop (j + 1))):=by
 have hj:=(aC4.1 hx).1
 have hxe:=(aC4.1 hx).2
 have e1:l=l.take j ++ (x :: l.drop (j + 1)):=by
  rw [<- hxe,List.getElem_cons_drop,aOc]
 rw [show Aj f l=Aj f (l.take j ++ (x :: l.drop (j + 1))) from congrArg _ e1,Mw]
 rfl
theorem Pg (hf:∀ x,(f x).length=sz) {l:List α} {j:Nat} (hj:j<=l.length):(Aj f (l.take j)).length=j * sz:=by
 rw [Hk hf,aFl,aSk hj]
theorem iI (hf:∀ x,(f x).length=sz) {l:List α} {j:Nat} {x:α} (hx:l[j]?=some x):j * sz + sz<=(Aj f l).length:=by
 have hj:=(aC4.1 hx).1
 rw [Hk hf]
 have:(j + 1) * sz<=l.length * sz:=aLi _ hj
 rw [aNn,aS5] at this
 exact this
theorem xW (hf:∀ x,(f x).length=sz) {l:List α} {j o:Nat} {x:α} (hx:l[j]?=some x) (ho:o < sz) {a:Nat} (ha:a=j * sz + o):a < (Aj f l).length:=by
 have:=iI hf hx
 omega
theorem cC (hf:∀ x,(f x).length=sz) {l:List α} {j o:Nat} {x:α} (hx:l[j]?=some x) (ho:o<=sz):(Aj f l).drop (j * sz + o)=(f x).drop o ++ Aj f (l.drop (j + 1)):=by
 have hj:=(aC4.1 hx).1
 have ht:=Pg hf (l:=l) (j:=j) (by omega)
 rw [S6 hx,<- ht,<- aSj,List.drop_left,List.drop_append_of_le_length (by rw [hf]; exact ho)]
theorem Ng (hf:∀ x,(f x).length=sz) {l:List α} {j o:Nat} {x:α} {c:C} (hx:l[j]?=some x) (hc:(f x)[o]?=some c) {a:Nat} (ha:a=j * sz + o):(Aj f l)[a]?=some c:=by
 subst ha
 have ho:o < sz:=by rw [<- hf x]; exact (aC4.1 hc).1
 have e1:=cC hf hx (Nat.le_of_lt ho)
 have e2:(Aj f l)[j * sz + o]?=((Aj f l).drop (j * sz + o))[0]?:=by rw [aLa]; rfl
 rw [e2,e1,aHv (by rw [aIf,hf]; omega),aLa]
 exact hc
theorem Kb (hf:∀ x,(f x).length=sz) {l:List α} {j o m:Nat} {x:α} {cs:List C} (hx:l[j]?=some x) (hs:((f x).drop o).take m=cs) (ho:o + m<=sz) {a:Nat} (ha:a=j * sz + o):((Aj f l).drop a).take m=cs:=by
 subst ha
 rw [cC hf hx (by omega),aNe (by rw [aIf,hf]; omega)]
 exact hs
theorem Gd (hf:∀ x,(f x).length=sz) {l:List α} {j o m:Nat} {x:α} (hx:l[j]?=some x) (ho:o + m<=sz) {a:Nat} (ha:a=j * sz + o):a + m<=(Aj f l).length:=by
 have:=iI hf hx
 omega
theorem bC (hf:∀ x,(f x).length=sz) {l:List α} {j o:Nat} {x x':α} {cs:List C} (hx:l[j]?=some x) (ho:o + cs.length<=sz) (hs:Di (f x) o cs=f x') {a:Nat} (ha:a=j * sz + o):Di (Aj f l) a cs=Aj f (C3 l j x'):=by
 subst ha
 have hj:=(aC4.1 hx).1
 have ht:=Pg hf (l:=l) (j:=j) (by omega)
 have hset:Aj f (C3 l j x')=Aj f (l.take j) ++ (f x' ++ Aj f (l.drop (j + 1))):=by
  have:(C3 l j x')[j]?=some x':=by unfold C3; rw [List.getElem?_set_self hj]
  rw [S6 this]
  unfold C3
  rw [List.take_set_of_le (aHx _),List.drop_set_of_lt (by omega)]
 rw [hset,<- hs]
 unfold Di
 have e1:(Aj f l).take (j * sz + o)=Aj f (l.take j) ++ (f x).take o:=by
  rw [S6 hx,aSx,ht,aSg,aH0 (by rw [ht]; omega)]
  congr 1
  rw [aNe (by rw [hf]; omega)]
 have e2:(Aj f l).drop (j * sz + o + cs.length)=(f x).drop (o + cs.length) ++ Aj f (l.drop (j + 1)):=by
  rw [Nat.add_assoc,cC hf hx ho]
 rw [e1,e2]
 simp only [aLp]
theorem iP (hf:∀ x,(f x).length=sz) (l:List α) (i j:Nat) (hij:i<=j) (hj:j<=l.length):((Aj f l).drop (i * sz)).take ((j - i) * sz)=Aj f ((l.drop i).take (j - i)):=by
 have e0:Aj f l=Aj f (l.take i) ++ Aj f (l.drop i):=by rw [<- Mw,aOc]
 have e1:Aj f (l.drop i)=Aj f ((l.drop i).take (j - i)) ++ Aj f ((l.drop i).drop (j - i)):=by rw [<- Mw,aOc]
 rw [e0]
 have ht:=Pg hf (l:=l) (j:=i) (by omega)
 have hd:((Aj f (l.take i)) ++ Aj f (l.drop i)).drop (i * sz)=Aj f (l.drop i):=by rw [<- ht,List.drop_left]
 rw [hd,e1]
 have ht2:=Pg hf (l:=l.drop i) (j:=j - i) (by rw [aIf]; omega)
 rw [<- ht2,List.take_left]
theorem Xf (hf:∀ x,(f x).length=sz) (l:List α) (i n:Nat) (hn:i + n<=l.length):((Aj f l).drop (i * sz)).take (n * sz)=Aj f ((l.drop i).take n):=by
 have:=iP hf l i (i + n) (by omega) (by omega)
 rw [aSg] at this
 exact this
end
theorem aJn (l:List UInt8):Aj e8 l=Ko l:=by
 induction l with
 | nil=>rfl
 | cons x l ih=>
  show e8 x ++ Aj e8 l=_
  rw [ih]
  rfl
section
variable {P:Program} {tk:Nat} {t ty yt:TypeId} {X Y:Operand} {b1 b2:Option LB} {k:IntKind} {x y:Int}
theorem aIe:F1 P tk (.binOp .lss t X Y yt) ty [(.val (.int k x),b1),(.val (.int k y),b2)] [] (v0 (.val (.bool (decide (x < y))))):=.binOp (fun _ _=>rfl) aEr
theorem aH7:F1 P tk (.binOp .leq t X Y yt) ty [(.val (.int k x),b1),(.val (.int k y),b2)] [] (v0 (.val (.bool (decide (x<=y))))):=.binOp (fun _ _=>rfl) aHo
theorem aJt:F1 P tk (.binOp .gtr t X Y yt) ty [(.val (.int k x),b1),(.val (.int k y),b2)] [] (v0 (.val (.bool (decide (y < x))))):=.binOp (fun _ _=>rfl) aGs
theorem aJ6:F1 P tk (.binOp .geq t X Y yt) ty [(.val (.int k x),b1),(.val (.int k y),b2)] [] (v0 (.val (.bool (decide (y<=x))))):=.binOp (fun _ _=>rfl) aFn
theorem aH6:F1 P tk (.binOp .eql t X Y yt) ty [(.val (.int k x),b1),(.val (.int k y),b2)] [] (v0 (.val (.bool (decide (x=y))))):=.binOp (fun _ _=>rfl) aE8
theorem aJ3:F1 P tk (.binOp .neq t X Y yt) ty [(.val (.int k x),b1),(.val (.int k y),b2)] [] (v0 (.val (.bool (!decide (x=y))))):=.binOp (fun _ _=>rfl) (fun w=>by rw [aEc w,decide_not])
theorem eX (x:Int):IntKind.i64.wrap x=W x:=by rw [IntKind.wrap_i64]; unfold W; omega
theorem okW (x:Int):E8 (.int .i64 (W x))=true:=Ia.2 (Rm (pI x))
theorem aJx (x:Int):IntKind.u8.wrap x=((u8 x).toNat:Int):=by rw [IntKind.wrap_u8,mG]
theorem ok8 (x:UInt8):E8 (.int .u8 (x.toNat:Int))=true:=Ia.2 (lB ⟨by omega,by have:=x.toNat_lt; omega⟩)
theorem aC0:F1 P tk (.binOp .add t X Y yt) ty [(.val (.int .i64 x),b1),(.val (.int .i64 y),b2)] [] (v0 (.val (.int .i64 (W (x + y))))):=.binOp (fun _ _=>okW _) (fun w=>by rw [yZ w,eX])
theorem aIu:F1 P tk (.binOp .sub t X Y yt) ty [(.val (.int .i64 x),b1),(.val (.int .i64 y),b2)] [] (v0 (.val (.int .i64 (W (x - y))))):=.binOp (fun _ _=>okW _) (fun w=>by rw [pP w,eX])
theorem aKe:F1 P tk (.binOp .mul t X Y yt) ty [(.val (.int .i64 x),b1),(.val (.int .i64 y),b2)] [] (v0 (.val (.int .i64 (W (x * y))))):=.binOp (fun _ _=>okW _) (fun w=>by rw [qO w,eX])
theorem wX (x y:Int):(x.tmod y).natAbs<=x.natAbs:=by
 rw [Int.natAbs_tmod]
 exact Nat.mod_le _ _
theorem oE {x y:Int} (h:-9223372036854775808<=x/\x<=9223372036854775807):-9223372036854775808<=x.tmod y/\x.tmod y<=9223372036854775807:=by
 have h0:=wX x y
 rcases Int.le_total 0 x with hx | hx
 ·have h1:=Int.tmod_nonneg y hx
  omega
 ·have e:x.tmod y=-((-x).tmod y):=by rw [Int.neg_tmod]; omega
  have h1:=Int.tmod_nonneg y (show 0<=-x by omega)
  omega
theorem aA8 {n:Int} (h:E8 (.int .i64 n)=true):-9223372036854775808<=n/\n<=9223372036854775807:=by
 have:=Ia.1 h
 have h1:IntKind.i64.min=-9223372036854775808:=by decide
 have h2:IntKind.i64.max=9223372036854775807:=by decide
 rw [h1,h2] at this
 exact this
theorem aIs {z:Int} (h:Yg x y=some z):F1 P tk (.binOp .rem t X Y yt) ty [(.val (.int .i64 x),b1),(.val (.int .i64 y),b2)] [] (v0 (.val (.int .i64 z))):=by
 obtain⟨hy,rfl⟩:=qS h
 exact .binOp (fun h _=>Ia.2 (Rm (oE (aA8 h)))) (aHp hy)
theorem aKo {z:Int} (h:Og x y=some z):F1 P tk (.binOp .quo t X Y yt) ty [(.val (.int .i64 x),b1),(.val (.int .i64 y),b2)] [] (v0 (.val (.int .i64 z))):=by
 obtain⟨hy,rfl⟩:=qQ h
 exact .binOp (fun _ _=>okW _) (fun w=>by rw [aFa hy w,eX])
theorem Qa {z:Int} (h:W (x + y)=z):F1 P tk (.binOp .add t X Y yt) ty [(.val (.int .i64 x),b1),(.val (.int .i64 y),b2)] [] (v0 (.val (.int .i64 z))):=h ▸ aC0
theorem aId {b:Bool}:F1 P tk (.unOp .not t X) ty [(.val (.bool b),b1)] [] (v0 (.val (.bool (!b)))):=.unOp (fun _=>rfl) aFu
theorem aFt {a b:Bool} (ht:P.underlying t=some .bool):F1 P tk (.binOp .neq t X Y yt) ty [(.val (.bool a),b1),(.val (.bool b),b2)] [] (v0 (.val (.bool (!decide (a=b))))):=.binOp (fun _ _=>rfl) (fun w=>by cases a <;> cases b <;> simp [eqGuard,binOp,Op.equal,Op.maxDepth,run_equalIn_bool',ht])
theorem aDw {a b:ByteArray}:F1 P tk (.binOp .eql t X Y yt) ty [(.val (.string a),b1),(.val (.string b),b2)] [] (v0 (.val (.bool (decide (a=b))))):=.binOp (fun _ _=>rfl) aA0
theorem aF8 {a b:ByteArray}:F1 P tk (.binOp .neq t X Y yt) ty [(.val (.string a),b1),(.val (.string b),b2)] [] (v0 (.val (.bool (!decide (a=b))))):=.binOp (fun _ _=>rfl) (fun w=>by rw [aA9 w,decide_not])
theorem gN:∀ (a b:List UInt8),Op.bytesLess a b=Mc a b
 | _,[]=>by cases ‹List UInt8› <;> rfl
 | [],_ :: _=>rfl
 | a :: x,b :: y=>by unfold Op.bytesLess Mc; rw [gN x y]
theorem aGe {a b:ByteArray}:F1 P tk (.binOp .lss t X Y yt) ty [(.val (.string a),b1),(.val (.string b),b2)] [] (v0 (.val (.bool (Mc (Hq a) (Hq b))))):=.binOp (fun _ _=>rfl) (fun w=>by
 simp [eqGuard,binOp,Op.stringOp,gN,ByteArray.toList_eq,Hq])
theorem aJj {a b c:ByteArray} (h:uV a b=some c):F1 P tk (.binOp .add t X Y yt) ty [(.val (.string a),b1),(.val (.string b),b2)] [] (v0 (.val (.string c))):=by
 obtain⟨h1,rfl⟩:=tC h
 refine .binOp (fun _ _=>Oc.2 ?_) (fun w=>?_)
 ·rw [aS9]; exact h1
 ·have h2:¬ (9223372036854775807:Int) < ((a.size:Int) + (b.size:Int)):=by omega
  have hm:IntKind.i64.max=9223372036854775807:=by decide
  simp [eqGuard,binOp,Op.stringOp,hm,h2]
theorem gA {src dst:TypeId} (hs:P.underlying src=some (.int k)) (hd:P.underlying dst=some (.int .u8)):F1 P tk (.convert src dst X) ty [(.val (.int k x),b1)] [] (v0 (.val (.int .u8 ((u8 x).toNat:Int)))):=
 .conv (by unfold pL; rw [hs]) (by unfold pL; rw [hd]) (fun _=>ok8 _) (fun w=>by rw [hZ (by rw [hs]; rfl) hd w,aJx])
theorem oC {src dst:TypeId} (hs:P.underlying src=some (.int k)) (hd:P.underlying dst=some (.int .i64)):F1 P tk (.convert src dst X) ty [(.val (.int k x),b1)] [] (v0 (.val (.int .i64 (W x)))):=
 .conv (by unfold pL; rw [hs]) (by unfold pL; rw [hd]) (fun _=>okW _) (fun w=>by rw [hZ (by rw [hs]; rfl) hd w,eX])
theorem fL {src dst:TypeId} {u:UInt8} (hs:P.underlying src=some (.int .u8)) (hd:P.underlying dst=some (.int .i64)):F1 P tk (.convert src dst X) ty [(.val (.int .u8 (u.toNat:Int)),b1)] [] (v0 (.val (.int .i64 (u.toNat:Int)))):=
 .conv (by unfold pL; rw [hs]) (by unfold pL; rw [hd]) (fun _=>Ia.2 (Rm ⟨by omega,by have:=u.toNat_lt; omega⟩)) (fun w=>by
  have:=u.toNat_lt
  rw [hZ (by rw [hs]; rfl) hd w,eX,Dz (by omega)])
theorem aG1 {ts:Array TypeId}:∀ w,∀ cs,(builtin .max ts ty cs #[.int k x,.int k y]).run P w=.ok (.value (.int k (max x y))) w:=fun w cs=>by
 simp [builtin,Builtin.max_,Builtin.max2,go_sem]
 split <;> omega
theorem aKt {ts:Array TypeId}:F1 P tk (.call ⟨.builtin .max,#[X,Y],ts⟩) ty [(.val (.int k x),b1),(.val (.int k y),b2)] [] (v0 (.val (.int k (max x y)))):=
 .callV2 (vx:=.int k x) (vy:=.int k y) (v:=.int k (max x y)) (by decide) (fun h h'=>by
  rcases Int.le_total x y with hxy | hxy
  ·rw [Int.max_eq_right hxy]; exact h'
  ·rw [Int.max_eq_left hxy]; exact h) aG1
theorem aAa {Z:Operand} {c:Bool} {d1 d2:DV} {b3:Option LB} (h:c=true):F1 P tk (.pick X Y Z) ty [(.val (.bool c),b1),(d1,b2),(d2,b3)] [] (v0 d1):=by subst h; exact .pick
theorem aB0 {Z:Operand} {c:Bool} {d1 d2:DV} {b3:Option LB} (h:c=false):F1 P tk (.pick X Y Z) ty [(.val (.bool c),b1),(d1,b2),(d2,b3)] [] (v0 d2):=by subst h; exact .pick
theorem aFw {s:ByteArray} (h:P.underlying t=some .string):F1 P tk (.call ⟨.builtin .len,#[X],#[t]⟩) ty [(.val (.string s),b1)] [] (v0 (.val (.int .i64 (s.size:Int)))):=
 .callV1 (fun h=>Ia.2 (Rm ⟨by omega,by have:=Oc.1 h; unfold maxLen at this; omega⟩)) (aA3 h)
end
section
variable {P:Program} {tk:Nat} {t ty e sz bytes:Nat} {X Y:Operand} {b1 b2:Option LB} {α:Type} {f:α->List C} {l:List α} {n:Int} {k:IntKind} {j kr e':Nat} {x:α}
theorem aEk (h:Ix P t e sz bytes) (hf:∀ x,(f x).length=sz):F1 P tk (.call ⟨.builtin .len,#[X],#[t]⟩) ty [(.sl sz (Aj f l),b1)] [] (v0 (.val (.int .i64 (l.length:Int)))):=.len h.elem (.sl h.hsz (Hk hf l))
theorem aG2 (h:Ix P t e sz bytes) (hf:∀ x,(f x).length=sz):F1 P tk (.call ⟨.builtin .len,#[X],#[t]⟩) ty [(.row kr,some (.row e' sz (Aj f l)))] [] (v0 (.val (.int .i64 (l.length:Int)))):=.len h.elem (.row h.hsz (Hk hf l))
theorem wE (h:Ix P t e sz bytes) (hf:∀ x,(f x).length=sz) (hj:n=(j:Int)) (hx:l[j]?=some x):F1 P tk (.indexAddr t X Y) ty [(.sl sz (Aj f l),b1),(.val (.int k n),b2)] [] (v0 (.elt ((Aj f l).drop (j * sz)))):=.idxS h hj (iI hf hx)
theorem vQ (h:Ix P t e sz bytes) (hf:∀ x,(f x).length=sz) (hj:n=(j:Int)) (hx:l[j]?=some x):F1 P tk (.indexAddr t X Y) ty [(.row kr,some (.row e' sz (Aj f l))),(.val (.int k n),b2)] [] (v0 (.ptr kr (j * sz))):=.idxR h hj (iI hf hx)
theorem cS {a m:Nat} {b1:Option LB} (h:Ix P t e sz bytes) (hj:n=(j:Int)) (hx:((l.drop a).take m)[j]?=some x):F1 P tk (.indexAddr t X Y) ty [(.part kr (a * sz) m,b1),(.val (.int k n),b2)] [] (v0 (.ptr kr ((a + j) * sz))):=by
 have hl:=(aC4.1 hx).1
 rw [aFl] at hl
 rw [aNn]
 exact .idxP h hj (by omega)
theorem Q2 {a m:Nat} (hx:((l.drop a).take m)[j]?=some x):l[a + j]?=some x:=by
 rw [aK6] at hx
 split at hx
 ·rwa [aLa] at hx
 ·cases hx
theorem Se {s g off ft sz':Nat} {ag:Bool} {cs:List C} {a:Nat} (h:Fd P s g off ft) (ht:Ty P ft ag sz') (hz:0 < sz') (hl:a + off < cs.length):F1 P tk (.fieldAddr s X g) ty [(.elt (cs.drop a),b1)] [] (v0 (.elt (cs.drop (a + off)))):=by
 have:=F1.fieldE (P:=P) (tk:=tk) (x:=X) (ty:=ty) (b:=b1) h ht hz (cs:=cs.drop a) (by rw [aIf]; omega)
 rwa [aSj] at this
theorem En {sz' a:Nat} {cs:List C} {c:C} (ht:Ty P t false sz') (h:cs[a]?=some c):F1 P tk (.load t X) ty [(.elt (cs.drop a),b1)] [] (v0 (Uz c)):=.loadE1 ht (by rw [aLa]; exact h)
theorem Ef {m a:Nat} {cs cs2:List C} (ht:Ty P t true m) (h:(cs.drop a).take m=cs2) (hl:a + m<=cs.length):F1 P tk (.load t X) ty [(.elt (cs.drop a),b1)] [] (v0 (.agg (cs2.map Uz))):=by
 subst h
 exact .loadEA ht (by rw [aIf]; omega)
theorem Xd {m a s:Nat} {cs cs2:List C} (ht:Ty P t true m) (h:(cs.drop a).take m=cs2) (hl:a + m<=cs.length):F1 P tk (.load t X) ty [(.ptr kr a,some (.row e' s cs))] [] (v0 (.agg (cs2.map Uz))):=by
 subst h
 exact .loadRA ht hl
theorem lK {i s:Nat} {cs cs' cs2:List C} {ag:Bool} {d:DV} {sz':Nat} {ck:List (Option Nat)} (ht:Ty P t ag sz') (hs:(C2 d).length=sz') (hi:i + sz'<=cs.length) (hk:Kk P 20 t=ck) (hd:Ly ck (C2 d) cs') (h:Di cs i cs'=cs2):F1 P tk (.store t X Y) ty [(.ptr kr i,some (.row e' s cs)),(d,b2)] [kr] (rI kr (.row e' s cs2)):=by
 subst h
 exact .storeR ht hs hi hk hd
theorem Lc {d d':DV×Option LB} {l' l2:List α} {ks:List Nat} {kk:Nat} {cs cs':List C} (hS:Ix P t e sz bytes) (hf:∀ x,(f x).length=sz) (ht:Tgt d e sz cs ks) (hc:cs=Aj f l) (hs:jS d' sz cs') (hc':cs'=Aj f l') (h:F3 kk l l'=some l2) (hk:sz * bytes=kk):F1 P tk (.call ⟨.builtin .append,#[X,Y],#[t,t]⟩) ty [d,d'] ks (Ox tk (.row e sz (Aj f l2)) ks (.row tk)):=by
 subst hc hc'
 obtain⟨h1,rfl⟩:=sD h
 rw [Mw]
 refine .append hS ht hs ?_
 rw [Hk hf,Hk hf,<- aNn,Nat.mul_assoc,hk]
 exact h1
section
variable {lo hi:Operand} {a b:Int} {ka kb:IntKind} {b3:Option LB} {m:List α}
theorem rH (hS:Ix P t e sz bytes) (hf:∀ x,(f x).length=sz) (h:Zo l 0 b=some m):F1 P tk (.slice t X none (some hi) none) ty [(.sl sz (Aj f l),b1),(.val (.int kb b),b2)] [] (v0 (.sl sz (Aj f m))):=by
 obtain⟨i,j,hi',rfl,h1,h2,rfl⟩:=bJ h
 have:i=0:=by omega
 subst this
 rw [<- iP hf l 0 j h1 h2]
 exact .sliS hS (Hk hf l) ⟨⟨_,_,_,rfl,rfl⟩,rfl⟩ ⟨h1,h2⟩
end
theorem aAx {src dst:TypeId} {s:ByteArray} (hs:P.underlying src=some .string) (hd:P.underlying dst=some (.slice e)) (he:P.underlying e=some (.int .u8)):F1 P tk (.convert src dst X) ty [(.val (.string s),b1)] [] (v0 (.sl 1 (Aj e8 (Hq s)))):=by
 have:=F1.convB (P:=P) (tk:=tk) (x:=X) (ty:=ty) (b:=b1) (s:=s) hs hd he
 rw [<- aJn] at this
 exact this
end
theorem Cv.frzE {σ:St} {θ:Nat->Option Nat} {j e sz:Nat} {cs:List C} (h:σ.L j=some (.row e sz cs)) (h':(match σ.L j with | some _=>true | none=>false)=true) (hn:∀ k,θ k≠some j):Cv σ θ (.row j) (.sl sz cs):=.frz h hn
end Go.Proofs.YtbpchmikjiinpaaGreat
namespace Go.Proofs.YtbpchmikjiinpaaGreat
open Go.RowKit
mutual
theorem oY (f:Nat->Nat):∀ d,Jr d=[]->M0 f d=d
 | .row _,h=>by simp [Jr] at h
 | .part _ _ _,h=>by simp [Jr] at h
 | .ptr _ _,h=>by simp [Jr] at h
 | .val _,_=>rfl
 | .sl _ _,_=>rfl
 | .slc _ _,_=>rfl
 | .mp _,_=>rfl
 | .elt _,_=>rfl
 | .agg ds,h=>by unfold Jr at h; unfold M0; rw [Rr f ds h]
 | .tup ds,h=>by unfold Jr at h; unfold M0; rw [Rr f ds h]
 | .clo _ _ ds,h=>by unfold Jr at h; unfold M0; rw [Rr f ds h]
theorem Rr (f:Nat->Nat):∀ ds,Nl ds=[]->Ow f ds=ds
 | [],_=>rfl
 | d :: ds,h=>by
  unfold Nl at h
  have h1:=List.append_eq_nil_iff.1 h
  unfold Ow
  rw [oY f d h1.1,Rr f ds h1.2]
end
def Z6:LB->List Nat
 | .box ds _=>Nl ds
 | .row ..=>[]
 | .map _=>[]
 | .mit k _ _=>[k]
 | .vec ds _=>Nl ds
theorem zP (f:Nat->Nat) {lb:LB} (h:Z6 lb=[]):sQ f lb=lb:=by
 cases lb with
 | box ds ty=>
  show LB.box (Ow f ds) ty=_
  rw [Rr f ds h]
 | row=>rfl
 | map=>rfl
 | mit=>cases h
 | vec ds e=>
  show LB.vec (Ow f ds) e=_
  rw [Rr f ds h]
def dE (ps gs:List Nat) (r:DV) (bx:List LB):Nq:=⟨some r,fun k=>match Gf (ps.zip bx) k with | some lb=>some (some lb) | none=>bif gs.any (Nat.beq k) then some none else none⟩
theorem kQ {ps:List Nat} {tk:Nat}:∀ {l:List Nat} {b:List LB} {i:Nat},(∀ j,l[j]?=ps[i + j]?)->b.length=l.length->(∀ lb∈b,Z6 lb=[])->W9 ps tk i b=l.zip b
 | [],[],_,_,_,_=>rfl
 | x :: l,lb :: b,i,hl,hb,ht=>by
  unfold W9
  have h0:=hl 0
  simp only [Nat.add_zero] at h0
  have e1:Jd ps tk i=x:=by
   unfold Jd
   rw [<- h0]
   rfl
  rw [e1,zP _ (ht lb (aKd ..)),kQ (l:=l) (fun j=>by have:=hl (j + 1); rw [show i + 1 + j=i + (j + 1) by omega,<- this]; rfl) (by simpa using hb) fun lb h=>ht lb (aHy _ h)]
  rfl
 | [],_ :: _,_,_,h,_=>by simp at h
 | _ :: _,[],_,_,h,_=>by simp at h
theorem gH {ps gs:List Nat} {tk:Nat} {r:DV} {b:List LB} (hr:Jr r=[]) (hl:b.length=ps.length) (hb:∀ lb∈b,Z6 lb=[]):T0 ps gs tk r b=dE ps gs r b:=by
 unfold T0 dE
 rw [oY _ _ hr,kQ (l:=ps) (fun j=>by rw [aLq]) hl hb]
 rfl
section
variable {P:Program} {cx:Cx} {ops:Array Oper} {Rt:Option (List Nat)} {nb i:Nat} {l:List Oper} {lg:jT} {σ:St} {Q:St->Prop} {fz:List Nat}
theorem cZ {dst:Option Tmp} {f:FuncId} {xs:Array Operand} {tys:Array TypeId} {ty:TypeId} {pos:String} {af:Array Edge} {g:Option (Nat×Bool)} {dsA:List (DV×Option LB)} {rd ps gs:List Nat} {args:List DV} {bx:List LB} {d:DV} {b:List LB} (fl:Bool)
  (G:Kh ops σ ⟨dst,.call ⟨.value (.func f),xs,tys⟩,ty,pos,af,g⟩=some true)
  (hF:Fn P f ps.length args bx (fun d' b'=>d'=d/\b'=b)) (hds:E0 σ true xs.toList=some dsA) (hrd:O3 σ 3 (Qn dsA)=rd) (hA:Nk fl (ps ++ gs) (Lu σ rd) (dsA.map (·.1)) args) (hB:aI fl (ps ++ gs) (Lu σ rd) (ps ++ gs) bx) (hnd:Rs cx.np ps gs=true) (hfl:fl=true->J6 d/\∀ lb∈b,Qi lb)
  (hok:K9 Rt i true (nb + 8 * i) rd (ps ++ gs) lg=true) (hr:Jr d=[]) (hl:b.length=ps.length) (hb:b.flatMap Z6=[])
  (k:Chain (Df P cx fz) ops Rt nb (idx (i + 1) l) ((i,true,nb + 8 * i,rd,ps ++ gs) :: lg) (σ.app dst (dE ps gs d b)) Q) :
  Chain (Df P cx fz) ops Rt nb (idx i (⟨dst,.call ⟨.value (.func f),xs,tys⟩,ty,pos,af,g⟩ :: l)) lg σ Q:=by
 refine F6 fl G hF hds hrd hA hB hnd (fun h r b=>?_) hok (fun _=>⟨_,_,⟨rfl,rfl⟩,by omega,by omega⟩) fun r b=>?_
 ·rintro⟨rfl,rfl⟩; exact hfl h
 ·rintro⟨rfl,rfl⟩
  rw [gH hr hl fun lb h=>?_]
  ·exact k
  ·have:=aS3.1 hb lb h
   exact this
theorem Ec {dst:Option Tmp} {t:Tmp} {f:FuncId} {q:Option LB} {xs:Array Operand} {tys:Array TypeId} {ty:TypeId} {pos:String} {af:Array Edge} {g:Option (Nat×Bool)} {dsA:List (DV×Option LB)} {rd ps gs:List Nat} {args:List DV} {bx:List LB} {d:DV} {b:List LB} (fl:Bool)
  (G:Kh ops σ ⟨dst,.call ⟨.value (.tmp t),xs,tys⟩,ty,pos,af,g⟩=some true) (hc:ev σ true (.tmp t)=some (.val (.func (.func f) #[] #[]),q))
  (hF:Fn P f ps.length args bx (fun d' b'=>d'=d/\b'=b)) (hds:E0 σ true xs.toList=some dsA) (hrd:O3 σ 3 (Qn dsA)=rd) (hA:Nk fl (ps ++ gs) (Lu σ rd) (dsA.map (·.1)) args) (hB:aI fl (ps ++ gs) (Lu σ rd) (ps ++ gs) bx) (hnd:Rs cx.np ps gs=true) (hfl:fl=true->J6 d/\∀ lb∈b,Qi lb)
  (hok:K9 Rt i true (nb + 8 * i) rd (ps ++ gs) lg=true) (hr:Jr d=[]) (hl:b.length=ps.length) (hb:b.flatMap Z6=[])
  (k:Chain (Df P cx fz) ops Rt nb (idx (i + 1) l) ((i,true,nb + 8 * i,rd,ps ++ gs) :: lg) (σ.app dst (dE ps gs d b)) Q) :
  Chain (Df P cx fz) ops Rt nb (idx i (⟨dst,.call ⟨.value (.tmp t),xs,tys⟩,ty,pos,af,g⟩ :: l)) lg σ Q:=by
 refine wA fl G hc hF hds hrd hA hB hnd (fun h r b=>?_) hok (fun _=>⟨_,_,⟨rfl,rfl⟩,by omega,by omega⟩) fun r b=>?_
 ·rintro⟨rfl,rfl⟩; exact hfl h
 ·rintro⟨rfl,rfl⟩
  rw [gH hr hl fun lb h=>?_]
  ·exact k
  ·have:=aS3.1 hb lb h
   exact this
theorem Cm {dst:Option Tmp} {t:Tmp} {f:FuncId} {n:Nat} {cs:List DV} {q:Option LB} {xs:Array Operand} {tys:Array TypeId} {ty:TypeId} {pos:String} {af:Array Edge} {g:Option (Nat×Bool)} {dsA:List (DV×Option LB)} {rd ps gs:List Nat} {args:List DV} {bx:List LB} {d:DV} {b:List LB} (fl:Bool)
  (G:Kh ops σ ⟨dst,.call ⟨.value (.tmp t),xs,tys⟩,ty,pos,af,g⟩=some true) (hc:ev σ true (.tmp t)=some (.clo f n cs,q))
  (hF:Fn P f ps.length args bx (fun d' b'=>d'=d/\b'=b)) (hds:E0 σ true xs.toList=some dsA) (hrd:O3 σ 3 (Nl cs ++ Qn dsA)=rd) (hA:Nk fl (ps ++ gs) (Lu σ rd) (cs.take n ++ (dsA.map (·.1) ++ cs.drop n)) args) (hB:aI fl (ps ++ gs) (Lu σ rd) (ps ++ gs) bx) (hnd:Rs cx.np ps gs=true) (hfl:fl=true->J6 d/\∀ lb∈b,Qi lb)
  (hok:K9 Rt i true (nb + 8 * i) rd (ps ++ gs) lg=true) (hr:Jr d=[]) (hl:b.length=ps.length) (hb:b.flatMap Z6=[])
  (k:Chain (Df P cx fz) ops Rt nb (idx (i + 1) l) ((i,true,nb + 8 * i,rd,ps ++ gs) :: lg) (σ.app dst (dE ps gs d b)) Q) :
  Chain (Df P cx fz) ops Rt nb (idx i (⟨dst,.call ⟨.value (.tmp t),xs,tys⟩,ty,pos,af,g⟩ :: l)) lg σ Q:=by
 refine yF fl G hc hF hds hrd hA hB hnd (fun h r b=>?_) hok (fun _=>⟨_,_,⟨rfl,rfl⟩,by omega,by omega⟩) fun r b=>?_
 ·rintro⟨rfl,rfl⟩; exact hfl h
 ·rintro⟨rfl,rfl⟩
  rw [gH hr hl fun lb h=>?_]
  ·exact k
  ·have:=aS3.1 hb lb h
   exact this
end
section
variable {P:Program} {tk:Nat} {t ty yt:TypeId} {X Y:Operand} {b1 b2:Option LB} {k k':IntKind} {x y:Int}
theorem U9 (k:IntKind) (z:Int):E8 (.int k (k.wrap z))=true:=by
 rw [Ia]
 cases k <;> simp [IntKind.wrap,IntKind.bits,IntKind.signed,IntKind.min,IntKind.max] <;> (try split) <;> omega
theorem aHe:F1 P tk (.binOp .sub t X Y yt) ty [(.val (.int k x),b1),(.val (.int k y),b2)] [] (v0 (.val (.int k (k.wrap (x - y))))):=.binOp (fun _ _=>U9 _ _) pP
theorem aHs:F1 P tk (.binOp .mul t X Y yt) ty [(.val (.int k x),b1),(.val (.int k y),b2)] [] (v0 (.val (.int k (k.wrap (x * y))))):=.binOp (fun _ _=>U9 _ _) qO
theorem aGn:F1 P tk (.binOp .and t X Y yt) ty [(.val (.int k x),b1),(.val (.int k y),b2)] [] (v0 (.val (.int k (rK k x y)))):=.binOp (fun _ _=>U9 _ _) (fun w=>by simp [eqGuard,binOp,Op.intBits,rK])
theorem aFe:F1 P tk (.binOp .xor t X Y yt) ty [(.val (.int k x),b1),(.val (.int k y),b2)] [] (v0 (.val (.int k (S0 k x y)))):=.binOp (fun _ _=>U9 _ _) (fun w=>by simp [eqGuard,binOp,Op.intBits,S0])
theorem aAu (k:IntKind):k.min<=0/\0<=k.max:=by cases k <;> decide
theorem mJ {x d:Int} (hx:x<=0) (hd:0 < d):x / d<=0:=by
 rcases Int.lt_trichotomy (x / d) 0 with h | h | h
 ·omega
 ·omega
 ·exfalso
  have h1:=Int.mul_ediv_add_emod x d
  have h2:=Int.emod_nonneg x (show d≠0 by omega)
  have h3:d * 1<=d * (x / d):=Int.mul_le_mul_of_nonneg_left (by omega) (by omega)
  omega
theorem jD {z:Int} (h:Vd k x y=some z):F1 P tk (.binOp .shr t X Y yt) ty [(.val (.int k x),b1),(.val (.int k' y),b2)] [] (v0 (.val (.int k z))):=by
 obtain⟨h0,rfl⟩:=qX h
 refine .binOp (fun hx _=>?_) (fun w=>by simp [eqGuard,binOp,Op.shift,h0])
 rw [Ia] at hx ⊢
 have hm:=aAu k
 have hd:(0:Int) < 2 ^ min y.toNat k.bits:=Int.pow_pos (by omega)
 generalize (2:Int) ^ min y.toNat k.bits=d at hd
 rw [aSt _ (Int.le_of_lt hd)]
 rcases Int.le_total 0 x with hx0 | hx0
 ·have h1:=Int.ediv_nonneg hx0 (Int.le_of_lt hd)
  have h2:=Int.ediv_le_self d hx0
  omega
 ·have h1:x<=x / d:=by
   have:=Int.mul_ediv_add_emod x d
   have h3:=Int.emod_nonneg x (show d≠0 by omega)
   have h4:x / d<=0:=mJ hx0 hd
   have h5:d * (x / d)<=1 * (x / d):=Int.mul_le_mul_of_nonpos_right (by omega) h4
   have h6:=Int.emod_lt_of_pos x hd
   by_cases h7:x / d=0
   ·omega
   ·have h8:x / d<=-1:=by omega
    have h9:(d - 1) * (x / d)<=(d - 1) * (-1):=Int.mul_le_mul_of_nonneg_left h8 (by omega)
    have h10:d * (x / d)=(d - 1) * (x / d) + x / d:=by rw [Int.sub_mul,Int.one_mul]; omega
    omega
  have h2:x / d<=0:=mJ hx0 hd
  omega
theorem aEx {z:Int} (h:dP k x y=some z):F1 P tk (.binOp .shl t X Y yt) ty [(.val (.int k x),b1),(.val (.int k' y),b2)] [] (v0 (.val (.int k z))):=by
 obtain⟨h0,rfl⟩:=sW h
 exact .binOp (fun _ _=>U9 _ _) (fun w=>by simp [eqGuard,binOp,Op.shift,h0])
theorem aBn {src dst:TypeId} (hs:P.underlying src=some (.int k)) (hd:P.underlying dst=some (.int k')):F1 P tk (.convert src dst X) ty [(.val (.int k x),b1)] [] (v0 (.val (.int k' (k'.wrap x)))):=
 .conv (by unfold pL; rw [hs]) (by unfold pL; rw [hd]) (fun _=>U9 _ _) (hZ (by rw [hs]; rfl) hd)
theorem wG {s:ByteArray} {u:UInt8} (ht:P.underlying t=some .string) (h:iE s x=some u):F1 P tk (.index t X Y) ty [(.val (.string s),b1),(.val (.int k x),b2)] [] (v0 (.val (.int .u8 (u.toNat:Int)))):=by
 unfold iE at h
 split at h
 ·cases h
 ·rename_i h0
  have h1:0<=x:=by omega
  have hlt:=(aG6.1 h).1
  have hs:s[x.toNat]?=some u:=by
   have hlt':x.toNat < s.size:=hlt
   rw [getElem?_pos s x.toNat hlt']
   have:=(aG6.1 h).2
   exact congrArg some this
  exact .indexS (fun _ _=>ok8 _) (fun w=>by simp [Instr.index,asIntOf,run_underlying ht,h1,hs])
theorem aFh {a b:ByteArray}:F1 P tk (.binOp .gtr t X Y yt) ty [(.val (.string a),b1),(.val (.string b),b2)] [] (v0 (.val (.bool (Mc (Hq b) (Hq a))))):=.binOp (fun _ _=>rfl) (fun w=>by
 rw [<- aJ]
 simp [eqGuard,binOp,Op.stringOp,gN,ByteArray.toList_eq,Hq]
 congr 1
 rw [show (a.data == b.data)=decide (a.data=b.data) from by by_cases h:a.data=b.data <;> simp [h]])
theorem aHj {a b:ByteArray}:F1 P tk (.binOp .geq t X Y yt) ty [(.val (.string a),b1),(.val (.string b),b2)] [] (v0 (.val (.bool (!Mc (Hq a) (Hq b))))):=.binOp (fun _ _=>rfl) (fun w=>by
 simp [eqGuard,binOp,Op.stringOp,gN,ByteArray.toList_eq,Hq])
end
section
variable {α:Type} {f:α->List C} {sz:Nat}
theorem aM (hf:∀ x,(f x).length=sz) {l:List α} {i n:Nat} (h:i + n<=l.length):i * sz + n * sz<=(Aj f l).length:=by
 rw [Hk hf,<- aNn]
 exact aLi _ h
theorem nN (hf:∀ x,(f x).length=sz) (h0:0 < sz) {l:List α} (h:Aj f l=[]):l=[]:=by
 have:=Hk hf l
 rw [h] at this
 rcases aS1.1 this.symm with h1 | h1
 ·exact aDn h1
 ·omega
end
section
variable {P:Program} {tk:Nat} {t ty e sz bytes:Nat} {X Y:Operand} {b1 b2 b3:Option LB} {α:Type} {f:α->List C} {l m:List α} {n:Int} {k ka kb:IntKind} {j kr e':Nat} {x:α} {lo hi:Operand} {a b:Int}
theorem rE (hS:Ix P t e sz bytes) (hf:∀ x,(f x).length=sz) (h:Zo l a (l.length:Int)=some m):F1 P tk (.slice t X (some lo) none none) ty [(.row kr,some (.row e' sz (Aj f l))),(.val (.int ka a),b2)] [] (v0 (.part kr (a.toNat * sz) ((l.length:Int).toNat - a.toNat))):=by
 obtain⟨i,j,rfl,hj,h1,h2,rfl⟩:=bJ h
 have:j=l.length:=by omega
 subst this
 exact .sliR hS (Hk hf l) ⟨⟨_,_,_,rfl,rfl⟩,rfl⟩ ⟨h1,h2⟩
theorem fU (hS:Ix P t e sz bytes) (hf:∀ x,(f x).length=sz) (h:Zo l 0 b=some m):F1 P tk (.slice t X none (some hi) none) ty [(.row kr,some (.row e' sz (Aj f l))),(.val (.int kb b),b3)] [] (v0 (.part kr ((0:Int).toNat * sz) (b.toNat - (0:Int).toNat))):=by
 obtain⟨i,j,hi',rfl,h1,h2,rfl⟩:=bJ h
 have:i=0:=by omega
 subst this
 have e0:(0:Int).toNat * sz=0 * sz:=rfl
 exact .sliR hS (Hk hf l) ⟨⟨_,_,_,rfl,rfl⟩,rfl⟩ ⟨h1,h2⟩
theorem bN {sz:Nat}:∀ (ds:List DV) (k:Nat) (pre rest:List DV),pre.length=k * sz->rest.length=ds.length * sz->(∀ d∈ds,(C2 d).length=sz)->Ja (fun i=>some (i * sz,sz)) (pre ++ rest) ((List.range' k ds.length).zip ds)=some (pre ++ ds.flatMap C2)
 | [],k,pre,rest,_,hr,_=>by
  have:rest=[]:=aDn (by simpa using hr)
  subst this
  simp [Ja]
 | d :: ds,k,pre,rest,hp,hr,hd=>by
  have h0:=hd d (aKd ..)
  have hr':rest.length=ds.length * sz + sz:=by rw [hr,aLg,aNn,aS5]
  rw [aLg,List.range'_succ,List.zip_cons_cons]
  unfold Ja
  simp only []
  have c1:Nat.beq (C2 d).length sz=true:=by rw [h0]; exact aSm _
  have c2:Nat.ble (k * sz + sz) (pre ++ rest).length=true:=aQh (by rw [aDd,hp,hr']; omega)
  rw [c1,c2]
  simp only [Bool.and_self,aDb]
  have e1:Di (pre ++ rest) (k * sz) (C2 d)=(pre ++ C2 d) ++ rest.drop sz:=by
   unfold Di
   rw [h0,<- hp,List.take_left,<- aSj,List.drop_left,aLp]
  rw [e1,bN ds (k + 1) (pre ++ C2 d) (rest.drop sz) (by rw [aDd,hp,h0,aNn,aS5]) (by rw [aIf,hr']; omega) fun x hx=>hd x (aHy _ hx)]
  rw [aNs,aLp]
theorem Fw {len:Nat} {parts:Array (Nat×Operand)} {ds:List (DV×Option LB)} {z:List Value} {cs:List C} {ck:List (Option Nat)} (hS:Ix P t e sz bytes) (hz:Zt P e z) (hlen:len * sz<=16777216) (hp:parts.toList.map (·.1)=List.range' 0 len) (hzl:z.length=sz) (hn:ds.length=len) (hs:ds.all (fun q=>Nat.beq (C2 q.1).length sz)=true) (hk:Kk P 20 e=ck) (hc:Ly (List.replicate len ck).flatten (ds.flatMap fun q=>C2 q.1) cs) (ho:ds.all (fun q=>(C2 q.1).all aG)=true) (h:Aj f l=cs):F1 P tk (.buildSlice t len parts) ty ds [] (Pw tk (.row e sz (Aj f l)) (.row tk)):=by
 subst h
 refine .buildSl hS hz hlen ?_ hk hc ho
 have hd:=bN (sz:=sz) (ds.map (·.1)) 0 [] ((List.replicate len (z.map DV.val)).flatten) (by simp) (by simp [hzl,hn]) fun d hd=>by
  obtain⟨q,hq,rfl⟩:=aLl.1 hd
  exact aDj (aG8.1 hs q hq)
 rw [aQp,aQp,aSp,hn] at hd
 rw [hp,hd]
 congr 1
 rw [List.flatMap_map]
theorem uN {i bt sz':Nat} {ds ds':List DV} {ag:Bool} {d:DV} {kk:Nat} (ht:Ty P t ag sz') (hs:(C2 d).length=sz') (hi:i + sz'<=ds.length) (ho:(C2 d).all aG=true) (h:Di ds i (C2 d)=ds'):F1 P tk (.store t X Y) ty [(.ptr kk i,some (.box ds bt)),(d,b2)] [kk] (rI kk (.box ds' bt)):=by
 subst h
 exact .storeB ht hs hi ho
theorem eY {tk2:Nat} {m':Nat} {ds:List DV} {L:List α} (ht:P.underlying t=some (.array m' e)) (he:Ty P e true sz) (hf:∀ x,(f x).length=sz) (hds:ds=(Aj f L).map Uz) (hL:L.length=m') (hx:Bu L n=some x) {d2:List DV} (h2:(f x).map Uz=d2):F1 P tk2 (.index t X Y) ty [(.agg ds,b1),(.val (.int k n),b2)] [] (v0 (.agg d2)):=by
 have hx':=Dj hx
 refine .indexAA ht he (N4 hx) (by rw [<- hL]; exact (aC4.1 hx').1) ?_
 rw [hds,<- List.map_drop,<- List.map_take,<- h2]
 congr 1
 exact Kb hf hx' (o:=0) (by rw [aS7]; exact aH0 (aR0 (hf _))) (by omega) rfl
end
def eA {α:Type} [Inhabited α] (n:Nat) (f:α->List C) (x:List α):List C:=(List.range n).flatMap fun i=>f (x[i]!)
theorem aHb {α:Type} [Inhabited α] {n sz:Nat} {f:α->List C} (hf:∀ x,(f x).length=sz) (x:List α):(eA n f x).length=n * sz:=by
 unfold eA
 induction n with
 | zero=>simp
 | succ n ih=>rw [List.range_succ,List.flatMap_append,aDd,ih,aNs,aSz,aOq,hf,aNn,aS5]
class wH (p:Prop) (q:outParam Prop):Prop where
 go:q->p
theorem st_ {p q:Prop} [s:wH p q] (h:q):p:=s.go h
section
variable {next:St->Prop} {Q:Exit->St->Prop} {i:Nat} {σ:St}
instance:wH (tF next Q .normal σ) (next σ):=⟨fun h=>h⟩
instance:wH (tF next Q (.exit i) σ) (Q (.exit i) σ):=⟨fun h=>h⟩
instance:wH (tF next Q .ret σ) (Q .ret σ):=⟨fun h=>h⟩
instance:wH (inB i Q (.exit i) σ) (Q .normal σ):=⟨fun h=>vF h⟩
instance:wH (inB i Q .normal σ) (Q .normal σ):=⟨fun h=>h⟩
instance:wH (inB i Q .ret σ) (Q .ret σ):=⟨fun h=>h⟩
instance:wH (noG Q .normal σ) (Q .normal σ):=⟨fun h=>h⟩
instance:wH (noG Q (.exit i) σ) (Q (.exit i) σ):=⟨fun h=>h⟩
instance:wH (noG Q .ret σ) (Q .ret σ):=⟨fun h=>h⟩
end
class rB (p:Prop) (q:outParam Prop):Prop where
 go:q->p
instance (priority:=low) stpN_nil (p:Prop):rB p p:=⟨fun h=>h⟩
instance aHw {p p' q:Prop} [s:wH p p'] [t:rB p' q]:rB p q:=⟨fun h=>s.go (t.go h)⟩
theorem aBa {P:Program} {cx:Cx} {Q:Exit->St->Prop} {σ:St} {q:Prop} [s:rB (Q .ret σ) q] (h:q):Oy P cx .ret Q σ:=iZ (s.go h)
theorem sn_ {Q:Exit->St->Prop} {i j:Nat} {σ:St} (h:Q (.exit j) σ) (hne:j≠i:=by decide):inB i Q (.exit j) σ:=rD hne h
theorem Ol {P:Program} {cx:Cx} {id:Nat} {l:List Oper} {σ:St} {y:Code} {Q:Exit->St->Prop} (nb nb':Nat) (B:∀ k,nb<=k->σ.U k=false)
  (h:Chain (Df P cx []) l.toArray none nb (idx 0 l) [] σ (fun σ'=>(∀ j,nb'<=j->σ'.U j=false)->tF (Oy P cx y Q) Q .normal σ')) (hn:Nat.ble (nb + 8 * l.length) nb'=true:=by rfl) (hd:iK cx.N l=true:=by rfl):Oy P cx (.seq (.region id l.toArray false) y) Q σ:=
 Au (B5 (Df _ _ []) nb nb' B hn hd h)
section
variable {P:Program} {cx:Cx} {ops:Array Oper} {Rt:Option (List Nat)} {nb i:Nat} {l:List Oper} {lg:jT} {σ:St} {Q:St->Prop} {fz:List Nat}
theorem aBs {Q:Exit->St->Prop} {nb':Nat} {q:Prop} [s:rB (Q .normal σ) q] (h:(∀ j,nb'<=j->σ.U j=false)->q):Chain (Df P cx fz) ops Rt nb (idx i []) lg σ (fun σ'=>(∀ j,nb'<=j->σ'.U j=false)->Q .normal σ'):=aL1 fun B=>s.go (h B)
theorem Et {dst:Option Tmp} {op:Op} {ty:TypeId} {pos:String} {af:Array Edge} {g:Option (Nat×Bool)} {ds:List (DV×Option LB)} {wr:List Nat} {e:Nq} (G:Kh ops σ ⟨dst,op,ty,pos,af,g⟩=some true) (hds:E0 σ (Kj op) op.operands.toList=some ds) (h:F1 P (nb + 8 * i) op ty ds wr e)
  (hrd:(bif Kj op then Lx (Mp op) ds else [])=[]) (hok:K9 Rt i false (nb + 8 * i) [] wr lg=true) (k:Chain (Df P cx fz) ops Rt nb (idx (i + 1) l) ((i,false,nb + 8 * i,[],wr) :: lg) (σ.app dst e) Q) (hz:zM fz (nb + 8 * i)=0:=by rfl) (hap:Ov cx.np op wr=true:=by rfl) :
  Chain (Df P cx fz) ops Rt nb (idx i (⟨dst,op,ty,pos,af,g⟩ :: l)) lg σ Q:=Mz (rd:=[]) G hds h hrd hok k hz hap
end
end Go.Proofs.YtbpchmikjiinpaaGreat
namespace Go.Proofs.YtbpchmikjiinpaaGreat
open Go.RowKit
theorem W0:∀ {d:DV} {k:Nat},men d k->k∈Jr d
 | .row _,k,h=>by simpa [Jr,men] using h
 | .part _ _ _,k,h=>by simpa [Jr,men] using h
 | .ptr _ _,k,h=>by simpa [Jr,men] using h
 | .agg ds,k,h=>by unfold men at h; unfold Jr; exact menL_dtoks h
 | .tup ds,k,h=>by unfold men at h; unfold Jr; exact menL_dtoks h
 | .clo _ _ ds,k,h=>by unfold men at h; unfold Jr; exact menL_dtoks h
 | .val _,k,h=>by unfold men at h; exact h.elim
 | .sl _ _,k,h=>by unfold men at h; exact h.elim
 | .slc _ _,k,h=>by unfold men at h; exact h.elim
 | .mp _,k,h=>by unfold men at h; exact h.elim
 | .elt _,k,h=>by unfold men at h; exact h.elim
where
 menL_dtoks:∀ {ds:List DV} {k:Nat},F7 ds k->k∈Nl ds
 | [],k,h=>by unfold F7 at h; exact h.elim
 | d :: ds,k,h=>by
  unfold F7 at h
  unfold Nl
  rcases h with h | h
  ·exact aLm _ (W0 h)
  ·exact aMk _ (menL_dtoks h)
theorem O5.cut {cx:Cx} {σ σ':St} {t k n e sz:Nat} {cs:List C} (hk:cx.np<=k) (hF:σ.F t=some (.part k 0 n)) (hL:σ.L k=some (.row e sz cs)) (hn:n * sz<=cs.length)
  (hF':∀ s d,σ'.F s=some d->(d=.row k/\s=t)\/(σ.F s=some d/\¬ men d k)) (hL':∀ j lb,σ'.L j=some lb->(j=k/\lb=.row e sz (cs.take (n * sz)))\/(j≠k/\σ.L j=some lb/\¬ Sw lb k)) (B:∀ j,σ'.U j=σ.U j):O5 cx σ σ':=by
 rintro a w ⟨ρ,h⟩
 obtain⟨N,us,q1,q0,q2⟩:=h.lo _ _ hL
 have hr:=h.fr _ _ hF
 unfold Cw at hr
 obtain⟨A,c,hv,hnc,hc,hA,hB⟩:=hr
 have hlen:n * sz<=us.length:=by rw [<- q2.1]; exact hn
 have hblk:∀ b,C7 (a.tmps.getD t undef)=some b->C7 (ρ k)=some b:=fun b hb=>by
  rcases q1.2 with ⟨A',e,-⟩ | ⟨g',cap,cur,e,r1,-⟩
  ·obtain⟨t1,t2⟩:=hB rfl _ _ _ e
   rw [hv,t2] at hb
   cases A <;> cases hb
  ·obtain⟨t1,t2⟩:=hB rfl _ _ _ e
   rw [hv,t1] at hb
   rw [e,J7 r1,(F2 hb).1]
 have hown:w.rowOk e sz (a.tmps.getD t undef) n (us.take (n * sz)):=by
  refine⟨by rw [aFl]; omega,?_⟩
  rcases q1.2 with ⟨A',e,q3⟩ | ⟨g,cap,cur,e,r1,r2,r3,r4,r5,r6⟩
  ·obtain⟨t1,t2⟩:=hB rfl _ _ _ e
   refine .inl ⟨A',by rw [hv,t1,t2]; congr 1; omega,by omega⟩
  ·obtain⟨t1,t2⟩:=hB rfl _ _ _ e
   refine .inr ⟨g,cap,cur,by rw [hv,t1,t2],r1,r2,by omega,r4,r5,?_⟩
   have hle:n * sz<=N * sz:=by rw [<- q1.1]; exact hlen
   rw [<- r6,aTg,aSk hle]
 let ρ':Nat->Value:=fun j=>if j=k then a.tmps.getD t undef else ρ j
 have hk':ρ' k=a.tmps.getD t undef:=if_pos rfl
 have ho:∀ j,j≠k->ρ' j=ρ j:=fun j hj=>if_neg hj
 have loc:∀ j lb b,σ'.L j=some lb->C7 (ρ' j)=some b->∃ lb',σ.L j=some lb'/\C7 (ρ j)=some b:=fun j lb b hj hb=>by
  rcases hL' j lb hj with ⟨rfl,-⟩ | ⟨hne,h1,-⟩
  ·rw [hk'] at hb; exact⟨_,hL,hblk b hb⟩
  ·rw [ho j hne] at hb; exact⟨_,h1,hb⟩
 have hI:∀ b,N5 cx σ ρ w b->N5 cx σ' ρ' w b/\w.heap[b]?=w.heap[b]?:=fun b hb=>by
  refine⟨⟨hb.1,fun hl=>?_,hb.2.2⟩,rfl⟩
  obtain⟨j,lb,h1,h2⟩:=hl
  obtain⟨lb',h3,h4⟩:=loc j lb b h1 h2
  exact hb.2.1 ⟨j,lb',h3,h4⟩
 refine⟨ρ',⟨h.defers,h.size,h.kept,fun s d hs=>?_,fun j lb hj=>?_,fun j j' lb lb' b h1 h2 h3 h4=>?_,fun s d j hs hm=>?_,fun j lb hj=>?_,fun j hj=>?_,fun j lb b hj hp hb=>?_⟩⟩
 ·rcases hF' s d hs with ⟨rfl,rfl⟩ | ⟨h1,h2⟩
  ·unfold Cw
   rw [hk']
   refine⟨rfl,?_⟩
   rw [hv]; rfl
  ·exact Cw.step hI d _ (fun j hj=>ho j fun e=>h2 (e ▸ hj)) (h.fr _ _ h1)
 ·rcases hL' j lb hj with ⟨rfl,rfl⟩ | ⟨hne,h1,h2⟩
  ·rw [hk']
   refine⟨n,us.take (n * sz),hown,fun b hb=>q0 b (hblk b hb),?_⟩
   refine Fc.keep_ (w:=w) ⟨by rw [aFl,aFl,q2.1],fun j c u a b=>?_⟩ (fun b hb=>rfl) fun b hb=>(hI b hb).1
   rw [aK6] at a b
   split at a
   ·rename_i hj
    rw [if_pos hj] at b
    exact q2.2 j c u a b
   ·cases a
  ·rw [ho j hne]
   exact (h.lo _ _ h1).step hI (fun j' hj'=>ho j' fun e=>h2 (e ▸ hj')) fun b _=>rfl
 ·obtain⟨_,e1,e2⟩:=loc _ _ _ h1 h3
  obtain⟨_,e3,e4⟩:=loc _ _ _ h2 h4
  exact h.sep _ _ _ _ _ e1 e3 e2 e4
 ·rw [B]
  rcases hF' s d hs with ⟨rfl,rfl⟩ | ⟨h1,h2⟩
  ·unfold men at hm
   subst hm
   exact (h.usedL _ _ hL).1
  ·exact h.usedF _ _ _ h1 hm
 ·rw [B]
  rcases hL' j lb hj with ⟨rfl,rfl⟩ | ⟨hne,h1,h2⟩
  ·exact⟨(h.usedL _ _ hL).1,fun k' hm=>hm.elim⟩
  ·exact⟨(h.usedL _ _ h1).1,fun k' hm=>by rw [B]; exact (h.usedL _ _ h1).2 k' hm⟩
 ·rw [B]
  exact⟨(ho j (by omega)).trans (h.pin j hj).1,(h.pin j hj).2⟩
 ·obtain⟨_,e1,e2⟩:=loc _ _ _ hj hb
  exact h.fresh _ _ _ e1 hp e2
def sC (t k:Nat):List (Nat×DV)->List (Nat×DV)
 | []=>[]
 | (s,d) :: l=>bif Nat.beq s t then (s,.row k) :: sC t k l else (s,d) :: sC t k l
def rQ (k:Nat) (lb:LB):List (Nat×LB)->List (Nat×LB)
 | []=>[]
 | (j,b) :: l=>bif Nat.beq j k then (j,lb) :: rQ k lb l else (j,b) :: rQ k lb l
def aJl (t k:Nat) (fl:List (Nat×DV)) (ll:List (Nat×LB)):Bool:=
 fl.all (fun q=>Nat.beq q.1 t || !(Jr q.2).contains k) && ll.all (fun q=>Nat.beq q.1 k || !(Z6 q.2).contains k)
theorem Yz {t k:Nat}:∀ {fl:List (Nat×DV)} {s:Nat} {d:DV},Gf (sC t k fl) s=some d->(s=t/\d=.row k)\/(s≠t/\Gf fl s=some d)
 | [],s,d,h=>by simp [sC,Gf] at h
 | (s',d') :: l,s,d,h=>by
  unfold sC at h
  cases hb:Nat.beq s' t with
  | true=>
   rw [hb] at h
   simp only [aDb] at h
   have e0:=aDj hb
   unfold Gf at h
   cases hs:Nat.beq s s' with
   | true=>
    rw [hs] at h
    have:=aDj hs
    injection h with h
    exact .inl ⟨by omega,h.symm⟩
   | false=>
    rw [hs] at h
    rcases Yz h with h | ⟨h1,h2⟩
    ·exact .inl h
    ·refine .inr ⟨h1,?_⟩
     unfold Gf
     rw [hs]
     exact h2
  | false=>
   rw [hb] at h
   simp only [aCv] at h
   unfold Gf at h
   cases hs:Nat.beq s s' with
   | true=>
    rw [hs] at h
    have:=aDj hs
    refine .inr ⟨fun e=>?_,?_⟩
    ·subst this
     subst e
     rw [aSm] at hb
     cases hb
    ·unfold Gf
     rw [hs]
     exact h
   | false=>
    rw [hs] at h
    rcases Yz h with h | ⟨h1,h2⟩
    ·exact .inl h
    ·refine .inr ⟨h1,?_⟩
     unfold Gf
     rw [hs]
     exact h2
theorem Yf {k:Nat} {lb:LB}:∀ {ll:List (Nat×LB)} {j:Nat} {b:LB},Gf (rQ k lb ll) j=some b->(j=k/\b=lb)\/(j≠k/\Gf ll j=some b)
 | [],s,d,h=>by simp [rQ,Gf] at h
 | (s',d') :: l,s,d,h=>by
  unfold rQ at h
  cases hb:Nat.beq s' k with
  | true=>
   rw [hb] at h
   simp only [aDb] at h
   have e0:=aDj hb
   unfold Gf at h
   cases hs:Nat.beq s s' with
   | true=>
    rw [hs] at h
    have:=aDj hs
    injection h with h
    exact .inl ⟨by omega,h.symm⟩
   | false=>
    rw [hs] at h
    rcases Yf h with h | ⟨h1,h2⟩
    ·exact .inl h
    ·refine .inr ⟨h1,?_⟩
     unfold Gf
     rw [hs]
     exact h2
  | false=>
   rw [hb] at h
   simp only [aCv] at h
   unfold Gf at h
   cases hs:Nat.beq s s' with
   | true=>
    rw [hs] at h
    have:=aDj hs
    refine .inr ⟨fun e=>?_,?_⟩
    ·subst this
     subst e
     rw [aSm] at hb
     cases hb
    ·unfold Gf
     rw [hs]
     exact h
   | false=>
    rw [hs] at h
    rcases Yf h with h | ⟨h1,h2⟩
    ·exact .inl h
    ·refine .inr ⟨h1,?_⟩
     unfold Gf
     rw [hs]
     exact h2
theorem sL {lb:LB} {k:Nat} (h:Sw lb k):k∈Z6 lb:=by
 cases lb with
 | box ds ty=>unfold Z6; exact W0.menL_dtoks h
 | row=>exact h.elim
 | map=>exact h.elim
 | mit k' n s=>have h:k=k':=h; subst h; exact aDi.2 rfl
 | vec ds e=>unfold Z6; exact W0.menL_dtoks h
theorem sO {α:Type} {f:α->List C} {sz:Nat} (hf:∀ x,(f x).length=sz) {l:List α} {n:Nat} (hn:n<=l.length):(Aj f l).take (n * sz)=Aj f (l.take n):=by
 have:=iP hf l 0 n (aI3 _) hn
 simpa using this
theorem aI8 {α:Type} {f:α->List C} {L:List α} {cx:Cx} {fl:List (Nat×DV)} {ll:List (Nat×LB)} {N:Nat} (t k:Nat) {n e sz:Nat} (hf:∀ x,(f x).length=sz) (hn:n<=L.length) (hF:Gf fl t=some (.part k 0 n)) (hL:Gf ll k=some (.row e sz (Aj f L)))
  (hk:Nat.ble cx.np k=true) (hc:aJl t k fl ll=true):O5 cx (mk fl ll N) (mk (sC t k fl) (rQ k (.row e sz (Aj f (L.take n))) ll) N):=by
 unfold aJl at hc
 rw [aFx,aG8,aG8] at hc
 refine O5.cut (t:=t) (k:=k) (n:=n) (e:=e) (sz:=sz) (cs:=Aj f L) (aCt hk) hF hL (by rw [Hk hf]; exact aLi _ hn) (fun s d hs=>?_) (fun j lb hj=>?_) fun _=>rfl
 ·rcases Yz hs with ⟨rfl,rfl⟩ | ⟨h1,h2⟩
  ·exact .inl ⟨rfl,rfl⟩
  ·refine .inr ⟨h2,fun hm=>?_⟩
   have:=hc.1 _ (Iu h2)
   rw [aMt] at this
   rcases this with h | h
   ·exact h1 (aDj h)
   ·have hm':=W0 hm
    simp at h
    exact h hm'
 ·rcases Yf hj with ⟨rfl,rfl⟩ | ⟨h1,h2⟩
  ·refine .inl ⟨rfl,?_⟩
   rw [sO hf hn]
  ·refine .inr ⟨h1,h2,fun hm=>?_⟩
   have:=hc.2 _ (Iu h2)
   rw [aMt] at this
   rcases this with h | h
   ·exact h1 (aDj h)
   ·have hm':=sL hm
    simp at h
    exact h hm'
end Go.Proofs.YtbpchmikjiinpaaGreat
