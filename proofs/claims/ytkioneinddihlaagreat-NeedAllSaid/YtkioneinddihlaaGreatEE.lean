import Derived.Test.YtkioneinddihlaaGreatED
import Derived.KernelRfl
import Derived.Test.YtkioneinddihlaaGreatPU
import Derived.Scope
set_option linter.unusedVariables false
set_option linter.unusedSimpArgs false
namespace Go.Proofs.YtkioneinddihlaaGreat
open Go.RowKit
section
variable {Q:Exit->St->Prop} {next:St->Prop} {σ:St} {i j:Nat}
theorem rP (h:Q .normal σ):zQ i Q (.exit i) σ:=by
 show (if i=i then _ else _)
 rw [if_pos rfl]
 exact h
theorem pO (hne:j≠i) (h:Q (.exit j) σ):zQ i Q (.exit j) σ:=by
 show (if j=i then _ else _)
 rw [if_neg hne]
 exact h
end
theorem xS {P:Program} {t ty:TypeId} {s:ByteArray} (h:P.underlying t=some .string):∀ w,∀ cs,(builtin .len #[t] ty cs #[.string s]).run P w=.ok (.value (.int .i64 s.size)) w:=fun w cs=>by
 simp [builtin,Builtin.len_,run_underlying h,goInt]
section
variable {P:Program} {t:TypeId} {X Y:Operand}
end
section
variable {P:Program} {t:TypeId} {X Y:Operand} {k:IntKind} {x y:Int}
end
section
variable {P:Program} {t:TypeId} {X Y:Operand} {a b:ByteArray}
end
theorem Ij {θ:List (Nat×Nat)} {j:Nat} (h:(θ.all fun q=>!Nat.beq q.2 j)=true):∀ k,E5 θ k≠some j:=fun k hk=>by
 have:=aHf.1 h _ (F3 hk)
 simp at this
theorem A6 {P:Program} {cx:Cx} {x y:Code} {Q:Exit->St->Prop} {σ:St} {ι:Type} (mid:ι->St) (ok:ι->Prop) (hx:N1 P cx x (vG (fun σ'=>∃ i,ok i/\P4 cx σ' (mid i)) Q) σ) (hy:∀ i,ok i->N1 P cx y Q (mid i)):N1 P cx (.seq x y) Q σ:=by
 refine A8 (sV ?_ hx)
 intro e σ' h
 cases e with
 | normal=>
  obtain⟨i,h1,h2⟩:=h
  exact G3 h2 (hy i h1)
 | _=>exact h
end Go.Proofs.YtkioneinddihlaaGreat
namespace Go.Proofs.YtkioneinddihlaaGreat
open Go.RowKit
mutual
def nV (j:Nat):DV->Bool
 | .part k _ _=>!Nat.beq k j
 | .ptr k _=>!Nat.beq k j
 | .agg ds=>aJ j ds
 | .tup ds=>aJ j ds
 | .clo _ _ ds=>aJ j ds
 | .val _=>true
 | .sl _ _=>true
 | .slc _ _=>true
 | .mp _=>true
 | .elt _=>true
 | .row _=>true
 | .nst k s _=>!Nat.beq k j && !Nat.beq s j
 | .npt k s _ _=>!Nat.beq k j && !Nat.beq s j
def aJ (j:Nat):List DV->Bool
 | []=>true
 | d :: ds=>nV j d && aJ j ds
end
mutual
def Kv (j sz:Nat) (cs:List C):DV->DV
 | .row k=>bif Nat.beq k j then .sl sz cs else .row k
 | .agg ds=>.agg (Pc j sz cs ds)
 | .tup ds=>.tup (Pc j sz cs ds)
 | .clo f n ds=>.clo f n (Pc j sz cs ds)
 | .val v=>.val v
 | .sl s c=>.sl s c
 | .slc s c=>.slc s c
 | .mp l=>.mp l
 | .elt c=>.elt c
 | .part k o n=>.part k o n
 | .ptr k i=>.ptr k i
 | .nst k s i=>.nst k s i
 | .npt k s i p=>.npt k s i p
def Pc (j sz:Nat) (cs:List C):List DV->List DV
 | []=>[]
 | d :: ds=>Kv j sz cs d :: Pc j sz cs ds
end
def St.frz (σ:St) (j sz:Nat) (cs:List C):St where
 F:=fun t=>match σ.F t with | some d=>bif nV j d then some (Kv j sz cs d) else none | none=>none
 L:=fun k=>bif Nat.beq k j then none else match σ.L k with | some (.box ds ty)=>(bif aJ j ds then some (.box (Pc j sz cs ds) ty) else none) | some (.row e s c)=>some (.row e s c) | _=>none
 U:=σ.U
theorem Lf {a b:Nat} (h:Nat.beq a b=false):a≠b:=fun e=>by
 subst e
 rw [aOy] at h; cases h
section
variable {σ:St} {j e sz:Nat} {cs:List C}
abbrev frzT (j:Nat) (k:Nat):Option Nat:=if k=j then none else some k
mutual
theorem Cv.frzD (h:σ.L j=some (.row e sz cs)):∀ d,nV j d=true->Cv σ (frzT j) d (Go.Proofs.YtkioneinddihlaaGreat.Kv j sz cs d)
 | .val v,_=>by unfold Go.Proofs.YtkioneinddihlaaGreat.Kv; exact .val v
 | .sl _ _,_=>by unfold Go.Proofs.YtkioneinddihlaaGreat.Kv; exact .sl _ _
 | .slc _ _,_=>by unfold Go.Proofs.YtkioneinddihlaaGreat.Kv; exact .slcc _ _
 | .mp _,_=>by unfold Go.Proofs.YtkioneinddihlaaGreat.Kv; exact .mp _
 | .elt _,_=>by unfold Go.Proofs.YtkioneinddihlaaGreat.Kv; exact .elt _
 | .row k,_=>by
  unfold Go.Proofs.YtkioneinddihlaaGreat.Kv
  cases hb:Nat.beq k j with
  | true=>
   have:=aEr hb
   subst this
   refine .frz h fun k' hk'=>?_
   unfold frzT at hk'
   split at hk'
   ·cases hk'
   ·rename_i hne
    injection hk' with hk'
    exact hne hk'
  | false=>exact .row (if_neg (Lf hb))
 | .part k _ _,hn=>by
  unfold nV at hn
  unfold Go.Proofs.YtkioneinddihlaaGreat.Kv
  exact .part (if_neg (Lf (by simpa using hn)))
 | .ptr k _,hn=>by
  unfold nV at hn
  unfold Go.Proofs.YtkioneinddihlaaGreat.Kv
  exact .ptr (if_neg (Lf (by simpa using hn)))
 | .nst k s _,hn=>by
  unfold nV at hn
  rw [aEs] at hn
  unfold Go.Proofs.YtkioneinddihlaaGreat.Kv
  exact .nst (if_neg (Lf (by simpa using hn.1))) (if_neg (Lf (by simpa using hn.2)))
 | .npt k s _ _,hn=>by
  unfold nV at hn
  rw [aEs] at hn
  unfold Go.Proofs.YtkioneinddihlaaGreat.Kv
  exact .npt (if_neg (Lf (by simpa using hn.1))) (if_neg (Lf (by simpa using hn.2)))
 | .agg ds,hn=>by
  unfold nV at hn
  unfold Go.Proofs.YtkioneinddihlaaGreat.Kv
  exact .agg (Q0.frzDs h ds hn)
 | .tup ds,hn=>by
  unfold nV at hn
  unfold Go.Proofs.YtkioneinddihlaaGreat.Kv
  exact .tup (Q0.frzDs h ds hn)
 | .clo f n ds,hn=>by
  unfold nV at hn
  unfold Go.Proofs.YtkioneinddihlaaGreat.Kv
  exact .clo f n (Q0.frzDs h ds hn)
theorem Q0.frzDs (h:σ.L j=some (.row e sz cs)):∀ ds,aJ j ds=true->Q0 σ (frzT j) ds (Go.Proofs.YtkioneinddihlaaGreat.Pc j sz cs ds)
 | [],_=>by unfold Go.Proofs.YtkioneinddihlaaGreat.Pc; exact .nil
 | d :: ds,hn=>by
  unfold aJ at hn
  simp only [aEs] at hn
  unfold Go.Proofs.YtkioneinddihlaaGreat.Pc
  exact .cons (Cv.frzD h d hn.1) (Q0.frzDs h ds hn.2)
end
mutual
theorem nN:∀ (d:DV) (k:Nat),men (Kv j sz cs d) k->men d k
 | .val _,k,h=>by unfold Kv men at h; exact h.elim
 | .sl _ _,k,h=>by unfold Kv men at h; exact h.elim
 | .slc _ _,k,h=>by unfold Kv men at h; exact h.elim
 | .mp _,k,h=>by unfold Kv men at h; exact h.elim
 | .elt _,k,h=>by unfold Kv men at h; exact h.elim
 | .row i,k,h=>by
  unfold Kv at h
  cases hb:Nat.beq i j with
  | true=>rw [hb] at h; simp only [aEw] at h; unfold men at h; exact h.elim
  | false=>rw [hb] at h; exact h
 | .part _ _ _,k,h=>by unfold Kv at h; exact h
 | .ptr _ _,k,h=>by unfold Kv at h; exact h
 | .nst _ _ _,k,h=>by unfold Kv at h; exact h
 | .npt _ _ _ _,k,h=>by unfold Kv at h; exact h
 | .agg ds,k,h=>by unfold Kv men at h; unfold men; exact Rk ds k h
 | .tup ds,k,h=>by unfold Kv men at h; unfold men; exact Rk ds k h
 | .clo _ _ ds,k,h=>by unfold Kv men at h; unfold men; exact Rk ds k h
theorem Rk:∀ (ds:List DV) (k:Nat),Ft (Pc j sz cs ds) k->Ft ds k
 | [],k,h=>by unfold Pc Ft at h; exact h.elim
 | d :: ds,k,h=>by
  unfold Pc Ft at h
  unfold Ft
  exact h.imp (nN d k) (Rk ds k)
end
theorem aAd {t:Nat} {d':DV} (h:(σ.frz j sz cs).F t=some d'):∃ d,σ.F t=some d/\nV j d=true/\d'=Kv j sz cs d:=by
 have h':(match σ.F t with | some d=>bif nV j d then some (Kv j sz cs d) else none | none=>none)=some d':=h
 cases hF:σ.F t with
 | none=>rw [hF] at h'; cases h'
 | some d=>
  rw [hF] at h'
  cases hn:nV j d with
  | false=>simp only [hn,aD6] at h'; cases h'
  | true=>simp only [hn,aEw] at h'; injection h' with h'; exact⟨d,rfl,hn,h'.symm⟩
theorem zK {k:Nat} {lb':LB} (h:(σ.frz j sz cs).L k=some lb'):k≠j/\((∃ ds ty,σ.L k=some (.box ds ty)/\aJ j ds=true/\lb'=.box (Pc j sz cs ds) ty)\/∃ e s c,σ.L k=some (.row e s c)/\lb'=.row e s c):=by
 have h':(bif Nat.beq k j then none else match σ.L k with | some (.box ds ty)=>(bif aJ j ds then some (LB.box (Pc j sz cs ds) ty) else none) | some (.row e s c)=>some (.row e s c) | _=>none)=some lb':=h
 cases hb:Nat.beq k j with
 | true=>rw [hb] at h'; cases h'
 | false=>
  refine⟨Lf hb,?_⟩
  rw [hb] at h'
  simp only [aD6] at h'
  cases hL:σ.L k with
  | none=>rw [hL] at h'; cases h'
  | some lb=>
   rw [hL] at h'
   cases lb with
   | row e s c=>simp only [] at h'; injection h' with h'; exact .inr ⟨e,s,c,rfl,h'.symm⟩
   | map l=>cases h'
   | mit k' n s=>cases h'
   | vec ds e=>cases h'
   | tree=>cases h'
   | gho=>cases h'
   | box ds ty=>
    simp only [] at h'
    cases hn:aJ j ds with
    | false=>rw [hn] at h'; cases h'
    | true=>rw [hn] at h'; injection h' with h'; exact .inl ⟨ds,ty,rfl,hn,h'.symm⟩
theorem P4.frz {cx:Cx} (h:σ.L j=some (.row e sz cs)) (hj:Nat.ble cx.np j=true):P4 cx σ (σ.frz j sz cs):=by
 rintro a w ⟨ρ,ha⟩
 have hj':cx.np<=j:=aEn hj
 refine⟨_,(ha.ren (σ':=σ.frz j sz cs) (frzT j) (fun t d' hd=>?_) (fun k lb' hl=>?_) (fun k k' i h1 h2=>?_) (fun k hk=>⟨if_neg (by omega),(ha.pin k hk).2⟩) (fun t d k hd hm=>?_) (fun k lb hl=>?_)).1⟩
 ·obtain⟨d,h1,h2,rfl⟩:=aAd hd
  exact⟨d,h1,Cv.frzD h d h2⟩
 ·obtain⟨hne,h1⟩:=zK hl
  refine .inl ?_
  rcases h1 with ⟨ds,ty,h1,h2,rfl⟩ | ⟨e',s,c,h1,rfl⟩
  ·exact⟨k,_,if_neg hne,h1,rfl,Q0.frzDs h ds h2⟩
  ·exact⟨k,_,if_neg hne,h1,rfl,rfl,rfl⟩
 ·unfold frzT at h1 h2
  split at h1
  ·cases h1
  ·split at h2
   ·cases h2
   ·injection h1 with h1
    injection h2 with h2
    omega
 ·obtain⟨d',h1,h2,rfl⟩:=aAd hd
  exact ha.usedF t d' k h1 (nN d' k hm)
 ·obtain⟨hne,h1⟩:=zK hl
  rcases h1 with ⟨ds,ty,h1,h2,rfl⟩ | ⟨e',s,c,h1,rfl⟩
  ·exact⟨(ha.usedL k _ h1).1,fun k' hk'=>(ha.usedL k _ h1).2 k' (Rk ds k' hk')⟩
  ·exact⟨(ha.usedL k _ h1).1,fun k' hk'=>hk'.elim⟩
end
section
variable {P:Program} {cx:Cx} {ops:Array Oper} {Q:Exit->St->Prop} {l:List Oper} {σ σ':St}
def dJ (P:Program) (cx:Cx) (ops:Array Oper) (Q:Exit->St->Prop) (l:List Oper) (σ:St):Prop:=∀ a w,I8 cx σ a w->wpList P ops (post cx Q) l a w
theorem dJ.sub (h:P4 cx σ σ') (k:dJ P cx ops Q l σ'):dJ P cx ops Q l σ:=fun a w ha=>k a w (h a w ha)
theorem dJ.fin (h:Q .normal σ):dJ P cx ops Q [] σ:=fun a w ha=>⟨σ,h,ha⟩
variable {S:vH P cx} {nb nb':Nat}
theorem V7 {l2:List Oper}:∀ (l:List Oper) (k:Nat) (lg:fT) (σ:St) (a:Act) (w:World),Chain S ops none nb (idx k l) lg σ (fun σ'=>(∀ j,nb'<=j->σ'.U j=false)->dJ P cx ops Q l2 σ')->Ub nb (idx k l) σ->qZ cx (idx k l)->(∀ j,nb'<=j->σ.U j=false)->nb + 8 * (k + l.length)<=nb'->I8 cx σ a w->wpList P ops (post cx Q) (l ++ l2) a w
 | [],k,lg,σ,a,w,h,_,_,B,_,ha=>h B a w ha
 | o :: l,k,lg,σ,a,w,h,hf,hd,B,hn,⟨ρ,ha⟩=>by
  have hf0:=hf (k,o) (by simp [idx])
  have hd0:=hd (k,o) (by simp [idx])
  have hf1:Ub nb (idx (k + 1) l) σ:=fun q hq=>hf q (by simp [idx,hq])
  have hd1:qZ cx (idx (k + 1) l):=fun q hq=>hd q (by simp [idx,hq])
  have hne:∀ q∈idx (k + 1) l,q.1≠k:=fun q hq=>by have:=(Sq hq).1; omega
  have hn':nb + 8 * (k + 1 + l.length)<=nb':=by simp at hn; omega
  have hUn:∀ {e:Lz} {wr:List Nat} {rd:List Nat},(∀ j,e.l j≠none->j∈wr\/(nb + 8 * k<=j/\j < nb + 8 * k + 8))->(∀ j,j∈wr->j∈rd)->(∀ j,j∈rd->σ.U j=true)->∀ j,nb'<=j->(σ.app o.dst e).U j=false:=fun {e wr rd} hk hs hu j hj=>by
   cases hc:(σ.app o.dst e).U j with
   | false=>rfl
   | true=>
    rcases mA hc with h1 | h1
    ·rw [B j hj] at h1; cases h1
    ·rcases hk j h1 with h2 | h2
     ·exact absurd (hu j (hs j h2)) (by rw [B j hj]; simp)
     ·simp at hn; omega
  show wpList P ops (post cx Q) (o :: (l ++ l2)) a w
  unfold wpList
  rcases h with ⟨rd,wr,e,h1,-,h3⟩ | ⟨rd,wr,E,h1,-,-,h3⟩
  ·have hs:=h1.sound ha hf0 hd0
   have:=hs (wpList P ops (post cx Q) (l ++ l2)) (post cx Q) fun a' w' ha'=>V7 l (k + 1) _ _ a' w' h3 (hf1.next h1.key.1 (fun j hj=>h1.used ha j (h1.key.2 j hj)) hne) hd1 (hUn h1.key.1 h1.key.2 (h1.used ha)) hn' ha'
   split
   ·rename_i hw
    rw [if_pos hw] at this
    exact .inl this
   ·rename_i hw
    rw [if_neg hw] at this
    exact this
  ·have:=h1.sound ha hf0 hd0 (wpList P ops (post cx Q) (l ++ l2)) (post cx Q) fun e a' w' he ha'=>V7 l (k + 1) _ _ a' w' (h3 e he) (hf1.next (h1.key.1 e he) (fun j hj=>h1.used ha j (h1.key.2 j hj)) hne) hd1 (hUn (h1.key.1 e he) h1.key.2 (h1.used ha)) hn' ha'
   split
   ·rename_i hw
    rw [if_pos hw] at this
    exact .inl this
   ·rename_i hw
    rw [if_neg hw] at this
    exact this
theorem dJ.chain (S:vH P cx) (m nb nb':Nat) (B:∀ k,nb<=k->σ.U k=false) (hn:Nat.ble (nb + 8 * (l.take m).length) nb'=true) (hd:dO cx.N (l.take m)=true)
  (h:Chain S ops none nb (idx 0 (l.take m)) [] σ (fun σ'=>(∀ j,nb'<=j->σ'.U j=false)->dJ P cx ops Q (l.drop m) σ')):dJ P cx ops Q l σ:=by
 intro a w ha
 have hn':nb + 8 * (l.take m).length<=nb':=aEn hn
 have:=V7 (l2:=l.drop m) (l.take m) 0 [] σ a w h (fun q hq j hj=>B _ (by omega)) (Wj hd) (fun j hj=>B j (by omega)) (by simpa using hn') ha
 rwa [aNv] at this
end
section
variable {P:Program} {f:FuncId} {args:List DV}
theorem Fn.plain {v:Value} {R:DV->List LB->Prop} {vs:List Value} {w:World} (h:Fn P f 0 args [] R) (hR:∀ r b,R r b->r=.val v) (ρ:Nat->Value) (I:Nat->Prop) (hI:∀ b,I b->b < w.heap.size) (hr:Cb ρ I w args vs):Calls P f vs.toArray w fun e w'=>e=.returned v/\Xu w w':=by
 refine (h.2.2 ρ I w vs (fun b hb=>⟨hI b hb,fun k hk=>by simp at hk⟩) hr (fun k lb h=>by simp at h) (fun k k' b hk=>by simp at hk)).mono ?_
 rintro e w' ⟨u,r,b,rfl,h1,h2⟩
 obtain⟨-,⟨o1,o2,o3,o4⟩,hk,⟨ρ',J,-,-,hrep,-⟩,-⟩:=h2
 rw [hR r b h1] at hrep
 unfold Cp at hrep
 rw [hrep.1]
 exact⟨rfl,o1,o2,o3,o4,fun b hb=>hk b hb fun k hk=>by simp at hk⟩
end
end Go.Proofs.YtkioneinddihlaaGreat
namespace Go.Proofs.YtkioneinddihlaaGreat
open Go.RowKit
def noG (Q:Exit->St->Prop):Exit->St->Prop
 | .normal,σ=>Q .normal σ
 | .exit i,σ=>Q (.exit i) σ
 | .goto _,_=>False
 | .ret,σ=>Q .ret σ
 | .panic c,σ=>Q (.panic c) σ
 | .outgrown,σ=>Q .outgrown σ
def Ak {α:Type} (f:α->List C) (l:List α):List C:=l.flatMap f
def eI (x:Int):List C:=[.int .i64 x]
def eK (k:IntKind) (x:Int):List C:=[.int k x]
def e8 (x:UInt8):List C:=[.int .u8 (x.toNat:Int)]
def eS (x:ByteArray):List C:=[.str x]
def eB (x:Bool):List C:=[.bool x]
def eL {α:Type} (sz:Nat) (f:α->List C) (l:List α):List C:=[.sl sz (Ak f l)]
theorem O4 (x:Int):(eI x).length=1:=rfl
theorem aDc (k:IntKind) (x:Int):(eK k x).length=1:=rfl
theorem aAv (x:UInt8):(e8 x).length=1:=rfl
theorem fM (x:ByteArray):(eS x).length=1:=rfl
theorem Od (x:Bool):(eB x).length=1:=rfl
theorem Gy {α:Type} (sz:Nat) (f:α->List C) (l:List α):(eL sz f l).length=1:=rfl
section
variable {α:Type} {f:α->List C} {sz:Nat}
theorem F2 (hf:∀ x,(f x).length=sz):∀ (l:List α),(Ak f l).length=l.length * sz
 | []=>by simp [Ak]
 | x :: l=>by
  have:=F2 hf l
  unfold Ak at this ⊢
  rw [aNa,aEq,hf,this,aIx,aLf,aO4,Nat.add_comm]
theorem Kb (l m:List α):Ak f (l ++ m)=Ak f l ++ Ak f m:=by unfold Ak; rw [aP8]
theorem P5 {l:List α} {j:Nat} {x:α} (hx:l[j]?=some x):Ak f l=Ak f (l.take j) ++ (f x ++ Ak f (l.drop (j + 1))):=by
 have hj:=(aDw.1 hx).1
 have hxe:=(aDw.1 hx).2
 have e1:l=l.take j ++ (x :: l.drop (j + 1)):=by
  rw [<- hxe,List.getElem_cons_drop,aNv]
 rw [show Ak f l=Ak f (l.take j ++ (x :: l.drop (j + 1))) from congrArg _ e1,Kb]
 rfl
theorem Nf (hf:∀ x,(f x).length=sz) {l:List α} {j:Nat} (hj:j<=l.length):(Ak f (l.take j)).length=j * sz:=by
 rw [F2 hf,aGn,aPc hj]
theorem Mw (hf:∀ x,(f x).length=sz) {l:List α} {j:Nat} {x:α} (hx:l[j]?=some x):j * sz + sz<=(Ak f l).length:=by
 have hj:=(aDw.1 hx).1
 rw [F2 hf]
 have:(j + 1) * sz<=l.length * sz:=aIw _ hj
 rw [aLf,aO4] at this
 exact this
theorem Tt (hf:∀ x,(f x).length=sz) {l:List α} {j o:Nat} {x:α} (hx:l[j]?=some x) (ho:o < sz) {a:Nat} (ha:a=j * sz + o):a < (Ak f l).length:=by
 have:=Mw hf hx
 omega
theorem Yq (hf:∀ x,(f x).length=sz) {l:List α} {j o:Nat} {x:α} (hx:l[j]?=some x) (ho:o<=sz):(Ak f l).drop (j * sz + o)=(f x).drop o ++ Ak f (l.drop (j + 1)):=by
 have hj:=(aDw.1 hx).1
 have ht:=Nf hf (l:=l) (j:=j) (by omega)
 rw [P5 hx,<- ht,<- aPz,List.drop_left,List.drop_append_of_le_length (by rw [hf]; exact ho)]
theorem Fj (hf:∀ x,(f x).length=sz) {l:List α} {j o:Nat} {x:α} {c:C} (hx:l[j]?=some x) (hc:(f x)[o]?=some c) {a:Nat} (ha:a=j * sz + o):(Ak f l)[a]?=some c:=by
 subst ha
 have ho:o < sz:=by rw [<- hf x]; exact (aDw.1 hc).1
 have e1:=Yq hf hx (Nat.le_of_lt ho)
 have e2:(Ak f l)[j * sz + o]?=((Ak f l).drop (j * sz + o))[0]?:=by rw [aH7]; rfl
 rw [e2,e1,aFm (by rw [aH1,hf]; omega),aH7]
 exact hc
theorem Iy (hf:∀ x,(f x).length=sz) {l:List α} {j o m:Nat} {x:α} {cs:List C} (hx:l[j]?=some x) (hs:((f x).drop o).take m=cs) (ho:o + m<=sz) {a:Nat} (ha:a=j * sz + o):((Ak f l).drop a).take m=cs:=by
 subst ha
 rw [Yq hf hx (by omega),aOr (by rw [aH1,hf]; omega)]
 exact hs
theorem Fe (hf:∀ x,(f x).length=sz) {l:List α} {j o m:Nat} {x:α} (hx:l[j]?=some x) (ho:o + m<=sz) {a:Nat} (ha:a=j * sz + o):a + m<=(Ak f l).length:=by
 have:=Mw hf hx
 omega
theorem Nz (hf:∀ x,(f x).length=sz) {l:List α} {j o:Nat} {x x':α} {cs:List C} (hx:l[j]?=some x) (ho:o + cs.length<=sz) (hs:Cu (f x) o cs=f x') {a:Nat} (ha:a=j * sz + o):Cu (Ak f l) a cs=Ak f (Dj l j x'):=by
 subst ha
 have hj:=(aDw.1 hx).1
 have ht:=Nf hf (l:=l) (j:=j) (by omega)
 have hset:Ak f (Dj l j x')=Ak f (l.take j) ++ (f x' ++ Ak f (l.drop (j + 1))):=by
  have:(Dj l j x')[j]?=some x':=by unfold Dj; rw [aMb hj]
  rw [P5 this]
  unfold Dj
  rw [List.take_set_of_le (aHy _),List.drop_set_of_lt (by omega)]
 rw [hset,<- hs]
 unfold Cu
 have e1:(Ak f l).take (j * sz + o)=Ak f (l.take j) ++ (f x).take o:=by
  rw [P5 hx,aPa,ht,aOf,aHx (by rw [ht]; omega)]
  congr 1
  rw [aOr (by rw [hf]; omega)]
 have e2:(Ak f l).drop (j * sz + o + cs.length)=(f x).drop (o + cs.length) ++ Ak f (l.drop (j + 1)):=by
  rw [Nat.add_assoc,Yq hf hx ho]
 rw [e1,e2]
 simp only [aJb]
theorem Xw (hf:∀ x,(f x).length=sz) (l:List α) (i j:Nat) (hij:i<=j) (hj:j<=l.length):((Ak f l).drop (i * sz)).take ((j - i) * sz)=Ak f ((l.drop i).take (j - i)):=by
 have e0:Ak f l=Ak f (l.take i) ++ Ak f (l.drop i):=by rw [<- Kb,aNv]
 have e1:Ak f (l.drop i)=Ak f ((l.drop i).take (j - i)) ++ Ak f ((l.drop i).drop (j - i)):=by rw [<- Kb,aNv]
 rw [e0]
 have ht:=Nf hf (l:=l) (j:=i) (by omega)
 have hd:((Ak f (l.take i)) ++ Ak f (l.drop i)).drop (i * sz)=Ak f (l.drop i):=by rw [<- ht,List.drop_left]
 rw [hd,e1]
 have ht2:=Nf hf (l:=l.drop i) (j:=j - i) (by rw [aH1]; omega)
 rw [<- ht2,List.take_left]
theorem fX (hf:∀ x,(f x).length=sz) (l:List α) (i n:Nat) (hn:i + n<=l.length):((Ak f l).drop (i * sz)).take (n * sz)=Ak f ((l.drop i).take n):=by
 have:=Xw hf l i (i + n) (by omega) (by omega)
 rw [aOf] at this
 exact this
end
theorem aFu (l:List UInt8):Ak e8 l=Ji l:=by
 induction l with
 | nil=>rfl
 | cons x l ih=>
  show e8 x ++ Ak e8 l=_
  rw [ih]
  rfl
section
variable {P:Program} {tk:Nat} {t ty yt:TypeId} {X Y:Operand} {b1 b2:Option LB} {k:IntKind} {x y:Int}
theorem aGp:Fi P tk (.binOp .lss t X Y yt) ty [(.val (.int k x),b1),(.val (.int k y),b2)] [] (v0 (.val (.bool (decide (x < y))))):=.binOp (fun _ _=>rfl) aDi
theorem aGi:Fi P tk (.binOp .leq t X Y yt) ty [(.val (.int k x),b1),(.val (.int k y),b2)] [] (v0 (.val (.bool (decide (x<=y))))):=.binOp (fun _ _=>rfl) aB1
theorem aFn:Fi P tk (.binOp .gtr t X Y yt) ty [(.val (.int k x),b1),(.val (.int k y),b2)] [] (v0 (.val (.bool (decide (y < x))))):=.binOp (fun _ _=>rfl) aDk
theorem aHw:Fi P tk (.binOp .geq t X Y yt) ty [(.val (.int k x),b1),(.val (.int k y),b2)] [] (v0 (.val (.bool (decide (y<=x))))):=.binOp (fun _ _=>rfl) aAo
theorem aHl:Fi P tk (.binOp .eql t X Y yt) ty [(.val (.int k x),b1),(.val (.int k y),b2)] [] (v0 (.val (.bool (decide (x=y))))):=.binOp (fun _ _=>rfl) aAm
theorem aGl:Fi P tk (.binOp .neq t X Y yt) ty [(.val (.int k x),b1),(.val (.int k y),b2)] [] (v0 (.val (.bool (!decide (x=y))))):=.binOp (fun _ _=>rfl) (fun w=>by rw [aEh w,decide_not])
theorem bQ (x:Int):IntKind.i64.wrap x=W x:=by rw [IntKind.wrap_i64]; unfold W; omega
theorem okW (x:Int):E4 (.int .i64 (W x))=true:=Ih.2 (Pd (nB x))
theorem aGf (x:Int):IntKind.u8.wrap x=((u8 x).toNat:Int):=by rw [IntKind.wrap_u8,iD]
theorem ok8 (x:UInt8):E4 (.int .u8 (x.toNat:Int))=true:=Ih.2 (iA ⟨by omega,by have:=x.toNat_lt; omega⟩)
theorem aHd:Fi P tk (.binOp .add t X Y yt) ty [(.val (.int .i64 x),b1),(.val (.int .i64 y),b2)] [] (v0 (.val (.int .i64 (W (x + y))))):=.binOp (fun _ _=>okW _) (fun w=>by rw [wZ w,bQ])
theorem aGj:Fi P tk (.binOp .sub t X Y yt) ty [(.val (.int .i64 x),b1),(.val (.int .i64 y),b2)] [] (v0 (.val (.int .i64 (W (x - y))))):=.binOp (fun _ _=>okW _) (fun w=>by rw [lZ w,bQ])
theorem aE4:Fi P tk (.binOp .mul t X Y yt) ty [(.val (.int .i64 x),b1),(.val (.int .i64 y),b2)] [] (v0 (.val (.int .i64 (W (x * y))))):=.binOp (fun _ _=>okW _) (fun w=>by rw [nE w,bQ])
theorem qS (x y:Int):(x.tmod y).natAbs<=x.natAbs:=by
 rw [Int.natAbs_tmod]
 exact Nat.mod_le _ _
theorem jM {x y:Int} (h:-9223372036854775808<=x/\x<=9223372036854775807):-9223372036854775808<=x.tmod y/\x.tmod y<=9223372036854775807:=by
 have h0:=qS x y
 rcases Int.le_total 0 x with hx | hx
 ·have h1:=Int.tmod_nonneg y hx
  omega
 ·have e:x.tmod y=-((-x).tmod y):=by rw [Int.neg_tmod]; omega
  have h1:=Int.tmod_nonneg y (show 0<=-x by omega)
  omega
theorem vQ {n:Int} (h:E4 (.int .i64 n)=true):-9223372036854775808<=n/\n<=9223372036854775807:=by
 have:=Ih.1 h
 have h1:IntKind.i64.min=-9223372036854775808:=by decide
 have h2:IntKind.i64.max=9223372036854775807:=by decide
 rw [h1,h2] at this
 exact this
theorem aF9 {z:Int} (h:V2 x y=some z):Fi P tk (.binOp .rem t X Y yt) ty [(.val (.int .i64 x),b1),(.val (.int .i64 y),b2)] [] (v0 (.val (.int .i64 z))):=by
 obtain⟨hy,rfl⟩:=pD h
 exact .binOp (fun h _=>Ih.2 (Pd (jM (vQ h)))) (aB3 hy)
theorem aGs {z:Int} (h:Ml x y=some z):Fi P tk (.binOp .quo t X Y yt) ty [(.val (.int .i64 x),b1),(.val (.int .i64 y),b2)] [] (v0 (.val (.int .i64 z))):=by
 obtain⟨hy,rfl⟩:=nU h
 exact .binOp (fun _ _=>okW _) (fun w=>by rw [aDy hy w,bQ])
theorem aE8 {b:Bool}:Fi P tk (.unOp .not t X) ty [(.val (.bool b),b1)] [] (v0 (.val (.bool (!b)))):=.unOp (fun _=>rfl) aDq
theorem aA0 {a b:Bool} (ht:P.underlying t=some .bool):Fi P tk (.binOp .neq t X Y yt) ty [(.val (.bool a),b1),(.val (.bool b),b2)] [] (v0 (.val (.bool (!decide (a=b))))):=.binOp (fun _ _=>rfl) (fun w=>by cases a <;> cases b <;> simp [eqGuard,binOp,Op.equal,Op.maxDepth,run_equalIn_bool',ht])
theorem aA9 {a b:ByteArray}:Fi P tk (.binOp .eql t X Y yt) ty [(.val (.string a),b1),(.val (.string b),b2)] [] (v0 (.val (.bool (decide (a=b))))):=.binOp (fun _ _=>rfl) zF
theorem aBy {a b:ByteArray}:Fi P tk (.binOp .neq t X Y yt) ty [(.val (.string a),b1),(.val (.string b),b2)] [] (v0 (.val (.bool (!decide (a=b))))):=.binOp (fun _ _=>rfl) (fun w=>by rw [wK w,decide_not])
theorem tY:∀ (a b:List UInt8),Op.bytesLess a b=fS a b
 | _,[]=>by cases ‹List UInt8› <;> rfl
 | [],_ :: _=>rfl
 | a :: x,b :: y=>by unfold Op.bytesLess fS; rw [tY x y]
theorem aGr {a b c:ByteArray} (h:uF a b=some c):Fi P tk (.binOp .add t X Y yt) ty [(.val (.string a),b1),(.val (.string b),b2)] [] (v0 (.val (.string c))):=by
 obtain⟨h1,rfl⟩:=oH h
 refine .binOp (fun _ _=>Oa.2 ?_) (fun w=>?_)
 ·rw [aP3]; exact h1
 ·have h2:¬ (9223372036854775807:Int) < ((a.size:Int) + (b.size:Int)):=by omega
  have hm:IntKind.i64.max=9223372036854775807:=by decide
  simp [eqGuard,binOp,Op.stringOp,hm,h2]
theorem cG {src dst:TypeId} (hs:P.underlying src=some (.int k)) (hd:P.underlying dst=some (.int .u8)):Fi P tk (.convert src dst X) ty [(.val (.int k x),b1)] [] (v0 (.val (.int .u8 ((u8 x).toNat:Int)))):=
 .conv (by unfold mB; rw [hs]) (by unfold mB; rw [hd]) (fun _=>ok8 _) (fun w=>by rw [dY (by rw [hs]; rfl) hd w,aGf])
theorem kA {src dst:TypeId} (hs:P.underlying src=some (.int k)) (hd:P.underlying dst=some (.int .i64)):Fi P tk (.convert src dst X) ty [(.val (.int k x),b1)] [] (v0 (.val (.int .i64 (W x)))):=
 .conv (by unfold mB; rw [hs]) (by unfold mB; rw [hd]) (fun _=>okW _) (fun w=>by rw [dY (by rw [hs]; rfl) hd w,bQ])
theorem cA {src dst:TypeId} {u:UInt8} (hs:P.underlying src=some (.int .u8)) (hd:P.underlying dst=some (.int .i64)):Fi P tk (.convert src dst X) ty [(.val (.int .u8 (u.toNat:Int)),b1)] [] (v0 (.val (.int .i64 (u.toNat:Int)))):=
 .conv (by unfold mB; rw [hs]) (by unfold mB; rw [hd]) (fun _=>Ih.2 (Pd ⟨by omega,by have:=u.toNat_lt; omega⟩)) (fun w=>by
  have:=u.toNat_lt
  rw [dY (by rw [hs]; rfl) hd w,bQ,Db (by omega)])
theorem aC1 {ts:Array TypeId}:∀ w,∀ cs,(builtin .max ts ty cs #[.int k x,.int k y]).run P w=.ok (.value (.int k (max x y))) w:=fun w cs=>by
 simp [builtin,Builtin.max_,Builtin.max2,go_sem]
 split <;> omega
theorem aHm {ts:Array TypeId}:Fi P tk (.call ⟨.builtin .max,#[X,Y],ts⟩) ty [(.val (.int k x),b1),(.val (.int k y),b2)] [] (v0 (.val (.int k (max x y)))):=
 .callV2 (vx:=.int k x) (vy:=.int k y) (v:=.int k (max x y)) (by decide) (fun h h'=>by
  rcases Int.le_total x y with hxy | hxy
  ·rw [Int.max_eq_right hxy]; exact h'
  ·rw [Int.max_eq_left hxy]; exact h) aC1
theorem yR {Z:Operand} {c:Bool} {d1 d2:DV} {b3:Option LB} (h:c=true):Fi P tk (.pick X Y Z) ty [(.val (.bool c),b1),(d1,b2),(d2,b3)] [] (v0 d1):=by subst h; exact .pick
theorem xD {Z:Operand} {c:Bool} {d1 d2:DV} {b3:Option LB} (h:c=false):Fi P tk (.pick X Y Z) ty [(.val (.bool c),b1),(d1,b2),(d2,b3)] [] (v0 d2):=by subst h; exact .pick
theorem aCq {s:ByteArray} (h:P.underlying t=some .string):Fi P tk (.call ⟨.builtin .len,#[X],#[t]⟩) ty [(.val (.string s),b1)] [] (v0 (.val (.int .i64 (s.size:Int)))):=
 .callV1 (fun h=>Ih.2 (Pd ⟨by omega,by have:=Oa.1 h; unfold maxLen at this; omega⟩)) (xS h)
end
section
variable {P:Program} {tk:Nat} {t ty e sz bytes:Nat} {X Y:Operand} {b1 b2:Option LB} {α:Type} {f:α->List C} {l:List α} {n:Int} {k:IntKind} {j kr e':Nat} {x:α}
theorem aEj (h:Gl P t e sz bytes) (hf:∀ x,(f x).length=sz):Fi P tk (.call ⟨.builtin .len,#[X],#[t]⟩) ty [(.sl sz (Ak f l),b1)] [] (v0 (.val (.int .i64 (l.length:Int)))):=.len h.elem (.sl h.hsz (F2 hf l))
theorem aDo (h:Gl P t e sz bytes) (hf:∀ x,(f x).length=sz):Fi P tk (.call ⟨.builtin .len,#[X],#[t]⟩) ty [(.row kr,some (.row e' sz (Ak f l)))] [] (v0 (.val (.int .i64 (l.length:Int)))):=.len h.elem (.row h.hsz (F2 hf l))
theorem tF (h:Gl P t e sz bytes) (hf:∀ x,(f x).length=sz) (hj:n=(j:Int)) (hx:l[j]?=some x):Fi P tk (.indexAddr t X Y) ty [(.sl sz (Ak f l),b1),(.val (.int k n),b2)] [] (v0 (.elt ((Ak f l).drop (j * sz)))):=.idxS h hj (Mw hf hx)
theorem rR (h:Gl P t e sz bytes) (hf:∀ x,(f x).length=sz) (hj:n=(j:Int)) (hx:l[j]?=some x):Fi P tk (.indexAddr t X Y) ty [(.row kr,some (.row e' sz (Ak f l))),(.val (.int k n),b2)] [] (v0 (.ptr kr (j * sz))):=.idxR h hj (Mw hf hx)
theorem Yw {a m:Nat} {b1:Option LB} (h:Gl P t e sz bytes) (hj:n=(j:Int)) (hx:((l.drop a).take m)[j]?=some x):Fi P tk (.indexAddr t X Y) ty [(.part kr (a * sz) m,b1),(.val (.int k n),b2)] [] (v0 (.ptr kr ((a + j) * sz))):=by
 have hl:=(aDw.1 hx).1
 rw [aGn] at hl
 rw [aLf]
 exact .idxP h hj (by omega)
theorem Ow {a m:Nat} (hx:((l.drop a).take m)[j]?=some x):l[a + j]?=some x:=by
 rw [aH3] at hx
 split at hx
 ·rwa [aH7] at hx
 ·cases hx
theorem T7 {s g off ft sz':Nat} {ag:Bool} {cs:List C} {a:Nat} (h:Fd P s g off ft) (ht:Ty P ft ag sz') (hz:0 < sz') (hl:a + off < cs.length):Fi P tk (.fieldAddr s X g) ty [(.elt (cs.drop a),b1)] [] (v0 (.elt (cs.drop (a + off)))):=by
 have:=Fi.fieldE (P:=P) (tk:=tk) (x:=X) (ty:=ty) (b:=b1) h ht hz (cs:=cs.drop a) (by rw [aH1]; omega)
 rwa [aPz] at this
theorem Fr {sz' a:Nat} {cs:List C} {c:C} (ht:Ty P t false sz') (h:cs[a]?=some c):Fi P tk (.load t X) ty [(.elt (cs.drop a),b1)] [] (v0 (P3 c)):=.loadE1 ht (by rw [aH7]; exact h)
theorem Mn {m a:Nat} {cs cs2:List C} (ht:Ty P t true m) (h:(cs.drop a).take m=cs2) (hl:a + m<=cs.length):Fi P tk (.load t X) ty [(.elt (cs.drop a),b1)] [] (v0 (.agg (cs2.map P3))):=by
 subst h
 exact .loadEA ht (by rw [aH1]; omega)
theorem Va {m a s:Nat} {cs cs2:List C} (ht:Ty P t true m) (h:(cs.drop a).take m=cs2) (hl:a + m<=cs.length):Fi P tk (.load t X) ty [(.ptr kr a,some (.row e' s cs))] [] (v0 (.agg (cs2.map P3))):=by
 subst h
 exact .loadRA ht hl
theorem fW {i s:Nat} {cs cs' cs2:List C} {ag:Bool} {d:DV} {sz':Nat} {ck:List (Option Nat)} (ht:Ty P t ag sz') (hs:(Co d).length=sz') (hi:i + sz'<=cs.length) (hk:H1 P 20 t=ck) (hd:Gw ck (Co d) cs') (h:Cu cs i cs'=cs2):Fi P tk (.store t X Y) ty [(.ptr kr i,some (.row e' s cs)),(d,b2)] [kr] (nR kr (.row e' s cs2)):=by
 subst h
 exact .storeR ht hs hi hk hd
theorem J0 {d d':DV×Option LB} {l' l2:List α} {ks:List Nat} {kk:Nat} {cs cs':List C} (hS:Gl P t e sz bytes) (hf:∀ x,(f x).length=sz) (ht:wY d e sz cs ks) (hc:cs=Ak f l) (hs:bC d' sz cs') (hc':cs'=Ak f l') (h:Gs kk l l'=some l2) (hk:sz * bytes=kk):Fi P tk (.call ⟨.builtin .append,#[X,Y],#[t,t]⟩) ty [d,d'] ks (M3 tk (.row e sz (Ak f l2)) ks (.row tk)):=by
 subst hc hc'
 obtain⟨h1,rfl⟩:=bU h
 rw [Kb]
 refine .append hS ht hs ?_
 rw [F2 hf,F2 hf,<- aLf,Nat.mul_assoc,hk]
 exact h1
theorem mJ {ck:List (Option Nat)} {ds:List DV} {z:α} (h:Gw ck ds (f z)) (hk:ck.length=ds.length):∀ m,Gw (List.replicate m ck).flatten (List.replicate m ds).flatten (Ak f (List.replicate m z))
 | 0=>.nil
 | m + 1=>by
  have ih:=mJ h hk m
  rw [aLr,aLr,aLr,aOu,aOu]
  show Gw _ _ (f z ++ Ak f (List.replicate m z))
  have app:∀ {k1:List (Option Nat)} {d1:List DV} {c1:List C},Gw k1 d1 c1->k1.length=d1.length->∀ {k2 d2 c2},Gw k2 d2 c2->Gw (k1 ++ k2) (d1 ++ d2) (c1 ++ c2):=by
   intro k1 d1 c1 h1
   induction h1 with
   | @nil ks=>intro hl k2 d2 c2 h2; have:ks=[]:=aFc (by simpa using hl); subst this; exact h2
   | cons h hs ih=>intro hl k2 d2 c2 h2; exact .cons h (ih (by simpa using hl) h2)
  exact app h hk ih
theorem uN {z:List Value} {k':IntKind} {z0:α} {kk:Nat} {ck:List (Option Nat)} (hS:Gl P t e sz bytes) (hz:Zt P e z) (hk:H1 P 20 e=ck) (hd:Gw ck (z.map DV.val) (f z0)) (hl:ck.length=(z.map DV.val).length) (h:oL kk n z0=some l) (hkk:bytes=kk) (hxy:X=Y:=by rfl):Fi P tk (.makeSlice t X Y) ty [(.val (.int k n),b1),(.val (.int k' n),b2)] [] (M6 tk (.row e sz (Ak f l)) (.row tk)):=by
 obtain⟨m,rfl,h1,h2,rfl⟩:=oF h
 subst hkk
 exact .makeSl hS hz rfl ⟨h1,h2⟩ hk (mJ hd hl m) hxy
section
variable {lo hi:Operand} {a b:Int} {ka kb:IntKind} {b3:Option LB} {m:List α}
theorem oM (hS:Gl P t e sz bytes) (hf:∀ x,(f x).length=sz) (h:Xx l a (l.length:Int)=some m):Fi P tk (.slice t X (some lo) none none) ty [(.sl sz (Ak f l),b1),(.val (.int ka a),b2)] [] (v0 (.sl sz (Ak f m))):=by
 obtain⟨i,j,rfl,hj,h1,h2,rfl⟩:=Uy h
 have:j=l.length:=by omega
 subst this
 rw [<- Xw hf l i l.length h1 h2]
 exact .sliS hS (F2 hf l) ⟨⟨_,_,_,rfl,rfl⟩,rfl⟩ ⟨h1,h2⟩
theorem oC (hS:Gl P t e sz bytes) (hf:∀ x,(f x).length=sz) (h:Xx l 0 b=some m):Fi P tk (.slice t X none (some hi) none) ty [(.sl sz (Ak f l),b1),(.val (.int kb b),b2)] [] (v0 (.sl sz (Ak f m))):=by
 obtain⟨i,j,hi',rfl,h1,h2,rfl⟩:=Uy h
 have:i=0:=by omega
 subst this
 rw [<- Xw hf l 0 j h1 h2]
 exact .sliS hS (F2 hf l) ⟨⟨_,_,_,rfl,rfl⟩,rfl⟩ ⟨h1,h2⟩
end
theorem xR {src dst:TypeId} {s:ByteArray} (hs:P.underlying src=some .string) (hd:P.underlying dst=some (.slice e)) (he:P.underlying e=some (.int .u8)):Fi P tk (.convert src dst X) ty [(.val (.string s),b1)] [] (v0 (.sl 1 (Ak e8 (K0 s)))):=by
 have:=Fi.convB (P:=P) (tk:=tk) (x:=X) (ty:=ty) (b:=b1) (s:=s) hs hd he
 rw [<- aFu] at this
 exact this
end
theorem Cv.frzE {σ:St} {θ:Nat->Option Nat} {j e sz:Nat} {cs:List C} (h:σ.L j=some (.row e sz cs)) (h':(match σ.L j with | some _=>true | none=>false)=true) (hn:∀ k,θ k≠some j):Cv σ θ (.row j) (.sl sz cs):=.frz h hn
end Go.Proofs.YtkioneinddihlaaGreat
namespace Go.Proofs.YtkioneinddihlaaGreat
open Go.RowKit
mutual
theorem mO (f:Nat->Nat):∀ d,Hq d=[]->Ki f d=d
 | .row _,h=>by simp [Hq] at h
 | .part _ _ _,h=>by simp [Hq] at h
 | .ptr _ _,h=>by simp [Hq] at h
 | .nst _ _ _,h=>by simp [Hq] at h
 | .npt _ _ _ _,h=>by simp [Hq] at h
 | .val _,_=>rfl
 | .sl _ _,_=>rfl
 | .slc _ _,_=>rfl
 | .mp _,_=>rfl
 | .elt _,_=>rfl
 | .agg ds,h=>by unfold Hq at h; unfold Ki; rw [Po f ds h]
 | .tup ds,h=>by unfold Hq at h; unfold Ki; rw [Po f ds h]
 | .clo _ _ ds,h=>by unfold Hq at h; unfold Ki; rw [Po f ds h]
theorem Po (f:Nat->Nat):∀ ds,L5 ds=[]->M0 f ds=ds
 | [],_=>rfl
 | d :: ds,h=>by
  unfold L5 at h
  have h1:=List.append_eq_nil_iff.1 h
  unfold M0
  rw [mO f d h1.1,Po f ds h1.2]
end
def Xg:LB->List Nat
 | .box ds _=>L5 ds
 | .row ..=>[]
 | .map _=>[]
 | .mit k _ _=>[k]
 | .vec ds _=>L5 ds
 | .tree _ _ _ _ _ s _ _=>[s]
 | .gho=>[]
theorem xK (f:Nat->Nat) {lb:LB} (h:Xg lb=[]):kN f lb=lb:=by
 cases lb with
 | box ds ty=>
  show LB.box (M0 f ds) ty=_
  rw [Po f ds h]
 | row=>rfl
 | map=>rfl
 | mit=>cases h
 | tree=>cases h
 | gho=>rfl
 | vec ds e=>
  show LB.vec (M0 f ds) e=_
  rw [Po f ds h]
def Ym (ps gs:List Nat) (r:DV) (bx:List LB):Lz:=⟨some r,fun k=>match E5 (ps.zip bx) k with | some lb=>some (some lb) | none=>bif gs.any (Nat.beq k) then some none else none⟩
theorem gH {ps:List Nat} {tk:Nat}:∀ {l:List Nat} {b:List LB} {i:Nat},(∀ j,l[j]?=ps[i + j]?)->b.length=l.length->(∀ lb∈b,Xg lb=[])->Uw ps tk i b=l.zip b
 | [],[],_,_,_,_=>rfl
 | x :: l,lb :: b,i,hl,hb,ht=>by
  unfold Uw
  have h0:=hl 0
  simp only [aQa] at h0
  have e1:Hv ps tk i=x:=by
   unfold Hv
   rw [<- h0]
   rfl
  rw [e1,xK _ (ht lb (aH6 ..)),gH (l:=l) (fun j=>by have:=hl (j + 1); rw [show i + 1 + j=i + (j + 1) by omega,<- this]; rfl) (by simpa using hb) fun lb h=>ht lb (aH0 _ h)]
  rfl
 | [],_ :: _,_,_,h,_=>by simp at h
 | _ :: _,[],_,_,h,_=>by simp at h
theorem eE {ps gs:List Nat} {tk:Nat} {r:DV} {b:List LB} (hr:Hq r=[]) (hl:b.length=ps.length) (hb:∀ lb∈b,Xg lb=[]):Rz ps gs tk r b=Ym ps gs r b:=by
 unfold Rz Ym
 rw [mO _ _ hr,gH (l:=ps) (fun j=>by rw [aI4]) hl hb]
 rfl
section
variable {P:Program} {cx:Cx} {ops:Array Oper} {Rt:Option (List Nat)} {nb i:Nat} {l:List Oper} {lg:fT} {σ:St} {Q:St->Prop} {fz:List Nat}
theorem Zu {dst:Option Tmp} {f:FuncId} {xs:Array Operand} {tys:Array TypeId} {ty:TypeId} {pos:String} {af:Array Edge} {g:Option (Nat×Bool)} {dsA:List (DV×Option LB)} {rd ps gs:List Nat} {args:List DV} {bx:List LB} {d:DV} {b:List LB} (fl:Bool)
  (G:I7 ops σ ⟨dst,.call ⟨.value (.func f),xs,tys⟩,ty,pos,af,g⟩=some true)
  (hF:Fn P f ps.length args bx (fun d' b'=>d'=d/\b'=b)) (hds:Ef σ true xs.toList=some dsA) (hrd:M9 σ 3 (Oe dsA)=rd) (hA:Of fl (ps ++ gs) (Kj σ rd) (dsA.map (·.1)) args) (hB:Xz fl (ps ++ gs) (Kj σ rd) (ps ++ gs) bx) (hnd:Pl cx.np ps gs=true) (hfl:fl=true->Kn d/\∀ lb∈b,Qw lb)
  (hok:Ju Rt i true (nb + 8 * i) rd (ps ++ gs) lg=true) (hr:Hq d=[]) (hl:b.length=ps.length) (hb:b.flatMap Xg=[])
  (k:Chain (Dx P cx fz) ops Rt nb (idx (i + 1) l) ((i,true,nb + 8 * i,rd,ps ++ gs) :: lg) (σ.app dst (Ym ps gs d b)) Q) :
  Chain (Dx P cx fz) ops Rt nb (idx i (⟨dst,.call ⟨.value (.func f),xs,tys⟩,ty,pos,af,g⟩ :: l)) lg σ Q:=by
 refine R7 fl G hF hds hrd hA hB hnd (fun h r b=>?_) hok (fun _=>⟨_,_,⟨rfl,rfl⟩,by omega,by omega⟩) fun r b=>?_
 ·rintro⟨rfl,rfl⟩; exact hfl h
 ·rintro⟨rfl,rfl⟩
  rw [eE hr hl fun lb h=>?_]
  ·exact k
  ·have:=aPr.1 hb lb h
   exact this
theorem Pw {dst:Option Tmp} {t:Tmp} {f:FuncId} {q:Option LB} {xs:Array Operand} {tys:Array TypeId} {ty:TypeId} {pos:String} {af:Array Edge} {g:Option (Nat×Bool)} {dsA:List (DV×Option LB)} {rd ps gs:List Nat} {args:List DV} {bx:List LB} {d:DV} {b:List LB} (fl:Bool)
  (G:I7 ops σ ⟨dst,.call ⟨.value (.tmp t),xs,tys⟩,ty,pos,af,g⟩=some true) (hc:ev σ true (.tmp t)=some (.val (.func (.func f) #[] #[]),q))
  (hF:Fn P f ps.length args bx (fun d' b'=>d'=d/\b'=b)) (hds:Ef σ true xs.toList=some dsA) (hrd:M9 σ 3 (Oe dsA)=rd) (hA:Of fl (ps ++ gs) (Kj σ rd) (dsA.map (·.1)) args) (hB:Xz fl (ps ++ gs) (Kj σ rd) (ps ++ gs) bx) (hnd:Pl cx.np ps gs=true) (hfl:fl=true->Kn d/\∀ lb∈b,Qw lb)
  (hok:Ju Rt i true (nb + 8 * i) rd (ps ++ gs) lg=true) (hr:Hq d=[]) (hl:b.length=ps.length) (hb:b.flatMap Xg=[])
  (k:Chain (Dx P cx fz) ops Rt nb (idx (i + 1) l) ((i,true,nb + 8 * i,rd,ps ++ gs) :: lg) (σ.app dst (Ym ps gs d b)) Q) :
  Chain (Dx P cx fz) ops Rt nb (idx i (⟨dst,.call ⟨.value (.tmp t),xs,tys⟩,ty,pos,af,g⟩ :: l)) lg σ Q:=by
 refine qP fl G hc hF hds hrd hA hB hnd (fun h r b=>?_) hok (fun _=>⟨_,_,⟨rfl,rfl⟩,by omega,by omega⟩) fun r b=>?_
 ·rintro⟨rfl,rfl⟩; exact hfl h
 ·rintro⟨rfl,rfl⟩
  rw [eE hr hl fun lb h=>?_]
  ·exact k
  ·have:=aPr.1 hb lb h
   exact this
theorem E0 {dst:Option Tmp} {t:Tmp} {f:FuncId} {n:Nat} {cs:List DV} {q:Option LB} {xs:Array Operand} {tys:Array TypeId} {ty:TypeId} {pos:String} {af:Array Edge} {g:Option (Nat×Bool)} {dsA:List (DV×Option LB)} {rd ps gs:List Nat} {args:List DV} {bx:List LB} {d:DV} {b:List LB} (fl:Bool)
  (G:I7 ops σ ⟨dst,.call ⟨.value (.tmp t),xs,tys⟩,ty,pos,af,g⟩=some true) (hc:ev σ true (.tmp t)=some (.clo f n cs,q))
  (hF:Fn P f ps.length args bx (fun d' b'=>d'=d/\b'=b)) (hds:Ef σ true xs.toList=some dsA) (hrd:M9 σ 3 (L5 cs ++ Oe dsA)=rd) (hA:Of fl (ps ++ gs) (Kj σ rd) (cs.take n ++ (dsA.map (·.1) ++ cs.drop n)) args) (hB:Xz fl (ps ++ gs) (Kj σ rd) (ps ++ gs) bx) (hnd:Pl cx.np ps gs=true) (hfl:fl=true->Kn d/\∀ lb∈b,Qw lb)
  (hok:Ju Rt i true (nb + 8 * i) rd (ps ++ gs) lg=true) (hr:Hq d=[]) (hl:b.length=ps.length) (hb:b.flatMap Xg=[])
  (k:Chain (Dx P cx fz) ops Rt nb (idx (i + 1) l) ((i,true,nb + 8 * i,rd,ps ++ gs) :: lg) (σ.app dst (Ym ps gs d b)) Q) :
  Chain (Dx P cx fz) ops Rt nb (idx i (⟨dst,.call ⟨.value (.tmp t),xs,tys⟩,ty,pos,af,g⟩ :: l)) lg σ Q:=by
 refine rZ fl G hc hF hds hrd hA hB hnd (fun h r b=>?_) hok (fun _=>⟨_,_,⟨rfl,rfl⟩,by omega,by omega⟩) fun r b=>?_
 ·rintro⟨rfl,rfl⟩; exact hfl h
 ·rintro⟨rfl,rfl⟩
  rw [eE hr hl fun lb h=>?_]
  ·exact k
  ·have:=aPr.1 hb lb h
   exact this
end
section
variable {P:Program} {tk:Nat} {t ty yt:TypeId} {X Y:Operand} {b1 b2:Option LB} {k k':IntKind} {x y:Int}
theorem R4 (k:IntKind) (z:Int):E4 (.int k (k.wrap z))=true:=by
 rw [Ih]
 cases k <;> simp [IntKind.wrap,IntKind.bits,IntKind.signed,IntKind.min,IntKind.max] <;> (try split) <;> omega
theorem aC2:Fi P tk (.binOp .sub t X Y yt) ty [(.val (.int k x),b1),(.val (.int k y),b2)] [] (v0 (.val (.int k (k.wrap (x - y))))):=.binOp (fun _ _=>R4 _ _) lZ
theorem aB0:Fi P tk (.binOp .mul t X Y yt) ty [(.val (.int k x),b1),(.val (.int k y),b2)] [] (v0 (.val (.int k (k.wrap (x * y))))):=.binOp (fun _ _=>R4 _ _) nE
theorem aC4:Fi P tk (.binOp .and t X Y yt) ty [(.val (.int k x),b1),(.val (.int k y),b2)] [] (v0 (.val (.int k (nP k x y)))):=.binOp (fun _ _=>R4 _ _) (fun w=>by simp [eqGuard,binOp,Op.intBits,nP])
theorem aBr:Fi P tk (.binOp .xor t X Y yt) ty [(.val (.int k x),b1),(.val (.int k y),b2)] [] (v0 (.val (.int k (Qj k x y)))):=.binOp (fun _ _=>R4 _ _) (fun w=>by simp [eqGuard,binOp,Op.intBits,Qj])
theorem wB (k:IntKind):k.min<=0/\0<=k.max:=by cases k <;> decide
theorem gX {x d:Int} (hx:x<=0) (hd:0 < d):x / d<=0:=by
 rcases Int.lt_trichotomy (x / d) 0 with h | h | h
 ·omega
 ·omega
 ·exfalso
  have h1:=Int.mul_ediv_add_emod x d
  have h2:=Int.emod_nonneg x (show d≠0 by omega)
  have h3:d * 1<=d * (x / d):=Int.mul_le_mul_of_nonneg_left (by omega) (by omega)
  omega
theorem dG {z:Int} (h:S0 k x y=some z):Fi P tk (.binOp .shr t X Y yt) ty [(.val (.int k x),b1),(.val (.int k' y),b2)] [] (v0 (.val (.int k z))):=by
 obtain⟨h0,rfl⟩:=nY h
 refine .binOp (fun hx _=>?_) (fun w=>by simp [eqGuard,binOp,Op.shift,h0])
 rw [Ih] at hx ⊢
 have hm:=wB k
 have hd:(0:Int) < 2 ^ min y.toNat k.bits:=Int.pow_pos (by omega)
 generalize (2:Int) ^ min y.toNat k.bits=d at hd
 rw [aPi _ (Int.le_of_lt hd)]
 rcases Int.le_total 0 x with hx0 | hx0
 ·have h1:=Int.ediv_nonneg hx0 (Int.le_of_lt hd)
  have h2:=Int.ediv_le_self d hx0
  omega
 ·have h1:x<=x / d:=by
   have:=Int.mul_ediv_add_emod x d
   have h3:=Int.emod_nonneg x (show d≠0 by omega)
   have h4:x / d<=0:=gX hx0 hd
   have h5:d * (x / d)<=1 * (x / d):=Int.mul_le_mul_of_nonpos_right (by omega) h4
   have h6:=Int.emod_lt_of_pos x hd
   by_cases h7:x / d=0
   ·omega
   ·have h8:x / d<=-1:=by omega
    have h9:(d - 1) * (x / d)<=(d - 1) * (-1):=Int.mul_le_mul_of_nonneg_left h8 (by omega)
    have h10:d * (x / d)=(d - 1) * (x / d) + x / d:=by rw [Int.sub_mul,Int.one_mul]; omega
    omega
  have h2:x / d<=0:=gX hx0 hd
  omega
theorem aAq {z:Int} (h:bG k x y=some z):Fi P tk (.binOp .shl t X Y yt) ty [(.val (.int k x),b1),(.val (.int k' y),b2)] [] (v0 (.val (.int k z))):=by
 obtain⟨h0,rfl⟩:=nX h
 exact .binOp (fun _ _=>R4 _ _) (fun w=>by simp [eqGuard,binOp,Op.shift,h0])
theorem wO {src dst:TypeId} (hs:P.underlying src=some (.int k)) (hd:P.underlying dst=some (.int k')):Fi P tk (.convert src dst X) ty [(.val (.int k x),b1)] [] (v0 (.val (.int k' (k'.wrap x)))):=
 .conv (by unfold mB; rw [hs]) (by unfold mB; rw [hd]) (fun _=>R4 _ _) (dY (by rw [hs]; rfl) hd)
theorem rM {s:ByteArray} {u:UInt8} (ht:P.underlying t=some .string) (h:idxT s x=some u):Fi P tk (.index t X Y) ty [(.val (.string s),b1),(.val (.int k x),b2)] [] (v0 (.val (.int .u8 (u.toNat:Int)))):=by
 unfold idxT at h
 split at h
 ·cases h
 ·rename_i h0
  have h1:0<=x:=by omega
  have hlt:=(aHe.1 h).1
  have hs:s[x.toNat]?=some u:=by
   have hlt':x.toNat < s.size:=hlt
   rw [getElem?_pos s x.toNat hlt']
   have:=(aHe.1 h).2
   exact congrArg some this
  exact .indexS (fun _ _=>ok8 _) (fun w=>by simp [Instr.index,asIntOf,run_underlying ht,h1,hs])
theorem aAp {a b:ByteArray}:Fi P tk (.binOp .geq t X Y yt) ty [(.val (.string a),b1),(.val (.string b),b2)] [] (v0 (.val (.bool (!fS (K0 a) (K0 b))))):=.binOp (fun _ _=>rfl) (fun w=>by
 simp [eqGuard,binOp,Op.stringOp,tY,ByteArray.toList_eq,K0])
end
section
variable {α:Type} {f:α->List C} {sz:Nat}
theorem mT (hf:∀ x,(f x).length=sz) {l:List α} {i n:Nat} (h:i + n<=l.length):i * sz + n * sz<=(Ak f l).length:=by
 rw [F2 hf,<- aLf]
 exact aIw _ h
theorem kX (hf:∀ x,(f x).length=sz) (h0:0 < sz) {l:List α} (h:Ak f l=[]):l=[]:=by
 have:=F2 hf l
 rw [h] at this
 rcases aPo.1 this.symm with h1 | h1
 ·exact aFc h1
 ·omega
end
section
variable {P:Program} {tk:Nat} {t ty e sz bytes:Nat} {X Y:Operand} {b1 b2 b3:Option LB} {α:Type} {f:α->List C} {l m:List α} {n:Int} {k ka kb:IntKind} {j kr e':Nat} {x:α} {lo hi:Operand} {a b:Int}
theorem oE (hS:Gl P t e sz bytes) (hf:∀ x,(f x).length=sz) (h:Xx l a (l.length:Int)=some m):Fi P tk (.slice t X (some lo) none none) ty [(.row kr,some (.row e' sz (Ak f l))),(.val (.int ka a),b2)] [] (v0 (.part kr (a.toNat * sz) ((l.length:Int).toNat - a.toNat))):=by
 obtain⟨i,j,rfl,hj,h1,h2,rfl⟩:=Uy h
 have:j=l.length:=by omega
 subst this
 exact .sliR hS (F2 hf l) ⟨⟨_,_,_,rfl,rfl⟩,rfl⟩ ⟨h1,h2⟩
theorem bW (hS:Gl P t e sz bytes) (hf:∀ x,(f x).length=sz) (h:Xx l 0 b=some m):Fi P tk (.slice t X none (some hi) none) ty [(.row kr,some (.row e' sz (Ak f l))),(.val (.int kb b),b3)] [] (v0 (.part kr ((0:Int).toNat * sz) (b.toNat - (0:Int).toNat))):=by
 obtain⟨i,j,hi',rfl,h1,h2,rfl⟩:=Uy h
 have:i=0:=by omega
 subst this
 have e0:(0:Int).toNat * sz=0 * sz:=rfl
 exact .sliR hS (F2 hf l) ⟨⟨_,_,_,rfl,rfl⟩,rfl⟩ ⟨h1,h2⟩
theorem Yf {sz:Nat}:∀ (ds:List DV) (k:Nat) (pre rest:List DV),pre.length=k * sz->rest.length=ds.length * sz->(∀ d∈ds,(Co d).length=sz)->Gt (fun i=>some (i * sz,sz)) (pre ++ rest) ((List.range' k ds.length).zip ds)=some (pre ++ ds.flatMap Co)
 | [],k,pre,rest,_,hr,_=>by
  have:rest=[]:=aFc (by simpa using hr)
  subst this
  simp [Gt]
 | d :: ds,k,pre,rest,hp,hr,hd=>by
  have h0:=hd d (aH6 ..)
  have hr':rest.length=ds.length * sz + sz:=by rw [hr,aIx,aLf,aO4]
  rw [aIx,List.range'_succ,List.zip_cons_cons]
  unfold Gt
  simp only []
  have c1:Nat.beq (Co d).length sz=true:=by rw [h0]; exact aOy _
  have c2:Nat.ble (k * sz + sz) (pre ++ rest).length=true:=aNs (by rw [aEq,hp,hr']; omega)
  rw [c1,c2]
  simp only [Bool.and_self,aEw]
  have e1:Cu (pre ++ rest) (k * sz) (Co d)=(pre ++ Co d) ++ rest.drop sz:=by
   unfold Cu
   rw [h0,<- hp,List.take_left,<- aPz,List.drop_left,aJb]
  rw [e1,Yf ds (k + 1) (pre ++ Co d) (rest.drop sz) (by rw [aEq,hp,h0,aLf,aO4]) (by rw [aH1,hr']; omega) fun x hx=>hd x (aH0 _ hx)]
  rw [aNa,aJb]
theorem G5 {len:Nat} {parts:Array (Nat×Operand)} {ds:List (DV×Option LB)} {z:List Value} {cs:List C} {ck:List (Option Nat)} (hS:Gl P t e sz bytes) (hz:Zt P e z) (hlen:len * sz<=16777216) (hp:parts.toList.map (·.1)=List.range' 0 len) (hzl:z.length=sz) (hn:ds.length=len) (hs:ds.all (fun q=>Nat.beq (Co q.1).length sz)=true) (hk:H1 P 20 e=ck) (hc:Gw (List.replicate len ck).flatten (ds.flatMap fun q=>Co q.1) cs) (ho:ds.all (fun q=>(Co q.1).all Tv)=true) (h:Ak f l=cs):Fi P tk (.buildSlice t len parts) ty ds [] (M6 tk (.row e sz (Ak f l)) (.row tk)):=by
 subst h
 refine .buildSl hS hz hlen ?_ hk hc ho
 have hd:=Yf (sz:=sz) (ds.map (·.1)) 0 [] ((List.replicate len (z.map DV.val)).flatten) (by simp) (by simp [hzl,hn]) fun d hd=>by
  obtain⟨q,hq,rfl⟩:=aIk.1 hd
  exact aEr (aHf.1 hs q hq)
 rw [aOl,aOl,aPf,hn] at hd
 rw [hp,hd]
 congr 1
 rw [List.flatMap_map]
theorem sQ {i bt sz':Nat} {ds ds':List DV} {ag:Bool} {d:DV} {kk:Nat} (ht:Ty P t ag sz') (hs:(Co d).length=sz') (hi:i + sz'<=ds.length) (ho:(Co d).all Tv=true) (h:Cu ds i (Co d)=ds'):Fi P tk (.store t X Y) ty [(.ptr kk i,some (.box ds bt)),(d,b2)] [kk] (nR kk (.box ds' bt)):=by
 subst h
 exact .storeB ht hs hi ho
theorem bX {tk2:Nat} {m':Nat} {ds:List DV} {L:List α} (ht:P.underlying t=some (.array m' e)) (he:Ty P e true sz) (hf:∀ x,(f x).length=sz) (hds:ds=(Ak f L).map P3) (hL:L.length=m') (hx:Bo L n=some x) {d2:List DV} (h2:(f x).map P3=d2):Fi P tk2 (.index t X Y) ty [(.agg ds,b1),(.val (.int k n),b2)] [] (v0 (.agg d2)):=by
 have hx':=Cc hx
 refine .indexAA ht he (H6 hx) (by rw [<- hL]; exact (aDw.1 hx').1) ?_
 rw [hds,<- List.map_drop,<- List.map_take,<- h2]
 congr 1
 exact Iy hf hx' (o:=0) (by rw [aPx]; exact aHx (aO0 (hf _))) (by omega) rfl
end
def eA {α:Type} [Inhabited α] (n:Nat) (f:α->List C) (x:List α):List C:=(List.range n).flatMap fun i=>f (x[i]!)
theorem aDj {α:Type} [Inhabited α] {n sz:Nat} {f:α->List C} (hf:∀ x,(f x).length=sz) (x:List α):(eA n f x).length=n * sz:=by
 unfold eA
 induction n with
 | zero=>simp
 | succ n ih=>rw [aMc,aP8,aEq,ih,aNa,aPm,aMl,hf,aLf,aO4]
class qF (p:Prop) (q:outParam Prop):Prop where
 go:q->p
theorem st_ {p q:Prop} [s:qF p q] (h:q):p:=s.go h
section
variable {next:St->Prop} {Q:Exit->St->Prop} {i:Nat} {σ:St}
instance:qF (vG next Q .normal σ) (next σ):=⟨fun h=>h⟩
instance:qF (vG next Q (.exit i) σ) (Q (.exit i) σ):=⟨fun h=>h⟩
instance:qF (vG next Q .ret σ) (Q .ret σ):=⟨fun h=>h⟩
instance:qF (zQ i Q (.exit i) σ) (Q .normal σ):=⟨fun h=>rP h⟩
instance:qF (zQ i Q .normal σ) (Q .normal σ):=⟨fun h=>h⟩
instance:qF (zQ i Q .ret σ) (Q .ret σ):=⟨fun h=>h⟩
instance:qF (noG Q .normal σ) (Q .normal σ):=⟨fun h=>h⟩
instance:qF (noG Q (.exit i) σ) (Q (.exit i) σ):=⟨fun h=>h⟩
instance:qF (noG Q .ret σ) (Q .ret σ):=⟨fun h=>h⟩
end
class nT (p:Prop) (q:outParam Prop):Prop where
 go:q->p
instance (priority:=low) stpN_nil (p:Prop):nT p p:=⟨fun h=>h⟩
instance aEo {p p' q:Prop} [s:qF p p'] [t:nT p' q]:nT p q:=⟨fun h=>s.go (t.go h)⟩
theorem yI {P:Program} {cx:Cx} {Q:Exit->St->Prop} {σ:St} {q:Prop} [s:nT (Q .ret σ) q] (h:q):N1 P cx .ret Q σ:=fO (s.go h)
theorem sn_ {Q:Exit->St->Prop} {i j:Nat} {σ:St} (h:Q (.exit j) σ) (hne:j≠i:=by decide):zQ i Q (.exit j) σ:=pO hne h
theorem Xs {P:Program} {cx:Cx} {id:Nat} {l:List Oper} {σ:St} {y:Code} {Q:Exit->St->Prop} (nb nb':Nat) (B:∀ k,nb<=k->σ.U k=false)
  (h:Chain (Dx P cx []) l.toArray none nb (idx 0 l) [] σ (fun σ'=>(∀ j,nb'<=j->σ'.U j=false)->vG (N1 P cx y Q) Q .normal σ')) (hn:Nat.ble (nb + 8 * l.length) nb'=true:=by rfl) (hd:dO cx.N l=true:=by rfl):N1 P cx (.seq (.region id l.toArray false) y) Q σ:=
 A8 (Cn (Dx _ _ []) nb nb' B hn hd h)
section
variable {P:Program} {cx:Cx} {ops:Array Oper} {Rt:Option (List Nat)} {nb i:Nat} {l:List Oper} {lg:fT} {σ:St} {Q:St->Prop} {fz:List Nat}
theorem vO {Q:Exit->St->Prop} {nb':Nat} {q:Prop} [s:nT (Q .normal σ) q] (h:(∀ j,nb'<=j->σ.U j=false)->q):Chain (Dx P cx fz) ops Rt nb (idx i []) lg σ (fun σ'=>(∀ j,nb'<=j->σ'.U j=false)->Q .normal σ'):=aJy fun B=>s.go (h B)
theorem Fw {dst:Option Tmp} {op:Op} {ty:TypeId} {pos:String} {af:Array Edge} {g:Option (Nat×Bool)} {ds:List (DV×Option LB)} {wr:List Nat} {e:Lz} (G:I7 ops σ ⟨dst,op,ty,pos,af,g⟩=some true) (hds:Ef σ (Jc op) op.operands.toList=some ds) (h:Fi P (nb + 8 * i) op ty ds wr e)
  (hrd:(bif Jc op then Kk (K3 op) ds else [])=[]) (hok:Ju Rt i false (nb + 8 * i) [] wr lg=true) (k:Chain (Dx P cx fz) ops Rt nb (idx (i + 1) l) ((i,false,nb + 8 * i,[],wr) :: lg) (σ.app dst e) Q) (hz:zM fz (nb + 8 * i)=0:=by rfl) (hap:M1 cx.np op wr=true:=by rfl) :
  Chain (Dx P cx fz) ops Rt nb (idx i (⟨dst,op,ty,pos,af,g⟩ :: l)) lg σ Q:=Ik (rd:=[]) G hds h hrd hok k hz hap
end
end Go.Proofs.YtkioneinddihlaaGreat
namespace Go.Proofs.YtkioneinddihlaaGreat
open Go.RowKit
theorem U0:∀ {d:DV} {k:Nat},men d k->k∈Hq d
 | .row _,k,h=>by simpa [Hq,men] using h
 | .part _ _ _,k,h=>by simpa [Hq,men] using h
 | .ptr _ _,k,h=>by simpa [Hq,men] using h
 | .nst _ _ _,k,h=>by simpa [Hq,men] using h
 | .npt _ _ _ _,k,h=>by simpa [Hq,men] using h
 | .agg ds,k,h=>by unfold men at h; unfold Hq; exact menL_dtoks h
 | .tup ds,k,h=>by unfold men at h; unfold Hq; exact menL_dtoks h
 | .clo _ _ ds,k,h=>by unfold men at h; unfold Hq; exact menL_dtoks h
 | .val _,k,h=>by unfold men at h; exact h.elim
 | .sl _ _,k,h=>by unfold men at h; exact h.elim
 | .slc _ _,k,h=>by unfold men at h; exact h.elim
 | .mp _,k,h=>by unfold men at h; exact h.elim
 | .elt _,k,h=>by unfold men at h; exact h.elim
where
 menL_dtoks:∀ {ds:List DV} {k:Nat},Ft ds k->k∈L5 ds
 | [],k,h=>by unfold Ft at h; exact h.elim
 | d :: ds,k,h=>by
  unfold Ft at h
  unfold L5
  rcases h with h | h
  ·exact aJt _ (U0 h)
  ·exact aKt _ (menL_dtoks h)
theorem P4.cut {cx:Cx} {σ σ':St} {t k n e sz:Nat} {cs:List C} (hk:cx.np<=k) (hF:σ.F t=some (.part k 0 n)) (hL:σ.L k=some (.row e sz cs)) (hn:n * sz<=cs.length)
  (hF':∀ s d,σ'.F s=some d->(d=.row k/\s=t)\/(σ.F s=some d/\¬ men d k)) (hL':∀ j lb,σ'.L j=some lb->(j=k/\lb=.row e sz (cs.take (n * sz)))\/(j≠k/\σ.L j=some lb/\¬ Oj lb k)) (B:∀ j,σ'.U j=σ.U j):P4 cx σ σ':=by
 rintro a w ⟨ρ,h⟩
 obtain⟨N,us,q1,q0,q2⟩:=h.lo _ _ hL
 have hr:=h.fr _ _ hF
 unfold Cp at hr
 obtain⟨A,c,hv,hnc,hc,hA,hB⟩:=hr
 have hlen:n * sz<=us.length:=by rw [<- q2.1]; exact hn
 have hblk:∀ b,Dd (a.tmps.getD t undef)=some b->Dd (ρ k)=some b:=fun b hb=>by
  rcases q1.2 with ⟨A',e,-⟩ | ⟨g',cap,cur,e,r1,-⟩
  ·obtain⟨t1,t2⟩:=hB rfl _ _ _ e
   rw [hv,t2] at hb
   cases A <;> cases hb
  ·obtain⟨t1,t2⟩:=hB rfl _ _ _ e
   rw [hv,t1] at hb
   rw [e,G8 r1,(E7 hb).1]
 have hown:w.rowOk e sz (a.tmps.getD t undef) n (us.take (n * sz)):=by
  refine⟨by rw [aGn]; omega,?_⟩
  rcases q1.2 with ⟨A',e,q3⟩ | ⟨g,cap,cur,e,r1,r2,r3,r4,r5,r6⟩
  ·obtain⟨t1,t2⟩:=hB rfl _ _ _ e
   refine .inl ⟨A',by rw [hv,t1,t2]; congr 1; omega,by omega⟩
  ·obtain⟨t1,t2⟩:=hB rfl _ _ _ e
   refine .inr ⟨g,cap,cur,by rw [hv,t1,t2],r1,r2,by omega,r4,r5,?_⟩
   have hle:n * sz<=N * sz:=by rw [<- q1.1]; exact hlen
   rw [<- r6,aPy,aPc hle]
 let ρ':Nat->Value:=fun j=>if j=k then a.tmps.getD t undef else ρ j
 have hk':ρ' k=a.tmps.getD t undef:=if_pos rfl
 have ho:∀ j,j≠k->ρ' j=ρ j:=fun j hj=>if_neg hj
 have loc:∀ j lb b,σ'.L j=some lb->own ρ' (ρ' j) lb b->∃ lb',σ.L j=some lb'/\own ρ (ρ j) lb' b:=fun j lb b hj hb=>by
  rcases hL' j lb hj with ⟨rfl,rfl⟩ | ⟨hne,h1,h2⟩
  ·rw [hk'] at hb; exact⟨_,hL,hblk b hb⟩
  ·rw [ho j hne] at hb; exact⟨_,h1,Rv (fun q hq=>(ho q fun e=>h2 (e ▸ hq)).symm) hb⟩
 have hI:∀ b,K5 cx σ ρ w b->K5 cx σ' ρ' w b/\w.heap[b]?=w.heap[b]?:=fun b hb=>by
  refine⟨⟨hb.1,fun hl=>?_,hb.2.2⟩,rfl⟩
  obtain⟨j,lb,h1,h2⟩:=hl
  obtain⟨lb',h3,h4⟩:=loc j lb b h1 h2
  exact hb.2.1 ⟨j,lb',h3,h4⟩
 refine⟨ρ',⟨h.defers,h.size,h.kept,fun s d hs=>?_,fun j lb hj=>?_,fun j j' lb lb' b h1 h2 h3 h4=>?_,fun s d j hs hm=>?_,fun j lb hj=>?_,fun j hj=>?_,fun j lb b hj hp hb=>?_⟩⟩
 ·rcases hF' s d hs with ⟨rfl,rfl⟩ | ⟨h1,h2⟩
  ·unfold Cp
   rw [hk']
   refine⟨rfl,?_⟩
   rw [hv]; rfl
  ·exact Cp.step hI d _ (fun j hj=>ho j fun e=>h2 (e ▸ hj)) (h.fr _ _ h1)
 ·rcases hL' j lb hj with ⟨rfl,rfl⟩ | ⟨hne,h1,h2⟩
  ·rw [hk']
   refine⟨n,us.take (n * sz),hown,fun b hb=>q0 b (hblk b hb),?_⟩
   refine Fl.keep_ (w:=w) ⟨by rw [aGn,aGn,q2.1],fun j c u a b=>?_⟩ (fun b hb=>rfl) fun b hb=>(hI b hb).1
   rw [aH3] at a b
   split at a
   ·rename_i hj
    rw [if_pos hj] at b
    exact q2.2 j c u a b
   ·cases a
  ·rw [ho j hne]
   exact (h.lo _ _ h1).step hI (fun j' hj'=>ho j' fun e=>h2 (e ▸ hj')) fun b _=>rfl
 ·obtain⟨_,e1,e2⟩:=loc _ _ _ h1 h3
  obtain⟨_,e3,e4⟩:=loc _ _ _ h2 h4
  exact h.sep _ _ _ _ _ e1 e3 e2 e4
 ·rw [B]
  rcases hF' s d hs with ⟨rfl,rfl⟩ | ⟨h1,h2⟩
  ·unfold men at hm
   subst hm
   exact (h.usedL _ _ hL).1
  ·exact h.usedF _ _ _ h1 hm
 ·rw [B]
  rcases hL' j lb hj with ⟨rfl,rfl⟩ | ⟨hne,h1,h2⟩
  ·exact⟨(h.usedL _ _ hL).1,fun k' hm=>hm.elim⟩
  ·exact⟨(h.usedL _ _ h1).1,fun k' hm=>by rw [B]; exact (h.usedL _ _ h1).2 k' hm⟩
 ·rw [B]
  exact⟨(ho j (by omega)).trans (h.pin j hj).1,(h.pin j hj).2⟩
 ·obtain⟨_,e1,e2⟩:=loc _ _ _ hj hb
  exact h.fresh _ _ _ e1 hp e2
def oJ (t k:Nat):List (Nat×DV)->List (Nat×DV)
 | []=>[]
 | (s,d) :: l=>bif Nat.beq s t then (s,.row k) :: oJ t k l else (s,d) :: oJ t k l
def oB (k:Nat) (lb:LB):List (Nat×LB)->List (Nat×LB)
 | []=>[]
 | (j,b) :: l=>bif Nat.beq j k then (j,lb) :: oB k lb l else (j,b) :: oB k lb l
def aHh (t k:Nat) (fl:List (Nat×DV)) (ll:List (Nat×LB)):Bool:=
 fl.all (fun q=>Nat.beq q.1 t || !(Hq q.2).contains k) && ll.all (fun q=>Nat.beq q.1 k || !(Xg q.2).contains k)
theorem V3 {t k:Nat}:∀ {fl:List (Nat×DV)} {s:Nat} {d:DV},E5 (oJ t k fl) s=some d->(s=t/\d=.row k)\/(s≠t/\E5 fl s=some d)
 | [],s,d,h=>by simp [oJ,E5] at h
 | (s',d') :: l,s,d,h=>by
  unfold oJ at h
  cases hb:Nat.beq s' t with
  | true=>
   rw [hb] at h
   simp only [aEw] at h
   have e0:=aEr hb
   unfold E5 at h
   cases hs:Nat.beq s s' with
   | true=>
    rw [hs] at h
    have:=aEr hs
    injection h with h
    exact .inl ⟨by omega,h.symm⟩
   | false=>
    rw [hs] at h
    rcases V3 h with h | ⟨h1,h2⟩
    ·exact .inl h
    ·refine .inr ⟨h1,?_⟩
     unfold E5
     rw [hs]
     exact h2
  | false=>
   rw [hb] at h
   simp only [aD6] at h
   unfold E5 at h
   cases hs:Nat.beq s s' with
   | true=>
    rw [hs] at h
    have:=aEr hs
    refine .inr ⟨fun e=>?_,?_⟩
    ·subst this
     subst e
     rw [aOy] at hb
     cases hb
    ·unfold E5
     rw [hs]
     exact h
   | false=>
    rw [hs] at h
    rcases V3 h with h | ⟨h1,h2⟩
    ·exact .inl h
    ·refine .inr ⟨h1,?_⟩
     unfold E5
     rw [hs]
     exact h2
theorem Vq {k:Nat} {lb:LB}:∀ {ll:List (Nat×LB)} {j:Nat} {b:LB},E5 (oB k lb ll) j=some b->(j=k/\b=lb)\/(j≠k/\E5 ll j=some b)
 | [],s,d,h=>by simp [oB,E5] at h
 | (s',d') :: l,s,d,h=>by
  unfold oB at h
  cases hb:Nat.beq s' k with
  | true=>
   rw [hb] at h
   simp only [aEw] at h
   have e0:=aEr hb
   unfold E5 at h
   cases hs:Nat.beq s s' with
   | true=>
    rw [hs] at h
    have:=aEr hs
    injection h with h
    exact .inl ⟨by omega,h.symm⟩
   | false=>
    rw [hs] at h
    rcases Vq h with h | ⟨h1,h2⟩
    ·exact .inl h
    ·refine .inr ⟨h1,?_⟩
     unfold E5
     rw [hs]
     exact h2
  | false=>
   rw [hb] at h
   simp only [aD6] at h
   unfold E5 at h
   cases hs:Nat.beq s s' with
   | true=>
    rw [hs] at h
    have:=aEr hs
    refine .inr ⟨fun e=>?_,?_⟩
    ·subst this
     subst e
     rw [aOy] at hb
     cases hb
    ·unfold E5
     rw [hs]
     exact h
   | false=>
    rw [hs] at h
    rcases Vq h with h | ⟨h1,h2⟩
    ·exact .inl h
    ·refine .inr ⟨h1,?_⟩
     unfold E5
     rw [hs]
     exact h2
theorem pE {lb:LB} {k:Nat} (h:Oj lb k):k∈Xg lb:=by
 cases lb with
 | box ds ty=>unfold Xg; exact U0.menL_dtoks h
 | row=>exact h.elim
 | map=>exact h.elim
 | mit k' n s=>have h:k=k':=h; subst h; exact aEp.2 rfl
 | tree e sz o e2 sz2 s hh cs=>have h:k=s:=h; subst h; exact aEp.2 rfl
 | gho=>exact h.elim
 | vec ds e=>unfold Xg; exact U0.menL_dtoks h
theorem pX {α:Type} {f:α->List C} {sz:Nat} (hf:∀ x,(f x).length=sz) {l:List α} {n:Nat} (hn:n<=l.length):(Ak f l).take (n * sz)=Ak f (l.take n):=by
 have:=Xw hf l 0 n (aFf _) hn
 simpa using this
theorem aG7 {α:Type} {f:α->List C} {L:List α} {cx:Cx} {fl:List (Nat×DV)} {ll:List (Nat×LB)} {N:Nat} (t k:Nat) {n e sz:Nat} (hf:∀ x,(f x).length=sz) (hn:n<=L.length) (hF:E5 fl t=some (.part k 0 n)) (hL:E5 ll k=some (.row e sz (Ak f L)))
  (hk:Nat.ble cx.np k=true) (hc:aHh t k fl ll=true):P4 cx (mk fl ll N) (mk (oJ t k fl) (oB k (.row e sz (Ak f (L.take n))) ll) N):=by
 unfold aHh at hc
 rw [aEs,aHf,aHf] at hc
 refine P4.cut (t:=t) (k:=k) (n:=n) (e:=e) (sz:=sz) (cs:=Ak f L) (aEn hk) hF hL (by rw [F2 hf]; exact aIw _ hn) (fun s d hs=>?_) (fun j lb hj=>?_) fun _=>rfl
 ·rcases V3 hs with ⟨rfl,rfl⟩ | ⟨h1,h2⟩
  ·exact .inl ⟨rfl,rfl⟩
  ·refine .inr ⟨h2,fun hm=>?_⟩
   have:=hc.1 _ (F3 h2)
   rw [aKa] at this
   rcases this with h | h
   ·exact h1 (aEr h)
   ·have hm':=U0 hm
    simp at h
    exact h hm'
 ·rcases Vq hj with ⟨rfl,rfl⟩ | ⟨h1,h2⟩
  ·refine .inl ⟨rfl,?_⟩
   rw [pX hf hn]
  ·refine .inr ⟨h1,h2,fun hm=>?_⟩
   have:=hc.2 _ (F3 h2)
   rw [aKa] at this
   rcases this with h | h
   ·exact h1 (aEr h)
   ·have hm':=pE hm
    simp at h
    exact h hm'
end Go.Proofs.YtkioneinddihlaaGreat
