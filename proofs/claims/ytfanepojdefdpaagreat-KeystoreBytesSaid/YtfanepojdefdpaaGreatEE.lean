import Derived.Test.YtfanepojdefdpaaGreatED
import Derived.KernelRfl
import Derived.Test.YtfanepojdefdpaaGreatPU
import Derived.Scope
set_option linter.unusedVariables false
set_option linter.unusedSimpArgs false
namespace Go.Proofs.YtfanepojdefdpaaGreat
open Go.RowKit
section
variable {Q:Exit->St->Prop} {next:St->Prop} {σ:St} {i j:Nat}
theorem oS (h:Q .normal σ):wR i Q (.exit i) σ:=by
 show (if i=i then _ else _)
 rw [if_pos rfl]
 exact h
theorem lU (hne:j≠i) (h:Q (.exit j) σ):wR i Q (.exit j) σ:=by
 show (if j=i then _ else _)
 rw [if_neg hne]
 exact h
end
theorem vJ {P:Program} {t ty:TypeId} {s:ByteArray} (h:P.underlying t=some .string):∀ w,∀ cs,(builtin .len #[t] ty cs #[.string s]).run P w=.ok (.value (.int .i64 s.size)) w:=fun w cs=>by
 simp [builtin,Builtin.len_,run_underlying h,goInt]
section
variable {P:Program} {t:TypeId} {X Y:Operand}
end
section
variable {P:Program} {t:TypeId} {X Y:Operand} {k:IntKind} {x y:Int}
end
section
variable {P:Program} {t:TypeId} {X Y:Operand} {a b:ByteArray}
end
theorem Jc {θ:List (Nat×Nat)} {j:Nat} (h:(θ.all fun q=>!Nat.beq q.2 j)=true):∀ k,D5 θ k≠some j:=fun k hk=>by
 have:=aEb.1 h _ (E4 hk)
 simp at this
theorem Bm {P:Program} {cx:Cx} {x y:Code} {Q:Exit->St->Prop} {σ:St} {ι:Type} (mid:ι->St) (ok:ι->Prop) (hx:Ca P cx x (sW (fun σ'=>∃ i,ok i/\Mb cx σ' (mid i)) Q) σ) (hy:∀ i,ok i->Ca P cx y Q (mid i)):Ca P cx (.seq x y) Q σ:=by
 refine Ah (rG ?_ hx)
 intro e σ' h
 cases e with
 | normal=>
  obtain⟨i,h1,h2⟩:=h
  exact D1 h2 (hy i h1)
 | _=>exact h
end Go.Proofs.YtfanepojdefdpaaGreat
namespace Go.Proofs.YtfanepojdefdpaaGreat
open Go.RowKit
mutual
def jW (j:Nat):DV->Bool
 | .part k _ _=>!Nat.beq k j
 | .ptr k _=>!Nat.beq k j
 | .agg ds=>Y8 j ds
 | .tup ds=>Y8 j ds
 | .clo _ _ ds=>Y8 j ds
 | .val _=>true
 | .sl _ _=>true
 | .slc _ _=>true
 | .mp _=>true
 | .elt _=>true
 | .row _=>true
 | .nst k s _=>!Nat.beq k j && !Nat.beq s j
 | .npt k s _ _=>!Nat.beq k j && !Nat.beq s j
 | .npr k s _ _ _=>!Nat.beq k j && !Nat.beq s j
 | .qpt k _=>!Nat.beq k j
def Y8 (j:Nat):List DV->Bool
 | []=>true
 | d :: ds=>jW j d && Y8 j ds
end
mutual
def Jj (j sz:Nat) (cs:List C):DV->DV
 | .row k=>bif Nat.beq k j then .sl sz cs else .row k
 | .agg ds=>.agg (N4 j sz cs ds)
 | .tup ds=>.tup (N4 j sz cs ds)
 | .clo f n ds=>.clo f n (N4 j sz cs ds)
 | .val v=>.val v
 | .sl s c=>.sl s c
 | .slc s c=>.slc s c
 | .mp l=>.mp l
 | .elt c=>.elt c
 | .part k o n=>.part k o n
 | .ptr k i=>.ptr k i
 | .nst k s i=>.nst k s i
 | .npt k s i p=>.npt k s i p
 | .npr k s i p n'=>.npr k s i p n'
 | .qpt k i=>.qpt k i
def N4 (j sz:Nat) (cs:List C):List DV->List DV
 | []=>[]
 | d :: ds=>Jj j sz cs d :: N4 j sz cs ds
end
def St.frz (σ:St) (j sz:Nat) (cs:List C):St where
 F:=fun t=>match σ.F t with | some d=>bif jW j d then some (Jj j sz cs d) else none | none=>none
 L:=fun k=>bif Nat.beq k j then none else match σ.L k with | some (.box ds ty)=>(bif Y8 j ds then some (.box (N4 j sz cs ds) ty) else none) | some (.row e s c)=>some (.row e s c) | _=>none
 U:=σ.U
theorem Ik {a b:Nat} (h:Nat.beq a b=false):a≠b:=fun e=>by
 subst e
 rw [aGp] at h; cases h
section
variable {σ:St} {j e sz:Nat} {cs:List C}
abbrev frzT (j:Nat) (k:Nat):Option Nat:=if k=j then none else some k
mutual
theorem Cv.frzD (h:σ.L j=some (.row e sz cs)):∀ d,jW j d=true->Cv σ (frzT j) d (Go.Proofs.YtfanepojdefdpaaGreat.Jj j sz cs d)
 | .val v,_=>by unfold Go.Proofs.YtfanepojdefdpaaGreat.Jj; exact .val v
 | .sl _ _,_=>by unfold Go.Proofs.YtfanepojdefdpaaGreat.Jj; exact .sl _ _
 | .slc _ _,_=>by unfold Go.Proofs.YtfanepojdefdpaaGreat.Jj; exact .slcc _ _
 | .mp _,_=>by unfold Go.Proofs.YtfanepojdefdpaaGreat.Jj; exact .mp _
 | .elt _,_=>by unfold Go.Proofs.YtfanepojdefdpaaGreat.Jj; exact .elt _
 | .row k,_=>by
  unfold Go.Proofs.YtfanepojdefdpaaGreat.Jj
  cases hb:Nat.beq k j with
  | true=>
   have:=aDr hb
   subst this
   refine .frz h fun k' hk'=>?_
   unfold frzT at hk'
   split at hk'
   ·cases hk'
   ·rename_i hne
    injection hk' with hk'
    exact hne hk'
  | false=>exact .row (if_neg (Ik hb))
 | .part k _ _,hn=>by
  unfold jW at hn
  unfold Go.Proofs.YtfanepojdefdpaaGreat.Jj
  exact .part (if_neg (Ik (by simpa using hn)))
 | .ptr k _,hn=>by
  unfold jW at hn
  unfold Go.Proofs.YtfanepojdefdpaaGreat.Jj
  exact .ptr (if_neg (Ik (by simpa using hn)))
 | .nst k s _,hn=>by
  unfold jW at hn
  rw [aCe] at hn
  unfold Go.Proofs.YtfanepojdefdpaaGreat.Jj
  exact .nst (if_neg (Ik (by simpa using hn.1))) (if_neg (Ik (by simpa using hn.2)))
 | .npt k s _ _,hn=>by
  unfold jW at hn
  rw [aCe] at hn
  unfold Go.Proofs.YtfanepojdefdpaaGreat.Jj
  exact .npt (if_neg (Ik (by simpa using hn.1))) (if_neg (Ik (by simpa using hn.2)))
 | .npr k s _ _ _,hn=>by
  unfold jW at hn
  rw [aCe] at hn
  unfold Go.Proofs.YtfanepojdefdpaaGreat.Jj
  exact .npr (if_neg (Ik (by simpa using hn.1))) (if_neg (Ik (by simpa using hn.2)))
 | .qpt k _,hn=>by
  unfold jW at hn
  unfold Go.Proofs.YtfanepojdefdpaaGreat.Jj
  exact .qpt (if_neg (Ik (by simpa using hn)))
 | .agg ds,hn=>by
  unfold jW at hn
  unfold Go.Proofs.YtfanepojdefdpaaGreat.Jj
  exact .agg (Pv.frzDs h ds hn)
 | .tup ds,hn=>by
  unfold jW at hn
  unfold Go.Proofs.YtfanepojdefdpaaGreat.Jj
  exact .tup (Pv.frzDs h ds hn)
 | .clo f n ds,hn=>by
  unfold jW at hn
  unfold Go.Proofs.YtfanepojdefdpaaGreat.Jj
  exact .clo f n (Pv.frzDs h ds hn)
theorem Pv.frzDs (h:σ.L j=some (.row e sz cs)):∀ ds,Y8 j ds=true->Pv σ (frzT j) ds (Go.Proofs.YtfanepojdefdpaaGreat.N4 j sz cs ds)
 | [],_=>by unfold Go.Proofs.YtfanepojdefdpaaGreat.N4; exact .nil
 | d :: ds,hn=>by
  unfold Y8 at hn
  simp only [aCe] at hn
  unfold Go.Proofs.YtfanepojdefdpaaGreat.N4
  exact .cons (Cv.frzD h d hn.1) (Pv.frzDs h ds hn.2)
end
mutual
theorem kU:∀ (d:DV) (k:Nat),men (Jj j sz cs d) k->men d k
 | .val _,k,h=>by unfold Jj men at h; exact h.elim
 | .sl _ _,k,h=>by unfold Jj men at h; exact h.elim
 | .slc _ _,k,h=>by unfold Jj men at h; exact h.elim
 | .mp _,k,h=>by unfold Jj men at h; exact h.elim
 | .elt _,k,h=>by unfold Jj men at h; exact h.elim
 | .row i,k,h=>by
  unfold Jj at h
  cases hb:Nat.beq i j with
  | true=>rw [hb] at h; simp only [aEu] at h; unfold men at h; exact h.elim
  | false=>rw [hb] at h; exact h
 | .part _ _ _,k,h=>by unfold Jj at h; exact h
 | .ptr _ _,k,h=>by unfold Jj at h; exact h
 | .nst _ _ _,k,h=>by unfold Jj at h; exact h
 | .npt _ _ _ _,k,h=>by unfold Jj at h; exact h
 | .npr _ _ _ _ _,k,h=>by unfold Jj at h; exact h
 | .qpt _ _,k,h=>by unfold Jj at h; exact h
 | .agg ds,k,h=>by unfold Jj men at h; unfold men; exact P1 ds k h
 | .tup ds,k,h=>by unfold Jj men at h; unfold men; exact P1 ds k h
 | .clo _ _ ds,k,h=>by unfold Jj men at h; unfold men; exact P1 ds k h
theorem P1:∀ (ds:List DV) (k:Nat),E3 (N4 j sz cs ds) k->E3 ds k
 | [],k,h=>by unfold N4 E3 at h; exact h.elim
 | d :: ds,k,h=>by
  unfold N4 E3 at h
  unfold E3
  exact h.imp (kU d k) (P1 ds k)
end
theorem xA {t:Nat} {d':DV} (h:(σ.frz j sz cs).F t=some d'):∃ d,σ.F t=some d/\jW j d=true/\d'=Jj j sz cs d:=by
 have h':(match σ.F t with | some d=>bif jW j d then some (Jj j sz cs d) else none | none=>none)=some d':=h
 cases hF:σ.F t with
 | none=>rw [hF] at h'; cases h'
 | some d=>
  rw [hF] at h'
  cases hn:jW j d with
  | false=>simp only [hn,aCc] at h'; cases h'
  | true=>simp only [hn,aEu] at h'; injection h' with h'; exact⟨d,rfl,hn,h'.symm⟩
theorem wU {k:Nat} {lb':LB} (h:(σ.frz j sz cs).L k=some lb'):k≠j/\((∃ ds ty,σ.L k=some (.box ds ty)/\Y8 j ds=true/\lb'=.box (N4 j sz cs ds) ty)\/∃ e s c,σ.L k=some (.row e s c)/\lb'=.row e s c):=by
 have h':(bif Nat.beq k j then none else match σ.L k with | some (.box ds ty)=>(bif Y8 j ds then some (LB.box (N4 j sz cs ds) ty) else none) | some (.row e s c)=>some (.row e s c) | _=>none)=some lb':=h
 cases hb:Nat.beq k j with
 | true=>rw [hb] at h'; cases h'
 | false=>
  refine⟨Ik hb,?_⟩
  rw [hb] at h'
  simp only [aCc] at h'
  cases hL:σ.L k with
  | none=>rw [hL] at h'; cases h'
  | some lb=>
   rw [hL] at h'
   cases lb with
   | row e s c=>simp only [] at h'; injection h' with h'; exact .inr ⟨e,s,c,rfl,h'.symm⟩
   | map l=>cases h'
   | mit k' n s=>cases h'
   | vec ds e=>cases h'
   | tree=>cases h'
   | gho=>cases h'
   | abs=>cases h'
   | que=>cases h'
   | box ds ty=>
    simp only [] at h'
    cases hn:Y8 j ds with
    | false=>rw [hn] at h'; cases h'
    | true=>rw [hn] at h'; injection h' with h'; exact .inl ⟨ds,ty,rfl,hn,h'.symm⟩
theorem Mb.frz {cx:Cx} (h:σ.L j=some (.row e sz cs)) (hj:Nat.ble cx.np j=true):Mb cx σ (σ.frz j sz cs):=by
 rintro a w ⟨ρ,ha⟩
 have hj':cx.np<=j:=aC3 hj
 refine⟨_,(ha.ren (σ':=σ.frz j sz cs) (frzT j) (fun t d' hd=>?_) (fun k lb' hl=>?_) (fun k k' i h1 h2=>?_) (fun k hk=>⟨if_neg (by omega),(ha.pin k hk).2⟩) (fun t d k hd hm=>?_) (fun k lb hl=>?_)).1⟩
 ·obtain⟨d,h1,h2,rfl⟩:=xA hd
  exact⟨d,h1,Cv.frzD h d h2⟩
 ·obtain⟨hne,h1⟩:=wU hl
  refine .inl ?_
  rcases h1 with ⟨ds,ty,h1,h2,rfl⟩ | ⟨e',s,c,h1,rfl⟩
  ·exact⟨k,_,if_neg hne,h1,rfl,Pv.frzDs h ds h2⟩
  ·exact⟨k,_,if_neg hne,h1,rfl,rfl,rfl⟩
 ·unfold frzT at h1 h2
  split at h1
  ·cases h1
  ·split at h2
   ·cases h2
   ·injection h1 with h1
    injection h2 with h2
    omega
 ·obtain⟨d',h1,h2,rfl⟩:=xA hd
  exact ha.usedF t d' k h1 (kU d' k hm)
 ·obtain⟨hne,h1⟩:=wU hl
  rcases h1 with ⟨ds,ty,h1,h2,rfl⟩ | ⟨e',s,c,h1,rfl⟩
  ·exact⟨(ha.usedL k _ h1).1,fun k' hk'=>(ha.usedL k _ h1).2 k' (P1 ds k' hk')⟩
  ·exact⟨(ha.usedL k _ h1).1,fun k' hk'=>hk'.elim⟩
end
section
variable {P:Program} {cx:Cx} {ops:Array Oper} {Q:Exit->St->Prop} {l:List Oper} {σ σ':St}
def bK (P:Program) (cx:Cx) (ops:Array Oper) (Q:Exit->St->Prop) (l:List Oper) (σ:St):Prop:=∀ a w,Jf cx σ a w->wpList P ops (post cx Q) l a w
theorem bK.sub (h:Mb cx σ σ') (k:bK P cx ops Q l σ'):bK P cx ops Q l σ:=fun a w ha=>k a w (h a w ha)
theorem bK.fin (h:Q .normal σ):bK P cx ops Q [] σ:=fun a w ha=>⟨σ,h,ha⟩
variable {S:sZ P cx} {nb nb':Nat}
theorem Ua {l2:List Oper}:∀ (l:List Oper) (k:Nat) (lg:gS) (σ:St) (a:Act) (w:World),Chain S ops none nb (Fj k l) lg σ (fun σ'=>(∀ j,nb'<=j->σ'.U j=false)->bK P cx ops Q l2 σ')->Tw nb (Fj k l) σ->rX cx (Fj k l)->(∀ j,nb'<=j->σ.U j=false)->nb + 8 * (k + l.length)<=nb'->Jf cx σ a w->wpList P ops (post cx Q) (l ++ l2) a w
 | [],k,lg,σ,a,w,h,_,_,B,_,ha=>h B a w ha
 | o :: l,k,lg,σ,a,w,h,hf,hd,B,hn,⟨ρ,ha⟩=>by
  have hf0:=hf (k,o) (by simp [Fj])
  have hd0:=hd (k,o) (by simp [Fj])
  have hf1:Tw nb (Fj (k + 1) l) σ:=fun q hq=>hf q (by simp [Fj,hq])
  have hd1:rX cx (Fj (k + 1) l):=fun q hq=>hd q (by simp [Fj,hq])
  have hne:∀ q∈Fj (k + 1) l,q.1≠k:=fun q hq=>by have:=(Q7 hq).1; omega
  have hn':nb + 8 * (k + 1 + l.length)<=nb':=by simp at hn; omega
  have hUn:∀ {e:K4} {wr:List Nat} {rd:List Nat},(∀ j,e.l j≠none->j∈wr\/(nb + 8 * k<=j/\j < nb + 8 * k + 8))->(∀ j,j∈wr->j∈rd)->(∀ j,j∈rd->σ.U j=true)->∀ j,nb'<=j->(σ.app o.dst e).U j=false:=fun {e wr rd} hk hs hu j hj=>by
   cases hc:(σ.app o.dst e).U j with
   | false=>rfl
   | true=>
    rcases kT hc with h1 | h1
    ·rw [B j hj] at h1; cases h1
    ·rcases hk j h1 with h2 | h2
     ·exact absurd (hu j (hs j h2)) (by rw [B j hj]; simp)
     ·simp at hn; omega
  show wpList P ops (post cx Q) (o :: (l ++ l2)) a w
  unfold wpList
  rcases h with ⟨rd,wr,e,h1,-,h3⟩ | ⟨rd,wr,E,h1,-,-,h3⟩
  ·have hs:=h1.sound ha hf0 hd0
   have:=hs (wpList P ops (post cx Q) (l ++ l2)) (post cx Q) fun a' w' ha'=>Ua l (k + 1) _ _ a' w' h3 (hf1.next h1.key.1 (fun j hj=>h1.used ha j (h1.key.2 j hj)) hne) hd1 (hUn h1.key.1 h1.key.2 (h1.used ha)) hn' ha'
   split
   ·rename_i hw
    rw [if_pos hw] at this
    exact .inl this
   ·rename_i hw
    rw [if_neg hw] at this
    exact this
  ·have:=h1.sound ha hf0 hd0 (wpList P ops (post cx Q) (l ++ l2)) (post cx Q) fun e a' w' he ha'=>Ua l (k + 1) _ _ a' w' (h3 e he) (hf1.next (h1.key.1 e he) (fun j hj=>h1.used ha j (h1.key.2 j hj)) hne) hd1 (hUn (h1.key.1 e he) h1.key.2 (h1.used ha)) hn' ha'
   split
   ·rename_i hw
    rw [if_pos hw] at this
    exact .inl this
   ·rename_i hw
    rw [if_neg hw] at this
    exact this
theorem bK.chain (S:sZ P cx) (m nb nb':Nat) (B:∀ k,nb<=k->σ.U k=false) (hn:Nat.ble (nb + 8 * (l.take m).length) nb'=true) (hd:lM cx.N (l.take m)=true)
  (h:Chain S ops none nb (Fj 0 (l.take m)) [] σ (fun σ'=>(∀ j,nb'<=j->σ'.U j=false)->bK P cx ops Q (l.drop m) σ')):bK P cx ops Q l σ:=by
 intro a w ha
 have hn':nb + 8 * (l.take m).length<=nb':=aC3 hn
 have:=Ua (l2:=l.drop m) (l.take m) 0 [] σ a w h (fun q hq j hj=>B _ (by omega)) (Uv hd) (fun j hj=>B j (by omega)) (by simpa using hn') ha
 rwa [aGc] at this
end
section
variable {P:Program} {f:FuncId} {args:List DV}
theorem Fn.plain {v:Value} {R:DV->List LB->Prop} {vs:List Value} {w:World} (h:Fn P f 0 args [] R) (hR:∀ r b,R r b->r=.val v) (ρ:Nat->Value) (I:Nat->Prop) (hI:∀ b,I b->b < w.heap.size) (hr:Bk ρ I w args vs):Calls P f vs.toArray w fun e w'=>e=.returned v/\Ws w w':=by
 refine (h.2.2 ρ I w vs (fun b hb=>⟨hI b hb,fun k hk=>by simp at hk⟩) hr (fun k lb h=>by simp at h) (fun k k' b hk=>by simp at hk)).mono ?_
 rintro e w' ⟨u,r,b,rfl,h1,h2⟩
 obtain⟨-,⟨o1,o2,o3,o4⟩,hk,⟨ρ',J,-,-,hrep,-⟩,-⟩:=h2
 rw [hR r b h1] at hrep
 unfold B7 at hrep
 rw [hrep.1]
 exact⟨rfl,o1,o2,o3,o4,fun b hb=>hk b hb fun k hk=>by simp at hk⟩
end
end Go.Proofs.YtfanepojdefdpaaGreat
namespace Go.Proofs.YtfanepojdefdpaaGreat
open Go.RowKit
def noG (Q:Exit->St->Prop):Exit->St->Prop
 | .normal,σ=>Q .normal σ
 | .exit i,σ=>Q (.exit i) σ
 | .goto _,_=>False
 | .ret,σ=>Q .ret σ
 | .panic c,σ=>Q (.panic c) σ
 | .outgrown,σ=>Q .outgrown σ
def An {α:Type} (f:α->List C) (l:List α):List C:=l.flatMap f
def eI (x:Int):List C:=[.int .i64 x]
def eK (k:IntKind) (x:Int):List C:=[.int k x]
def e8 (x:UInt8):List C:=[.int .u8 (x.toNat:Int)]
def eS (x:ByteArray):List C:=[.str x]
def eB (x:Bool):List C:=[.bool x]
def eL {α:Type} (sz:Nat) (f:α->List C) (l:List α):List C:=[.sl sz (An f l)]
theorem Nt (x:Int):(eI x).length=1:=rfl
theorem aBs (k:IntKind) (x:Int):(eK k x).length=1:=rfl
theorem B5 (x:UInt8):(e8 x).length=1:=rfl
theorem Jo (x:ByteArray):(eS x).length=1:=rfl
theorem xX (x:Bool):(eB x).length=1:=rfl
theorem aAm {α:Type} (sz:Nat) (f:α->List C) (l:List α):(eL sz f l).length=1:=rfl
section
variable {α:Type} {f:α->List C} {sz:Nat}
theorem D0 (hf:∀ x,(f x).length=sz):∀ (l:List α),(An f l).length=l.length * sz
 | []=>by simp [An]
 | x :: l=>by
  have:=D0 hf l
  unfold An at this ⊢
  rw [aFe,aDw,hf,this,aEw,aF2,aGm,aIo]
theorem Ju (l m:List α):An f (l ++ m)=An f l ++ An f m:=by unfold An; rw [List.flatMap_append]
theorem Oo {l:List α} {j:Nat} {x:α} (hx:l[j]?=some x):An f l=An f (l.take j) ++ (f x ++ An f (l.drop (j + 1))):=by
 have hj:=(aBw.1 hx).1
 have hxe:=(aBw.1 hx).2
 have e1:l=l.take j ++ (x :: l.drop (j + 1)):=by
  rw [<- hxe,List.getElem_cons_drop,aGc]
 rw [show An f l=An f (l.take j ++ (x :: l.drop (j + 1))) from congrArg _ e1,Ju]
 rfl
theorem Mk (hf:∀ x,(f x).length=sz) {l:List α} {j:Nat} (hj:j<=l.length):(An f (l.take j)).length=j * sz:=by
 rw [D0 hf,aDy,aHw hj]
theorem Xt (hf:∀ x,(f x).length=sz) {l:List α} {j:Nat} {x:α} (hx:l[j]?=some x):j * sz + sz<=(An f l).length:=by
 have hj:=(aBw.1 hx).1
 rw [D0 hf]
 have:(j + 1) * sz<=l.length * sz:=aFu _ hj
 rw [aF2,aGm] at this
 exact this
theorem Gh (hf:∀ x,(f x).length=sz) {l:List α} {j o:Nat} {x:α} (hx:l[j]?=some x) (ho:o < sz) {a:Nat} (ha:a=j * sz + o):a < (An f l).length:=by
 have:=Xt hf hx
 omega
theorem Yt (hf:∀ x,(f x).length=sz) {l:List α} {j o:Nat} {x:α} (hx:l[j]?=some x) (ho:o<=sz):(An f l).drop (j * sz + o)=(f x).drop o ++ An f (l.drop (j + 1)):=by
 have hj:=(aBw.1 hx).1
 have ht:=Mk hf (l:=l) (j:=j) (by omega)
 rw [Oo hx,<- ht,<- aHe,List.drop_left,List.drop_append_of_le_length (by rw [hf]; exact ho)]
theorem Bf (hf:∀ x,(f x).length=sz) {l:List α} {j o:Nat} {x:α} {c:C} (hx:l[j]?=some x) (hc:(f x)[o]?=some c) {a:Nat} (ha:a=j * sz + o):(An f l)[a]?=some c:=by
 subst ha
 have ho:o < sz:=by rw [<- hf x]; exact (aBw.1 hc).1
 have e1:=Yt hf hx (Nat.le_of_lt ho)
 have e2:(An f l)[j * sz + o]?=((An f l).drop (j * sz + o))[0]?:=by rw [aE8]; rfl
 rw [e2,e1,aE3 (by rw [aD1,hf]; omega),aE8]
 exact hc
theorem Cm (hf:∀ x,(f x).length=sz) {l:List α} {j o m:Nat} {x:α} {cs:List C} (hx:l[j]?=some x) (hs:((f x).drop o).take m=cs) (ho:o + m<=sz) {a:Nat} (ha:a=j * sz + o):((An f l).drop a).take m=cs:=by
 subst ha
 rw [Yt hf hx (by omega),aHd (by rw [aD1,hf]; omega)]
 exact hs
theorem Bn (hf:∀ x,(f x).length=sz) {l:List α} {j o m:Nat} {x:α} (hx:l[j]?=some x) (ho:o + m<=sz) {a:Nat} (ha:a=j * sz + o):a + m<=(An f l).length:=by
 have:=Xt hf hx
 omega
theorem Mr (hf:∀ x,(f x).length=sz) {l:List α} {j o:Nat} {x x':α} {cs:List C} (hx:l[j]?=some x) (ho:o + cs.length<=sz) (hs:Co (f x) o cs=f x') {a:Nat} (ha:a=j * sz + o):Co (An f l) a cs=An f (Jy l j x'):=by
 subst ha
 have hj:=(aBw.1 hx).1
 have ht:=Mk hf (l:=l) (j:=j) (by omega)
 have hset:An f (Jy l j x')=An f (l.take j) ++ (f x' ++ An f (l.drop (j + 1))):=by
  have:(Jy l j x')[j]?=some x':=by unfold Jy; rw [aGk hj]
  rw [Oo this]
  unfold Jy
  rw [List.take_set_of_le (aFf _),List.drop_set_of_lt (by omega)]
 rw [hset,<- hs]
 unfold Co
 have e1:(An f l).take (j * sz + o)=An f (l.take j) ++ (f x).take o:=by
  rw [Oo hx,aIe,ht,aGu,aFd (by rw [ht]; omega)]
  congr 1
  rw [aHd (by rw [hf]; omega)]
 have e2:(An f l).drop (j * sz + o + cs.length)=(f x).drop (o + cs.length) ++ An f (l.drop (j + 1)):=by
  rw [aHv,Yt hf hx ho]
 rw [e1,e2]
 simp only [aFv]
theorem bA (hf:∀ x,(f x).length=sz) (l:List α) (i j:Nat) (hij:i<=j) (hj:j<=l.length):((An f l).drop (i * sz)).take ((j - i) * sz)=An f ((l.drop i).take (j - i)):=by
 have e0:An f l=An f (l.take i) ++ An f (l.drop i):=by rw [<- Ju,aGc]
 have e1:An f (l.drop i)=An f ((l.drop i).take (j - i)) ++ An f ((l.drop i).drop (j - i)):=by rw [<- Ju,aGc]
 rw [e0]
 have ht:=Mk hf (l:=l) (j:=i) (by omega)
 have hd:((An f (l.take i)) ++ An f (l.drop i)).drop (i * sz)=An f (l.drop i):=by rw [<- ht,List.drop_left]
 rw [hd,e1]
 have ht2:=Mk hf (l:=l.drop i) (j:=j - i) (by rw [aD1]; omega)
 rw [<- ht2,List.take_left]
theorem Ts (hf:∀ x,(f x).length=sz) (l:List α) (i n:Nat) (hn:i + n<=l.length):((An f l).drop (i * sz)).take (n * sz)=An f ((l.drop i).take n):=by
 have:=bA hf l i (i + n) (by omega) (by omega)
 rw [aGu] at this
 exact this
end
theorem wJ (l:List UInt8):An e8 l=H6 l:=by
 induction l with
 | nil=>rfl
 | cons x l ih=>
  show e8 x ++ An e8 l=_
  rw [ih]
  rfl
section
variable {P:Program} {tk:Nat} {t ty yt:TypeId} {X Y:Operand} {b1 b2:Option LB} {k:IntKind} {x y:Int}
theorem aC5:Fv P tk (.binOp .lss t X Y yt) ty [(.val (.int k x),b1),(.val (.int k y),b2)] [] (v0 (.val (.bool (decide (x < y))))):=.binOp (fun _ _=>rfl) xQ
theorem aCj:Fv P tk (.binOp .leq t X Y yt) ty [(.val (.int k x),b1),(.val (.int k y),b2)] [] (v0 (.val (.bool (decide (x<=y))))):=.binOp (fun _ _=>rfl) zD
theorem aB5:Fv P tk (.binOp .gtr t X Y yt) ty [(.val (.int k x),b1),(.val (.int k y),b2)] [] (v0 (.val (.bool (decide (y < x))))):=.binOp (fun _ _=>rfl) yL
theorem aCg:Fv P tk (.binOp .geq t X Y yt) ty [(.val (.int k x),b1),(.val (.int k y),b2)] [] (v0 (.val (.bool (decide (y<=x))))):=.binOp (fun _ _=>rfl) zK
theorem aB1:Fv P tk (.binOp .eql t X Y yt) ty [(.val (.int k x),b1),(.val (.int k y),b2)] [] (v0 (.val (.bool (decide (x=y))))):=.binOp (fun _ _=>rfl) yC
theorem aC6:Fv P tk (.binOp .neq t X Y yt) ty [(.val (.int k x),b1),(.val (.int k y),b2)] [] (v0 (.val (.bool (!decide (x=y))))):=.binOp (fun _ _=>rfl) (fun w=>by rw [xK w,decide_not])
theorem aM (x:Int):IntKind.i64.wrap x=W x:=by rw [IntKind.wrap_i64]; unfold W; omega
theorem okW (x:Int):Fr (.int .i64 (W x))=true:=Gr.2 (Nv (aV x))
theorem aDg (x:Int):IntKind.u8.wrap x=((u8 x).toNat:Int):=by rw [IntKind.wrap_u8,dN]
theorem ok8 (x:UInt8):Fr (.int .u8 (x.toNat:Int))=true:=Gr.2 (Y2 ⟨by omega,by have:=x.toNat_lt; omega⟩)
theorem wN:Fv P tk (.binOp .add t X Y yt) ty [(.val (.int .i64 x),b1),(.val (.int .i64 y),b2)] [] (v0 (.val (.int .i64 (W (x + y))))):=.binOp (fun _ _=>okW _) (fun w=>by rw [wD w,aM])
theorem aC0:Fv P tk (.binOp .sub t X Y yt) ty [(.val (.int .i64 x),b1),(.val (.int .i64 y),b2)] [] (v0 (.val (.int .i64 (W (x - y))))):=.binOp (fun _ _=>okW _) (fun w=>by rw [uJ w,aM])
theorem aCa:Fv P tk (.binOp .mul t X Y yt) ty [(.val (.int .i64 x),b1),(.val (.int .i64 y),b2)] [] (v0 (.val (.int .i64 (W (x * y))))):=.binOp (fun _ _=>okW _) (fun w=>by rw [jZ w,aM])
theorem qH (x y:Int):(x.tmod y).natAbs<=x.natAbs:=by
 rw [Int.natAbs_tmod]
 exact Nat.mod_le _ _
theorem iI {x y:Int} (h:-9223372036854775808<=x/\x<=9223372036854775807):-9223372036854775808<=x.tmod y/\x.tmod y<=9223372036854775807:=by
 have h0:=qH x y
 rcases Int.le_total 0 x with hx | hx
 ·have h1:=Int.tmod_nonneg y hx
  omega
 ·have e:x.tmod y=-((-x).tmod y):=by rw [Int.neg_tmod]; omega
  have h1:=Int.tmod_nonneg y (show 0<=-x by omega)
  omega
theorem vL {n:Int} (h:Fr (.int .i64 n)=true):-9223372036854775808<=n/\n<=9223372036854775807:=by
 have:=Gr.1 h
 have h1:IntKind.i64.min=-9223372036854775808:=by decide
 have h2:IntKind.i64.max=9223372036854775807:=by decide
 rw [h1,h2] at this
 exact this
theorem W3 {z:Int} (h:R4 x y=some z):Fv P tk (.binOp .rem t X Y yt) ty [(.val (.int .i64 x),b1),(.val (.int .i64 y),b2)] [] (v0 (.val (.int .i64 z))):=by
 obtain⟨hy,rfl⟩:=mV h
 exact .binOp (fun h _=>Gr.2 (Nv (iI (vL h)))) (pK hy)
theorem aI {z:Int} (h:Sd x y=some z):Fv P tk (.binOp .quo t X Y yt) ty [(.val (.int .i64 x),b1),(.val (.int .i64 y),b2)] [] (v0 (.val (.int .i64 z))):=by
 obtain⟨hy,rfl⟩:=mB h
 exact .binOp (fun _ _=>okW _) (fun w=>by rw [zF hy w,aM])
theorem yP {a b z:UInt8} (h:uA a b=some z):Fv P tk (.binOp .rem t X Y yt) ty [(.val (.int .u8 (a.toNat:Int)),b1),(.val (.int .u8 (b.toNat:Int)),b2)] [] (v0 (.val (.int .u8 (z.toNat:Int)))):=by
 obtain⟨hy,hz⟩:=mL h
 refine .binOp (fun _ _=>Gr.2 (Y2 ⟨by omega,by have:=z.toNat_lt; omega⟩)) ?_
 rw [hz]
 exact pK hy
theorem P4 {z:Int} (h:W (x + y)=z):Fv P tk (.binOp .add t X Y yt) ty [(.val (.int .i64 x),b1),(.val (.int .i64 y),b2)] [] (v0 (.val (.int .i64 z))):=h ▸ wN
theorem aBy {b:Bool}:Fv P tk (.unOp .not t X) ty [(.val (.bool b),b1)] [] (v0 (.val (.bool (!b)))):=.unOp (fun _=>rfl) yD
theorem zW {a b:Bool} (ht:P.underlying t=some .bool):Fv P tk (.binOp .eql t X Y yt) ty [(.val (.bool a),b1),(.val (.bool b),b2)] [] (v0 (.val (.bool (decide (a=b))))):=.binOp (fun _ _=>rfl) (fun w=>by cases a <;> cases b <;> simp [eqGuard,binOp,Op.equal,Op.maxDepth,run_equalIn_bool',ht])
theorem iU {a b:Bool} (ht:P.underlying t=some .bool):Fv P tk (.binOp .neq t X Y yt) ty [(.val (.bool a),b1),(.val (.bool b),b2)] [] (v0 (.val (.bool (!decide (a=b))))):=.binOp (fun _ _=>rfl) (fun w=>by cases a <;> cases b <;> simp [eqGuard,binOp,Op.equal,Op.maxDepth,run_equalIn_bool',ht])
theorem aAy {a b:ByteArray}:Fv P tk (.binOp .eql t X Y yt) ty [(.val (.string a),b1),(.val (.string b),b2)] [] (v0 (.val (.bool (decide (a=b))))):=.binOp (fun _ _=>rfl) tA
theorem xI {a b:ByteArray}:Fv P tk (.binOp .neq t X Y yt) ty [(.val (.string a),b1),(.val (.string b),b2)] [] (v0 (.val (.bool (!decide (a=b))))):=.binOp (fun _ _=>rfl) (fun w=>by rw [vB w,decide_not])
theorem hX:∀ (a b:List UInt8),Op.bytesLess a b=Q3 a b
 | _,[]=>by cases ‹List UInt8› <;> rfl
 | [],_ :: _=>rfl
 | a :: x,b :: y=>by unfold Op.bytesLess Q3; rw [hX x y]
theorem aBn {a b:ByteArray}:Fv P tk (.binOp .lss t X Y yt) ty [(.val (.string a),b1),(.val (.string b),b2)] [] (v0 (.val (.bool (Q3 (J7 a) (J7 b))))):=.binOp (fun _ _=>rfl) (fun w=>by
 simp [eqGuard,binOp,Op.stringOp,hX,ByteArray.toList_eq,J7])
theorem aCn {a b c:ByteArray} (h:oX a b=some c):Fv P tk (.binOp .add t X Y yt) ty [(.val (.string a),b1),(.val (.string b),b2)] [] (v0 (.val (.string c))):=by
 obtain⟨h1,rfl⟩:=lX h
 refine .binOp (fun _ _=>Nu.2 ?_) (fun w=>?_)
 ·rw [aIb]; exact h1
 ·have h2:¬ (9223372036854775807:Int) < ((a.size:Int) + (b.size:Int)):=by omega
  have hm:IntKind.i64.max=9223372036854775807:=by decide
  simp [eqGuard,binOp,Op.stringOp,hm,h2]
theorem Kq {src dst:TypeId} (hs:P.underlying src=some (.int k)) (hd:P.underlying dst=some (.int .u8)):Fv P tk (.convert src dst X) ty [(.val (.int k x),b1)] [] (v0 (.val (.int .u8 ((u8 x).toNat:Int)))):=
 .conv (by unfold kG; rw [hs]) (by unfold kG; rw [hd]) (fun _=>ok8 _) (fun w=>by rw [dF (by rw [hs]; rfl) hd w,aDg])
theorem Sf {src dst:TypeId} (hs:P.underlying src=some (.int k)) (hd:P.underlying dst=some (.int .i64)):Fv P tk (.convert src dst X) ty [(.val (.int k x),b1)] [] (v0 (.val (.int .i64 (W x)))):=
 .conv (by unfold kG; rw [hs]) (by unfold kG; rw [hd]) (fun _=>okW _) (fun w=>by rw [dF (by rw [hs]; rfl) hd w,aM])
theorem Hx {src dst:TypeId} {u:UInt8} (hs:P.underlying src=some (.int .u8)) (hd:P.underlying dst=some (.int .i64)):Fv P tk (.convert src dst X) ty [(.val (.int .u8 (u.toNat:Int)),b1)] [] (v0 (.val (.int .i64 (u.toNat:Int)))):=
 .conv (by unfold kG; rw [hs]) (by unfold kG; rw [hd]) (fun _=>Gr.2 (Nv ⟨by omega,by have:=u.toNat_lt; omega⟩)) (fun w=>by
  have:=u.toNat_lt
  rw [dF (by rw [hs]; rfl) hd w,aM,Fx (by omega)])
theorem zS {ts:Array TypeId}:∀ w,∀ cs,(builtin .max ts ty cs #[.int k x,.int k y]).run P w=.ok (.value (.int k (max x y))) w:=fun w cs=>by
 simp [builtin,Builtin.max_,Builtin.max2,go_sem]
 split <;> omega
theorem wO {ts:Array TypeId}:Fv P tk (.call ⟨.builtin .max,#[X,Y],ts⟩) ty [(.val (.int k x),b1),(.val (.int k y),b2)] [] (v0 (.val (.int k (max x y)))):=
 .callV2 (vx:=.int k x) (vy:=.int k y) (v:=.int k (max x y)) (by decide) (fun h h'=>by
  rcases Int.le_total x y with hxy | hxy
  ·rw [Int.max_eq_right hxy]; exact h'
  ·rw [Int.max_eq_left hxy]; exact h) zS
theorem vY {Z:Operand} {c:Bool} {d1 d2:DV} {b3:Option LB} (h:c=true):Fv P tk (.pick X Y Z) ty [(.val (.bool c),b1),(d1,b2),(d2,b3)] [] (v0 d1):=by subst h; exact .pick
theorem tI {Z:Operand} {c:Bool} {d1 d2:DV} {b3:Option LB} (h:c=false):Fv P tk (.pick X Y Z) ty [(.val (.bool c),b1),(d1,b2),(d2,b3)] [] (v0 d2):=by subst h; exact .pick
theorem Xg {s:ByteArray} (h:P.underlying t=some .string):Fv P tk (.call ⟨.builtin .len,#[X],#[t]⟩) ty [(.val (.string s),b1)] [] (v0 (.val (.int .i64 (s.size:Int)))):=
 .callV1 (fun h=>Gr.2 (Nv ⟨by omega,by have:=Nu.1 h; unfold maxLen at this; omega⟩)) (vJ h)
end
section
variable {P:Program} {tk:Nat} {t ty e sz bytes:Nat} {X Y:Operand} {b1 b2:Option LB} {α:Type} {f:α->List C} {l:List α} {n:Int} {k:IntKind} {j kr e':Nat} {x:α}
theorem aAx (h:Ij P t e sz bytes) (hf:∀ x,(f x).length=sz):Fv P tk (.call ⟨.builtin .len,#[X],#[t]⟩) ty [(.sl sz (An f l),b1)] [] (v0 (.val (.int .i64 (l.length:Int)))):=.len h.elem (.sl h.hsz (D0 hf l))
theorem xO (h:Ij P t e sz bytes) (hf:∀ x,(f x).length=sz):Fv P tk (.call ⟨.builtin .len,#[X],#[t]⟩) ty [(.row kr,some (.row e' sz (An f l)))] [] (v0 (.val (.int .i64 (l.length:Int)))):=.len h.elem (.row h.hsz (D0 hf l))
theorem aBj (h:Ij P t e sz bytes) (hf:∀ x,(f x).length=sz) (hj:n=(j:Int)) (hx:l[j]?=some x):Fv P tk (.indexAddr t X Y) ty [(.sl sz (An f l),b1),(.val (.int k n),b2)] [] (v0 (.elt ((An f l).drop (j * sz)))):=.idxS h hj (Xt hf hx)
theorem aAe (h:Ij P t e sz bytes) (hf:∀ x,(f x).length=sz) (hj:n=(j:Int)) (hx:l[j]?=some x):Fv P tk (.indexAddr t X Y) ty [(.row kr,some (.row e' sz (An f l))),(.val (.int k n),b2)] [] (v0 (.ptr kr (j * sz))):=.idxR h hj (Xt hf hx)
theorem Eu {s g off ft sz':Nat} {ag:Bool} {cs:List C} {a:Nat} (h:Fd P s g off ft) (ht:Ty P ft ag sz') (hz:0 < sz') (hl:a + off < cs.length):Fv P tk (.fieldAddr s X g) ty [(.elt (cs.drop a),b1)] [] (v0 (.elt (cs.drop (a + off)))):=by
 have:=Fv.fieldE (P:=P) (tk:=tk) (x:=X) (ty:=ty) (b:=b1) h ht hz (cs:=cs.drop a) (by rw [aD1]; omega)
 rwa [aHe] at this
theorem Bl {sz' a:Nat} {cs:List C} {c:C} (ht:Ty P t false sz') (h:cs[a]?=some c):Fv P tk (.load t X) ty [(.elt (cs.drop a),b1)] [] (v0 (T7 c)):=.loadE1 ht (by rw [aE8]; exact h)
theorem Dx {m a:Nat} {cs cs2:List C} (ht:Ty P t true m) (h:(cs.drop a).take m=cs2) (hl:a + m<=cs.length):Fv P tk (.load t X) ty [(.elt (cs.drop a),b1)] [] (v0 (.agg (cs2.map T7))):=by
 subst h
 exact .loadEA ht (by rw [aD1]; omega)
theorem P3 {m a s:Nat} {cs cs2:List C} (ht:Ty P t true m) (h:(cs.drop a).take m=cs2) (hl:a + m<=cs.length):Fv P tk (.load t X) ty [(.ptr kr a,some (.row e' s cs))] [] (v0 (.agg (cs2.map T7))):=by
 subst h
 exact .loadRA ht hl
theorem S0 {i s:Nat} {cs cs' cs2:List C} {ag:Bool} {d:DV} {sz':Nat} {ck:List (Option Nat)} (ht:Ty P t ag sz') (hs:(Cn d).length=sz') (hi:i + sz'<=cs.length) (hk:N2 P 20 t=ck) (hd:Ib ck (Cn d) cs') (h:Co cs i cs'=cs2):Fv P tk (.store t X Y) ty [(.ptr kr i,some (.row e' s cs)),(d,b2)] [kr] (oA kr (.row e' s cs2)):=by
 subst h
 exact .storeR ht hs hi hk hd
theorem Dg {d d':DV×Option LB} {l' l2:List α} {ks:List Nat} {kk:Nat} {cs cs':List C} (hS:Ij P t e sz bytes) (hf:∀ x,(f x).length=sz) (ht:tW d e sz cs ks) (hc:cs=An f l) (hs:X3 d' sz cs') (hc':cs'=An f l') (h:Gl kk l l'=some l2) (hk:sz * bytes=kk):Fv P tk (.call ⟨.builtin .append,#[X,Y],#[t,t]⟩) ty [d,d'] ks (L5 tk (.row e sz (An f l2)) ks (.row tk)):=by
 subst hc hc'
 obtain⟨h1,rfl⟩:=Qt h
 rw [Ju]
 refine .append hS ht hs ?_
 rw [D0 hf,D0 hf,<- aF2,Nat.mul_assoc,hk]
 exact h1
section
variable {lo hi:Operand} {a b:Int} {ka kb:IntKind} {b3:Option LB} {m:List α}
theorem R5 (hS:Ij P t e sz bytes) (hf:∀ x,(f x).length=sz) (h:Q8 l a b=some m):Fv P tk (.slice t X (some lo) (some hi) none) ty [(.sl sz (An f l),b1),(.val (.int ka a),b2),(.val (.int kb b),b3)] [] (v0 (.sl sz (An f m))):=by
 obtain⟨i,j,rfl,rfl,h1,h2,rfl⟩:=S7 h
 rw [<- bA hf l i j h1 h2]
 exact .sliS hS (D0 hf l) ⟨_,_,_,_,_,_,rfl,rfl,rfl⟩ ⟨h1,h2⟩
theorem Q5 (hS:Ij P t e sz bytes) (hf:∀ x,(f x).length=sz) (h:Q8 l a (l.length:Int)=some m):Fv P tk (.slice t X (some lo) none none) ty [(.sl sz (An f l),b1),(.val (.int ka a),b2)] [] (v0 (.sl sz (An f m))):=by
 obtain⟨i,j,rfl,hj,h1,h2,rfl⟩:=S7 h
 have:j=l.length:=by omega
 subst this
 rw [<- bA hf l i l.length h1 h2]
 exact .sliS hS (D0 hf l) ⟨⟨_,_,_,rfl,rfl⟩,rfl⟩ ⟨h1,h2⟩
end
theorem Qq {src dst:TypeId} {d:DV×Option LB} {cs:List C} {l:List UInt8} (hs:P.underlying src=some (.slice e)) (he:P.underlying e=some (.int .u8)) (hd:P.underlying dst=some .string) (h:Yv d 1 cs) (hc:cs=An e8 l):Fv P tk (.convert src dst X) ty [d] [] (v0 (.val (.string (Zr l)))):=.convS hs he hd h (hc.trans (wJ l))
theorem lG {src dst:TypeId} {s:ByteArray} (hs:P.underlying src=some .string) (hd:P.underlying dst=some (.slice e)) (he:P.underlying e=some (.int .u8)):Fv P tk (.convert src dst X) ty [(.val (.string s),b1)] [] (v0 (.sl 1 (An e8 (J7 s)))):=by
 have:=Fv.convB (P:=P) (tk:=tk) (x:=X) (ty:=ty) (b:=b1) (s:=s) hs hd he
 rw [<- wJ] at this
 exact this
end
theorem Cv.frzE {σ:St} {θ:Nat->Option Nat} {j e sz:Nat} {cs:List C} (h:σ.L j=some (.row e sz cs)) (h':(match σ.L j with | some _=>true | none=>false)=true) (hn:∀ k,θ k≠some j):Cv σ θ (.row j) (.sl sz cs):=.frz h hn
end Go.Proofs.YtfanepojdefdpaaGreat
namespace Go.Proofs.YtfanepojdefdpaaGreat
open Go.RowKit
mutual
theorem lH (f:Nat->Nat):∀ d,Iu d=[]->Iy f d=d
 | .row _,h=>by simp [Iu] at h
 | .part _ _ _,h=>by simp [Iu] at h
 | .ptr _ _,h=>by simp [Iu] at h
 | .nst _ _ _,h=>by simp [Iu] at h
 | .npt _ _ _ _,h=>by simp [Iu] at h
 | .npr _ _ _ _ _,h=>by simp [Iu] at h
 | .qpt _ _,h=>by simp [Iu] at h
 | .val _,_=>rfl
 | .sl _ _,_=>rfl
 | .slc _ _,_=>rfl
 | .mp _,_=>rfl
 | .elt _,_=>rfl
 | .agg ds,h=>by unfold Iu at h; unfold Iy; rw [Og f ds h]
 | .tup ds,h=>by unfold Iu at h; unfold Iy; rw [Og f ds h]
 | .clo _ _ ds,h=>by unfold Iu at h; unfold Iy; rw [Og f ds h]
theorem Og (f:Nat->Nat):∀ ds,M0 ds=[]->L9 f ds=ds
 | [],_=>rfl
 | d :: ds,h=>by
  unfold M0 at h
  have h1:=List.append_eq_nil_iff.1 h
  unfold L9
  rw [lH f d h1.1,Og f ds h1.2]
end
def nV:LB->List Nat
 | .box ds _=>M0 ds
 | .row ..=>[]
 | .map _=>[]
 | .mit k _ _=>[k]
 | .vec ds _=>M0 ds
 | .tree _ _ _ _ _ s _ _=>[s]
 | .gho=>[]
 | .abs ns _=>ns
 | .que ..=>[]
theorem tE (f:Nat->Nat) {lb:LB} (h:nV lb=[]):hY f lb=lb:=by
 cases lb with
 | box ds ty=>
  show LB.box (L9 f ds) ty=_
  rw [Og f ds h]
 | row=>rfl
 | map=>rfl
 | mit=>cases h
 | tree=>cases h
 | gho=>rfl
 | abs ns S=>
  have h:ns=[]:=h
  subst h
  rfl
 | que=>rfl
 | vec ds e=>
  show LB.vec (L9 f ds) e=_
  rw [Og f ds h]
def nH (ps gs:List Nat) (r:DV) (bx:List LB):K4:=⟨some r,fun k=>match D5 (ps.zip bx) k with | some lb=>some (some lb) | none=>bif gs.any (Nat.beq k) then some none else none⟩
theorem dO {ps:List Nat} {tk:Nat}:∀ {l:List Nat} {b:List LB} {i:Nat},(∀ j,l[j]?=ps[i + j]?)->b.length=l.length->(∀ lb∈b,nV lb=[])->T3 ps tk i b=l.zip b
 | [],[],_,_,_,_=>rfl
 | x :: l,lb :: b,i,hl,hb,ht=>by
  unfold T3
  have h0:=hl 0
  simp only [aGz] at h0
  have e1:G0 ps tk i=x:=by
   unfold G0
   rw [<- h0]
   rfl
  rw [e1,tE _ (ht lb (aE5 ..)),dO (l:=l) (fun j=>by have:=hl (j + 1); rw [show i + 1 + j=i + (j + 1) by omega,<- this]; rfl) (by simpa using hb) fun lb h=>ht lb (aEz _ h)]
  rfl
 | [],_ :: _,_,_,h,_=>by simp at h
 | _ :: _,[],_,_,h,_=>by simp at h
theorem lD {ps gs:List Nat} {tk:Nat} {r:DV} {b:List LB} (hr:Iu r=[]) (hl:b.length=ps.length) (hb:∀ lb∈b,nV lb=[]):Rg ps gs tk r b=nH ps gs r b:=by
 unfold Rg nH
 rw [lH _ _ hr,dO (l:=ps) (fun j=>by rw [aE6]) hl hb]
 rfl
section
variable {P:Program} {cx:Cx} {ops:Array Oper} {Rt:Option (List Nat)} {nb i:Nat} {l:List Oper} {lg:gS} {σ:St} {Q:St->Prop} {fz:List Nat}
theorem X9 {dst:Option Tmp} {f:FuncId} {xs:Array Operand} {tys:Array TypeId} {ty:TypeId} {pos:String} {af:Array Edge} {g:Option (Nat×Bool)} {dsA:List (DV×Option LB)} {rd ps gs:List Nat} {args:List DV} {bx:List LB} {d:DV} {b:List LB} (fl:Bool)
  (D:Kf ops σ ⟨dst,.call ⟨.value (.func f),xs,tys⟩,ty,pos,af,g⟩=some true)
  (hF:Fn P f ps.length args bx (fun d' b'=>d'=d/\b'=b)) (hds:Ey σ true xs.toList=some dsA) (hrd:Rj σ 3 (Uz dsA)=rd) (hA:Hm fl (ps ++ gs) (Ls σ rd) (dsA.map (·.1)) args) (hB:Y9 fl (ps ++ gs) (Ls σ rd) (ps ++ gs) bx) (hnd:Rv cx.np ps gs=true) (hfl:fl=true->I1 d/\∀ lb∈b,Nm lb)
  (hok:K7 Rt i true (nb + 8 * i) rd (ps ++ gs) lg=true) (hr:Iu d=[]) (hl:b.length=ps.length) (hb:b.flatMap nV=[])
  (k:Chain (Bi P cx fz) ops Rt nb (Fj (i + 1) l) ((i,true,nb + 8 * i,rd,ps ++ gs) :: lg) (σ.app dst (nH ps gs d b)) Q) :
  Chain (Bi P cx fz) ops Rt nb (Fj i (⟨dst,.call ⟨.value (.func f),xs,tys⟩,ty,pos,af,g⟩ :: l)) lg σ Q:=by
 refine Fg fl D hF hds hrd hA hB hnd (fun h r b=>?_) hok (fun _=>⟨_,_,⟨rfl,rfl⟩,by omega,by omega⟩) fun r b=>?_
 ·rintro⟨rfl,rfl⟩; exact hfl h
 ·rintro⟨rfl,rfl⟩
  rw [lD hr hl fun lb h=>?_]
  ·exact k
  ·have:=List.flatMap_eq_nil_iff.1 hb lb h
   exact this
theorem Qz {dst:Option Tmp} {t:Tmp} {f:FuncId} {n:Nat} {cs:List DV} {q:Option LB} {xs:Array Operand} {tys:Array TypeId} {ty:TypeId} {pos:String} {af:Array Edge} {g:Option (Nat×Bool)} {dsA:List (DV×Option LB)} {rd ps gs:List Nat} {args:List DV} {bx:List LB} {d:DV} {b:List LB} (fl:Bool)
  (D:Kf ops σ ⟨dst,.call ⟨.value (.tmp t),xs,tys⟩,ty,pos,af,g⟩=some true) (hc:ev σ true (.tmp t)=some (.clo f n cs,q))
  (hF:Fn P f ps.length args bx (fun d' b'=>d'=d/\b'=b)) (hds:Ey σ true xs.toList=some dsA) (hrd:Rj σ 3 (M0 cs ++ Uz dsA)=rd) (hA:Hm fl (ps ++ gs) (Ls σ rd) (cs.take n ++ (dsA.map (·.1) ++ cs.drop n)) args) (hB:Y9 fl (ps ++ gs) (Ls σ rd) (ps ++ gs) bx) (hnd:Rv cx.np ps gs=true) (hfl:fl=true->I1 d/\∀ lb∈b,Nm lb)
  (hok:K7 Rt i true (nb + 8 * i) rd (ps ++ gs) lg=true) (hr:Iu d=[]) (hl:b.length=ps.length) (hb:b.flatMap nV=[])
  (k:Chain (Bi P cx fz) ops Rt nb (Fj (i + 1) l) ((i,true,nb + 8 * i,rd,ps ++ gs) :: lg) (σ.app dst (nH ps gs d b)) Q) :
  Chain (Bi P cx fz) ops Rt nb (Fj i (⟨dst,.call ⟨.value (.tmp t),xs,tys⟩,ty,pos,af,g⟩ :: l)) lg σ Q:=by
 refine K0 fl D hc hF hds hrd hA hB hnd (fun h r b=>?_) hok (fun _=>⟨_,_,⟨rfl,rfl⟩,by omega,by omega⟩) fun r b=>?_
 ·rintro⟨rfl,rfl⟩; exact hfl h
 ·rintro⟨rfl,rfl⟩
  rw [lD hr hl fun lb h=>?_]
  ·exact k
  ·have:=List.flatMap_eq_nil_iff.1 hb lb h
   exact this
end
section
variable {P:Program} {tk:Nat} {t ty yt:TypeId} {X Y:Operand} {b1 b2:Option LB} {k k':IntKind} {x y:Int}
theorem Pj (k:IntKind) (z:Int):Fr (.int k (k.wrap z))=true:=by
 rw [Gr]
 cases k <;> simp [IntKind.wrap,IntKind.bits,IntKind.signed,IntKind.min,IntKind.max] <;> (try split) <;> omega
theorem yS:Fv P tk (.binOp .mul t X Y yt) ty [(.val (.int k x),b1),(.val (.int k y),b2)] [] (v0 (.val (.int k (k.wrap (x * y))))):=.binOp (fun _ _=>Pj _ _) jZ
theorem jP:Fv P tk (.binOp .and t X Y yt) ty [(.val (.int k x),b1),(.val (.int k y),b2)] [] (v0 (.val (.int k (Xh k x y)))):=.binOp (fun _ _=>Pj _ _) (fun w=>by simp [eqGuard,binOp,Op.intBits,Xh])
theorem pS:Fv P tk (.binOp .or t X Y yt) ty [(.val (.int k x),b1),(.val (.int k y),b2)] [] (v0 (.val (.int k (Zk k x y)))):=.binOp (fun _ _=>Pj _ _) (fun w=>by simp [eqGuard,binOp,Op.intBits,Zk])
theorem xG:Fv P tk (.unOp .xor t X) ty [(.val (.int k x),b1)] [] (v0 (.val (.int k (uD k x)))):=.unOp (fun _=>Pj _ _) (fun w=>by simp [Op.unary,Op.intBits,uD,Zg])
theorem yX:Fv P tk (.binOp .xor t X Y yt) ty [(.val (.int k x),b1),(.val (.int k y),b2)] [] (v0 (.val (.int k (Zg k x y)))):=.binOp (fun _ _=>Pj _ _) (fun w=>by simp [eqGuard,binOp,Op.intBits,Zg])
theorem uN (k:IntKind):k.min<=0/\0<=k.max:=by cases k <;> decide
theorem dW {x d:Int} (hx:x<=0) (hd:0 < d):x / d<=0:=by
 rcases Int.lt_trichotomy (x / d) 0 with h | h | h
 ·omega
 ·omega
 ·exfalso
  have h1:=Int.mul_ediv_add_emod x d
  have h2:=Int.emod_nonneg x (show d≠0 by omega)
  have h3:d * 1<=d * (x / d):=Int.mul_le_mul_of_nonneg_left (by omega) (by omega)
  omega
theorem Uo {z:Int} (h:Sa k x y=some z):Fv P tk (.binOp .shr t X Y yt) ty [(.val (.int k x),b1),(.val (.int k' y),b2)] [] (v0 (.val (.int k z))):=by
 obtain⟨h0,rfl⟩:=mQ h
 refine .binOp (fun hx _=>?_) (fun w=>by simp [eqGuard,binOp,Op.shift,h0])
 rw [Gr] at hx ⊢
 have hm:=uN k
 have hd:(0:Int) < 2 ^ min y.toNat k.bits:=Int.pow_pos (by omega)
 generalize (2:Int) ^ min y.toNat k.bits=d at hd
 rw [aHq _ (Int.le_of_lt hd)]
 rcases Int.le_total 0 x with hx0 | hx0
 ·have h1:=Int.ediv_nonneg hx0 (Int.le_of_lt hd)
  have h2:=Int.ediv_le_self d hx0
  omega
 ·have h1:x<=x / d:=by
   have:=Int.mul_ediv_add_emod x d
   have h3:=Int.emod_nonneg x (show d≠0 by omega)
   have h4:x / d<=0:=dW hx0 hd
   have h5:d * (x / d)<=1 * (x / d):=Int.mul_le_mul_of_nonpos_right (by omega) h4
   have h6:=Int.emod_lt_of_pos x hd
   by_cases h7:x / d=0
   ·omega
   ·have h8:x / d<=-1:=by omega
    have h9:(d - 1) * (x / d)<=(d - 1) * (-1):=Int.mul_le_mul_of_nonneg_left h8 (by omega)
    have h10:d * (x / d)=(d - 1) * (x / d) + x / d:=by rw [Int.sub_mul,Int.one_mul]; omega
    omega
  have h2:x / d<=0:=dW hx0 hd
  omega
theorem jK {z:Int} (h:fF k x y=some z):Fv P tk (.binOp .shl t X Y yt) ty [(.val (.int k x),b1),(.val (.int k' y),b2)] [] (v0 (.val (.int k z))):=by
 obtain⟨h0,rfl⟩:=nC h
 exact .binOp (fun _ _=>Pj _ _) (fun w=>by simp [eqGuard,binOp,Op.shift,h0])
theorem Wq {src dst:TypeId} (hs:P.underlying src=some (.int k)) (hd:P.underlying dst=some (.int k')):Fv P tk (.convert src dst X) ty [(.val (.int k x),b1)] [] (v0 (.val (.int k' (k'.wrap x)))):=
 .conv (by unfold kG; rw [hs]) (by unfold kG; rw [hd]) (fun _=>Pj _ _) (dF (by rw [hs]; rfl) hd)
theorem iP {s:ByteArray} {u:UInt8} (ht:P.underlying t=some .string) (h:idxT s x=some u):Fv P tk (.index t X Y) ty [(.val (.string s),b1),(.val (.int k x),b2)] [] (v0 (.val (.int .u8 (u.toNat:Int)))):=by
 unfold idxT at h
 split at h
 ·cases h
 ·rename_i h0
  have h1:0<=x:=by omega
  have hlt:=(aEx.1 h).1
  have hs:s[x.toNat]?=some u:=by
   have hlt':x.toNat < s.size:=hlt
   rw [getElem?_pos s x.toNat hlt']
   have:=(aEx.1 h).2
   exact congrArg some this
  exact .indexS (fun _ _=>ok8 _) (fun w=>by simp [Instr.index,asIntOf,run_underlying ht,h1,hs])
theorem bQ {a b:ByteArray}:Fv P tk (.binOp .geq t X Y yt) ty [(.val (.string a),b1),(.val (.string b),b2)] [] (v0 (.val (.bool (!Q3 (J7 a) (J7 b))))):=.binOp (fun _ _=>rfl) (fun w=>by
 simp [eqGuard,binOp,Op.stringOp,hX,ByteArray.toList_eq,J7])
end
section
variable {α:Type} {f:α->List C} {sz:Nat}
theorem Wj (hf:∀ x,(f x).length=sz) {l:List α} {i n:Nat} (h:i + n<=l.length):i * sz + n * sz<=(An f l).length:=by
 rw [D0 hf,<- aF2]
 exact aFu _ h
theorem rY (hf:∀ x,(f x).length=sz) {l:List α} {n:Nat} (h:(0:Int).toNat + n<=l.length):n * sz<=(An f l).length:=by
 have:=Wj hf (i:=0) (n:=n) (l:=l) h
 omega
theorem mX (hf:∀ x,(f x).length=sz) (l:List α) (n:Nat) (hn:(0:Int).toNat + n<=l.length):(An f l).take (n * sz)=An f ((l.drop (0:Int).toNat).take n):=by
 have:=Ts hf l 0 n hn
 rw [aHa,aH6] at this
 exact this
theorem Xz (hf:∀ x,(f x).length=sz) (h0:0 < sz) {l:List α} (h:An f l=[]):l=[]:=by
 have:=D0 hf l
 rw [h] at this
 rcases Nat.mul_eq_zero.1 this.symm with h1 | h1
 ·exact aDu h1
 ·omega
end
section
variable {P:Program} {tk:Nat} {t ty e sz bytes:Nat} {X Y:Operand} {b1 b2 b3:Option LB} {α:Type} {f:α->List C} {l m:List α} {n:Int} {k ka kb:IntKind} {j kr e':Nat} {x:α} {lo hi:Operand} {a b:Int}
theorem aH (hS:Ij P t e sz bytes) (hf:∀ x,(f x).length=sz) (h:Q8 l a (l.length:Int)=some m):Fv P tk (.slice t X (some lo) none none) ty [(.row kr,some (.row e' sz (An f l))),(.val (.int ka a),b2)] [] (v0 (.part kr (a.toNat * sz) ((l.length:Int).toNat - a.toNat))):=by
 obtain⟨i,j,rfl,hj,h1,h2,rfl⟩:=S7 h
 have:j=l.length:=by omega
 subst this
 exact .sliR hS (D0 hf l) ⟨⟨_,_,_,rfl,rfl⟩,rfl⟩ ⟨h1,h2⟩
theorem aC (hS:Ij P t e sz bytes) (hf:∀ x,(f x).length=sz) (h:Q8 l 0 b=some m):Fv P tk (.slice t X none (some hi) none) ty [(.row kr,some (.row e' sz (An f l))),(.val (.int kb b),b3)] [] (v0 (.part kr ((0:Int).toNat * sz) (b.toNat - (0:Int).toNat))):=by
 obtain⟨i,j,hi',rfl,h1,h2,rfl⟩:=S7 h
 have:i=0:=by omega
 subst this
 have e0:(0:Int).toNat * sz=0 * sz:=rfl
 exact .sliR hS (D0 hf l) ⟨⟨_,_,_,rfl,rfl⟩,rfl⟩ ⟨h1,h2⟩
theorem Yb {sz:Nat}:∀ (ds:List DV) (k:Nat) (pre rest:List DV),pre.length=k * sz->rest.length=ds.length * sz->(∀ d∈ds,(Cn d).length=sz)->Ia (fun i=>some (i * sz,sz)) (pre ++ rest) ((List.range' k ds.length).zip ds)=some (pre ++ ds.flatMap Cn)
 | [],k,pre,rest,_,hr,_=>by
  have:rest=[]:=aDu (by simpa using hr)
  subst this
  simp [Ia]
 | d :: ds,k,pre,rest,hp,hr,hd=>by
  have h0:=hd d (aE5 ..)
  have hr':rest.length=ds.length * sz + sz:=by rw [hr,aEw,aF2,aGm]
  rw [aEw,List.range'_succ,List.zip_cons_cons]
  unfold Ia
  simp only []
  have c1:Nat.beq (Cn d).length sz=true:=by rw [h0]; exact aGp _
  have c2:Nat.ble (k * sz + sz) (pre ++ rest).length=true:=aFx (by rw [aDw,hp,hr']; omega)
  rw [c1,c2]
  simp only [Bool.and_self,aEu]
  have e1:Co (pre ++ rest) (k * sz) (Cn d)=(pre ++ Cn d) ++ rest.drop sz:=by
   unfold Co
   rw [h0,<- hp,List.take_left,<- aHe,List.drop_left,aFv]
  rw [e1,Yb ds (k + 1) (pre ++ Cn d) (rest.drop sz) (by rw [aDw,hp,h0,aF2,aGm]) (by rw [aD1,hr']; omega) fun x hx=>hd x (aEz _ hx)]
  rw [aFe,aFv]
theorem As {len:Nat} {parts:Array (Nat×Operand)} {ds:List (DV×Option LB)} {z:List Value} {cs:List C} {ck:List (Option Nat)} (hS:Ij P t e sz bytes) (hz:Zt P e z) (hlen:len * sz<=16777216) (hp:parts.toList.map (·.1)=List.range' 0 len) (hzl:z.length=sz) (hn:ds.length=len) (hs:ds.all (fun q=>Nat.beq (Cn q.1).length sz)=true) (hk:N2 P 20 e=ck) (hc:Ib (List.replicate len ck).flatten (ds.flatMap fun q=>Cn q.1) cs) (ho:ds.all (fun q=>(Cn q.1).all T8)=true) (h:An f l=cs):Fv P tk (.buildSlice t len parts) ty ds [] (S8 tk (.row e sz (An f l)) (.row tk)):=by
 subst h
 refine .buildSl hS hz hlen ?_ hk hc ho
 have hd:=Yb (sz:=sz) (ds.map (·.1)) 0 [] ((List.replicate len (z.map DV.val)).flatten) (by simp) (by simp [hzl,hn]) fun d hd=>by
  obtain⟨q,hq,rfl⟩:=aFr.1 hd
  exact aDr (aEb.1 hs q hq)
 rw [aH1,aH1,aGf,hn] at hd
 rw [hp,hd]
 congr 1
 rw [List.flatMap_map]
theorem rL {i bt sz':Nat} {ds ds':List DV} {ag:Bool} {d:DV} {kk:Nat} (ht:Ty P t ag sz') (hs:(Cn d).length=sz') (hi:i + sz'<=ds.length) (ho:(Cn d).all T8=true) (h:Co ds i (Cn d)=ds'):Fv P tk (.store t X Y) ty [(.ptr kk i,some (.box ds bt)),(d,b2)] [kk] (oA kk (.box ds' bt)):=by
 subst h
 exact .storeB ht hs hi ho
theorem Zv {tk2:Nat} {m':Nat} {ds:List DV} {L:List α} (ht:P.underlying t=some (.array m' e)) (he:Ty P e true sz) (hf:∀ x,(f x).length=sz) (hds:ds=(An f L).map T7) (hL:L.length=m') (hx:C4 L n=some x) {d2:List DV} (h2:(f x).map T7=d2):Fv P tk2 (.index t X Y) ty [(.agg ds,b1),(.val (.int k n),b2)] [] (v0 (.agg d2)):=by
 have hx':=Aq hx
 refine .indexAA ht he (Tk hx) (by rw [<- hL]; exact (aBw.1 hx').1) ?_
 rw [hds,<- List.map_drop,<- List.map_take,<- h2]
 congr 1
 exact Cm hf hx' (o:=0) (by rw [aH6]; exact aFd (Nat.le_of_eq (hf _))) (by omega) rfl
end
def eA {α:Type} [Inhabited α] (n:Nat) (f:α->List C) (x:List α):List C:=(List.range n).flatMap fun i=>f (x[i]!)
theorem aA3 {α:Type} [Inhabited α] {n sz:Nat} {f:α->List C} (hf:∀ x,(f x).length=sz) (x:List α):(eA n f x).length=n * sz:=by
 unfold eA
 induction n with
 | zero=>simp
 | succ n ih=>rw [List.range_succ,List.flatMap_append,aDw,ih,aFe,aFo,aG9,hf,aF2,aGm]
class rQ (p:Prop) (q:outParam Prop):Prop where
 go:q->p
theorem Cw {p q:Prop} [s:rQ p q] (h:q):p:=s.go h
section
variable {next:St->Prop} {Q:Exit->St->Prop} {i:Nat} {σ:St}
instance:rQ (sW next Q .normal σ) (next σ):=⟨fun h=>h⟩
instance:rQ (sW next Q (.exit i) σ) (Q (.exit i) σ):=⟨fun h=>h⟩
instance:rQ (sW next Q .ret σ) (Q .ret σ):=⟨fun h=>h⟩
instance:rQ (wR i Q (.exit i) σ) (Q .normal σ):=⟨fun h=>oS h⟩
instance:rQ (wR i Q .normal σ) (Q .normal σ):=⟨fun h=>h⟩
instance:rQ (wR i Q .ret σ) (Q .ret σ):=⟨fun h=>h⟩
instance:rQ (noG Q .normal σ) (Q .normal σ):=⟨fun h=>h⟩
instance:rQ (noG Q (.exit i) σ) (Q (.exit i) σ):=⟨fun h=>h⟩
instance:rQ (noG Q .ret σ) (Q .ret σ):=⟨fun h=>h⟩
end
class sI (p:Prop) (q:outParam Prop):Prop where
 go:q->p
instance (priority:=low) stpN_nil (p:Prop):sI p p:=⟨fun h=>h⟩
instance aBv {p p' q:Prop} [s:rQ p p'] [t:sI p' q]:sI p q:=⟨fun h=>s.go (t.go h)⟩
theorem A4 {P:Program} {cx:Cx} {Q:Exit->St->Prop} {σ:St} {q:Prop} [s:sI (Q .ret σ) q] (h:q):Ca P cx .ret Q σ:=vO (s.go h)
theorem Cy {Q:Exit->St->Prop} {i j:Nat} {σ:St} (h:Q (.exit j) σ) (hne:j≠i:=by decide):wR i Q (.exit j) σ:=lU hne h
theorem A6 {P:Program} {cx:Cx} {id:Nat} {l:List Oper} {σ:St} {y:Code} {Q:Exit->St->Prop} (nb nb':Nat) (B:∀ k,nb<=k->σ.U k=false)
  (h:Chain (Bi P cx []) l.toArray none nb (Fj 0 l) [] σ (fun σ'=>(∀ j,nb'<=j->σ'.U j=false)->sW (Ca P cx y Q) Q .normal σ')) (hn:Nat.ble (nb + 8 * l.length) nb'=true:=by rfl) (hd:lM cx.N l=true:=by rfl):Ca P cx (.seq (.region id l.toArray false) y) Q σ:=
 Ah (Af (Bi _ _ []) nb nb' B hn hd h)
section
variable {P:Program} {cx:Cx} {ops:Array Oper} {Rt:Option (List Nat)} {nb i:Nat} {l:List Oper} {lg:gS} {σ:St} {Q:St->Prop} {fz:List Nat}
theorem Ai {Q:Exit->St->Prop} {nb':Nat} {q:Prop} [s:sI (Q .normal σ) q] (h:(∀ j,nb'<=j->σ.U j=false)->q):Chain (Bi P cx fz) ops Rt nb (Fj i []) lg σ (fun σ'=>(∀ j,nb'<=j->σ'.U j=false)->Q .normal σ'):=aEa fun B=>s.go (h B)
theorem Bj {dst:Option Tmp} {op:Op} {ty:TypeId} {pos:String} {af:Array Edge} {g:Option (Nat×Bool)} {ds:List (DV×Option LB)} {wr:List Nat} {e:K4} (D:Kf ops σ ⟨dst,op,ty,pos,af,g⟩=some true) (hds:Ey σ (I3 op) op.operands.toList=some ds) (h:Fv P (nb + 8 * i) op ty ds wr e)
  (hrd:(bif I3 op then Li (Ie op) ds else [])=[]) (hok:K7 Rt i false (nb + 8 * i) [] wr lg=true) (k:Chain (Bi P cx fz) ops Rt nb (Fj (i + 1) l) ((i,false,nb + 8 * i,[],wr) :: lg) (σ.app dst e) Q) (hz:zM fz (nb + 8 * i)=0:=by rfl) (hap:O5 cx.np op wr=true:=by rfl) :
  Chain (Bi P cx fz) ops Rt nb (Fj i (⟨dst,op,ty,pos,af,g⟩ :: l)) lg σ Q:=Ff (rd:=[]) D hds h hrd hok k hz hap
end
end Go.Proofs.YtfanepojdefdpaaGreat
namespace Go.Proofs.YtfanepojdefdpaaGreat
open Go.RowKit
theorem Mb.cut {cx:Cx} {σ σ':St} {t k n e sz:Nat} {cs:List C} (hk:cx.np<=k) (hF:σ.F t=some (.part k 0 n)) (hL:σ.L k=some (.row e sz cs)) (hn:n * sz<=cs.length)
  (hF':∀ s d,σ'.F s=some d->(d=.row k/\s=t)\/(σ.F s=some d/\¬ men d k)) (hL':∀ j lb,σ'.L j=some lb->(j=k/\lb=.row e sz (cs.take (n * sz)))\/(j≠k/\σ.L j=some lb/\¬ Nq lb k)) (B:∀ j,σ'.U j=σ.U j):Mb cx σ σ':=by
 rintro a w ⟨ρ,h⟩
 obtain⟨N,us,q1,q0,q2⟩:=h.lo _ _ hL
 have hr:=h.fr _ _ hF
 unfold B7 at hr
 obtain⟨A,c,hv,hnc,hc,hA,hB⟩:=hr
 have hlen:n * sz<=us.length:=by rw [<- q2.1]; exact hn
 have hblk:∀ b,Br (a.tmps.getD t undef)=some b->Br (ρ k)=some b:=fun b hb=>by
  rcases q1.2 with ⟨A',e,-⟩ | ⟨g',cap,cur,e,r1,-⟩
  ·obtain⟨t1,t2⟩:=hB rfl _ _ _ e
   rw [hv,t2] at hb
   cases A <;> cases hb
  ·obtain⟨t1,t2⟩:=hB rfl _ _ _ e
   rw [hv,t1] at hb
   rw [e,Gu r1,(Ft hb).1]
 have hown:w.rowOk e sz (a.tmps.getD t undef) n (us.take (n * sz)):=by
  refine⟨by rw [aDy]; omega,?_⟩
  rcases q1.2 with ⟨A',e,q3⟩ | ⟨g,cap,cur,e,r1,r2,r3,r4,r5,r6⟩
  ·obtain⟨t1,t2⟩:=hB rfl _ _ _ e
   refine .inl ⟨A',by rw [hv,t1,t2]; congr 1; omega,by omega⟩
  ·obtain⟨t1,t2⟩:=hB rfl _ _ _ e
   refine .inr ⟨g,cap,cur,by rw [hv,t1,t2],r1,r2,by omega,r4,r5,?_⟩
   have hle:n * sz<=N * sz:=by rw [<- q1.1]; exact hlen
   rw [<- r6,aH7,aHw hle]
 let ρ':Nat->Value:=fun j=>if j=k then a.tmps.getD t undef else ρ j
 have hk':ρ' k=a.tmps.getD t undef:=if_pos rfl
 have ho:∀ j,j≠k->ρ' j=ρ j:=fun j hj=>if_neg hj
 have loc:∀ j lb b,σ'.L j=some lb->own ρ' (ρ' j) lb b->∃ lb',σ.L j=some lb'/\own ρ (ρ j) lb' b:=fun j lb b hj hb=>by
  rcases hL' j lb hj with ⟨rfl,rfl⟩ | ⟨hne,h1,h2⟩
  ·rw [hk'] at hb; exact⟨_,hL,hblk b hb⟩
  ·rw [ho j hne] at hb; exact⟨_,h1,N5 (fun q hq=>(ho q fun e=>h2 (e ▸ hq)).symm) hb⟩
 have hI:∀ b,I4 cx σ ρ w b->I4 cx σ' ρ' w b/\w.heap[b]?=w.heap[b]?:=fun b hb=>by
  refine⟨⟨hb.1,fun hl=>?_,hb.2.2⟩,rfl⟩
  obtain⟨j,lb,h1,h2⟩:=hl
  obtain⟨lb',h3,h4⟩:=loc j lb b h1 h2
  exact hb.2.1 ⟨j,lb',h3,h4⟩
 refine⟨ρ',⟨h.defers,h.size,h.kept,fun s d hs=>?_,fun j lb hj=>?_,fun j j' lb lb' b h1 h2 h3 h4=>?_,fun s d j hs hm=>?_,fun j lb hj=>?_,fun j hj=>?_,fun j lb b hj hp hb=>?_⟩⟩
 ·rcases hF' s d hs with ⟨rfl,rfl⟩ | ⟨h1,h2⟩
  ·unfold B7
   rw [hk']
   refine⟨rfl,?_⟩
   rw [hv]; rfl
  ·exact B7.step hI d _ (fun j hj=>ho j fun e=>h2 (e ▸ hj)) (h.fr _ _ h1)
 ·rcases hL' j lb hj with ⟨rfl,rfl⟩ | ⟨hne,h1,h2⟩
  ·rw [hk']
   refine⟨n,us.take (n * sz),hown,fun b hb=>q0 b (hblk b hb),?_⟩
   refine Fb.keep_ (w:=w) ⟨by rw [aDy,aDy,q2.1],fun j c u a b=>?_⟩ (fun b hb=>rfl) fun b hb=>(hI b hb).1
   rw [aE9] at a b
   split at a
   ·rename_i hj
    rw [if_pos hj] at b
    exact q2.2 j c u a b
   ·cases a
  ·rw [ho j hne]
   exact (h.lo _ _ h1).step hI (fun j' hj'=>ho j' fun e=>h2 (e ▸ hj')) fun b _=>rfl
 ·obtain⟨_,e1,e2⟩:=loc _ _ _ h1 h3
  obtain⟨_,e3,e4⟩:=loc _ _ _ h2 h4
  exact h.sep _ _ _ _ _ e1 e3 e2 e4
 ·rw [B]
  rcases hF' s d hs with ⟨rfl,rfl⟩ | ⟨h1,h2⟩
  ·unfold men at hm
   subst hm
   exact (h.usedL _ _ hL).1
  ·exact h.usedF _ _ _ h1 hm
 ·rw [B]
  rcases hL' j lb hj with ⟨rfl,rfl⟩ | ⟨hne,h1,h2⟩
  ·exact⟨(h.usedL _ _ hL).1,fun k' hm=>hm.elim⟩
  ·exact⟨(h.usedL _ _ h1).1,fun k' hm=>by rw [B]; exact (h.usedL _ _ h1).2 k' hm⟩
 ·rw [B]
  exact⟨(ho j (by omega)).trans (h.pin j hj).1,(h.pin j hj).2⟩
 ·obtain⟨_,e1,e2⟩:=loc _ _ _ hj hb
  exact h.fresh _ _ _ e1 hp e2
def R2 (k:Nat) (lb:LB):List (Nat×LB)->List (Nat×LB)
 | []=>[]
 | (j,b) :: l=>bif Nat.beq j k then (j,lb) :: R2 k lb l else (j,b) :: R2 k lb l
end Go.Proofs.YtfanepojdefdpaaGreat
