import Derived.Test.YtfanepojdefdpaaGreatED
import Derived.KernelRfl
import Derived.Test.YtfanepojdefdpaaGreatPU
import Derived.Scope
set_option linter.unusedVariables false
set_option linter.unusedSimpArgs false
namespace Go.Proofs.YtfanepojdefdpaaGreat
open Go.RowKit
section
variable {Q:Exit->St->Prop} {next:St->Prop} {σ:St} {i j:Nat}
theorem gC (h:Q .normal σ):mK i Q (.exit i) σ:=by
 show (if i=i then _ else _)
 rw [if_pos rfl]
 exact h
theorem dC (hne:j≠i) (h:Q (.exit j) σ):mK i Q (.exit j) σ:=by
 show (if j=i then _ else _)
 rw [if_neg hne]
 exact h
end
theorem lS {P:Program} {t ty:TypeId} {s:ByteArray} (h:P.underlying t=some .string):∀ w,∀ cs,(builtin .len #[t] ty cs #[.string s]).run P w=.ok (.value (.int .i64 s.size)) w:=fun w cs=>by
 simp [builtin,Builtin.len_,run_underlying h,goInt]
section
variable {P:Program} {t:TypeId} {X Y:Operand}
end
section
variable {P:Program} {t:TypeId} {X Y:Operand} {k:IntKind} {x y:Int}
end
section
variable {P:Program} {t:TypeId} {X Y:Operand} {a b:ByteArray}
end
theorem Hu {θ:List (Nat×Nat)} {j:Nat} (h:(θ.all fun q=>!Nat.beq q.2 j)=true):∀ k,D5 θ k≠some j:=fun k hk=>by
 have:=vY.1 h _ (Fa hk)
 simp at this
theorem B9 {P:Program} {cx:Cx} {x y:Code} {Q:Exit->St->Prop} {σ:St} {ι:Type} (mid:ι->St) (ok:ι->Prop) (hx:Ce P cx x (mX (fun σ'=>∃ i,ok i/\O8 cx σ' (mid i)) Q) σ) (hy:∀ i,ok i->Ce P cx y Q (mid i)):Ce P cx (.seq x y) Q σ:=by
 refine Ah (jH ?_ hx)
 intro e σ' h
 cases e with
 | normal=>
  obtain⟨i,h1,h2⟩:=h
  exact Gf h2 (hy i h1)
 | _=>exact h
end Go.Proofs.YtfanepojdefdpaaGreat
namespace Go.Proofs.YtfanepojdefdpaaGreat
open Go.RowKit
mutual
def aG (j:Nat):DV->Bool
 | .part k _ _=>!Nat.beq k j
 | .ptr k _=>!Nat.beq k j
 | .agg ds=>Ve j ds
 | .tup ds=>Ve j ds
 | .clo _ _ ds=>Ve j ds
 | .val _=>true
 | .sl _ _=>true
 | .slc _ _=>true
 | .mp _=>true
 | .elt _=>true
 | .row _=>true
 | .nst k s _=>!Nat.beq k j && !Nat.beq s j
 | .npt k s _ _=>!Nat.beq k j && !Nat.beq s j
 | .npr k s _ _ _=>!Nat.beq k j && !Nat.beq s j
 | .qpt k _=>!Nat.beq k j
def Ve (j:Nat):List DV->Bool
 | []=>true
 | d :: ds=>aG j d && Ve j ds
end
mutual
def Hm (j sz:Nat) (cs:List C):DV->DV
 | .row k=>bif Nat.beq k j then .sl sz cs else .row k
 | .agg ds=>.agg (L4 j sz cs ds)
 | .tup ds=>.tup (L4 j sz cs ds)
 | .clo f n ds=>.clo f n (L4 j sz cs ds)
 | .val v=>.val v
 | .sl s c=>.sl s c
 | .slc s c=>.slc s c
 | .mp l=>.mp l
 | .elt c=>.elt c
 | .part k o n=>.part k o n
 | .ptr k i=>.ptr k i
 | .nst k s i=>.nst k s i
 | .npt k s i p=>.npt k s i p
 | .npr k s i p n'=>.npr k s i p n'
 | .qpt k i=>.qpt k i
def L4 (j sz:Nat) (cs:List C):List DV->List DV
 | []=>[]
 | d :: ds=>Hm j sz cs d :: L4 j sz cs ds
end
def St.frz (σ:St) (j sz:Nat) (cs:List C):St where
 F:=fun t=>match σ.F t with | some d=>bif aG j d then some (Hm j sz cs d) else none | none=>none
 L:=fun k=>bif Nat.beq k j then none else match σ.L k with | some (.box ds ty)=>(bif Ve j ds then some (.box (L4 j sz cs ds) ty) else none) | some (.row e s c)=>some (.row e s c) | _=>none
 U:=σ.U
theorem Gn {a b:Nat} (h:Nat.beq a b=false):a≠b:=fun e=>by
 subst e
 rw [yZ] at h; cases h
section
variable {σ:St} {j e sz:Nat} {cs:List C}
abbrev frzT (j:Nat) (k:Nat):Option Nat:=if k=j then none else some k
mutual
theorem Cv.frzD (h:σ.L j=some (.row e sz cs)):∀ d,aG j d=true->Cv σ (frzT j) d (Go.Proofs.YtfanepojdefdpaaGreat.Hm j sz cs d)
 | .val v,_=>by unfold Go.Proofs.YtfanepojdefdpaaGreat.Hm; exact .val v
 | .sl _ _,_=>by unfold Go.Proofs.YtfanepojdefdpaaGreat.Hm; exact .sl _ _
 | .slc _ _,_=>by unfold Go.Proofs.YtfanepojdefdpaaGreat.Hm; exact .slcc _ _
 | .mp _,_=>by unfold Go.Proofs.YtfanepojdefdpaaGreat.Hm; exact .mp _
 | .elt _,_=>by unfold Go.Proofs.YtfanepojdefdpaaGreat.Hm; exact .elt _
 | .row k,_=>by
  unfold Go.Proofs.YtfanepojdefdpaaGreat.Hm
  cases hb:Nat.beq k j with
  | true=>
   have:=vS hb
   subst this
   refine .frz h fun k' hk'=>?_
   unfold frzT at hk'
   split at hk'
   ·cases hk'
   ·rename_i hne
    injection hk' with hk'
    exact hne hk'
  | false=>exact .row (if_neg (Gn hb))
 | .part k _ _,hn=>by
  unfold aG at hn
  unfold Go.Proofs.YtfanepojdefdpaaGreat.Hm
  exact .part (if_neg (Gn (by simpa using hn)))
 | .ptr k _,hn=>by
  unfold aG at hn
  unfold Go.Proofs.YtfanepojdefdpaaGreat.Hm
  exact .ptr (if_neg (Gn (by simpa using hn)))
 | .nst k s _,hn=>by
  unfold aG at hn
  rw [vN] at hn
  unfold Go.Proofs.YtfanepojdefdpaaGreat.Hm
  exact .nst (if_neg (Gn (by simpa using hn.1))) (if_neg (Gn (by simpa using hn.2)))
 | .npt k s _ _,hn=>by
  unfold aG at hn
  rw [vN] at hn
  unfold Go.Proofs.YtfanepojdefdpaaGreat.Hm
  exact .npt (if_neg (Gn (by simpa using hn.1))) (if_neg (Gn (by simpa using hn.2)))
 | .npr k s _ _ _,hn=>by
  unfold aG at hn
  rw [vN] at hn
  unfold Go.Proofs.YtfanepojdefdpaaGreat.Hm
  exact .npr (if_neg (Gn (by simpa using hn.1))) (if_neg (Gn (by simpa using hn.2)))
 | .qpt k _,hn=>by
  unfold aG at hn
  unfold Go.Proofs.YtfanepojdefdpaaGreat.Hm
  exact .qpt (if_neg (Gn (by simpa using hn)))
 | .agg ds,hn=>by
  unfold aG at hn
  unfold Go.Proofs.YtfanepojdefdpaaGreat.Hm
  exact .agg (M2.frzDs h ds hn)
 | .tup ds,hn=>by
  unfold aG at hn
  unfold Go.Proofs.YtfanepojdefdpaaGreat.Hm
  exact .tup (M2.frzDs h ds hn)
 | .clo f n ds,hn=>by
  unfold aG at hn
  unfold Go.Proofs.YtfanepojdefdpaaGreat.Hm
  exact .clo f n (M2.frzDs h ds hn)
theorem M2.frzDs (h:σ.L j=some (.row e sz cs)):∀ ds,Ve j ds=true->M2 σ (frzT j) ds (Go.Proofs.YtfanepojdefdpaaGreat.L4 j sz cs ds)
 | [],_=>by unfold Go.Proofs.YtfanepojdefdpaaGreat.L4; exact .nil
 | d :: ds,hn=>by
  unfold Ve at hn
  simp only [vN] at hn
  unfold Go.Proofs.YtfanepojdefdpaaGreat.L4
  exact .cons (Cv.frzD h d hn.1) (M2.frzDs h ds hn.2)
end
mutual
theorem bD:∀ (d:DV) (k:Nat),men (Hm j sz cs d) k->men d k
 | .val _,k,h=>by unfold Hm men at h; exact h.elim
 | .sl _ _,k,h=>by unfold Hm men at h; exact h.elim
 | .slc _ _,k,h=>by unfold Hm men at h; exact h.elim
 | .mp _,k,h=>by unfold Hm men at h; exact h.elim
 | .elt _,k,h=>by unfold Hm men at h; exact h.elim
 | .row i,k,h=>by
  unfold Hm at h
  cases hb:Nat.beq i j with
  | true=>rw [hb] at h; simp only [wD] at h; unfold men at h; exact h.elim
  | false=>rw [hb] at h; exact h
 | .part _ _ _,k,h=>by unfold Hm at h; exact h
 | .ptr _ _,k,h=>by unfold Hm at h; exact h
 | .nst _ _ _,k,h=>by unfold Hm at h; exact h
 | .npt _ _ _ _,k,h=>by unfold Hm at h; exact h
 | .npr _ _ _ _ _,k,h=>by unfold Hm at h; exact h
 | .qpt _ _,k,h=>by unfold Hm at h; exact h
 | .agg ds,k,h=>by unfold Hm men at h; unfold men; exact Nf ds k h
 | .tup ds,k,h=>by unfold Hm men at h; unfold men; exact Nf ds k h
 | .clo _ _ ds,k,h=>by unfold Hm men at h; unfold men; exact Nf ds k h
theorem Nf:∀ (ds:List DV) (k:Nat),Eo (L4 j sz cs ds) k->Eo ds k
 | [],k,h=>by unfold L4 Eo at h; exact h.elim
 | d :: ds,k,h=>by
  unfold L4 Eo at h
  unfold Eo
  exact h.imp (bD d k) (Nf ds k)
end
theorem mJ {t:Nat} {d':DV} (h:(σ.frz j sz cs).F t=some d'):∃ d,σ.F t=some d/\aG j d=true/\d'=Hm j sz cs d:=by
 have h':(match σ.F t with | some d=>bif aG j d then some (Hm j sz cs d) else none | none=>none)=some d':=h
 cases hF:σ.F t with
 | none=>rw [hF] at h'; cases h'
 | some d=>
  rw [hF] at h'
  cases hn:aG j d with
  | false=>simp only [hn,vQ] at h'; cases h'
  | true=>simp only [hn,wD] at h'; injection h' with h'; exact⟨d,rfl,hn,h'.symm⟩
theorem mW {k:Nat} {lb':LB} (h:(σ.frz j sz cs).L k=some lb'):k≠j/\((∃ ds ty,σ.L k=some (.box ds ty)/\Ve j ds=true/\lb'=.box (L4 j sz cs ds) ty)\/∃ e s c,σ.L k=some (.row e s c)/\lb'=.row e s c):=by
 have h':(bif Nat.beq k j then none else match σ.L k with | some (.box ds ty)=>(bif Ve j ds then some (LB.box (L4 j sz cs ds) ty) else none) | some (.row e s c)=>some (.row e s c) | _=>none)=some lb':=h
 cases hb:Nat.beq k j with
 | true=>rw [hb] at h'; cases h'
 | false=>
  refine⟨Gn hb,?_⟩
  rw [hb] at h'
  simp only [vQ] at h'
  cases hL:σ.L k with
  | none=>rw [hL] at h'; cases h'
  | some lb=>
   rw [hL] at h'
   cases lb with
   | row e s c=>simp only [] at h'; injection h' with h'; exact .inr ⟨e,s,c,rfl,h'.symm⟩
   | map l=>cases h'
   | mit k' n s=>cases h'
   | vec ds e=>cases h'
   | tree=>cases h'
   | gho=>cases h'
   | que=>cases h'
   | box ds ty=>
    simp only [] at h'
    cases hn:Ve j ds with
    | false=>rw [hn] at h'; cases h'
    | true=>rw [hn] at h'; injection h' with h'; exact .inl ⟨ds,ty,rfl,hn,h'.symm⟩
theorem O8.frz {cx:Cx} (h:σ.L j=some (.row e sz cs)) (hj:Nat.ble cx.np j=true):O8 cx σ (σ.frz j sz cs):=by
 rintro a w ⟨ρ,ha⟩
 have hj':cx.np<=j:=vP hj
 refine⟨_,(ha.ren (σ':=σ.frz j sz cs) (frzT j) (fun t d' hd=>?_) (fun k lb' hl=>?_) (fun k k' i h1 h2=>?_) (fun k hk=>⟨if_neg (by omega),(ha.pin k hk).2⟩) (fun t d k hd hm=>?_) (fun k lb hl=>?_)).1⟩
 ·obtain⟨d,h1,h2,rfl⟩:=mJ hd
  exact⟨d,h1,Cv.frzD h d h2⟩
 ·obtain⟨hne,h1⟩:=mW hl
  refine .inl ?_
  rcases h1 with ⟨ds,ty,h1,h2,rfl⟩ | ⟨e',s,c,h1,rfl⟩
  ·exact⟨k,_,if_neg hne,h1,rfl,M2.frzDs h ds h2⟩
  ·exact⟨k,_,if_neg hne,h1,rfl,rfl,rfl⟩
 ·unfold frzT at h1 h2
  split at h1
  ·cases h1
  ·split at h2
   ·cases h2
   ·injection h1 with h1
    injection h2 with h2
    omega
 ·obtain⟨d',h1,h2,rfl⟩:=mJ hd
  exact ha.usedF t d' k h1 (bD d' k hm)
 ·obtain⟨hne,h1⟩:=mW hl
  rcases h1 with ⟨ds,ty,h1,h2,rfl⟩ | ⟨e',s,c,h1,rfl⟩
  ·exact⟨(ha.usedL k _ h1).1,fun k' hk'=>(ha.usedL k _ h1).2 k' (Nf ds k' hk')⟩
  ·exact⟨(ha.usedL k _ h1).1,fun k' hk'=>hk'.elim⟩
end
section
variable {P:Program} {cx:Cx} {ops:Array Oper} {Q:Exit->St->Prop} {l:List Oper} {σ σ':St}
def Wc (P:Program) (cx:Cx) (ops:Array Oper) (Q:Exit->St->Prop) (l:List Oper) (σ:St):Prop:=∀ a w,Hn cx σ a w->wpList P ops (post cx Q) l a w
theorem Wc.sub (h:O8 cx σ σ') (k:Wc P cx ops Q l σ'):Wc P cx ops Q l σ:=fun a w ha=>k a w (h a w ha)
theorem Wc.fin (h:Q .normal σ):Wc P cx ops Q [] σ:=fun a w ha=>⟨σ,h,ha⟩
variable {S:jV P cx} {nb nb':Nat}
theorem Q9 {l2:List Oper}:∀ (l:List Oper) (k:Nat) (lg:aK) (σ:St) (a:Act) (w:World),Chain S ops none nb (Ea k l) lg σ (fun σ'=>(∀ j,nb'<=j->σ'.U j=false)->Wc P cx ops Q l2 σ')->Qg nb (Ea k l) σ->gL cx (Ea k l)->(∀ j,nb'<=j->σ.U j=false)->nb + 8 * (k + l.length)<=nb'->Hn cx σ a w->wpList P ops (post cx Q) (l ++ l2) a w
 | [],k,lg,σ,a,w,h,_,_,B,_,ha=>h B a w ha
 | o :: l,k,lg,σ,a,w,h,hf,hd,B,hn,⟨ρ,ha⟩=>by
  have hf0:=hf (k,o) (by simp [Ea])
  have hd0:=hd (k,o) (by simp [Ea])
  have hf1:Qg nb (Ea (k + 1) l) σ:=fun q hq=>hf q (by simp [Ea,hq])
  have hd1:gL cx (Ea (k + 1) l):=fun q hq=>hd q (by simp [Ea,hq])
  have hne:∀ q∈Ea (k + 1) l,q.1≠k:=fun q hq=>by have:=(N5 hq).1; omega
  have hn':nb + 8 * (k + 1 + l.length)<=nb':=by simp at hn; omega
  have hUn:∀ {e:I0} {wr:List Nat} {rd:List Nat},(∀ j,e.l j≠none->j∈wr\/(nb + 8 * k<=j/\j < nb + 8 * k + 8))->(∀ j,j∈wr->j∈rd)->(∀ j,j∈rd->σ.U j=true)->∀ j,nb'<=j->(σ.app o.dst e).U j=false:=fun {e wr rd} hk hs hu j hj=>by
   cases hc:(σ.app o.dst e).U j with
   | false=>rfl
   | true=>
    rcases bO hc with h1 | h1
    ·rw [B j hj] at h1; cases h1
    ·rcases hk j h1 with h2 | h2
     ·exact absurd (hu j (hs j h2)) (by rw [B j hj]; simp)
     ·simp at hn; omega
  show wpList P ops (post cx Q) (o :: (l ++ l2)) a w
  unfold wpList
  rcases h with ⟨rd,wr,e,h1,-,h3⟩ | ⟨rd,wr,E,h1,-,-,h3⟩
  ·have hs:=h1.sound ha hf0 hd0
   have:=hs (wpList P ops (post cx Q) (l ++ l2)) (post cx Q) fun a' w' ha'=>Q9 l (k + 1) _ _ a' w' h3 (hf1.next h1.key.1 (fun j hj=>h1.used ha j (h1.key.2 j hj)) hne) hd1 (hUn h1.key.1 h1.key.2 (h1.used ha)) hn' ha'
   split
   ·rename_i hw
    rw [if_pos hw] at this
    exact .inl this
   ·rename_i hw
    rw [if_neg hw] at this
    exact this
  ·have:=h1.sound ha hf0 hd0 (wpList P ops (post cx Q) (l ++ l2)) (post cx Q) fun e a' w' he ha'=>Q9 l (k + 1) _ _ a' w' (h3 e he) (hf1.next (h1.key.1 e he) (fun j hj=>h1.used ha j (h1.key.2 j hj)) hne) hd1 (hUn (h1.key.1 e he) h1.key.2 (h1.used ha)) hn' ha'
   split
   ·rename_i hw
    rw [if_pos hw] at this
    exact .inl this
   ·rename_i hw
    rw [if_neg hw] at this
    exact this
theorem Wc.chain (S:jV P cx) (m nb nb':Nat) (B:∀ k,nb<=k->σ.U k=false) (hn:Nat.ble (nb + 8 * (l.take m).length) nb'=true) (hd:cN cx.N (l.take m)=true)
  (h:Chain S ops none nb (Ea 0 (l.take m)) [] σ (fun σ'=>(∀ j,nb'<=j->σ'.U j=false)->Wc P cx ops Q (l.drop m) σ')):Wc P cx ops Q l σ:=by
 intro a w ha
 have hn':nb + 8 * (l.take m).length<=nb':=vP hn
 have:=Q9 (l2:=l.drop m) (l.take m) 0 [] σ a w h (fun q hq j hj=>B _ (by omega)) (Q6 hd) (fun j hj=>B j (by omega)) (by simpa using hn') ha
 rwa [yB] at this
end
section
variable {P:Program} {f:FuncId} {args:List DV}
theorem Fn.plain {v:Value} {R:DV->List LB->Prop} {vs:List Value} {w:World} (h:Fn P f 0 args [] R) (hR:∀ r b,R r b->r=.val v) (ρ:Nat->Value) (I:Nat->Prop) (hI:∀ b,I b->b < w.heap.size) (hr:Bk ρ I w args vs):Calls P f vs.toArray w fun e w'=>e=.returned v/\Sv w w':=by
 refine (h.2.2 ρ I w vs (fun b hb=>⟨hI b hb,fun k hk=>by simp at hk⟩) hr (fun k lb h=>by simp at h) (fun k k' b hk=>by simp at hk)).mono ?_
 rintro e w' ⟨u,r,b,rfl,h1,h2⟩
 obtain⟨-,⟨o1,o2,o3,o4⟩,hk,⟨ρ',J,-,-,hrep,-⟩,-⟩:=h2
 rw [hR r b h1] at hrep
 unfold B1 at hrep
 rw [hrep.1]
 exact⟨rfl,o1,o2,o3,o4,fun b hb=>hk b hb fun k hk=>by simp at hk⟩
end
end Go.Proofs.YtfanepojdefdpaaGreat
namespace Go.Proofs.YtfanepojdefdpaaGreat
open Go.RowKit
def uC (Q:Exit->St->Prop):Exit->St->Prop
 | .normal,σ=>Q .normal σ
 | .exit i,σ=>Q (.exit i) σ
 | .goto _,_=>False
 | .ret,σ=>Q .ret σ
 | .panic c,σ=>Q (.panic c) σ
 | .outgrown,σ=>Q .outgrown σ
def Al {α:Type} (f:α->List C) (l:List α):List C:=l.flatMap f
def eI (x:Int):List C:=[.int .i64 x]
def eK (k:IntKind) (x:Int):List C:=[.int k x]
def e8 (x:UInt8):List C:=[.int .u8 (x.toNat:Int)]
def eS (x:ByteArray):List C:=[.str x]
def eB (x:Bool):List C:=[.bool x]
def eL {α:Type} (sz:Nat) (f:α->List C) (l:List α):List C:=[.sl sz (Al f l)]
theorem La (x:Int):(eI x).length=1:=rfl
theorem pX (k:IntKind) (x:Int):(eK k x).length=1:=rfl
theorem D7 (x:UInt8):(e8 x).length=1:=rfl
theorem Gz (x:ByteArray):(eS x).length=1:=rfl
theorem qI (x:Bool):(eB x).length=1:=rfl
theorem nY {α:Type} (sz:Nat) (f:α->List C) (l:List α):(eL sz f l).length=1:=rfl
section
variable {α:Type} {f:α->List C} {sz:Nat}
theorem Es (hf:∀ x,(f x).length=sz):∀ (l:List α),(Al f l).length=l.length * sz
 | []=>by simp [Al]
 | x :: l=>by
  have:=Es hf l
  unfold Al at this ⊢
  rw [wH,vR,hf,this,xA,xM,yR,Nat.add_comm]
theorem Ih (l m:List α):Al f (l ++ m)=Al f l ++ Al f m:=by unfold Al; rw [List.flatMap_append]
theorem Mc {l:List α} {j:Nat} {x:α} (hx:l[j]?=some x):Al f l=Al f (l.take j) ++ (f x ++ Al f (l.drop (j + 1))):=by
 have hj:=(vM.1 hx).1
 have hxe:=(vM.1 hx).2
 have e1:l=l.take j ++ (x :: l.drop (j + 1)):=by
  rw [<- hxe,List.getElem_cons_drop,yB]
 rw [show Al f l=Al f (l.take j ++ (x :: l.drop (j + 1))) from congrArg _ e1,Ih]
 rfl
theorem J7 (hf:∀ x,(f x).length=sz) {l:List α} {j:Nat} (hj:j<=l.length):(Al f (l.take j)).length=j * sz:=by
 rw [Es hf,vU,zS hj]
theorem Q2 (hf:∀ x,(f x).length=sz) {l:List α} {j:Nat} {x:α} (hx:l[j]?=some x):j * sz + sz<=(Al f l).length:=by
 have hj:=(vM.1 hx).1
 rw [Es hf]
 have:(j + 1) * sz<=l.length * sz:=xU _ hj
 rw [xM,yR] at this
 exact this
theorem D3 (hf:∀ x,(f x).length=sz) {l:List α} {j o:Nat} {x:α} (hx:l[j]?=some x) (ho:o < sz) {a:Nat} (ha:a=j * sz + o):a < (Al f l).length:=by
 have:=Q2 hf hx
 omega
theorem Uo (hf:∀ x,(f x).length=sz) {l:List α} {j o:Nat} {x:α} (hx:l[j]?=some x) (ho:o<=sz):(Al f l).drop (j * sz + o)=(f x).drop o ++ Al f (l.drop (j + 1)):=by
 have hj:=(vM.1 hx).1
 have ht:=J7 hf (l:=l) (j:=j) (by omega)
 rw [Mc hx,<- ht,<- aAe,List.drop_left,List.drop_append_of_le_length (by rw [hf]; exact ho)]
theorem Bh (hf:∀ x,(f x).length=sz) {l:List α} {j o:Nat} {x:α} {c:C} (hx:l[j]?=some x) (hc:(f x)[o]?=some c) {a:Nat} (ha:a=j * sz + o):(Al f l)[a]?=some c:=by
 subst ha
 have ho:o < sz:=by rw [<- hf x]; exact (vM.1 hc).1
 have e1:=Uo hf hx (Nat.le_of_lt ho)
 have e2:(Al f l)[j * sz + o]?=((Al f l).drop (j * sz + o))[0]?:=by rw [wK]; rfl
 rw [e2,e1,wE (by rw [wF,hf]; omega),wK]
 exact hc
theorem Bx (hf:∀ x,(f x).length=sz) {l:List α} {j o m:Nat} {x:α} {cs:List C} (hx:l[j]?=some x) (hs:((f x).drop o).take m=cs) (ho:o + m<=sz) {a:Nat} (ha:a=j * sz + o):((Al f l).drop a).take m=cs:=by
 subst ha
 rw [Uo hf hx (by omega),zD (by rw [wF,hf]; omega)]
 exact hs
theorem Ba (hf:∀ x,(f x).length=sz) {l:List α} {j o m:Nat} {x:α} (hx:l[j]?=some x) (ho:o + m<=sz) {a:Nat} (ha:a=j * sz + o):a + m<=(Al f l).length:=by
 have:=Q2 hf hx
 omega
theorem H9 (hf:∀ x,(f x).length=sz) {l:List α} {j o:Nat} {x x':α} {cs:List C} (hx:l[j]?=some x) (ho:o + cs.length<=sz) (hs:B8 (f x) o cs=f x') {a:Nat} (ha:a=j * sz + o):B8 (Al f l) a cs=Al f (Hf l j x'):=by
 subst ha
 have hj:=(vM.1 hx).1
 have ht:=J7 hf (l:=l) (j:=j) (by omega)
 have hset:Al f (Hf l j x')=Al f (l.take j) ++ (f x' ++ Al f (l.drop (j + 1))):=by
  have:(Hf l j x')[j]?=some x':=by unfold Hf; rw [yI hj]
  rw [Mc this]
  unfold Hf
  rw [List.take_set_of_le (wR _),List.drop_set_of_lt (by omega)]
 rw [hset,<- hs]
 unfold B8
 have e1:(Al f l).take (j * sz + o)=Al f (l.take j) ++ (f x).take o:=by
  rw [Mc hx,aAi,ht,zC,wO (by rw [ht]; omega)]
  congr 1
  rw [zD (by rw [hf]; omega)]
 have e2:(Al f l).drop (j * sz + o + cs.length)=(f x).drop (o + cs.length) ++ Al f (l.drop (j + 1)):=by
  rw [Nat.add_assoc,Uo hf hx ho]
 rw [e1,e2]
 simp only [wT]
theorem lY (hf:∀ x,(f x).length=sz) (l:List α) (i j:Nat) (hij:i<=j) (hj:j<=l.length):((Al f l).drop (i * sz)).take ((j - i) * sz)=Al f ((l.drop i).take (j - i)):=by
 have e0:Al f l=Al f (l.take i) ++ Al f (l.drop i):=by rw [<- Ih,yB]
 have e1:Al f (l.drop i)=Al f ((l.drop i).take (j - i)) ++ Al f ((l.drop i).drop (j - i)):=by rw [<- Ih,yB]
 rw [e0]
 have ht:=J7 hf (l:=l) (j:=i) (by omega)
 have hd:((Al f (l.take i)) ++ Al f (l.drop i)).drop (i * sz)=Al f (l.drop i):=by rw [<- ht,List.drop_left]
 rw [hd,e1]
 have ht2:=J7 hf (l:=l.drop i) (j:=j - i) (by rw [wF]; omega)
 rw [<- ht2,List.take_left]
end
theorem mO (l:List UInt8):Al e8 l=Gc l:=by
 induction l with
 | nil=>rfl
 | cons x l ih=>
  show e8 x ++ Al e8 l=_
  rw [ih]
  rfl
section
variable {P:Program} {tk:Nat} {t ty yt:TypeId} {X Y:Operand} {b1 b2:Option LB} {k:IntKind} {x y:Int}
theorem sH:Ex P tk (.binOp .lss t X Y yt) ty [(.val (.int k x),b1),(.val (.int k y),b2)] [] (v0 (.val (.bool (decide (x < y))))):=.binOp (fun _ _=>rfl) nZ
theorem rL:Ex P tk (.binOp .leq t X Y yt) ty [(.val (.int k x),b1),(.val (.int k y),b2)] [] (v0 (.val (.bool (decide (x<=y))))):=.binOp (fun _ _=>rfl) oT
theorem tP:Ex P tk (.binOp .gtr t X Y yt) ty [(.val (.int k x),b1),(.val (.int k y),b2)] [] (v0 (.val (.bool (decide (y < x))))):=.binOp (fun _ _=>rfl) nL
theorem sZ:Ex P tk (.binOp .geq t X Y yt) ty [(.val (.int k x),b1),(.val (.int k y),b2)] [] (v0 (.val (.bool (decide (y<=x))))):=.binOp (fun _ _=>rfl) oC
theorem tQ:Ex P tk (.binOp .eql t X Y yt) ty [(.val (.int k x),b1),(.val (.int k y),b2)] [] (v0 (.val (.bool (decide (x=y))))):=.binOp (fun _ _=>rfl) qF
theorem rY:Ex P tk (.binOp .neq t X Y yt) ty [(.val (.int k x),b1),(.val (.int k y),b2)] [] (v0 (.val (.bool (!decide (x=y))))):=.binOp (fun _ _=>rfl) (fun w=>by rw [qL w,decide_not])
theorem Vs (x:Int):IntKind.i64.wrap x=W x:=by rw [IntKind.wrap_i64]; unfold W; omega
theorem rW (x:Int):E6 (.int .i64 (W x))=true:=G5.2 (L8 (bG x))
theorem tM (x:Int):IntKind.u8.wrap x=((u8 x).toNat:Int):=by rw [IntKind.wrap_u8,Yb]
theorem vA (x:UInt8):E6 (.int .u8 (x.toNat:Int))=true:=G5.2 (Xs ⟨by omega,by have:=x.toNat_lt; omega⟩)
theorem tN:Ex P tk (.binOp .add t X Y yt) ty [(.val (.int .i64 x),b1),(.val (.int .i64 y),b2)] [] (v0 (.val (.int .i64 (W (x + y))))):=.binOp (fun _ _=>rW _) (fun w=>by rw [kH w,Vs])
theorem sC:Ex P tk (.binOp .sub t X Y yt) ty [(.val (.int .i64 x),b1),(.val (.int .i64 y),b2)] [] (v0 (.val (.int .i64 (W (x - y))))):=.binOp (fun _ _=>rW _) (fun w=>by rw [mA w,Vs])
theorem sW:Ex P tk (.binOp .mul t X Y yt) ty [(.val (.int .i64 x),b1),(.val (.int .i64 y),b2)] [] (v0 (.val (.int .i64 (W (x * y))))):=.binOp (fun _ _=>rW _) (fun w=>by rw [bE w,Vs])
theorem gW (x y:Int):(x.tmod y).natAbs<=x.natAbs:=by
 rw [Int.natAbs_tmod]
 exact Nat.mod_le _ _
theorem Zx {x y:Int} (h:-9223372036854775808<=x/\x<=9223372036854775807):-9223372036854775808<=x.tmod y/\x.tmod y<=9223372036854775807:=by
 have h0:=gW x y
 rcases Int.le_total 0 x with hx | hx
 ·have h1:=Int.tmod_nonneg y hx
  omega
 ·have e:x.tmod y=-((-x).tmod y):=by rw [Int.neg_tmod]; omega
  have h1:=Int.tmod_nonneg y (show 0<=-x by omega)
  omega
theorem lB {n:Int} (h:E6 (.int .i64 n)=true):-9223372036854775808<=n/\n<=9223372036854775807:=by
 have:=G5.1 h
 have h1:IntKind.i64.min=-9223372036854775808:=by decide
 have h2:IntKind.i64.max=9223372036854775807:=by decide
 rw [h1,h2] at this
 exact this
theorem Xr {z:Int} (h:Qy x y=some z):Ex P tk (.binOp .rem t X Y yt) ty [(.val (.int .i64 x),b1),(.val (.int .i64 y),b2)] [] (v0 (.val (.int .i64 z))):=by
 obtain⟨hy,rfl⟩:=cR h
 exact .binOp (fun h _=>G5.2 (L8 (Zx (lB h)))) (qC hy)
theorem bT {z:Int} (h:Qq x y=some z):Ex P tk (.binOp .quo t X Y yt) ty [(.val (.int .i64 x),b1),(.val (.int .i64 y),b2)] [] (v0 (.val (.int .i64 z))):=by
 obtain⟨hy,rfl⟩:=dZ h
 exact .binOp (fun _ _=>rW _) (fun w=>by rw [oS hy w,Vs])
theorem sV {b:Bool}:Ex P tk (.unOp .not t X) ty [(.val (.bool b),b1)] [] (v0 (.val (.bool (!b)))):=.unOp (fun _=>rfl) rB
theorem T5 {a b:Bool} (ht:P.underlying t=some .bool):Ex P tk (.binOp .eql t X Y yt) ty [(.val (.bool a),b1),(.val (.bool b),b2)] [] (v0 (.val (.bool (decide (a=b))))):=.binOp (fun _ _=>rfl) (fun w=>by cases a <;> cases b <;> simp [eqGuard,binOp,Op.equal,Op.maxDepth,run_equalIn_bool',ht])
theorem Zn {a b:Bool} (ht:P.underlying t=some .bool):Ex P tk (.binOp .neq t X Y yt) ty [(.val (.bool a),b1),(.val (.bool b),b2)] [] (v0 (.val (.bool (!decide (a=b))))):=.binOp (fun _ _=>rfl) (fun w=>by cases a <;> cases b <;> simp [eqGuard,binOp,Op.equal,Op.maxDepth,run_equalIn_bool',ht])
theorem qQ {a b:ByteArray}:Ex P tk (.binOp .eql t X Y yt) ty [(.val (.string a),b1),(.val (.string b),b2)] [] (v0 (.val (.bool (decide (a=b))))):=.binOp (fun _ _=>rfl) lU
theorem nH {a b:ByteArray}:Ex P tk (.binOp .neq t X Y yt) ty [(.val (.string a),b1),(.val (.string b),b2)] [] (v0 (.val (.bool (!decide (a=b))))):=.binOp (fun _ _=>rfl) (fun w=>by rw [kU w,decide_not])
theorem aB:∀ (a b:List UInt8),Op.bytesLess a b=Ns a b
 | _,[]=>by cases ‹List UInt8› <;> rfl
 | [],_ :: _=>rfl
 | a :: x,b :: y=>by unfold Op.bytesLess Ns; rw [aB x y]
theorem iY {a b:ByteArray}:Ex P tk (.binOp .lss t X Y yt) ty [(.val (.string a),b1),(.val (.string b),b2)] [] (v0 (.val (.bool (Ns (Hs a) (Hs b))))):=.binOp (fun _ _=>rfl) (fun w=>by
 simp [eqGuard,binOp,Op.stringOp,aB,ByteArray.toList_eq,Hs])
theorem sE {a b c:ByteArray} (h:fE a b=some c):Ex P tk (.binOp .add t X Y yt) ty [(.val (.string a),b1),(.val (.string b),b2)] [] (v0 (.val (.string c))):=by
 obtain⟨h1,rfl⟩:=eC h
 refine .binOp (fun _ _=>Ln.2 ?_) (fun w=>?_)
 ·rw [aAg]; exact h1
 ·have h2:¬ (9223372036854775807:Int) < ((a.size:Int) + (b.size:Int)):=by omega
  have hm:IntKind.i64.max=9223372036854775807:=by decide
  simp [eqGuard,binOp,Op.stringOp,hm,h2]
theorem Fq {src dst:TypeId} (hs:P.underlying src=some (.int k)) (hd:P.underlying dst=some (.int .u8)):Ex P tk (.convert src dst X) ty [(.val (.int k x),b1)] [] (v0 (.val (.int .u8 ((u8 x).toNat:Int)))):=
 .conv (by unfold bI; rw [hs]) (by unfold bI; rw [hd]) (fun _=>vA _) (fun w=>by rw [Xj (by rw [hs]; rfl) hd w,tM])
theorem Zh {src dst:TypeId} (hs:P.underlying src=some (.int k)) (hd:P.underlying dst=some (.int .i64)):Ex P tk (.convert src dst X) ty [(.val (.int k x),b1)] [] (v0 (.val (.int .i64 (W x)))):=
 .conv (by unfold bI; rw [hs]) (by unfold bI; rw [hd]) (fun _=>rW _) (fun w=>by rw [Xj (by rw [hs]; rfl) hd w,Vs])
theorem eF {src dst:TypeId} {u:UInt8} (hs:P.underlying src=some (.int .u8)) (hd:P.underlying dst=some (.int .i64)):Ex P tk (.convert src dst X) ty [(.val (.int .u8 (u.toNat:Int)),b1)] [] (v0 (.val (.int .i64 (u.toNat:Int)))):=
 .conv (by unfold bI; rw [hs]) (by unfold bI; rw [hd]) (fun _=>G5.2 (L8 ⟨by omega,by have:=u.toNat_lt; omega⟩)) (fun w=>by
  have:=u.toNat_lt
  rw [Xj (by rw [hs]; rfl) hd w,Vs,Hy (by omega)])
theorem pL {ts:Array TypeId}:∀ w,∀ cs,(builtin .max ts ty cs #[.int k x,.int k y]).run P w=.ok (.value (.int k (max x y))) w:=fun w cs=>by
 simp [builtin,Builtin.max_,Builtin.max2,go_sem]
 split <;> omega
theorem mZ {ts:Array TypeId}:Ex P tk (.call ⟨.builtin .max,#[X,Y],ts⟩) ty [(.val (.int k x),b1),(.val (.int k y),b2)] [] (v0 (.val (.int k (max x y)))):=
 .callV2 (vx:=.int k x) (vy:=.int k y) (v:=.int k (max x y)) (by decide) (fun h h'=>by
  rcases Int.le_total x y with hxy | hxy
  ·rw [Int.max_eq_right hxy]; exact h'
  ·rw [Int.max_eq_left hxy]; exact h) pL
theorem lD {Z:Operand} {c:Bool} {d1 d2:DV} {b3:Option LB} (h:c=true):Ex P tk (.pick X Y Z) ty [(.val (.bool c),b1),(d1,b2),(d2,b3)] [] (v0 d1):=by subst h; exact .pick
theorem kZ {Z:Operand} {c:Bool} {d1 d2:DV} {b3:Option LB} (h:c=false):Ex P tk (.pick X Y Z) ty [(.val (.bool c),b1),(d1,b2),(d2,b3)] [] (v0 d2):=by subst h; exact .pick
theorem Qt {s:ByteArray} (h:P.underlying t=some .string):Ex P tk (.call ⟨.builtin .len,#[X],#[t]⟩) ty [(.val (.string s),b1)] [] (v0 (.val (.int .i64 (s.size:Int)))):=
 .callV1 (fun h=>G5.2 (L8 ⟨by omega,by have:=Ln.1 h; unfold maxLen at this; omega⟩)) (lS h)
end
section
variable {P:Program} {tk:Nat} {t ty e sz bytes:Nat} {X Y:Operand} {b1 b2:Option LB} {α:Type} {f:α->List C} {l:List α} {n:Int} {k:IntKind} {j kr e':Nat} {x:α}
theorem oG (h:Ht P t e sz bytes) (hf:∀ x,(f x).length=sz):Ex P tk (.call ⟨.builtin .len,#[X],#[t]⟩) ty [(.sl sz (Al f l),b1)] [] (v0 (.val (.int .i64 (l.length:Int)))):=.len h.elem (.sl h.hsz (Es hf l))
theorem qG (h:Ht P t e sz bytes) (hf:∀ x,(f x).length=sz):Ex P tk (.call ⟨.builtin .len,#[X],#[t]⟩) ty [(.row kr,some (.row e' sz (Al f l)))] [] (v0 (.val (.int .i64 (l.length:Int)))):=.len h.elem (.row h.hsz (Es hf l))
theorem pJ (h:Ht P t e sz bytes) (hf:∀ x,(f x).length=sz) (hj:n=(j:Int)) (hx:l[j]?=some x):Ex P tk (.indexAddr t X Y) ty [(.sl sz (Al f l),b1),(.val (.int k n),b2)] [] (v0 (.elt ((Al f l).drop (j * sz)))):=.idxS h hj (Q2 hf hx)
theorem oK (h:Ht P t e sz bytes) (hf:∀ x,(f x).length=sz) (hj:n=(j:Int)) (hx:l[j]?=some x):Ex P tk (.indexAddr t X Y) ty [(.row kr,some (.row e' sz (Al f l))),(.val (.int k n),b2)] [] (v0 (.ptr kr (j * sz))):=.idxR h hj (Q2 hf hx)
theorem Dg {s g off ft sz':Nat} {ag:Bool} {cs:List C} {a:Nat} (h:Fd P s g off ft) (ht:Ty P ft ag sz') (hz:0 < sz') (hl:a + off < cs.length):Ex P tk (.fieldAddr s X g) ty [(.elt (cs.drop a),b1)] [] (v0 (.elt (cs.drop (a + off)))):=by
 have:=Ex.fieldE (P:=P) (tk:=tk) (x:=X) (ty:=ty) (b:=b1) h ht hz (cs:=cs.drop a) (by rw [wF]; omega)
 rwa [aAe] at this
theorem Bt {sz' a:Nat} {cs:List C} {c:C} (ht:Ty P t false sz') (h:cs[a]?=some c):Ex P tk (.load t X) ty [(.elt (cs.drop a),b1)] [] (v0 (Qm c)):=.loadE1 ht (by rw [wK]; exact h)
theorem C1 {m a:Nat} {cs cs2:List C} (ht:Ty P t true m) (h:(cs.drop a).take m=cs2) (hl:a + m<=cs.length):Ex P tk (.load t X) ty [(.elt (cs.drop a),b1)] [] (v0 (.agg (cs2.map Qm))):=by
 subst h
 exact .loadEA ht (by rw [wF]; omega)
theorem L0 {m a s:Nat} {cs cs2:List C} (ht:Ty P t true m) (h:(cs.drop a).take m=cs2) (hl:a + m<=cs.length):Ex P tk (.load t X) ty [(.ptr kr a,some (.row e' s cs))] [] (v0 (.agg (cs2.map Qm))):=by
 subst h
 exact .loadRA ht hl
theorem Yf {i s:Nat} {cs cs' cs2:List C} {ag:Bool} {d:DV} {sz':Nat} {ck:List (Option Nat)} (ht:Ty P t ag sz') (hs:(B3 d).length=sz') (hi:i + sz'<=cs.length) (hk:Lz P 20 t=ck) (hd:Gs ck (B3 d) cs') (h:B8 cs i cs'=cs2):Ex P tk (.store t X Y) ty [(.ptr kr i,some (.row e' s cs)),(d,b2)] [kr] (eW kr (.row e' s cs2)):=by
 subst h
 exact .storeR ht hs hi hk hd
theorem Cs {d d':DV×Option LB} {l' l2:List α} {ks:List Nat} {kk:Nat} {cs cs':List C} (hS:Ht P t e sz bytes) (hf:∀ x,(f x).length=sz) (ht:kA d e sz cs ks) (hc:cs=Al f l) (hs:U0 d' sz cs') (hc':cs'=Al f l') (h:Fk kk l l'=some l2) (hk:sz * bytes=kk):Ex P tk (.call ⟨.builtin .append,#[X,Y],#[t,t]⟩) ty [d,d'] ks (Jt tk (.row e sz (Al f l2)) ks (.row tk)):=by
 subst hc hc'
 obtain⟨h1,rfl⟩:=Q0 h
 rw [Ih]
 refine .append hS ht hs ?_
 rw [Es hf,Es hf,<- xM,Nat.mul_assoc,hk]
 exact h1
section
variable {lo hi:Operand} {a b:Int} {ka kb:IntKind} {b3:Option LB} {m:List α}
theorem dH (hS:Ht P t e sz bytes) (hf:∀ x,(f x).length=sz) (h:rD l a (l.length:Int)=some m):Ex P tk (.slice t X (some lo) none none) ty [(.sl sz (Al f l),b1),(.val (.int ka a),b2)] [] (v0 (.sl sz (Al f m))):=by
 obtain⟨i,j,rfl,hj,h1,h2,rfl⟩:=fJ h
 have:j=l.length:=by omega
 subst this
 rw [<- lY hf l i l.length h1 h2]
 exact .sliS hS (Es hf l) ⟨⟨_,_,_,rfl,rfl⟩,rfl⟩ ⟨h1,h2⟩
end
theorem bA {src dst:TypeId} {d:DV×Option LB} {cs:List C} {l:List UInt8} (hs:P.underlying src=some (.slice e)) (he:P.underlying e=some (.int .u8)) (hd:P.underlying dst=some .string) (h:Tv d 1 cs) (hc:cs=Al e8 l):Ex P tk (.convert src dst X) ty [d] [] (v0 (.val (.string (uI l)))):=.convS hs he hd h (hc.trans (mO l))
theorem W8 {src dst:TypeId} {s:ByteArray} (hs:P.underlying src=some .string) (hd:P.underlying dst=some (.slice e)) (he:P.underlying e=some (.int .u8)):Ex P tk (.convert src dst X) ty [(.val (.string s),b1)] [] (v0 (.sl 1 (Al e8 (Hs s)))):=by
 have:=Ex.convB (P:=P) (tk:=tk) (x:=X) (ty:=ty) (b:=b1) (s:=s) hs hd he
 rw [<- mO] at this
 exact this
end
theorem Cv.frzE {σ:St} {θ:Nat->Option Nat} {j e sz:Nat} {cs:List C} (h:σ.L j=some (.row e sz cs)) (h':(match σ.L j with | some _=>true | none=>false)=true) (hn:∀ k,θ k≠some j):Cv σ θ (.row j) (.sl sz cs):=.frz h hn
end Go.Proofs.YtfanepojdefdpaaGreat
namespace Go.Proofs.YtfanepojdefdpaaGreat
open Go.RowKit
mutual
theorem bY (f:Nat->Nat):∀ d,G4 d=[]->G8 f d=d
 | .row _,h=>by simp [G4] at h
 | .part _ _ _,h=>by simp [G4] at h
 | .ptr _ _,h=>by simp [G4] at h
 | .nst _ _ _,h=>by simp [G4] at h
 | .npt _ _ _ _,h=>by simp [G4] at h
 | .npr _ _ _ _ _,h=>by simp [G4] at h
 | .qpt _ _,h=>by simp [G4] at h
 | .val _,_=>rfl
 | .sl _ _,_=>rfl
 | .slc _ _,_=>rfl
 | .mp _,_=>rfl
 | .elt _,_=>rfl
 | .agg ds,h=>by unfold G4 at h; unfold G8; rw [Lu f ds h]
 | .tup ds,h=>by unfold G4 at h; unfold G8; rw [Lu f ds h]
 | .clo _ _ ds,h=>by unfold G4 at h; unfold G8; rw [Lu f ds h]
theorem Lu (f:Nat->Nat):∀ ds,Kj ds=[]->Js f ds=ds
 | [],_=>rfl
 | d :: ds,h=>by
  unfold Kj at h
  have h1:=List.append_eq_nil_iff.1 h
  unfold Js
  rw [bY f d h1.1,Lu f ds h1.2]
end
def eO:LB->List Nat
 | .box ds _=>Kj ds
 | .row ..=>[]
 | .map _=>[]
 | .mit k _ _=>[k]
 | .vec ds _=>Kj ds
 | .tree _ _ _ _ _ s _ _=>[s]
 | .gho=>[]
 | .que ..=>[]
theorem kL (f:Nat->Nat) {lb:LB} (h:eO lb=[]):Zb f lb=lb:=by
 cases lb with
 | box ds ty=>
  show LB.box (Js f ds) ty=_
  rw [Lu f ds h]
 | row=>rfl
 | map=>rfl
 | mit=>cases h
 | tree=>cases h
 | gho=>rfl
 | que=>rfl
 | vec ds e=>
  show LB.vec (Js f ds) e=_
  rw [Lu f ds h]
def eN (ps gs:List Nat) (r:DV) (bx:List LB):I0:=⟨some r,fun k=>match D5 (ps.zip bx) k with | some lb=>some (some lb) | none=>bif gs.any (Nat.beq k) then some none else none⟩
theorem Yg {ps:List Nat} {tk:Nat}:∀ {l:List Nat} {b:List LB} {i:Nat},(∀ j,l[j]?=ps[i + j]?)->b.length=l.length->(∀ lb∈b,eO lb=[])->Pd ps tk i b=l.zip b
 | [],[],_,_,_,_=>rfl
 | x :: l,lb :: b,i,hl,hb,ht=>by
  unfold Pd
  have h0:=hl 0
  simp only [aAq] at h0
  have e1:Fy ps tk i=x:=by
   unfold Fy
   rw [<- h0]
   rfl
  rw [e1,kL _ (ht lb (wL ..)),Yg (l:=l) (fun j=>by have:=hl (j + 1); rw [show i + 1 + j=i + (j + 1) by omega,<- this]; rfl) (by simpa using hb) fun lb h=>ht lb (wG _ h)]
  rfl
 | [],_ :: _,_,_,h,_=>by simp at h
 | _ :: _,[],_,_,h,_=>by simp at h
theorem bP {ps gs:List Nat} {tk:Nat} {r:DV} {b:List LB} (hr:G4 r=[]) (hl:b.length=ps.length) (hb:∀ lb∈b,eO lb=[]):Oe ps gs tk r b=eN ps gs r b:=by
 unfold Oe eN
 rw [bY _ _ hr,Yg (l:=ps) (fun j=>by rw [wU]) hl hb]
 rfl
section
variable {P:Program} {cx:Cx} {ops:Array Oper} {Rt:Option (List Nat)} {nb i:Nat} {l:List Oper} {lg:aK} {σ:St} {Q:St->Prop} {fz:List Nat}
theorem Y8 {dst:Option Tmp} {f:FuncId} {xs:Array Operand} {tys:Array TypeId} {ty:TypeId} {pos:String} {af:Array Edge} {g:Option (Nat×Bool)} {dsA:List (DV×Option LB)} {rd ps gs:List Nat} {args:List DV} {bx:List LB} {d:DV} {b:List LB} (fl:Bool)
  (D:H8 ops σ ⟨dst,.call ⟨.value (.func f),xs,tys⟩,ty,pos,af,g⟩=some true)
  (hF:Fn P f ps.length args bx (fun d' b'=>d'=d/\b'=b)) (hds:Dx σ true xs.toList=some dsA) (hrd:My σ 3 (Od dsA)=rd) (hA:M5 fl (ps ++ gs) (Jp σ rd) (dsA.map (·.1)) args) (hB:Vl fl (ps ++ gs) (Jp σ rd) (ps ++ gs) bx) (hnd:Ph cx.np ps gs=true) (hfl:fl=true->Is d/\∀ lb∈b,Pt lb)
  (hok:Iy Rt i true (nb + 8 * i) rd (ps ++ gs) lg=true) (hr:G4 d=[]) (hl:b.length=ps.length) (hb:b.flatMap eO=[])
  (k:Chain (Bp P cx fz) ops Rt nb (Ea (i + 1) l) ((i,true,nb + 8 * i,rd,ps ++ gs) :: lg) (σ.app dst (eN ps gs d b)) Q) :
  Chain (Bp P cx fz) ops Rt nb (Ea i (⟨dst,.call ⟨.value (.func f),xs,tys⟩,ty,pos,af,g⟩ :: l)) lg σ Q:=by
 refine Hi fl D hF hds hrd hA hB hnd (fun h r b=>?_) hok (fun _=>⟨_,_,⟨rfl,rfl⟩,by omega,by omega⟩) fun r b=>?_
 ·rintro⟨rfl,rfl⟩; exact hfl h
 ·rintro⟨rfl,rfl⟩
  rw [bP hr hl fun lb h=>?_]
  ·exact k
  ·have:=List.flatMap_eq_nil_iff.1 hb lb h
   exact this
theorem Lf {dst:Option Tmp} {t:Tmp} {f:FuncId} {n:Nat} {cs:List DV} {q:Option LB} {xs:Array Operand} {tys:Array TypeId} {ty:TypeId} {pos:String} {af:Array Edge} {g:Option (Nat×Bool)} {dsA:List (DV×Option LB)} {rd ps gs:List Nat} {args:List DV} {bx:List LB} {d:DV} {b:List LB} (fl:Bool)
  (D:H8 ops σ ⟨dst,.call ⟨.value (.tmp t),xs,tys⟩,ty,pos,af,g⟩=some true) (hc:ev σ true (.tmp t)=some (.clo f n cs,q))
  (hF:Fn P f ps.length args bx (fun d' b'=>d'=d/\b'=b)) (hds:Dx σ true xs.toList=some dsA) (hrd:My σ 3 (Kj cs ++ Od dsA)=rd) (hA:M5 fl (ps ++ gs) (Jp σ rd) (cs.take n ++ (dsA.map (·.1) ++ cs.drop n)) args) (hB:Vl fl (ps ++ gs) (Jp σ rd) (ps ++ gs) bx) (hnd:Ph cx.np ps gs=true) (hfl:fl=true->Is d/\∀ lb∈b,Pt lb)
  (hok:Iy Rt i true (nb + 8 * i) rd (ps ++ gs) lg=true) (hr:G4 d=[]) (hl:b.length=ps.length) (hb:b.flatMap eO=[])
  (k:Chain (Bp P cx fz) ops Rt nb (Ea (i + 1) l) ((i,true,nb + 8 * i,rd,ps ++ gs) :: lg) (σ.app dst (eN ps gs d b)) Q) :
  Chain (Bp P cx fz) ops Rt nb (Ea i (⟨dst,.call ⟨.value (.tmp t),xs,tys⟩,ty,pos,af,g⟩ :: l)) lg σ Q:=by
 refine gZ fl D hc hF hds hrd hA hB hnd (fun h r b=>?_) hok (fun _=>⟨_,_,⟨rfl,rfl⟩,by omega,by omega⟩) fun r b=>?_
 ·rintro⟨rfl,rfl⟩; exact hfl h
 ·rintro⟨rfl,rfl⟩
  rw [bP hr hl fun lb h=>?_]
  ·exact k
  ·have:=List.flatMap_eq_nil_iff.1 hb lb h
   exact this
end
section
variable {P:Program} {tk:Nat} {t ty yt:TypeId} {X Y:Operand} {b1 b2:Option LB} {k k':IntKind} {x y:Int}
theorem S7 (k:IntKind) (z:Int):E6 (.int k (k.wrap z))=true:=by
 rw [G5]
 cases k <;> simp [IntKind.wrap,IntKind.bits,IntKind.signed,IntKind.min,IntKind.max] <;> (try split) <;> omega
theorem oA:Ex P tk (.binOp .mul t X Y yt) ty [(.val (.int k x),b1),(.val (.int k y),b2)] [] (v0 (.val (.int k (k.wrap (x * y))))):=.binOp (fun _ _=>S7 _ _) bE
theorem gX:Ex P tk (.binOp .and t X Y yt) ty [(.val (.int k x),b1),(.val (.int k y),b2)] [] (v0 (.val (.int k (dW k x y)))):=.binOp (fun _ _=>S7 _ _) (fun w=>by simp [eqGuard,binOp,Op.intBits,dW])
theorem oP:Ex P tk (.binOp .xor t X Y yt) ty [(.val (.int k x),b1),(.val (.int k y),b2)] [] (v0 (.val (.int k (X0 k x y)))):=.binOp (fun _ _=>S7 _ _) (fun w=>by simp [eqGuard,binOp,Op.intBits,X0])
theorem lL (k:IntKind):k.min<=0/\0<=k.max:=by cases k <;> decide
theorem X6 {x d:Int} (hx:x<=0) (hd:0 < d):x / d<=0:=by
 rcases Int.lt_trichotomy (x / d) 0 with h | h | h
 ·omega
 ·omega
 ·exfalso
  have h1:=Int.mul_ediv_add_emod x d
  have h2:=Int.emod_nonneg x (show d≠0 by omega)
  have h3:d * 1<=d * (x / d):=Int.mul_le_mul_of_nonneg_left (by omega) (by omega)
  omega
theorem Nq {z:Int} (h:M3 k x y=some z):Ex P tk (.binOp .shr t X Y yt) ty [(.val (.int k x),b1),(.val (.int k' y),b2)] [] (v0 (.val (.int k z))):=by
 obtain⟨h0,rfl⟩:=eH h
 refine .binOp (fun hx _=>?_) (fun w=>by simp [eqGuard,binOp,Op.shift,h0])
 rw [G5] at hx ⊢
 have hm:=lL k
 have hd:(0:Int) < 2 ^ min y.toNat k.bits:=Int.pow_pos (by omega)
 generalize (2:Int) ^ min y.toNat k.bits=d at hd
 rw [zN _ (Int.le_of_lt hd)]
 rcases Int.le_total 0 x with hx0 | hx0
 ·have h1:=Int.ediv_nonneg hx0 (Int.le_of_lt hd)
  have h2:=Int.ediv_le_self d hx0
  omega
 ·have h1:x<=x / d:=by
   have:=Int.mul_ediv_add_emod x d
   have h3:=Int.emod_nonneg x (show d≠0 by omega)
   have h4:x / d<=0:=X6 hx0 hd
   have h5:d * (x / d)<=1 * (x / d):=Int.mul_le_mul_of_nonpos_right (by omega) h4
   have h6:=Int.emod_lt_of_pos x hd
   by_cases h7:x / d=0
   ·omega
   ·have h8:x / d<=-1:=by omega
    have h9:(d - 1) * (x / d)<=(d - 1) * (-1):=Int.mul_le_mul_of_nonneg_left h8 (by omega)
    have h10:d * (x / d)=(d - 1) * (x / d) + x / d:=by rw [Int.sub_mul,Int.one_mul]; omega
    omega
  have h2:x / d<=0:=X6 hx0 hd
  omega
theorem W3 {src dst:TypeId} (hs:P.underlying src=some (.int k)) (hd:P.underlying dst=some (.int k')):Ex P tk (.convert src dst X) ty [(.val (.int k x),b1)] [] (v0 (.val (.int k' (k'.wrap x)))):=
 .conv (by unfold bI; rw [hs]) (by unfold bI; rw [hd]) (fun _=>S7 _ _) (Xj (by rw [hs]; rfl) hd)
theorem Zr {s:ByteArray} {u:UInt8} (ht:P.underlying t=some .string) (h:idxT s x=some u):Ex P tk (.index t X Y) ty [(.val (.string s),b1),(.val (.int k x),b2)] [] (v0 (.val (.int .u8 (u.toNat:Int)))):=by
 unfold idxT at h
 split at h
 ·cases h
 ·rename_i h0
  have h1:0<=x:=by omega
  have hlt:=(vW.1 h).1
  have hs:s[x.toNat]?=some u:=by
   have hlt':x.toNat < s.size:=hlt
   rw [getElem?_pos s x.toNat hlt']
   have:=(vW.1 h).2
   exact congrArg some this
  exact .indexS (fun _ _=>vA _) (fun w=>by simp [Instr.index,asIntOf,run_underlying ht,h1,hs])
theorem Xn {a b:ByteArray}:Ex P tk (.binOp .geq t X Y yt) ty [(.val (.string a),b1),(.val (.string b),b2)] [] (v0 (.val (.bool (!Ns (Hs a) (Hs b))))):=.binOp (fun _ _=>rfl) (fun w=>by
 simp [eqGuard,binOp,Op.stringOp,aB,ByteArray.toList_eq,Hs])
end
section
variable {α:Type} {f:α->List C} {sz:Nat}
theorem T2 (hf:∀ x,(f x).length=sz) (h0:0 < sz) {l:List α} (h:Al f l=[]):l=[]:=by
 have:=Es hf l
 rw [h] at this
 rcases Nat.mul_eq_zero.1 this.symm with h1 | h1
 ·exact vV h1
 ·omega
end
section
variable {P:Program} {tk:Nat} {t ty e sz bytes:Nat} {X Y:Operand} {b1 b2 b3:Option LB} {α:Type} {f:α->List C} {l m:List α} {n:Int} {k ka kb:IntKind} {j kr e':Nat} {x:α} {lo hi:Operand} {a b:Int}
theorem Tu {sz:Nat}:∀ (ds:List DV) (k:Nat) (pre rest:List DV),pre.length=k * sz->rest.length=ds.length * sz->(∀ d∈ds,(B3 d).length=sz)->Gi (fun i=>some (i * sz,sz)) (pre ++ rest) ((List.range' k ds.length).zip ds)=some (pre ++ ds.flatMap B3)
 | [],k,pre,rest,_,hr,_=>by
  have:rest=[]:=vV (by simpa using hr)
  subst this
  simp [Gi]
 | d :: ds,k,pre,rest,hp,hr,hd=>by
  have h0:=hd d (wL ..)
  have hr':rest.length=ds.length * sz + sz:=by rw [hr,xA,xM,yR]
  rw [xA,List.range'_succ,List.zip_cons_cons]
  unfold Gi
  simp only []
  have c1:Nat.beq (B3 d).length sz=true:=by rw [h0]; exact yZ _
  have c2:Nat.ble (k * sz + sz) (pre ++ rest).length=true:=yO (by rw [vR,hp,hr']; omega)
  rw [c1,c2]
  simp only [Bool.and_self,wD]
  have e1:B8 (pre ++ rest) (k * sz) (B3 d)=(pre ++ B3 d) ++ rest.drop sz:=by
   unfold B8
   rw [h0,<- hp,List.take_left,<- aAe,List.drop_left,wT]
  rw [e1,Tu ds (k + 1) (pre ++ B3 d) (rest.drop sz) (by rw [vR,hp,h0,xM,yR]) (by rw [wF,hr']; omega) fun x hx=>hd x (wG _ hx)]
  rw [wH,wT]
theorem An {len:Nat} {parts:Array (Nat×Operand)} {ds:List (DV×Option LB)} {z:List Value} {cs:List C} {ck:List (Option Nat)} (hS:Ht P t e sz bytes) (hz:Zt P e z) (hlen:len * sz<=16777216) (hp:parts.toList.map (·.1)=List.range' 0 len) (hzl:z.length=sz) (hn:ds.length=len) (hs:ds.all (fun q=>Nat.beq (B3 q.1).length sz)=true) (hk:Lz P 20 e=ck) (hc:Gs (List.replicate len ck).flatten (ds.flatMap fun q=>B3 q.1) cs) (ho:ds.all (fun q=>(B3 q.1).all Qw)=true) (h:Al f l=cs):Ex P tk (.buildSlice t len parts) ty ds [] (Qb tk (.row e sz (Al f l)) (.row tk)):=by
 subst h
 refine .buildSl hS hz hlen ?_ hk hc ho
 have hd:=Tu (sz:=sz) (ds.map (·.1)) 0 [] ((List.replicate len (z.map DV.val)).flatten) (by simp) (by simp [hzl,hn]) fun d hd=>by
  obtain⟨q,hq,rfl⟩:=xJ.1 hd
  exact vS (vY.1 hs q hq)
 rw [zX,zX,yH,hn] at hd
 rw [hp,hd]
 congr 1
 rw [List.flatMap_map]
theorem iD {i bt sz':Nat} {ds ds':List DV} {ag:Bool} {d:DV} {kk:Nat} (ht:Ty P t ag sz') (hs:(B3 d).length=sz') (hi:i + sz'<=ds.length) (ho:(B3 d).all Qw=true) (h:B8 ds i (B3 d)=ds'):Ex P tk (.store t X Y) ty [(.ptr kk i,some (.box ds bt)),(d,b2)] [kk] (eW kk (.box ds' bt)):=by
 subst h
 exact .storeB ht hs hi ho
theorem Vv {tk2:Nat} {m':Nat} {ds:List DV} {L:List α} (ht:P.underlying t=some (.array m' e)) (he:Ty P e true sz) (hf:∀ x,(f x).length=sz) (hds:ds=(Al f L).map Qm) (hL:L.length=m') (hx:C2 L n=some x) {d2:List DV} (h2:(f x).map Qm=d2):Ex P tk2 (.index t X Y) ty [(.agg ds,b1),(.val (.int k n),b2)] [] (v0 (.agg d2)):=by
 have hx':=Ao hx
 refine .indexAA ht he (Po hx) (by rw [<- hL]; exact (vM.1 hx').1) ?_
 rw [hds,<- List.map_drop,<- List.map_take,<- h2]
 congr 1
 exact Bx hf hx' (o:=0) (by rw [List.drop_zero]; exact wO (Nat.le_of_eq (hf _))) (by omega) rfl
end
def eA {α:Type} [Inhabited α] (n:Nat) (f:α->List C) (x:List α):List C:=(List.range n).flatMap fun i=>f (x[i]!)
theorem pG {α:Type} [Inhabited α] {n sz:Nat} {f:α->List C} (hf:∀ x,(f x).length=sz) (x:List α):(eA n f x).length=n * sz:=by
 unfold eA
 induction n with
 | zero=>simp
 | succ n ih=>rw [List.range_succ,List.flatMap_append,vR,ih,wH,wN,zY,hf,xM,yR]
class gG (p:Prop) (q:outParam Prop):Prop where
 go:q->p
theorem C4 {p q:Prop} [s:gG p q] (h:q):p:=s.go h
section
variable {next:St->Prop} {Q:Exit->St->Prop} {i:Nat} {σ:St}
instance:gG (mX next Q .normal σ) (next σ):=⟨fun h=>h⟩
instance:gG (mX next Q (.exit i) σ) (Q (.exit i) σ):=⟨fun h=>h⟩
instance:gG (mX next Q .ret σ) (Q .ret σ):=⟨fun h=>h⟩
instance:gG (mK i Q (.exit i) σ) (Q .normal σ):=⟨fun h=>gC h⟩
instance:gG (mK i Q .normal σ) (Q .normal σ):=⟨fun h=>h⟩
instance:gG (mK i Q .ret σ) (Q .ret σ):=⟨fun h=>h⟩
instance:gG (uC Q .normal σ) (Q .normal σ):=⟨fun h=>h⟩
instance:gG (uC Q (.exit i) σ) (Q (.exit i) σ):=⟨fun h=>h⟩
instance:gG (uC Q .ret σ) (Q .ret σ):=⟨fun h=>h⟩
end
class iW (p:Prop) (q:outParam Prop):Prop where
 go:q->p
instance (priority:=low) stpN_nil (p:Prop):iW p p:=⟨fun h=>h⟩
instance rC {p p' q:Prop} [s:gG p p'] [t:iW p' q]:iW p q:=⟨fun h=>s.go (t.go h)⟩
theorem A4 {P:Program} {cx:Cx} {Q:Exit->St->Prop} {σ:St} {q:Prop} [s:iW (Q .ret σ) q] (h:q):Ce P cx .ret Q σ:=lX (s.go h)
theorem C3 {Q:Exit->St->Prop} {i j:Nat} {σ:St} (h:Q (.exit j) σ) (hne:j≠i:=by decide):mK i Q (.exit j) σ:=dC hne h
theorem Bd {P:Program} {cx:Cx} {id:Nat} {l:List Oper} {σ:St} {y:Code} {Q:Exit->St->Prop} (nb nb':Nat) (B:∀ k,nb<=k->σ.U k=false)
  (h:Chain (Bp P cx []) l.toArray none nb (Ea 0 l) [] σ (fun σ'=>(∀ j,nb'<=j->σ'.U j=false)->mX (Ce P cx y Q) Q .normal σ')) (hn:Nat.ble (nb + 8 * l.length) nb'=true:=by rfl) (hd:cN cx.N l=true:=by rfl):Ce P cx (.seq (.region id l.toArray false) y) Q σ:=
 Ah (Ae (Bp _ _ []) nb nb' B hn hd h)
section
variable {P:Program} {cx:Cx} {ops:Array Oper} {Rt:Option (List Nat)} {nb i:Nat} {l:List Oper} {lg:aK} {σ:St} {Q:St->Prop} {fz:List Nat}
theorem Ai {Q:Exit->St->Prop} {nb':Nat} {q:Prop} [s:iW (Q .normal σ) q] (h:(∀ j,nb'<=j->σ.U j=false)->q):Chain (Bp P cx fz) ops Rt nb (Ea i []) lg σ (fun σ'=>(∀ j,nb'<=j->σ'.U j=false)->Q .normal σ'):=uO fun B=>s.go (h B)
theorem Bn {dst:Option Tmp} {op:Op} {ty:TypeId} {pos:String} {af:Array Edge} {g:Option (Nat×Bool)} {ds:List (DV×Option LB)} {wr:List Nat} {e:I0} (D:H8 ops σ ⟨dst,op,ty,pos,af,g⟩=some true) (hds:Dx σ (Hj op) op.operands.toList=some ds) (h:Ex P (nb + 8 * i) op ty ds wr e)
  (hrd:(bif Hj op then H5 (Ip op) ds else [])=[]) (hok:Iy Rt i false (nb + 8 * i) [] wr lg=true) (k:Chain (Bp P cx fz) ops Rt nb (Ea (i + 1) l) ((i,false,nb + 8 * i,[],wr) :: lg) (σ.app dst e) Q) (hz:zM fz (nb + 8 * i)=0:=by rfl) (hap:L9 cx.np op wr=true:=by rfl) :
  Chain (Bp P cx fz) ops Rt nb (Ea i (⟨dst,op,ty,pos,af,g⟩ :: l)) lg σ Q:=Ed (rd:=[]) D hds h hrd hok k hz hap
end
end Go.Proofs.YtfanepojdefdpaaGreat
namespace Go.Proofs.YtfanepojdefdpaaGreat
open Go.RowKit
theorem O8.cut {cx:Cx} {σ σ':St} {t k n e sz:Nat} {cs:List C} (hk:cx.np<=k) (hF:σ.F t=some (.part k 0 n)) (hL:σ.L k=some (.row e sz cs)) (hn:n * sz<=cs.length)
  (hF':∀ s d,σ'.F s=some d->(d=.row k/\s=t)\/(σ.F s=some d/\¬ men d k)) (hL':∀ j lb,σ'.L j=some lb->(j=k/\lb=.row e sz (cs.take (n * sz)))\/(j≠k/\σ.L j=some lb/\¬ Lg lb k)) (B:∀ j,σ'.U j=σ.U j):O8 cx σ σ':=by
 rintro a w ⟨ρ,h⟩
 obtain⟨N,us,q1,q0,q2⟩:=h.lo _ _ hL
 have hr:=h.fr _ _ hF
 unfold B1 at hr
 obtain⟨A,c,hv,hnc,hc,hA,hB⟩:=hr
 have hlen:n * sz<=us.length:=by rw [<- q2.1]; exact hn
 have hblk:∀ b,B7 (a.tmps.getD t undef)=some b->B7 (ρ k)=some b:=fun b hb=>by
  rcases q1.2 with ⟨A',e,-⟩ | ⟨g',cap,cur,e,r1,-⟩
  ·obtain⟨t1,t2⟩:=hB rfl _ _ _ e
   rw [hv,t2] at hb
   cases A <;> cases hb
  ·obtain⟨t1,t2⟩:=hB rfl _ _ _ e
   rw [hv,t1] at hb
   rw [e,F4 r1,(Eu hb).1]
 have hown:w.rowOk e sz (a.tmps.getD t undef) n (us.take (n * sz)):=by
  refine⟨by rw [vU]; omega,?_⟩
  rcases q1.2 with ⟨A',e,q3⟩ | ⟨g,cap,cur,e,r1,r2,r3,r4,r5,r6⟩
  ·obtain⟨t1,t2⟩:=hB rfl _ _ _ e
   refine .inl ⟨A',by rw [hv,t1,t2]; congr 1; omega,by omega⟩
  ·obtain⟨t1,t2⟩:=hB rfl _ _ _ e
   refine .inr ⟨g,cap,cur,by rw [hv,t1,t2],r1,r2,by omega,r4,r5,?_⟩
   have hle:n * sz<=N * sz:=by rw [<- q1.1]; exact hlen
   rw [<- r6,aAd,zS hle]
 let ρ':Nat->Value:=fun j=>if j=k then a.tmps.getD t undef else ρ j
 have hk':ρ' k=a.tmps.getD t undef:=if_pos rfl
 have ho:∀ j,j≠k->ρ' j=ρ j:=fun j hj=>if_neg hj
 have loc:∀ j lb b,σ'.L j=some lb->Gu ρ' (ρ' j) lb b->∃ lb',σ.L j=some lb'/\Gu ρ (ρ j) lb' b:=fun j lb b hj hb=>by
  rcases hL' j lb hj with ⟨rfl,rfl⟩ | ⟨hne,h1,h2⟩
  ·rw [hk'] at hb; exact⟨_,hL,hblk b hb⟩
  ·rw [ho j hne] at hb; exact⟨_,h1,M9 (fun q hq=>(ho q fun e=>h2 (e ▸ hq)).symm) hb⟩
 have hI:∀ b,H2 cx σ ρ w b->H2 cx σ' ρ' w b/\w.heap[b]?=w.heap[b]?:=fun b hb=>by
  refine⟨⟨hb.1,fun hl=>?_,hb.2.2⟩,rfl⟩
  obtain⟨j,lb,h1,h2⟩:=hl
  obtain⟨lb',h3,h4⟩:=loc j lb b h1 h2
  exact hb.2.1 ⟨j,lb',h3,h4⟩
 refine⟨ρ',⟨h.defers,h.size,h.kept,fun s d hs=>?_,fun j lb hj=>?_,fun j j' lb lb' b h1 h2 h3 h4=>?_,fun s d j hs hm=>?_,fun j lb hj=>?_,fun j hj=>?_,fun j lb b hj hp hb=>?_⟩⟩
 ·rcases hF' s d hs with ⟨rfl,rfl⟩ | ⟨h1,h2⟩
  ·unfold B1
   rw [hk']
   refine⟨rfl,?_⟩
   rw [hv]; rfl
  ·exact B1.step hI d _ (fun j hj=>ho j fun e=>h2 (e ▸ hj)) (h.fr _ _ h1)
 ·rcases hL' j lb hj with ⟨rfl,rfl⟩ | ⟨hne,h1,h2⟩
  ·rw [hk']
   refine⟨n,us.take (n * sz),hown,fun b hb=>q0 b (hblk b hb),?_⟩
   refine Eb.keep_ (w:=w) ⟨by rw [vU,vU,q2.1],fun j c u a b=>?_⟩ (fun b hb=>rfl) fun b hb=>(hI b hb).1
   rw [wI] at a b
   split at a
   ·rename_i hj
    rw [if_pos hj] at b
    exact q2.2 j c u a b
   ·cases a
  ·rw [ho j hne]
   exact (h.lo _ _ h1).step hI (fun j' hj'=>ho j' fun e=>h2 (e ▸ hj')) fun b _=>rfl
 ·obtain⟨_,e1,e2⟩:=loc _ _ _ h1 h3
  obtain⟨_,e3,e4⟩:=loc _ _ _ h2 h4
  exact h.sep _ _ _ _ _ e1 e3 e2 e4
 ·rw [B]
  rcases hF' s d hs with ⟨rfl,rfl⟩ | ⟨h1,h2⟩
  ·unfold men at hm
   subst hm
   exact (h.usedL _ _ hL).1
  ·exact h.usedF _ _ _ h1 hm
 ·rw [B]
  rcases hL' j lb hj with ⟨rfl,rfl⟩ | ⟨hne,h1,h2⟩
  ·exact⟨(h.usedL _ _ hL).1,fun k' hm=>hm.elim⟩
  ·exact⟨(h.usedL _ _ h1).1,fun k' hm=>by rw [B]; exact (h.usedL _ _ h1).2 k' hm⟩
 ·rw [B]
  exact⟨(ho j (by omega)).trans (h.pin j hj).1,(h.pin j hj).2⟩
 ·obtain⟨_,e1,e2⟩:=loc _ _ _ hj hb
  exact h.fresh _ _ _ e1 hp e2
def cL (k:Nat) (lb:LB):List (Nat×LB)->List (Nat×LB)
 | []=>[]
 | (j,b) :: l=>bif Nat.beq j k then (j,lb) :: cL k lb l else (j,b) :: cL k lb l
theorem Rb {k:Nat} {lb:LB}:∀ {ll:List (Nat×LB)} {j:Nat} {b:LB},D5 (cL k lb ll) j=some b->(j=k/\b=lb)\/(j≠k/\D5 ll j=some b)
 | [],s,d,h=>by simp [cL,D5] at h
 | (s',d') :: l,s,d,h=>by
  unfold cL at h
  cases hb:Nat.beq s' k with
  | true=>
   rw [hb] at h
   simp only [wD] at h
   have e0:=vS hb
   unfold D5 at h
   cases hs:Nat.beq s s' with
   | true=>
    rw [hs] at h
    have:=vS hs
    injection h with h
    exact .inl ⟨by omega,h.symm⟩
   | false=>
    rw [hs] at h
    rcases Rb h with h | ⟨h1,h2⟩
    ·exact .inl h
    ·refine .inr ⟨h1,?_⟩
     unfold D5
     rw [hs]
     exact h2
  | false=>
   rw [hb] at h
   simp only [vQ] at h
   unfold D5 at h
   cases hs:Nat.beq s s' with
   | true=>
    rw [hs] at h
    have:=vS hs
    refine .inr ⟨fun e=>?_,?_⟩
    ·subst this
     subst e
     rw [yZ] at hb
     cases hb
    ·unfold D5
     rw [hs]
     exact h
   | false=>
    rw [hs] at h
    rcases Rb h with h | ⟨h1,h2⟩
    ·exact .inl h
    ·refine .inr ⟨h1,?_⟩
     unfold D5
     rw [hs]
     exact h2
end Go.Proofs.YtfanepojdefdpaaGreat
