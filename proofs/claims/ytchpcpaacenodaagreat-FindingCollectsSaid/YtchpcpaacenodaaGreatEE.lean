import Derived.Test.YtchpcpaacenodaaGreatED
import Derived.KernelRfl
import Derived.Test.YtchpcpaacenodaaGreatPU
import Derived.Scope
set_option linter.unusedVariables false
set_option linter.unusedSimpArgs false
namespace Go.Proofs.YtchpcpaacenodaaGreat
open Go.RowKit
section
variable {Q:Exit->St->Prop} {next:St->Prop} {σ:St} {i j:Nat}
theorem tY (h:Q .normal σ):zH i Q (.exit i) σ:=by
 show (if i=i then _ else _)
 rw [if_pos rfl]
 exact h
theorem pA (hne:j≠i) (h:Q (.exit j) σ):zH i Q (.exit j) σ:=by
 show (if j=i then _ else _)
 rw [if_neg hne]
 exact h
end
theorem yM {P:Program} {t ty:TypeId} {s:ByteArray} (h:P.underlying t=some .string):∀ w,∀ cs,(builtin .len #[t] ty cs #[.string s]).run P w=.ok (.value (.int .i64 s.size)) w:=fun w cs=>by
 simp [builtin,Builtin.len_,run_underlying h,goInt]
section
variable {P:Program} {t:TypeId} {X Y:Operand}
end
section
variable {P:Program} {t:TypeId} {X Y:Operand} {k:IntKind} {x y:Int}
end
section
variable {P:Program} {t:TypeId} {X Y:Operand} {a b:ByteArray}
end
theorem Gz {θ:List (Nat×Nat)} {j:Nat} (h:(θ.all fun q=>!Nat.beq q.2 j)=true):∀ k,F8 θ k≠some j:=fun k hk=>by
 have:=aGf.1 h _ (Ij hk)
 simp at this
theorem Bo {P:Program} {cx:Cx} {x y:Code} {Q:Exit->St->Prop} {σ:St} {ι:Type} (mid:ι->St) (ok:ι->Prop) (hx:B3 P cx x (vI (fun σ'=>∃ i,ok i/\Ru cx σ' (mid i)) Q) σ) (hy:∀ i,ok i->B3 P cx y Q (mid i)):B3 P cx (.seq x y) Q σ:=by
 refine Aj (uR ?_ hx)
 intro e σ' h
 cases e with
 | normal=>
  obtain⟨i,h1,h2⟩:=h
  exact Fw h2 (hy i h1)
 | _=>exact h
end Go.Proofs.YtchpcpaacenodaaGreat
namespace Go.Proofs.YtchpcpaacenodaaGreat
open Go.RowKit
mutual
def sK (j:Nat):DV->Bool
 | .part k _ _=>!Nat.beq k j
 | .ptr k _=>!Nat.beq k j
 | .agg ds=>cJ j ds
 | .tup ds=>cJ j ds
 | .clo _ _ ds=>cJ j ds
 | .val _=>true
 | .sl _ _=>true
 | .slc _ _=>true
 | .mp _=>true
 | .elt _=>true
 | .row _=>true
def cJ (j:Nat):List DV->Bool
 | []=>true
 | d :: ds=>sK j d && cJ j ds
end
mutual
def Md (j sz:Nat) (cs:List C):DV->DV
 | .row k=>bif Nat.beq k j then .sl sz cs else .row k
 | .agg ds=>.agg (Ri j sz cs ds)
 | .tup ds=>.tup (Ri j sz cs ds)
 | .clo f n ds=>.clo f n (Ri j sz cs ds)
 | .val v=>.val v
 | .sl s c=>.sl s c
 | .slc s c=>.slc s c
 | .mp l=>.mp l
 | .elt c=>.elt c
 | .part k o n=>.part k o n
 | .ptr k i=>.ptr k i
def Ri (j sz:Nat) (cs:List C):List DV->List DV
 | []=>[]
 | d :: ds=>Md j sz cs d :: Ri j sz cs ds
end
def St.frz (σ:St) (j sz:Nat) (cs:List C):St where
 F:=fun t=>match σ.F t with | some d=>bif sK j d then some (Md j sz cs d) else none | none=>none
 L:=fun k=>bif Nat.beq k j then none else match σ.L k with | some (.box ds ty)=>(bif cJ j ds then some (.box (Ri j sz cs ds) ty) else none) | some (.row e s c)=>some (.row e s c) | _=>none
 U:=σ.U
theorem Um {a b:Nat} (h:Nat.beq a b=false):a≠b:=fun e=>by
 subst e
 rw [aJj] at h; cases h
section
variable {σ:St} {j e sz:Nat} {cs:List C}
abbrev uI (j:Nat) (k:Nat):Option Nat:=if k=j then none else some k
mutual
theorem Cv.frzD (h:σ.L j=some (.row e sz cs)):∀ d,sK j d=true->Cv σ (uI j) d (Go.Proofs.YtchpcpaacenodaaGreat.Md j sz cs d)
 | .val v,_=>by unfold Go.Proofs.YtchpcpaacenodaaGreat.Md; exact .val v
 | .sl _ _,_=>by unfold Go.Proofs.YtchpcpaacenodaaGreat.Md; exact .sl _ _
 | .slc _ _,_=>by unfold Go.Proofs.YtchpcpaacenodaaGreat.Md; exact .slcc _ _
 | .mp _,_=>by unfold Go.Proofs.YtchpcpaacenodaaGreat.Md; exact .mp _
 | .elt _,_=>by unfold Go.Proofs.YtchpcpaacenodaaGreat.Md; exact .elt _
 | .row k,_=>by
  unfold Go.Proofs.YtchpcpaacenodaaGreat.Md
  cases hb:Nat.beq k j with
  | true=>
   have:=aGa hb
   subst this
   refine .frz h fun k' hk'=>?_
   unfold uI at hk'
   split at hk'
   ·cases hk'
   ·rename_i hne
    injection hk' with hk'
    exact hne hk'
  | false=>exact .row (if_neg (Um hb))
 | .part k _ _,hn=>by
  unfold sK at hn
  unfold Go.Proofs.YtchpcpaacenodaaGreat.Md
  exact .part (if_neg (Um (by simpa using hn)))
 | .ptr k _,hn=>by
  unfold sK at hn
  unfold Go.Proofs.YtchpcpaacenodaaGreat.Md
  exact .ptr (if_neg (Um (by simpa using hn)))
 | .agg ds,hn=>by
  unfold sK at hn
  unfold Go.Proofs.YtchpcpaacenodaaGreat.Md
  exact .agg (S8.frzDs h ds hn)
 | .tup ds,hn=>by
  unfold sK at hn
  unfold Go.Proofs.YtchpcpaacenodaaGreat.Md
  exact .tup (S8.frzDs h ds hn)
 | .clo f n ds,hn=>by
  unfold sK at hn
  unfold Go.Proofs.YtchpcpaacenodaaGreat.Md
  exact .clo f n (S8.frzDs h ds hn)
theorem S8.frzDs (h:σ.L j=some (.row e sz cs)):∀ ds,cJ j ds=true->S8 σ (uI j) ds (Go.Proofs.YtchpcpaacenodaaGreat.Ri j sz cs ds)
 | [],_=>by unfold Go.Proofs.YtchpcpaacenodaaGreat.Ri; exact .nil
 | d :: ds,hn=>by
  unfold cJ at hn
  simp only [aGc] at hn
  unfold Go.Proofs.YtchpcpaacenodaaGreat.Ri
  exact .cons (Cv.frzD h d hn.1) (S8.frzDs h ds hn.2)
end
mutual
theorem oG:∀ (d:DV) (k:Nat),men (Md j sz cs d) k->men d k
 | .val _,k,h=>by unfold Md men at h; exact h.elim
 | .sl _ _,k,h=>by unfold Md men at h; exact h.elim
 | .slc _ _,k,h=>by unfold Md men at h; exact h.elim
 | .mp _,k,h=>by unfold Md men at h; exact h.elim
 | .elt _,k,h=>by unfold Md men at h; exact h.elim
 | .row i,k,h=>by
  unfold Md at h
  cases hb:Nat.beq i j with
  | true=>rw [hb] at h; simp only [aD8] at h; unfold men at h; exact h.elim
  | false=>rw [hb] at h; exact h
 | .part _ _ _,k,h=>by unfold Md at h; exact h
 | .ptr _ _,k,h=>by unfold Md at h; exact h
 | .agg ds,k,h=>by unfold Md men at h; unfold men; exact T2 ds k h
 | .tup ds,k,h=>by unfold Md men at h; unfold men; exact T2 ds k h
 | .clo _ _ ds,k,h=>by unfold Md men at h; unfold men; exact T2 ds k h
theorem T2:∀ (ds:List DV) (k:Nat),F2 (Ri j sz cs ds) k->F2 ds k
 | [],k,h=>by unfold Ri F2 at h; exact h.elim
 | d :: ds,k,h=>by
  unfold Ri F2 at h
  unfold F2
  exact h.imp (oG d k) (T2 ds k)
end
theorem zS {t:Nat} {d':DV} (h:(σ.frz j sz cs).F t=some d'):∃ d,σ.F t=some d/\sK j d=true/\d'=Md j sz cs d:=by
 have h':(match σ.F t with | some d=>bif sK j d then some (Md j sz cs d) else none | none=>none)=some d':=h
 cases hF:σ.F t with
 | none=>rw [hF] at h'; cases h'
 | some d=>
  rw [hF] at h'
  cases hn:sK j d with
  | false=>simp only [hn,aCx] at h'; cases h'
  | true=>simp only [hn,aD8] at h'; injection h' with h'; exact⟨d,rfl,hn,h'.symm⟩
theorem zC {k:Nat} {lb':LB} (h:(σ.frz j sz cs).L k=some lb'):k≠j/\((∃ ds ty,σ.L k=some (.box ds ty)/\cJ j ds=true/\lb'=.box (Ri j sz cs ds) ty)\/∃ e s c,σ.L k=some (.row e s c)/\lb'=.row e s c):=by
 have h':(bif Nat.beq k j then none else match σ.L k with | some (.box ds ty)=>(bif cJ j ds then some (LB.box (Ri j sz cs ds) ty) else none) | some (.row e s c)=>some (.row e s c) | _=>none)=some lb':=h
 cases hb:Nat.beq k j with
 | true=>rw [hb] at h'; cases h'
 | false=>
  refine⟨Um hb,?_⟩
  rw [hb] at h'
  simp only [aCx] at h'
  cases hL:σ.L k with
  | none=>rw [hL] at h'; cases h'
  | some lb=>
   rw [hL] at h'
   cases lb with
   | row e s c=>simp only [] at h'; injection h' with h'; exact .inr ⟨e,s,c,rfl,h'.symm⟩
   | map l=>cases h'
   | mit k' n s=>cases h'
   | vec ds e=>cases h'
   | box ds ty=>
    simp only [] at h'
    cases hn:cJ j ds with
    | false=>rw [hn] at h'; cases h'
    | true=>rw [hn] at h'; injection h' with h'; exact .inl ⟨ds,ty,rfl,hn,h'.symm⟩
theorem Ru.frz {cx:Cx} (h:σ.L j=some (.row e sz cs)) (hj:Nat.ble cx.np j=true):Ru cx σ (σ.frz j sz cs):=by
 rintro a w ⟨ρ,ha⟩
 have hj':cx.np<=j:=aD6 hj
 refine⟨_,(ha.ren (σ':=σ.frz j sz cs) (uI j) (fun t d' hd=>?_) (fun k lb' hl=>?_) (fun k k' i h1 h2=>?_) (fun k hk=>⟨if_neg (by omega),(ha.pin k hk).2⟩) (fun t d k hd hm=>?_) (fun k lb hl=>?_)).1⟩
 ·obtain⟨d,h1,h2,rfl⟩:=zS hd
  exact⟨d,h1,Cv.frzD h d h2⟩
 ·obtain⟨hne,h1⟩:=zC hl
  refine .inl ?_
  rcases h1 with ⟨ds,ty,h1,h2,rfl⟩ | ⟨e',s,c,h1,rfl⟩
  ·exact⟨k,_,if_neg hne,h1,rfl,S8.frzDs h ds h2⟩
  ·exact⟨k,_,if_neg hne,h1,rfl,rfl,rfl⟩
 ·unfold uI at h1 h2
  split at h1
  ·cases h1
  ·split at h2
   ·cases h2
   ·injection h1 with h1
    injection h2 with h2
    omega
 ·obtain⟨d',h1,h2,rfl⟩:=zS hd
  exact ha.usedF t d' k h1 (oG d' k hm)
 ·obtain⟨hne,h1⟩:=zC hl
  rcases h1 with ⟨ds,ty,h1,h2,rfl⟩ | ⟨e',s,c,h1,rfl⟩
  ·exact⟨(ha.usedL k _ h1).1,fun k' hk'=>(ha.usedL k _ h1).2 k' (T2 ds k' hk')⟩
  ·exact⟨(ha.usedL k _ h1).1,fun k' hk'=>hk'.elim⟩
end
section
variable {P:Program} {cx:Cx} {ops:Array Oper} {Q:Exit->St->Prop} {l:List Oper} {σ σ':St}
def gB (P:Program) (cx:Cx) (ops:Array Oper) (Q:Exit->St->Prop) (l:List Oper) (σ:St):Prop:=∀ a w,Kx cx σ a w->wpList P ops (S7 cx Q) l a w
theorem gB.sub (h:Ru cx σ σ') (k:gB P cx ops Q l σ'):gB P cx ops Q l σ:=fun a w ha=>k a w (h a w ha)
theorem gB.fin (h:Q .normal σ):gB P cx ops Q [] σ:=fun a w ha=>⟨σ,h,ha⟩
variable {S:vT P cx} {nb nb':Nat}
theorem Xh {l2:List Oper}:∀ (l:List Oper) (k:Nat) (lg:kJ) (σ:St) (a:Act) (w:World),Chain S ops none nb (idx k l) lg σ (fun σ'=>(∀ j,nb'<=j->σ'.U j=false)->gB P cx ops Q l2 σ')->Wl nb (idx k l) σ->uZ cx (idx k l)->(∀ j,nb'<=j->σ.U j=false)->nb + 8 * (k + l.length)<=nb'->Kx cx σ a w->wpList P ops (S7 cx Q) (l ++ l2) a w
 | [],k,lg,σ,a,w,h,_,_,B,_,ha=>h B a w ha
 | o :: l,k,lg,σ,a,w,h,hf,hd,B,hn,⟨ρ,ha⟩=>by
  have hf0:=hf (k,o) (by simp [idx])
  have hd0:=hd (k,o) (by simp [idx])
  have hf1:Wl nb (idx (k + 1) l) σ:=fun q hq=>hf q (by simp [idx,hq])
  have hd1:uZ cx (idx (k + 1) l):=fun q hq=>hd q (by simp [idx,hq])
  have hne:∀ q∈idx (k + 1) l,q.1≠k:=fun q hq=>by have:=(Uo hq).1; omega
  have hn':nb + 8 * (k + 1 + l.length)<=nb':=by simp at hn; omega
  have hUn:∀ {e:Mj} {wr:List Nat} {rd:List Nat},(∀ j,e.l j≠none->j∈wr\/(nb + 8 * k<=j/\j < nb + 8 * k + 8))->(∀ j,j∈wr->j∈rd)->(∀ j,j∈rd->σ.U j=true)->∀ j,nb'<=j->(σ.app o.dst e).U j=false:=fun {e wr rd} hk hs hu j hj=>by
   cases hc:(σ.app o.dst e).U j with
   | false=>rfl
   | true=>
    rcases mV hc with h1 | h1
    ·rw [B j hj] at h1; cases h1
    ·rcases hk j h1 with h2 | h2
     ·exact absurd (hu j (hs j h2)) (by rw [B j hj]; simp)
     ·simp at hn; omega
  show wpList P ops (S7 cx Q) (o :: (l ++ l2)) a w
  unfold wpList
  rcases h with ⟨rd,wr,e,h1,-,h3⟩ | ⟨rd,wr,E,h1,-,-,h3⟩
  ·have hs:=h1.sound ha hf0 hd0
   have:=hs (wpList P ops (S7 cx Q) (l ++ l2)) (S7 cx Q) fun a' w' ha'=>Xh l (k + 1) _ _ a' w' h3 (hf1.next h1.key.1 (fun j hj=>h1.used ha j (h1.key.2 j hj)) hne) hd1 (hUn h1.key.1 h1.key.2 (h1.used ha)) hn' ha'
   split
   ·rename_i hw
    rw [if_pos hw] at this
    exact .inl this
   ·rename_i hw
    rw [if_neg hw] at this
    exact this
  ·have:=h1.sound ha hf0 hd0 (wpList P ops (S7 cx Q) (l ++ l2)) (S7 cx Q) fun e a' w' he ha'=>Xh l (k + 1) _ _ a' w' (h3 e he) (hf1.next (h1.key.1 e he) (fun j hj=>h1.used ha j (h1.key.2 j hj)) hne) hd1 (hUn (h1.key.1 e he) h1.key.2 (h1.used ha)) hn' ha'
   split
   ·rename_i hw
    rw [if_pos hw] at this
    exact .inl this
   ·rename_i hw
    rw [if_neg hw] at this
    exact this
theorem gB.chain (S:vT P cx) (m nb nb':Nat) (B:∀ k,nb<=k->σ.U k=false) (hn:Nat.ble (nb + 8 * (l.take m).length) nb'=true) (hd:lO cx.N (l.take m)=true)
  (h:Chain S ops none nb (idx 0 (l.take m)) [] σ (fun σ'=>(∀ j,nb'<=j->σ'.U j=false)->gB P cx ops Q (l.drop m) σ')):gB P cx ops Q l σ:=by
 intro a w ha
 have hn':nb + 8 * (l.take m).length<=nb':=aD6 hn
 have:=Xh (l2:=l.drop m) (l.take m) 0 [] σ a w h (fun q hq j hj=>B _ (by omega)) (X1 hd) (fun j hj=>B j (by omega)) (by simpa using hn') ha
 rwa [aIo] at this
end
section
variable {P:Program} {f:FuncId} {args:List DV}
theorem Fn.plain {v:Value} {R:DV->List LB->Prop} {vs:List Value} {w:World} (h:Fn P f 0 args [] R) (hR:∀ r b,R r b->r=.val v) (ρ:Nat->Value) (I:Nat->Prop) (hI:∀ b,I b->b < w.heap.size) (hr:Ci ρ I w args vs):Calls P f vs.toArray w fun e w'=>e=.returned v/\Zh w w':=by
 refine (h.2.2 ρ I w vs (fun b hb=>⟨hI b hb,fun k hk=>by simp at hk⟩) hr (fun k lb h=>by simp at h) (fun k k' b hk=>by simp at hk)).mono ?_
 rintro e w' ⟨u,r,b,rfl,h1,h2⟩
 obtain⟨-,⟨o1,o2,o3,o4⟩,hk,⟨ρ',J,-,-,hrep,-⟩,-⟩:=h2
 rw [hR r b h1] at hrep
 unfold C7 at hrep
 rw [hrep.1]
 exact⟨rfl,o1,o2,o3,o4,fun b hb=>hk b hb fun k hk=>by simp at hk⟩
end
end Go.Proofs.YtchpcpaacenodaaGreat
namespace Go.Proofs.YtchpcpaacenodaaGreat
open Go.RowKit
def noG (Q:Exit->St->Prop):Exit->St->Prop
 | .normal,σ=>Q .normal σ
 | .exit i,σ=>Q (.exit i) σ
 | .goto _,_=>False
 | .ret,σ=>Q .ret σ
 | .panic c,σ=>Q (.panic c) σ
 | .outgrown,σ=>Q .outgrown σ
def Aq {α:Type} (f:α->List C) (l:List α):List C:=l.flatMap f
def eI (x:Int):List C:=[.int .i64 x]
def eK (k:IntKind) (x:Int):List C:=[.int k x]
def e8 (x:UInt8):List C:=[.int .u8 (x.toNat:Int)]
def eS (x:ByteArray):List C:=[.str x]
def eB (x:Bool):List C:=[.bool x]
def eL {α:Type} (sz:Nat) (f:α->List C) (l:List α):List C:=[.sl sz (Aq f l)]
theorem Jo (x:Int):(eI x).length=1:=rfl
theorem aBd (k:IntKind) (x:Int):(eK k x).length=1:=rfl
theorem Ke (x:UInt8):(e8 x).length=1:=rfl
theorem aK (x:ByteArray):(eS x).length=1:=rfl
theorem aCj (x:Bool):(eB x).length=1:=rfl
theorem kL {α:Type} (sz:Nat) (f:α->List C) (l:List α):(eL sz f l).length=1:=rfl
section
variable {α:Type} {f:α->List C} {sz:Nat}
theorem Hd (hf:∀ x,(f x).length=sz):∀ (l:List α),(Aq f l).length=l.length * sz
 | []=>by simp [Aq]
 | x :: l=>by
  have:=Hd hf l
  unfold Aq at this ⊢
  rw [aIl,aGd,hf,this,aH2,aIk,aJ4,Nat.add_comm]
theorem Lh (l m:List α):Aq f (l ++ m)=Aq f l ++ Aq f m:=by unfold Aq; rw [List.flatMap_append]
theorem Sc {l:List α} {j:Nat} {x:α} (hx:l[j]?=some x):Aq f l=Aq f (l.take j) ++ (f x ++ Aq f (l.drop (j + 1))):=by
 have hj:=(aD1.1 hx).1
 have hxe:=(aD1.1 hx).2
 have e1:l=l.take j ++ (x :: l.drop (j + 1)):=by
  rw [<- hxe,List.getElem_cons_drop,aIo]
 rw [show Aq f l=Aq f (l.take j ++ (x :: l.drop (j + 1))) from congrArg _ e1,Lh]
 rfl
theorem N6 (hf:∀ x,(f x).length=sz) {l:List α} {j:Nat} (hj:j<=l.length):(Aq f (l.take j)).length=j * sz:=by
 rw [Hd hf,aGe,aJh hj]
theorem gL (hf:∀ x,(f x).length=sz) {l:List α} {j:Nat} {x:α} (hx:l[j]?=some x):j * sz + sz<=(Aq f l).length:=by
 have hj:=(aD1.1 hx).1
 rw [Hd hf]
 have:(j + 1) * sz<=l.length * sz:=aH0 _ hj
 rw [aIk,aJ4] at this
 exact this
theorem H4 (hf:∀ x,(f x).length=sz) {l:List α} {j o:Nat} {x:α} (hx:l[j]?=some x) (ho:o < sz) {a:Nat} (ha:a=j * sz + o):a < (Aq f l).length:=by
 have:=gL hf hx
 omega
theorem Z3 (hf:∀ x,(f x).length=sz) {l:List α} {j o:Nat} {x:α} (hx:l[j]?=some x) (ho:o<=sz):(Aq f l).drop (j * sz + o)=(f x).drop o ++ Aq f (l.drop (j + 1)):=by
 have hj:=(aD1.1 hx).1
 have ht:=N6 hf (l:=l) (j:=j) (by omega)
 rw [Sc hx,<- ht,<- aJ6,List.drop_left,List.drop_append_of_le_length (by rw [hf]; exact ho)]
theorem Ew (hf:∀ x,(f x).length=sz) {l:List α} {j o:Nat} {x:α} {c:C} (hx:l[j]?=some x) (hc:(f x)[o]?=some c) {a:Nat} (ha:a=j * sz + o):(Aq f l)[a]?=some c:=by
 subst ha
 have ho:o < sz:=by rw [<- hf x]; exact (aD1.1 hc).1
 have e1:=Z3 hf hx (Nat.le_of_lt ho)
 have e2:(Aq f l)[j * sz + o]?=((Aq f l).drop (j * sz + o))[0]?:=by rw [aHu]; rfl
 rw [e2,e1,aH6 (by rw [aGx,hf]; omega),aHu]
 exact hc
theorem Gd (hf:∀ x,(f x).length=sz) {l:List α} {j o m:Nat} {x:α} {cs:List C} (hx:l[j]?=some x) (hs:((f x).drop o).take m=cs) (ho:o + m<=sz) {a:Nat} (ha:a=j * sz + o):((Aq f l).drop a).take m=cs:=by
 subst ha
 rw [Z3 hf hx (by omega),aIw (by rw [aGx,hf]; omega)]
 exact hs
theorem Eg (hf:∀ x,(f x).length=sz) {l:List α} {j o m:Nat} {x:α} (hx:l[j]?=some x) (ho:o + m<=sz) {a:Nat} (ha:a=j * sz + o):a + m<=(Aq f l).length:=by
 have:=gL hf hx
 omega
theorem V0 (hf:∀ x,(f x).length=sz) {l:List α} {j o:Nat} {x x':α} {cs:List C} (hx:l[j]?=some x) (ho:o + cs.length<=sz) (hs:Dw (f x) o cs=f x') {a:Nat} (ha:a=j * sz + o):Dw (Aq f l) a cs=Aq f (Db l j x'):=by
 subst ha
 have hj:=(aD1.1 hx).1
 have ht:=N6 hf (l:=l) (j:=j) (by omega)
 have hset:Aq f (Db l j x')=Aq f (l.take j) ++ (f x' ++ Aq f (l.drop (j + 1))):=by
  have:(Db l j x')[j]?=some x':=by unfold Db; rw [List.getElem?_set_self hj]
  rw [Sc this]
  unfold Db
  rw [List.take_set_of_le (aGz _),List.drop_set_of_lt (by omega)]
 rw [hset,<- hs]
 unfold Dw
 have e1:(Aq f l).take (j * sz + o)=Aq f (l.take j) ++ (f x).take o:=by
  rw [Sc hx,aJw,ht,aJd,aHa (by rw [ht]; omega)]
  congr 1
  rw [aIw (by rw [hf]; omega)]
 have e2:(Aq f l).drop (j * sz + o + cs.length)=(f x).drop (o + cs.length) ++ Aq f (l.drop (j + 1)):=by
  rw [Nat.add_assoc,Z3 hf hx ho]
 rw [e1,e2]
 simp only [aH4]
theorem fQ (hf:∀ x,(f x).length=sz) (l:List α) (i j:Nat) (hij:i<=j) (hj:j<=l.length):((Aq f l).drop (i * sz)).take ((j - i) * sz)=Aq f ((l.drop i).take (j - i)):=by
 have e0:Aq f l=Aq f (l.take i) ++ Aq f (l.drop i):=by rw [<- Lh,aIo]
 have e1:Aq f (l.drop i)=Aq f ((l.drop i).take (j - i)) ++ Aq f ((l.drop i).drop (j - i)):=by rw [<- Lh,aIo]
 rw [e0]
 have ht:=N6 hf (l:=l) (j:=i) (by omega)
 have hd:((Aq f (l.take i)) ++ Aq f (l.drop i)).drop (i * sz)=Aq f (l.drop i):=by rw [<- ht,List.drop_left]
 rw [hd,e1]
 have ht2:=N6 hf (l:=l.drop i) (j:=j - i) (by rw [aGx]; omega)
 rw [<- ht2,List.take_left]
theorem V2 (hf:∀ x,(f x).length=sz) (l:List α) (i n:Nat) (hn:i + n<=l.length):((Aq f l).drop (i * sz)).take (n * sz)=Aq f ((l.drop i).take n):=by
 have:=fQ hf l i (i + n) (by omega) (by omega)
 rw [aJd] at this
 exact this
end
theorem aEo (l:List UInt8):Aq e8 l=Jz l:=by
 induction l with
 | nil=>rfl
 | cons x l ih=>
  show e8 x ++ Aq e8 l=_
  rw [ih]
  rfl
section
variable {P:Program} {tk:Nat} {t ty yt:TypeId} {X Y:Operand} {b1 b2:Option LB} {k:IntKind} {x y:Int}
theorem aEk:F5 P tk (.binOp .lss t X Y yt) ty [(.val (.int k x),b1),(.val (.int k y),b2)] [] (v0 (.val (.bool (decide (x < y))))):=.binOp (fun _ _=>rfl) aCg
theorem aF4:F5 P tk (.binOp .leq t X Y yt) ty [(.val (.int k x),b1),(.val (.int k y),b2)] [] (v0 (.val (.bool (decide (x<=y))))):=.binOp (fun _ _=>rfl) aA5
theorem aFw:F5 P tk (.binOp .gtr t X Y yt) ty [(.val (.int k x),b1),(.val (.int k y),b2)] [] (v0 (.val (.bool (decide (y < x))))):=.binOp (fun _ _=>rfl) aCs
theorem aEy:F5 P tk (.binOp .geq t X Y yt) ty [(.val (.int k x),b1),(.val (.int k y),b2)] [] (v0 (.val (.bool (decide (y<=x))))):=.binOp (fun _ _=>rfl) aCf
theorem aF1:F5 P tk (.binOp .eql t X Y yt) ty [(.val (.int k x),b1),(.val (.int k y),b2)] [] (v0 (.val (.bool (decide (x=y))))):=.binOp (fun _ _=>rfl) aD2
theorem aFx:F5 P tk (.binOp .neq t X Y yt) ty [(.val (.int k x),b1),(.val (.int k y),b2)] [] (v0 (.val (.bool (!decide (x=y))))):=.binOp (fun _ _=>rfl) (fun w=>by rw [aBb w,decide_not])
theorem dV (x:Int):IntKind.i64.wrap x=W x:=by rw [IntKind.wrap_i64]; unfold W; omega
theorem okW (x:Int):Fa (.int .i64 (W x))=true:=Hz.2 (Qx (oN x))
theorem aEt (x:Int):IntKind.u8.wrap x=((u8 x).toNat:Int):=by rw [IntKind.wrap_u8,jE]
theorem ok8 (x:UInt8):Fa (.int .u8 (x.toNat:Int))=true:=Hz.2 (Zz ⟨by omega,by have:=x.toNat_lt; omega⟩)
theorem zN:F5 P tk (.binOp .add t X Y yt) ty [(.val (.int .i64 x),b1),(.val (.int .i64 y),b2)] [] (v0 (.val (.int .i64 (W (x + y))))):=.binOp (fun _ _=>okW _) (fun w=>by rw [xF w,dV])
theorem aE9:F5 P tk (.binOp .sub t X Y yt) ty [(.val (.int .i64 x),b1),(.val (.int .i64 y),b2)] [] (v0 (.val (.int .i64 (W (x - y))))):=.binOp (fun _ _=>okW _) (fun w=>by rw [nX w,dV])
theorem aEf:F5 P tk (.binOp .mul t X Y yt) ty [(.val (.int .i64 x),b1),(.val (.int .i64 y),b2)] [] (v0 (.val (.int .i64 (W (x * y))))):=.binOp (fun _ _=>okW _) (fun w=>by rw [mP w,dV])
theorem uU (x y:Int):(x.tmod y).natAbs<=x.natAbs:=by
 rw [Int.natAbs_tmod]
 exact Nat.mod_le _ _
theorem kS {x y:Int} (h:-9223372036854775808<=x/\x<=9223372036854775807):-9223372036854775808<=x.tmod y/\x.tmod y<=9223372036854775807:=by
 have h0:=uU x y
 rcases Int.le_total 0 x with hx | hx
 ·have h1:=Int.tmod_nonneg y hx
  omega
 ·have e:x.tmod y=-((-x).tmod y):=by rw [Int.neg_tmod]; omega
  have h1:=Int.tmod_nonneg y (show 0<=-x by omega)
  omega
theorem xC {n:Int} (h:Fa (.int .i64 n)=true):-9223372036854775808<=n/\n<=9223372036854775807:=by
 have:=Hz.1 h
 have h1:IntKind.i64.min=-9223372036854775808:=by decide
 have h2:IntKind.i64.max=9223372036854775807:=by decide
 rw [h1,h2] at this
 exact this
theorem jS {z:Int} (h:Xu x y=some z):F5 P tk (.binOp .rem t X Y yt) ty [(.val (.int .i64 x),b1),(.val (.int .i64 y),b2)] [] (v0 (.val (.int .i64 z))):=by
 obtain⟨hy,rfl⟩:=pE h
 exact .binOp (fun h _=>Hz.2 (Qx (kS (xC h)))) (uS hy)
theorem Tj {z:Int} (h:M1 x y=some z):F5 P tk (.binOp .quo t X Y yt) ty [(.val (.int .i64 x),b1),(.val (.int .i64 y),b2)] [] (v0 (.val (.int .i64 z))):=by
 obtain⟨hy,rfl⟩:=pH h
 exact .binOp (fun _ _=>okW _) (fun w=>by rw [aDp hy w,dV])
theorem sL {a b z:UInt8} (h:sD a b=some z):F5 P tk (.binOp .rem t X Y yt) ty [(.val (.int .u8 (a.toNat:Int)),b1),(.val (.int .u8 (b.toNat:Int)),b2)] [] (v0 (.val (.int .u8 (z.toNat:Int)))):=by
 obtain⟨hy,hz⟩:=qG h
 refine .binOp (fun _ _=>Hz.2 (Zz ⟨by omega,by have:=z.toNat_lt; omega⟩)) ?_
 rw [hz]
 exact uS hy
theorem Pt {z:Int} (h:W (x + y)=z):F5 P tk (.binOp .add t X Y yt) ty [(.val (.int .i64 x),b1),(.val (.int .i64 y),b2)] [] (v0 (.val (.int .i64 z))):=h ▸ zN
theorem aD9 {b:Bool}:F5 P tk (.unOp .not t X) ty [(.val (.bool b),b1)] [] (v0 (.val (.bool (!b)))):=.unOp (fun _=>rfl) aBj
theorem aD4 {a b:Bool} (ht:P.underlying t=some .bool):F5 P tk (.binOp .neq t X Y yt) ty [(.val (.bool a),b1),(.val (.bool b),b2)] [] (v0 (.val (.bool (!decide (a=b))))):=.binOp (fun _ _=>rfl) (fun w=>by cases a <;> cases b <;> simp [eqGuard,binOp,Op.equal,Op.maxDepth,run_equalIn_bool',ht])
theorem aA8 {a b:ByteArray}:F5 P tk (.binOp .eql t X Y yt) ty [(.val (.string a),b1),(.val (.string b),b2)] [] (v0 (.val (.bool (decide (a=b))))):=.binOp (fun _ _=>rfl) xW
theorem aBz {a b:ByteArray}:F5 P tk (.binOp .neq t X Y yt) ty [(.val (.string a),b1),(.val (.string b),b2)] [] (v0 (.val (.bool (!decide (a=b))))):=.binOp (fun _ _=>rfl) (fun w=>by rw [yK w,decide_not])
theorem fV:∀ (a b:List UInt8),Op.bytesLess a b=Kz a b
 | _,[]=>by cases ‹List UInt8› <;> rfl
 | [],_ :: _=>rfl
 | a :: x,b :: y=>by unfold Op.bytesLess Kz; rw [fV x y]
theorem aCw {a b:ByteArray}:F5 P tk (.binOp .lss t X Y yt) ty [(.val (.string a),b1),(.val (.string b),b2)] [] (v0 (.val (.bool (Kz (Hg a) (Hg b))))):=.binOp (fun _ _=>rfl) (fun w=>by
 simp [eqGuard,binOp,Op.stringOp,fV,ByteArray.toList_eq,Hg])
theorem aEe {a b c:ByteArray} (h:sN a b=some c):F5 P tk (.binOp .add t X Y yt) ty [(.val (.string a),b1),(.val (.string b),b2)] [] (v0 (.val (.string c))):=by
 obtain⟨h1,rfl⟩:=pM h
 refine .binOp (fun _ _=>Pq.2 ?_) (fun w=>?_)
 ·rw [aJ8]; exact h1
 ·have h2:¬ (9223372036854775807:Int) < ((a.size:Int) + (b.size:Int)):=by omega
  have hm:IntKind.i64.max=9223372036854775807:=by decide
  simp [eqGuard,binOp,Op.stringOp,hm,h2]
theorem Fp {src dst:TypeId} (hs:P.underlying src=some (.int k)) (hd:P.underlying dst=some (.int .u8)):F5 P tk (.convert src dst X) ty [(.val (.int k x),b1)] [] (v0 (.val (.int .u8 ((u8 x).toNat:Int)))):=
 .conv (by unfold oB; rw [hs]) (by unfold oB; rw [hd]) (fun _=>ok8 _) (fun w=>by rw [eW (by rw [hs]; rfl) hd w,aEt])
theorem bC {src dst:TypeId} (hs:P.underlying src=some (.int k)) (hd:P.underlying dst=some (.int .i64)):F5 P tk (.convert src dst X) ty [(.val (.int k x),b1)] [] (v0 (.val (.int .i64 (W x)))):=
 .conv (by unfold oB; rw [hs]) (by unfold oB; rw [hd]) (fun _=>okW _) (fun w=>by rw [eW (by rw [hs]; rfl) hd w,dV])
theorem pR {src dst:TypeId} {u:UInt8} (hs:P.underlying src=some (.int .u8)) (hd:P.underlying dst=some (.int .i64)):F5 P tk (.convert src dst X) ty [(.val (.int .u8 (u.toNat:Int)),b1)] [] (v0 (.val (.int .i64 (u.toNat:Int)))):=
 .conv (by unfold oB; rw [hs]) (by unfold oB; rw [hd]) (fun _=>Hz.2 (Qx ⟨by omega,by have:=u.toNat_lt; omega⟩)) (fun w=>by
  have:=u.toNat_lt
  rw [eW (by rw [hs]; rfl) hd w,dV,Es (by omega)])
theorem aBh {ts:Array TypeId}:∀ w,∀ cs,(builtin .max ts ty cs #[.int k x,.int k y]).run P w=.ok (.value (.int k (max x y))) w:=fun w cs=>by
 simp [builtin,Builtin.max_,Builtin.max2,go_sem]
 split <;> omega
theorem aFl {ts:Array TypeId}:F5 P tk (.call ⟨.builtin .max,#[X,Y],ts⟩) ty [(.val (.int k x),b1),(.val (.int k y),b2)] [] (v0 (.val (.int k (max x y)))):=
 .callV2 (vx:=.int k x) (vy:=.int k y) (v:=.int k (max x y)) (by decide) (fun h h'=>by
  rcases Int.le_total x y with hxy | hxy
  ·rw [Int.max_eq_right hxy]; exact h'
  ·rw [Int.max_eq_left hxy]; exact h) aBh
theorem xL {Z:Operand} {c:Bool} {d1 d2:DV} {b3:Option LB} (h:c=true):F5 P tk (.pick X Y Z) ty [(.val (.bool c),b1),(d1,b2),(d2,b3)] [] (v0 d1):=by subst h; exact .pick
theorem yJ {Z:Operand} {c:Bool} {d1 d2:DV} {b3:Option LB} (h:c=false):F5 P tk (.pick X Y Z) ty [(.val (.bool c),b1),(d1,b2),(d2,b3)] [] (v0 d2):=by subst h; exact .pick
theorem P9 {s:ByteArray} (h:P.underlying t=some .string):F5 P tk (.call ⟨.builtin .len,#[X],#[t]⟩) ty [(.val (.string s),b1)] [] (v0 (.val (.int .i64 (s.size:Int)))):=
 .callV1 (fun h=>Hz.2 (Qx ⟨by omega,by have:=Pq.1 h; unfold maxLen at this; omega⟩)) (yM h)
end
section
variable {P:Program} {tk:Nat} {t ty e sz bytes:Nat} {X Y:Operand} {b1 b2:Option LB} {α:Type} {f:α->List C} {l:List α} {n:Int} {k:IntKind} {j kr e':Nat} {x:α}
theorem aCn (h:Jd P t e sz bytes) (hf:∀ x,(f x).length=sz):F5 P tk (.call ⟨.builtin .len,#[X],#[t]⟩) ty [(.sl sz (Aq f l),b1)] [] (v0 (.val (.int .i64 (l.length:Int)))):=.len h.elem (.sl h.hsz (Hd hf l))
theorem aDo (h:Jd P t e sz bytes) (hf:∀ x,(f x).length=sz):F5 P tk (.call ⟨.builtin .len,#[X],#[t]⟩) ty [(.row kr,some (.row e' sz (Aq f l)))] [] (v0 (.val (.int .i64 (l.length:Int)))):=.len h.elem (.row h.hsz (Hd hf l))
theorem aCa (h:Jd P t e sz bytes) (hf:∀ x,(f x).length=sz) (hj:n=(j:Int)) (hx:l[j]?=some x):F5 P tk (.indexAddr t X Y) ty [(.sl sz (Aq f l),b1),(.val (.int k n),b2)] [] (v0 (.elt ((Aq f l).drop (j * sz)))):=.idxS h hj (gL hf hx)
theorem aAh (h:Jd P t e sz bytes) (hf:∀ x,(f x).length=sz) (hj:n=(j:Int)) (hx:l[j]?=some x):F5 P tk (.indexAddr t X Y) ty [(.row kr,some (.row e' sz (Aq f l))),(.val (.int k n),b2)] [] (v0 (.ptr kr (j * sz))):=.idxR h hj (gL hf hx)
theorem lR {a m:Nat} {b1:Option LB} (h:Jd P t e sz bytes) (hj:n=(j:Int)) (hx:((l.drop a).take m)[j]?=some x):F5 P tk (.indexAddr t X Y) ty [(.part kr (a * sz) m,b1),(.val (.int k n),b2)] [] (v0 (.ptr kr ((a + j) * sz))):=by
 have hl:=(aD1.1 hx).1
 rw [aGe] at hl
 rw [aIk]
 exact .idxP h hj (by omega)
theorem Uz {a m:Nat} (hx:((l.drop a).take m)[j]?=some x):l[a + j]?=some x:=by
 rw [aHt] at hx
 split at hx
 ·rwa [aHu] at hx
 ·cases hx
theorem Fo {s g off ft sz':Nat} {ag:Bool} {cs:List C} {a:Nat} (h:Fd P s g off ft) (ht:Ty P ft ag sz') (hz:0 < sz') (hl:a + off < cs.length):F5 P tk (.fieldAddr s X g) ty [(.elt (cs.drop a),b1)] [] (v0 (.elt (cs.drop (a + off)))):=by
 have:=F5.fieldE (P:=P) (tk:=tk) (x:=X) (ty:=ty) (b:=b1) h ht hz (cs:=cs.drop a) (by rw [aGx]; omega)
 rwa [aJ6] at this
theorem Do {sz' a:Nat} {cs:List C} {c:C} (ht:Ty P t false sz') (h:cs[a]?=some c):F5 P tk (.load t X) ty [(.elt (cs.drop a),b1)] [] (v0 (X4 c)):=.loadE1 ht (by rw [aHu]; exact h)
theorem D5 {m a:Nat} {cs cs2:List C} (ht:Ty P t true m) (h:(cs.drop a).take m=cs2) (hl:a + m<=cs.length):F5 P tk (.load t X) ty [(.elt (cs.drop a),b1)] [] (v0 (.agg (cs2.map X4))):=by
 subst h
 exact .loadEA ht (by rw [aGx]; omega)
theorem W6 {m a s:Nat} {cs cs2:List C} (ht:Ty P t true m) (h:(cs.drop a).take m=cs2) (hl:a + m<=cs.length):F5 P tk (.load t X) ty [(.ptr kr a,some (.row e' s cs))] [] (v0 (.agg (cs2.map X4))):=by
 subst h
 exact .loadRA ht hl
theorem bD {i s:Nat} {cs cs' cs2:List C} {ag:Bool} {d:DV} {sz':Nat} {ck:List (Option Nat)} (ht:Ty P t ag sz') (hs:(Da d).length=sz') (hi:i + sz'<=cs.length) (hk:K1 P 20 t=ck) (hd:K0 ck (Da d) cs') (h:Dw cs i cs'=cs2):F5 P tk (.store t X Y) ty [(.ptr kr i,some (.row e' s cs)),(d,b2)] [kr] (oV kr (.row e' s cs2)):=by
 subst h
 exact .storeR ht hs hi hk hd
theorem Dk {d d':DV×Option LB} {l' l2:List α} {ks:List Nat} {kk:Nat} {cs cs':List C} (hS:Jd P t e sz bytes) (hf:∀ x,(f x).length=sz) (ht:vZ d e sz cs ks) (hc:cs=Aq f l) (hs:hE d' sz cs') (hc':cs'=Aq f l') (h:Hh kk l l'=some l2) (hk:sz * bytes=kk):F5 P tk (.call ⟨.builtin .append,#[X,Y],#[t,t]⟩) ty [d,d'] ks (Nx tk (.row e sz (Aq f l2)) ks (.row tk)):=by
 subst hc hc'
 obtain⟨h1,rfl⟩:=pN h
 rw [Lh]
 refine .append hS ht hs ?_
 rw [Hd hf,Hd hf,<- aIk,Nat.mul_assoc,hk]
 exact h1
section
variable {lo hi:Operand} {a b:Int} {ka kb:IntKind} {b3:Option LB} {m:List α}
theorem Ue (hS:Jd P t e sz bytes) (hf:∀ x,(f x).length=sz) (h:bZ l 0 b=some m):F5 P tk (.slice t X none (some hi) none) ty [(.sl sz (Aq f l),b1),(.val (.int kb b),b2)] [] (v0 (.sl sz (Aq f m))):=by
 obtain⟨i,j,hi',rfl,h1,h2,rfl⟩:=Z7 h
 have:i=0:=by omega
 subst this
 rw [<- fQ hf l 0 j h1 h2]
 exact .sliS hS (Hd hf l) ⟨⟨_,_,_,rfl,rfl⟩,rfl⟩ ⟨h1,h2⟩
end
theorem gQ {src dst:TypeId} {s:ByteArray} (hs:P.underlying src=some .string) (hd:P.underlying dst=some (.slice e)) (he:P.underlying e=some (.int .u8)):F5 P tk (.convert src dst X) ty [(.val (.string s),b1)] [] (v0 (.sl 1 (Aq e8 (Hg s)))):=by
 have:=F5.convB (P:=P) (tk:=tk) (x:=X) (ty:=ty) (b:=b1) (s:=s) hs hd he
 rw [<- aEo] at this
 exact this
end
theorem Cv.frzE {σ:St} {θ:Nat->Option Nat} {j e sz:Nat} {cs:List C} (h:σ.L j=some (.row e sz cs)) (h':(match σ.L j with | some _=>true | none=>false)=true) (hn:∀ k,θ k≠some j):Cv σ θ (.row j) (.sl sz cs):=.frz h hn
end Go.Proofs.YtchpcpaacenodaaGreat
namespace Go.Proofs.YtchpcpaacenodaaGreat
open Go.RowKit
mutual
theorem oK (f:Nat->Nat):∀ d,Ju d=[]->Lm f d=d
 | .row _,h=>by simp [Ju] at h
 | .part _ _ _,h=>by simp [Ju] at h
 | .ptr _ _,h=>by simp [Ju] at h
 | .val _,_=>rfl
 | .sl _ _,_=>rfl
 | .slc _ _,_=>rfl
 | .mp _,_=>rfl
 | .elt _,_=>rfl
 | .agg ds,h=>by unfold Ju at h; unfold Lm; rw [Q3 f ds h]
 | .tup ds,h=>by unfold Ju at h; unfold Lm; rw [Q3 f ds h]
 | .clo _ _ ds,h=>by unfold Ju at h; unfold Lm; rw [Q3 f ds h]
theorem Q3 (f:Nat->Nat):∀ ds,Nd ds=[]->Nn f ds=ds
 | [],_=>rfl
 | d :: ds,h=>by
  unfold Nd at h
  have h1:=List.append_eq_nil_iff.1 h
  unfold Nn
  rw [oK f d h1.1,Q3 f ds h1.2]
end
def bJ:LB->List Nat
 | .box ds _=>Nd ds
 | .row ..=>[]
 | .map _=>[]
 | .mit k _ _=>[k]
 | .vec ds _=>Nd ds
theorem yF (f:Nat->Nat) {lb:LB} (h:bJ lb=[]):pT f lb=lb:=by
 cases lb with
 | box ds ty=>
  show LB.box (Nn f ds) ty=_
  rw [Q3 f ds h]
 | row=>rfl
 | map=>rfl
 | mit=>cases h
 | vec ds e=>
  show LB.vec (Nn f ds) e=_
  rw [Q3 f ds h]
def kT (ps gs:List Nat) (r:DV) (bx:List LB):Mj:=⟨some r,fun k=>match F8 (ps.zip bx) k with | some lb=>some (some lb) | none=>bif gs.any (Nat.beq k) then some none else none⟩
theorem jC {ps:List Nat} {tk:Nat}:∀ {l:List Nat} {b:List LB} {i:Nat},(∀ j,l[j]?=ps[i + j]?)->b.length=l.length->(∀ lb∈b,bJ lb=[])->Wc ps tk i b=l.zip b
 | [],[],_,_,_,_=>rfl
 | x :: l,lb :: b,i,hl,hb,ht=>by
  unfold Wc
  have h0:=hl 0
  simp only [Nat.add_zero] at h0
  have e1:Iy ps tk i=x:=by
   unfold Iy
   rw [<- h0]
   rfl
  rw [e1,yF _ (ht lb (aHr ..)),jC (l:=l) (fun j=>by have:=hl (j + 1); rw [show i + 1 + j=i + (j + 1) by omega,<- this]; rfl) (by simpa using hb) fun lb h=>ht lb (aGv _ h)]
  rfl
 | [],_ :: _,_,_,h,_=>by simp at h
 | _ :: _,[],_,_,h,_=>by simp at h
theorem gX {ps gs:List Nat} {tk:Nat} {r:DV} {b:List LB} (hr:Ju r=[]) (hl:b.length=ps.length) (hb:∀ lb∈b,bJ lb=[]):T8 ps gs tk r b=kT ps gs r b:=by
 unfold T8 kT
 rw [oK _ _ hr,jC (l:=ps) (fun j=>by rw [aH7]) hl hb]
 rfl
section
variable {P:Program} {cx:Cx} {ops:Array Oper} {Rt:Option (List Nat)} {nb i:Nat} {l:List Oper} {lg:kJ} {σ:St} {Q:St->Prop} {fz:List Nat}
theorem jD {dst:Option Tmp} {f:FuncId} {xs:Array Operand} {tys:Array TypeId} {ty:TypeId} {pos:String} {af:Array Edge} {g:Option (Nat×Bool)} {dsA:List (DV×Option LB)} {rd ps gs:List Nat} {args:List DV} {bx:List LB} {d:DV} {b:List LB} (fl:Bool)
  (G:Km ops σ ⟨dst,.call ⟨.value (.func f),xs,tys⟩,ty,pos,af,g⟩=some true)
  (hF:Fn P f ps.length args bx (fun d' b'=>d'=d/\b'=b)) (hds:E3 σ true xs.toList=some dsA) (hrd:Qz σ 3 (S5 dsA)=rd) (hA:L2 fl (ps ++ gs) (Lt σ rd) (dsA.map (·.1)) args) (hB:aN fl (ps ++ gs) (Lt σ rd) (ps ++ gs) bx) (hnd:Ss cx.np ps gs=true) (hfl:fl=true->Jf d/\∀ lb∈b,Oe lb)
  (hok:K9 Rt i true (nb + 8 * i) rd (ps ++ gs) lg=true) (hr:Ju d=[]) (hl:b.length=ps.length) (hb:b.flatMap bJ=[])
  (k:Chain (B6 P cx fz) ops Rt nb (idx (i + 1) l) ((i,true,nb + 8 * i,rd,ps ++ gs) :: lg) (σ.app dst (kT ps gs d b)) Q) :
  Chain (B6 P cx fz) ops Rt nb (idx i (⟨dst,.call ⟨.value (.func f),xs,tys⟩,ty,pos,af,g⟩ :: l)) lg σ Q:=by
 refine F0 fl G hF hds hrd hA hB hnd (fun h r b=>?_) hok (fun _=>⟨_,_,⟨rfl,rfl⟩,by omega,by omega⟩) fun r b=>?_
 ·rintro⟨rfl,rfl⟩; exact hfl h
 ·rintro⟨rfl,rfl⟩
  rw [gX hr hl fun lb h=>?_]
  ·exact k
  ·have:=aJ3.1 hb lb h
   exact this
theorem Eo {dst:Option Tmp} {t:Tmp} {f:FuncId} {q:Option LB} {xs:Array Operand} {tys:Array TypeId} {ty:TypeId} {pos:String} {af:Array Edge} {g:Option (Nat×Bool)} {dsA:List (DV×Option LB)} {rd ps gs:List Nat} {args:List DV} {bx:List LB} {d:DV} {b:List LB} (fl:Bool)
  (G:Km ops σ ⟨dst,.call ⟨.value (.tmp t),xs,tys⟩,ty,pos,af,g⟩=some true) (hc:ev σ true (.tmp t)=some (.val (.func (.func f) #[] #[]),q))
  (hF:Fn P f ps.length args bx (fun d' b'=>d'=d/\b'=b)) (hds:E3 σ true xs.toList=some dsA) (hrd:Qz σ 3 (S5 dsA)=rd) (hA:L2 fl (ps ++ gs) (Lt σ rd) (dsA.map (·.1)) args) (hB:aN fl (ps ++ gs) (Lt σ rd) (ps ++ gs) bx) (hnd:Ss cx.np ps gs=true) (hfl:fl=true->Jf d/\∀ lb∈b,Oe lb)
  (hok:K9 Rt i true (nb + 8 * i) rd (ps ++ gs) lg=true) (hr:Ju d=[]) (hl:b.length=ps.length) (hb:b.flatMap bJ=[])
  (k:Chain (B6 P cx fz) ops Rt nb (idx (i + 1) l) ((i,true,nb + 8 * i,rd,ps ++ gs) :: lg) (σ.app dst (kT ps gs d b)) Q) :
  Chain (B6 P cx fz) ops Rt nb (idx i (⟨dst,.call ⟨.value (.tmp t),xs,tys⟩,ty,pos,af,g⟩ :: l)) lg σ Q:=by
 refine qT fl G hc hF hds hrd hA hB hnd (fun h r b=>?_) hok (fun _=>⟨_,_,⟨rfl,rfl⟩,by omega,by omega⟩) fun r b=>?_
 ·rintro⟨rfl,rfl⟩; exact hfl h
 ·rintro⟨rfl,rfl⟩
  rw [gX hr hl fun lb h=>?_]
  ·exact k
  ·have:=aJ3.1 hb lb h
   exact this
theorem Dg {dst:Option Tmp} {t:Tmp} {f:FuncId} {n:Nat} {cs:List DV} {q:Option LB} {xs:Array Operand} {tys:Array TypeId} {ty:TypeId} {pos:String} {af:Array Edge} {g:Option (Nat×Bool)} {dsA:List (DV×Option LB)} {rd ps gs:List Nat} {args:List DV} {bx:List LB} {d:DV} {b:List LB} (fl:Bool)
  (G:Km ops σ ⟨dst,.call ⟨.value (.tmp t),xs,tys⟩,ty,pos,af,g⟩=some true) (hc:ev σ true (.tmp t)=some (.clo f n cs,q))
  (hF:Fn P f ps.length args bx (fun d' b'=>d'=d/\b'=b)) (hds:E3 σ true xs.toList=some dsA) (hrd:Qz σ 3 (Nd cs ++ S5 dsA)=rd) (hA:L2 fl (ps ++ gs) (Lt σ rd) (cs.take n ++ (dsA.map (·.1) ++ cs.drop n)) args) (hB:aN fl (ps ++ gs) (Lt σ rd) (ps ++ gs) bx) (hnd:Ss cx.np ps gs=true) (hfl:fl=true->Jf d/\∀ lb∈b,Oe lb)
  (hok:K9 Rt i true (nb + 8 * i) rd (ps ++ gs) lg=true) (hr:Ju d=[]) (hl:b.length=ps.length) (hb:b.flatMap bJ=[])
  (k:Chain (B6 P cx fz) ops Rt nb (idx (i + 1) l) ((i,true,nb + 8 * i,rd,ps ++ gs) :: lg) (σ.app dst (kT ps gs d b)) Q) :
  Chain (B6 P cx fz) ops Rt nb (idx i (⟨dst,.call ⟨.value (.tmp t),xs,tys⟩,ty,pos,af,g⟩ :: l)) lg σ Q:=by
 refine rO fl G hc hF hds hrd hA hB hnd (fun h r b=>?_) hok (fun _=>⟨_,_,⟨rfl,rfl⟩,by omega,by omega⟩) fun r b=>?_
 ·rintro⟨rfl,rfl⟩; exact hfl h
 ·rintro⟨rfl,rfl⟩
  rw [gX hr hl fun lb h=>?_]
  ·exact k
  ·have:=aJ3.1 hb lb h
   exact this
end
section
variable {P:Program} {tk:Nat} {t ty yt:TypeId} {X Y:Operand} {b1 b2:Option LB} {k k':IntKind} {x y:Int}
theorem Ug (k:IntKind) (z:Int):Fa (.int k (k.wrap z))=true:=by
 rw [Hz]
 cases k <;> simp [IntKind.wrap,IntKind.bits,IntKind.signed,IntKind.min,IntKind.max] <;> (try split) <;> omega
theorem aCu:F5 P tk (.binOp .sub t X Y yt) ty [(.val (.int k x),b1),(.val (.int k y),b2)] [] (v0 (.val (.int k (k.wrap (x - y))))):=.binOp (fun _ _=>Ug _ _) nX
theorem aCe:F5 P tk (.binOp .mul t X Y yt) ty [(.val (.int k x),b1),(.val (.int k y),b2)] [] (v0 (.val (.int k (k.wrap (x * y))))):=.binOp (fun _ _=>Ug _ _) mP
theorem aB4:F5 P tk (.binOp .and t X Y yt) ty [(.val (.int k x),b1),(.val (.int k y),b2)] [] (v0 (.val (.int k (jI k x y)))):=.binOp (fun _ _=>Ug _ _) (fun w=>by simp [eqGuard,binOp,Op.intBits,jI])
theorem fE:F5 P tk (.binOp .xor t X Y yt) ty [(.val (.int k x),b1),(.val (.int k y),b2)] [] (v0 (.val (.int k (Rq k x y)))):=.binOp (fun _ _=>Ug _ _) (fun w=>by simp [eqGuard,binOp,Op.intBits,Rq])
theorem wX (k:IntKind):k.min<=0/\0<=k.max:=by cases k <;> decide
theorem iZ {x d:Int} (hx:x<=0) (hd:0 < d):x / d<=0:=by
 rcases Int.lt_trichotomy (x / d) 0 with h | h | h
 ·omega
 ·omega
 ·exfalso
  have h1:=Int.mul_ediv_add_emod x d
  have h2:=Int.emod_nonneg x (show d≠0 by omega)
  have h3:d * 1<=d * (x / d):=Int.mul_le_mul_of_nonneg_left (by omega) (by omega)
  omega
theorem Oc {z:Int} (h:Qc k x y=some z):F5 P tk (.binOp .shr t X Y yt) ty [(.val (.int k x),b1),(.val (.int k' y),b2)] [] (v0 (.val (.int k z))):=by
 obtain⟨h0,rfl⟩:=pD h
 refine .binOp (fun hx _=>?_) (fun w=>by simp [eqGuard,binOp,Op.shift,h0])
 rw [Hz] at hx ⊢
 have hm:=wX k
 have hd:(0:Int) < 2 ^ min y.toNat k.bits:=Int.pow_pos (by omega)
 generalize (2:Int) ^ min y.toNat k.bits=d at hd
 rw [aJt _ (Int.le_of_lt hd)]
 rcases Int.le_total 0 x with hx0 | hx0
 ·have h1:=Int.ediv_nonneg hx0 (Int.le_of_lt hd)
  have h2:=Int.ediv_le_self d hx0
  omega
 ·have h1:x<=x / d:=by
   have:=Int.mul_ediv_add_emod x d
   have h3:=Int.emod_nonneg x (show d≠0 by omega)
   have h4:x / d<=0:=iZ hx0 hd
   have h5:d * (x / d)<=1 * (x / d):=Int.mul_le_mul_of_nonpos_right (by omega) h4
   have h6:=Int.emod_lt_of_pos x hd
   by_cases h7:x / d=0
   ·omega
   ·have h8:x / d<=-1:=by omega
    have h9:(d - 1) * (x / d)<=(d - 1) * (-1):=Int.mul_le_mul_of_nonneg_left h8 (by omega)
    have h10:d * (x / d)=(d - 1) * (x / d) + x / d:=by rw [Int.sub_mul,Int.one_mul]; omega
    omega
  have h2:x / d<=0:=iZ hx0 hd
  omega
theorem lT {z:Int} (h:cK k x y=some z):F5 P tk (.binOp .shl t X Y yt) ty [(.val (.int k x),b1),(.val (.int k' y),b2)] [] (v0 (.val (.int k z))):=by
 obtain⟨h0,rfl⟩:=qJ h
 exact .binOp (fun _ _=>Ug _ _) (fun w=>by simp [eqGuard,binOp,Op.shift,h0])
theorem Zq {src dst:TypeId} (hs:P.underlying src=some (.int k)) (hd:P.underlying dst=some (.int k')):F5 P tk (.convert src dst X) ty [(.val (.int k x),b1)] [] (v0 (.val (.int k' (k'.wrap x)))):=
 .conv (by unfold oB; rw [hs]) (by unfold oB; rw [hd]) (fun _=>Ug _ _) (eW (by rw [hs]; rfl) hd)
theorem gR {s:ByteArray} {u:UInt8} (ht:P.underlying t=some .string) (h:gW s x=some u):F5 P tk (.index t X Y) ty [(.val (.string s),b1),(.val (.int k x),b2)] [] (v0 (.val (.int .u8 (u.toNat:Int)))):=by
 unfold gW at h
 split at h
 ·cases h
 ·rename_i h0
  have h1:0<=x:=by omega
  have hlt:=(aGg.1 h).1
  have hs:s[x.toNat]?=some u:=by
   have hlt':x.toNat < s.size:=hlt
   rw [getElem?_pos s x.toNat hlt']
   have:=(aGg.1 h).2
   exact congrArg some this
  exact .indexS (fun _ _=>ok8 _) (fun w=>by simp [Instr.index,asIntOf,run_underlying ht,h1,hs])
theorem aA7 {a b:ByteArray}:F5 P tk (.binOp .gtr t X Y yt) ty [(.val (.string a),b1),(.val (.string b),b2)] [] (v0 (.val (.bool (Kz (Hg b) (Hg a))))):=.binOp (fun _ _=>rfl) (fun w=>by
 rw [<- Zf]
 simp [eqGuard,binOp,Op.stringOp,fV,ByteArray.toList_eq,Hg]
 congr 1
 rw [show (a.data == b.data)=decide (a.data=b.data) from by by_cases h:a.data=b.data <;> simp [h]])
theorem gY {a b:ByteArray}:F5 P tk (.binOp .geq t X Y yt) ty [(.val (.string a),b1),(.val (.string b),b2)] [] (v0 (.val (.bool (!Kz (Hg a) (Hg b))))):=.binOp (fun _ _=>rfl) (fun w=>by
 simp [eqGuard,binOp,Op.stringOp,fV,ByteArray.toList_eq,Hg])
end
section
variable {α:Type} {f:α->List C} {sz:Nat}
theorem Zn (hf:∀ x,(f x).length=sz) {l:List α} {i n:Nat} (h:i + n<=l.length):i * sz + n * sz<=(Aq f l).length:=by
 rw [Hd hf,<- aIk]
 exact aH0 _ h
theorem mG (hf:∀ x,(f x).length=sz) (h0:0 < sz) {l:List α} (h:Aq f l=[]):l=[]:=by
 have:=Hd hf l
 rw [h] at this
 rcases aJ1.1 this.symm with h1 | h1
 ·exact aGb h1
 ·omega
end
section
variable {P:Program} {tk:Nat} {t ty e sz bytes:Nat} {X Y:Operand} {b1 b2 b3:Option LB} {α:Type} {f:α->List C} {l m:List α} {n:Int} {k ka kb:IntKind} {j kr e':Nat} {x:α} {lo hi:Operand} {a b:Int}
theorem Us (hS:Jd P t e sz bytes) (hf:∀ x,(f x).length=sz) (h:bZ l a (l.length:Int)=some m):F5 P tk (.slice t X (some lo) none none) ty [(.row kr,some (.row e' sz (Aq f l))),(.val (.int ka a),b2)] [] (v0 (.part kr (a.toNat * sz) ((l.length:Int).toNat - a.toNat))):=by
 obtain⟨i,j,rfl,hj,h1,h2,rfl⟩:=Z7 h
 have:j=l.length:=by omega
 subst this
 exact .sliR hS (Hd hf l) ⟨⟨_,_,_,rfl,rfl⟩,rfl⟩ ⟨h1,h2⟩
theorem Xk (hS:Jd P t e sz bytes) (hf:∀ x,(f x).length=sz) (h:bZ l 0 b=some m):F5 P tk (.slice t X none (some hi) none) ty [(.row kr,some (.row e' sz (Aq f l))),(.val (.int kb b),b3)] [] (v0 (.part kr ((0:Int).toNat * sz) (b.toNat - (0:Int).toNat))):=by
 obtain⟨i,j,hi',rfl,h1,h2,rfl⟩:=Z7 h
 have:i=0:=by omega
 subst this
 have e0:(0:Int).toNat * sz=0 * sz:=rfl
 exact .sliR hS (Hd hf l) ⟨⟨_,_,_,rfl,rfl⟩,rfl⟩ ⟨h1,h2⟩
theorem bW {sz:Nat}:∀ (ds:List DV) (k:Nat) (pre rest:List DV),pre.length=k * sz->rest.length=ds.length * sz->(∀ d∈ds,(Da d).length=sz)->Ix (fun i=>some (i * sz,sz)) (pre ++ rest) ((List.range' k ds.length).zip ds)=some (pre ++ ds.flatMap Da)
 | [],k,pre,rest,_,hr,_=>by
  have:rest=[]:=aGb (by simpa using hr)
  subst this
  simp [Ix]
 | d :: ds,k,pre,rest,hp,hr,hd=>by
  have h0:=hd d (aHr ..)
  have hr':rest.length=ds.length * sz + sz:=by rw [hr,aH2,aIk,aJ4]
  rw [aH2,List.range'_succ,List.zip_cons_cons]
  unfold Ix
  simp only []
  have c1:Nat.beq (Da d).length sz=true:=by rw [h0]; exact aJj _
  have c2:Nat.ble (k * sz + sz) (pre ++ rest).length=true:=aJl (by rw [aGd,hp,hr']; omega)
  rw [c1,c2]
  simp only [Bool.and_self,aD8]
  have e1:Dw (pre ++ rest) (k * sz) (Da d)=(pre ++ Da d) ++ rest.drop sz:=by
   unfold Dw
   rw [h0,<- hp,List.take_left,<- aJ6,List.drop_left,aH4]
  rw [e1,bW ds (k + 1) (pre ++ Da d) (rest.drop sz) (by rw [aGd,hp,h0,aIk,aJ4]) (by rw [aGx,hr']; omega) fun x hx=>hd x (aGv _ hx)]
  rw [aIl,aH4]
theorem Fu {len:Nat} {parts:Array (Nat×Operand)} {ds:List (DV×Option LB)} {z:List Value} {cs:List C} {ck:List (Option Nat)} (hS:Jd P t e sz bytes) (hz:Zt P e z) (hlen:len * sz<=16777216) (hp:parts.toList.map (·.1)=List.range' 0 len) (hzl:z.length=sz) (hn:ds.length=len) (hs:ds.all (fun q=>Nat.beq (Da q.1).length sz)=true) (hk:K1 P 20 e=ck) (hc:K0 (List.replicate len ck).flatten (ds.flatMap fun q=>Da q.1) cs) (ho:ds.all (fun q=>(Da q.1).all Zm)=true) (h:Aq f l=cs):F5 P tk (.buildSlice t len parts) ty ds [] (Om tk (.row e sz (Aq f l)) (.row tk)):=by
 subst h
 refine .buildSl hS hz hlen ?_ hk hc ho
 have hd:=bW (sz:=sz) (ds.map (·.1)) 0 [] ((List.replicate len (z.map DV.val)).flatten) (by simp) (by simp [hzl,hn]) fun d hd=>by
  obtain⟨q,hq,rfl⟩:=aHz.1 hd
  exact aGa (aGf.1 hs q hq)
 rw [aIu,aIu,aIp,hn] at hd
 rw [hp,hd]
 congr 1
 rw [List.flatMap_map]
theorem tW {i bt sz':Nat} {ds ds':List DV} {ag:Bool} {d:DV} {kk:Nat} (ht:Ty P t ag sz') (hs:(Da d).length=sz') (hi:i + sz'<=ds.length) (ho:(Da d).all Zm=true) (h:Dw ds i (Da d)=ds'):F5 P tk (.store t X Y) ty [(.ptr kk i,some (.box ds bt)),(d,b2)] [kk] (oV kk (.box ds' bt)):=by
 subst h
 exact .storeB ht hs hi ho
theorem dF {tk2:Nat} {m':Nat} {ds:List DV} {L:List α} (ht:P.underlying t=some (.array m' e)) (he:Ty P e true sz) (hf:∀ x,(f x).length=sz) (hds:ds=(Aq f L).map X4) (hL:L.length=m') (hx:B8 L n=some x) {d2:List DV} (h2:(f x).map X4=d2):F5 P tk2 (.index t X Y) ty [(.agg ds,b1),(.val (.int k n),b2)] [] (v0 (.agg d2)):=by
 have hx':=Bq hx
 refine .indexAA ht he (Up hx) (by rw [<- hL]; exact (aD1.1 hx').1) ?_
 rw [hds,<- List.map_drop,<- List.map_take,<- h2]
 congr 1
 exact Gd hf hx' (o:=0) (by rw [aKd]; exact aHa (aJn (hf _))) (by omega) rfl
end
def eA {α:Type} [Inhabited α] (n:Nat) (f:α->List C) (x:List α):List C:=(List.range n).flatMap fun i=>f (x[i]!)
theorem aDe {α:Type} [Inhabited α] {n sz:Nat} {f:α->List C} (hf:∀ x,(f x).length=sz) (x:List α):(eA n f x).length=n * sz:=by
 unfold eA
 induction n with
 | zero=>simp
 | succ n ih=>rw [List.range_succ,List.flatMap_append,aGd,ih,aIl,aJy,List.append_nil,hf,aIk,aJ4]
class vB (p:Prop) (q:outParam Prop):Prop where
 go:q->p
theorem st_ {p q:Prop} [s:vB p q] (h:q):p:=s.go h
section
variable {next:St->Prop} {Q:Exit->St->Prop} {i:Nat} {σ:St}
instance:vB (vI next Q .normal σ) (next σ):=⟨fun h=>h⟩
instance:vB (vI next Q (.exit i) σ) (Q (.exit i) σ):=⟨fun h=>h⟩
instance:vB (vI next Q .ret σ) (Q .ret σ):=⟨fun h=>h⟩
instance:vB (zH i Q (.exit i) σ) (Q .normal σ):=⟨fun h=>tY h⟩
instance:vB (zH i Q .normal σ) (Q .normal σ):=⟨fun h=>h⟩
instance:vB (zH i Q .ret σ) (Q .ret σ):=⟨fun h=>h⟩
instance:vB (noG Q .normal σ) (Q .normal σ):=⟨fun h=>h⟩
instance:vB (noG Q (.exit i) σ) (Q (.exit i) σ):=⟨fun h=>h⟩
instance:vB (noG Q .ret σ) (Q .ret σ):=⟨fun h=>h⟩
end
class pK (p:Prop) (q:outParam Prop):Prop where
 go:q->p
instance (priority:=low) stpN_nil (p:Prop):pK p p:=⟨fun h=>h⟩
instance aD5 {p p' q:Prop} [s:vB p p'] [t:pK p' q]:pK p q:=⟨fun h=>s.go (t.go h)⟩
theorem E2 {P:Program} {cx:Cx} {Q:Exit->St->Prop} {σ:St} {q:Prop} [s:pK (Q .ret σ) q] (h:q):B3 P cx .ret Q σ:=eZ (s.go h)
theorem sn_ {Q:Exit->St->Prop} {i j:Nat} {σ:St} (h:Q (.exit j) σ) (hne:j≠i:=by decide):zH i Q (.exit j) σ:=pA hne h
theorem Cc {P:Program} {cx:Cx} {id:Nat} {l:List Oper} {σ:St} {y:Code} {Q:Exit->St->Prop} (nb nb':Nat) (B:∀ k,nb<=k->σ.U k=false)
  (h:Chain (B6 P cx []) l.toArray none nb (idx 0 l) [] σ (fun σ'=>(∀ j,nb'<=j->σ'.U j=false)->vI (B3 P cx y Q) Q .normal σ')) (hn:Nat.ble (nb + 8 * l.length) nb'=true:=by rfl) (hd:lO cx.N l=true:=by rfl):B3 P cx (.seq (.region id l.toArray false) y) Q σ:=
 Aj (Ak (B6 _ _ []) nb nb' B hn hd h)
section
variable {P:Program} {cx:Cx} {ops:Array Oper} {Rt:Option (List Nat)} {nb i:Nat} {l:List Oper} {lg:kJ} {σ:St} {Q:St->Prop} {fz:List Nat}
theorem Gh {Q:Exit->St->Prop} {nb':Nat} {q:Prop} [s:pK (Q .normal σ) q] (h:(∀ j,nb'<=j->σ.U j=false)->q):Chain (B6 P cx fz) ops Rt nb (idx i []) lg σ (fun σ'=>(∀ j,nb'<=j->σ'.U j=false)->Q .normal σ'):=aG3 fun B=>s.go (h B)
theorem C0 {dst:Option Tmp} {op:Op} {ty:TypeId} {pos:String} {af:Array Edge} {g:Option (Nat×Bool)} {ds:List (DV×Option LB)} {wr:List Nat} {e:Mj} (G:Km ops σ ⟨dst,op,ty,pos,af,g⟩=some true) (hds:E3 σ (Kh op) op.operands.toList=some ds) (h:F5 P (nb + 8 * i) op ty ds wr e)
  (hrd:(bif Kh op then K3 (L1 op) ds else [])=[]) (hok:K9 Rt i false (nb + 8 * i) [] wr lg=true) (k:Chain (B6 P cx fz) ops Rt nb (idx (i + 1) l) ((i,false,nb + 8 * i,[],wr) :: lg) (σ.app dst e) Q) (hz:zM fz (nb + 8 * i)=0:=by rfl) (hap:Pu cx.np op wr=true:=by rfl) :
  Chain (B6 P cx fz) ops Rt nb (idx i (⟨dst,op,ty,pos,af,g⟩ :: l)) lg σ Q:=Fi (rd:=[]) G hds h hrd hok k hz hap
end
end Go.Proofs.YtchpcpaacenodaaGreat
namespace Go.Proofs.YtchpcpaacenodaaGreat
open Go.RowKit
theorem W5:∀ {d:DV} {k:Nat},men d k->k∈Ju d
 | .row _,k,h=>by simpa [Ju,men] using h
 | .part _ _ _,k,h=>by simpa [Ju,men] using h
 | .ptr _ _,k,h=>by simpa [Ju,men] using h
 | .agg ds,k,h=>by unfold men at h; unfold Ju; exact menL_dtoks h
 | .tup ds,k,h=>by unfold men at h; unfold Ju; exact menL_dtoks h
 | .clo _ _ ds,k,h=>by unfold men at h; unfold Ju; exact menL_dtoks h
 | .val _,k,h=>by unfold men at h; exact h.elim
 | .sl _ _,k,h=>by unfold men at h; exact h.elim
 | .slc _ _,k,h=>by unfold men at h; exact h.elim
 | .mp _,k,h=>by unfold men at h; exact h.elim
 | .elt _,k,h=>by unfold men at h; exact h.elim
where
 menL_dtoks:∀ {ds:List DV} {k:Nat},F2 ds k->k∈Nd ds
 | [],k,h=>by unfold F2 at h; exact h.elim
 | d :: ds,k,h=>by
  unfold F2 at h
  unfold Nd
  rcases h with h | h
  ·exact aH3 _ (W5 h)
  ·exact aIa _ (menL_dtoks h)
theorem Ru.cut {cx:Cx} {σ σ':St} {t k n e sz:Nat} {cs:List C} (hk:cx.np<=k) (hF:σ.F t=some (.part k 0 n)) (hL:σ.L k=some (.row e sz cs)) (hn:n * sz<=cs.length)
  (hF':∀ s d,σ'.F s=some d->(d=.row k/\s=t)\/(σ.F s=some d/\¬ men d k)) (hL':∀ j lb,σ'.L j=some lb->(j=k/\lb=.row e sz (cs.take (n * sz)))\/(j≠k/\σ.L j=some lb/\¬ Sl lb k)) (B:∀ j,σ'.U j=σ.U j):Ru cx σ σ':=by
 rintro a w ⟨ρ,h⟩
 obtain⟨N,us,q1,q0,q2⟩:=h.lo _ _ hL
 have hr:=h.fr _ _ hF
 unfold C7 at hr
 obtain⟨A,c,hv,hnc,hc,hA,hB⟩:=hr
 have hlen:n * sz<=us.length:=by rw [<- q2.1]; exact hn
 have hblk:∀ b,Dn (a.tmps.getD t undef)=some b->Dn (ρ k)=some b:=fun b hb=>by
  rcases q1.2 with ⟨A',e,-⟩ | ⟨g',cap,cur,e,r1,-⟩
  ·obtain⟨t1,t2⟩:=hB rfl _ _ _ e
   rw [hv,t2] at hb
   cases A <;> cases hb
  ·obtain⟨t1,t2⟩:=hB rfl _ _ _ e
   rw [hv,t1] at hb
   rw [e,Jn r1,(Fy hb).1]
 have hown:w.rowOk e sz (a.tmps.getD t undef) n (us.take (n * sz)):=by
  refine⟨by rw [aGe]; omega,?_⟩
  rcases q1.2 with ⟨A',e,q3⟩ | ⟨g,cap,cur,e,r1,r2,r3,r4,r5,r6⟩
  ·obtain⟨t1,t2⟩:=hB rfl _ _ _ e
   refine .inl ⟨A',by rw [hv,t1,t2]; congr 1; omega,by omega⟩
  ·obtain⟨t1,t2⟩:=hB rfl _ _ _ e
   refine .inr ⟨g,cap,cur,by rw [hv,t1,t2],r1,r2,by omega,r4,r5,?_⟩
   have hle:n * sz<=N * sz:=by rw [<- q1.1]; exact hlen
   rw [<- r6,aKe,aJh hle]
 let ρ':Nat->Value:=fun j=>if j=k then a.tmps.getD t undef else ρ j
 have hk':ρ' k=a.tmps.getD t undef:=if_pos rfl
 have ho:∀ j,j≠k->ρ' j=ρ j:=fun j hj=>if_neg hj
 have loc:∀ j lb b,σ'.L j=some lb->Dn (ρ' j)=some b->∃ lb',σ.L j=some lb'/\Dn (ρ j)=some b:=fun j lb b hj hb=>by
  rcases hL' j lb hj with ⟨rfl,-⟩ | ⟨hne,h1,-⟩
  ·rw [hk'] at hb; exact⟨_,hL,hblk b hb⟩
  ·rw [ho j hne] at hb; exact⟨_,h1,hb⟩
 have hI:∀ b,M0 cx σ ρ w b->M0 cx σ' ρ' w b/\w.heap[b]?=w.heap[b]?:=fun b hb=>by
  refine⟨⟨hb.1,fun hl=>?_,hb.2.2⟩,rfl⟩
  obtain⟨j,lb,h1,h2⟩:=hl
  obtain⟨lb',h3,h4⟩:=loc j lb b h1 h2
  exact hb.2.1 ⟨j,lb',h3,h4⟩
 refine⟨ρ',⟨h.defers,h.size,h.kept,fun s d hs=>?_,fun j lb hj=>?_,fun j j' lb lb' b h1 h2 h3 h4=>?_,fun s d j hs hm=>?_,fun j lb hj=>?_,fun j hj=>?_,fun j lb b hj hp hb=>?_⟩⟩
 ·rcases hF' s d hs with ⟨rfl,rfl⟩ | ⟨h1,h2⟩
  ·unfold C7
   rw [hk']
   refine⟨rfl,?_⟩
   rw [hv]; rfl
  ·exact C7.step hI d _ (fun j hj=>ho j fun e=>h2 (e ▸ hj)) (h.fr _ _ h1)
 ·rcases hL' j lb hj with ⟨rfl,rfl⟩ | ⟨hne,h1,h2⟩
  ·rw [hk']
   refine⟨n,us.take (n * sz),hown,fun b hb=>q0 b (hblk b hb),?_⟩
   refine G2.keep_ (w:=w) ⟨by rw [aGe,aGe,q2.1],fun j c u a b=>?_⟩ (fun b hb=>rfl) fun b hb=>(hI b hb).1
   rw [aHt] at a b
   split at a
   ·rename_i hj
    rw [if_pos hj] at b
    exact q2.2 j c u a b
   ·cases a
  ·rw [ho j hne]
   exact (h.lo _ _ h1).step hI (fun j' hj'=>ho j' fun e=>h2 (e ▸ hj')) fun b _=>rfl
 ·obtain⟨_,e1,e2⟩:=loc _ _ _ h1 h3
  obtain⟨_,e3,e4⟩:=loc _ _ _ h2 h4
  exact h.sep _ _ _ _ _ e1 e3 e2 e4
 ·rw [B]
  rcases hF' s d hs with ⟨rfl,rfl⟩ | ⟨h1,h2⟩
  ·unfold men at hm
   subst hm
   exact (h.usedL _ _ hL).1
  ·exact h.usedF _ _ _ h1 hm
 ·rw [B]
  rcases hL' j lb hj with ⟨rfl,rfl⟩ | ⟨hne,h1,h2⟩
  ·exact⟨(h.usedL _ _ hL).1,fun k' hm=>hm.elim⟩
  ·exact⟨(h.usedL _ _ h1).1,fun k' hm=>by rw [B]; exact (h.usedL _ _ h1).2 k' hm⟩
 ·rw [B]
  exact⟨(ho j (by omega)).trans (h.pin j hj).1,(h.pin j hj).2⟩
 ·obtain⟨_,e1,e2⟩:=loc _ _ _ hj hb
  exact h.fresh _ _ _ e1 hp e2
def pY (t k:Nat):List (Nat×DV)->List (Nat×DV)
 | []=>[]
 | (s,d) :: l=>bif Nat.beq s t then (s,.row k) :: pY t k l else (s,d) :: pY t k l
def pB (k:Nat) (lb:LB):List (Nat×LB)->List (Nat×LB)
 | []=>[]
 | (j,b) :: l=>bif Nat.beq j k then (j,lb) :: pB k lb l else (j,b) :: pB k lb l
def aEi (t k:Nat) (fl:List (Nat×DV)) (ll:List (Nat×LB)):Bool:=
 fl.all (fun q=>Nat.beq q.1 t || !(Ju q.2).contains k) && ll.all (fun q=>Nat.beq q.1 k || !(bJ q.2).contains k)
theorem Xx {t k:Nat}:∀ {fl:List (Nat×DV)} {s:Nat} {d:DV},F8 (pY t k fl) s=some d->(s=t/\d=.row k)\/(s≠t/\F8 fl s=some d)
 | [],s,d,h=>by simp [pY,F8] at h
 | (s',d') :: l,s,d,h=>by
  unfold pY at h
  cases hb:Nat.beq s' t with
  | true=>
   rw [hb] at h
   simp only [aD8] at h
   have e0:=aGa hb
   unfold F8 at h
   cases hs:Nat.beq s s' with
   | true=>
    rw [hs] at h
    have:=aGa hs
    injection h with h
    exact .inl ⟨by omega,h.symm⟩
   | false=>
    rw [hs] at h
    rcases Xx h with h | ⟨h1,h2⟩
    ·exact .inl h
    ·refine .inr ⟨h1,?_⟩
     unfold F8
     rw [hs]
     exact h2
  | false=>
   rw [hb] at h
   simp only [aCx] at h
   unfold F8 at h
   cases hs:Nat.beq s s' with
   | true=>
    rw [hs] at h
    have:=aGa hs
    refine .inr ⟨fun e=>?_,?_⟩
    ·subst this
     subst e
     rw [aJj] at hb
     cases hb
    ·unfold F8
     rw [hs]
     exact h
   | false=>
    rw [hs] at h
    rcases Xx h with h | ⟨h1,h2⟩
    ·exact .inl h
    ·refine .inr ⟨h1,?_⟩
     unfold F8
     rw [hs]
     exact h2
theorem X5 {k:Nat} {lb:LB}:∀ {ll:List (Nat×LB)} {j:Nat} {b:LB},F8 (pB k lb ll) j=some b->(j=k/\b=lb)\/(j≠k/\F8 ll j=some b)
 | [],s,d,h=>by simp [pB,F8] at h
 | (s',d') :: l,s,d,h=>by
  unfold pB at h
  cases hb:Nat.beq s' k with
  | true=>
   rw [hb] at h
   simp only [aD8] at h
   have e0:=aGa hb
   unfold F8 at h
   cases hs:Nat.beq s s' with
   | true=>
    rw [hs] at h
    have:=aGa hs
    injection h with h
    exact .inl ⟨by omega,h.symm⟩
   | false=>
    rw [hs] at h
    rcases X5 h with h | ⟨h1,h2⟩
    ·exact .inl h
    ·refine .inr ⟨h1,?_⟩
     unfold F8
     rw [hs]
     exact h2
  | false=>
   rw [hb] at h
   simp only [aCx] at h
   unfold F8 at h
   cases hs:Nat.beq s s' with
   | true=>
    rw [hs] at h
    have:=aGa hs
    refine .inr ⟨fun e=>?_,?_⟩
    ·subst this
     subst e
     rw [aJj] at hb
     cases hb
    ·unfold F8
     rw [hs]
     exact h
   | false=>
    rw [hs] at h
    rcases X5 h with h | ⟨h1,h2⟩
    ·exact .inl h
    ·refine .inr ⟨h1,?_⟩
     unfold F8
     rw [hs]
     exact h2
theorem qE {lb:LB} {k:Nat} (h:Sl lb k):k∈bJ lb:=by
 cases lb with
 | box ds ty=>unfold bJ; exact W5.menL_dtoks h
 | row=>exact h.elim
 | map=>exact h.elim
 | mit k' n s=>have h:k=k':=h; subst h; exact aGh.2 rfl
 | vec ds e=>unfold bJ; exact W5.menL_dtoks h
theorem oU {α:Type} {f:α->List C} {sz:Nat} (hf:∀ x,(f x).length=sz) {l:List α} {n:Nat} (hn:n<=l.length):(Aq f l).take (n * sz)=Aq f (l.take n):=by
 have:=fQ hf l 0 n (aHc _) hn
 simpa using this
theorem aHp {α:Type} {f:α->List C} {L:List α} {cx:Cx} {fl:List (Nat×DV)} {ll:List (Nat×LB)} {N:Nat} (t k:Nat) {n e sz:Nat} (hf:∀ x,(f x).length=sz) (hn:n<=L.length) (hF:F8 fl t=some (.part k 0 n)) (hL:F8 ll k=some (.row e sz (Aq f L)))
  (hk:Nat.ble cx.np k=true) (hc:aEi t k fl ll=true):Ru cx (mk fl ll N) (mk (pY t k fl) (pB k (.row e sz (Aq f (L.take n))) ll) N):=by
 unfold aEi at hc
 rw [aGc,aGf,aGf] at hc
 refine Ru.cut (t:=t) (k:=k) (n:=n) (e:=e) (sz:=sz) (cs:=Aq f L) (aD6 hk) hF hL (by rw [Hd hf]; exact aH0 _ hn) (fun s d hs=>?_) (fun j lb hj=>?_) fun _=>rfl
 ·rcases Xx hs with ⟨rfl,rfl⟩ | ⟨h1,h2⟩
  ·exact .inl ⟨rfl,rfl⟩
  ·refine .inr ⟨h2,fun hm=>?_⟩
   have:=hc.1 _ (Ij h2)
   rw [aH8] at this
   rcases this with h | h
   ·exact h1 (aGa h)
   ·have hm':=W5 hm
    simp at h
    exact h hm'
 ·rcases X5 hj with ⟨rfl,rfl⟩ | ⟨h1,h2⟩
  ·refine .inl ⟨rfl,?_⟩
   rw [oU hf hn]
  ·refine .inr ⟨h1,h2,fun hm=>?_⟩
   have:=hc.2 _ (Ij h2)
   rw [aH8] at this
   rcases this with h | h
   ·exact h1 (aGa h)
   ·have hm':=qE hm
    simp at h
    exact h hm'
end Go.Proofs.YtchpcpaacenodaaGreat
