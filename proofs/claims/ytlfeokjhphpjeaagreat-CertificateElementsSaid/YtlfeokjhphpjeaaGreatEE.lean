import Derived.Test.YtlfeokjhphpjeaaGreatED
import Derived.KernelRfl
import Derived.Test.YtlfeokjhphpjeaaGreatPU
import Derived.Scope
set_option linter.unusedVariables false
set_option linter.unusedSimpArgs false
namespace Go.Proofs.YtlfeokjhphpjeaaGreat
open Go.RowKit
section
variable {Q:Exit->St->Prop} {next:St->Prop} {σ:St} {i j:Nat}
theorem nE (h:Q .normal σ):sB i Q (.exit i) σ:=by
 show (if i=i then _ else _)
 rw [if_pos rfl]
 exact h
theorem jP (hne:j≠i) (h:Q (.exit j) σ):sB i Q (.exit j) σ:=by
 show (if j=i then _ else _)
 rw [if_neg hne]
 exact h
end
theorem pR {P:Program} {t ty:TypeId} {s:ByteArray} (h:P.underlying t=some .string):∀ w,∀ cs,(builtin .len #[t] ty cs #[.string s]).run P w=.ok (.value (.int .i64 s.size)) w:=fun w cs=>by
 simp [builtin,Builtin.len_,run_underlying h,goInt]
section
variable {P:Program} {t:TypeId} {X Y:Operand}
end
section
variable {P:Program} {t:TypeId} {X Y:Operand} {k:IntKind} {x y:Int}
end
section
variable {P:Program} {t:TypeId} {X Y:Operand} {a b:ByteArray}
end
theorem Jd {θ:List (Nat×Nat)} {j:Nat} (h:(θ.all fun q=>!Nat.beq q.2 j)=true):∀ k,E7 θ k≠some j:=fun k hk=>by
 have:=List.all_eq_true.1 h _ (Fk hk)
 simp at this
theorem Bp {P:Program} {cx:Cx} {x y:Code} {Q:Exit->St->Prop} {σ:St} {ι:Type} (mid:ι->St) (ok:ι->Prop) (hx:B9 P cx x (pA (fun σ'=>∃ i,ok i/\Uk cx σ' (mid i)) Q) σ) (hy:∀ i,ok i->B9 P cx y Q (mid i)):B9 P cx (.seq x y) Q σ:=by
 refine Ah (nU ?_ hx)
 intro e σ' h
 cases e with
 | normal=>
  obtain⟨i,h1,h2⟩:=h
  exact Je h2 (hy i h1)
 | _=>exact h
end Go.Proofs.YtlfeokjhphpjeaaGreat
namespace Go.Proofs.YtlfeokjhphpjeaaGreat
open Go.RowKit
mutual
def eD (j:Nat):DV->Bool
 | .part k _ _=>!Nat.beq k j
 | .ptr k _=>!Nat.beq k j
 | .agg ds=>Xu j ds
 | .tup ds=>Xu j ds
 | .clo _ _ ds=>Xu j ds
 | .val _=>true
 | .sl _ _=>true
 | .slc _ _=>true
 | .mp _=>true
 | .elt _=>true
 | .row _=>true
 | .nst k s _=>!Nat.beq k j && !Nat.beq s j
 | .npt k s _ _=>!Nat.beq k j && !Nat.beq s j
 | .npr k s _ _ _=>!Nat.beq k j && !Nat.beq s j
 | .qpt k _=>!Nat.beq k j
def Xu (j:Nat):List DV->Bool
 | []=>true
 | d :: ds=>eD j d && Xu j ds
end
mutual
def H9 (j sz:Nat) (cs:List C):DV->DV
 | .row k=>bif Nat.beq k j then .sl sz cs else .row k
 | .agg ds=>.agg (Ni j sz cs ds)
 | .tup ds=>.tup (Ni j sz cs ds)
 | .clo f n ds=>.clo f n (Ni j sz cs ds)
 | .val v=>.val v
 | .sl s c=>.sl s c
 | .slc s c=>.slc s c
 | .mp l=>.mp l
 | .elt c=>.elt c
 | .part k o n=>.part k o n
 | .ptr k i=>.ptr k i
 | .nst k s i=>.nst k s i
 | .npt k s i p=>.npt k s i p
 | .npr k s i p n'=>.npr k s i p n'
 | .qpt k i=>.qpt k i
def Ni (j sz:Nat) (cs:List C):List DV->List DV
 | []=>[]
 | d :: ds=>H9 j sz cs d :: Ni j sz cs ds
end
def St.frz (σ:St) (j sz:Nat) (cs:List C):St where
 F:=fun t=>match σ.F t with | some d=>bif eD j d then some (H9 j sz cs d) else none | none=>none
 L:=fun k=>bif Nat.beq k j then none else match σ.L k with | some (.box ds ty)=>(bif Xu j ds then some (.box (Ni j sz cs ds) ty) else none) | some (.row e s c)=>some (.row e s c) | _=>none
 U:=σ.U
theorem Hg {a b:Nat} (h:Nat.beq a b=false):a≠b:=fun e=>by
 subst e
 rw [aC7] at h; cases h
section
variable {σ:St} {j e sz:Nat} {cs:List C}
abbrev frzT (j:Nat) (k:Nat):Option Nat:=if k=j then none else some k
mutual
theorem Cv.frzD (h:σ.L j=some (.row e sz cs)):∀ d,eD j d=true->Cv σ (frzT j) d (Go.Proofs.YtlfeokjhphpjeaaGreat.H9 j sz cs d)
 | .val v,_=>by unfold Go.Proofs.YtlfeokjhphpjeaaGreat.H9; exact .val v
 | .sl _ _,_=>by unfold Go.Proofs.YtlfeokjhphpjeaaGreat.H9; exact .sl _ _
 | .slc _ _,_=>by unfold Go.Proofs.YtlfeokjhphpjeaaGreat.H9; exact .slcc _ _
 | .mp _,_=>by unfold Go.Proofs.YtlfeokjhphpjeaaGreat.H9; exact .mp _
 | .elt _,_=>by unfold Go.Proofs.YtlfeokjhphpjeaaGreat.H9; exact .elt _
 | .row k,_=>by
  unfold Go.Proofs.YtlfeokjhphpjeaaGreat.H9
  cases hb:Nat.beq k j with
  | true=>
   have:=Nat.eq_of_beq_eq_true hb
   subst this
   refine .frz h fun k' hk'=>?_
   unfold frzT at hk'
   split at hk'
   ·cases hk'
   ·rename_i hne
    injection hk' with hk'
    exact hne hk'
  | false=>exact .row (if_neg (Hg hb))
 | .part k _ _,hn=>by
  unfold eD at hn
  unfold Go.Proofs.YtlfeokjhphpjeaaGreat.H9
  exact .part (if_neg (Hg (by simpa using hn)))
 | .ptr k _,hn=>by
  unfold eD at hn
  unfold Go.Proofs.YtlfeokjhphpjeaaGreat.H9
  exact .ptr (if_neg (Hg (by simpa using hn)))
 | .nst k s _,hn=>by
  unfold eD at hn
  rw [Bool.and_eq_true] at hn
  unfold Go.Proofs.YtlfeokjhphpjeaaGreat.H9
  exact .nst (if_neg (Hg (by simpa using hn.1))) (if_neg (Hg (by simpa using hn.2)))
 | .npt k s _ _,hn=>by
  unfold eD at hn
  rw [Bool.and_eq_true] at hn
  unfold Go.Proofs.YtlfeokjhphpjeaaGreat.H9
  exact .npt (if_neg (Hg (by simpa using hn.1))) (if_neg (Hg (by simpa using hn.2)))
 | .npr k s _ _ _,hn=>by
  unfold eD at hn
  rw [Bool.and_eq_true] at hn
  unfold Go.Proofs.YtlfeokjhphpjeaaGreat.H9
  exact .npr (if_neg (Hg (by simpa using hn.1))) (if_neg (Hg (by simpa using hn.2)))
 | .qpt k _,hn=>by
  unfold eD at hn
  unfold Go.Proofs.YtlfeokjhphpjeaaGreat.H9
  exact .qpt (if_neg (Hg (by simpa using hn)))
 | .agg ds,hn=>by
  unfold eD at hn
  unfold Go.Proofs.YtlfeokjhphpjeaaGreat.H9
  exact .agg (Ou.frzDs h ds hn)
 | .tup ds,hn=>by
  unfold eD at hn
  unfold Go.Proofs.YtlfeokjhphpjeaaGreat.H9
  exact .tup (Ou.frzDs h ds hn)
 | .clo f n ds,hn=>by
  unfold eD at hn
  unfold Go.Proofs.YtlfeokjhphpjeaaGreat.H9
  exact .clo f n (Ou.frzDs h ds hn)
theorem Ou.frzDs (h:σ.L j=some (.row e sz cs)):∀ ds,Xu j ds=true->Ou σ (frzT j) ds (Go.Proofs.YtlfeokjhphpjeaaGreat.Ni j sz cs ds)
 | [],_=>by unfold Go.Proofs.YtlfeokjhphpjeaaGreat.Ni; exact .nil
 | d :: ds,hn=>by
  unfold Xu at hn
  simp only [Bool.and_eq_true] at hn
  unfold Go.Proofs.YtlfeokjhphpjeaaGreat.Ni
  exact .cons (Cv.frzD h d hn.1) (Ou.frzDs h ds hn.2)
end
mutual
theorem hD:∀ (d:DV) (k:Nat),men (H9 j sz cs d) k->men d k
 | .val _,k,h=>by unfold H9 men at h; exact h.elim
 | .sl _ _,k,h=>by unfold H9 men at h; exact h.elim
 | .slc _ _,k,h=>by unfold H9 men at h; exact h.elim
 | .mp _,k,h=>by unfold H9 men at h; exact h.elim
 | .elt _,k,h=>by unfold H9 men at h; exact h.elim
 | .row i,k,h=>by
  unfold H9 at h
  cases hb:Nat.beq i j with
  | true=>rw [hb] at h; simp only [cond_true] at h; unfold men at h; exact h.elim
  | false=>rw [hb] at h; exact h
 | .part _ _ _,k,h=>by unfold H9 at h; exact h
 | .ptr _ _,k,h=>by unfold H9 at h; exact h
 | .nst _ _ _,k,h=>by unfold H9 at h; exact h
 | .npt _ _ _ _,k,h=>by unfold H9 at h; exact h
 | .npr _ _ _ _ _,k,h=>by unfold H9 at h; exact h
 | .qpt _ _,k,h=>by unfold H9 at h; exact h
 | .agg ds,k,h=>by unfold H9 men at h; unfold men; exact O3 ds k h
 | .tup ds,k,h=>by unfold H9 men at h; unfold men; exact O3 ds k h
 | .clo _ _ ds,k,h=>by unfold H9 men at h; unfold men; exact O3 ds k h
theorem O3:∀ (ds:List DV) (k:Nat),Ey (Ni j sz cs ds) k->Ey ds k
 | [],k,h=>by unfold Ni Ey at h; exact h.elim
 | d :: ds,k,h=>by
  unfold Ni Ey at h
  unfold Ey
  exact h.imp (hD d k) (O3 ds k)
end
theorem sI {t:Nat} {d':DV} (h:(σ.frz j sz cs).F t=some d'):∃ d,σ.F t=some d/\eD j d=true/\d'=H9 j sz cs d:=by
 have h':(match σ.F t with | some d=>bif eD j d then some (H9 j sz cs d) else none | none=>none)=some d':=h
 cases hF:σ.F t with
 | none=>rw [hF] at h'; cases h'
 | some d=>
  rw [hF] at h'
  cases hn:eD j d with
  | false=>simp only [hn,cond_false] at h'; cases h'
  | true=>simp only [hn,cond_true] at h'; injection h' with h'; exact⟨d,rfl,hn,h'.symm⟩
theorem sC {k:Nat} {lb':LB} (h:(σ.frz j sz cs).L k=some lb'):k≠j/\((∃ ds ty,σ.L k=some (.box ds ty)/\Xu j ds=true/\lb'=.box (Ni j sz cs ds) ty)\/∃ e s c,σ.L k=some (.row e s c)/\lb'=.row e s c):=by
 have h':(bif Nat.beq k j then none else match σ.L k with | some (.box ds ty)=>(bif Xu j ds then some (LB.box (Ni j sz cs ds) ty) else none) | some (.row e s c)=>some (.row e s c) | _=>none)=some lb':=h
 cases hb:Nat.beq k j with
 | true=>rw [hb] at h'; cases h'
 | false=>
  refine⟨Hg hb,?_⟩
  rw [hb] at h'
  simp only [cond_false] at h'
  cases hL:σ.L k with
  | none=>rw [hL] at h'; cases h'
  | some lb=>
   rw [hL] at h'
   cases lb with
   | row e s c=>simp only [] at h'; injection h' with h'; exact .inr ⟨e,s,c,rfl,h'.symm⟩
   | map l=>cases h'
   | mit k' n s=>cases h'
   | vec ds e=>cases h'
   | tree=>cases h'
   | gho=>cases h'
   | abs=>cases h'
   | que=>cases h'
   | box ds ty=>
    simp only [] at h'
    cases hn:Xu j ds with
    | false=>rw [hn] at h'; cases h'
    | true=>rw [hn] at h'; injection h' with h'; exact .inl ⟨ds,ty,rfl,hn,h'.symm⟩
theorem Uk.frz {cx:Cx} (h:σ.L j=some (.row e sz cs)) (hj:Nat.ble cx.np j=true):Uk cx σ (σ.frz j sz cs):=by
 rintro a w ⟨ρ,ha⟩
 have hj':cx.np<=j:=Nat.le_of_ble_eq_true hj
 refine⟨_,(ha.ren (σ':=σ.frz j sz cs) (frzT j) (fun t d' hd=>?_) (fun k lb' hl=>?_) (fun k k' i h1 h2=>?_) (fun k hk=>⟨if_neg (by omega),(ha.pin k hk).2⟩) (fun t d k hd hm=>?_) (fun k lb hl=>?_)).1⟩
 ·obtain⟨d,h1,h2,rfl⟩:=sI hd
  exact⟨d,h1,Cv.frzD h d h2⟩
 ·obtain⟨hne,h1⟩:=sC hl
  refine .inl ?_
  rcases h1 with ⟨ds,ty,h1,h2,rfl⟩ | ⟨e',s,c,h1,rfl⟩
  ·exact⟨k,_,if_neg hne,h1,rfl,Ou.frzDs h ds h2⟩
  ·exact⟨k,_,if_neg hne,h1,rfl,rfl,rfl⟩
 ·unfold frzT at h1 h2
  split at h1
  ·cases h1
  ·split at h2
   ·cases h2
   ·injection h1 with h1
    injection h2 with h2
    omega
 ·obtain⟨d',h1,h2,rfl⟩:=sI hd
  exact ha.usedF t d' k h1 (hD d' k hm)
 ·obtain⟨hne,h1⟩:=sC hl
  rcases h1 with ⟨ds,ty,h1,h2,rfl⟩ | ⟨e',s,c,h1,rfl⟩
  ·exact⟨(ha.usedL k _ h1).1,fun k' hk'=>(ha.usedL k _ h1).2 k' (O3 ds k' hk')⟩
  ·exact⟨(ha.usedL k _ h1).1,fun k' hk'=>hk'.elim⟩
end
section
variable {P:Program} {cx:Cx} {ops:Array Oper} {Q:Exit->St->Prop} {l:List Oper} {σ σ':St}
def oJ (P:Program) (cx:Cx) (ops:Array Oper) (Q:Exit->St->Prop) (l:List Oper) (σ:St):Prop:=∀ a w,Iq cx σ a w->wpList P ops (post cx Q) l a w
theorem oJ.sub (h:Uk cx σ σ') (k:oJ P cx ops Q l σ'):oJ P cx ops Q l σ:=fun a w ha=>k a w (h a w ha)
theorem oJ.fin (h:Q .normal σ):oJ P cx ops Q [] σ:=fun a w ha=>⟨σ,h,ha⟩
variable {S:qC P cx} {nb nb':Nat}
end
section
variable {P:Program} {f:FuncId} {args:List DV}
theorem Fn.plain {v:Value} {R:DV->List LB->Prop} {vs:List Value} {w:World} (h:Fn P f 0 args [] R) (hR:∀ r b,R r b->r=.val v) (ρ:Nat->Value) (I:Nat->Prop) (hI:∀ b,I b->b < w.heap.size) (hr:Bj ρ I w args vs):Calls P f vs.toArray w fun e w'=>e=.returned v/\Vc w w':=by
 refine (h.2.2 ρ I w vs (fun b hb=>⟨hI b hb,fun k hk=>by simp at hk⟩) hr (fun k lb h=>by simp at h) (fun k k' b hk=>by simp at hk)).mono ?_
 rintro e w' ⟨u,r,b,rfl,h1,h2⟩
 obtain⟨-,⟨o1,o2,o3,o4⟩,hk,⟨ρ',J,-,-,hrep,-⟩,-⟩:=h2
 rw [hR r b h1] at hrep
 unfold B5 at hrep
 rw [hrep.1]
 exact⟨rfl,o1,o2,o3,o4,fun b hb=>hk b hb fun k hk=>by simp at hk⟩
end
end Go.Proofs.YtlfeokjhphpjeaaGreat
namespace Go.Proofs.YtlfeokjhphpjeaaGreat
open Go.RowKit
def zR (Q:Exit->St->Prop):Exit->St->Prop
 | .normal,σ=>Q .normal σ
 | .exit i,σ=>Q (.exit i) σ
 | .goto _,_=>False
 | .ret,σ=>Q .ret σ
 | .panic c,σ=>Q (.panic c) σ
 | .outgrown,σ=>Q .outgrown σ
def Al {α:Type} (f:α->List C) (l:List α):List C:=l.flatMap f
def eI (x:Int):List C:=[.int .i64 x]
def eK (k:IntKind) (x:Int):List C:=[.int k x]
def e8 (x:UInt8):List C:=[.int .u8 (x.toNat:Int)]
def eS (x:ByteArray):List C:=[.str x]
def eB (x:Bool):List C:=[.bool x]
def eL {α:Type} (sz:Nat) (f:α->List C) (l:List α):List C:=[.sl sz (Al f l)]
theorem M2 (x:Int):(eI x).length=1:=rfl
theorem wN (k:IntKind) (x:Int):(eK k x).length=1:=rfl
theorem B7 (x:UInt8):(e8 x).length=1:=rfl
theorem Hs (x:ByteArray):(eS x).length=1:=rfl
theorem tA (x:Bool):(eB x).length=1:=rfl
theorem nF {α:Type} (sz:Nat) (f:α->List C) (l:List α):(eL sz f l).length=1:=rfl
section
variable {α:Type} {f:α->List C} {sz:Nat}
theorem Ek (hf:∀ x,(f x).length=sz):∀ (l:List α),(Al f l).length=l.length * sz
 | []=>by simp [Al]
 | x :: l=>by
  have:=Ek hf l
  unfold Al at this ⊢
  rw [List.flatMap_cons,List.length_append,hf,this,List.length_cons,aBz,aCv,aDt]
theorem Io (l m:List α):Al f (l ++ m)=Al f l ++ Al f m:=by unfold Al; rw [List.flatMap_append]
theorem Ns {l:List α} {j:Nat} {x:α} (hx:l[j]?=some x):Al f l=Al f (l.take j) ++ (f x ++ Al f (l.drop (j + 1))):=by
 have hj:=(List.getElem?_eq_some_iff.1 hx).1
 have hxe:=(List.getElem?_eq_some_iff.1 hx).2
 have e1:l=l.take j ++ (x :: l.drop (j + 1)):=by
  rw [<- hxe,List.getElem_cons_drop,aB0]
 rw [show Al f l=Al f (l.take j ++ (x :: l.drop (j + 1))) from congrArg _ e1,Io]
 rfl
theorem Ll (hf:∀ x,(f x).length=sz) {l:List α} {j:Nat} (hj:j<=l.length):(Al f (l.take j)).length=j * sz:=by
 rw [Ek hf,List.length_take,aC4 hj]
theorem Pd (hf:∀ x,(f x).length=sz) {l:List α} {j:Nat} {x:α} (hx:l[j]?=some x):j * sz + sz<=(Al f l).length:=by
 have hj:=(List.getElem?_eq_some_iff.1 hx).1
 rw [Ek hf]
 have:(j + 1) * sz<=l.length * sz:=aCd _ hj
 rw [aBz,aCv] at this
 exact this
theorem L2 (hf:∀ x,(f x).length=sz) {l:List α} {j o:Nat} {x:α} (hx:l[j]?=some x) (ho:o < sz) {a:Nat} (ha:a=j * sz + o):a < (Al f l).length:=by
 have:=Pd hf hx
 omega
theorem Ve (hf:∀ x,(f x).length=sz) {l:List α} {j o:Nat} {x:α} (hx:l[j]?=some x) (ho:o<=sz):(Al f l).drop (j * sz + o)=(f x).drop o ++ Al f (l.drop (j + 1)):=by
 have hj:=(List.getElem?_eq_some_iff.1 hx).1
 have ht:=Ll hf (l:=l) (j:=j) (by omega)
 rw [Ns hx,<- ht,<- aC2,aDp,List.drop_append_of_le_length (by rw [hf]; exact ho)]
theorem A9 (hf:∀ x,(f x).length=sz) {l:List α} {j o:Nat} {x:α} {c:C} (hx:l[j]?=some x) (hc:(f x)[o]?=some c) {a:Nat} (ha:a=j * sz + o):(Al f l)[a]?=some c:=by
 subst ha
 have ho:o < sz:=by rw [<- hf x]; exact (List.getElem?_eq_some_iff.1 hc).1
 have e1:=Ve hf hx (Nat.le_of_lt ho)
 have e2:(Al f l)[j * sz + o]?=((Al f l).drop (j * sz + o))[0]?:=by rw [List.getElem?_drop]; rfl
 rw [e2,e1,List.getElem?_append_left (by rw [List.length_drop,hf]; omega),List.getElem?_drop]
 exact hc
theorem Fp (hf:∀ x,(f x).length=sz) {l:List α} {j o m:Nat} {x:α} {cs:List C} (hx:l[j]?=some x) (hs:((f x).drop o).take m=cs) (ho:o + m<=sz) {a:Nat} (ha:a=j * sz + o):((Al f l).drop a).take m=cs:=by
 subst ha
 rw [Ve hf hx (by omega),List.take_append_of_le_length (by rw [List.length_drop,hf]; omega)]
 exact hs
theorem Di (hf:∀ x,(f x).length=sz) {l:List α} {j o m:Nat} {x:α} (hx:l[j]?=some x) (ho:o + m<=sz) {a:Nat} (ha:a=j * sz + o):a + m<=(Al f l).length:=by
 have:=Pd hf hx
 omega
theorem Ly (hf:∀ x,(f x).length=sz) {l:List α} {j o:Nat} {x x':α} {cs:List C} (hx:l[j]?=some x) (ho:o + cs.length<=sz) (hs:Df (f x) o cs=f x') {a:Nat} (ha:a=j * sz + o):Df (Al f l) a cs=Al f (Ir l j x'):=by
 subst ha
 have hj:=(List.getElem?_eq_some_iff.1 hx).1
 have ht:=Ll hf (l:=l) (j:=j) (by omega)
 have hset:Al f (Ir l j x')=Al f (l.take j) ++ (f x' ++ Al f (l.drop (j + 1))):=by
  have:(Ir l j x')[j]?=some x':=by unfold Ir; rw [aC3 hj]
  rw [Ns this]
  unfold Ir
  rw [List.take_set_of_le (aBk _),List.drop_set_of_lt (by omega)]
 rw [hset,<- hs]
 unfold Df
 have e1:(Al f l).take (j * sz + o)=Al f (l.take j) ++ (f x).take o:=by
  rw [Ns hx,List.take_append,ht,aCm,aBl (by rw [ht]; omega)]
  congr 1
  rw [List.take_append_of_le_length (by rw [hf]; omega)]
 have e2:(Al f l).drop (j * sz + o + cs.length)=(f x).drop (o + cs.length) ++ Al f (l.drop (j + 1)):=by
  rw [aDy,Ve hf hx ho]
 rw [e1,e2]
 simp only [aB3]
theorem aB (hf:∀ x,(f x).length=sz) (l:List α) (i j:Nat) (hij:i<=j) (hj:j<=l.length):((Al f l).drop (i * sz)).take ((j - i) * sz)=Al f ((l.drop i).take (j - i)):=by
 have e0:Al f l=Al f (l.take i) ++ Al f (l.drop i):=by rw [<- Io,aB0]
 have e1:Al f (l.drop i)=Al f ((l.drop i).take (j - i)) ++ Al f ((l.drop i).drop (j - i)):=by rw [<- Io,aB0]
 rw [e0]
 have ht:=Ll hf (l:=l) (j:=i) (by omega)
 have hd:((Al f (l.take i)) ++ Al f (l.drop i)).drop (i * sz)=Al f (l.drop i):=by rw [<- ht,aDp]
 rw [hd,e1]
 have ht2:=Ll hf (l:=l.drop i) (j:=j - i) (by rw [List.length_drop]; omega)
 rw [<- ht2,List.take_left]
theorem aZ (hf:∀ x,(f x).length=sz) (l:List α) (i n:Nat) (hn:i + n<=l.length):((Al f l).drop (i * sz)).take (n * sz)=Al f ((l.drop i).take n):=by
 have:=aB hf l i (i + n) (by omega) (by omega)
 rw [aCm] at this
 exact this
end
theorem sG (l:List UInt8):Al e8 l=G3 l:=by
 induction l with
 | nil=>rfl
 | cons x l ih=>
  show e8 x ++ Al e8 l=_
  rw [ih]
  rfl
section
variable {P:Program} {tk:Nat} {t ty yt:TypeId} {X Y:Operand} {b1 b2:Option LB} {k:IntKind} {x y:Int}
theorem yF:E6 P tk (.binOp .lss t X Y yt) ty [(.val (.int k x),b1),(.val (.int k y),b2)] [] (v0 (.val (.bool (decide (x < y))))):=.binOp (fun _ _=>rfl) vS
theorem yI:E6 P tk (.binOp .leq t X Y yt) ty [(.val (.int k x),b1),(.val (.int k y),b2)] [] (v0 (.val (.bool (decide (x<=y))))):=.binOp (fun _ _=>rfl) tZ
theorem yQ:E6 P tk (.binOp .gtr t X Y yt) ty [(.val (.int k x),b1),(.val (.int k y),b2)] [] (v0 (.val (.bool (decide (y < x))))):=.binOp (fun _ _=>rfl) vQ
theorem xI:E6 P tk (.binOp .geq t X Y yt) ty [(.val (.int k x),b1),(.val (.int k y),b2)] [] (v0 (.val (.bool (decide (y<=x))))):=.binOp (fun _ _=>rfl) tN
theorem yW:E6 P tk (.binOp .eql t X Y yt) ty [(.val (.int k x),b1),(.val (.int k y),b2)] [] (v0 (.val (.bool (decide (x=y))))):=.binOp (fun _ _=>rfl) uZ
theorem xF:E6 P tk (.binOp .neq t X Y yt) ty [(.val (.int k x),b1),(.val (.int k y),b2)] [] (v0 (.val (.bool (!decide (x=y))))):=.binOp (fun _ _=>rfl) (fun w=>by rw [wE w,decide_not])
theorem X7 (x:Int):IntKind.i64.wrap x=W x:=by rw [IntKind.wrap_i64]; unfold W; omega
theorem yU (x:Int):Ff (.int .i64 (W x))=true:=Ic.2 (Nf (Zd x))
theorem xZ (x:Int):IntKind.u8.wrap x=((u8 x).toNat:Int):=by rw [IntKind.wrap_u8,bT]
theorem ok8 (x:UInt8):Ff (.int .u8 (x.toNat:Int))=true:=Ic.2 (cQ ⟨by omega,by have:=x.toNat_lt; omega⟩)
theorem sJ:E6 P tk (.binOp .add t X Y yt) ty [(.val (.int .i64 x),b1),(.val (.int .i64 y),b2)] [] (v0 (.val (.int .i64 (W (x + y))))):=.binOp (fun _ _=>yU _) (fun w=>by rw [pX w,X7])
theorem xD:E6 P tk (.binOp .sub t X Y yt) ty [(.val (.int .i64 x),b1),(.val (.int .i64 y),b2)] [] (v0 (.val (.int .i64 (W (x - y))))):=.binOp (fun _ _=>yU _) (fun w=>by rw [qR w,X7])
theorem yX:E6 P tk (.binOp .mul t X Y yt) ty [(.val (.int .i64 x),b1),(.val (.int .i64 y),b2)] [] (v0 (.val (.int .i64 (W (x * y))))):=.binOp (fun _ _=>yU _) (fun w=>by rw [gA w,X7])
theorem nH (x y:Int):(x.tmod y).natAbs<=x.natAbs:=by
 rw [Int.natAbs_tmod]
 exact Nat.mod_le _ _
theorem dX {x y:Int} (h:-9223372036854775808<=x/\x<=9223372036854775807):-9223372036854775808<=x.tmod y/\x.tmod y<=9223372036854775807:=by
 have h0:=nH x y
 rcases Int.le_total 0 x with hx | hx
 ·have h1:=Int.tmod_nonneg y hx
  omega
 ·have e:x.tmod y=-((-x).tmod y):=by rw [Int.neg_tmod]; omega
  have h1:=Int.tmod_nonneg y (show 0<=-x by omega)
  omega
theorem pN {n:Int} (h:Ff (.int .i64 n)=true):-9223372036854775808<=n/\n<=9223372036854775807:=by
 have:=Ic.1 h
 have h1:IntKind.i64.min=-9223372036854775808:=by decide
 have h2:IntKind.i64.max=9223372036854775807:=by decide
 rw [h1,h2] at this
 exact this
theorem Y0 {z:Int} (h:Rj x y=some z):E6 P tk (.binOp .rem t X Y yt) ty [(.val (.int .i64 x),b1),(.val (.int .i64 y),b2)] [] (v0 (.val (.int .i64 z))):=by
 obtain⟨hy,rfl⟩:=iK h
 exact .binOp (fun h _=>Ic.2 (Nf (dX (pN h)))) (wH hy)
theorem bA {z:Int} (h:Rb x y=some z):E6 P tk (.binOp .quo t X Y yt) ty [(.val (.int .i64 x),b1),(.val (.int .i64 y),b2)] [] (v0 (.val (.int .i64 z))):=by
 obtain⟨hy,rfl⟩:=jC h
 exact .binOp (fun _ _=>yU _) (fun w=>by rw [wL hy w,X7])
theorem O7 {z:Int} (h:W (x + y)=z):E6 P tk (.binOp .add t X Y yt) ty [(.val (.int .i64 x),b1),(.val (.int .i64 y),b2)] [] (v0 (.val (.int .i64 z))):=h ▸ sJ
theorem xT {b:Bool}:E6 P tk (.unOp .not t X) ty [(.val (.bool b),b1)] [] (v0 (.val (.bool (!b)))):=.unOp (fun _=>rfl) wK
theorem lP {a b:Bool} (ht:P.underlying t=some .bool):E6 P tk (.binOp .eql t X Y yt) ty [(.val (.bool a),b1),(.val (.bool b),b2)] [] (v0 (.val (.bool (decide (a=b))))):=.binOp (fun _ _=>rfl) (fun w=>by cases a <;> cases b <;> simp [eqGuard,binOp,Op.equal,Op.maxDepth,run_equalIn_bool',ht])
theorem kH {a b:Bool} (ht:P.underlying t=some .bool):E6 P tk (.binOp .neq t X Y yt) ty [(.val (.bool a),b1),(.val (.bool b),b2)] [] (v0 (.val (.bool (!decide (a=b))))):=.binOp (fun _ _=>rfl) (fun w=>by cases a <;> cases b <;> simp [eqGuard,binOp,Op.equal,Op.maxDepth,run_equalIn_bool',ht])
theorem vP {a b:ByteArray}:E6 P tk (.binOp .eql t X Y yt) ty [(.val (.string a),b1),(.val (.string b),b2)] [] (v0 (.val (.bool (decide (a=b))))):=.binOp (fun _ _=>rfl) qW
theorem tL {a b:ByteArray}:E6 P tk (.binOp .neq t X Y yt) ty [(.val (.string a),b1),(.val (.string b),b2)] [] (v0 (.val (.bool (!decide (a=b))))):=.binOp (fun _ _=>rfl) (fun w=>by rw [pC w,decide_not])
theorem oB:∀ (a b:List UInt8),Op.bytesLess a b=kJ a b
 | _,[]=>by cases ‹List UInt8› <;> rfl
 | [],_ :: _=>rfl
 | a :: x,b :: y=>by unfold Op.bytesLess kJ; rw [oB x y]
theorem xX {a b c:ByteArray} (h:lQ a b=some c):E6 P tk (.binOp .add t X Y yt) ty [(.val (.string a),b1),(.val (.string b),b2)] [] (v0 (.val (.string c))):=by
 obtain⟨h1,rfl⟩:=jH h
 refine .binOp (fun _ _=>Nm.2 ?_) (fun w=>?_)
 ·rw [ByteArray.size_append]; exact h1
 ·have h2:¬ (9223372036854775807:Int) < ((a.size:Int) + (b.size:Int)):=by omega
  have hm:IntKind.i64.max=9223372036854775807:=by decide
  simp [eqGuard,binOp,Op.stringOp,hm,h2]
theorem Gw {src dst:TypeId} (hs:P.underlying src=some (.int k)) (hd:P.underlying dst=some (.int .u8)):E6 P tk (.convert src dst X) ty [(.val (.int k x),b1)] [] (v0 (.val (.int .u8 ((u8 x).toNat:Int)))):=
 .conv (by unfold fU; rw [hs]) (by unfold fU; rw [hd]) (fun _=>ok8 _) (fun w=>by rw [Zc (by rw [hs]; rfl) hd w,xZ])
theorem Nv {src dst:TypeId} (hs:P.underlying src=some (.int k)) (hd:P.underlying dst=some (.int .i64)):E6 P tk (.convert src dst X) ty [(.val (.int k x),b1)] [] (v0 (.val (.int .i64 (W x)))):=
 .conv (by unfold fU; rw [hs]) (by unfold fU; rw [hd]) (fun _=>yU _) (fun w=>by rw [Zc (by rw [hs]; rfl) hd w,X7])
theorem Hk {src dst:TypeId} {u:UInt8} (hs:P.underlying src=some (.int .u8)) (hd:P.underlying dst=some (.int .i64)):E6 P tk (.convert src dst X) ty [(.val (.int .u8 (u.toNat:Int)),b1)] [] (v0 (.val (.int .i64 (u.toNat:Int)))):=
 .conv (by unfold fU; rw [hs]) (by unfold fU; rw [hd]) (fun _=>Ic.2 (Nf ⟨by omega,by have:=u.toNat_lt; omega⟩)) (fun w=>by
  have:=u.toNat_lt
  rw [Zc (by rw [hs]; rfl) hd w,X7,Fv (by omega)])
theorem uP {ts:Array TypeId}:∀ w,∀ cs,(builtin .max ts ty cs #[.int k x,.int k y]).run P w=.ok (.value (.int k (max x y))) w:=fun w cs=>by
 simp [builtin,Builtin.max_,Builtin.max2,go_sem]
 split <;> omega
theorem sE {ts:Array TypeId}:E6 P tk (.call ⟨.builtin .max,#[X,Y],ts⟩) ty [(.val (.int k x),b1),(.val (.int k y),b2)] [] (v0 (.val (.int k (max x y)))):=
 .callV2 (vx:=.int k x) (vy:=.int k y) (v:=.int k (max x y)) (by decide) (fun h h'=>by
  rcases Int.le_total x y with hxy | hxy
  ·rw [Int.max_eq_right hxy]; exact h'
  ·rw [Int.max_eq_left hxy]; exact h) uP
theorem rK {Z:Operand} {c:Bool} {d1 d2:DV} {b3:Option LB} (h:c=true):E6 P tk (.pick X Y Z) ty [(.val (.bool c),b1),(d1,b2),(d2,b3)] [] (v0 d1):=by subst h; exact .pick
theorem pP {Z:Operand} {c:Bool} {d1 d2:DV} {b3:Option LB} (h:c=false):E6 P tk (.pick X Y Z) ty [(.val (.bool c),b1),(d1,b2),(d2,b3)] [] (v0 d2):=by subst h; exact .pick
theorem Xi {s:ByteArray} (h:P.underlying t=some .string):E6 P tk (.call ⟨.builtin .len,#[X],#[t]⟩) ty [(.val (.string s),b1)] [] (v0 (.val (.int .i64 (s.size:Int)))):=
 .callV1 (fun h=>Ic.2 (Nf ⟨by omega,by have:=Nm.1 h; unfold maxLen at this; omega⟩)) (pR h)
end
section
variable {P:Program} {tk:Nat} {t ty e sz bytes:Nat} {X Y:Operand} {b1 b2:Option LB} {α:Type} {f:α->List C} {l:List α} {n:Int} {k:IntKind} {j kr e':Nat} {x:α}
theorem sT (h:Iw P t e sz bytes) (hf:∀ x,(f x).length=sz):E6 P tk (.call ⟨.builtin .len,#[X],#[t]⟩) ty [(.sl sz (Al f l),b1)] [] (v0 (.val (.int .i64 (l.length:Int)))):=.len h.elem (.sl h.hsz (Ek hf l))
theorem tG (h:Iw P t e sz bytes) (hf:∀ x,(f x).length=sz):E6 P tk (.call ⟨.builtin .len,#[X],#[t]⟩) ty [(.row kr,some (.row e' sz (Al f l)))] [] (v0 (.val (.int .i64 (l.length:Int)))):=.len h.elem (.row h.hsz (Ek hf l))
theorem wF (h:Iw P t e sz bytes) (hf:∀ x,(f x).length=sz) (hj:n=(j:Int)) (hx:l[j]?=some x):E6 P tk (.indexAddr t X Y) ty [(.sl sz (Al f l),b1),(.val (.int k n),b2)] [] (v0 (.elt ((Al f l).drop (j * sz)))):=.idxS h hj (Pd hf hx)
theorem wC (h:Iw P t e sz bytes) (hf:∀ x,(f x).length=sz) (hj:n=(j:Int)) (hx:l[j]?=some x):E6 P tk (.indexAddr t X Y) ty [(.row kr,some (.row e' sz (Al f l))),(.val (.int k n),b2)] [] (v0 (.ptr kr (j * sz))):=.idxR h hj (Pd hf hx)
theorem kF {s g off ft sz':Nat} {ag:Bool} {cs:List C} {a:Nat} (h:Fd P s g off ft) (ht:Ty P ft ag sz') (hz:0 < sz') (hl:a + off < cs.length):E6 P tk (.fieldAddr s X g) ty [(.elt (cs.drop a),b1)] [] (v0 (.elt (cs.drop (a + off)))):=by
 have:=E6.fieldE (P:=P) (tk:=tk) (x:=X) (ty:=ty) (b:=b1) h ht hz (cs:=cs.drop a) (by rw [List.length_drop]; omega)
 rwa [aC2] at this
theorem Bq {sz' a:Nat} {cs:List C} {c:C} (ht:Ty P t false sz') (h:cs[a]?=some c):E6 P tk (.load t X) ty [(.elt (cs.drop a),b1)] [] (v0 (Xp c)):=.loadE1 ht (by rw [List.getElem?_drop]; exact h)
theorem G1 {m a:Nat} {cs cs2:List C} (ht:Ty P t true m) (h:(cs.drop a).take m=cs2) (hl:a + m<=cs.length):E6 P tk (.load t X) ty [(.elt (cs.drop a),b1)] [] (v0 (.agg (cs2.map Xp))):=by
 subst h
 exact .loadEA ht (by rw [List.length_drop]; omega)
theorem mP {i s:Nat} {cs cs' cs2:List C} {ag:Bool} {d:DV} {sz':Nat} {ck:List (Option Nat)} (ht:Ty P t ag sz') (hs:(Cb d).length=sz') (hi:i + sz'<=cs.length) (hk:Oo P 20 t=ck) (hd:I9 ck (Cb d) cs') (h:Df cs i cs'=cs2):E6 P tk (.store t X Y) ty [(.ptr kr i,some (.row e' s cs)),(d,b2)] [kr] (jZ kr (.row e' s cs2)):=by
 subst h
 exact .storeR ht hs hi hk hd
theorem Dj {d d':DV×Option LB} {l' l2:List α} {ks:List Nat} {kk:Nat} {cs cs':List C} (hS:Iw P t e sz bytes) (hf:∀ x,(f x).length=sz) (ht:qK d e sz cs ks) (hc:cs=Al f l) (hs:Us d' sz cs') (hc':cs'=Al f l') (h:Gn kk l l'=some l2) (hk:sz * bytes=kk):E6 P tk (.call ⟨.builtin .append,#[X,Y],#[t,t]⟩) ty [d,d'] ks (K4 tk (.row e sz (Al f l2)) ks (.row tk)):=by
 subst hc hc'
 obtain⟨h1,rfl⟩:=P0 h
 rw [Io]
 refine .append hS ht hs ?_
 rw [Ek hf,Ek hf,<- aBz,Nat.mul_assoc,hk]
 exact h1
section
variable {lo hi:Operand} {a b:Int} {ka kb:IntKind} {b3:Option LB} {m:List α}
theorem W0 (hS:Iw P t e sz bytes) (hf:∀ x,(f x).length=sz) (h:Q7 l a b=some m):E6 P tk (.slice t X (some lo) (some hi) none) ty [(.sl sz (Al f l),b1),(.val (.int ka a),b2),(.val (.int kb b),b3)] [] (v0 (.sl sz (Al f m))):=by
 obtain⟨i,j,rfl,rfl,h1,h2,rfl⟩:=Ru h
 rw [<- aB hf l i j h1 h2]
 exact .sliS hS (Ek hf l) ⟨_,_,_,_,_,_,rfl,rfl,rfl⟩ ⟨h1,h2⟩
theorem P6 (hS:Iw P t e sz bytes) (hf:∀ x,(f x).length=sz) (h:Q7 l a (l.length:Int)=some m):E6 P tk (.slice t X (some lo) none none) ty [(.sl sz (Al f l),b1),(.val (.int ka a),b2)] [] (v0 (.sl sz (Al f m))):=by
 obtain⟨i,j,rfl,hj,h1,h2,rfl⟩:=Ru h
 have:j=l.length:=by omega
 subst this
 rw [<- aB hf l i l.length h1 h2]
 exact .sliS hS (Ek hf l) ⟨⟨_,_,_,rfl,rfl⟩,rfl⟩ ⟨h1,h2⟩
end
theorem Pu {src dst:TypeId} {d:DV×Option LB} {cs:List C} {l:List UInt8} (hs:P.underlying src=some (.slice e)) (he:P.underlying e=some (.int .u8)) (hd:P.underlying dst=some .string) (h:Wo d 1 cs) (hc:cs=Al e8 l):E6 P tk (.convert src dst X) ty [d] [] (v0 (.val (.string (Xy l)))):=.convS hs he hd h (hc.trans (sG l))
theorem Zy {src dst:TypeId} {s:ByteArray} (hs:P.underlying src=some .string) (hd:P.underlying dst=some (.slice e)) (he:P.underlying e=some (.int .u8)):E6 P tk (.convert src dst X) ty [(.val (.string s),b1)] [] (v0 (.sl 1 (Al e8 (Ln s)))):=by
 have:=E6.convB (P:=P) (tk:=tk) (x:=X) (ty:=ty) (b:=b1) (s:=s) hs hd he
 rw [<- sG] at this
 exact this
end
theorem Cv.frzE {σ:St} {θ:Nat->Option Nat} {j e sz:Nat} {cs:List C} (h:σ.L j=some (.row e sz cs)) (h':(match σ.L j with | some _=>true | none=>false)=true) (hn:∀ k,θ k≠some j):Cv σ θ (.row j) (.sl sz cs):=.frz h hn
end Go.Proofs.YtlfeokjhphpjeaaGreat
namespace Go.Proofs.YtlfeokjhphpjeaaGreat
open Go.RowKit
mutual
theorem gN (f:Nat->Nat):∀ d,Hw d=[]->Hx f d=d
 | .row _,h=>by simp [Hw] at h
 | .part _ _ _,h=>by simp [Hw] at h
 | .ptr _ _,h=>by simp [Hw] at h
 | .nst _ _ _,h=>by simp [Hw] at h
 | .npt _ _ _ _,h=>by simp [Hw] at h
 | .npr _ _ _ _ _,h=>by simp [Hw] at h
 | .qpt _ _,h=>by simp [Hw] at h
 | .val _,_=>rfl
 | .sl _ _,_=>rfl
 | .slc _ _,_=>rfl
 | .mp _,_=>rfl
 | .elt _,_=>rfl
 | .agg ds,h=>by unfold Hw at h; unfold Hx; rw [Nc f ds h]
 | .tup ds,h=>by unfold Hw at h; unfold Hx; rw [Nc f ds h]
 | .clo _ _ ds,h=>by unfold Hw at h; unfold Hx; rw [Nc f ds h]
theorem Nc (f:Nat->Nat):∀ ds,Ma ds=[]->K7 f ds=ds
 | [],_=>rfl
 | d :: ds,h=>by
  unfold Ma at h
  have h1:=List.append_eq_nil_iff.1 h
  unfold K7
  rw [gN f d h1.1,Nc f ds h1.2]
end
def hZ:LB->List Nat
 | .box ds _=>Ma ds
 | .row ..=>[]
 | .map _=>[]
 | .mit k _ _=>[k]
 | .vec ds _=>Ma ds
 | .tree _ _ _ _ _ s _ _=>[s]
 | .gho=>[]
 | .abs ns _=>ns
 | .que ..=>[]
theorem qF (f:Nat->Nat) {lb:LB} (h:hZ lb=[]):fJ f lb=lb:=by
 cases lb with
 | box ds ty=>
  show LB.box (K7 f ds) ty=_
  rw [Nc f ds h]
 | row=>rfl
 | map=>rfl
 | mit=>cases h
 | tree=>cases h
 | gho=>rfl
 | abs ns S=>
  have h:ns=[]:=h
  subst h
  rfl
 | que=>rfl
 | vec ds e=>
  show LB.vec (K7 f ds) e=_
  rw [Nc f ds h]
def iB (ps gs:List Nat) (r:DV) (bx:List LB):Ke:=⟨some r,fun k=>match E7 (ps.zip bx) k with | some lb=>some (some lb) | none=>bif gs.any (Nat.beq k) then some none else none⟩
theorem bZ {ps:List Nat} {tk:Nat}:∀ {l:List Nat} {b:List LB} {i:Nat},(∀ j,l[j]?=ps[i + j]?)->b.length=l.length->(∀ lb∈b,hZ lb=[])->R1 ps tk i b=l.zip b
 | [],[],_,_,_,_=>rfl
 | x :: l,lb :: b,i,hl,hb,ht=>by
  unfold R1
  have h0:=hl 0
  simp only [Nat.add_zero] at h0
  have e1:Gr ps tk i=x:=by
   unfold Gr
   rw [<- h0]
   rfl
  rw [e1,qF _ (ht lb (aA9 ..)),bZ (l:=l) (fun j=>by have:=hl (j + 1); rw [show i + 1 + j=i + (j + 1) by omega,<- this]; rfl) (by simpa using hb) fun lb h=>ht lb (List.mem_cons_of_mem _ h)]
  rfl
 | [],_ :: _,_,_,h,_=>by simp at h
 | _ :: _,[],_,_,h,_=>by simp at h
theorem gU {ps gs:List Nat} {tk:Nat} {r:DV} {b:List LB} (hr:Hw r=[]) (hl:b.length=ps.length) (hb:∀ lb∈b,hZ lb=[]):Qc ps gs tk r b=iB ps gs r b:=by
 unfold Qc iB
 rw [gN _ _ hr,bZ (l:=ps) (fun j=>by rw [aBj]) hl hb]
 rfl
section
variable {P:Program} {cx:Cx} {ops:Array Oper} {Rt:Option (List Nat)} {nb i:Nat} {l:List Oper} {lg:fY} {σ:St} {Q:St->Prop} {fz:List Nat}
theorem cI {dst:Option Tmp} {f:FuncId} {xs:Array Operand} {tys:Array TypeId} {ty:TypeId} {pos:String} {af:Array Edge} {g:Option (Nat×Bool)} {dsA:List (DV×Option LB)} {rd ps gs:List Nat} {args:List DV} {bx:List LB} {d:DV} {b:List LB} (fl:Bool)
  (D:Jg ops σ ⟨dst,.call ⟨.value (.func f),xs,tys⟩,ty,pos,af,g⟩=some true)
  (hF:Fn P f ps.length args bx (fun d' b'=>d'=d/\b'=b)) (hds:Ei σ true xs.toList=some dsA) (hrd:Ov σ 3 (Qe dsA)=rd) (hA:G7 fl (ps ++ gs) (K3 σ rd) (dsA.map (·.1)) args) (hB:Yh fl (ps ++ gs) (K3 σ rd) (ps ++ gs) bx) (hnd:So cx.np ps gs=true) (hfl:fl=true->Iz d/\∀ lb∈b,Oh lb)
  (hok:J9 Rt i true (nb + 8 * i) rd (ps ++ gs) lg=true) (hr:Hw d=[]) (hl:b.length=ps.length) (hb:b.flatMap hZ=[])
  (k:Em (Bb P cx fz) ops Rt nb (Ex (i + 1) l) ((i,true,nb + 8 * i,rd,ps ++ gs) :: lg) (σ.app dst (iB ps gs d b)) Q) :
  Em (Bb P cx fz) ops Rt nb (Ex i (⟨dst,.call ⟨.value (.func f),xs,tys⟩,ty,pos,af,g⟩ :: l)) lg σ Q:=by
 refine Eh fl D hF hds hrd hA hB hnd (fun h r b=>?_) hok (fun _=>⟨_,_,⟨rfl,rfl⟩,by omega,by omega⟩) fun r b=>?_
 ·rintro⟨rfl,rfl⟩; exact hfl h
 ·rintro⟨rfl,rfl⟩
  rw [gU hr hl fun lb h=>?_]
  ·exact k
  ·have:=List.flatMap_eq_nil_iff.1 hb lb h
   exact this
theorem Yx {dst:Option Tmp} {t:Tmp} {f:FuncId} {n:Nat} {cs:List DV} {q:Option LB} {xs:Array Operand} {tys:Array TypeId} {ty:TypeId} {pos:String} {af:Array Edge} {g:Option (Nat×Bool)} {dsA:List (DV×Option LB)} {rd ps gs:List Nat} {args:List DV} {bx:List LB} {d:DV} {b:List LB} (fl:Bool)
  (D:Jg ops σ ⟨dst,.call ⟨.value (.tmp t),xs,tys⟩,ty,pos,af,g⟩=some true) (hc:ev σ true (.tmp t)=some (.clo f n cs,q))
  (hF:Fn P f ps.length args bx (fun d' b'=>d'=d/\b'=b)) (hds:Ei σ true xs.toList=some dsA) (hrd:Ov σ 3 (Ma cs ++ Qe dsA)=rd) (hA:G7 fl (ps ++ gs) (K3 σ rd) (cs.take n ++ (dsA.map (·.1) ++ cs.drop n)) args) (hB:Yh fl (ps ++ gs) (K3 σ rd) (ps ++ gs) bx) (hnd:So cx.np ps gs=true) (hfl:fl=true->Iz d/\∀ lb∈b,Oh lb)
  (hok:J9 Rt i true (nb + 8 * i) rd (ps ++ gs) lg=true) (hr:Hw d=[]) (hl:b.length=ps.length) (hb:b.flatMap hZ=[])
  (k:Em (Bb P cx fz) ops Rt nb (Ex (i + 1) l) ((i,true,nb + 8 * i,rd,ps ++ gs) :: lg) (σ.app dst (iB ps gs d b)) Q) :
  Em (Bb P cx fz) ops Rt nb (Ex i (⟨dst,.call ⟨.value (.tmp t),xs,tys⟩,ty,pos,af,g⟩ :: l)) lg σ Q:=by
 refine Jw fl D hc hF hds hrd hA hB hnd (fun h r b=>?_) hok (fun _=>⟨_,_,⟨rfl,rfl⟩,by omega,by omega⟩) fun r b=>?_
 ·rintro⟨rfl,rfl⟩; exact hfl h
 ·rintro⟨rfl,rfl⟩
  rw [gU hr hl fun lb h=>?_]
  ·exact k
  ·have:=List.flatMap_eq_nil_iff.1 hb lb h
   exact this
end
section
variable {P:Program} {tk:Nat} {t ty yt:TypeId} {X Y:Operand} {b1 b2:Option LB} {k k':IntKind} {x y:Int}
theorem N0 (k:IntKind) (z:Int):Ff (.int k (k.wrap z))=true:=by
 rw [Ic]
 cases k <;> simp [IntKind.wrap,IntKind.bits,IntKind.signed,IntKind.min,IntKind.max] <;> (try split) <;> omega
theorem mE:E6 P tk (.binOp .mul t X Y yt) ty [(.val (.int k x),b1),(.val (.int k y),b2)] [] (v0 (.val (.int k (k.wrap (x * y))))):=.binOp (fun _ _=>N0 _ _) gA
theorem eM:E6 P tk (.binOp .and t X Y yt) ty [(.val (.int k x),b1),(.val (.int k y),b2)] [] (v0 (.val (.int k (Wf k x y)))):=.binOp (fun _ _=>N0 _ _) (fun w=>by simp [eqGuard,binOp,Op.intBits,Wf])
theorem mJ:E6 P tk (.binOp .or t X Y yt) ty [(.val (.int k x),b1),(.val (.int k y),b2)] [] (v0 (.val (.int k (Xq k x y)))):=.binOp (fun _ _=>N0 _ _) (fun w=>by simp [eqGuard,binOp,Op.intBits,Xq])
theorem tY:E6 P tk (.unOp .xor t X) ty [(.val (.int k x),b1)] [] (v0 (.val (.int k (rA k x)))):=.unOp (fun _=>N0 _ _) (fun w=>by simp [Op.unary,Op.intBits,rA,Zw])
theorem oE:E6 P tk (.binOp .xor t X Y yt) ty [(.val (.int k x),b1),(.val (.int k y),b2)] [] (v0 (.val (.int k (Zw k x y)))):=.binOp (fun _ _=>N0 _ _) (fun w=>by simp [eqGuard,binOp,Op.intBits,Zw])
theorem rD (k:IntKind):k.min<=0/\0<=k.max:=by cases k <;> decide
theorem aY {x d:Int} (hx:x<=0) (hd:0 < d):x / d<=0:=by
 rcases Int.lt_trichotomy (x / d) 0 with h | h | h
 ·omega
 ·omega
 ·exfalso
  have h1:=Int.mul_ediv_add_emod x d
  have h2:=Int.emod_nonneg x (show d≠0 by omega)
  have h3:d * 1<=d * (x / d):=Int.mul_le_mul_of_nonneg_left (by omega) (by omega)
  omega
theorem Wj {z:Int} (h:Up k x y=some z):E6 P tk (.binOp .shr t X Y yt) ty [(.val (.int k x),b1),(.val (.int k' y),b2)] [] (v0 (.val (.int k z))):=by
 obtain⟨h0,rfl⟩:=jR h
 refine .binOp (fun hx _=>?_) (fun w=>by simp [eqGuard,binOp,Op.shift,h0])
 rw [Ic] at hx ⊢
 have hm:=rD k
 have hd:(0:Int) < 2 ^ min y.toNat k.bits:=Int.pow_pos (by omega)
 generalize (2:Int) ^ min y.toNat k.bits=d at hd
 rw [Int.fdiv_eq_ediv_of_nonneg _ (Int.le_of_lt hd)]
 rcases Int.le_total 0 x with hx0 | hx0
 ·have h1:=Int.ediv_nonneg hx0 (Int.le_of_lt hd)
  have h2:=Int.ediv_le_self d hx0
  omega
 ·have h1:x<=x / d:=by
   have:=Int.mul_ediv_add_emod x d
   have h3:=Int.emod_nonneg x (show d≠0 by omega)
   have h4:x / d<=0:=aY hx0 hd
   have h5:d * (x / d)<=1 * (x / d):=Int.mul_le_mul_of_nonpos_right (by omega) h4
   have h6:=Int.emod_lt_of_pos x hd
   by_cases h7:x / d=0
   ·omega
   ·have h8:x / d<=-1:=by omega
    have h9:(d - 1) * (x / d)<=(d - 1) * (-1):=Int.mul_le_mul_of_nonneg_left h8 (by omega)
    have h10:d * (x / d)=(d - 1) * (x / d) + x / d:=by rw [Int.sub_mul,Int.one_mul]; omega
    omega
  have h2:x / d<=0:=aY hx0 hd
  omega
theorem dO {z:Int} (h:bM k x y=some z):E6 P tk (.binOp .shl t X Y yt) ty [(.val (.int k x),b1),(.val (.int k' y),b2)] [] (v0 (.val (.int k z))):=by
 obtain⟨h0,rfl⟩:=jO h
 exact .binOp (fun _ _=>N0 _ _) (fun w=>by simp [eqGuard,binOp,Op.shift,h0])
theorem U3 {src dst:TypeId} (hs:P.underlying src=some (.int k)) (hd:P.underlying dst=some (.int k')):E6 P tk (.convert src dst X) ty [(.val (.int k x),b1)] [] (v0 (.val (.int k' (k'.wrap x)))):=
 .conv (by unfold fU; rw [hs]) (by unfold fU; rw [hd]) (fun _=>N0 _ _) (Zc (by rw [hs]; rfl) hd)
theorem kP {s:ByteArray} {u:UInt8} (ht:P.underlying t=some .string) (h:idxT s x=some u):E6 P tk (.index t X Y) ty [(.val (.string s),b1),(.val (.int k x),b2)] [] (v0 (.val (.int .u8 (u.toNat:Int)))):=by
 unfold idxT at h
 split at h
 ·cases h
 ·rename_i h0
  have h1:0<=x:=by omega
  have hlt:=(Array.getElem?_eq_some_iff.1 h).1
  have hs:s[x.toNat]?=some u:=by
   have hlt':x.toNat < s.size:=hlt
   rw [getElem?_pos s x.toNat hlt']
   have:=(Array.getElem?_eq_some_iff.1 h).2
   exact congrArg some this
  exact .indexS (fun _ _=>ok8 _) (fun w=>by simp [Instr.index,asIntOf,run_underlying ht,h1,hs])
theorem mW {a b:ByteArray}:E6 P tk (.binOp .geq t X Y yt) ty [(.val (.string a),b1),(.val (.string b),b2)] [] (v0 (.val (.bool (!kJ (Ln a) (Ln b))))):=.binOp (fun _ _=>rfl) (fun w=>by
 simp [eqGuard,binOp,Op.stringOp,oB,ByteArray.toList_eq,Ln])
end
section
variable {α:Type} {f:α->List C} {sz:Nat}
theorem fQ (hf:∀ x,(f x).length=sz) {l:List α} {i n:Nat} (h:i + n<=l.length):i * sz + n * sz<=(Al f l).length:=by
 rw [Ek hf,<- aBz]
 exact aCd _ h
theorem lH (hf:∀ x,(f x).length=sz) {l:List α} {n:Nat} (h:(0:Int).toNat + n<=l.length):n * sz<=(Al f l).length:=by
 have:=fQ hf (i:=0) (n:=n) (l:=l) h
 omega
theorem jM (hf:∀ x,(f x).length=sz) (l:List α) (n:Nat) (hn:(0:Int).toNat + n<=l.length):(Al f l).take (n * sz)=Al f ((l.drop (0:Int).toNat).take n):=by
 have:=aZ hf l 0 n hn
 rw [aCs,aDn] at this
 exact this
theorem Wk (hf:∀ x,(f x).length=sz) (h0:0 < sz) {l:List α} (h:Al f l=[]):l=[]:=by
 have:=Ek hf l
 rw [h] at this
 rcases Nat.mul_eq_zero.1 this.symm with h1 | h1
 ·exact List.eq_nil_of_length_eq_zero h1
 ·omega
end
section
variable {P:Program} {tk:Nat} {t ty e sz bytes:Nat} {X Y:Operand} {b1 b2 b3:Option LB} {α:Type} {f:α->List C} {l m:List α} {n:Int} {k ka kb:IntKind} {j kr e':Nat} {x:α} {lo hi:Operand} {a b:Int}
theorem Vr {sz:Nat}:∀ (ds:List DV) (k:Nat) (pre rest:List DV),pre.length=k * sz->rest.length=ds.length * sz->(∀ d∈ds,(Cb d).length=sz)->Hi (fun i=>some (i * sz,sz)) (pre ++ rest) ((List.range' k ds.length).zip ds)=some (pre ++ ds.flatMap Cb)
 | [],k,pre,rest,_,hr,_=>by
  have:rest=[]:=List.eq_nil_of_length_eq_zero (by simpa using hr)
  subst this
  simp [Hi]
 | d :: ds,k,pre,rest,hp,hr,hd=>by
  have h0:=hd d (aA9 ..)
  have hr':rest.length=ds.length * sz + sz:=by rw [hr,List.length_cons,aBz,aCv]
  rw [List.length_cons,List.range'_succ,List.zip_cons_cons]
  unfold Hi
  simp only []
  have c1:Nat.beq (Cb d).length sz=true:=by rw [h0]; exact aC7 _
  have c2:Nat.ble (k * sz + sz) (pre ++ rest).length=true:=aCr (by rw [List.length_append,hp,hr']; omega)
  rw [c1,c2]
  simp only [aDc,cond_true]
  have e1:Df (pre ++ rest) (k * sz) (Cb d)=(pre ++ Cb d) ++ rest.drop sz:=by
   unfold Df
   rw [h0,<- hp,List.take_left,<- aC2,aDp,aB3]
  rw [e1,Vr ds (k + 1) (pre ++ Cb d) (rest.drop sz) (by rw [List.length_append,hp,h0,aBz,aCv]) (by rw [List.length_drop,hr']; omega) fun x hx=>hd x (List.mem_cons_of_mem _ hx)]
  rw [List.flatMap_cons,aB3]
theorem Ao {len:Nat} {parts:Array (Nat×Operand)} {ds:List (DV×Option LB)} {z:List Value} {cs:List C} {ck:List (Option Nat)} (hS:Iw P t e sz bytes) (hz:Zt P e z) (hlen:len * sz<=16777216) (hp:parts.toList.map (·.1)=List.range' 0 len) (hzl:z.length=sz) (hn:ds.length=len) (hs:ds.all (fun q=>Nat.beq (Cb q.1).length sz)=true) (hk:Oo P 20 e=ck) (hc:I9 (List.replicate len ck).flatten (ds.flatMap fun q=>Cb q.1) cs) (ho:ds.all (fun q=>(Cb q.1).all Te)=true) (h:Al f l=cs):E6 P tk (.buildSlice t len parts) ty ds [] (Vp tk (.row e sz (Al f l)) (.row tk)):=by
 subst h
 refine .buildSl hS hz hlen ?_ hk hc ho
 have hd:=Vr (sz:=sz) (ds.map (·.1)) 0 [] ((List.replicate len (z.map DV.val)).flatten) (by simp) (by simp [hzl,hn]) fun d hd=>by
  obtain⟨q,hq,rfl⟩:=aBy.1 hd
  exact Nat.eq_of_beq_eq_true (List.all_eq_true.1 hs q hq)
 rw [aC8,aC8,aDi,hn] at hd
 rw [hp,hd]
 congr 1
 rw [List.flatMap_map]
theorem lC {i bt sz':Nat} {ds ds':List DV} {ag:Bool} {d:DV} {kk:Nat} (ht:Ty P t ag sz') (hs:(Cb d).length=sz') (hi:i + sz'<=ds.length) (ho:(Cb d).all Te=true) (h:Df ds i (Cb d)=ds'):E6 P tk (.store t X Y) ty [(.ptr kk i,some (.box ds bt)),(d,b2)] [kk] (jZ kk (.box ds' bt)):=by
 subst h
 exact .storeB ht hs hi ho
theorem Yi {tk2:Nat} {m':Nat} {ds:List DV} {L:List α} (ht:P.underlying t=some (.array m' e)) (he:Ty P e true sz) (hf:∀ x,(f x).length=sz) (hds:ds=(Al f L).map Xp) (hL:L.length=m') (hx:Dd L n=some x) {d2:List DV} (h2:(f x).map Xp=d2):E6 P tk2 (.index t X Y) ty [(.agg ds,b1),(.val (.int k n),b2)] [] (v0 (.agg d2)):=by
 have hx':=Aw hx
 refine .indexAA ht he (Nw hx) (by rw [<- hL]; exact (List.getElem?_eq_some_iff.1 hx').1) ?_
 rw [hds,<- List.map_drop,<- List.map_take,<- h2]
 congr 1
 exact Fp hf hx' (o:=0) (by rw [aDn]; exact aBl (Nat.le_of_eq (hf _))) (by omega) rfl
end
def eA {α:Type} [Inhabited α] (n:Nat) (f:α->List C) (x:List α):List C:=(List.range n).flatMap fun i=>f (x[i]!)
theorem tU {α:Type} [Inhabited α] {n sz:Nat} {f:α->List C} (hf:∀ x,(f x).length=sz) (x:List α):(eA n f x).length=n * sz:=by
 unfold eA
 induction n with
 | zero=>simp
 | succ n ih=>rw [List.range_succ,List.flatMap_append,List.length_append,ih,List.flatMap_cons,aBn,aD1,hf,aBz,aCv]
class kI (p:Prop) (q:outParam Prop):Prop where
 go:q->p
theorem Dc {p q:Prop} [s:kI p q] (h:q):p:=s.go h
section
variable {next:St->Prop} {Q:Exit->St->Prop} {i:Nat} {σ:St}
instance:kI (pA next Q .normal σ) (next σ):=⟨fun h=>h⟩
instance:kI (pA next Q (.exit i) σ) (Q (.exit i) σ):=⟨fun h=>h⟩
instance:kI (pA next Q .ret σ) (Q .ret σ):=⟨fun h=>h⟩
instance:kI (sB i Q (.exit i) σ) (Q .normal σ):=⟨fun h=>nE h⟩
instance:kI (sB i Q .normal σ) (Q .normal σ):=⟨fun h=>h⟩
instance:kI (sB i Q .ret σ) (Q .ret σ):=⟨fun h=>h⟩
instance:kI (zR Q .normal σ) (Q .normal σ):=⟨fun h=>h⟩
instance:kI (zR Q (.exit i) σ) (Q (.exit i) σ):=⟨fun h=>h⟩
instance:kI (zR Q .ret σ) (Q .ret σ):=⟨fun h=>h⟩
end
class oV (p:Prop) (q:outParam Prop):Prop where
 go:q->p
instance (priority:=low) stpN_nil (p:Prop):oV p p:=⟨fun h=>h⟩
instance wT {p p' q:Prop} [s:kI p p'] [t:oV p' q]:oV p q:=⟨fun h=>s.go (t.go h)⟩
theorem A1 {P:Program} {cx:Cx} {Q:Exit->St->Prop} {σ:St} {q:Prop} [s:oV (Q .ret σ) q] (h:q):B9 P cx .ret Q σ:=pH (s.go h)
theorem De {Q:Exit->St->Prop} {i j:Nat} {σ:St} (h:Q (.exit j) σ) (hne:j≠i:=by decide):sB i Q (.exit j) σ:=jP hne h
theorem A4 {P:Program} {cx:Cx} {id:Nat} {l:List Oper} {σ:St} {y:Code} {Q:Exit->St->Prop} (nb nb':Nat) (B:∀ k,nb<=k->σ.U k=false)
  (h:Em (Bb P cx []) l.toArray none nb (Ex 0 l) [] σ (fun σ'=>(∀ j,nb'<=j->σ'.U j=false)->pA (B9 P cx y Q) Q .normal σ')) (hn:Nat.ble (nb + 8 * l.length) nb'=true:=by rfl) (hd:mL cx.N l=true:=by rfl):B9 P cx (.seq (.region id l.toArray false) y) Q σ:=
 Ah (Ad (Bb _ _ []) nb nb' B hn hd h)
section
variable {P:Program} {cx:Cx} {ops:Array Oper} {Rt:Option (List Nat)} {nb i:Nat} {l:List Oper} {lg:fY} {σ:St} {Q:St->Prop} {fz:List Nat}
theorem Af {Q:Exit->St->Prop} {nb':Nat} {q:Prop} [s:oV (Q .normal σ) q] (h:(∀ j,nb'<=j->σ.U j=false)->q):Em (Bb P cx fz) ops Rt nb (Ex i []) lg σ (fun σ'=>(∀ j,nb'<=j->σ'.U j=false)->Q .normal σ'):=zP fun B=>s.go (h B)
theorem Bl {dst:Option Tmp} {op:Op} {ty:TypeId} {pos:String} {af:Array Edge} {g:Option (Nat×Bool)} {ds:List (DV×Option LB)} {wr:List Nat} {e:Ke} (D:Jg ops σ ⟨dst,op,ty,pos,af,g⟩=some true) (hds:Ei σ (H6 op) op.operands.toList=some ds) (h:E6 P (nb + 8 * i) op ty ds wr e)
  (hrd:(bif H6 op then I8 (Jv op) ds else [])=[]) (hok:J9 Rt i false (nb + 8 * i) [] wr lg=true) (k:Em (Bb P cx fz) ops Rt nb (Ex (i + 1) l) ((i,false,nb + 8 * i,[],wr) :: lg) (σ.app dst e) Q) (hz:zM fz (nb + 8 * i)=0:=by rfl) (hap:Nx cx.np op wr=true:=by rfl) :
  Em (Bb P cx fz) ops Rt nb (Ex i (⟨dst,op,ty,pos,af,g⟩ :: l)) lg σ Q:=Fe (rd:=[]) D hds h hrd hok k hz hap
end
end Go.Proofs.YtlfeokjhphpjeaaGreat
namespace Go.Proofs.YtlfeokjhphpjeaaGreat
open Go.RowKit
theorem Uk.cut {cx:Cx} {σ σ':St} {t k n e sz:Nat} {cs:List C} (hk:cx.np<=k) (hF:σ.F t=some (.part k 0 n)) (hL:σ.L k=some (.row e sz cs)) (hn:n * sz<=cs.length)
  (hF':∀ s d,σ'.F s=some d->(d=.row k/\s=t)\/(σ.F s=some d/\¬ men d k)) (hL':∀ j lb,σ'.L j=some lb->(j=k/\lb=.row e sz (cs.take (n * sz)))\/(j≠k/\σ.L j=some lb/\¬ M5 lb k)) (B:∀ j,σ'.U j=σ.U j):Uk cx σ σ':=by
 rintro a w ⟨ρ,h⟩
 obtain⟨N,us,q1,q0,q2⟩:=h.lo _ _ hL
 have hr:=h.fr _ _ hF
 unfold B5 at hr
 obtain⟨A,c,hv,hnc,hc,hA,hB⟩:=hr
 have hlen:n * sz<=us.length:=by rw [<- q2.1]; exact hn
 have hblk:∀ b,Cf (a.tmps.getD t undef)=some b->Cf (ρ k)=some b:=fun b hb=>by
  rcases q1.2 with ⟨A',e,-⟩ | ⟨g',cap,cur,e,r1,-⟩
  ·obtain⟨t1,t2⟩:=hB rfl _ _ _ e
   rw [hv,t2] at hb
   cases A <;> cases hb
  ·obtain⟨t1,t2⟩:=hB rfl _ _ _ e
   rw [hv,t1] at hb
   rw [e,Gi r1,(Fi hb).1]
 have hown:w.rowOk e sz (a.tmps.getD t undef) n (us.take (n * sz)):=by
  refine⟨by rw [List.length_take]; omega,?_⟩
  rcases q1.2 with ⟨A',e,q3⟩ | ⟨g,cap,cur,e,r1,r2,r3,r4,r5,r6⟩
  ·obtain⟨t1,t2⟩:=hB rfl _ _ _ e
   refine .inl ⟨A',by rw [hv,t1,t2]; congr 1; omega,by omega⟩
  ·obtain⟨t1,t2⟩:=hB rfl _ _ _ e
   refine .inr ⟨g,cap,cur,by rw [hv,t1,t2],r1,r2,by omega,r4,r5,?_⟩
   have hle:n * sz<=N * sz:=by rw [<- q1.1]; exact hlen
   rw [<- r6,aDo,aC4 hle]
 let ρ':Nat->Value:=fun j=>if j=k then a.tmps.getD t undef else ρ j
 have hk':ρ' k=a.tmps.getD t undef:=if_pos rfl
 have ho:∀ j,j≠k->ρ' j=ρ j:=fun j hj=>if_neg hj
 have loc:∀ j lb b,σ'.L j=some lb->own ρ' (ρ' j) lb b->∃ lb',σ.L j=some lb'/\own ρ (ρ j) lb' b:=fun j lb b hj hb=>by
  rcases hL' j lb hj with ⟨rfl,rfl⟩ | ⟨hne,h1,h2⟩
  ·rw [hk'] at hb; exact⟨_,hL,hblk b hb⟩
  ·rw [ho j hne] at hb; exact⟨_,h1,Pr (fun q hq=>(ho q fun e=>h2 (e ▸ hq)).symm) hb⟩
 have hI:∀ b,Jo cx σ ρ w b->Jo cx σ' ρ' w b/\w.heap[b]?=w.heap[b]?:=fun b hb=>by
  refine⟨⟨hb.1,fun hl=>?_,hb.2.2⟩,rfl⟩
  obtain⟨j,lb,h1,h2⟩:=hl
  obtain⟨lb',h3,h4⟩:=loc j lb b h1 h2
  exact hb.2.1 ⟨j,lb',h3,h4⟩
 refine⟨ρ',⟨h.defers,h.size,h.kept,fun s d hs=>?_,fun j lb hj=>?_,fun j j' lb lb' b h1 h2 h3 h4=>?_,fun s d j hs hm=>?_,fun j lb hj=>?_,fun j hj=>?_,fun j lb b hj hp hb=>?_⟩⟩
 ·rcases hF' s d hs with ⟨rfl,rfl⟩ | ⟨h1,h2⟩
  ·unfold B5
   rw [hk']
   refine⟨rfl,?_⟩
   rw [hv]; rfl
  ·exact B5.step hI d _ (fun j hj=>ho j fun e=>h2 (e ▸ hj)) (h.fr _ _ h1)
 ·rcases hL' j lb hj with ⟨rfl,rfl⟩ | ⟨hne,h1,h2⟩
  ·rw [hk']
   refine⟨n,us.take (n * sz),hown,fun b hb=>q0 b (hblk b hb),?_⟩
   refine Ev.keep_ (w:=w) ⟨by rw [List.length_take,List.length_take,q2.1],fun j c u a b=>?_⟩ (fun b hb=>rfl) fun b hb=>(hI b hb).1
   rw [List.getElem?_take] at a b
   split at a
   ·rename_i hj
    rw [if_pos hj] at b
    exact q2.2 j c u a b
   ·cases a
  ·rw [ho j hne]
   exact (h.lo _ _ h1).step hI (fun j' hj'=>ho j' fun e=>h2 (e ▸ hj')) fun b _=>rfl
 ·obtain⟨_,e1,e2⟩:=loc _ _ _ h1 h3
  obtain⟨_,e3,e4⟩:=loc _ _ _ h2 h4
  exact h.sep _ _ _ _ _ e1 e3 e2 e4
 ·rw [B]
  rcases hF' s d hs with ⟨rfl,rfl⟩ | ⟨h1,h2⟩
  ·unfold men at hm
   subst hm
   exact (h.usedL _ _ hL).1
  ·exact h.usedF _ _ _ h1 hm
 ·rw [B]
  rcases hL' j lb hj with ⟨rfl,rfl⟩ | ⟨hne,h1,h2⟩
  ·exact⟨(h.usedL _ _ hL).1,fun k' hm=>hm.elim⟩
  ·exact⟨(h.usedL _ _ h1).1,fun k' hm=>by rw [B]; exact (h.usedL _ _ h1).2 k' hm⟩
 ·rw [B]
  exact⟨(ho j (by omega)).trans (h.pin j hj).1,(h.pin j hj).2⟩
 ·obtain⟨_,e1,e2⟩:=loc _ _ _ hj hb
  exact h.fresh _ _ _ e1 hp e2
def aAz (k:Nat) (lb:LB):List (Nat×LB)->List (Nat×LB)
 | []=>[]
 | (j,b) :: l=>bif Nat.beq j k then (j,lb) :: aAz k lb l else (j,b) :: aAz k lb l
end Go.Proofs.YtlfeokjhphpjeaaGreat
