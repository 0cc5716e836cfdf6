import Derived.Test.YtopkgllcjbpdeaaDoorED
import Derived.KernelRfl
import Derived.Test.YtopkgllcjbpdeaaDoorPF
import Derived.Scope
set_option linter.unusedVariables false
set_option linter.unusedSimpArgs false
namespace Go.Proofs.YtopkgllcjbpdeaaDoor
open Go.RowKit
section
variable {Q : Exit -> St -> Prop} {next : St -> Prop} {σ : St} {i j : Nat}
theorem eD (h : Q .normal σ) : lO i Q (.exit i) σ := by
 show (if i = i then _ else _)
 rw [if_pos rfl]
 exact h
theorem dI (hne : j ≠ i) (h : Q (.exit j) σ) : lO i Q (.exit j) σ := by
 show (if j = i then _ else _)
 rw [if_neg hne]
 exact h
end
section
variable {P : Program} {t : TypeId} {X Y : Operand}
end
section
variable {P : Program} {t : TypeId} {X Y : Operand} {k : IntKind} {x y : Int}
end
section
variable {P : Program} {t : TypeId} {X Y : Operand} {a b : ByteArray}
end
theorem Hh {θ : List (Nat × Nat)} {j : Nat} (h : (θ.all fun q => !Nat.beq q.2 j) = true) : ∀ k, Dy θ k ≠ some j := fun k hk => by
 have := List.all_eq_true.1 h _ (Eg hk)
 simp at this
theorem B0 {P : Program} {cx : Cx} {x y : Code} {Q : Exit -> St -> Prop} {σ : St} {ι : Type} (mid : ι -> St) (ok : ι -> Prop) (hx : Ca P cx x (jT (fun σ' => ∃ i, ok i /\ Qu cx σ' (mid i)) Q) σ) (hy : ∀ i, ok i -> Ca P cx y Q (mid i)) : Ca P cx (.seq x y) Q σ := by
 refine Af (dZ ?_ hx)
 intro e σ' h
 cases e with
 | normal =>
  obtain ⟨i, h1, h2⟩ := h
  exact It h2 (hy i h1)
 | _ => exact h
end Go.Proofs.YtopkgllcjbpdeaaDoor
namespace Go.Proofs.YtopkgllcjbpdeaaDoor
open Go.RowKit
mutual
def cU (j : Nat) : DV -> Bool
 | .part k _ _ => !Nat.beq k j
 | .ptr k _ => !Nat.beq k j
 | .agg ds => Uy j ds
 | .tup ds => Uy j ds
 | .clo _ _ ds => Uy j ds
 | .val _ => true
 | .sl _ _ => true
 | .slc _ _ => true
 | .mp _ => true
 | .elt _ => true
 | .row _ => true
 | .nst k s _ => !Nat.beq k j && !Nat.beq s j
 | .npt k s _ _ => !Nat.beq k j && !Nat.beq s j
def Uy (j : Nat) : List DV -> Bool
 | [] => true
 | d :: ds => cU j d && Uy j ds
end
mutual
def H3 (j sz : Nat) (cs : List C) : DV -> DV
 | .row k => bif Nat.beq k j then .sl sz cs else .row k
 | .agg ds => .agg (Ly j sz cs ds)
 | .tup ds => .tup (Ly j sz cs ds)
 | .clo f n ds => .clo f n (Ly j sz cs ds)
 | .val v => .val v
 | .sl s c => .sl s c
 | .slc s c => .slc s c
 | .mp l => .mp l
 | .elt c => .elt c
 | .part k o n => .part k o n
 | .ptr k i => .ptr k i
 | .nst k s i => .nst k s i
 | .npt k s i p => .npt k s i p
def Ly (j sz : Nat) (cs : List C) : List DV -> List DV
 | [] => []
 | d :: ds => H3 j sz cs d :: Ly j sz cs ds
end
def St.frz (σ : St) (j sz : Nat) (cs : List C) : St where
 F := fun t => match σ.F t with | some d => bif cU j d then some (H3 j sz cs d) else none | none => none
 L := fun k => bif Nat.beq k j then none else match σ.L k with | some (.box ds ty) => (bif Uy j ds then some (.box (Ly j sz cs ds) ty) else none) | some (.row e s c) => some (.row e s c) | _ => none
 U := σ.U
theorem Ic {a b : Nat} (h : Nat.beq a b = false) : a ≠ b := fun e => by
 subst e
 rw [Nat.beq_refl] at h; cases h
section
variable {σ : St} {j e sz : Nat} {cs : List C}
abbrev frzT (j : Nat) (k : Nat) : Option Nat := if k = j then none else some k
mutual
theorem Cv.frzD (h : σ.L j = some (.row e sz cs)) : ∀ d, cU j d = true -> Cv σ (frzT j) d (Go.Proofs.YtopkgllcjbpdeaaDoor.H3 j sz cs d)
 | .val v, _ => by unfold Go.Proofs.YtopkgllcjbpdeaaDoor.H3; exact .val v
 | .sl _ _, _ => by unfold Go.Proofs.YtopkgllcjbpdeaaDoor.H3; exact .sl _ _
 | .slc _ _, _ => by unfold Go.Proofs.YtopkgllcjbpdeaaDoor.H3; exact .slcc _ _
 | .mp _, _ => by unfold Go.Proofs.YtopkgllcjbpdeaaDoor.H3; exact .mp _
 | .elt _, _ => by unfold Go.Proofs.YtopkgllcjbpdeaaDoor.H3; exact .elt _
 | .row k, _ => by
  unfold Go.Proofs.YtopkgllcjbpdeaaDoor.H3
  cases hb : Nat.beq k j with
  | true =>
   have := Nat.eq_of_beq_eq_true hb
   subst this
   refine .frz h fun k' hk' => ?_
   unfold frzT at hk'
   split at hk'
   ·cases hk'
   ·rename_i hne
    injection hk' with hk'
    exact hne hk'
  | false => exact .row (if_neg (Ic hb))
 | .part k _ _, hn => by
  unfold cU at hn
  unfold Go.Proofs.YtopkgllcjbpdeaaDoor.H3
  exact .part (if_neg (Ic (by simpa using hn)))
 | .ptr k _, hn => by
  unfold cU at hn
  unfold Go.Proofs.YtopkgllcjbpdeaaDoor.H3
  exact .ptr (if_neg (Ic (by simpa using hn)))
 | .nst k s _, hn => by
  unfold cU at hn
  rw [Bool.and_eq_true] at hn
  unfold Go.Proofs.YtopkgllcjbpdeaaDoor.H3
  exact .nst (if_neg (Ic (by simpa using hn.1))) (if_neg (Ic (by simpa using hn.2)))
 | .npt k s _ _, hn => by
  unfold cU at hn
  rw [Bool.and_eq_true] at hn
  unfold Go.Proofs.YtopkgllcjbpdeaaDoor.H3
  exact .npt (if_neg (Ic (by simpa using hn.1))) (if_neg (Ic (by simpa using hn.2)))
 | .agg ds, hn => by
  unfold cU at hn
  unfold Go.Proofs.YtopkgllcjbpdeaaDoor.H3
  exact .agg (Mg.frzDs h ds hn)
 | .tup ds, hn => by
  unfold cU at hn
  unfold Go.Proofs.YtopkgllcjbpdeaaDoor.H3
  exact .tup (Mg.frzDs h ds hn)
 | .clo f n ds, hn => by
  unfold cU at hn
  unfold Go.Proofs.YtopkgllcjbpdeaaDoor.H3
  exact .clo f n (Mg.frzDs h ds hn)
theorem Mg.frzDs (h : σ.L j = some (.row e sz cs)) : ∀ ds, Uy j ds = true -> Mg σ (frzT j) ds (Go.Proofs.YtopkgllcjbpdeaaDoor.Ly j sz cs ds)
 | [], _ => by unfold Go.Proofs.YtopkgllcjbpdeaaDoor.Ly; exact .nil
 | d :: ds, hn => by
  unfold Uy at hn
  simp only [Bool.and_eq_true] at hn
  unfold Go.Proofs.YtopkgllcjbpdeaaDoor.Ly
  exact .cons (Cv.frzD h d hn.1) (Mg.frzDs h ds hn.2)
end
mutual
theorem bJ : ∀ (d : DV) (k : Nat), men (H3 j sz cs d) k -> men d k
 | .val _, k, h => by unfold H3 men at h; exact h.elim
 | .sl _ _, k, h => by unfold H3 men at h; exact h.elim
 | .slc _ _, k, h => by unfold H3 men at h; exact h.elim
 | .mp _, k, h => by unfold H3 men at h; exact h.elim
 | .elt _, k, h => by unfold H3 men at h; exact h.elim
 | .row i, k, h => by
  unfold H3 at h
  cases hb : Nat.beq i j with
  | true => rw [hb] at h; simp only [cond_true] at h; unfold men at h; exact h.elim
  | false => rw [hb] at h; exact h
 | .part _ _ _, k, h => by unfold H3 at h; exact h
 | .ptr _ _, k, h => by unfold H3 at h; exact h
 | .nst _ _ _, k, h => by unfold H3 at h; exact h
 | .npt _ _ _ _, k, h => by unfold H3 at h; exact h
 | .agg ds, k, h => by unfold H3 men at h; unfold men; exact N9 ds k h
 | .tup ds, k, h => by unfold H3 men at h; unfold men; exact N9 ds k h
 | .clo _ _ ds, k, h => by unfold H3 men at h; unfold men; exact N9 ds k h
theorem N9 : ∀ (ds : List DV) (k : Nat), D4 (Ly j sz cs ds) k -> D4 ds k
 | [], k, h => by unfold Ly D4 at h; exact h.elim
 | d :: ds, k, h => by
  unfold Ly D4 at h
  unfold D4
  exact h.imp (bJ d k) (N9 ds k)
end
theorem lP {t : Nat} {d' : DV} (h : (σ.frz j sz cs).F t = some d') : ∃ d, σ.F t = some d /\ cU j d = true /\ d' = H3 j sz cs d := by
 have h' : (match σ.F t with | some d => bif cU j d then some (H3 j sz cs d) else none | none => none) = some d' := h
 cases hF : σ.F t with
 | none => rw [hF] at h'; cases h'
 | some d =>
  rw [hF] at h'
  cases hn : cU j d with
  | false => simp only [hn, cond_false] at h'; cases h'
  | true => simp only [hn, cond_true] at h'; injection h' with h'; exact ⟨d, rfl, hn, h'.symm⟩
theorem lQ {k : Nat} {lb' : LB} (h : (σ.frz j sz cs).L k = some lb') : k ≠ j /\ ((∃ ds ty, σ.L k = some (.box ds ty) /\ Uy j ds = true /\ lb' = .box (Ly j sz cs ds) ty) \/ ∃ e s c, σ.L k = some (.row e s c) /\ lb' = .row e s c) := by
 have h' : (bif Nat.beq k j then none else match σ.L k with | some (.box ds ty) => (bif Uy j ds then some (LB.box (Ly j sz cs ds) ty) else none) | some (.row e s c) => some (.row e s c) | _ => none) = some lb' := h
 cases hb : Nat.beq k j with
 | true => rw [hb] at h'; cases h'
 | false =>
  refine ⟨Ic hb, ?_⟩
  rw [hb] at h'
  simp only [cond_false] at h'
  cases hL : σ.L k with
  | none => rw [hL] at h'; cases h'
  | some lb =>
   rw [hL] at h'
   cases lb with
   | row e s c => simp only [] at h'; injection h' with h'; exact .inr ⟨e, s, c, rfl, h'.symm⟩
   | map l => cases h'
   | mit k' n s => cases h'
   | lop => cases h'
   | vec ds e => cases h'
   | tree => cases h'
   | gho => cases h'
   | box ds ty =>
    simp only [] at h'
    cases hn : Uy j ds with
    | false => rw [hn] at h'; cases h'
    | true => rw [hn] at h'; injection h' with h'; exact .inl ⟨ds, ty, rfl, hn, h'.symm⟩
theorem Qu.frz {cx : Cx} (h : σ.L j = some (.row e sz cs)) (hj : Nat.ble cx.np j = true) : Qu cx σ (σ.frz j sz cs) := by
 rintro a w ⟨ρ, ha⟩
 have hj' : cx.np <= j := Nat.le_of_ble_eq_true hj
 refine ⟨_, (ha.ren (σ' := σ.frz j sz cs) (frzT j) (fun t d' hd => ?_) (fun k lb' hl => ?_) (fun k k' i h1 h2 => ?_) (fun k hk => ⟨if_neg (by omega), (ha.pin k hk).2⟩) (fun t d k hd hm => ?_) (fun k lb hl => ?_)).1⟩
 ·obtain ⟨d, h1, h2, rfl⟩ := lP hd
  exact ⟨d, h1, Cv.frzD h d h2⟩
 ·obtain ⟨hne, h1⟩ := lQ hl
  refine .inl ?_
  rcases h1 with ⟨ds, ty, h1, h2, rfl⟩ | ⟨e', s, c, h1, rfl⟩
  ·exact ⟨k, _, if_neg hne, h1, rfl, Mg.frzDs h ds h2⟩
  ·exact ⟨k, _, if_neg hne, h1, rfl, rfl, rfl⟩
 ·unfold frzT at h1 h2
  split at h1
  ·cases h1
  ·split at h2
   ·cases h2
   ·injection h1 with h1
    injection h2 with h2
    omega
 ·obtain ⟨d', h1, h2, rfl⟩ := lP hd
  exact ha.usedF t d' k h1 (bJ d' k hm)
 ·obtain ⟨hne, h1⟩ := lQ hl
  rcases h1 with ⟨ds, ty, h1, h2, rfl⟩ | ⟨e', s, c, h1, rfl⟩
  ·exact ⟨(ha.usedL k _ h1).1, fun k' hk' => (ha.usedL k _ h1).2 k' (N9 ds k' hk')⟩
  ·exact ⟨(ha.usedL k _ h1).1, fun k' hk' => hk'.elim⟩
end
section
variable {P : Program} {cx : Cx} {ops : Array Oper} {Q : Exit -> St -> Prop} {l : List Oper} {σ σ' : St}
def G6 (P : Program) (cx : Cx) (ops : Array Oper) (Q : Exit -> St -> Prop) (l : List Oper) (σ : St) : Prop := ∀ n a w, Gi cx σ a w -> wpListIn (FW cx.rr) n P ops (post cx Q) l a w
theorem Ii {id : Nat} (h : G6 P cx l.toArray Q l σ) : Ca P cx (.region id l.toArray false) Q σ := fun n a w ha => wpIn_region_lit (h n a w ha)
theorem G6.sub (h : Qu cx σ σ') (k : G6 P cx ops Q l σ') : G6 P cx ops Q l σ := fun n a w ha => k n a w (h a w ha)
theorem G6.fin (h : Q .normal σ) : G6 P cx ops Q [] σ := fun _ a w ha => ⟨σ, h, ha⟩
variable {S : iS P cx} {nb nb' : Nat}
theorem Re {nn : Nat} {l2 : List Oper} : ∀ (l : List Oper) (k : Nat) (lg : Yv) (σ : St) (a : Act) (w : World), Cs S ops none nb (idx k l) lg σ (fun σ' => (∀ j, nb' <= j -> σ'.U j = false) -> G6 P cx ops Q l2 σ') -> Q4 nb (idx k l) σ -> eT cx (idx k l) -> (∀ j, nb' <= j -> σ.U j = false) -> nb + 8 * (k + l.length) <= nb' -> Gi cx σ a w -> wpListIn (FW cx.rr) nn P ops (post cx Q) (l ++ l2) a w
 | [], k, lg, σ, a, w, h, _, _, B, _, ha => h B nn a w ha
 | o :: l, k, lg, σ, a, w, h, hf, hd, B, hn, ⟨ρ, ha⟩ => by
  have hf0 := hf (k, o) (by simp [idx])
  have hd0 := hd (k, o) (by simp [idx])
  have hf1 : Q4 nb (idx (k + 1) l) σ := fun q hq => hf q (by simp [idx, hq])
  have hd1 : eT cx (idx (k + 1) l) := fun q hq => hd q (by simp [idx, hq])
  have hne : ∀ q ∈ idx (k + 1) l, q.1 ≠ k := fun q hq => by have := (On hq).1; omega
  have hn' : nb + 8 * (k + 1 + l.length) <= nb' := by simp at hn; omega
  have hUn : ∀ {e : Iz} {wr : List Nat} {rd : List Nat}, (∀ j, e.l j ≠ none -> j ∈ wr \/ (nb + 8 * k <= j /\ j < nb + 8 * k + 8)) -> (∀ j, j ∈ wr -> j ∈ rd) -> (∀ j, j ∈ rd -> σ.U j = true) -> ∀ j, nb' <= j -> (σ.app o.dst e).U j = false := fun {e wr rd} hk hs hu j hj => by
   cases hc : (σ.app o.dst e).U j with
   | false => rfl
   | true =>
    rcases bG hc with h1 | h1
    ·rw [B j hj] at h1; cases h1
    ·rcases hk j h1 with h2 | h2
     ·exact absurd (hu j (hs j h2)) (by rw [B j hj]; simp)
     ·simp at hn; omega
  show wpListIn (FW cx.rr) nn P ops (post cx Q) (o :: (l ++ l2)) a w
  unfold wpListIn
  rcases h with ⟨rd, wr, e, h1, -, h3⟩ | ⟨rd, wr, E, h1, -, -, h3⟩
  ·have hs := h1.sound ha hf0 hd0.1
   have := hs (wpListIn (FW cx.rr) nn P ops (post cx Q) (l ++ l2)) (post cx Q) fun a' w' ha' => Re l (k + 1) _ _ a' w' h3 (hf1.next h1.key.1 (fun j hj => h1.used ha j (h1.key.2 j hj)) hne) hd1 (hUn h1.key.1 h1.key.2 (h1.used ha)) hn' ha'
   split
   ·rename_i hw
    rw [if_pos hw] at this
    exact V0 hd0.2 this
   ·rename_i hw
    rw [if_neg hw] at this
    exact ⟨fun _ _ => trivial, this⟩
  ·have := h1.sound ha hf0 hd0.1 (wpListIn (FW cx.rr) nn P ops (post cx Q) (l ++ l2)) (post cx Q) fun e a' w' he ha' => Re l (k + 1) _ _ a' w' (h3 e he) (hf1.next (h1.key.1 e he) (fun j hj => h1.used ha j (h1.key.2 j hj)) hne) hd1 (hUn (h1.key.1 e he) h1.key.2 (h1.used ha)) hn' ha'
   split
   ·rename_i hw
    rw [if_pos hw] at this
    exact V0 hd0.2 this
   ·rename_i hw
    rw [if_neg hw] at this
    exact ⟨fun _ _ => trivial, this⟩
theorem G6.chain (S : iS P cx) (m nb nb' : Nat) (B : ∀ k, nb <= k -> σ.U k = false) (hn : Nat.ble (nb + 8 * (l.take m).length) nb' = true) (hd : Zb cx.N (l.take m) = true)
  (h : Cs S ops none nb (idx 0 (l.take m)) [] σ (fun σ' => (∀ j, nb' <= j -> σ'.U j = false) -> G6 P cx ops Q (l.drop m) σ')) : G6 P cx ops Q l σ := by
 intro nn a w ha
 have hn' : nb + 8 * (l.take m).length <= nb' := Nat.le_of_ble_eq_true hn
 have := Re (nn := nn) (l2 := l.drop m) (l.take m) 0 [] σ a w h (fun q hq j hj => B _ (by omega)) (Rz hd) (fun j hj => B j (by omega)) (by simpa using hn') ha
 rwa [List.take_append_drop] at this
theorem Sh {l2 : List Oper} (h : (∀ j, nb' <= j -> σ.U j = false) -> G6 P cx ops Q l2 σ) {lg : Yv} {i : Nat} : Cs S ops none nb (idx i []) lg σ (fun σ' => (∀ j, nb' <= j -> σ'.U j = false) -> G6 P cx ops Q l2 σ') := h
end
section
variable {P : Program} {f : FuncId} {args : List DV}
theorem Fn.plain {v : Value} {R : DV -> List LB -> Prop} {vs : List Value} {w : World} (h : Fn P f 0 args [] R) (hR : ∀ r b, R r b -> r = .val v) (ρ : Nat -> Value) (I : Nat -> Prop) (hI : ∀ b, I b -> b < w.heap.size) (hgl : Td I w) (hr : Bj ρ I w args vs) : Calls P f vs.toArray w fun e w' => e = .returned v /\ Ss w w' := by
 refine (h.2.2 ρ I w vs ⟨fun b hb => ⟨hI b hb, fun k hk => by simp at hk⟩, hgl⟩ hr (fun k lb h => by simp at h) (fun k k' b hk => by simp at hk)).mono ?_
 rintro e w' ⟨u, r, b, rfl, h1, h2⟩
 obtain ⟨-, ⟨o1, o2, o3, o4⟩, hk, ⟨ρ', J, -, -, hrep, -⟩, -⟩ := h2
 rw [hR r b h1] at hrep
 unfold Bw at hrep
 rw [hrep.1]
 exact ⟨rfl, o1, o2, o3, o4, fun b hb => hk b hb fun k hk => by simp at hk⟩
end
end Go.Proofs.YtopkgllcjbpdeaaDoor
namespace Go.Proofs.YtopkgllcjbpdeaaDoor
open Go.RowKit
def rJ (Q : Exit -> St -> Prop) : Exit -> St -> Prop
 | .normal, σ => Q .normal σ
 | .exit i, σ => Q (.exit i) σ
 | .goto _, _ => False
 | .ret, σ => Q .ret σ
 | .panic c, σ => Q (.panic c) σ
 | .outgrown, σ => Q .outgrown σ
section
variable {P : Program} {b : Frame} {a : Act} {k : List Item} {cs : List Frame} {w : World} {Q : Exit -> Act -> World -> Prop} {F : Fence} {n : Nat}
end
def An {α : Type} (f : α -> List C) (l : List α) : List C := l.flatMap f
def eI (x : Int) : List C := [.int .i64 x]
def eK (k : IntKind) (x : Int) : List C := [.int k x]
def e8 (x : UInt8) : List C := [.int .u8 (x.toNat : Int)]
def eS (x : ByteArray) : List C := [.str x]
def eB (x : Bool) : List C := [.bool x]
def eL {α : Type} (sz : Nat) (f : α -> List C) (l : List α) : List C := [.sl sz (An f l)]
theorem G0 (x : Int) : (eI x).length = 1 := rfl
theorem Bd (k : IntKind) (x : Int) : (eK k x).length = 1 := rfl
theorem oX (x : UInt8) : (e8 x).length = 1 := rfl
theorem oV (x : ByteArray) : (eS x).length = 1 := rfl
theorem Kk (x : Bool) : (eB x).length = 1 := rfl
theorem Dj {α : Type} (sz : Nat) (f : α -> List C) (l : List α) : (eL sz f l).length = 1 := rfl
section
variable {α : Type} {f : α -> List C} {sz : Nat}
theorem Gf (hf : ∀ x, (f x).length = sz) : ∀ (l : List α), (An f l).length = l.length * sz
 | [] => by simp [An]
 | x :: l => by
  have := Gf hf l
  unfold An at this ⊢
  rw [List.flatMap_cons, List.length_append, hf, this, List.length_cons, Nat.add_mul, Nat.one_mul, Nat.add_comm]
theorem Jg (l m : List α) : An f (l ++ m) = An f l ++ An f m := by unfold An; rw [List.flatMap_append]
theorem M3 {l : List α} {j : Nat} {x : α} (hx : l[j]? = some x) : An f l = An f (l.take j) ++ (f x ++ An f (l.drop (j + 1))) := by
 have hj := (List.getElem?_eq_some_iff.1 hx).1
 have hxe := (List.getElem?_eq_some_iff.1 hx).2
 have e1 : l = l.take j ++ (x :: l.drop (j + 1)) := by
  rw [<- hxe, List.getElem_cons_drop, List.take_append_drop]
 rw [show An f l = An f (l.take j ++ (x :: l.drop (j + 1))) from congrArg _ e1, Jg]
 rfl
theorem Kh (hf : ∀ x, (f x).length = sz) {l : List α} {j : Nat} (hj : j <= l.length) : (An f (l.take j)).length = j * sz := by
 rw [Gf hf, List.length_take, Nat.min_eq_left hj]
theorem Ju (hf : ∀ x, (f x).length = sz) {l : List α} {j : Nat} {x : α} (hx : l[j]? = some x) : j * sz + sz <= (An f l).length := by
 have hj := (List.getElem?_eq_some_iff.1 hx).1
 rw [Gf hf]
 have : (j + 1) * sz <= l.length * sz := Nat.mul_le_mul_right _ hj
 rw [Nat.add_mul, Nat.one_mul] at this
 exact this
theorem Ud (hf : ∀ x, (f x).length = sz) {l : List α} {j o : Nat} {x : α} (hx : l[j]? = some x) (ho : o < sz) {a : Nat} (ha : a = j * sz + o) : a < (An f l).length := by
 have := Ju hf hx
 omega
theorem Us (hf : ∀ x, (f x).length = sz) {l : List α} {j o : Nat} {x : α} (hx : l[j]? = some x) (ho : o <= sz) : (An f l).drop (j * sz + o) = (f x).drop o ++ An f (l.drop (j + 1)) := by
 have hj := (List.getElem?_eq_some_iff.1 hx).1
 have ht := Kh hf (l := l) (j := j) (by omega)
 rw [M3 hx, <- ht, <- List.drop_drop, List.drop_left, List.drop_append_of_le_length (by rw [hf]; exact ho)]
theorem A9 (hf : ∀ x, (f x).length = sz) {l : List α} {j o : Nat} {x : α} {c : C} (hx : l[j]? = some x) (hc : (f x)[o]? = some c) {a : Nat} (ha : a = j * sz + o) : (An f l)[a]? = some c := by
 subst ha
 have ho : o < sz := by rw [<- hf x]; exact (List.getElem?_eq_some_iff.1 hc).1
 have e1 := Us hf hx (Nat.le_of_lt ho)
 have e2 : (An f l)[j * sz + o]? = ((An f l).drop (j * sz + o))[0]? := by rw [List.getElem?_drop]; rfl
 rw [e2, e1, List.getElem?_append_left (by rw [List.length_drop, hf]; omega), List.getElem?_drop]
 exact hc
theorem cT (hf : ∀ x, (f x).length = sz) {l : List α} {j o m : Nat} {x : α} {cs : List C} (hx : l[j]? = some x) (hs : ((f x).drop o).take m = cs) (ho : o + m <= sz) {a : Nat} (ha : a = j * sz + o) : ((An f l).drop a).take m = cs := by
 subst ha
 rw [Us hf hx (by omega), List.take_append_of_le_length (by rw [List.length_drop, hf]; omega)]
 exact hs
theorem Bu (hf : ∀ x, (f x).length = sz) {l : List α} {j o m : Nat} {x : α} (hx : l[j]? = some x) (ho : o + m <= sz) {a : Nat} (ha : a = j * sz + o) : a + m <= (An f l).length := by
 have := Ju hf hx
 omega
theorem Cd (hf : ∀ x, (f x).length = sz) {l : List α} {j o : Nat} {x x' : α} {cs : List C} (hx : l[j]? = some x) (ho : o + cs.length <= sz) (hs : Cc (f x) o cs = f x') {a : Nat} (ha : a = j * sz + o) : Cc (An f l) a cs = An f (Cg l j x') := by
 subst ha
 have hj := (List.getElem?_eq_some_iff.1 hx).1
 have ht := Kh hf (l := l) (j := j) (by omega)
 have hset : An f (Cg l j x') = An f (l.take j) ++ (f x' ++ An f (l.drop (j + 1))) := by
  have : (Cg l j x')[j]? = some x' := by unfold Cg; rw [List.getElem?_set_self hj]
  rw [M3 this]
  unfold Cg
  rw [List.take_set_of_le (Nat.le_refl _), List.drop_set_of_lt (by omega)]
 rw [hset, <- hs]
 unfold Cc
 have e1 : (An f l).take (j * sz + o) = An f (l.take j) ++ (f x).take o := by
  rw [M3 hx, List.take_append, ht, Nat.add_sub_cancel_left, List.take_of_length_le (by rw [ht]; omega)]
  congr 1
  rw [List.take_append_of_le_length (by rw [hf]; omega)]
 have e2 : (An f l).drop (j * sz + o + cs.length) = (f x).drop (o + cs.length) ++ An f (l.drop (j + 1)) := by
  rw [Nat.add_assoc, Us hf hx ho]
 rw [e1, e2]
 simp only [List.append_assoc]
theorem bM (hf : ∀ x, (f x).length = sz) (l : List α) (i j : Nat) (hij : i <= j) (hj : j <= l.length) : ((An f l).drop (i * sz)).take ((j - i) * sz) = An f ((l.drop i).take (j - i)) := by
 have e0 : An f l = An f (l.take i) ++ An f (l.drop i) := by rw [<- Jg, List.take_append_drop]
 have e1 : An f (l.drop i) = An f ((l.drop i).take (j - i)) ++ An f ((l.drop i).drop (j - i)) := by rw [<- Jg, List.take_append_drop]
 rw [e0]
 have ht := Kh hf (l := l) (j := i) (by omega)
 have hd : ((An f (l.take i)) ++ An f (l.drop i)).drop (i * sz) = An f (l.drop i) := by rw [<- ht, List.drop_left]
 rw [hd, e1]
 have ht2 := Kh hf (l := l.drop i) (j := j - i) (by rw [List.length_drop]; omega)
 rw [<- ht2, List.take_left]
end
section
variable {P : Program} {tk : Nat} {t ty yt : TypeId} {X Y : Operand} {b1 b2 : Option LB} {k : IntKind} {x y : Int}
theorem qR : Eb P tk (.binOp .lss t X Y yt) ty [(.val (.int k x), b1), (.val (.int k y), b2)] [] (v0 (.val (.bool (decide (x < y))))) := .binOp (fun _ _ => rfl) oC
theorem qL : Eb P tk (.binOp .leq t X Y yt) ty [(.val (.int k x), b1), (.val (.int k y), b2)] [] (v0 (.val (.bool (decide (x <= y))))) := .binOp (fun _ _ => rfl) oI
theorem pJ : Eb P tk (.binOp .gtr t X Y yt) ty [(.val (.int k x), b1), (.val (.int k y), b2)] [] (v0 (.val (.bool (decide (y < x))))) := .binOp (fun _ _ => rfl) nW
theorem pO : Eb P tk (.binOp .geq t X Y yt) ty [(.val (.int k x), b1), (.val (.int k y), b2)] [] (v0 (.val (.bool (decide (y <= x))))) := .binOp (fun _ _ => rfl) mA
theorem pY : Eb P tk (.binOp .eql t X Y yt) ty [(.val (.int k x), b1), (.val (.int k y), b2)] [] (v0 (.val (.bool (decide (x = y))))) := .binOp (fun _ _ => rfl) mM
theorem qE : Eb P tk (.binOp .neq t X Y yt) ty [(.val (.int k x), b1), (.val (.int k y), b2)] [] (v0 (.val (.bool (!decide (x = y))))) := .binOp (fun _ _ => rfl) (fun w => by rw [nF w, decide_not])
theorem V4 (x : Int) : IntKind.i64.wrap x = W x := by rw [IntKind.wrap_i64]; unfold W; omega
theorem qO (x : Int) : Du (.int .i64 (W x)) = true := Ge.2 (Of (jV x))
theorem qC (x : Int) : IntKind.u8.wrap x = ((u8 x).toNat : Int) := by rw [IntKind.wrap_u8, iE]
theorem sT (x : UInt8) : Du (.int .u8 (x.toNat : Int)) = true := Ge.2 (Tc ⟨by omega, by have := x.toNat_lt; omega⟩)
theorem pT : Eb P tk (.binOp .add t X Y yt) ty [(.val (.int .i64 x), b1), (.val (.int .i64 y), b2)] [] (v0 (.val (.int .i64 (W (x + y))))) := .binOp (fun _ _ => qO _) (fun w => by rw [kA w, V4])
theorem qZ : Eb P tk (.binOp .sub t X Y yt) ty [(.val (.int .i64 x), b1), (.val (.int .i64 y), b2)] [] (v0 (.val (.int .i64 (W (x - y))))) := .binOp (fun _ _ => qO _) (fun w => by rw [bD w, V4])
theorem qB : Eb P tk (.binOp .mul t X Y yt) ty [(.val (.int .i64 x), b1), (.val (.int .i64 y), b2)] [] (v0 (.val (.int .i64 (W (x * y))))) := .binOp (fun _ _ => qO _) (fun w => by rw [aO w, V4])
theorem iK (x y : Int) : (x.tmod y).natAbs <= x.natAbs := by
 rw [Int.natAbs_tmod]
 exact Nat.mod_le _ _
theorem Za {x y : Int} (h : -9223372036854775808 <= x /\ x <= 9223372036854775807) : -9223372036854775808 <= x.tmod y /\ x.tmod y <= 9223372036854775807 := by
 have h0 := iK x y
 rcases Int.le_total 0 x with hx | hx
 ·have h1 := Int.tmod_nonneg y hx
  omega
 ·have e : x.tmod y = -((-x).tmod y) := by rw [Int.neg_tmod]; omega
  have h1 := Int.tmod_nonneg y (show 0 <= -x by omega)
  omega
theorem jQ {n : Int} (h : Du (.int .i64 n) = true) : -9223372036854775808 <= n /\ n <= 9223372036854775807 := by
 have := Ge.1 h
 have h1 : IntKind.i64.min = -9223372036854775808 := by decide
 have h2 : IntKind.i64.max = 9223372036854775807 := by decide
 rw [h1, h2] at this
 exact this
theorem lL {z : Int} (h : dD x y = some z) : Eb P tk (.binOp .rem t X Y yt) ty [(.val (.int .i64 x), b1), (.val (.int .i64 y), b2)] [] (v0 (.val (.int .i64 z))) := by
 obtain ⟨hy, rfl⟩ := cL h
 exact .binOp (fun h _ => Ge.2 (Of (Za (jQ h)))) (iP hy)
theorem Sb {z : Int} (h : Mr x y = some z) : Eb P tk (.binOp .quo t X Y yt) ty [(.val (.int .i64 x), b1), (.val (.int .i64 y), b2)] [] (v0 (.val (.int .i64 z))) := by
 obtain ⟨hy, rfl⟩ := cZ h
 exact .binOp (fun _ _ => qO _) (fun w => by rw [oK hy w, V4])
theorem Ws {a b z : UInt8} (h : Xd a b = some z) : Eb P tk (.binOp .rem t X Y yt) ty [(.val (.int .u8 (a.toNat : Int)), b1), (.val (.int .u8 (b.toNat : Int)), b2)] [] (v0 (.val (.int .u8 (z.toNat : Int)))) := by
 obtain ⟨hy, hz⟩ := dL h
 refine .binOp (fun _ _ => Ge.2 (Tc ⟨by omega, by have := z.toNat_lt; omega⟩)) ?_
 rw [hz]
 exact iP hy
theorem pV {b : Bool} : Eb P tk (.unOp .not t X) ty [(.val (.bool b), b1)] [] (v0 (.val (.bool (!b)))) := .unOp (fun _ => rfl) mX
theorem W5 {a b : Bool} (ht : P.underlying t = some .bool) : Eb P tk (.binOp .neq t X Y yt) ty [(.val (.bool a), b1), (.val (.bool b), b2)] [] (v0 (.val (.bool (!decide (a = b))))) := .binOp (fun _ _ => rfl) (fun w => by cases a <;> cases b <;> simp [eqGuard, binOp, Op.equal, Op.maxDepth, run_equalIn_bool', ht])
theorem oF {a b : ByteArray} : Eb P tk (.binOp .eql t X Y yt) ty [(.val (.string a), b1), (.val (.string b), b2)] [] (v0 (.val (.bool (decide (a = b))))) := .binOp (fun _ _ => rfl) lE
theorem mW {a b : ByteArray} : Eb P tk (.binOp .neq t X Y yt) ty [(.val (.string a), b1), (.val (.string b), b2)] [] (v0 (.val (.bool (!decide (a = b))))) := .binOp (fun _ _ => rfl) (fun w => by rw [iX w, decide_not])
theorem bZ {src dst : TypeId} (hs : P.underlying src = some (.int k)) (hd : P.underlying dst = some (.int .u8)) : Eb P tk (.convert src dst X) ty [(.val (.int k x), b1)] [] (v0 (.val (.int .u8 ((u8 x).toNat : Int)))) :=
 .conv (by unfold bH; rw [hs]) (by unfold bH; rw [hd]) (fun _ => sT _) (fun w => by rw [W2 (by rw [hs]; rfl) hd w, qC])
theorem Zc {src dst : TypeId} (hs : P.underlying src = some (.int k)) (hd : P.underlying dst = some (.int .i64)) : Eb P tk (.convert src dst X) ty [(.val (.int k x), b1)] [] (v0 (.val (.int .i64 (W x)))) :=
 .conv (by unfold bH; rw [hs]) (by unfold bH; rw [hd]) (fun _ => qO _) (fun w => by rw [W2 (by rw [hs]; rfl) hd w, V4])
theorem Kf {src dst : TypeId} {u : UInt8} (hs : P.underlying src = some (.int .u8)) (hd : P.underlying dst = some (.int .i64)) : Eb P tk (.convert src dst X) ty [(.val (.int .u8 (u.toNat : Int)), b1)] [] (v0 (.val (.int .i64 (u.toNat : Int)))) :=
 .conv (by unfold bH; rw [hs]) (by unfold bH; rw [hd]) (fun _ => Ge.2 (Of ⟨by omega, by have := u.toNat_lt; omega⟩)) (fun w => by
  have := u.toNat_lt
  rw [W2 (by rw [hs]; rfl) hd w, V4, Em (by omega)])
theorem kE {Z : Operand} {c : Bool} {d1 d2 : DV} {b3 : Option LB} (h : c = true) : Eb P tk (.pick X Y Z) ty [(.val (.bool c), b1), (d1, b2), (d2, b3)] [] (v0 d1) := by subst h; exact .pick
theorem kG {Z : Operand} {c : Bool} {d1 d2 : DV} {b3 : Option LB} (h : c = false) : Eb P tk (.pick X Y Z) ty [(.val (.bool c), b1), (d1, b2), (d2, b3)] [] (v0 d2) := by subst h; exact .pick
end
section
variable {P : Program} {tk : Nat} {t ty e sz bytes : Nat} {X Y : Operand} {b1 b2 : Option LB} {α : Type} {f : α -> List C} {l : List α} {n : Int} {k : IntKind} {j kr e' : Nat} {x : α}
theorem oH (h : F4 P t e sz bytes) (hf : ∀ x, (f x).length = sz) : Eb P tk (.call ⟨.builtin .len, #[X], #[t]⟩) ty [(.sl sz (An f l), b1)] [] (v0 (.val (.int .i64 (l.length : Int)))) := .len h.elem (.sl h.hsz (Gf hf l))
theorem oD (h : F4 P t e sz bytes) (hf : ∀ x, (f x).length = sz) : Eb P tk (.call ⟨.builtin .len, #[X], #[t]⟩) ty [(.row kr, some (.row e' sz (An f l)))] [] (v0 (.val (.int .i64 (l.length : Int)))) := .len h.elem (.row h.hsz (Gf hf l))
theorem mB (h : F4 P t e sz bytes) (hf : ∀ x, (f x).length = sz) (hj : n = (j : Int)) (hx : l[j]? = some x) : Eb P tk (.indexAddr t X Y) ty [(.sl sz (An f l), b1), (.val (.int k n), b2)] [] (v0 (.elt ((An f l).drop (j * sz)))) := .idxS h hj (Ju hf hx)
theorem nB (h : F4 P t e sz bytes) (hf : ∀ x, (f x).length = sz) (hj : n = (j : Int)) (hx : l[j]? = some x) : Eb P tk (.indexAddr t X Y) ty [(.row kr, some (.row e' sz (An f l))), (.val (.int k n), b2)] [] (v0 (.ptr kr (j * sz))) := .idxR h hj (Ju hf hx)
theorem D0 {sz' a : Nat} {cs : List C} {c : C} (ht : Ty P t false sz') (h : cs[a]? = some c) : Eb P tk (.load t X) ty [(.elt (cs.drop a), b1)] [] (v0 (Qz c)) := .loadE1 ht (by rw [List.getElem?_drop]; exact h)
theorem gX {m a : Nat} {cs cs2 : List C} (ht : Ty P t true m) (h : (cs.drop a).take m = cs2) (hl : a + m <= cs.length) : Eb P tk (.load t X) ty [(.elt (cs.drop a), b1)] [] (v0 (.agg (cs2.map Qz))) := by
 subst h
 exact .loadEA ht (by rw [List.length_drop]; omega)
theorem C2 {i s : Nat} {cs cs' cs2 : List C} {ag : Bool} {d : DV} {sz' : Nat} {ck : List (Option Nat)} (ht : Ty P t ag sz') (hs : (B6 d).length = sz') (hi : i + sz' <= cs.length) (hk : Jz P 20 t = ck) (hd : E1 ck (B6 d) cs') (h : Cc cs i cs' = cs2) : Eb P tk (.store t X Y) ty [(.ptr kr i, some (.row e' s cs)), (d, b2)] [kr] (Jw kr (.row e' s cs2)) := by
 subst h
 exact .storeR ht hs hi hk hd
theorem Dr {d d' : DV × Option LB} {l' l2 : List α} {ks : List Nat} {kk : Nat} {cs cs' : List C} (hS : F4 P t e sz bytes) (hf : ∀ x, (f x).length = sz) (ht : jF d e sz cs ks) (hc : cs = An f l) (hs : U8 d' sz cs') (hc' : cs' = An f l') (h : G8 kk l l' = some l2) (hk : sz * bytes = kk) : Eb P tk (.call ⟨.builtin .append, #[X, Y], #[t, t]⟩) ty [d, d'] ks (Jv tk (.row e sz (An f l2)) ks (.row tk)) := by
 subst hc hc'
 obtain ⟨h1, rfl⟩ := Wc h
 rw [Jg]
 refine .append hS ht hs ?_
 rw [Gf hf, Gf hf, <- Nat.add_mul, Nat.mul_assoc, hk]
 exact h1
theorem aC {ck : List (Option Nat)} {ds : List DV} {z : α} (h : E1 ck ds (f z)) (hk : ck.length = ds.length) : ∀ m, E1 (List.replicate m ck).flatten (List.replicate m ds).flatten (An f (List.replicate m z))
 | 0 => .nil
 | m + 1 => by
  have ih := aC h hk m
  rw [List.replicate_succ, List.replicate_succ, List.replicate_succ, List.flatten_cons, List.flatten_cons]
  show E1 _ _ (f z ++ An f (List.replicate m z))
  have app : ∀ {k1 : List (Option Nat)} {d1 : List DV} {c1 : List C}, E1 k1 d1 c1 -> k1.length = d1.length -> ∀ {k2 d2 c2}, E1 k2 d2 c2 -> E1 (k1 ++ k2) (d1 ++ d2) (c1 ++ c2) := by
   intro k1 d1 c1 h1
   induction h1 with
   | @nil ks => intro hl k2 d2 c2 h2; have : ks = [] := List.eq_nil_of_length_eq_zero (by simpa using hl); subst this; exact h2
   | cons h hs ih => intro hl k2 d2 c2 h2; exact .cons h (ih (by simpa using hl) h2)
  exact app h hk ih
theorem Ue {z : List Value} {k' : IntKind} {z0 : α} {kk : Nat} {ck : List (Option Nat)} (hS : F4 P t e sz bytes) (hz : Zt P e z) (hk : Jz P 20 e = ck) (hd : E1 ck (z.map DV.val) (f z0)) (hl : ck.length = (z.map DV.val).length) (h : Uz kk n z0 = some l) (hkk : bytes = kk) (hxy : X = Y := by rfl) : Eb P tk (.makeSlice t X Y) ty [(.val (.int k n), b1), (.val (.int k' n), b2)] [] (J4 tk (.row e sz (An f l)) (.row tk)) := by
 obtain ⟨m, rfl, h1, h2, rfl⟩ := cB h
 subst hkk
 exact .makeSl hS hz rfl ⟨h1, h2⟩ hk (aC hd hl m) hxy
section
variable {lo hi : Operand} {a b : Int} {ka kb : IntKind} {b3 : Option LB} {m : List α}
theorem Vv (hS : F4 P t e sz bytes) (hf : ∀ x, (f x).length = sz) (h : kF l a (l.length : Int) = some m) : Eb P tk (.slice t X (some lo) none none) ty [(.sl sz (An f l), b1), (.val (.int ka a), b2)] [] (v0 (.sl sz (An f m))) := by
 obtain ⟨i, j, rfl, hj, h1, h2, rfl⟩ := X1 h
 have : j = l.length := by omega
 subst this
 rw [<- bM hf l i l.length h1 h2]
 exact .sliS hS (Gf hf l) ⟨⟨_, _, _, rfl, rfl⟩, rfl⟩ ⟨h1, h2⟩
theorem Vu (hS : F4 P t e sz bytes) (hf : ∀ x, (f x).length = sz) (h : kF l 0 b = some m) : Eb P tk (.slice t X none (some hi) none) ty [(.sl sz (An f l), b1), (.val (.int kb b), b2)] [] (v0 (.sl sz (An f m))) := by
 obtain ⟨i, j, hi', rfl, h1, h2, rfl⟩ := X1 h
 have : i = 0 := by omega
 subst this
 rw [<- bM hf l 0 j h1 h2]
 exact .sliS hS (Gf hf l) ⟨⟨_, _, _, rfl, rfl⟩, rfl⟩ ⟨h1, h2⟩
end
end
theorem Cv.frzE {σ : St} {θ : Nat -> Option Nat} {j e sz : Nat} {cs : List C} (h : σ.L j = some (.row e sz cs)) (h' : (match σ.L j with | some _ => true | none => false) = true) (hn : ∀ k, θ k ≠ some j) : Cv σ θ (.row j) (.sl sz cs) := .frz h hn
end Go.Proofs.YtopkgllcjbpdeaaDoor
namespace Go.Proofs.YtopkgllcjbpdeaaDoor
open Go.RowKit
mutual
theorem aG (f : Nat -> Nat) : ∀ d, G7 d = [] -> Hn f d = d
 | .row _, h => by simp [G7] at h
 | .part _ _ _, h => by simp [G7] at h
 | .ptr _ _, h => by simp [G7] at h
 | .nst _ _ _, h => by simp [G7] at h
 | .npt _ _ _ _, h => by simp [G7] at h
 | .val _, _ => rfl
 | .sl _ _, _ => rfl
 | .slc _ _, _ => rfl
 | .mp _, _ => rfl
 | .elt _, _ => rfl
 | .agg ds, h => by unfold G7 at h; unfold Hn; rw [K8 f ds h]
 | .tup ds, h => by unfold G7 at h; unfold Hn; rw [K8 f ds h]
 | .clo _ _ ds, h => by unfold G7 at h; unfold Hn; rw [K8 f ds h]
theorem K8 (f : Nat -> Nat) : ∀ ds, Jp ds = [] -> I0 f ds = ds
 | [], _ => rfl
 | d :: ds, h => by
  unfold Jp at h
  have h1 := List.append_eq_nil_iff.1 h
  unfold I0
  rw [aG f d h1.1, K8 f ds h1.2]
end
def Zg : LB -> List Nat
 | .box ds _ => Jp ds
 | .row .. => []
 | .map _ => []
 | .mit k _ _ => [k]
 | .lop _ ds _ _ => Jp ds
 | .vec ds _ => Jp ds
 | .tree _ _ _ _ _ s _ _ => [s]
 | .gho => []
theorem kD (f : Nat -> Nat) {lb : LB} (h : Zg lb = []) : Z4 f lb = lb := by
 cases lb with
 | box ds ty =>
  show LB.box (I0 f ds) ty = _
  rw [K8 f ds h]
 | row => rfl
 | map => rfl
 | mit => cases h
 | tree => cases h
 | gho => rfl
 | lop ts ds N rc =>
  show LB.lop ts (I0 f ds) N rc = _
  rw [K8 f ds h]
 | vec ds e =>
  show LB.vec (I0 f ds) e = _
  rw [K8 f ds h]
def Z2 (ps gs : List Nat) (r : DV) (bx : List LB) : Iz := ⟨some r, fun k => match Dy (ps.zip bx) k with | some lb => some (some lb) | none => bif gs.any (Nat.beq k) then some none else none⟩
theorem Yw {ps : List Nat} {tk : Nat} : ∀ {l : List Nat} {b : List LB} {i : Nat}, (∀ j, l[j]? = ps[i + j]?) -> b.length = l.length -> (∀ lb ∈ b, Zg lb = []) -> Oy ps tk i b = l.zip b
 | [], [], _, _, _, _ => rfl
 | x :: l, lb :: b, i, hl, hb, ht => by
  unfold Oy
  have h0 := hl 0
  simp only [Nat.add_zero] at h0
  have e1 : D7 ps tk i = x := by
   unfold D7
   rw [<- h0]
   rfl
  rw [e1, kD _ (ht lb (List.mem_cons_self ..)), Yw (l := l) (fun j => by have := hl (j + 1); rw [show i + 1 + j = i + (j + 1) by omega, <- this]; rfl) (by simpa using hb) fun lb h => ht lb (List.mem_cons_of_mem _ h)]
  rfl
 | [], _ :: _, _, _, h, _ => by simp at h
 | _ :: _, [], _, _, h, _ => by simp at h
theorem Wx {ps gs : List Nat} {tk : Nat} {r : DV} {b : List LB} (hr : G7 r = []) (hl : b.length = ps.length) (hb : ∀ lb ∈ b, Zg lb = []) : Is ps gs tk r b = Z2 ps gs r b := by
 unfold Is Z2
 rw [aG _ _ hr, Yw (l := ps) (fun j => by rw [Nat.zero_add]) hl hb]
 rfl
section
variable {P : Program} {cx : Cx} {ops : Array Oper} {Rt : Option (List Nat)} {nb i : Nat} {l : List Oper} {lg : Yv} {σ : St} {Q : St -> Prop} {fz : List Nat}
theorem Ys {dst : Option Tmp} {f : FuncId} {xs : Array Operand} {tys : Array TypeId} {ty : TypeId} {pos : String} {af : Array Edge} {g : Option (Nat × Bool)} {dsA : List (DV × Option LB)} {rd ps gs : List Nat} {args : List DV} {bx : List LB} {d : DV} {b : List LB} (fl : Bool)
  (G : G9 ops σ ⟨dst, .call ⟨.value (.func f), xs, tys⟩, ty, pos, af, g⟩ = some true)
  (hF : Fn P f ps.length args bx (fun d' b' => d' = d /\ b' = b)) (hds : Df σ true xs.toList = some dsA) (hrd : Ml σ 3 (Nf dsA) = rd) (hA : Dw fl (ps ++ gs) (Gd σ rd) (dsA.map (·.1)) args) (hB : Qv fl (ps ++ gs) (Gd σ rd) (ps ++ gs) bx) (hnd : Iu cx.np ps gs = true) (hfl : fl = true -> Gz d /\ ∀ lb ∈ b, Jh lb)
  (hok : Ih Rt i true (nb + 8 * i) rd (ps ++ gs) lg = true) (hr : G7 d = []) (hl : b.length = ps.length) (hb : b.flatMap Zg = [])
  (k : Cs (Ce P cx fz) ops Rt nb (idx (i + 1) l) ((i, true, nb + 8 * i, rd, ps ++ gs) :: lg) (σ.app dst (Z2 ps gs d b)) Q) :
  Cs (Ce P cx fz) ops Rt nb (idx i (⟨dst, .call ⟨.value (.func f), xs, tys⟩, ty, pos, af, g⟩ :: l)) lg σ Q := by
 refine Dv fl G hF hds hrd hA hB hnd (fun h r b => ?_) hok (fun _ => ⟨_, _, ⟨rfl, rfl⟩, by omega, by omega⟩) fun r b => ?_
 ·rintro ⟨rfl, rfl⟩; exact hfl h
 ·rintro ⟨rfl, rfl⟩
  rw [Wx hr hl fun lb h => ?_]
  ·exact k
  ·have := List.flatMap_eq_nil_iff.1 hb lb h
   exact this
theorem Wg {dst : Option Tmp} {t : Tmp} {f : FuncId} {q : Option LB} {xs : Array Operand} {tys : Array TypeId} {ty : TypeId} {pos : String} {af : Array Edge} {g : Option (Nat × Bool)} {dsA : List (DV × Option LB)} {rd ps gs : List Nat} {args : List DV} {bx : List LB} {d : DV} {b : List LB} (fl : Bool)
  (G : G9 ops σ ⟨dst, .call ⟨.value (.tmp t), xs, tys⟩, ty, pos, af, g⟩ = some true) (hc : ev σ true (.tmp t) = some (.val (.func (.func f) #[] #[]), q))
  (hF : Fn P f ps.length args bx (fun d' b' => d' = d /\ b' = b)) (hds : Df σ true xs.toList = some dsA) (hrd : Ml σ 3 (Nf dsA) = rd) (hA : Dw fl (ps ++ gs) (Gd σ rd) (dsA.map (·.1)) args) (hB : Qv fl (ps ++ gs) (Gd σ rd) (ps ++ gs) bx) (hnd : Iu cx.np ps gs = true) (hfl : fl = true -> Gz d /\ ∀ lb ∈ b, Jh lb)
  (hok : Ih Rt i true (nb + 8 * i) rd (ps ++ gs) lg = true) (hr : G7 d = []) (hl : b.length = ps.length) (hb : b.flatMap Zg = [])
  (k : Cs (Ce P cx fz) ops Rt nb (idx (i + 1) l) ((i, true, nb + 8 * i, rd, ps ++ gs) :: lg) (σ.app dst (Z2 ps gs d b)) Q) :
  Cs (Ce P cx fz) ops Rt nb (idx i (⟨dst, .call ⟨.value (.tmp t), xs, tys⟩, ty, pos, af, g⟩ :: l)) lg σ Q := by
 refine hY fl G hc hF hds hrd hA hB hnd (fun h r b => ?_) hok (fun _ => ⟨_, _, ⟨rfl, rfl⟩, by omega, by omega⟩) fun r b => ?_
 ·rintro ⟨rfl, rfl⟩; exact hfl h
 ·rintro ⟨rfl, rfl⟩
  rw [Wx hr hl fun lb h => ?_]
  ·exact k
  ·have := List.flatMap_eq_nil_iff.1 hb lb h
   exact this
theorem E9 {dst : Option Tmp} {t : Tmp} {f : FuncId} {n : Nat} {cs : List DV} {q : Option LB} {xs : Array Operand} {tys : Array TypeId} {ty : TypeId} {pos : String} {af : Array Edge} {g : Option (Nat × Bool)} {dsA : List (DV × Option LB)} {rd ps gs : List Nat} {args : List DV} {bx : List LB} {d : DV} {b : List LB} (fl : Bool)
  (G : G9 ops σ ⟨dst, .call ⟨.value (.tmp t), xs, tys⟩, ty, pos, af, g⟩ = some true) (hc : ev σ true (.tmp t) = some (.clo f n cs, q))
  (hF : Fn P f ps.length args bx (fun d' b' => d' = d /\ b' = b)) (hds : Df σ true xs.toList = some dsA) (hrd : Ml σ 3 (Jp cs ++ Nf dsA) = rd) (hA : Dw fl (ps ++ gs) (Gd σ rd) (cs.take n ++ (dsA.map (·.1) ++ cs.drop n)) args) (hB : Qv fl (ps ++ gs) (Gd σ rd) (ps ++ gs) bx) (hnd : Iu cx.np ps gs = true) (hfl : fl = true -> Gz d /\ ∀ lb ∈ b, Jh lb)
  (hok : Ih Rt i true (nb + 8 * i) rd (ps ++ gs) lg = true) (hr : G7 d = []) (hl : b.length = ps.length) (hb : b.flatMap Zg = [])
  (k : Cs (Ce P cx fz) ops Rt nb (idx (i + 1) l) ((i, true, nb + 8 * i, rd, ps ++ gs) :: lg) (σ.app dst (Z2 ps gs d b)) Q) :
  Cs (Ce P cx fz) ops Rt nb (idx i (⟨dst, .call ⟨.value (.tmp t), xs, tys⟩, ty, pos, af, g⟩ :: l)) lg σ Q := by
 refine eV fl G hc hF hds hrd hA hB hnd (fun h r b => ?_) hok (fun _ => ⟨_, _, ⟨rfl, rfl⟩, by omega, by omega⟩) fun r b => ?_
 ·rintro ⟨rfl, rfl⟩; exact hfl h
 ·rintro ⟨rfl, rfl⟩
  rw [Wx hr hl fun lb h => ?_]
  ·exact k
  ·have := List.flatMap_eq_nil_iff.1 hb lb h
   exact this
end
section
variable {P : Program} {tk : Nat} {t ty yt : TypeId} {X Y : Operand} {b1 b2 : Option LB} {k k' : IntKind} {x y : Int}
theorem J9 (k : IntKind) (z : Int) : Du (.int k (k.wrap z)) = true := by
 rw [Ge]
 cases k <;> simp [IntKind.wrap, IntKind.bits, IntKind.signed, IntKind.min, IntKind.max] <;> (try split) <;> omega
theorem oM : Eb P tk (.binOp .sub t X Y yt) ty [(.val (.int k x), b1), (.val (.int k y), b2)] [] (v0 (.val (.int k (k.wrap (x - y))))) := .binOp (fun _ _ => J9 _ _) bD
theorem mJ : Eb P tk (.binOp .mul t X Y yt) ty [(.val (.int k x), b1), (.val (.int k y), b2)] [] (v0 (.val (.int k (k.wrap (x * y))))) := .binOp (fun _ _ => J9 _ _) aO
theorem Pr : Eb P tk (.binOp .and t X Y yt) ty [(.val (.int k x), b1), (.val (.int k y), b2)] [] (v0 (.val (.int k (Oa k x y)))) := .binOp (fun _ _ => J9 _ _) (fun w => by simp [eqGuard, binOp, Op.intBits, Oa])
theorem R5 : Eb P tk (.binOp .or t X Y yt) ty [(.val (.int k x), b1), (.val (.int k y), b2)] [] (v0 (.val (.int k (Ry k x y)))) := .binOp (fun _ _ => J9 _ _) (fun w => by simp [eqGuard, binOp, Op.intBits, Ry])
theorem mT : Eb P tk (.unOp .neg t X) ty [(.val (.int k x), b1)] [] (v0 (.val (.int k (k.wrap (-x))))) := .unOp (fun _ => J9 _ _) nS
theorem Ig : Eb P tk (.binOp .andNot t X Y yt) ty [(.val (.int k x), b1), (.val (.int k y), b2)] [] (v0 (.val (.int k (G4 k x y)))) := .binOp (fun _ _ => J9 _ _) (fun w => by simp [eqGuard, binOp, Op.intBits, G4])
theorem Xf : Eb P tk (.binOp .xor t X Y yt) ty [(.val (.int k x), b1), (.val (.int k y), b2)] [] (v0 (.val (.int k (Oz k x y)))) := .binOp (fun _ _ => J9 _ _) (fun w => by simp [eqGuard, binOp, Op.intBits, Oz])
theorem kX (k : IntKind) : k.min <= 0 /\ 0 <= k.max := by cases k <;> decide
theorem Yq {x d : Int} (hx : x <= 0) (hd : 0 < d) : x / d <= 0 := by
 rcases Int.lt_trichotomy (x / d) 0 with h | h | h
 ·omega
 ·omega
 ·exfalso
  have h1 := Int.mul_ediv_add_emod x d
  have h2 := Int.emod_nonneg x (show d ≠ 0 by omega)
  have h3 : d * 1 <= d * (x / d) := Int.mul_le_mul_of_nonneg_left (by omega) (by omega)
  omega
theorem M5 {z : Int} (h : Kb k x y = some z) : Eb P tk (.binOp .shr t X Y yt) ty [(.val (.int k x), b1), (.val (.int k' y), b2)] [] (v0 (.val (.int k z))) := by
 obtain ⟨h0, rfl⟩ := dB h
 refine .binOp (fun hx _ => ?_) (fun w => by simp [eqGuard, binOp, Op.shift, h0])
 rw [Ge] at hx ⊢
 have hm := kX k
 have hd : (0 : Int) < 2 ^ min y.toNat k.bits := Int.pow_pos (by omega)
 generalize (2 : Int) ^ min y.toNat k.bits = d at hd
 rw [Int.fdiv_eq_ediv_of_nonneg _ (Int.le_of_lt hd)]
 rcases Int.le_total 0 x with hx0 | hx0
 ·have h1 := Int.ediv_nonneg hx0 (Int.le_of_lt hd)
  have h2 := Int.ediv_le_self d hx0
  omega
 ·have h1 : x <= x / d := by
   have := Int.mul_ediv_add_emod x d
   have h3 := Int.emod_nonneg x (show d ≠ 0 by omega)
   have h4 : x / d <= 0 := Yq hx0 hd
   have h5 : d * (x / d) <= 1 * (x / d) := Int.mul_le_mul_of_nonpos_right (by omega) h4
   have h6 := Int.emod_lt_of_pos x hd
   by_cases h7 : x / d = 0
   ·omega
   ·have h8 : x / d <= -1 := by omega
    have h9 : (d - 1) * (x / d) <= (d - 1) * (-1) := Int.mul_le_mul_of_nonneg_left h8 (by omega)
    have h10 : d * (x / d) = (d - 1) * (x / d) + x / d := by rw [Int.sub_mul, Int.one_mul]; omega
    omega
  have h2 : x / d <= 0 := Yq hx0 hd
  omega
theorem Hu {z : Int} (h : L6 k x y = some z) : Eb P tk (.binOp .shl t X Y yt) ty [(.val (.int k x), b1), (.val (.int k' y), b2)] [] (v0 (.val (.int k z))) := by
 obtain ⟨h0, rfl⟩ := dC h
 exact .binOp (fun _ _ => J9 _ _) (fun w => by simp [eqGuard, binOp, Op.shift, h0])
theorem Xq {src dst : TypeId} (hs : P.underlying src = some (.int k)) (hd : P.underlying dst = some (.int k')) : Eb P tk (.convert src dst X) ty [(.val (.int k x), b1)] [] (v0 (.val (.int k' (k'.wrap x)))) :=
 .conv (by unfold bH; rw [hs]) (by unfold bH; rw [hd]) (fun _ => J9 _ _) (W2 (by rw [hs]; rfl) hd)
theorem oB {s : ByteArray} {u : UInt8} (ht : P.underlying t = some .string) (h : idxT s x = some u) : Eb P tk (.index t X Y) ty [(.val (.string s), b1), (.val (.int k x), b2)] [] (v0 (.val (.int .u8 (u.toNat : Int)))) := by
 unfold idxT at h
 split at h
 ·cases h
 ·rename_i h0
  have h1 : 0 <= x := by omega
  have hlt := (Array.getElem?_eq_some_iff.1 h).1
  have hs : s[x.toNat]? = some u := by
   have hlt' : x.toNat < s.size := hlt
   rw [getElem?_pos s x.toNat hlt']
   have := (Array.getElem?_eq_some_iff.1 h).2
   exact congrArg some this
  exact .indexS (fun _ _ => sT _) (fun w => by simp [Instr.index, asIntOf, run_underlying ht, h1, hs])
end
section
variable {α : Type} {f : α -> List C} {sz : Nat}
end
section
variable {P : Program} {tk : Nat} {t ty e sz bytes : Nat} {X Y : Operand} {b1 b2 b3 : Option LB} {α : Type} {f : α -> List C} {l m : List α} {n : Int} {k ka kb : IntKind} {j kr e' : Nat} {x : α} {lo hi : Operand} {a b : Int}
theorem Ui {sz : Nat} : ∀ (ds : List DV) (k : Nat) (pre rest : List DV), pre.length = k * sz -> rest.length = ds.length * sz -> (∀ d ∈ ds, (B6 d).length = sz) -> Ez (fun i => some (i * sz, sz)) (pre ++ rest) ((List.range' k ds.length).zip ds) = some (pre ++ ds.flatMap B6)
 | [], k, pre, rest, _, hr, _ => by
  have : rest = [] := List.eq_nil_of_length_eq_zero (by simpa using hr)
  subst this
  simp [Ez]
 | d :: ds, k, pre, rest, hp, hr, hd => by
  have h0 := hd d (List.mem_cons_self ..)
  have hr' : rest.length = ds.length * sz + sz := by rw [hr, List.length_cons, Nat.add_mul, Nat.one_mul]
  rw [List.length_cons, List.range'_succ, List.zip_cons_cons]
  unfold Ez
  simp only []
  have c1 : Nat.beq (B6 d).length sz = true := by rw [h0]; exact Nat.beq_refl _
  have c2 : Nat.ble (k * sz + sz) (pre ++ rest).length = true := Nat.ble_eq_true_of_le (by rw [List.length_append, hp, hr']; omega)
  rw [c1, c2]
  simp only [Bool.and_self, cond_true]
  have e1 : Cc (pre ++ rest) (k * sz) (B6 d) = (pre ++ B6 d) ++ rest.drop sz := by
   unfold Cc
   rw [h0, <- hp, List.take_left, <- List.drop_drop, List.drop_left, List.append_assoc]
  rw [e1, Ui ds (k + 1) (pre ++ B6 d) (rest.drop sz) (by rw [List.length_append, hp, h0, Nat.add_mul, Nat.one_mul]) (by rw [List.length_drop, hr']; omega) fun x hx => hd x (List.mem_cons_of_mem _ hx)]
  rw [List.flatMap_cons, List.append_assoc]
theorem R4 {len : Nat} {parts : Array (Nat × Operand)} {ds : List (DV × Option LB)} {z : List Value} {cs : List C} {ck : List (Option Nat)} (hS : F4 P t e sz bytes) (hz : Zt P e z) (hlen : len * sz <= 16777216) (hp : parts.toList.map (·.1) = List.range' 0 len) (hzl : z.length = sz) (hn : ds.length = len) (hs : ds.all (fun q => Nat.beq (B6 q.1).length sz) = true) (hk : Jz P 20 e = ck) (hc : E1 (List.replicate len ck).flatten (ds.flatMap fun q => B6 q.1) cs) (ho : ds.all (fun q => (B6 q.1).all Pu) = true) (h : An f l = cs) : Eb P tk (.buildSlice t len parts) ty ds [] (J4 tk (.row e sz (An f l)) (.row tk)) := by
 subst h
 refine .buildSl hS hz hlen ?_ hk hc ho
 have hd := Ui (sz := sz) (ds.map (·.1)) 0 [] ((List.replicate len (z.map DV.val)).flatten) (by simp) (by simp [hzl, hn]) fun d hd => by
  obtain ⟨q, hq, rfl⟩ := List.mem_map.1 hd
  exact Nat.eq_of_beq_eq_true (List.all_eq_true.1 hs q hq)
 rw [List.nil_append, List.nil_append, List.length_map, hn] at hd
 rw [hp, hd]
 congr 1
 rw [List.flatMap_map]
theorem gJ {i bt sz' : Nat} {ds ds' : List DV} {ag : Bool} {d : DV} {kk : Nat} (ht : Ty P t ag sz') (hs : (B6 d).length = sz') (hi : i + sz' <= ds.length) (ho : (B6 d).all Pu = true) (h : Cc ds i (B6 d) = ds') : Eb P tk (.store t X Y) ty [(.ptr kk i, some (.box ds bt)), (d, b2)] [kk] (Jw kk (.box ds' bt)) := by
 subst h
 exact .storeB ht hs hi ho
end
class gG (p : Prop) (q : outParam Prop) : Prop where
 go : q -> p
theorem rL {p q : Prop} [s : gG p q] (h : q) : p := s.go h
section
variable {next : St -> Prop} {Q : Exit -> St -> Prop} {i : Nat} {σ : St}
instance : gG (jT next Q .normal σ) (next σ) := ⟨fun h => h⟩
instance : gG (jT next Q (.exit i) σ) (Q (.exit i) σ) := ⟨fun h => h⟩
instance : gG (jT next Q .ret σ) (Q .ret σ) := ⟨fun h => h⟩
instance : gG (lO i Q (.exit i) σ) (Q .normal σ) := ⟨fun h => eD h⟩
instance : gG (lO i Q .normal σ) (Q .normal σ) := ⟨fun h => h⟩
instance : gG (lO i Q .ret σ) (Q .ret σ) := ⟨fun h => h⟩
instance : gG (rJ Q .normal σ) (Q .normal σ) := ⟨fun h => h⟩
instance : gG (rJ Q (.exit i) σ) (Q (.exit i) σ) := ⟨fun h => h⟩
instance : gG (rJ Q .ret σ) (Q .ret σ) := ⟨fun h => h⟩
end
class cN (p : Prop) (q : outParam Prop) : Prop where
 go : q -> p
instance (priority := low) stpN_nil (p : Prop) : cN p p := ⟨fun h => h⟩
instance oZ {p p' q : Prop} [s : gG p p'] [t : cN p' q] : cN p q := ⟨fun h => s.go (t.go h)⟩
theorem Et {P : Program} {cx : Cx} {Q : Exit -> St -> Prop} {σ : St} {q : Prop} [s : cN (Q .ret σ) q] (h : q) : Ca P cx .ret Q σ := J1 (s.go h)
theorem sK {Q : Exit -> St -> Prop} {i j : Nat} {σ : St} (h : Q (.exit j) σ) (hne : j ≠ i := by decide) : lO i Q (.exit j) σ := dI hne h
theorem Cf {P : Program} {cx : Cx} {id : Nat} {l : List Oper} {σ : St} {y : Code} {Q : Exit -> St -> Prop} (nb nb' : Nat) (B : ∀ k, nb <= k -> σ.U k = false)
  (h : Cs (Ce P cx []) l.toArray none nb (idx 0 l) [] σ (fun σ' => (∀ j, nb' <= j -> σ'.U j = false) -> jT (Ca P cx y Q) Q .normal σ')) (hn : Nat.ble (nb + 8 * l.length) nb' = true := by rfl) (hd : Zb cx.N l = true := by rfl) : Ca P cx (.seq (.region id l.toArray false) y) Q σ :=
 Af (Ak (Ce _ _ []) nb nb' B hn hd h)
section
variable {P : Program} {cx : Cx} {ops : Array Oper} {Rt : Option (List Nat)} {nb i : Nat} {l : List Oper} {lg : Yv} {σ : St} {Q : St -> Prop} {fz : List Nat}
theorem Fc {Q : Exit -> St -> Prop} {nb' : Nat} {q : Prop} [s : cN (Q .normal σ) q] (h : (∀ j, nb' <= j -> σ.U j = false) -> q) : Cs (Ce P cx fz) ops Rt nb (idx i []) lg σ (fun σ' => (∀ j, nb' <= j -> σ'.U j = false) -> Q .normal σ') := sG fun B => s.go (h B)
theorem Ei {dst : Option Tmp} {op : Op} {ty : TypeId} {pos : String} {af : Array Edge} {g : Option (Nat × Bool)} {ds : List (DV × Option LB)} {wr : List Nat} {e : Iz} (G : G9 ops σ ⟨dst, op, ty, pos, af, g⟩ = some true) (hds : Df σ (G5 op) op.operands.toList = some ds) (h : Eb P (nb + 8 * i) op ty ds wr e)
  (hrd : (bif G5 op then H2 (Ir op) ds else []) = []) (hok : Ih Rt i false (nb + 8 * i) [] wr lg = true) (k : Cs (Ce P cx fz) ops Rt nb (idx (i + 1) l) ((i, false, nb + 8 * i, [], wr) :: lg) (σ.app dst e) Q) (hz : zM fz (nb + 8 * i) = 0 := by rfl) (hap : Lf cx.np op wr = true := by rfl) :
  Cs (Ce P cx fz) ops Rt nb (idx i (⟨dst, op, ty, pos, af, g⟩ :: l)) lg σ Q := Ch (rd := []) G hds h hrd hok k hz hap
end
end Go.Proofs.YtopkgllcjbpdeaaDoor
namespace Go.Proofs.YtopkgllcjbpdeaaDoor
open Go.RowKit
theorem Qu.cut {cx : Cx} {σ σ' : St} {t k n e sz : Nat} {cs : List C} (hk : cx.np <= k) (hF : σ.F t = some (.part k 0 n)) (hL : σ.L k = some (.row e sz cs)) (hn : n * sz <= cs.length)
  (hF' : ∀ s d, σ'.F s = some d -> (d = .row k /\ s = t) \/ (σ.F s = some d /\ ¬ men d k)) (hL' : ∀ j lb, σ'.L j = some lb -> (j = k /\ lb = .row e sz (cs.take (n * sz))) \/ (j ≠ k /\ σ.L j = some lb /\ ¬ Lu lb k)) (B : ∀ j, σ'.U j = σ.U j) : Qu cx σ σ' := by
 rintro a w ⟨ρ, h⟩
 obtain ⟨N, us, q1, q0, q2⟩ := h.lo _ _ hL
 have hr := h.fr _ _ hF
 unfold Bw at hr
 obtain ⟨A, c, hv, hnc, hc, hA, hB⟩ := hr
 have hlen : n * sz <= us.length := by rw [<- q2.1]; exact hn
 have hblk : ∀ b, B1 (a.tmps.getD t undef) = some b -> B1 (ρ k) = some b := fun b hb => by
  rcases q1.2 with ⟨A', e, -⟩ | ⟨g', cap, cur, e, r1, -⟩
  ·obtain ⟨t1, t2⟩ := hB rfl _ _ _ e
   rw [hv, t2] at hb
   cases A <;> cases hb
  ·obtain ⟨t1, t2⟩ := hB rfl _ _ _ e
   rw [hv, t1] at hb
   rw [e, E8 r1, (Ds hb).1]
 have hown : w.rowOk e sz (a.tmps.getD t undef) n (us.take (n * sz)) := by
  refine ⟨by rw [List.length_take]; omega, ?_⟩
  rcases q1.2 with ⟨A', e, q3⟩ | ⟨g, cap, cur, e, r1, r2, r3, r4, r5, r6⟩
  ·obtain ⟨t1, t2⟩ := hB rfl _ _ _ e
   refine .inl ⟨A', by rw [hv, t1, t2]; congr 1; omega, by omega⟩
  ·obtain ⟨t1, t2⟩ := hB rfl _ _ _ e
   refine .inr ⟨g, cap, cur, by rw [hv, t1, t2], r1, r2, by omega, r4, r5, ?_⟩
   have hle : n * sz <= N * sz := by rw [<- q1.1]; exact hlen
   rw [<- r6, List.take_take, Nat.min_eq_left hle]
 let ρ' : Nat -> Value := fun j => if j = k then a.tmps.getD t undef else ρ j
 have hk' : ρ' k = a.tmps.getD t undef := if_pos rfl
 have ho : ∀ j, j ≠ k -> ρ' j = ρ j := fun j hj => if_neg hj
 have loc : ∀ j lb b, σ'.L j = some lb -> F9 ρ' (ρ' j) lb b -> ∃ lb', σ.L j = some lb' /\ F9 ρ (ρ j) lb' b := fun j lb b hj hb => by
  rcases hL' j lb hj with ⟨rfl, rfl⟩ | ⟨hne, h1, h2⟩
  ·rw [hk'] at hb; exact ⟨_, hL, hblk b hb⟩
  ·rw [ho j hne] at hb; exact ⟨_, h1, Mo (fun q hq => (ho q fun e => h2 (e ▸ hq)).symm) hb⟩
 have hI : ∀ b, G2 cx σ ρ w b -> G2 cx σ' ρ' w b /\ w.heap[b]? = w.heap[b]? := fun b hb => by
  refine ⟨⟨hb.1, fun hl => ?_, hb.2.2⟩, rfl⟩
  obtain ⟨j, lb, h1, h2⟩ := hl
  obtain ⟨lb', h3, h4⟩ := loc j lb b h1 h2
  exact hb.2.1 ⟨j, lb', h3, h4⟩
 refine ⟨ρ', ⟨⟨h.defers.1, fun d hd => (h.defers.2 d hd).imp fun D q => ⟨q.1, (hI D q.2.1).1, q.2.2⟩⟩, h.size, h.kept, fun s d hs => ?_, fun j lb hj => ?_, fun j j' lb lb' b h1 h2 h3 h4 => ?_, fun s d j hs hm => ?_, fun j lb hj => ?_, fun j hj => ?_, fun j lb b hj hp hb => ?_, h.glo⟩⟩
 ·rcases hF' s d hs with ⟨rfl, rfl⟩ | ⟨h1, h2⟩
  ·unfold Bw
   rw [hk']
   refine ⟨rfl, ?_⟩
   rw [hv]; rfl
  ·exact Bw.step hI d _ (fun j hj => ho j fun e => h2 (e ▸ hj)) (h.fr _ _ h1)
 ·rcases hL' j lb hj with ⟨rfl, rfl⟩ | ⟨hne, h1, h2⟩
  ·rw [hk']
   refine ⟨n, us.take (n * sz), hown, fun b hb => q0 b (hblk b hb), ?_⟩
   refine D6.keep_ (w := w) ⟨by rw [List.length_take, List.length_take, q2.1], fun j c u a b => ?_⟩ (fun b hb => rfl) fun b hb => (hI b hb).1
   rw [List.getElem?_take] at a b
   split at a
   ·rename_i hj
    rw [if_pos hj] at b
    exact q2.2 j c u a b
   ·cases a
  ·rw [ho j hne]
   exact (h.lo _ _ h1).step hI (fun j' hj' => ho j' fun e => h2 (e ▸ hj')) fun b _ => rfl
 ·obtain ⟨_, e1, e2⟩ := loc _ _ _ h1 h3
  obtain ⟨_, e3, e4⟩ := loc _ _ _ h2 h4
  exact h.sep _ _ _ _ _ e1 e3 e2 e4
 ·rw [B]
  rcases hF' s d hs with ⟨rfl, rfl⟩ | ⟨h1, h2⟩
  ·unfold men at hm
   subst hm
   exact (h.usedL _ _ hL).1
  ·exact h.usedF _ _ _ h1 hm
 ·rw [B]
  rcases hL' j lb hj with ⟨rfl, rfl⟩ | ⟨hne, h1, h2⟩
  ·exact ⟨(h.usedL _ _ hL).1, fun k' hm => hm.elim⟩
  ·exact ⟨(h.usedL _ _ h1).1, fun k' hm => by rw [B]; exact (h.usedL _ _ h1).2 k' hm⟩
 ·rw [B]
  exact ⟨(ho j (by omega)).trans (h.pin j hj).1, (h.pin j hj).2⟩
 ·obtain ⟨_, e1, e2⟩ := loc _ _ _ hj hb
  exact h.fresh _ _ _ e1 hp e2
end Go.Proofs.YtopkgllcjbpdeaaDoor
