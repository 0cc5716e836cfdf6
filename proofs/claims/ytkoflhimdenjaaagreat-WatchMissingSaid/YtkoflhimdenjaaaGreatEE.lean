import Derived.Test.YtkoflhimdenjaaaGreatED
import Derived.KernelRfl
import Derived.Test.YtkoflhimdenjaaaGreatPU
import Derived.Scope
set_option linter.unusedVariables false
set_option linter.unusedSimpArgs false
namespace Go.Proofs.YtkoflhimdenjaaaGreat
open Go.RowKit
section
variable {Q : Exit -> St -> Prop} {next : St -> Prop} {σ : St} {i j : Nat}
theorem oN (h : Q .normal σ) : vC i Q (.exit i) σ := by
 show (if i = i then _ else _)
 rw [if_pos rfl]
 exact h
theorem jL (hne : j ≠ i) (h : Q (.exit j) σ) : vC i Q (.exit j) σ := by
 show (if j = i then _ else _)
 rw [if_neg hne]
 exact h
end
theorem sD {P : Program} {t ty : TypeId} {s : ByteArray} (h : P.underlying t = some .string) : ∀ w, ∀ cs, (builtin .len #[t] ty cs #[.string s]).run P w = .ok (.value (.int .i64 s.size)) w := fun w cs => by
 simp [builtin, Builtin.len_, run_underlying h, goInt]
section
variable {P : Program} {t : TypeId} {X Y : Operand}
end
section
variable {P : Program} {t : TypeId} {X Y : Operand} {k : IntKind} {x y : Int}
end
section
variable {P : Program} {t : TypeId} {X Y : Operand} {a b : ByteArray}
end
theorem Ei {θ : List (Nat × Nat)} {j : Nat} (h : (θ.all fun q => !Nat.beq q.2 j) = true) : ∀ k, Ev θ k ≠ some j := fun k hk => by
 have := List.all_eq_true.1 h _ (Hn hk)
 simp at this
theorem Bw {P : Program} {cx : Cx} {x y : Code} {Q : Exit -> St -> Prop} {σ : St} {ι : Type} (mid : ι -> St) (ok : ι -> Prop) (hx : B4 P cx x (lK (fun σ' => ∃ i, ok i /\ Ns cx σ' (mid i)) Q) σ) (hy : ∀ i, ok i -> B4 P cx y Q (mid i)) : B4 P cx (.seq x y) Q σ := by
 refine Ak (mJ ?_ hx)
 intro e σ' h
 cases e with
 | normal =>
  obtain ⟨i, h1, h2⟩ := h
  exact Ec h2 (hy i h1)
 | _ => exact h
end Go.Proofs.YtkoflhimdenjaaaGreat
namespace Go.Proofs.YtkoflhimdenjaaaGreat
open Go.RowKit
mutual
def mH (j : Nat) : DV -> Bool
 | .part k _ _ => !Nat.beq k j
 | .ptr k _ => !Nat.beq k j
 | .agg ds => Yv j ds
 | .tup ds => Yv j ds
 | .clo _ _ ds => Yv j ds
 | .val _ => true
 | .sl _ _ => true
 | .slc _ _ => true
 | .mp _ => true
 | .elt _ => true
 | .row _ => true
def Yv (j : Nat) : List DV -> Bool
 | [] => true
 | d :: ds => mH j d && Yv j ds
end
mutual
def Kq (j sz : Nat) (cs : List C) : DV -> DV
 | .row k => bif Nat.beq k j then .sl sz cs else .row k
 | .agg ds => .agg (Oe j sz cs ds)
 | .tup ds => .tup (Oe j sz cs ds)
 | .clo f n ds => .clo f n (Oe j sz cs ds)
 | .val v => .val v
 | .sl s c => .sl s c
 | .slc s c => .slc s c
 | .mp l => .mp l
 | .elt c => .elt c
 | .part k o n => .part k o n
 | .ptr k i => .ptr k i
def Oe (j sz : Nat) (cs : List C) : List DV -> List DV
 | [] => []
 | d :: ds => Kq j sz cs d :: Oe j sz cs ds
end
def St.frz (σ : St) (j sz : Nat) (cs : List C) : St where
 F := fun t => match σ.F t with | some d => bif mH j d then some (Kq j sz cs d) else none | none => none
 L := fun k => bif Nat.beq k j then none else match σ.L k with | some (.box ds ty) => (bif Yv j ds then some (.box (Oe j sz cs ds) ty) else none) | some (.row e s c) => some (.row e s c) | _ => none
 U := σ.U
theorem Rx {a b : Nat} (h : Nat.beq a b = false) : a ≠ b := fun e => by
 subst e
 rw [Nat.beq_refl] at h; cases h
section
variable {σ : St} {j e sz : Nat} {cs : List C}
abbrev lP (j : Nat) (k : Nat) : Option Nat := if k = j then none else some k
mutual
theorem Cv.frzD (h : σ.L j = some (.row e sz cs)) : ∀ d, mH j d = true -> Cv σ (lP j) d (Go.Proofs.YtkoflhimdenjaaaGreat.Kq j sz cs d)
 | .val v, _ => by unfold Go.Proofs.YtkoflhimdenjaaaGreat.Kq; exact .val v
 | .sl _ _, _ => by unfold Go.Proofs.YtkoflhimdenjaaaGreat.Kq; exact .sl _ _
 | .slc _ _, _ => by unfold Go.Proofs.YtkoflhimdenjaaaGreat.Kq; exact .slcc _ _
 | .mp _, _ => by unfold Go.Proofs.YtkoflhimdenjaaaGreat.Kq; exact .mp _
 | .elt _, _ => by unfold Go.Proofs.YtkoflhimdenjaaaGreat.Kq; exact .elt _
 | .row k, _ => by
  unfold Go.Proofs.YtkoflhimdenjaaaGreat.Kq
  cases hb : Nat.beq k j with
  | true =>
   have := Nat.eq_of_beq_eq_true hb
   subst this
   refine .frz h fun k' hk' => ?_
   unfold lP at hk'
   split at hk'
   ·cases hk'
   ·rename_i hne
    injection hk' with hk'
    exact hne hk'
  | false => exact .row (if_neg (Rx hb))
 | .part k _ _, hn => by
  unfold mH at hn
  unfold Go.Proofs.YtkoflhimdenjaaaGreat.Kq
  exact .part (if_neg (Rx (by simpa using hn)))
 | .ptr k _, hn => by
  unfold mH at hn
  unfold Go.Proofs.YtkoflhimdenjaaaGreat.Kq
  exact .ptr (if_neg (Rx (by simpa using hn)))
 | .agg ds, hn => by
  unfold mH at hn
  unfold Go.Proofs.YtkoflhimdenjaaaGreat.Kq
  exact .agg (Qh.frzDs h ds hn)
 | .tup ds, hn => by
  unfold mH at hn
  unfold Go.Proofs.YtkoflhimdenjaaaGreat.Kq
  exact .tup (Qh.frzDs h ds hn)
 | .clo f n ds, hn => by
  unfold mH at hn
  unfold Go.Proofs.YtkoflhimdenjaaaGreat.Kq
  exact .clo f n (Qh.frzDs h ds hn)
theorem Qh.frzDs (h : σ.L j = some (.row e sz cs)) : ∀ ds, Yv j ds = true -> Qh σ (lP j) ds (Go.Proofs.YtkoflhimdenjaaaGreat.Oe j sz cs ds)
 | [], _ => by unfold Go.Proofs.YtkoflhimdenjaaaGreat.Oe; exact .nil
 | d :: ds, hn => by
  unfold Yv at hn
  simp only [Bool.and_eq_true] at hn
  unfold Go.Proofs.YtkoflhimdenjaaaGreat.Oe
  exact .cons (Cv.frzD h d hn.1) (Qh.frzDs h ds hn.2)
end
mutual
theorem jC : ∀ (d : DV) (k : Nat), men (Kq j sz cs d) k -> men d k
 | .val _, k, h => by unfold Kq men at h; exact h.elim
 | .sl _ _, k, h => by unfold Kq men at h; exact h.elim
 | .slc _ _, k, h => by unfold Kq men at h; exact h.elim
 | .mp _, k, h => by unfold Kq men at h; exact h.elim
 | .elt _, k, h => by unfold Kq men at h; exact h.elim
 | .row i, k, h => by
  unfold Kq at h
  cases hb : Nat.beq i j with
  | true => rw [hb] at h; simp only [cond_true] at h; unfold men at h; exact h.elim
  | false => rw [hb] at h; exact h
 | .part _ _ _, k, h => by unfold Kq at h; exact h
 | .ptr _ _, k, h => by unfold Kq at h; exact h
 | .agg ds, k, h => by unfold Kq men at h; unfold men; exact Q2 ds k h
 | .tup ds, k, h => by unfold Kq men at h; unfold men; exact Q2 ds k h
 | .clo _ _ ds, k, h => by unfold Kq men at h; unfold men; exact Q2 ds k h
theorem Q2 : ∀ (ds : List DV) (k : Nat), Es (Oe j sz cs ds) k -> Es ds k
 | [], k, h => by unfold Oe Es at h; exact h.elim
 | d :: ds, k, h => by
  unfold Oe Es at h
  unfold Es
  exact h.imp (jC d k) (Q2 ds k)
end
theorem uW {t : Nat} {d' : DV} (h : (σ.frz j sz cs).F t = some d') : ∃ d, σ.F t = some d /\ mH j d = true /\ d' = Kq j sz cs d := by
 have h' : (match σ.F t with | some d => bif mH j d then some (Kq j sz cs d) else none | none => none) = some d' := h
 cases hF : σ.F t with
 | none => rw [hF] at h'; cases h'
 | some d =>
  rw [hF] at h'
  cases hn : mH j d with
  | false => simp only [hn, cond_false] at h'; cases h'
  | true => simp only [hn, cond_true] at h'; injection h' with h'; exact ⟨d, rfl, hn, h'.symm⟩
theorem uS {k : Nat} {lb' : LB} (h : (σ.frz j sz cs).L k = some lb') : k ≠ j /\ ((∃ ds ty, σ.L k = some (.box ds ty) /\ Yv j ds = true /\ lb' = .box (Oe j sz cs ds) ty) \/ ∃ e s c, σ.L k = some (.row e s c) /\ lb' = .row e s c) := by
 have h' : (bif Nat.beq k j then none else match σ.L k with | some (.box ds ty) => (bif Yv j ds then some (LB.box (Oe j sz cs ds) ty) else none) | some (.row e s c) => some (.row e s c) | _ => none) = some lb' := h
 cases hb : Nat.beq k j with
 | true => rw [hb] at h'; cases h'
 | false =>
  refine ⟨Rx hb, ?_⟩
  rw [hb] at h'
  simp only [cond_false] at h'
  cases hL : σ.L k with
  | none => rw [hL] at h'; cases h'
  | some lb =>
   rw [hL] at h'
   cases lb with
   | row e s c => simp only [] at h'; injection h' with h'; exact .inr ⟨e, s, c, rfl, h'.symm⟩
   | map l => cases h'
   | mit k' n s => cases h'
   | vec ds e => cases h'
   | box ds ty =>
    simp only [] at h'
    cases hn : Yv j ds with
    | false => rw [hn] at h'; cases h'
    | true => rw [hn] at h'; injection h' with h'; exact .inl ⟨ds, ty, rfl, hn, h'.symm⟩
theorem Ns.frz {cx : Cx} (h : σ.L j = some (.row e sz cs)) (hj : Nat.ble cx.np j = true) : Ns cx σ (σ.frz j sz cs) := by
 rintro a w ⟨ρ, ha⟩
 have hj' : cx.np <= j := Nat.le_of_ble_eq_true hj
 refine ⟨_, (ha.ren (σ' := σ.frz j sz cs) (lP j) (fun t d' hd => ?_) (fun k lb' hl => ?_) (fun k k' i h1 h2 => ?_) (fun k hk => ⟨if_neg (by omega), (ha.pin k hk).2⟩) (fun t d k hd hm => ?_) (fun k lb hl => ?_)).1⟩
 ·obtain ⟨d, h1, h2, rfl⟩ := uW hd
  exact ⟨d, h1, Cv.frzD h d h2⟩
 ·obtain ⟨hne, h1⟩ := uS hl
  refine .inl ?_
  rcases h1 with ⟨ds, ty, h1, h2, rfl⟩ | ⟨e', s, c, h1, rfl⟩
  ·exact ⟨k, _, if_neg hne, h1, rfl, Qh.frzDs h ds h2⟩
  ·exact ⟨k, _, if_neg hne, h1, rfl, rfl, rfl⟩
 ·unfold lP at h1 h2
  split at h1
  ·cases h1
  ·split at h2
   ·cases h2
   ·injection h1 with h1
    injection h2 with h2
    omega
 ·obtain ⟨d', h1, h2, rfl⟩ := uW hd
  exact ha.usedF t d' k h1 (jC d' k hm)
 ·obtain ⟨hne, h1⟩ := uS hl
  rcases h1 with ⟨ds, ty, h1, h2, rfl⟩ | ⟨e', s, c, h1, rfl⟩
  ·exact ⟨(ha.usedL k _ h1).1, fun k' hk' => (ha.usedL k _ h1).2 k' (Q2 ds k' hk')⟩
  ·exact ⟨(ha.usedL k _ h1).1, fun k' hk' => hk'.elim⟩
end
section
variable {P : Program} {cx : Cx} {ops : Array Oper} {Q : Exit -> St -> Prop} {l : List Oper} {σ σ' : St}
def bP (P : Program) (cx : Cx) (ops : Array Oper) (Q : Exit -> St -> Prop) (l : List Oper) (σ : St) : Prop := ∀ a w, Jm cx σ a w -> wpList P ops (Qf cx Q) l a w
theorem bP.sub (h : Ns cx σ σ') (k : bP P cx ops Q l σ') : bP P cx ops Q l σ := fun a w ha => k a w (h a w ha)
theorem bP.fin (h : Q .normal σ) : bP P cx ops Q [] σ := fun a w ha => ⟨σ, h, ha⟩
variable {S : qO P cx} {nb nb' : Nat}
theorem U7 {l2 : List Oper} : ∀ (l : List Oper) (k : Nat) (lg : eN) (σ : St) (a : Act) (w : World), Chain S ops none nb (Dr k l) lg σ (fun σ' => (∀ j, nb' <= j -> σ'.U j = false) -> bP P cx ops Q l2 σ') -> Tr nb (Dr k l) σ -> mP cx (Dr k l) -> (∀ j, nb' <= j -> σ.U j = false) -> nb + 8 * (k + l.length) <= nb' -> Jm cx σ a w -> wpList P ops (Qf cx Q) (l ++ l2) a w
 | [], k, lg, σ, a, w, h, _, _, B, _, ha => h B a w ha
 | o :: l, k, lg, σ, a, w, h, hf, hd, B, hn, ⟨ρ, ha⟩ => by
  have hf0 := hf (k, o) (by simp [Dr])
  have hd0 := hd (k, o) (by simp [Dr])
  have hf1 : Tr nb (Dr (k + 1) l) σ := fun q hq => hf q (by simp [Dr, hq])
  have hd1 : mP cx (Dr (k + 1) l) := fun q hq => hd q (by simp [Dr, hq])
  have hne : ∀ q ∈ Dr (k + 1) l, q.1 ≠ k := fun q hq => by have := (Rl hq).1; omega
  have hn' : nb + 8 * (k + 1 + l.length) <= nb' := by simp at hn; omega
  have hUn : ∀ {e : K2} {wr : List Nat} {rd : List Nat}, (∀ j, e.l j ≠ none -> j ∈ wr \/ (nb + 8 * k <= j /\ j < nb + 8 * k + 8)) -> (∀ j, j ∈ wr -> j ∈ rd) -> (∀ j, j ∈ rd -> σ.U j = true) -> ∀ j, nb' <= j -> (σ.app o.dst e).U j = false := fun {e wr rd} hk hs hu j hj => by
   cases hc : (σ.app o.dst e).U j with
   | false => rfl
   | true =>
    rcases iT hc with h1 | h1
    ·rw [B j hj] at h1; cases h1
    ·rcases hk j h1 with h2 | h2
     ·exact absurd (hu j (hs j h2)) (by rw [B j hj]; simp)
     ·simp at hn; omega
  show wpList P ops (Qf cx Q) (o :: (l ++ l2)) a w
  unfold wpList
  rcases h with ⟨rd, wr, e, h1, -, h3⟩ | ⟨rd, wr, E, h1, -, -, h3⟩
  ·have hs := h1.sound ha hf0 hd0
   have := hs (wpList P ops (Qf cx Q) (l ++ l2)) (Qf cx Q) fun a' w' ha' => U7 l (k + 1) _ _ a' w' h3 (hf1.next h1.key.1 (fun j hj => h1.used ha j (h1.key.2 j hj)) hne) hd1 (hUn h1.key.1 h1.key.2 (h1.used ha)) hn' ha'
   split
   ·rename_i hw
    rw [if_pos hw] at this
    exact .inl this
   ·rename_i hw
    rw [if_neg hw] at this
    exact this
  ·have := h1.sound ha hf0 hd0 (wpList P ops (Qf cx Q) (l ++ l2)) (Qf cx Q) fun e a' w' he ha' => U7 l (k + 1) _ _ a' w' (h3 e he) (hf1.next (h1.key.1 e he) (fun j hj => h1.used ha j (h1.key.2 j hj)) hne) hd1 (hUn (h1.key.1 e he) h1.key.2 (h1.used ha)) hn' ha'
   split
   ·rename_i hw
    rw [if_pos hw] at this
    exact .inl this
   ·rename_i hw
    rw [if_neg hw] at this
    exact this
theorem bP.chain (S : qO P cx) (m nb nb' : Nat) (B : ∀ k, nb <= k -> σ.U k = false) (hn : Nat.ble (nb + 8 * (l.take m).length) nb' = true) (hd : eY cx.N (l.take m) = true)
  (h : Chain S ops none nb (Dr 0 (l.take m)) [] σ (fun σ' => (∀ j, nb' <= j -> σ'.U j = false) -> bP P cx ops Q (l.drop m) σ')) : bP P cx ops Q l σ := by
 intro a w ha
 have hn' : nb + 8 * (l.take m).length <= nb' := Nat.le_of_ble_eq_true hn
 have := U7 (l2 := l.drop m) (l.take m) 0 [] σ a w h (fun q hq j hj => B _ (by omega)) (Uz hd) (fun j hj => B j (by omega)) (by simpa using hn') ha
 rwa [List.take_append_drop] at this
end
section
variable {P : Program} {f : FuncId} {args : List DV}
theorem Fn.plain {v : Value} {R : DV -> List LB -> Prop} {vs : List Value} {w : World} (h : Fn P f 0 args [] R) (hR : ∀ r b, R r b -> r = .val v) (ρ : Nat -> Value) (I : Nat -> Prop) (hI : ∀ b, I b -> b < w.heap.size) (hr : Bx ρ I w args vs) : Calls P f vs.toArray w fun e w' => e = .returned v /\ Wl w w' := by
 refine (h.2.2 ρ I w vs (fun b hb => ⟨hI b hb, fun k hk => by simp at hk⟩) hr (fun k lb h => by simp at h) (fun k k' b hk => by simp at hk)).mono ?_
 rintro e w' ⟨u, r, b, rfl, h1, h2⟩
 obtain ⟨-, ⟨o1, o2, o3, o4⟩, hk, ⟨ρ', J, -, -, hrep, -⟩, -⟩ := h2
 rw [hR r b h1] at hrep
 unfold Cf at hrep
 rw [hrep.1]
 exact ⟨rfl, o1, o2, o3, o4, fun b hb => hk b hb fun k hk => by simp at hk⟩
end
end Go.Proofs.YtkoflhimdenjaaaGreat
namespace Go.Proofs.YtkoflhimdenjaaaGreat
open Go.RowKit
def noG (Q : Exit -> St -> Prop) : Exit -> St -> Prop
 | .normal, σ => Q .normal σ
 | .exit i, σ => Q (.exit i) σ
 | .goto _, _ => False
 | .ret, σ => Q .ret σ
 | .panic c, σ => Q (.panic c) σ
 | .outgrown, σ => Q .outgrown σ
def Aq {α : Type} (f : α -> List C) (l : List α) : List C := l.flatMap f
def eI (x : Int) : List C := [.int .i64 x]
def eK (k : IntKind) (x : Int) : List C := [.int k x]
def e8 (x : UInt8) : List C := [.int .u8 (x.toNat : Int)]
def eS (x : ByteArray) : List C := [.str x]
def eB (x : Bool) : List C := [.bool x]
def eL {α : Type} (sz : Nat) (f : α -> List C) (l : List α) : List C := [.sl sz (Aq f l)]
theorem Xu (x : Int) : (eI x).length = 1 := rfl
theorem aAn (k : IntKind) (x : Int) : (eK k x).length = 1 := rfl
theorem Jx (x : UInt8) : (e8 x).length = 1 := rfl
theorem aM (x : ByteArray) : (eS x).length = 1 := rfl
theorem yH (x : Bool) : (eB x).length = 1 := rfl
theorem qD {α : Type} (sz : Nat) (f : α -> List C) (l : List α) : (eL sz f l).length = 1 := rfl
section
variable {α : Type} {f : α -> List C} {sz : Nat}
theorem Gv (hf : ∀ x, (f x).length = sz) : ∀ (l : List α), (Aq f l).length = l.length * sz
 | [] => by simp [Aq]
 | x :: l => by
  have := Gv hf l
  unfold Aq at this ⊢
  rw [List.flatMap_cons, List.length_append, hf, this, List.length_cons, Nat.add_mul, Nat.one_mul, Nat.add_comm]
theorem J5 (l m : List α) : Aq f (l ++ m) = Aq f l ++ Aq f m := by unfold Aq; rw [List.flatMap_append]
theorem Pb {l : List α} {j : Nat} {x : α} (hx : l[j]? = some x) : Aq f l = Aq f (l.take j) ++ (f x ++ Aq f (l.drop (j + 1))) := by
 have hj := (List.getElem?_eq_some_iff.1 hx).1
 have hxe := (List.getElem?_eq_some_iff.1 hx).2
 have e1 : l = l.take j ++ (x :: l.drop (j + 1)) := by
  rw [<- hxe, List.getElem_cons_drop, List.take_append_drop]
 rw [show Aq f l = Aq f (l.take j ++ (x :: l.drop (j + 1))) from congrArg _ e1, J5]
 rfl
theorem Mc (hf : ∀ x, (f x).length = sz) {l : List α} {j : Nat} (hj : j <= l.length) : (Aq f (l.take j)).length = j * sz := by
 rw [Gv hf, List.length_take, Nat.min_eq_left hj]
theorem aJ (hf : ∀ x, (f x).length = sz) {l : List α} {j : Nat} {x : α} (hx : l[j]? = some x) : j * sz + sz <= (Aq f l).length := by
 have hj := (List.getElem?_eq_some_iff.1 hx).1
 rw [Gv hf]
 have : (j + 1) * sz <= l.length * sz := Nat.mul_le_mul_right _ hj
 rw [Nat.add_mul, Nat.one_mul] at this
 exact this
theorem fC (hf : ∀ x, (f x).length = sz) {l : List α} {j o : Nat} {x : α} (hx : l[j]? = some x) (ho : o < sz) {a : Nat} (ha : a = j * sz + o) : a < (Aq f l).length := by
 have := aJ hf hx
 omega
theorem W1 (hf : ∀ x, (f x).length = sz) {l : List α} {j o : Nat} {x : α} (hx : l[j]? = some x) (ho : o <= sz) : (Aq f l).drop (j * sz + o) = (f x).drop o ++ Aq f (l.drop (j + 1)) := by
 have hj := (List.getElem?_eq_some_iff.1 hx).1
 have ht := Mc hf (l := l) (j := j) (by omega)
 rw [Pb hx, <- ht, <- List.drop_drop, List.drop_left, List.drop_append_of_le_length (by rw [hf]; exact ho)]
theorem Is (hf : ∀ x, (f x).length = sz) {l : List α} {j o : Nat} {x : α} {c : C} (hx : l[j]? = some x) (hc : (f x)[o]? = some c) {a : Nat} (ha : a = j * sz + o) : (Aq f l)[a]? = some c := by
 subst ha
 have ho : o < sz := by rw [<- hf x]; exact (List.getElem?_eq_some_iff.1 hc).1
 have e1 := W1 hf hx (Nat.le_of_lt ho)
 have e2 : (Aq f l)[j * sz + o]? = ((Aq f l).drop (j * sz + o))[0]? := by rw [List.getElem?_drop]; rfl
 rw [e2, e1, List.getElem?_append_left (by rw [List.length_drop, hf]; omega), List.getElem?_drop]
 exact hc
theorem Ie (hf : ∀ x, (f x).length = sz) {l : List α} {j o m : Nat} {x : α} {cs : List C} (hx : l[j]? = some x) (hs : ((f x).drop o).take m = cs) (ho : o + m <= sz) {a : Nat} (ha : a = j * sz + o) : ((Aq f l).drop a).take m = cs := by
 subst ha
 rw [W1 hf hx (by omega), List.take_append_of_le_length (by rw [List.length_drop, hf]; omega)]
 exact hs
theorem Ek (hf : ∀ x, (f x).length = sz) {l : List α} {j o m : Nat} {x : α} (hx : l[j]? = some x) (ho : o + m <= sz) {a : Nat} (ha : a = j * sz + o) : a + m <= (Aq f l).length := by
 have := aJ hf hx
 omega
theorem Su (hf : ∀ x, (f x).length = sz) {l : List α} {j o : Nat} {x x' : α} {cs : List C} (hx : l[j]? = some x) (ho : o + cs.length <= sz) (hs : Cy (f x) o cs = f x') {a : Nat} (ha : a = j * sz + o) : Cy (Aq f l) a cs = Aq f (Cd l j x') := by
 subst ha
 have hj := (List.getElem?_eq_some_iff.1 hx).1
 have ht := Mc hf (l := l) (j := j) (by omega)
 have hset : Aq f (Cd l j x') = Aq f (l.take j) ++ (f x' ++ Aq f (l.drop (j + 1))) := by
  have : (Cd l j x')[j]? = some x' := by unfold Cd; rw [List.getElem?_set_self hj]
  rw [Pb this]
  unfold Cd
  rw [List.take_set_of_le (Nat.le_refl _), List.drop_set_of_lt (by omega)]
 rw [hset, <- hs]
 unfold Cy
 have e1 : (Aq f l).take (j * sz + o) = Aq f (l.take j) ++ (f x).take o := by
  rw [Pb hx, List.take_append, ht, Nat.add_sub_cancel_left, List.take_of_length_le (by rw [ht]; omega)]
  congr 1
  rw [List.take_append_of_le_length (by rw [hf]; omega)]
 have e2 : (Aq f l).drop (j * sz + o + cs.length) = (f x).drop (o + cs.length) ++ Aq f (l.drop (j + 1)) := by
  rw [Nat.add_assoc, W1 hf hx ho]
 rw [e1, e2]
 simp only [List.append_assoc]
theorem iS (hf : ∀ x, (f x).length = sz) (l : List α) (i j : Nat) (hij : i <= j) (hj : j <= l.length) : ((Aq f l).drop (i * sz)).take ((j - i) * sz) = Aq f ((l.drop i).take (j - i)) := by
 have e0 : Aq f l = Aq f (l.take i) ++ Aq f (l.drop i) := by rw [<- J5, List.take_append_drop]
 have e1 : Aq f (l.drop i) = Aq f ((l.drop i).take (j - i)) ++ Aq f ((l.drop i).drop (j - i)) := by rw [<- J5, List.take_append_drop]
 rw [e0]
 have ht := Mc hf (l := l) (j := i) (by omega)
 have hd : ((Aq f (l.take i)) ++ Aq f (l.drop i)).drop (i * sz) = Aq f (l.drop i) := by rw [<- ht, List.drop_left]
 rw [hd, e1]
 have ht2 := Mc hf (l := l.drop i) (j := j - i) (by rw [List.length_drop]; omega)
 rw [<- ht2, List.take_left]
end
theorem aC7 (l : List UInt8) : Aq e8 l = Io l := by
 induction l with
 | nil => rfl
 | cons x l ih =>
  show e8 x ++ Aq e8 l = _
  rw [ih]
  rfl
section
variable {P : Program} {tk : Nat} {t ty yt : TypeId} {X Y : Operand} {b1 b2 : Option LB} {k : IntKind} {x y : Int}
theorem aB1 : Ex P tk (.binOp .lss t X Y yt) ty [(.val (.int k x), b1), (.val (.int k y), b2)] [] (v0 (.val (.bool (decide (x < y))))) := .binOp (fun _ _ => rfl) wS
theorem aC1 : Ex P tk (.binOp .leq t X Y yt) ty [(.val (.int k x), b1), (.val (.int k y), b2)] [] (v0 (.val (.bool (decide (x <= y))))) := .binOp (fun _ _ => rfl) wD
theorem aA0 : Ex P tk (.binOp .gtr t X Y yt) ty [(.val (.int k x), b1), (.val (.int k y), b2)] [] (v0 (.val (.bool (decide (y < x))))) := .binOp (fun _ _ => rfl) xZ
theorem aCc : Ex P tk (.binOp .geq t X Y yt) ty [(.val (.int k x), b1), (.val (.int k y), b2)] [] (v0 (.val (.bool (decide (y <= x))))) := .binOp (fun _ _ => rfl) xI
theorem aB6 : Ex P tk (.binOp .eql t X Y yt) ty [(.val (.int k x), b1), (.val (.int k y), b2)] [] (v0 (.val (.bool (decide (x = y))))) := .binOp (fun _ _ => rfl) zH
theorem aA4 : Ex P tk (.binOp .neq t X Y yt) ty [(.val (.int k x), b1), (.val (.int k y), b2)] [] (v0 (.val (.bool (!decide (x = y))))) := .binOp (fun _ _ => rfl) (fun w => by rw [zU w, decide_not])
theorem Zp (x : Int) : IntKind.i64.wrap x = W x := by rw [IntKind.wrap_i64]; unfold W; omega
theorem okW (x : Int) : D0 (.int .i64 (W x)) = true := Hh.2 (Oi (iB x))
theorem aAv (x : Int) : IntKind.u8.wrap x = ((u8 x).toNat : Int) := by rw [IntKind.wrap_u8, dK]
theorem ok8 (x : UInt8) : D0 (.int .u8 (x.toNat : Int)) = true := Hh.2 (dA ⟨by omega, by have := x.toNat_lt; omega⟩)
theorem vH : Ex P tk (.binOp .add t X Y yt) ty [(.val (.int .i64 x), b1), (.val (.int .i64 y), b2)] [] (v0 (.val (.int .i64 (W (x + y))))) := .binOp (fun _ _ => okW _) (fun w => by rw [rF w, Zp])
theorem aDa : Ex P tk (.binOp .sub t X Y yt) ty [(.val (.int .i64 x), b1), (.val (.int .i64 y), b2)] [] (v0 (.val (.int .i64 (W (x - y))))) := .binOp (fun _ _ => okW _) (fun w => by rw [iU w, Zp])
theorem aCf : Ex P tk (.binOp .mul t X Y yt) ty [(.val (.int .i64 x), b1), (.val (.int .i64 y), b2)] [] (v0 (.val (.int .i64 (W (x * y))))) := .binOp (fun _ _ => okW _) (fun w => by rw [iV w, Zp])
theorem oV (x y : Int) : (x.tmod y).natAbs <= x.natAbs := by
 rw [Int.natAbs_tmod]
 exact Nat.mod_le _ _
theorem fG {x y : Int} (h : -9223372036854775808 <= x /\ x <= 9223372036854775807) : -9223372036854775808 <= x.tmod y /\ x.tmod y <= 9223372036854775807 := by
 have h0 := oV x y
 rcases Int.le_total 0 x with hx | hx
 ·have h1 := Int.tmod_nonneg y hx
  omega
 ·have e : x.tmod y = -((-x).tmod y) := by rw [Int.neg_tmod]; omega
  have h1 := Int.tmod_nonneg y (show 0 <= -x by omega)
  omega
theorem rL {n : Int} (h : D0 (.int .i64 n) = true) : -9223372036854775808 <= n /\ n <= 9223372036854775807 := by
 have := Hh.1 h
 have h1 : IntKind.i64.min = -9223372036854775808 := by decide
 have h2 : IntKind.i64.max = 9223372036854775807 := by decide
 rw [h1, h2] at this
 exact this
theorem Y5 {z : Int} (h : R4 x y = some z) : Ex P tk (.binOp .rem t X Y yt) ty [(.val (.int .i64 x), b1), (.val (.int .i64 y), b2)] [] (v0 (.val (.int .i64 z))) := by
 obtain ⟨hy, rfl⟩ := kE h
 exact .binOp (fun h _ => Hh.2 (Oi (fG (rL h)))) (yX hy)
theorem Q3 {z : Int} (h : Lg x y = some z) : Ex P tk (.binOp .quo t X Y yt) ty [(.val (.int .i64 x), b1), (.val (.int .i64 y), b2)] [] (v0 (.val (.int .i64 z))) := by
 obtain ⟨hy, rfl⟩ := jI h
 exact .binOp (fun _ _ => okW _) (fun w => by rw [yQ hy w, Zp])
theorem Mr {z : Int} (h : W (x + y) = z) : Ex P tk (.binOp .add t X Y yt) ty [(.val (.int .i64 x), b1), (.val (.int .i64 y), b2)] [] (v0 (.val (.int .i64 z))) := h ▸ vH
theorem aA1 {b : Bool} : Ex P tk (.unOp .not t X) ty [(.val (.bool b), b1)] [] (v0 (.val (.bool (!b)))) := .unOp (fun _ => rfl) vP
theorem mX {a b : Bool} (ht : P.underlying t = some .bool) : Ex P tk (.binOp .neq t X Y yt) ty [(.val (.bool a), b1), (.val (.bool b), b2)] [] (v0 (.val (.bool (!decide (a = b))))) := .binOp (fun _ _ => rfl) (fun w => by cases a <;> cases b <;> simp [eqGuard, binOp, Op.equal, Op.maxDepth, run_equalIn_bool', ht])
theorem yO {a b : ByteArray} : Ex P tk (.binOp .eql t X Y yt) ty [(.val (.string a), b1), (.val (.string b), b2)] [] (v0 (.val (.bool (decide (a = b))))) := .binOp (fun _ _ => rfl) rX
theorem yP {a b : ByteArray} : Ex P tk (.binOp .neq t X Y yt) ty [(.val (.string a), b1), (.val (.string b), b2)] [] (v0 (.val (.bool (!decide (a = b))))) := .binOp (fun _ _ => rfl) (fun w => by rw [tG w, decide_not])
theorem lX : ∀ (a b : List UInt8), Op.bytesLess a b = Lu a b
 | _, [] => by cases ‹List UInt8› <;> rfl
 | [], _ :: _ => rfl
 | a :: x, b :: y => by unfold Op.bytesLess Lu; rw [lX x y]
theorem K1 {src dst : TypeId} (hs : P.underlying src = some (.int k)) (hd : P.underlying dst = some (.int .u8)) : Ex P tk (.convert src dst X) ty [(.val (.int k x), b1)] [] (v0 (.val (.int .u8 ((u8 x).toNat : Int)))) :=
 .conv (by unfold iK; rw [hs]) (by unfold iK; rw [hd]) (fun _ => ok8 _) (fun w => by rw [bQ (by rw [hs]; rfl) hd w, aAv])
theorem Xp {src dst : TypeId} (hs : P.underlying src = some (.int k)) (hd : P.underlying dst = some (.int .i64)) : Ex P tk (.convert src dst X) ty [(.val (.int k x), b1)] [] (v0 (.val (.int .i64 (W x)))) :=
 .conv (by unfold iK; rw [hs]) (by unfold iK; rw [hd]) (fun _ => okW _) (fun w => by rw [bQ (by rw [hs]; rfl) hd w, Zp])
theorem lG {src dst : TypeId} {u : UInt8} (hs : P.underlying src = some (.int .u8)) (hd : P.underlying dst = some (.int .i64)) : Ex P tk (.convert src dst X) ty [(.val (.int .u8 (u.toNat : Int)), b1)] [] (v0 (.val (.int .i64 (u.toNat : Int)))) :=
 .conv (by unfold iK; rw [hs]) (by unfold iK; rw [hd]) (fun _ => Hh.2 (Oi ⟨by omega, by have := u.toNat_lt; omega⟩)) (fun w => by
  have := u.toNat_lt
  rw [bQ (by rw [hs]; rfl) hd w, Zp, Eh (by omega)])
theorem wO {ts : Array TypeId} : ∀ w, ∀ cs, (builtin .max ts ty cs #[.int k x, .int k y]).run P w = .ok (.value (.int k (max x y))) w := fun w cs => by
 simp [builtin, Builtin.max_, Builtin.max2, go_sem]
 split <;> omega
theorem aB9 {ts : Array TypeId} : Ex P tk (.call ⟨.builtin .max, #[X, Y], ts⟩) ty [(.val (.int k x), b1), (.val (.int k y), b2)] [] (v0 (.val (.int k (max x y)))) :=
 .callV2 (vx := .int k x) (vy := .int k y) (v := .int k (max x y)) (by decide) (fun h h' => by
  rcases Int.le_total x y with hxy | hxy
  ·rw [Int.max_eq_right hxy]; exact h'
  ·rw [Int.max_eq_left hxy]; exact h) wO
theorem sZ {Z : Operand} {c : Bool} {d1 d2 : DV} {b3 : Option LB} (h : c = true) : Ex P tk (.pick X Y Z) ty [(.val (.bool c), b1), (d1, b2), (d2, b3)] [] (v0 d1) := by subst h; exact .pick
theorem rM {Z : Operand} {c : Bool} {d1 d2 : DV} {b3 : Option LB} (h : c = false) : Ex P tk (.pick X Y Z) ty [(.val (.bool c), b1), (d1, b2), (d2, b3)] [] (v0 d2) := by subst h; exact .pick
theorem S6 {s : ByteArray} (h : P.underlying t = some .string) : Ex P tk (.call ⟨.builtin .len, #[X], #[t]⟩) ty [(.val (.string s), b1)] [] (v0 (.val (.int .i64 (s.size : Int)))) :=
 .callV1 (fun h => Hh.2 (Oi ⟨by omega, by have := Og.1 h; unfold maxLen at this; omega⟩)) (sD h)
end
section
variable {P : Program} {tk : Nat} {t ty e sz bytes : Nat} {X Y : Operand} {b1 b2 : Option LB} {α : Type} {f : α -> List C} {l : List α} {n : Int} {k : IntKind} {j kr e' : Nat} {x : α}
theorem vN (h : Hq P t e sz bytes) (hf : ∀ x, (f x).length = sz) : Ex P tk (.call ⟨.builtin .len, #[X], #[t]⟩) ty [(.sl sz (Aq f l), b1)] [] (v0 (.val (.int .i64 (l.length : Int)))) := .len h.elem (.sl h.hsz (Gv hf l))
theorem aAb (h : Hq P t e sz bytes) (hf : ∀ x, (f x).length = sz) : Ex P tk (.call ⟨.builtin .len, #[X], #[t]⟩) ty [(.row kr, some (.row e' sz (Aq f l)))] [] (v0 (.val (.int .i64 (l.length : Int)))) := .len h.elem (.row h.hsz (Gv hf l))
theorem wX (h : Hq P t e sz bytes) (hf : ∀ x, (f x).length = sz) (hj : n = (j : Int)) (hx : l[j]? = some x) : Ex P tk (.indexAddr t X Y) ty [(.sl sz (Aq f l), b1), (.val (.int k n), b2)] [] (v0 (.elt ((Aq f l).drop (j * sz)))) := .idxS h hj (aJ hf hx)
theorem wJ (h : Hq P t e sz bytes) (hf : ∀ x, (f x).length = sz) (hj : n = (j : Int)) (hx : l[j]? = some x) : Ex P tk (.indexAddr t X Y) ty [(.row kr, some (.row e' sz (Aq f l))), (.val (.int k n), b2)] [] (v0 (.ptr kr (j * sz))) := .idxR h hj (aJ hf hx)
theorem Z9 {a m : Nat} {b1 : Option LB} (h : Hq P t e sz bytes) (hj : n = (j : Int)) (hx : ((l.drop a).take m)[j]? = some x) : Ex P tk (.indexAddr t X Y) ty [(.part kr (a * sz) m, b1), (.val (.int k n), b2)] [] (v0 (.ptr kr ((a + j) * sz))) := by
 have hl := (List.getElem?_eq_some_iff.1 hx).1
 rw [List.length_take] at hl
 rw [Nat.add_mul]
 exact .idxP h hj (by omega)
theorem Pc {a m : Nat} (hx : ((l.drop a).take m)[j]? = some x) : l[a + j]? = some x := by
 rw [List.getElem?_take] at hx
 split at hx
 ·rwa [List.getElem?_drop] at hx
 ·cases hx
theorem Ou {s g off ft sz' : Nat} {ag : Bool} {cs : List C} {a : Nat} (h : Fd P s g off ft) (ht : Ty P ft ag sz') (hz : 0 < sz') (hl : a + off < cs.length) : Ex P tk (.fieldAddr s X g) ty [(.elt (cs.drop a), b1)] [] (v0 (.elt (cs.drop (a + off)))) := by
 have := Ex.fieldE (P := P) (tk := tk) (x := X) (ty := ty) (b := b1) h ht hz (cs := cs.drop a) (by rw [List.length_drop]; omega)
 rwa [List.drop_drop] at this
theorem Dn {sz' a : Nat} {cs : List C} {c : C} (ht : Ty P t false sz') (h : cs[a]? = some c) : Ex P tk (.load t X) ty [(.elt (cs.drop a), b1)] [] (v0 (Uj c)) := .loadE1 ht (by rw [List.getElem?_drop]; exact h)
theorem Dm {m a : Nat} {cs cs2 : List C} (ht : Ty P t true m) (h : (cs.drop a).take m = cs2) (hl : a + m <= cs.length) : Ex P tk (.load t X) ty [(.elt (cs.drop a), b1)] [] (v0 (.agg (cs2.map Uj))) := by
 subst h
 exact .loadEA ht (by rw [List.length_drop]; omega)
theorem Ta {m a s : Nat} {cs cs2 : List C} (ht : Ty P t true m) (h : (cs.drop a).take m = cs2) (hl : a + m <= cs.length) : Ex P tk (.load t X) ty [(.ptr kr a, some (.row e' s cs))] [] (v0 (.agg (cs2.map Uj))) := by
 subst h
 exact .loadRA ht hl
theorem X1 {i s : Nat} {cs cs' cs2 : List C} {ag : Bool} {d : DV} {sz' : Nat} {ck : List (Option Nat)} (ht : Ty P t ag sz') (hs : (Ck d).length = sz') (hi : i + sz' <= cs.length) (hk : Iv P 20 t = ck) (hd : Jn ck (Ck d) cs') (h : Cy cs i cs' = cs2) : Ex P tk (.store t X Y) ty [(.ptr kr i, some (.row e' s cs)), (d, b2)] [kr] (jR kr (.row e' s cs2)) := by
 subst h
 exact .storeR ht hs hi hk hd
theorem Fb {d d' : DV × Option LB} {l' l2 : List α} {ks : List Nat} {kk : Nat} {cs cs' : List C} (hS : Hq P t e sz bytes) (hf : ∀ x, (f x).length = sz) (ht : rY d e sz cs ks) (hc : cs = Aq f l) (hs : bW d' sz cs') (hc' : cs' = Aq f l') (h : Lr kk l l' = some l2) (hk : sz * bytes = kk) : Ex P tk (.call ⟨.builtin .append, #[X, Y], #[t, t]⟩) ty [d, d'] ks (L3 tk (.row e sz (Aq f l2)) ks (.row tk)) := by
 subst hc hc'
 obtain ⟨h1, rfl⟩ := kG h
 rw [J5]
 refine .append hS ht hs ?_
 rw [Gv hf, Gv hf, <- Nat.add_mul, Nat.mul_assoc, hk]
 exact h1
section
variable {lo hi : Operand} {a b : Int} {ka kb : IntKind} {b3 : Option LB} {m : List α}
theorem kL (hS : Hq P t e sz bytes) (hf : ∀ x, (f x).length = sz) (h : bV l 0 b = some m) : Ex P tk (.slice t X none (some hi) none) ty [(.sl sz (Aq f l), b1), (.val (.int kb b), b2)] [] (v0 (.sl sz (Aq f m))) := by
 obtain ⟨i, j, hi', rfl, h1, h2, rfl⟩ := Xf h
 have : i = 0 := by omega
 subst this
 rw [<- iS hf l 0 j h1 h2]
 exact .sliS hS (Gv hf l) ⟨⟨_, _, _, rfl, rfl⟩, rfl⟩ ⟨h1, h2⟩
end
theorem Z5 {src dst : TypeId} {s : ByteArray} (hs : P.underlying src = some .string) (hd : P.underlying dst = some (.slice e)) (he : P.underlying e = some (.int .u8)) : Ex P tk (.convert src dst X) ty [(.val (.string s), b1)] [] (v0 (.sl 1 (Aq e8 (Jc s)))) := by
 have := Ex.convB (P := P) (tk := tk) (x := X) (ty := ty) (b := b1) (s := s) hs hd he
 rw [<- aC7] at this
 exact this
end
theorem Cv.frzE {σ : St} {θ : Nat -> Option Nat} {j e sz : Nat} {cs : List C} (h : σ.L j = some (.row e sz cs)) (h' : (match σ.L j with | some _ => true | none => false) = true) (hn : ∀ k, θ k ≠ some j) : Cv σ θ (.row j) (.sl sz cs) := .frz h hn
end Go.Proofs.YtkoflhimdenjaaaGreat
namespace Go.Proofs.YtkoflhimdenjaaaGreat
open Go.RowKit
mutual
theorem iR (f : Nat -> Nat) : ∀ d, Il d = [] -> J9 f d = d
 | .row _, h => by simp [Il] at h
 | .part _ _ _, h => by simp [Il] at h
 | .ptr _ _, h => by simp [Il] at h
 | .val _, _ => rfl
 | .sl _ _, _ => rfl
 | .slc _ _, _ => rfl
 | .mp _, _ => rfl
 | .elt _, _ => rfl
 | .agg ds, h => by unfold Il at h; unfold J9; rw [Ot f ds h]
 | .tup ds, h => by unfold Il at h; unfold J9; rw [Ot f ds h]
 | .clo _ _ ds, h => by unfold Il at h; unfold J9; rw [Ot f ds h]
theorem Ot (f : Nat -> Nat) : ∀ ds, Lm ds = [] -> L4 f ds = ds
 | [], _ => rfl
 | d :: ds, h => by
  unfold Lm at h
  have h1 := List.append_eq_nil_iff.1 h
  unfold L4
  rw [iR f d h1.1, Ot f ds h1.2]
end
def W2 : LB -> List Nat
 | .box ds _ => Lm ds
 | .row .. => []
 | .map _ => []
 | .mit k _ _ => [k]
 | .vec ds _ => Lm ds
theorem sB (f : Nat -> Nat) {lb : LB} (h : W2 lb = []) : kP f lb = lb := by
 cases lb with
 | box ds ty =>
  show LB.box (L4 f ds) ty = _
  rw [Ot f ds h]
 | row => rfl
 | map => rfl
 | mit => cases h
 | vec ds e =>
  show LB.vec (L4 f ds) e = _
  rw [Ot f ds h]
def gQ (ps gs : List Nat) (r : DV) (bx : List LB) : K2 := ⟨some r, fun k => match Ev (ps.zip bx) k with | some lb => some (some lb) | none => bif gs.any (Nat.beq k) then some none else none⟩
theorem dR {ps : List Nat} {tk : Nat} : ∀ {l : List Nat} {b : List LB} {i : Nat}, (∀ j, l[j]? = ps[i + j]?) -> b.length = l.length -> (∀ lb ∈ b, W2 lb = []) -> Td ps tk i b = l.zip b
 | [], [], _, _, _, _ => rfl
 | x :: l, lb :: b, i, hl, hb, ht => by
  unfold Td
  have h0 := hl 0
  simp only [Nat.add_zero] at h0
  have e1 : Hs ps tk i = x := by
   unfold Hs
   rw [<- h0]
   rfl
  rw [e1, sB _ (ht lb (List.mem_cons_self ..)), dR (l := l) (fun j => by have := hl (j + 1); rw [show i + 1 + j = i + (j + 1) by omega, <- this]; rfl) (by simpa using hb) fun lb h => ht lb (List.mem_cons_of_mem _ h)]
  rfl
 | [], _ :: _, _, _, h, _ => by simp at h
 | _ :: _, [], _, _, h, _ => by simp at h
theorem Z3 {ps gs : List Nat} {tk : Nat} {r : DV} {b : List LB} (hr : Il r = []) (hl : b.length = ps.length) (hb : ∀ lb ∈ b, W2 lb = []) : Qm ps gs tk r b = gQ ps gs r b := by
 unfold Qm gQ
 rw [iR _ _ hr, dR (l := ps) (fun j => by rw [Nat.zero_add]) hl hb]
 rfl
section
variable {P : Program} {cx : Cx} {ops : Array Oper} {Rt : Option (List Nat)} {nb i : Nat} {l : List Oper} {lg : eN} {σ : St} {Q : St -> Prop} {fz : List Nat}
theorem cL {dst : Option Tmp} {f : FuncId} {xs : Array Operand} {tys : Array TypeId} {ty : TypeId} {pos : String} {af : Array Edge} {g : Option (Nat × Bool)} {dsA : List (DV × Option LB)} {rd ps gs : List Nat} {args : List DV} {bx : List LB} {d : DV} {b : List LB} (fl : Bool)
  (G : Ja ops σ ⟨dst, .call ⟨.value (.func f), xs, tys⟩, ty, pos, af, g⟩ = some true)
  (hF : Fn P f ps.length args bx (fun d' b' => d' = d /\ b' = b)) (hds : Dw σ true xs.toList = some dsA) (hrd : Oo σ 3 (Qi dsA) = rd) (hA : Nu fl (ps ++ gs) (Kn σ rd) (dsA.map (·.1)) args) (hB : X4 fl (ps ++ gs) (Kn σ rd) (ps ++ gs) bx) (hnd : P7 cx.np ps gs = true) (hfl : fl = true -> Ir d /\ ∀ lb ∈ b, Om lb)
  (hok : Jt Rt i true (nb + 8 * i) rd (ps ++ gs) lg = true) (hr : Il d = []) (hl : b.length = ps.length) (hb : b.flatMap W2 = [])
  (k : Chain (Cj P cx fz) ops Rt nb (Dr (i + 1) l) ((i, true, nb + 8 * i, rd, ps ++ gs) :: lg) (σ.app dst (gQ ps gs d b)) Q) :
  Chain (Cj P cx fz) ops Rt nb (Dr i (⟨dst, .call ⟨.value (.func f), xs, tys⟩, ty, pos, af, g⟩ :: l)) lg σ Q := by
 refine G2 fl G hF hds hrd hA hB hnd (fun h r b => ?_) hok (fun _ => ⟨_, _, ⟨rfl, rfl⟩, by omega, by omega⟩) fun r b => ?_
 ·rintro ⟨rfl, rfl⟩; exact hfl h
 ·rintro ⟨rfl, rfl⟩
  rw [Z3 hr hl fun lb h => ?_]
  ·exact k
  ·have := List.flatMap_eq_nil_iff.1 hb lb h
   exact this
theorem Dj {dst : Option Tmp} {t : Tmp} {f : FuncId} {q : Option LB} {xs : Array Operand} {tys : Array TypeId} {ty : TypeId} {pos : String} {af : Array Edge} {g : Option (Nat × Bool)} {dsA : List (DV × Option LB)} {rd ps gs : List Nat} {args : List DV} {bx : List LB} {d : DV} {b : List LB} (fl : Bool)
  (G : Ja ops σ ⟨dst, .call ⟨.value (.tmp t), xs, tys⟩, ty, pos, af, g⟩ = some true) (hc : ev σ true (.tmp t) = some (.val (.func (.func f) #[] #[]), q))
  (hF : Fn P f ps.length args bx (fun d' b' => d' = d /\ b' = b)) (hds : Dw σ true xs.toList = some dsA) (hrd : Oo σ 3 (Qi dsA) = rd) (hA : Nu fl (ps ++ gs) (Kn σ rd) (dsA.map (·.1)) args) (hB : X4 fl (ps ++ gs) (Kn σ rd) (ps ++ gs) bx) (hnd : P7 cx.np ps gs = true) (hfl : fl = true -> Ir d /\ ∀ lb ∈ b, Om lb)
  (hok : Jt Rt i true (nb + 8 * i) rd (ps ++ gs) lg = true) (hr : Il d = []) (hl : b.length = ps.length) (hb : b.flatMap W2 = [])
  (k : Chain (Cj P cx fz) ops Rt nb (Dr (i + 1) l) ((i, true, nb + 8 * i, rd, ps ++ gs) :: lg) (σ.app dst (gQ ps gs d b)) Q) :
  Chain (Cj P cx fz) ops Rt nb (Dr i (⟨dst, .call ⟨.value (.tmp t), xs, tys⟩, ty, pos, af, g⟩ :: l)) lg σ Q := by
 refine oY fl G hc hF hds hrd hA hB hnd (fun h r b => ?_) hok (fun _ => ⟨_, _, ⟨rfl, rfl⟩, by omega, by omega⟩) fun r b => ?_
 ·rintro ⟨rfl, rfl⟩; exact hfl h
 ·rintro ⟨rfl, rfl⟩
  rw [Z3 hr hl fun lb h => ?_]
  ·exact k
  ·have := List.flatMap_eq_nil_iff.1 hb lb h
   exact this
theorem B9 {dst : Option Tmp} {t : Tmp} {f : FuncId} {n : Nat} {cs : List DV} {q : Option LB} {xs : Array Operand} {tys : Array TypeId} {ty : TypeId} {pos : String} {af : Array Edge} {g : Option (Nat × Bool)} {dsA : List (DV × Option LB)} {rd ps gs : List Nat} {args : List DV} {bx : List LB} {d : DV} {b : List LB} (fl : Bool)
  (G : Ja ops σ ⟨dst, .call ⟨.value (.tmp t), xs, tys⟩, ty, pos, af, g⟩ = some true) (hc : ev σ true (.tmp t) = some (.clo f n cs, q))
  (hF : Fn P f ps.length args bx (fun d' b' => d' = d /\ b' = b)) (hds : Dw σ true xs.toList = some dsA) (hrd : Oo σ 3 (Lm cs ++ Qi dsA) = rd) (hA : Nu fl (ps ++ gs) (Kn σ rd) (cs.take n ++ (dsA.map (·.1) ++ cs.drop n)) args) (hB : X4 fl (ps ++ gs) (Kn σ rd) (ps ++ gs) bx) (hnd : P7 cx.np ps gs = true) (hfl : fl = true -> Ir d /\ ∀ lb ∈ b, Om lb)
  (hok : Jt Rt i true (nb + 8 * i) rd (ps ++ gs) lg = true) (hr : Il d = []) (hl : b.length = ps.length) (hb : b.flatMap W2 = [])
  (k : Chain (Cj P cx fz) ops Rt nb (Dr (i + 1) l) ((i, true, nb + 8 * i, rd, ps ++ gs) :: lg) (σ.app dst (gQ ps gs d b)) Q) :
  Chain (Cj P cx fz) ops Rt nb (Dr i (⟨dst, .call ⟨.value (.tmp t), xs, tys⟩, ty, pos, af, g⟩ :: l)) lg σ Q := by
 refine qC fl G hc hF hds hrd hA hB hnd (fun h r b => ?_) hok (fun _ => ⟨_, _, ⟨rfl, rfl⟩, by omega, by omega⟩) fun r b => ?_
 ·rintro ⟨rfl, rfl⟩; exact hfl h
 ·rintro ⟨rfl, rfl⟩
  rw [Z3 hr hl fun lb h => ?_]
  ·exact k
  ·have := List.flatMap_eq_nil_iff.1 hb lb h
   exact this
end
section
variable {P : Program} {tk : Nat} {t ty yt : TypeId} {X Y : Operand} {b1 b2 : Option LB} {k k' : IntKind} {x y : Int}
theorem Ru (k : IntKind) (z : Int) : D0 (.int k (k.wrap z)) = true := by
 rw [Hh]
 cases k <;> simp [IntKind.wrap, IntKind.bits, IntKind.signed, IntKind.min, IntKind.max] <;> (try split) <;> omega
theorem wV : Ex P tk (.binOp .sub t X Y yt) ty [(.val (.int k x), b1), (.val (.int k y), b2)] [] (v0 (.val (.int k (k.wrap (x - y))))) := .binOp (fun _ _ => Ru _ _) iU
theorem yV : Ex P tk (.binOp .mul t X Y yt) ty [(.val (.int k x), b1), (.val (.int k y), b2)] [] (v0 (.val (.int k (k.wrap (x * y))))) := .binOp (fun _ _ => Ru _ _) iV
theorem mR : Ex P tk (.binOp .and t X Y yt) ty [(.val (.int k x), b1), (.val (.int k y), b2)] [] (v0 (.val (.int k (Vx k x y)))) := .binOp (fun _ _ => Ru _ _) (fun w => by simp [eqGuard, binOp, Op.intBits, Vx])
theorem aB : Ex P tk (.binOp .xor t X Y yt) ty [(.val (.int k x), b1), (.val (.int k y), b2)] [] (v0 (.val (.int k (Ow k x y)))) := .binOp (fun _ _ => Ru _ _) (fun w => by simp [eqGuard, binOp, Op.intBits, Ow])
theorem rW (k : IntKind) : k.min <= 0 /\ 0 <= k.max := by cases k <;> decide
theorem dG {x d : Int} (hx : x <= 0) (hd : 0 < d) : x / d <= 0 := by
 rcases Int.lt_trichotomy (x / d) 0 with h | h | h
 ·omega
 ·omega
 ·exfalso
  have h1 := Int.mul_ediv_add_emod x d
  have h2 := Int.emod_nonneg x (show d ≠ 0 by omega)
  have h3 : d * 1 <= d * (x / d) := Int.mul_le_mul_of_nonneg_left (by omega) (by omega)
  omega
theorem Sn {z : Int} (h : Px k x y = some z) : Ex P tk (.binOp .shr t X Y yt) ty [(.val (.int k x), b1), (.val (.int k' y), b2)] [] (v0 (.val (.int k z))) := by
 obtain ⟨h0, rfl⟩ := lC h
 refine .binOp (fun hx _ => ?_) (fun w => by simp [eqGuard, binOp, Op.shift, h0])
 rw [Hh] at hx ⊢
 have hm := rW k
 have hd : (0 : Int) < 2 ^ min y.toNat k.bits := Int.pow_pos (by omega)
 generalize (2 : Int) ^ min y.toNat k.bits = d at hd
 rw [Int.fdiv_eq_ediv_of_nonneg _ (Int.le_of_lt hd)]
 rcases Int.le_total 0 x with hx0 | hx0
 ·have h1 := Int.ediv_nonneg hx0 (Int.le_of_lt hd)
  have h2 := Int.ediv_le_self d hx0
  omega
 ·have h1 : x <= x / d := by
   have := Int.mul_ediv_add_emod x d
   have h3 := Int.emod_nonneg x (show d ≠ 0 by omega)
   have h4 : x / d <= 0 := dG hx0 hd
   have h5 : d * (x / d) <= 1 * (x / d) := Int.mul_le_mul_of_nonpos_right (by omega) h4
   have h6 := Int.emod_lt_of_pos x hd
   by_cases h7 : x / d = 0
   ·omega
   ·have h8 : x / d <= -1 := by omega
    have h9 : (d - 1) * (x / d) <= (d - 1) * (-1) := Int.mul_le_mul_of_nonneg_left h8 (by omega)
    have h10 : d * (x / d) = (d - 1) * (x / d) + x / d := by rw [Int.sub_mul, Int.one_mul]; omega
    omega
  have h2 : x / d <= 0 := dG hx0 hd
  omega
theorem fE {z : Int} (h : Yn k x y = some z) : Ex P tk (.binOp .shl t X Y yt) ty [(.val (.int k x), b1), (.val (.int k' y), b2)] [] (v0 (.val (.int k z))) := by
 obtain ⟨h0, rfl⟩ := kF h
 exact .binOp (fun _ _ => Ru _ _) (fun w => by simp [eqGuard, binOp, Op.shift, h0])
theorem Wi {src dst : TypeId} (hs : P.underlying src = some (.int k)) (hd : P.underlying dst = some (.int k')) : Ex P tk (.convert src dst X) ty [(.val (.int k x), b1)] [] (v0 (.val (.int k' (k'.wrap x)))) :=
 .conv (by unfold iK; rw [hs]) (by unfold iK; rw [hd]) (fun _ => Ru _ _) (bQ (by rw [hs]; rfl) hd)
theorem eW {s : ByteArray} {u : UInt8} (ht : P.underlying t = some .string) (h : bX s x = some u) : Ex P tk (.index t X Y) ty [(.val (.string s), b1), (.val (.int k x), b2)] [] (v0 (.val (.int .u8 (u.toNat : Int)))) := by
 unfold bX at h
 split at h
 ·cases h
 ·rename_i h0
  have h1 : 0 <= x := by omega
  have hlt := (Array.getElem?_eq_some_iff.1 h).1
  have hs : s[x.toNat]? = some u := by
   have hlt' : x.toNat < s.size := hlt
   rw [getElem?_pos s x.toNat hlt']
   have := (Array.getElem?_eq_some_iff.1 h).2
   exact congrArg some this
  exact .indexS (fun _ _ => ok8 _) (fun w => by simp [Instr.index, asIntOf, run_underlying ht, h1, hs])
theorem nT {a b : ByteArray} : Ex P tk (.binOp .geq t X Y yt) ty [(.val (.string a), b1), (.val (.string b), b2)] [] (v0 (.val (.bool (!Lu (Jc a) (Jc b))))) := .binOp (fun _ _ => rfl) (fun w => by
 simp [eqGuard, binOp, Op.stringOp, lX, ByteArray.toList_eq, Jc])
end
section
variable {α : Type} {f : α -> List C} {sz : Nat}
theorem eR (hf : ∀ x, (f x).length = sz) (h0 : 0 < sz) {l : List α} (h : Aq f l = []) : l = [] := by
 have := Gv hf l
 rw [h] at this
 rcases Nat.mul_eq_zero.1 this.symm with h1 | h1
 ·exact List.eq_nil_of_length_eq_zero h1
 ·omega
end
section
variable {P : Program} {tk : Nat} {t ty e sz bytes : Nat} {X Y : Operand} {b1 b2 b3 : Option LB} {α : Type} {f : α -> List C} {l m : List α} {n : Int} {k ka kb : IntKind} {j kr e' : Nat} {x : α} {lo hi : Operand} {a b : Int}
theorem Vi (hS : Hq P t e sz bytes) (hf : ∀ x, (f x).length = sz) (h : bV l a (l.length : Int) = some m) : Ex P tk (.slice t X (some lo) none none) ty [(.row kr, some (.row e' sz (Aq f l))), (.val (.int ka a), b2)] [] (v0 (.part kr (a.toNat * sz) ((l.length : Int).toNat - a.toNat))) := by
 obtain ⟨i, j, rfl, hj, h1, h2, rfl⟩ := Xf h
 have : j = l.length := by omega
 subst this
 exact .sliR hS (Gv hf l) ⟨⟨_, _, _, rfl, rfl⟩, rfl⟩ ⟨h1, h2⟩
theorem U3 (hS : Hq P t e sz bytes) (hf : ∀ x, (f x).length = sz) (h : bV l 0 b = some m) : Ex P tk (.slice t X none (some hi) none) ty [(.row kr, some (.row e' sz (Aq f l))), (.val (.int kb b), b3)] [] (v0 (.part kr ((0 : Int).toNat * sz) (b.toNat - (0 : Int).toNat))) := by
 obtain ⟨i, j, hi', rfl, h1, h2, rfl⟩ := Xf h
 have : i = 0 := by omega
 subst this
 have e0 : (0 : Int).toNat * sz = 0 * sz := rfl
 exact .sliR hS (Gv hf l) ⟨⟨_, _, _, rfl, rfl⟩, rfl⟩ ⟨h1, h2⟩
theorem Wv {sz : Nat} : ∀ (ds : List DV) (k : Nat) (pre rest : List DV), pre.length = k * sz -> rest.length = ds.length * sz -> (∀ d ∈ ds, (Ck d).length = sz) -> Hr (fun i => some (i * sz, sz)) (pre ++ rest) ((List.range' k ds.length).zip ds) = some (pre ++ ds.flatMap Ck)
 | [], k, pre, rest, _, hr, _ => by
  have : rest = [] := List.eq_nil_of_length_eq_zero (by simpa using hr)
  subst this
  simp [Hr]
 | d :: ds, k, pre, rest, hp, hr, hd => by
  have h0 := hd d (List.mem_cons_self ..)
  have hr' : rest.length = ds.length * sz + sz := by rw [hr, List.length_cons, Nat.add_mul, Nat.one_mul]
  rw [List.length_cons, List.range'_succ, List.zip_cons_cons]
  unfold Hr
  simp only []
  have c1 : Nat.beq (Ck d).length sz = true := by rw [h0]; exact Nat.beq_refl _
  have c2 : Nat.ble (k * sz + sz) (pre ++ rest).length = true := Nat.ble_eq_true_of_le (by rw [List.length_append, hp, hr']; omega)
  rw [c1, c2]
  simp only [Bool.and_self, cond_true]
  have e1 : Cy (pre ++ rest) (k * sz) (Ck d) = (pre ++ Ck d) ++ rest.drop sz := by
   unfold Cy
   rw [h0, <- hp, List.take_left, <- List.drop_drop, List.drop_left, List.append_assoc]
  rw [e1, Wv ds (k + 1) (pre ++ Ck d) (rest.drop sz) (by rw [List.length_append, hp, h0, Nat.add_mul, Nat.one_mul]) (by rw [List.length_drop, hr']; omega) fun x hx => hd x (List.mem_cons_of_mem _ hx)]
  rw [List.flatMap_cons, List.append_assoc]
theorem Fp {len : Nat} {parts : Array (Nat × Operand)} {ds : List (DV × Option LB)} {z : List Value} {cs : List C} {ck : List (Option Nat)} (hS : Hq P t e sz bytes) (hz : Zt P e z) (hlen : len * sz <= 16777216) (hp : parts.toList.map (·.1) = List.range' 0 len) (hzl : z.length = sz) (hn : ds.length = len) (hs : ds.all (fun q => Nat.beq (Ck q.1).length sz) = true) (hk : Iv P 20 e = ck) (hc : Jn (List.replicate len ck).flatten (ds.flatMap fun q => Ck q.1) cs) (ho : ds.all (fun q => (Ck q.1).all Wr) = true) (h : Aq f l = cs) : Ex P tk (.buildSlice t len parts) ty ds [] (Mh tk (.row e sz (Aq f l)) (.row tk)) := by
 subst h
 refine .buildSl hS hz hlen ?_ hk hc ho
 have hd := Wv (sz := sz) (ds.map (·.1)) 0 [] ((List.replicate len (z.map DV.val)).flatten) (by simp) (by simp [hzl, hn]) fun d hd => by
  obtain ⟨q, hq, rfl⟩ := List.mem_map.1 hd
  exact Nat.eq_of_beq_eq_true (List.all_eq_true.1 hs q hq)
 rw [List.nil_append, List.nil_append, List.length_map, hn] at hd
 rw [hp, hd]
 congr 1
 rw [List.flatMap_map]
theorem lS {i bt sz' : Nat} {ds ds' : List DV} {ag : Bool} {d : DV} {kk : Nat} (ht : Ty P t ag sz') (hs : (Ck d).length = sz') (hi : i + sz' <= ds.length) (ho : (Ck d).all Wr = true) (h : Cy ds i (Ck d) = ds') : Ex P tk (.store t X Y) ty [(.ptr kk i, some (.box ds bt)), (d, b2)] [kk] (jR kk (.box ds' bt)) := by
 subst h
 exact .storeB ht hs hi ho
theorem Y4 {tk2 : Nat} {m' : Nat} {ds : List DV} {L : List α} (ht : P.underlying t = some (.array m' e)) (he : Ty P e true sz) (hf : ∀ x, (f x).length = sz) (hds : ds = (Aq f L).map Uj) (hL : L.length = m') (hx : B3 L n = some x) {d2 : List DV} (h2 : (f x).map Uj = d2) : Ex P tk2 (.index t X Y) ty [(.agg ds, b1), (.val (.int k n), b2)] [] (v0 (.agg d2)) := by
 have hx' := Cq hx
 refine .indexAA ht he (Pi hx) (by rw [<- hL]; exact (List.getElem?_eq_some_iff.1 hx').1) ?_
 rw [hds, <- List.map_drop, <- List.map_take, <- h2]
 congr 1
 exact Ie hf hx' (o := 0) (by rw [List.drop_zero]; exact List.take_of_length_le (Nat.le_of_eq (hf _))) (by omega) rfl
end
def eA {α : Type} [Inhabited α] (n : Nat) (f : α -> List C) (x : List α) : List C := (List.range n).flatMap fun i => f (x[i]!)
theorem wW {α : Type} [Inhabited α] {n sz : Nat} {f : α -> List C} (hf : ∀ x, (f x).length = sz) (x : List α) : (eA n f x).length = n * sz := by
 unfold eA
 induction n with
 | zero => simp
 | succ n ih => rw [List.range_succ, List.flatMap_append, List.length_append, ih, List.flatMap_cons, List.flatMap_nil, List.append_nil, hf, Nat.add_mul, Nat.one_mul]
class lZ (p : Prop) (q : outParam Prop) : Prop where
 go : q -> p
theorem st_ {p q : Prop} [s : lZ p q] (h : q) : p := s.go h
section
variable {next : St -> Prop} {Q : Exit -> St -> Prop} {i : Nat} {σ : St}
instance : lZ (lK next Q .normal σ) (next σ) := ⟨fun h => h⟩
instance : lZ (lK next Q (.exit i) σ) (Q (.exit i) σ) := ⟨fun h => h⟩
instance : lZ (lK next Q .ret σ) (Q .ret σ) := ⟨fun h => h⟩
instance : lZ (vC i Q (.exit i) σ) (Q .normal σ) := ⟨fun h => oN h⟩
instance : lZ (vC i Q .normal σ) (Q .normal σ) := ⟨fun h => h⟩
instance : lZ (vC i Q .ret σ) (Q .ret σ) := ⟨fun h => h⟩
instance : lZ (noG Q .normal σ) (Q .normal σ) := ⟨fun h => h⟩
instance : lZ (noG Q (.exit i) σ) (Q (.exit i) σ) := ⟨fun h => h⟩
instance : lZ (noG Q .ret σ) (Q .ret σ) := ⟨fun h => h⟩
end
class jY (p : Prop) (q : outParam Prop) : Prop where
 go : q -> p
instance (priority := low) stpN_nil (p : Prop) : jY p p := ⟨fun h => h⟩
instance aAr {p p' q : Prop} [s : lZ p p'] [t : jY p' q] : jY p q := ⟨fun h => s.go (t.go h)⟩
theorem F3 {P : Program} {cx : Cx} {Q : Exit -> St -> Prop} {σ : St} {q : Prop} [s : jY (Q .ret σ) q] (h : q) : B4 P cx .ret Q σ := aW (s.go h)
theorem sn_ {Q : Exit -> St -> Prop} {i j : Nat} {σ : St} (h : Q (.exit j) σ) (hne : j ≠ i := by decide) : vC i Q (.exit j) σ := jL hne h
theorem B8 {P : Program} {cx : Cx} {id : Nat} {l : List Oper} {σ : St} {y : Code} {Q : Exit -> St -> Prop} (nb nb' : Nat) (B : ∀ k, nb <= k -> σ.U k = false)
  (h : Chain (Cj P cx []) l.toArray none nb (Dr 0 l) [] σ (fun σ' => (∀ j, nb' <= j -> σ'.U j = false) -> lK (B4 P cx y Q) Q .normal σ')) (hn : Nat.ble (nb + 8 * l.length) nb' = true := by rfl) (hd : eY cx.N l = true := by rfl) : B4 P cx (.seq (.region id l.toArray false) y) Q σ :=
 Ak (An (Cj _ _ []) nb nb' B hn hd h)
section
variable {P : Program} {cx : Cx} {ops : Array Oper} {Rt : Option (List Nat)} {nb i : Nat} {l : List Oper} {lg : eN} {σ : St} {Q : St -> Prop} {fz : List Nat}
theorem F7 {Q : Exit -> St -> Prop} {nb' : Nat} {q : Prop} [s : jY (Q .normal σ) q] (h : (∀ j, nb' <= j -> σ.U j = false) -> q) : Chain (Cj P cx fz) ops Rt nb (Dr i []) lg σ (fun σ' => (∀ j, nb' <= j -> σ'.U j = false) -> Q .normal σ') := aEy fun B => s.go (h B)
theorem Cr {dst : Option Tmp} {op : Op} {ty : TypeId} {pos : String} {af : Array Edge} {g : Option (Nat × Bool)} {ds : List (DV × Option LB)} {wr : List Nat} {e : K2} (G : Ja ops σ ⟨dst, op, ty, pos, af, g⟩ = some true) (hds : Dw σ (I6 op) op.operands.toList = some ds) (h : Ex P (nb + 8 * i) op ty ds wr e)
  (hrd : (bif I6 op then Jp (Kc op) ds else []) = []) (hok : Jt Rt i false (nb + 8 * i) [] wr lg = true) (k : Chain (Cj P cx fz) ops Rt nb (Dr (i + 1) l) ((i, false, nb + 8 * i, [], wr) :: lg) (σ.app dst e) Q) (hz : zM fz (nb + 8 * i) = 0 := by rfl) (hap : Nt cx.np op wr = true := by rfl) :
  Chain (Cj P cx fz) ops Rt nb (Dr i (⟨dst, op, ty, pos, af, g⟩ :: l)) lg σ Q := G4 (rd := []) G hds h hrd hok k hz hap
end
end Go.Proofs.YtkoflhimdenjaaaGreat
namespace Go.Proofs.YtkoflhimdenjaaaGreat
open Go.RowKit
theorem Tj : ∀ {d : DV} {k : Nat}, men d k -> k ∈ Il d
 | .row _, k, h => by simpa [Il, men] using h
 | .part _ _ _, k, h => by simpa [Il, men] using h
 | .ptr _ _, k, h => by simpa [Il, men] using h
 | .agg ds, k, h => by unfold men at h; unfold Il; exact menL_dtoks h
 | .tup ds, k, h => by unfold men at h; unfold Il; exact menL_dtoks h
 | .clo _ _ ds, k, h => by unfold men at h; unfold Il; exact menL_dtoks h
 | .val _, k, h => by unfold men at h; exact h.elim
 | .sl _ _, k, h => by unfold men at h; exact h.elim
 | .slc _ _, k, h => by unfold men at h; exact h.elim
 | .mp _, k, h => by unfold men at h; exact h.elim
 | .elt _, k, h => by unfold men at h; exact h.elim
where
 menL_dtoks : ∀ {ds : List DV} {k : Nat}, Es ds k -> k ∈ Lm ds
 | [], k, h => by unfold Es at h; exact h.elim
 | d :: ds, k, h => by
  unfold Es at h
  unfold Lm
  rcases h with h | h
  ·exact List.mem_append_left _ (Tj h)
  ·exact List.mem_append_right _ (menL_dtoks h)
theorem Ns.cut {cx : Cx} {σ σ' : St} {t k n e sz : Nat} {cs : List C} (hk : cx.np <= k) (hF : σ.F t = some (.part k 0 n)) (hL : σ.L k = some (.row e sz cs)) (hn : n * sz <= cs.length)
  (hF' : ∀ s d, σ'.F s = some d -> (d = .row k /\ s = t) \/ (σ.F s = some d /\ ¬ men d k)) (hL' : ∀ j lb, σ'.L j = some lb -> (j = k /\ lb = .row e sz (cs.take (n * sz))) \/ (j ≠ k /\ σ.L j = some lb /\ ¬ Pu lb k)) (B : ∀ j, σ'.U j = σ.U j) : Ns cx σ σ' := by
 rintro a w ⟨ρ, h⟩
 obtain ⟨N, us, q1, q0, q2⟩ := h.lo _ _ hL
 have hr := h.fr _ _ hF
 unfold Cf at hr
 obtain ⟨A, c, hv, hnc, hc, hA, hB⟩ := hr
 have hlen : n * sz <= us.length := by rw [<- q2.1]; exact hn
 have hblk : ∀ b, Cn (a.tmps.getD t undef) = some b -> Cn (ρ k) = some b := fun b hb => by
  rcases q1.2 with ⟨A', e, -⟩ | ⟨g', cap, cur, e, r1, -⟩
  ·obtain ⟨t1, t2⟩ := hB rfl _ _ _ e
   rw [hv, t2] at hb
   cases A <;> cases hb
  ·obtain ⟨t1, t2⟩ := hB rfl _ _ _ e
   rw [hv, t1] at hb
   rw [e, Ig r1, (Em hb).1]
 have hown : w.rowOk e sz (a.tmps.getD t undef) n (us.take (n * sz)) := by
  refine ⟨by rw [List.length_take]; omega, ?_⟩
  rcases q1.2 with ⟨A', e, q3⟩ | ⟨g, cap, cur, e, r1, r2, r3, r4, r5, r6⟩
  ·obtain ⟨t1, t2⟩ := hB rfl _ _ _ e
   refine .inl ⟨A', by rw [hv, t1, t2]; congr 1; omega, by omega⟩
  ·obtain ⟨t1, t2⟩ := hB rfl _ _ _ e
   refine .inr ⟨g, cap, cur, by rw [hv, t1, t2], r1, r2, by omega, r4, r5, ?_⟩
   have hle : n * sz <= N * sz := by rw [<- q1.1]; exact hlen
   rw [<- r6, List.take_take, Nat.min_eq_left hle]
 let ρ' : Nat -> Value := fun j => if j = k then a.tmps.getD t undef else ρ j
 have hk' : ρ' k = a.tmps.getD t undef := if_pos rfl
 have ho : ∀ j, j ≠ k -> ρ' j = ρ j := fun j hj => if_neg hj
 have loc : ∀ j lb b, σ'.L j = some lb -> Cn (ρ' j) = some b -> ∃ lb', σ.L j = some lb' /\ Cn (ρ j) = some b := fun j lb b hj hb => by
  rcases hL' j lb hj with ⟨rfl, -⟩ | ⟨hne, h1, -⟩
  ·rw [hk'] at hb; exact ⟨_, hL, hblk b hb⟩
  ·rw [ho j hne] at hb; exact ⟨_, h1, hb⟩
 have hI : ∀ b, K7 cx σ ρ w b -> K7 cx σ' ρ' w b /\ w.heap[b]? = w.heap[b]? := fun b hb => by
  refine ⟨⟨hb.1, fun hl => ?_, hb.2.2⟩, rfl⟩
  obtain ⟨j, lb, h1, h2⟩ := hl
  obtain ⟨lb', h3, h4⟩ := loc j lb b h1 h2
  exact hb.2.1 ⟨j, lb', h3, h4⟩
 refine ⟨ρ', ⟨h.defers, h.size, h.kept, fun s d hs => ?_, fun j lb hj => ?_, fun j j' lb lb' b h1 h2 h3 h4 => ?_, fun s d j hs hm => ?_, fun j lb hj => ?_, fun j hj => ?_, fun j lb b hj hp hb => ?_⟩⟩
 ·rcases hF' s d hs with ⟨rfl, rfl⟩ | ⟨h1, h2⟩
  ·unfold Cf
   rw [hk']
   refine ⟨rfl, ?_⟩
   rw [hv]; rfl
  ·exact Cf.step hI d _ (fun j hj => ho j fun e => h2 (e ▸ hj)) (h.fr _ _ h1)
 ·rcases hL' j lb hj with ⟨rfl, rfl⟩ | ⟨hne, h1, h2⟩
  ·rw [hk']
   refine ⟨n, us.take (n * sz), hown, fun b hb => q0 b (hblk b hb), ?_⟩
   refine Fl.keep_ (w := w) ⟨by rw [List.length_take, List.length_take, q2.1], fun j c u a b => ?_⟩ (fun b hb => rfl) fun b hb => (hI b hb).1
   rw [List.getElem?_take] at a b
   split at a
   ·rename_i hj
    rw [if_pos hj] at b
    exact q2.2 j c u a b
   ·cases a
  ·rw [ho j hne]
   exact (h.lo _ _ h1).step hI (fun j' hj' => ho j' fun e => h2 (e ▸ hj')) fun b _ => rfl
 ·obtain ⟨_, e1, e2⟩ := loc _ _ _ h1 h3
  obtain ⟨_, e3, e4⟩ := loc _ _ _ h2 h4
  exact h.sep _ _ _ _ _ e1 e3 e2 e4
 ·rw [B]
  rcases hF' s d hs with ⟨rfl, rfl⟩ | ⟨h1, h2⟩
  ·unfold men at hm
   subst hm
   exact (h.usedL _ _ hL).1
  ·exact h.usedF _ _ _ h1 hm
 ·rw [B]
  rcases hL' j lb hj with ⟨rfl, rfl⟩ | ⟨hne, h1, h2⟩
  ·exact ⟨(h.usedL _ _ hL).1, fun k' hm => hm.elim⟩
  ·exact ⟨(h.usedL _ _ h1).1, fun k' hm => by rw [B]; exact (h.usedL _ _ h1).2 k' hm⟩
 ·rw [B]
  exact ⟨(ho j (by omega)).trans (h.pin j hj).1, (h.pin j hj).2⟩
 ·obtain ⟨_, e1, e2⟩ := loc _ _ _ hj hb
  exact h.fresh _ _ _ e1 hp e2
def kA (t k : Nat) : List (Nat × DV) -> List (Nat × DV)
 | [] => []
 | (s, d) :: l => bif Nat.beq s t then (s, .row k) :: kA t k l else (s, d) :: kA t k l
def jT (k : Nat) (lb : LB) : List (Nat × LB) -> List (Nat × LB)
 | [] => []
 | (j, b) :: l => bif Nat.beq j k then (j, lb) :: jT k lb l else (j, b) :: jT k lb l
def aBa (t k : Nat) (fl : List (Nat × DV)) (ll : List (Nat × LB)) : Bool :=
 fl.all (fun q => Nat.beq q.1 t || !(Il q.2).contains k) && ll.all (fun q => Nat.beq q.1 k || !(W2 q.2).contains k)
theorem Uq {t k : Nat} : ∀ {fl : List (Nat × DV)} {s : Nat} {d : DV}, Ev (kA t k fl) s = some d -> (s = t /\ d = .row k) \/ (s ≠ t /\ Ev fl s = some d)
 | [], s, d, h => by simp [kA, Ev] at h
 | (s', d') :: l, s, d, h => by
  unfold kA at h
  cases hb : Nat.beq s' t with
  | true =>
   rw [hb] at h
   simp only [cond_true] at h
   have e0 := Nat.eq_of_beq_eq_true hb
   unfold Ev at h
   cases hs : Nat.beq s s' with
   | true =>
    rw [hs] at h
    have := Nat.eq_of_beq_eq_true hs
    injection h with h
    exact .inl ⟨by omega, h.symm⟩
   | false =>
    rw [hs] at h
    rcases Uq h with h | ⟨h1, h2⟩
    ·exact .inl h
    ·refine .inr ⟨h1, ?_⟩
     unfold Ev
     rw [hs]
     exact h2
  | false =>
   rw [hb] at h
   simp only [cond_false] at h
   unfold Ev at h
   cases hs : Nat.beq s s' with
   | true =>
    rw [hs] at h
    have := Nat.eq_of_beq_eq_true hs
    refine .inr ⟨fun e => ?_, ?_⟩
    ·subst this
     subst e
     rw [Nat.beq_refl] at hb
     cases hb
    ·unfold Ev
     rw [hs]
     exact h
   | false =>
    rw [hs] at h
    rcases Uq h with h | ⟨h1, h2⟩
    ·exact .inl h
    ·refine .inr ⟨h1, ?_⟩
     unfold Ev
     rw [hs]
     exact h2
theorem Vc {k : Nat} {lb : LB} : ∀ {ll : List (Nat × LB)} {j : Nat} {b : LB}, Ev (jT k lb ll) j = some b -> (j = k /\ b = lb) \/ (j ≠ k /\ Ev ll j = some b)
 | [], s, d, h => by simp [jT, Ev] at h
 | (s', d') :: l, s, d, h => by
  unfold jT at h
  cases hb : Nat.beq s' k with
  | true =>
   rw [hb] at h
   simp only [cond_true] at h
   have e0 := Nat.eq_of_beq_eq_true hb
   unfold Ev at h
   cases hs : Nat.beq s s' with
   | true =>
    rw [hs] at h
    have := Nat.eq_of_beq_eq_true hs
    injection h with h
    exact .inl ⟨by omega, h.symm⟩
   | false =>
    rw [hs] at h
    rcases Vc h with h | ⟨h1, h2⟩
    ·exact .inl h
    ·refine .inr ⟨h1, ?_⟩
     unfold Ev
     rw [hs]
     exact h2
  | false =>
   rw [hb] at h
   simp only [cond_false] at h
   unfold Ev at h
   cases hs : Nat.beq s s' with
   | true =>
    rw [hs] at h
    have := Nat.eq_of_beq_eq_true hs
    refine .inr ⟨fun e => ?_, ?_⟩
    ·subst this
     subst e
     rw [Nat.beq_refl] at hb
     cases hb
    ·unfold Ev
     rw [hs]
     exact h
   | false =>
    rw [hs] at h
    rcases Vc h with h | ⟨h1, h2⟩
    ·exact .inl h
    ·refine .inr ⟨h1, ?_⟩
     unfold Ev
     rw [hs]
     exact h2
theorem lF {lb : LB} {k : Nat} (h : Pu lb k) : k ∈ W2 lb := by
 cases lb with
 | box ds ty => unfold W2; exact Tj.menL_dtoks h
 | row => exact h.elim
 | map => exact h.elim
 | mit k' n s => have h : k = k' := h; subst h; exact List.mem_singleton.2 rfl
 | vec ds e => unfold W2; exact Tj.menL_dtoks h
theorem kU {α : Type} {f : α -> List C} {sz : Nat} (hf : ∀ x, (f x).length = sz) {l : List α} {n : Nat} (hn : n <= l.length) : (Aq f l).take (n * sz) = Aq f (l.take n) := by
 have := iS hf l 0 n (Nat.zero_le _) hn
 simpa using this
theorem aBy {α : Type} {f : α -> List C} {L : List α} {cx : Cx} {fl : List (Nat × DV)} {ll : List (Nat × LB)} {N : Nat} (t k : Nat) {n e sz : Nat} (hf : ∀ x, (f x).length = sz) (hn : n <= L.length) (hF : Ev fl t = some (.part k 0 n)) (hL : Ev ll k = some (.row e sz (Aq f L)))
  (hk : Nat.ble cx.np k = true) (hc : aBa t k fl ll = true) : Ns cx (mk fl ll N) (mk (kA t k fl) (jT k (.row e sz (Aq f (L.take n))) ll) N) := by
 unfold aBa at hc
 rw [Bool.and_eq_true, List.all_eq_true, List.all_eq_true] at hc
 refine Ns.cut (t := t) (k := k) (n := n) (e := e) (sz := sz) (cs := Aq f L) (Nat.le_of_ble_eq_true hk) hF hL (by rw [Gv hf]; exact Nat.mul_le_mul_right _ hn) (fun s d hs => ?_) (fun j lb hj => ?_) fun _ => rfl
 ·rcases Uq hs with ⟨rfl, rfl⟩ | ⟨h1, h2⟩
  ·exact .inl ⟨rfl, rfl⟩
  ·refine .inr ⟨h2, fun hm => ?_⟩
   have := hc.1 _ (Hn h2)
   rw [Bool.or_eq_true] at this
   rcases this with h | h
   ·exact h1 (Nat.eq_of_beq_eq_true h)
   ·have hm' := Tj hm
    simp at h
    exact h hm'
 ·rcases Vc hj with ⟨rfl, rfl⟩ | ⟨h1, h2⟩
  ·refine .inl ⟨rfl, ?_⟩
   rw [kU hf hn]
  ·refine .inr ⟨h1, h2, fun hm => ?_⟩
   have := hc.2 _ (Hn h2)
   rw [Bool.or_eq_true] at this
   rcases this with h | h
   ·exact h1 (Nat.eq_of_beq_eq_true h)
   ·have hm' := lF hm
    simp at h
    exact h hm'
end Go.Proofs.YtkoflhimdenjaaaGreat
