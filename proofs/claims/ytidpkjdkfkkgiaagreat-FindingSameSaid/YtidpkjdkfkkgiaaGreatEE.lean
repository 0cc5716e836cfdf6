import Derived.Test.YtidpkjdkfkkgiaaGreatED
import Derived.KernelRfl
import Derived.Test.YtidpkjdkfkkgiaaGreatPU
import Derived.Scope
set_option linter.unusedVariables false
set_option linter.unusedSimpArgs false
namespace Go.Proofs.YtidpkjdkfkkgiaaGreat
open Go.RowKit
section
variable {Q : Exit -> St -> Prop} {next : St -> Prop} {σ : St} {i j : Nat}
theorem oK (h : Q .normal σ) : vO i Q (.exit i) σ := by
 show (if i = i then _ else _)
 rw [if_pos rfl]
 exact h
theorem mB (hne : j ≠ i) (h : Q (.exit j) σ) : vO i Q (.exit j) σ := by
 show (if j = i then _ else _)
 rw [if_neg hne]
 exact h
end
theorem uL {P : Program} {t ty : TypeId} {s : ByteArray} (h : P.underlying t = some .string) : ∀ w, ∀ cs, (builtin .len #[t] ty cs #[.string s]).run P w = .ok (.value (.int .i64 s.size)) w := fun w cs => by
 simp [builtin, Builtin.len_, run_underlying h, goInt]
section
variable {P : Program} {t : TypeId} {X Y : Operand}
end
section
variable {P : Program} {t : TypeId} {X Y : Operand} {k : IntKind} {x y : Int}
end
section
variable {P : Program} {t : TypeId} {X Y : Operand} {a b : ByteArray}
end
theorem Fq {θ : List (Nat × Nat)} {j : Nat} (h : (θ.all fun q => !Nat.beq q.2 j) = true) : ∀ k, Fj θ k ≠ some j := fun k hk => by
 have := List.all_eq_true.1 h _ (H0 hk)
 simp at this
theorem Bo {P : Program} {cx : Cx} {x y : Code} {Q : Exit -> St -> Prop} {σ : St} {ι : Type} (mid : ι -> St) (ok : ι -> Prop) (hx : B2 P cx x (oE (fun σ' => ∃ i, ok i /\ P3 cx σ' (mid i)) Q) σ) (hy : ∀ i, ok i -> B2 P cx y Q (mid i)) : B2 P cx (.seq x y) Q σ := by
 refine Aj (qH ?_ hx)
 intro e σ' h
 cases e with
 | normal =>
  obtain ⟨i, h1, h2⟩ := h
  exact E3 h2 (hy i h1)
 | _ => exact h
end Go.Proofs.YtidpkjdkfkkgiaaGreat
namespace Go.Proofs.YtidpkjdkfkkgiaaGreat
open Go.RowKit
mutual
def qW (j : Nat) : DV -> Bool
 | .part k _ _ => !Nat.beq k j
 | .ptr k _ => !Nat.beq k j
 | .agg ds => Zp j ds
 | .tup ds => Zp j ds
 | .clo _ _ ds => Zp j ds
 | .val _ => true
 | .sl _ _ => true
 | .slc _ _ => true
 | .mp _ => true
 | .elt _ => true
 | .row _ => true
def Zp (j : Nat) : List DV -> Bool
 | [] => true
 | d :: ds => qW j d && Zp j ds
end
mutual
def K2 (j sz : Nat) (cs : List C) : DV -> DV
 | .row k => bif Nat.beq k j then .sl sz cs else .row k
 | .agg ds => .agg (Px j sz cs ds)
 | .tup ds => .tup (Px j sz cs ds)
 | .clo f n ds => .clo f n (Px j sz cs ds)
 | .val v => .val v
 | .sl s c => .sl s c
 | .slc s c => .slc s c
 | .mp l => .mp l
 | .elt c => .elt c
 | .part k o n => .part k o n
 | .ptr k i => .ptr k i
def Px (j sz : Nat) (cs : List C) : List DV -> List DV
 | [] => []
 | d :: ds => K2 j sz cs d :: Px j sz cs ds
end
def St.frz (σ : St) (j sz : Nat) (cs : List C) : St where
 F := fun t => match σ.F t with | some d => bif qW j d then some (K2 j sz cs d) else none | none => none
 L := fun k => bif Nat.beq k j then none else match σ.L k with | some (.box ds ty) => (bif Zp j ds then some (.box (Px j sz cs ds) ty) else none) | some (.row e s c) => some (.row e s c) | _ => none
 U := σ.U
theorem Sj {a b : Nat} (h : Nat.beq a b = false) : a ≠ b := fun e => by
 subst e
 rw [Nat.beq_refl] at h; cases h
section
variable {σ : St} {j e sz : Nat} {cs : List C}
abbrev nV (j : Nat) (k : Nat) : Option Nat := if k = j then none else some k
mutual
theorem Cv.frzD (h : σ.L j = some (.row e sz cs)) : ∀ d, qW j d = true -> Cv σ (nV j) d (Go.Proofs.YtidpkjdkfkkgiaaGreat.K2 j sz cs d)
 | .val v, _ => by unfold Go.Proofs.YtidpkjdkfkkgiaaGreat.K2; exact .val v
 | .sl _ _, _ => by unfold Go.Proofs.YtidpkjdkfkkgiaaGreat.K2; exact .sl _ _
 | .slc _ _, _ => by unfold Go.Proofs.YtidpkjdkfkkgiaaGreat.K2; exact .slcc _ _
 | .mp _, _ => by unfold Go.Proofs.YtidpkjdkfkkgiaaGreat.K2; exact .mp _
 | .elt _, _ => by unfold Go.Proofs.YtidpkjdkfkkgiaaGreat.K2; exact .elt _
 | .row k, _ => by
  unfold Go.Proofs.YtidpkjdkfkkgiaaGreat.K2
  cases hb : Nat.beq k j with
  | true =>
   have := Nat.eq_of_beq_eq_true hb
   subst this
   refine .frz h fun k' hk' => ?_
   unfold nV at hk'
   split at hk'
   ·cases hk'
   ·rename_i hne
    injection hk' with hk'
    exact hne hk'
  | false => exact .row (if_neg (Sj hb))
 | .part k _ _, hn => by
  unfold qW at hn
  unfold Go.Proofs.YtidpkjdkfkkgiaaGreat.K2
  exact .part (if_neg (Sj (by simpa using hn)))
 | .ptr k _, hn => by
  unfold qW at hn
  unfold Go.Proofs.YtidpkjdkfkkgiaaGreat.K2
  exact .ptr (if_neg (Sj (by simpa using hn)))
 | .agg ds, hn => by
  unfold qW at hn
  unfold Go.Proofs.YtidpkjdkfkkgiaaGreat.K2
  exact .agg (Q8.frzDs h ds hn)
 | .tup ds, hn => by
  unfold qW at hn
  unfold Go.Proofs.YtidpkjdkfkkgiaaGreat.K2
  exact .tup (Q8.frzDs h ds hn)
 | .clo f n ds, hn => by
  unfold qW at hn
  unfold Go.Proofs.YtidpkjdkfkkgiaaGreat.K2
  exact .clo f n (Q8.frzDs h ds hn)
theorem Q8.frzDs (h : σ.L j = some (.row e sz cs)) : ∀ ds, Zp j ds = true -> Q8 σ (nV j) ds (Go.Proofs.YtidpkjdkfkkgiaaGreat.Px j sz cs ds)
 | [], _ => by unfold Go.Proofs.YtidpkjdkfkkgiaaGreat.Px; exact .nil
 | d :: ds, hn => by
  unfold Zp at hn
  simp only [Bool.and_eq_true] at hn
  unfold Go.Proofs.YtidpkjdkfkkgiaaGreat.Px
  exact .cons (Cv.frzD h d hn.1) (Q8.frzDs h ds hn.2)
end
mutual
theorem kR : ∀ (d : DV) (k : Nat), men (K2 j sz cs d) k -> men d k
 | .val _, k, h => by unfold K2 men at h; exact h.elim
 | .sl _ _, k, h => by unfold K2 men at h; exact h.elim
 | .slc _ _, k, h => by unfold K2 men at h; exact h.elim
 | .mp _, k, h => by unfold K2 men at h; exact h.elim
 | .elt _, k, h => by unfold K2 men at h; exact h.elim
 | .row i, k, h => by
  unfold K2 at h
  cases hb : Nat.beq i j with
  | true => rw [hb] at h; simp only [cond_true] at h; unfold men at h; exact h.elim
  | false => rw [hb] at h; exact h
 | .part _ _ _, k, h => by unfold K2 at h; exact h
 | .ptr _ _, k, h => by unfold K2 at h; exact h
 | .agg ds, k, h => by unfold K2 men at h; unfold men; exact Rx ds k h
 | .tup ds, k, h => by unfold K2 men at h; unfold men; exact Rx ds k h
 | .clo _ _ ds, k, h => by unfold K2 men at h; unfold men; exact Rx ds k h
theorem Rx : ∀ (ds : List DV) (k : Nat), E9 (Px j sz cs ds) k -> E9 ds k
 | [], k, h => by unfold Px E9 at h; exact h.elim
 | d :: ds, k, h => by
  unfold Px E9 at h
  unfold E9
  exact h.imp (kR d k) (Rx ds k)
end
theorem vR {t : Nat} {d' : DV} (h : (σ.frz j sz cs).F t = some d') : ∃ d, σ.F t = some d /\ qW j d = true /\ d' = K2 j sz cs d := by
 have h' : (match σ.F t with | some d => bif qW j d then some (K2 j sz cs d) else none | none => none) = some d' := h
 cases hF : σ.F t with
 | none => rw [hF] at h'; cases h'
 | some d =>
  rw [hF] at h'
  cases hn : qW j d with
  | false => simp only [hn, cond_false] at h'; cases h'
  | true => simp only [hn, cond_true] at h'; injection h' with h'; exact ⟨d, rfl, hn, h'.symm⟩
theorem vG {k : Nat} {lb' : LB} (h : (σ.frz j sz cs).L k = some lb') : k ≠ j /\ ((∃ ds ty, σ.L k = some (.box ds ty) /\ Zp j ds = true /\ lb' = .box (Px j sz cs ds) ty) \/ ∃ e s c, σ.L k = some (.row e s c) /\ lb' = .row e s c) := by
 have h' : (bif Nat.beq k j then none else match σ.L k with | some (.box ds ty) => (bif Zp j ds then some (LB.box (Px j sz cs ds) ty) else none) | some (.row e s c) => some (.row e s c) | _ => none) = some lb' := h
 cases hb : Nat.beq k j with
 | true => rw [hb] at h'; cases h'
 | false =>
  refine ⟨Sj hb, ?_⟩
  rw [hb] at h'
  simp only [cond_false] at h'
  cases hL : σ.L k with
  | none => rw [hL] at h'; cases h'
  | some lb =>
   rw [hL] at h'
   cases lb with
   | row e s c => simp only [] at h'; injection h' with h'; exact .inr ⟨e, s, c, rfl, h'.symm⟩
   | map l => cases h'
   | mit k' n s => cases h'
   | vec ds e => cases h'
   | box ds ty =>
    simp only [] at h'
    cases hn : Zp j ds with
    | false => rw [hn] at h'; cases h'
    | true => rw [hn] at h'; injection h' with h'; exact .inl ⟨ds, ty, rfl, hn, h'.symm⟩
theorem P3.frz {cx : Cx} (h : σ.L j = some (.row e sz cs)) (hj : Nat.ble cx.np j = true) : P3 cx σ (σ.frz j sz cs) := by
 rintro a w ⟨ρ, ha⟩
 have hj' : cx.np <= j := Nat.le_of_ble_eq_true hj
 refine ⟨_, (ha.ren (σ' := σ.frz j sz cs) (nV j) (fun t d' hd => ?_) (fun k lb' hl => ?_) (fun k k' i h1 h2 => ?_) (fun k hk => ⟨if_neg (by omega), (ha.pin k hk).2⟩) (fun t d k hd hm => ?_) (fun k lb hl => ?_)).1⟩
 ·obtain ⟨d, h1, h2, rfl⟩ := vR hd
  exact ⟨d, h1, Cv.frzD h d h2⟩
 ·obtain ⟨hne, h1⟩ := vG hl
  refine .inl ?_
  rcases h1 with ⟨ds, ty, h1, h2, rfl⟩ | ⟨e', s, c, h1, rfl⟩
  ·exact ⟨k, _, if_neg hne, h1, rfl, Q8.frzDs h ds h2⟩
  ·exact ⟨k, _, if_neg hne, h1, rfl, rfl, rfl⟩
 ·unfold nV at h1 h2
  split at h1
  ·cases h1
  ·split at h2
   ·cases h2
   ·injection h1 with h1
    injection h2 with h2
    omega
 ·obtain ⟨d', h1, h2, rfl⟩ := vR hd
  exact ha.usedF t d' k h1 (kR d' k hm)
 ·obtain ⟨hne, h1⟩ := vG hl
  rcases h1 with ⟨ds, ty, h1, h2, rfl⟩ | ⟨e', s, c, h1, rfl⟩
  ·exact ⟨(ha.usedL k _ h1).1, fun k' hk' => (ha.usedL k _ h1).2 k' (Rx ds k' hk')⟩
  ·exact ⟨(ha.usedL k _ h1).1, fun k' hk' => hk'.elim⟩
end
section
variable {P : Program} {cx : Cx} {ops : Array Oper} {Q : Exit -> St -> Prop} {l : List Oper} {σ σ' : St}
def bO (P : Program) (cx : Cx) (ops : Array Oper) (Q : Exit -> St -> Prop) (l : List Oper) (σ : St) : Prop := ∀ a w, Jz cx σ a w -> wpList P ops (Q3 cx Q) l a w
theorem bO.sub (h : P3 cx σ σ') (k : bO P cx ops Q l σ') : bO P cx ops Q l σ := fun a w ha => k a w (h a w ha)
theorem bO.fin (h : Q .normal σ) : bO P cx ops Q [] σ := fun a w ha => ⟨σ, h, ha⟩
variable {S : rT P cx} {nb nb' : Nat}
theorem U4 {l2 : List Oper} : ∀ (l : List Oper) (k : Nat) (lg : gB) (σ : St) (a : Act) (w : World), Chain S ops none nb (D8 k l) lg σ (fun σ' => (∀ j, nb' <= j -> σ'.U j = false) -> bO P cx ops Q l2 σ') -> Ur nb (D8 k l) σ -> qM cx (D8 k l) -> (∀ j, nb' <= j -> σ.U j = false) -> nb + 8 * (k + l.length) <= nb' -> Jz cx σ a w -> wpList P ops (Q3 cx Q) (l ++ l2) a w
 | [], k, lg, σ, a, w, h, _, _, B, _, ha => h B a w ha
 | o :: l, k, lg, σ, a, w, h, hf, hd, B, hn, ⟨ρ, ha⟩ => by
  have hf0 := hf (k, o) (by simp [D8])
  have hd0 := hd (k, o) (by simp [D8])
  have hf1 : Ur nb (D8 (k + 1) l) σ := fun q hq => hf q (by simp [D8, hq])
  have hd1 : qM cx (D8 (k + 1) l) := fun q hq => hd q (by simp [D8, hq])
  have hne : ∀ q ∈ D8 (k + 1) l, q.1 ≠ k := fun q hq => by have := (R9 hq).1; omega
  have hn' : nb + 8 * (k + 1 + l.length) <= nb' := by simp at hn; omega
  have hUn : ∀ {e : Lc} {wr : List Nat} {rd : List Nat}, (∀ j, e.l j ≠ none -> j ∈ wr \/ (nb + 8 * k <= j /\ j < nb + 8 * k + 8)) -> (∀ j, j ∈ wr -> j ∈ rd) -> (∀ j, j ∈ rd -> σ.U j = true) -> ∀ j, nb' <= j -> (σ.app o.dst e).U j = false := fun {e wr rd} hk hs hu j hj => by
   cases hc : (σ.app o.dst e).U j with
   | false => rfl
   | true =>
    rcases jG hc with h1 | h1
    ·rw [B j hj] at h1; cases h1
    ·rcases hk j h1 with h2 | h2
     ·exact absurd (hu j (hs j h2)) (by rw [B j hj]; simp)
     ·simp at hn; omega
  show wpList P ops (Q3 cx Q) (o :: (l ++ l2)) a w
  unfold wpList
  rcases h with ⟨rd, wr, e, h1, -, h3⟩ | ⟨rd, wr, E, h1, -, -, h3⟩
  ·have hs := h1.sound ha hf0 hd0
   have := hs (wpList P ops (Q3 cx Q) (l ++ l2)) (Q3 cx Q) fun a' w' ha' => U4 l (k + 1) _ _ a' w' h3 (hf1.next h1.key.1 (fun j hj => h1.used ha j (h1.key.2 j hj)) hne) hd1 (hUn h1.key.1 h1.key.2 (h1.used ha)) hn' ha'
   split
   ·rename_i hw
    rw [if_pos hw] at this
    exact .inl this
   ·rename_i hw
    rw [if_neg hw] at this
    exact this
  ·have := h1.sound ha hf0 hd0 (wpList P ops (Q3 cx Q) (l ++ l2)) (Q3 cx Q) fun e a' w' he ha' => U4 l (k + 1) _ _ a' w' (h3 e he) (hf1.next (h1.key.1 e he) (fun j hj => h1.used ha j (h1.key.2 j hj)) hne) hd1 (hUn (h1.key.1 e he) h1.key.2 (h1.used ha)) hn' ha'
   split
   ·rename_i hw
    rw [if_pos hw] at this
    exact .inl this
   ·rename_i hw
    rw [if_neg hw] at this
    exact this
theorem bO.chain (S : rT P cx) (m nb nb' : Nat) (B : ∀ k, nb <= k -> σ.U k = false) (hn : Nat.ble (nb + 8 * (l.take m).length) nb' = true) (hd : iQ cx.N (l.take m) = true)
  (h : Chain S ops none nb (D8 0 (l.take m)) [] σ (fun σ' => (∀ j, nb' <= j -> σ'.U j = false) -> bO P cx ops Q (l.drop m) σ')) : bO P cx ops Q l σ := by
 intro a w ha
 have hn' : nb + 8 * (l.take m).length <= nb' := Nat.le_of_ble_eq_true hn
 have := U4 (l2 := l.drop m) (l.take m) 0 [] σ a w h (fun q hq j hj => B _ (by omega)) (U9 hd) (fun j hj => B j (by omega)) (by simpa using hn') ha
 rwa [List.take_append_drop] at this
end
section
variable {P : Program} {f : FuncId} {args : List DV}
theorem Fn.plain {v : Value} {R : DV -> List LB -> Prop} {vs : List Value} {w : World} (h : Fn P f 0 args [] R) (hR : ∀ r b, R r b -> r = .val v) (ρ : Nat -> Value) (I : Nat -> Prop) (hI : ∀ b, I b -> b < w.heap.size) (hr : B0 ρ I w args vs) : Calls P f vs.toArray w fun e w' => e = .returned v /\ Xe w w' := by
 refine (h.2.2 ρ I w vs (fun b hb => ⟨hI b hb, fun k hk => by simp at hk⟩) hr (fun k lb h => by simp at h) (fun k k' b hk => by simp at hk)).mono ?_
 rintro e w' ⟨u, r, b, rfl, h1, h2⟩
 obtain ⟨-, ⟨o1, o2, o3, o4⟩, hk, ⟨ρ', J, -, -, hrep, -⟩, -⟩ := h2
 rw [hR r b h1] at hrep
 unfold Cq at hrep
 rw [hrep.1]
 exact ⟨rfl, o1, o2, o3, o4, fun b hb => hk b hb fun k hk => by simp at hk⟩
end
end Go.Proofs.YtidpkjdkfkkgiaaGreat
namespace Go.Proofs.YtidpkjdkfkkgiaaGreat
open Go.RowKit
def noG (Q : Exit -> St -> Prop) : Exit -> St -> Prop
 | .normal, σ => Q .normal σ
 | .exit i, σ => Q (.exit i) σ
 | .goto _, _ => False
 | .ret, σ => Q .ret σ
 | .panic c, σ => Q (.panic c) σ
 | .outgrown, σ => Q .outgrown σ
def Aq {α : Type} (f : α -> List C) (l : List α) : List C := l.flatMap f
def eI (x : Int) : List C := [.int .i64 x]
def eK (k : IntKind) (x : Int) : List C := [.int k x]
def e8 (x : UInt8) : List C := [.int .u8 (x.toNat : Int)]
def eS (x : ByteArray) : List C := [.str x]
def eB (x : Bool) : List C := [.bool x]
def eL {α : Type} (sz : Nat) (f : α -> List C) (l : List α) : List C := [.sl sz (Aq f l)]
theorem It (x : Int) : (eI x).length = 1 := rfl
theorem aAm (k : IntKind) (x : Int) : (eK k x).length = 1 := rfl
theorem Jb (x : UInt8) : (e8 x).length = 1 := rfl
theorem cW (x : ByteArray) : (eS x).length = 1 := rfl
theorem aAd (x : Bool) : (eB x).length = 1 := rfl
theorem hZ {α : Type} (sz : Nat) (f : α -> List C) (l : List α) : (eL sz f l).length = 1 := rfl
section
variable {α : Type} {f : α -> List C} {sz : Nat}
theorem Gs (hf : ∀ x, (f x).length = sz) : ∀ (l : List α), (Aq f l).length = l.length * sz
 | [] => by simp [Aq]
 | x :: l => by
  have := Gs hf l
  unfold Aq at this ⊢
  rw [List.flatMap_cons, List.length_append, hf, this, List.length_cons, Nat.add_mul, Nat.one_mul, Nat.add_comm]
theorem Kg (l m : List α) : Aq f (l ++ m) = Aq f l ++ Aq f m := by unfold Aq; rw [List.flatMap_append]
theorem Qg {l : List α} {j : Nat} {x : α} (hx : l[j]? = some x) : Aq f l = Aq f (l.take j) ++ (f x ++ Aq f (l.drop (j + 1))) := by
 have hj := (List.getElem?_eq_some_iff.1 hx).1
 have hxe := (List.getElem?_eq_some_iff.1 hx).2
 have e1 : l = l.take j ++ (x :: l.drop (j + 1)) := by
  rw [<- hxe, List.getElem_cons_drop, List.take_append_drop]
 rw [show Aq f l = Aq f (l.take j ++ (x :: l.drop (j + 1))) from congrArg _ e1, Kg]
 rfl
theorem Mw (hf : ∀ x, (f x).length = sz) {l : List α} {j : Nat} (hj : j <= l.length) : (Aq f (l.take j)).length = j * sz := by
 rw [Gs hf, List.length_take, Nat.min_eq_left hj]
theorem bA (hf : ∀ x, (f x).length = sz) {l : List α} {j : Nat} {x : α} (hx : l[j]? = some x) : j * sz + sz <= (Aq f l).length := by
 have hj := (List.getElem?_eq_some_iff.1 hx).1
 rw [Gs hf]
 have : (j + 1) * sz <= l.length * sz := Nat.mul_le_mul_right _ hj
 rw [Nat.add_mul, Nat.one_mul] at this
 exact this
theorem Tp (hf : ∀ x, (f x).length = sz) {l : List α} {j o : Nat} {x : α} (hx : l[j]? = some x) (ho : o < sz) {a : Nat} (ha : a = j * sz + o) : a < (Aq f l).length := by
 have := bA hf hx
 omega
theorem Yh (hf : ∀ x, (f x).length = sz) {l : List α} {j o : Nat} {x : α} (hx : l[j]? = some x) (ho : o <= sz) : (Aq f l).drop (j * sz + o) = (f x).drop o ++ Aq f (l.drop (j + 1)) := by
 have hj := (List.getElem?_eq_some_iff.1 hx).1
 have ht := Mw hf (l := l) (j := j) (by omega)
 rw [Qg hx, <- ht, <- List.drop_drop, List.drop_left, List.drop_append_of_le_length (by rw [hf]; exact ho)]
theorem Gt (hf : ∀ x, (f x).length = sz) {l : List α} {j o : Nat} {x : α} {c : C} (hx : l[j]? = some x) (hc : (f x)[o]? = some c) {a : Nat} (ha : a = j * sz + o) : (Aq f l)[a]? = some c := by
 subst ha
 have ho : o < sz := by rw [<- hf x]; exact (List.getElem?_eq_some_iff.1 hc).1
 have e1 := Yh hf hx (Nat.le_of_lt ho)
 have e2 : (Aq f l)[j * sz + o]? = ((Aq f l).drop (j * sz + o))[0]? := by rw [List.getElem?_drop]; rfl
 rw [e2, e1, List.getElem?_append_left (by rw [List.length_drop, hf]; omega), List.getElem?_drop]
 exact hc
theorem In (hf : ∀ x, (f x).length = sz) {l : List α} {j o m : Nat} {x : α} {cs : List C} (hx : l[j]? = some x) (hs : ((f x).drop o).take m = cs) (ho : o + m <= sz) {a : Nat} (ha : a = j * sz + o) : ((Aq f l).drop a).take m = cs := by
 subst ha
 rw [Yh hf hx (by omega), List.take_append_of_le_length (by rw [List.length_drop, hf]; omega)]
 exact hs
theorem Fh (hf : ∀ x, (f x).length = sz) {l : List α} {j o m : Nat} {x : α} (hx : l[j]? = some x) (ho : o + m <= sz) {a : Nat} (ha : a = j * sz + o) : a + m <= (Aq f l).length := by
 have := bA hf hx
 omega
theorem Xr (hf : ∀ x, (f x).length = sz) {l : List α} {j o : Nat} {x x' : α} {cs : List C} (hx : l[j]? = some x) (ho : o + cs.length <= sz) (hs : Df (f x) o cs = f x') {a : Nat} (ha : a = j * sz + o) : Df (Aq f l) a cs = Aq f (Cs l j x') := by
 subst ha
 have hj := (List.getElem?_eq_some_iff.1 hx).1
 have ht := Mw hf (l := l) (j := j) (by omega)
 have hset : Aq f (Cs l j x') = Aq f (l.take j) ++ (f x' ++ Aq f (l.drop (j + 1))) := by
  have : (Cs l j x')[j]? = some x' := by unfold Cs; rw [List.getElem?_set_self hj]
  rw [Qg this]
  unfold Cs
  rw [List.take_set_of_le (Nat.le_refl _), List.drop_set_of_lt (by omega)]
 rw [hset, <- hs]
 unfold Df
 have e1 : (Aq f l).take (j * sz + o) = Aq f (l.take j) ++ (f x).take o := by
  rw [Qg hx, List.take_append, ht, Nat.add_sub_cancel_left, List.take_of_length_le (by rw [ht]; omega)]
  congr 1
  rw [List.take_append_of_le_length (by rw [hf]; omega)]
 have e2 : (Aq f l).drop (j * sz + o + cs.length) = (f x).drop (o + cs.length) ++ Aq f (l.drop (j + 1)) := by
  rw [Nat.add_assoc, Yh hf hx ho]
 rw [e1, e2]
 simp only [List.append_assoc]
theorem aW (hf : ∀ x, (f x).length = sz) (l : List α) (i j : Nat) (hij : i <= j) (hj : j <= l.length) : ((Aq f l).drop (i * sz)).take ((j - i) * sz) = Aq f ((l.drop i).take (j - i)) := by
 have e0 : Aq f l = Aq f (l.take i) ++ Aq f (l.drop i) := by rw [<- Kg, List.take_append_drop]
 have e1 : Aq f (l.drop i) = Aq f ((l.drop i).take (j - i)) ++ Aq f ((l.drop i).drop (j - i)) := by rw [<- Kg, List.take_append_drop]
 rw [e0]
 have ht := Mw hf (l := l) (j := i) (by omega)
 have hd : ((Aq f (l.take i)) ++ Aq f (l.drop i)).drop (i * sz) = Aq f (l.drop i) := by rw [<- ht, List.drop_left]
 rw [hd, e1]
 have ht2 := Mw hf (l := l.drop i) (j := j - i) (by rw [List.length_drop]; omega)
 rw [<- ht2, List.take_left]
theorem eW (hf : ∀ x, (f x).length = sz) (l : List α) (i n : Nat) (hn : i + n <= l.length) : ((Aq f l).drop (i * sz)).take (n * sz) = Aq f ((l.drop i).take n) := by
 have := aW hf l i (i + n) (by omega) (by omega)
 rw [Nat.add_sub_cancel_left] at this
 exact this
end
theorem aB6 (l : List UInt8) : Aq e8 l = Iw l := by
 induction l with
 | nil => rfl
 | cons x l ih =>
  show e8 x ++ Aq e8 l = _
  rw [ih]
  rfl
section
variable {P : Program} {tk : Nat} {t ty yt : TypeId} {X Y : Operand} {b1 b2 : Option LB} {k : IntKind} {x y : Int}
theorem aC1 : Fi P tk (.binOp .lss t X Y yt) ty [(.val (.int k x), b1), (.val (.int k y), b2)] [] (v0 (.val (.bool (decide (x < y))))) := .binOp (fun _ _ => rfl) yM
theorem aCw : Fi P tk (.binOp .leq t X Y yt) ty [(.val (.int k x), b1), (.val (.int k y), b2)] [] (v0 (.val (.bool (decide (x <= y))))) := .binOp (fun _ _ => rfl) zG
theorem aCn : Fi P tk (.binOp .gtr t X Y yt) ty [(.val (.int k x), b1), (.val (.int k y), b2)] [] (v0 (.val (.bool (decide (y < x))))) := .binOp (fun _ _ => rfl) xL
theorem aCk : Fi P tk (.binOp .geq t X Y yt) ty [(.val (.int k x), b1), (.val (.int k y), b2)] [] (v0 (.val (.bool (decide (y <= x))))) := .binOp (fun _ _ => rfl) yD
theorem aC4 : Fi P tk (.binOp .eql t X Y yt) ty [(.val (.int k x), b1), (.val (.int k y), b2)] [] (v0 (.val (.bool (decide (x = y))))) := .binOp (fun _ _ => rfl) aAf
theorem aDe : Fi P tk (.binOp .neq t X Y yt) ty [(.val (.int k x), b1), (.val (.int k y), b2)] [] (v0 (.val (.bool (!decide (x = y))))) := .binOp (fun _ _ => rfl) (fun w => by rw [xG w, decide_not])
theorem Z3 (x : Int) : IntKind.i64.wrap x = W x := by rw [IntKind.wrap_i64]; unfold W; omega
theorem okW (x : Int) : Es (.int .i64 (W x)) = true := Ht.2 (Pm (jZ x))
theorem aCx (x : Int) : IntKind.u8.wrap x = ((u8 x).toNat : Int) := by rw [IntKind.wrap_u8, fL]
theorem ok8 (x : UInt8) : Es (.int .u8 (x.toNat : Int)) = true := Ht.2 (fW ⟨by omega, by have := x.toNat_lt; omega⟩)
theorem vW : Fi P tk (.binOp .add t X Y yt) ty [(.val (.int .i64 x), b1), (.val (.int .i64 y), b2)] [] (v0 (.val (.int .i64 (W (x + y))))) := .binOp (fun _ _ => okW _) (fun w => by rw [uV w, Z3])
theorem aCi : Fi P tk (.binOp .sub t X Y yt) ty [(.val (.int .i64 x), b1), (.val (.int .i64 y), b2)] [] (v0 (.val (.int .i64 (W (x - y))))) := .binOp (fun _ _ => okW _) (fun w => by rw [jB w, Z3])
theorem aCa : Fi P tk (.binOp .mul t X Y yt) ty [(.val (.int .i64 x), b1), (.val (.int .i64 y), b2)] [] (v0 (.val (.int .i64 (W (x * y))))) := .binOp (fun _ _ => okW _) (fun w => by rw [jO w, Z3])
theorem rM (x y : Int) : (x.tmod y).natAbs <= x.natAbs := by
 rw [Int.natAbs_tmod]
 exact Nat.mod_le _ _
theorem iP {x y : Int} (h : -9223372036854775808 <= x /\ x <= 9223372036854775807) : -9223372036854775808 <= x.tmod y /\ x.tmod y <= 9223372036854775807 := by
 have h0 := rM x y
 rcases Int.le_total 0 x with hx | hx
 ·have h1 := Int.tmod_nonneg y hx
  omega
 ·have e : x.tmod y = -((-x).tmod y) := by rw [Int.neg_tmod]; omega
  have h1 := Int.tmod_nonneg y (show 0 <= -x by omega)
  omega
theorem uG {n : Int} (h : Es (.int .i64 n) = true) : -9223372036854775808 <= n /\ n <= 9223372036854775807 := by
 have := Ht.1 h
 have h1 : IntKind.i64.min = -9223372036854775808 := by decide
 have h2 : IntKind.i64.max = 9223372036854775807 := by decide
 rw [h1, h2] at this
 exact this
theorem fK {z : Int} (h : Vl x y = some z) : Fi P tk (.binOp .rem t X Y yt) ty [(.val (.int .i64 x), b1), (.val (.int .i64 y), b2)] [] (v0 (.val (.int .i64 z))) := by
 obtain ⟨hy, rfl⟩ := lM h
 exact .binOp (fun h _ => Ht.2 (Pm (iP (uG h)))) (aAn hy)
theorem Rw {z : Int} (h : Ly x y = some z) : Fi P tk (.binOp .quo t X Y yt) ty [(.val (.int .i64 x), b1), (.val (.int .i64 y), b2)] [] (v0 (.val (.int .i64 z))) := by
 obtain ⟨hy, rfl⟩ := lD h
 exact .binOp (fun _ _ => okW _) (fun w => by rw [aBb hy w, Z3])
theorem Na {z : Int} (h : W (x + y) = z) : Fi P tk (.binOp .add t X Y yt) ty [(.val (.int .i64 x), b1), (.val (.int .i64 y), b2)] [] (v0 (.val (.int .i64 z))) := h ▸ vW
theorem aCl {b : Bool} : Fi P tk (.unOp .not t X) ty [(.val (.bool b), b1)] [] (v0 (.val (.bool (!b)))) := .unOp (fun _ => rfl) aA6
theorem wH {a b : Bool} (ht : P.underlying t = some .bool) : Fi P tk (.binOp .neq t X Y yt) ty [(.val (.bool a), b1), (.val (.bool b), b2)] [] (v0 (.val (.bool (!decide (a = b))))) := .binOp (fun _ _ => rfl) (fun w => by cases a <;> cases b <;> simp [eqGuard, binOp, Op.equal, Op.maxDepth, run_equalIn_bool', ht])
theorem aAo {a b : ByteArray} : Fi P tk (.binOp .eql t X Y yt) ty [(.val (.string a), b1), (.val (.string b), b2)] [] (v0 (.val (.bool (decide (a = b))))) := .binOp (fun _ _ => rfl) vB
theorem zR {a b : ByteArray} : Fi P tk (.binOp .neq t X Y yt) ty [(.val (.string a), b1), (.val (.string b), b2)] [] (v0 (.val (.bool (!decide (a = b))))) := .binOp (fun _ _ => rfl) (fun w => by rw [tD w, decide_not])
theorem oQ : ∀ (a b : List UInt8), Op.bytesLess a b = K1 a b
 | _, [] => by cases ‹List UInt8› <;> rfl
 | [], _ :: _ => rfl
 | a :: x, b :: y => by unfold Op.bytesLess K1; rw [oQ x y]
theorem aDc {a b c : ByteArray} (h : nJ a b = some c) : Fi P tk (.binOp .add t X Y yt) ty [(.val (.string a), b1), (.val (.string b), b2)] [] (v0 (.val (.string c))) := by
 obtain ⟨h1, rfl⟩ := mQ h
 refine .binOp (fun _ _ => Nt.2 ?_) (fun w => ?_)
 ·rw [ByteArray.size_append]; exact h1
 ·have h2 : ¬ (9223372036854775807 : Int) < ((a.size : Int) + (b.size : Int)) := by omega
  have hm : IntKind.i64.max = 9223372036854775807 := by decide
  simp [eqGuard, binOp, Op.stringOp, hm, h2]
theorem E2 {src dst : TypeId} (hs : P.underlying src = some (.int k)) (hd : P.underlying dst = some (.int .u8)) : Fi P tk (.convert src dst X) ty [(.val (.int k x), b1)] [] (v0 (.val (.int .u8 ((u8 x).toNat : Int)))) :=
 .conv (by unfold kI; rw [hs]) (by unfold kI; rw [hd]) (fun _ => ok8 _) (fun w => by rw [cH (by rw [hs]; rfl) hd w, aCx])
theorem Y7 {src dst : TypeId} (hs : P.underlying src = some (.int k)) (hd : P.underlying dst = some (.int .i64)) : Fi P tk (.convert src dst X) ty [(.val (.int k x), b1)] [] (v0 (.val (.int .i64 (W x)))) :=
 .conv (by unfold kI; rw [hs]) (by unfold kI; rw [hd]) (fun _ => okW _) (fun w => by rw [cH (by rw [hs]; rfl) hd w, Z3])
theorem lC {src dst : TypeId} {u : UInt8} (hs : P.underlying src = some (.int .u8)) (hd : P.underlying dst = some (.int .i64)) : Fi P tk (.convert src dst X) ty [(.val (.int .u8 (u.toNat : Int)), b1)] [] (v0 (.val (.int .i64 (u.toNat : Int)))) :=
 .conv (by unfold kI; rw [hs]) (by unfold kI; rw [hd]) (fun _ => Ht.2 (Pm ⟨by omega, by have := u.toNat_lt; omega⟩)) (fun w => by
  have := u.toNat_lt
  rw [cH (by rw [hs]; rfl) hd w, Z3, Ee (by omega)])
theorem zF {ts : Array TypeId} : ∀ w, ∀ cs, (builtin .max ts ty cs #[.int k x, .int k y]).run P w = .ok (.value (.int k (max x y))) w := fun w cs => by
 simp [builtin, Builtin.max_, Builtin.max2, go_sem]
 split <;> omega
theorem aCo {ts : Array TypeId} : Fi P tk (.call ⟨.builtin .max, #[X, Y], ts⟩) ty [(.val (.int k x), b1), (.val (.int k y), b2)] [] (v0 (.val (.int k (max x y)))) :=
 .callV2 (vx := .int k x) (vy := .int k y) (v := .int k (max x y)) (by decide) (fun h h' => by
  rcases Int.le_total x y with hxy | hxy
  ·rw [Int.max_eq_right hxy]; exact h'
  ·rw [Int.max_eq_left hxy]; exact h) zF
theorem tJ {Z : Operand} {c : Bool} {d1 d2 : DV} {b3 : Option LB} (h : c = true) : Fi P tk (.pick X Y Z) ty [(.val (.bool c), b1), (d1, b2), (d2, b3)] [] (v0 d1) := by subst h; exact .pick
theorem sB {Z : Operand} {c : Bool} {d1 d2 : DV} {b3 : Option LB} (h : c = false) : Fi P tk (.pick X Y Z) ty [(.val (.bool c), b1), (d1, b2), (d2, b3)] [] (v0 d2) := by subst h; exact .pick
theorem Tn {s : ByteArray} (h : P.underlying t = some .string) : Fi P tk (.call ⟨.builtin .len, #[X], #[t]⟩) ty [(.val (.string s), b1)] [] (v0 (.val (.int .i64 (s.size : Int)))) :=
 .callV1 (fun h => Ht.2 (Pm ⟨by omega, by have := Nt.1 h; unfold maxLen at this; omega⟩)) (uL h)
end
section
variable {P : Program} {tk : Nat} {t ty e sz bytes : Nat} {X Y : Operand} {b1 b2 : Option LB} {α : Type} {f : α -> List C} {l : List α} {n : Int} {k : IntKind} {j kr e' : Nat} {x : α}
theorem xQ (h : Ii P t e sz bytes) (hf : ∀ x, (f x).length = sz) : Fi P tk (.call ⟨.builtin .len, #[X], #[t]⟩) ty [(.sl sz (Aq f l), b1)] [] (v0 (.val (.int .i64 (l.length : Int)))) := .len h.elem (.sl h.hsz (Gs hf l))
theorem zX (h : Ii P t e sz bytes) (hf : ∀ x, (f x).length = sz) : Fi P tk (.call ⟨.builtin .len, #[X], #[t]⟩) ty [(.row kr, some (.row e' sz (Aq f l)))] [] (v0 (.val (.int .i64 (l.length : Int)))) := .len h.elem (.row h.hsz (Gs hf l))
theorem aA5 (h : Ii P t e sz bytes) (hf : ∀ x, (f x).length = sz) (hj : n = (j : Int)) (hx : l[j]? = some x) : Fi P tk (.indexAddr t X Y) ty [(.sl sz (Aq f l), b1), (.val (.int k n), b2)] [] (v0 (.elt ((Aq f l).drop (j * sz)))) := .idxS h hj (bA hf hx)
theorem aA8 (h : Ii P t e sz bytes) (hf : ∀ x, (f x).length = sz) (hj : n = (j : Int)) (hx : l[j]? = some x) : Fi P tk (.indexAddr t X Y) ty [(.row kr, some (.row e' sz (Aq f l))), (.val (.int k n), b2)] [] (v0 (.ptr kr (j * sz))) := .idxR h hj (bA hf hx)
theorem iV {a m : Nat} {b1 : Option LB} (h : Ii P t e sz bytes) (hj : n = (j : Int)) (hx : ((l.drop a).take m)[j]? = some x) : Fi P tk (.indexAddr t X Y) ty [(.part kr (a * sz) m, b1), (.val (.int k n), b2)] [] (v0 (.ptr kr ((a + j) * sz))) := by
 have hl := (List.getElem?_eq_some_iff.1 hx).1
 rw [List.length_take] at hl
 rw [Nat.add_mul]
 exact .idxP h hj (by omega)
theorem Sl {a m : Nat} (hx : ((l.drop a).take m)[j]? = some x) : l[a + j]? = some x := by
 rw [List.getElem?_take] at hx
 split at hx
 ·rwa [List.getElem?_drop] at hx
 ·cases hx
theorem N0 {s g off ft sz' : Nat} {ag : Bool} {cs : List C} {a : Nat} (h : Fd P s g off ft) (ht : Ty P ft ag sz') (hz : 0 < sz') (hl : a + off < cs.length) : Fi P tk (.fieldAddr s X g) ty [(.elt (cs.drop a), b1)] [] (v0 (.elt (cs.drop (a + off)))) := by
 have := Fi.fieldE (P := P) (tk := tk) (x := X) (ty := ty) (b := b1) h ht hz (cs := cs.drop a) (by rw [List.length_drop]; omega)
 rwa [List.drop_drop] at this
theorem Dy {sz' a : Nat} {cs : List C} {c : C} (ht : Ty P t false sz') (h : cs[a]? = some c) : Fi P tk (.load t X) ty [(.elt (cs.drop a), b1)] [] (v0 (Vz c)) := .loadE1 ht (by rw [List.getElem?_drop]; exact h)
theorem Eb {m a : Nat} {cs cs2 : List C} (ht : Ty P t true m) (h : (cs.drop a).take m = cs2) (hl : a + m <= cs.length) : Fi P tk (.load t X) ty [(.elt (cs.drop a), b1)] [] (v0 (.agg (cs2.map Vz))) := by
 subst h
 exact .loadEA ht (by rw [List.length_drop]; omega)
theorem Ua {m a s : Nat} {cs cs2 : List C} (ht : Ty P t true m) (h : (cs.drop a).take m = cs2) (hl : a + m <= cs.length) : Fi P tk (.load t X) ty [(.ptr kr a, some (.row e' s cs))] [] (v0 (.agg (cs2.map Vz))) := by
 subst h
 exact .loadRA ht hl
theorem eQ {i s : Nat} {cs cs' cs2 : List C} {ag : Bool} {d : DV} {sz' : Nat} {ck : List (Option Nat)} (ht : Ty P t ag sz') (hs : (Ct d).length = sz') (hi : i + sz' <= cs.length) (hk : J4 P 20 t = ck) (hd : Jw ck (Ct d) cs') (h : Df cs i cs' = cs2) : Fi P tk (.store t X Y) ty [(.ptr kr i, some (.row e' s cs)), (d, b2)] [kr] (kY kr (.row e' s cs2)) := by
 subst h
 exact .storeR ht hs hi hk hd
theorem D5 {d d' : DV × Option LB} {l' l2 : List α} {ks : List Nat} {kk : Nat} {cs cs' : List C} (hS : Ii P t e sz bytes) (hf : ∀ x, (f x).length = sz) (ht : sA d e sz cs ks) (hc : cs = Aq f l) (hs : dD d' sz cs') (hc' : cs' = Aq f l') (h : Jn kk l l' = some l2) (hk : sz * bytes = kk) : Fi P tk (.call ⟨.builtin .append, #[X, Y], #[t, t]⟩) ty [d, d'] ks (Mg tk (.row e sz (Aq f l2)) ks (.row tk)) := by
 subst hc hc'
 obtain ⟨h1, rfl⟩ := lY h
 rw [Kg]
 refine .append hS ht hs ?_
 rw [Gs hf, Gs hf, <- Nat.add_mul, Nat.mul_assoc, hk]
 exact h1
section
variable {lo hi : Operand} {a b : Int} {ka kb : IntKind} {b3 : Option LB} {m : List α}
theorem Vo (hS : Ii P t e sz bytes) (hf : ∀ x, (f x).length = sz) (h : dC l 0 b = some m) : Fi P tk (.slice t X none (some hi) none) ty [(.sl sz (Aq f l), b1), (.val (.int kb b), b2)] [] (v0 (.sl sz (Aq f m))) := by
 obtain ⟨i, j, hi', rfl, h1, h2, rfl⟩ := Yw h
 have : i = 0 := by omega
 subst this
 rw [<- aW hf l 0 j h1 h2]
 exact .sliS hS (Gs hf l) ⟨⟨_, _, _, rfl, rfl⟩, rfl⟩ ⟨h1, h2⟩
end
theorem cA {src dst : TypeId} {s : ByteArray} (hs : P.underlying src = some .string) (hd : P.underlying dst = some (.slice e)) (he : P.underlying e = some (.int .u8)) : Fi P tk (.convert src dst X) ty [(.val (.string s), b1)] [] (v0 (.sl 1 (Aq e8 (Im s)))) := by
 have := Fi.convB (P := P) (tk := tk) (x := X) (ty := ty) (b := b1) (s := s) hs hd he
 rw [<- aB6] at this
 exact this
end
theorem Cv.frzE {σ : St} {θ : Nat -> Option Nat} {j e sz : Nat} {cs : List C} (h : σ.L j = some (.row e sz cs)) (h' : (match σ.L j with | some _ => true | none => false) = true) (hn : ∀ k, θ k ≠ some j) : Cv σ θ (.row j) (.sl sz cs) := .frz h hn
end Go.Proofs.YtidpkjdkfkkgiaaGreat
namespace Go.Proofs.YtidpkjdkfkkgiaaGreat
open Go.RowKit
mutual
theorem jQ (f : Nat -> Nat) : ∀ d, Iz d = [] -> Kk f d = d
 | .row _, h => by simp [Iz] at h
 | .part _ _ _, h => by simp [Iz] at h
 | .ptr _ _, h => by simp [Iz] at h
 | .val _, _ => rfl
 | .sl _ _, _ => rfl
 | .slc _ _, _ => rfl
 | .mp _, _ => rfl
 | .elt _, _ => rfl
 | .agg ds, h => by unfold Iz at h; unfold Kk; rw [O7 f ds h]
 | .tup ds, h => by unfold Iz at h; unfold Kk; rw [O7 f ds h]
 | .clo _ _ ds, h => by unfold Iz at h; unfold Kk; rw [O7 f ds h]
theorem O7 (f : Nat -> Nat) : ∀ ds, Lx ds = [] -> Ml f ds = ds
 | [], _ => rfl
 | d :: ds, h => by
  unfold Lx at h
  have h1 := List.append_eq_nil_iff.1 h
  unfold Ml
  rw [jQ f d h1.1, O7 f ds h1.2]
end
def Ym : LB -> List Nat
 | .box ds _ => Lx ds
 | .row .. => []
 | .map _ => []
 | .mit k _ _ => [k]
 | .vec ds _ => Lx ds
theorem sC (f : Nat -> Nat) {lb : LB} (h : Ym lb = []) : lS f lb = lb := by
 cases lb with
 | box ds ty =>
  show LB.box (Ml f ds) ty = _
  rw [O7 f ds h]
 | row => rfl
 | map => rfl
 | mit => cases h
 | vec ds e =>
  show LB.vec (Ml f ds) e = _
  rw [O7 f ds h]
def gZ (ps gs : List Nat) (r : DV) (bx : List LB) : Lc := ⟨some r, fun k => match Fj (ps.zip bx) k with | some lb => some (some lb) | none => bif gs.any (Nat.beq k) then some none else none⟩
theorem fR {ps : List Nat} {tk : Nat} : ∀ {l : List Nat} {b : List LB} {i : Nat}, (∀ j, l[j]? = ps[i + j]?) -> b.length = l.length -> (∀ lb ∈ b, Ym lb = []) -> T3 ps tk i b = l.zip b
 | [], [], _, _, _, _ => rfl
 | x :: l, lb :: b, i, hl, hb, ht => by
  unfold T3
  have h0 := hl 0
  simp only [Nat.add_zero] at h0
  have e1 : H6 ps tk i = x := by
   unfold H6
   rw [<- h0]
   rfl
  rw [e1, sC _ (ht lb (List.mem_cons_self ..)), fR (l := l) (fun j => by have := hl (j + 1); rw [show i + 1 + j = i + (j + 1) by omega, <- this]; rfl) (by simpa using hb) fun lb h => ht lb (List.mem_cons_of_mem _ h)]
  rfl
 | [], _ :: _, _, _, h, _ => by simp at h
 | _ :: _, [], _, _, h, _ => by simp at h
theorem cI {ps gs : List Nat} {tk : Nat} {r : DV} {b : List LB} (hr : Iz r = []) (hl : b.length = ps.length) (hb : ∀ lb ∈ b, Ym lb = []) : R2 ps gs tk r b = gZ ps gs r b := by
 unfold R2 gZ
 rw [jQ _ _ hr, fR (l := ps) (fun j => by rw [Nat.zero_add]) hl hb]
 rfl
section
variable {P : Program} {cx : Cx} {ops : Array Oper} {Rt : Option (List Nat)} {nb i : Nat} {l : List Oper} {lg : gB} {σ : St} {Q : St -> Prop} {fz : List Nat}
theorem fB {dst : Option Tmp} {f : FuncId} {xs : Array Operand} {tys : Array TypeId} {ty : TypeId} {pos : String} {af : Array Edge} {g : Option (Nat × Bool)} {dsA : List (DV × Option LB)} {rd ps gs : List Nat} {args : List DV} {bx : List LB} {d : DV} {b : List LB} (fl : Bool)
  (G : Ji ops σ ⟨dst, .call ⟨.value (.func f), xs, tys⟩, ty, pos, af, g⟩ = some true)
  (hF : Fn P f ps.length args bx (fun d' b' => d' = d /\ b' = b)) (hds : Ei σ true xs.toList = some dsA) (hrd : Pq σ 3 (Q7 dsA) = rd) (hA : K3 fl (ps ++ gs) (Ko σ rd) (dsA.map (·.1)) args) (hB : Y1 fl (ps ++ gs) (Ko σ rd) (ps ++ gs) bx) (hnd : Qx cx.np ps gs = true) (hfl : fl = true -> J0 d /\ ∀ lb ∈ b, Q1 lb)
  (hok : Kb Rt i true (nb + 8 * i) rd (ps ++ gs) lg = true) (hr : Iz d = []) (hl : b.length = ps.length) (hb : b.flatMap Ym = [])
  (k : Chain (B8 P cx fz) ops Rt nb (D8 (i + 1) l) ((i, true, nb + 8 * i, rd, ps ++ gs) :: lg) (σ.app dst (gZ ps gs d b)) Q) :
  Chain (B8 P cx fz) ops Rt nb (D8 i (⟨dst, .call ⟨.value (.func f), xs, tys⟩, ty, pos, af, g⟩ :: l)) lg σ Q := by
 refine G9 fl G hF hds hrd hA hB hnd (fun h r b => ?_) hok (fun _ => ⟨_, _, ⟨rfl, rfl⟩, by omega, by omega⟩) fun r b => ?_
 ·rintro ⟨rfl, rfl⟩; exact hfl h
 ·rintro ⟨rfl, rfl⟩
  rw [cI hr hl fun lb h => ?_]
  ·exact k
  ·have := List.flatMap_eq_nil_iff.1 hb lb h
   exact this
theorem D2 {dst : Option Tmp} {t : Tmp} {f : FuncId} {q : Option LB} {xs : Array Operand} {tys : Array TypeId} {ty : TypeId} {pos : String} {af : Array Edge} {g : Option (Nat × Bool)} {dsA : List (DV × Option LB)} {rd ps gs : List Nat} {args : List DV} {bx : List LB} {d : DV} {b : List LB} (fl : Bool)
  (G : Ji ops σ ⟨dst, .call ⟨.value (.tmp t), xs, tys⟩, ty, pos, af, g⟩ = some true) (hc : ev σ true (.tmp t) = some (.val (.func (.func f) #[] #[]), q))
  (hF : Fn P f ps.length args bx (fun d' b' => d' = d /\ b' = b)) (hds : Ei σ true xs.toList = some dsA) (hrd : Pq σ 3 (Q7 dsA) = rd) (hA : K3 fl (ps ++ gs) (Ko σ rd) (dsA.map (·.1)) args) (hB : Y1 fl (ps ++ gs) (Ko σ rd) (ps ++ gs) bx) (hnd : Qx cx.np ps gs = true) (hfl : fl = true -> J0 d /\ ∀ lb ∈ b, Q1 lb)
  (hok : Kb Rt i true (nb + 8 * i) rd (ps ++ gs) lg = true) (hr : Iz d = []) (hl : b.length = ps.length) (hb : b.flatMap Ym = [])
  (k : Chain (B8 P cx fz) ops Rt nb (D8 (i + 1) l) ((i, true, nb + 8 * i, rd, ps ++ gs) :: lg) (σ.app dst (gZ ps gs d b)) Q) :
  Chain (B8 P cx fz) ops Rt nb (D8 i (⟨dst, .call ⟨.value (.tmp t), xs, tys⟩, ty, pos, af, g⟩ :: l)) lg σ Q := by
 refine nF fl G hc hF hds hrd hA hB hnd (fun h r b => ?_) hok (fun _ => ⟨_, _, ⟨rfl, rfl⟩, by omega, by omega⟩) fun r b => ?_
 ·rintro ⟨rfl, rfl⟩; exact hfl h
 ·rintro ⟨rfl, rfl⟩
  rw [cI hr hl fun lb h => ?_]
  ·exact k
  ·have := List.flatMap_eq_nil_iff.1 hb lb h
   exact this
theorem Cy {dst : Option Tmp} {t : Tmp} {f : FuncId} {n : Nat} {cs : List DV} {q : Option LB} {xs : Array Operand} {tys : Array TypeId} {ty : TypeId} {pos : String} {af : Array Edge} {g : Option (Nat × Bool)} {dsA : List (DV × Option LB)} {rd ps gs : List Nat} {args : List DV} {bx : List LB} {d : DV} {b : List LB} (fl : Bool)
  (G : Ji ops σ ⟨dst, .call ⟨.value (.tmp t), xs, tys⟩, ty, pos, af, g⟩ = some true) (hc : ev σ true (.tmp t) = some (.clo f n cs, q))
  (hF : Fn P f ps.length args bx (fun d' b' => d' = d /\ b' = b)) (hds : Ei σ true xs.toList = some dsA) (hrd : Pq σ 3 (Lx cs ++ Q7 dsA) = rd) (hA : K3 fl (ps ++ gs) (Ko σ rd) (cs.take n ++ (dsA.map (·.1) ++ cs.drop n)) args) (hB : Y1 fl (ps ++ gs) (Ko σ rd) (ps ++ gs) bx) (hnd : Qx cx.np ps gs = true) (hfl : fl = true -> J0 d /\ ∀ lb ∈ b, Q1 lb)
  (hok : Kb Rt i true (nb + 8 * i) rd (ps ++ gs) lg = true) (hr : Iz d = []) (hl : b.length = ps.length) (hb : b.flatMap Ym = [])
  (k : Chain (B8 P cx fz) ops Rt nb (D8 (i + 1) l) ((i, true, nb + 8 * i, rd, ps ++ gs) :: lg) (σ.app dst (gZ ps gs d b)) Q) :
  Chain (B8 P cx fz) ops Rt nb (D8 i (⟨dst, .call ⟨.value (.tmp t), xs, tys⟩, ty, pos, af, g⟩ :: l)) lg σ Q := by
 refine nR fl G hc hF hds hrd hA hB hnd (fun h r b => ?_) hok (fun _ => ⟨_, _, ⟨rfl, rfl⟩, by omega, by omega⟩) fun r b => ?_
 ·rintro ⟨rfl, rfl⟩; exact hfl h
 ·rintro ⟨rfl, rfl⟩
  rw [cI hr hl fun lb h => ?_]
  ·exact k
  ·have := List.flatMap_eq_nil_iff.1 hb lb h
   exact this
end
section
variable {P : Program} {tk : Nat} {t ty yt : TypeId} {X Y : Operand} {b1 b2 : Option LB} {k k' : IntKind} {x y : Int}
theorem Si (k : IntKind) (z : Int) : Es (.int k (k.wrap z)) = true := by
 rw [Ht]
 cases k <;> simp [IntKind.wrap, IntKind.bits, IntKind.signed, IntKind.min, IntKind.max] <;> (try split) <;> omega
theorem wS : Fi P tk (.binOp .sub t X Y yt) ty [(.val (.int k x), b1), (.val (.int k y), b2)] [] (v0 (.val (.int k (k.wrap (x - y))))) := .binOp (fun _ _ => Si _ _) jB
theorem zL : Fi P tk (.binOp .mul t X Y yt) ty [(.val (.int k x), b1), (.val (.int k y), b2)] [] (v0 (.val (.int k (k.wrap (x * y))))) := .binOp (fun _ _ => Si _ _) jO
theorem wZ : Fi P tk (.binOp .and t X Y yt) ty [(.val (.int k x), b1), (.val (.int k y), b2)] [] (v0 (.val (.int k (fD k x y)))) := .binOp (fun _ _ => Si _ _) (fun w => by simp [eqGuard, binOp, Op.intBits, fD])
theorem bU : Fi P tk (.binOp .xor t X Y yt) ty [(.val (.int k x), b1), (.val (.int k y), b2)] [] (v0 (.val (.int k (Pa k x y)))) := .binOp (fun _ _ => Si _ _) (fun w => by simp [eqGuard, binOp, Op.intBits, Pa])
theorem sF (k : IntKind) : k.min <= 0 /\ 0 <= k.max := by cases k <;> decide
theorem dX {x d : Int} (hx : x <= 0) (hd : 0 < d) : x / d <= 0 := by
 rcases Int.lt_trichotomy (x / d) 0 with h | h | h
 ·omega
 ·omega
 ·exfalso
  have h1 := Int.mul_ediv_add_emod x d
  have h2 := Int.emod_nonneg x (show d ≠ 0 by omega)
  have h3 : d * 1 <= d * (x / d) := Int.mul_le_mul_of_nonneg_left (by omega) (by omega)
  omega
theorem Nu {z : Int} (h : Ov k x y = some z) : Fi P tk (.binOp .shr t X Y yt) ty [(.val (.int k x), b1), (.val (.int k' y), b2)] [] (v0 (.val (.int k z))) := by
 obtain ⟨h0, rfl⟩ := lT h
 refine .binOp (fun hx _ => ?_) (fun w => by simp [eqGuard, binOp, Op.shift, h0])
 rw [Ht] at hx ⊢
 have hm := sF k
 have hd : (0 : Int) < 2 ^ min y.toNat k.bits := Int.pow_pos (by omega)
 generalize (2 : Int) ^ min y.toNat k.bits = d at hd
 rw [Int.fdiv_eq_ediv_of_nonneg _ (Int.le_of_lt hd)]
 rcases Int.le_total 0 x with hx0 | hx0
 ·have h1 := Int.ediv_nonneg hx0 (Int.le_of_lt hd)
  have h2 := Int.ediv_le_self d hx0
  omega
 ·have h1 : x <= x / d := by
   have := Int.mul_ediv_add_emod x d
   have h3 := Int.emod_nonneg x (show d ≠ 0 by omega)
   have h4 : x / d <= 0 := dX hx0 hd
   have h5 : d * (x / d) <= 1 * (x / d) := Int.mul_le_mul_of_nonpos_right (by omega) h4
   have h6 := Int.emod_lt_of_pos x hd
   by_cases h7 : x / d = 0
   ·omega
   ·have h8 : x / d <= -1 := by omega
    have h9 : (d - 1) * (x / d) <= (d - 1) * (-1) := Int.mul_le_mul_of_nonneg_left h8 (by omega)
    have h10 : d * (x / d) = (d - 1) * (x / d) + x / d := by rw [Int.sub_mul, Int.one_mul]; omega
    omega
  have h2 : x / d <= 0 := dX hx0 hd
  omega
theorem iH {z : Int} (h : Zm k x y = some z) : Fi P tk (.binOp .shl t X Y yt) ty [(.val (.int k x), b1), (.val (.int k' y), b2)] [] (v0 (.val (.int k z))) := by
 obtain ⟨h0, rfl⟩ := mE h
 exact .binOp (fun _ _ => Si _ _) (fun w => by simp [eqGuard, binOp, Op.shift, h0])
theorem Xf {src dst : TypeId} (hs : P.underlying src = some (.int k)) (hd : P.underlying dst = some (.int k')) : Fi P tk (.convert src dst X) ty [(.val (.int k x), b1)] [] (v0 (.val (.int k' (k'.wrap x)))) :=
 .conv (by unfold kI; rw [hs]) (by unfold kI; rw [hd]) (fun _ => Si _ _) (cH (by rw [hs]; rfl) hd)
theorem gS {s : ByteArray} {u : UInt8} (ht : P.underlying t = some .string) (h : dI s x = some u) : Fi P tk (.index t X Y) ty [(.val (.string s), b1), (.val (.int k x), b2)] [] (v0 (.val (.int .u8 (u.toNat : Int)))) := by
 unfold dI at h
 split at h
 ·cases h
 ·rename_i h0
  have h1 : 0 <= x := by omega
  have hlt := (Array.getElem?_eq_some_iff.1 h).1
  have hs : s[x.toNat]? = some u := by
   have hlt' : x.toNat < s.size := hlt
   rw [getElem?_pos s x.toNat hlt']
   have := (Array.getElem?_eq_some_iff.1 h).2
   exact congrArg some this
  exact .indexS (fun _ _ => ok8 _) (fun w => by simp [Instr.index, asIntOf, run_underlying ht, h1, hs])
theorem gL {a b : ByteArray} : Fi P tk (.binOp .geq t X Y yt) ty [(.val (.string a), b1), (.val (.string b), b2)] [] (v0 (.val (.bool (!K1 (Im a) (Im b))))) := .binOp (fun _ _ => rfl) (fun w => by
 simp [eqGuard, binOp, Op.stringOp, oQ, ByteArray.toList_eq, Im])
end
section
variable {α : Type} {f : α -> List C} {sz : Nat}
theorem jW (hf : ∀ x, (f x).length = sz) {l : List α} {i n : Nat} (h : i + n <= l.length) : i * sz + n * sz <= (Aq f l).length := by
 rw [Gs hf, <- Nat.add_mul]
 exact Nat.mul_le_mul_right _ h
theorem iN (hf : ∀ x, (f x).length = sz) (h0 : 0 < sz) {l : List α} (h : Aq f l = []) : l = [] := by
 have := Gs hf l
 rw [h] at this
 rcases Nat.mul_eq_zero.1 this.symm with h1 | h1
 ·exact List.eq_nil_of_length_eq_zero h1
 ·omega
end
section
variable {P : Program} {tk : Nat} {t ty e sz bytes : Nat} {X Y : Operand} {b1 b2 b3 : Option LB} {α : Type} {f : α -> List C} {l m : List α} {n : Int} {k ka kb : IntKind} {j kr e' : Nat} {x : α} {lo hi : Operand} {a b : Int}
theorem V1 (hS : Ii P t e sz bytes) (hf : ∀ x, (f x).length = sz) (h : dC l a (l.length : Int) = some m) : Fi P tk (.slice t X (some lo) none none) ty [(.row kr, some (.row e' sz (Aq f l))), (.val (.int ka a), b2)] [] (v0 (.part kr (a.toNat * sz) ((l.length : Int).toNat - a.toNat))) := by
 obtain ⟨i, j, rfl, hj, h1, h2, rfl⟩ := Yw h
 have : j = l.length := by omega
 subst this
 exact .sliR hS (Gs hf l) ⟨⟨_, _, _, rfl, rfl⟩, rfl⟩ ⟨h1, h2⟩
theorem aR (hS : Ii P t e sz bytes) (hf : ∀ x, (f x).length = sz) (h : dC l 0 b = some m) : Fi P tk (.slice t X none (some hi) none) ty [(.row kr, some (.row e' sz (Aq f l))), (.val (.int kb b), b3)] [] (v0 (.part kr ((0 : Int).toNat * sz) (b.toNat - (0 : Int).toNat))) := by
 obtain ⟨i, j, hi', rfl, h1, h2, rfl⟩ := Yw h
 have : i = 0 := by omega
 subst this
 have e0 : (0 : Int).toNat * sz = 0 * sz := rfl
 exact .sliR hS (Gs hf l) ⟨⟨_, _, _, rfl, rfl⟩, rfl⟩ ⟨h1, h2⟩
theorem Yq {sz : Nat} : ∀ (ds : List DV) (k : Nat) (pre rest : List DV), pre.length = k * sz -> rest.length = ds.length * sz -> (∀ d ∈ ds, (Ct d).length = sz) -> H5 (fun i => some (i * sz, sz)) (pre ++ rest) ((List.range' k ds.length).zip ds) = some (pre ++ ds.flatMap Ct)
 | [], k, pre, rest, _, hr, _ => by
  have : rest = [] := List.eq_nil_of_length_eq_zero (by simpa using hr)
  subst this
  simp [H5]
 | d :: ds, k, pre, rest, hp, hr, hd => by
  have h0 := hd d (List.mem_cons_self ..)
  have hr' : rest.length = ds.length * sz + sz := by rw [hr, List.length_cons, Nat.add_mul, Nat.one_mul]
  rw [List.length_cons, List.range'_succ, List.zip_cons_cons]
  unfold H5
  simp only []
  have c1 : Nat.beq (Ct d).length sz = true := by rw [h0]; exact Nat.beq_refl _
  have c2 : Nat.ble (k * sz + sz) (pre ++ rest).length = true := Nat.ble_eq_true_of_le (by rw [List.length_append, hp, hr']; omega)
  rw [c1, c2]
  simp only [Bool.and_self, cond_true]
  have e1 : Df (pre ++ rest) (k * sz) (Ct d) = (pre ++ Ct d) ++ rest.drop sz := by
   unfold Df
   rw [h0, <- hp, List.take_left, <- List.drop_drop, List.drop_left, List.append_assoc]
  rw [e1, Yq ds (k + 1) (pre ++ Ct d) (rest.drop sz) (by rw [List.length_append, hp, h0, Nat.add_mul, Nat.one_mul]) (by rw [List.length_drop, hr']; omega) fun x hx => hd x (List.mem_cons_of_mem _ hx)]
  rw [List.flatMap_cons, List.append_assoc]
theorem Em {len : Nat} {parts : Array (Nat × Operand)} {ds : List (DV × Option LB)} {z : List Value} {cs : List C} {ck : List (Option Nat)} (hS : Ii P t e sz bytes) (hz : Zt P e z) (hlen : len * sz <= 16777216) (hp : parts.toList.map (·.1) = List.range' 0 len) (hzl : z.length = sz) (hn : ds.length = len) (hs : ds.all (fun q => Nat.beq (Ct q.1).length sz) = true) (hk : J4 P 20 e = ck) (hc : Jw (List.replicate len ck).flatten (ds.flatMap fun q => Ct q.1) cs) (ho : ds.all (fun q => (Ct q.1).all Xc) = true) (h : Aq f l = cs) : Fi P tk (.buildSlice t len parts) ty ds [] (Nr tk (.row e sz (Aq f l)) (.row tk)) := by
 subst h
 refine .buildSl hS hz hlen ?_ hk hc ho
 have hd := Yq (sz := sz) (ds.map (·.1)) 0 [] ((List.replicate len (z.map DV.val)).flatten) (by simp) (by simp [hzl, hn]) fun d hd => by
  obtain ⟨q, hq, rfl⟩ := List.mem_map.1 hd
  exact Nat.eq_of_beq_eq_true (List.all_eq_true.1 hs q hq)
 rw [List.nil_append, List.nil_append, List.length_map, hn] at hd
 rw [hp, hd]
 congr 1
 rw [List.flatMap_map]
theorem pI {i bt sz' : Nat} {ds ds' : List DV} {ag : Bool} {d : DV} {kk : Nat} (ht : Ty P t ag sz') (hs : (Ct d).length = sz') (hi : i + sz' <= ds.length) (ho : (Ct d).all Xc = true) (h : Df ds i (Ct d) = ds') : Fi P tk (.store t X Y) ty [(.ptr kk i, some (.box ds bt)), (d, b2)] [kk] (kY kk (.box ds' bt)) := by
 subst h
 exact .storeB ht hs hi ho
theorem Z9 {tk2 : Nat} {m' : Nat} {ds : List DV} {L : List α} (ht : P.underlying t = some (.array m' e)) (he : Ty P e true sz) (hf : ∀ x, (f x).length = sz) (hds : ds = (Aq f L).map Vz) (hL : L.length = m') (hx : B1 L n = some x) {d2 : List DV} (h2 : (f x).map Vz = d2) : Fi P tk2 (.index t X Y) ty [(.agg ds, b1), (.val (.int k n), b2)] [] (v0 (.agg d2)) := by
 have hx' := Cw hx
 refine .indexAA ht he (Sg hx) (by rw [<- hL]; exact (List.getElem?_eq_some_iff.1 hx').1) ?_
 rw [hds, <- List.map_drop, <- List.map_take, <- h2]
 congr 1
 exact In hf hx' (o := 0) (by rw [List.drop_zero]; exact List.take_of_length_le (Nat.le_of_eq (hf _))) (by omega) rfl
end
def eA {α : Type} [Inhabited α] (n : Nat) (f : α -> List C) (x : List α) : List C := (List.range n).flatMap fun i => f (x[i]!)
theorem zE {α : Type} [Inhabited α] {n sz : Nat} {f : α -> List C} (hf : ∀ x, (f x).length = sz) (x : List α) : (eA n f x).length = n * sz := by
 unfold eA
 induction n with
 | zero => simp
 | succ n ih => rw [List.range_succ, List.flatMap_append, List.length_append, ih, List.flatMap_cons, List.flatMap_nil, List.append_nil, hf, Nat.add_mul, Nat.one_mul]
class qE (p : Prop) (q : outParam Prop) : Prop where
 go : q -> p
theorem st_ {p q : Prop} [s : qE p q] (h : q) : p := s.go h
section
variable {next : St -> Prop} {Q : Exit -> St -> Prop} {i : Nat} {σ : St}
instance : qE (oE next Q .normal σ) (next σ) := ⟨fun h => h⟩
instance : qE (oE next Q (.exit i) σ) (Q (.exit i) σ) := ⟨fun h => h⟩
instance : qE (oE next Q .ret σ) (Q .ret σ) := ⟨fun h => h⟩
instance : qE (vO i Q (.exit i) σ) (Q .normal σ) := ⟨fun h => oK h⟩
instance : qE (vO i Q .normal σ) (Q .normal σ) := ⟨fun h => h⟩
instance : qE (vO i Q .ret σ) (Q .ret σ) := ⟨fun h => h⟩
instance : qE (noG Q .normal σ) (Q .normal σ) := ⟨fun h => h⟩
instance : qE (noG Q (.exit i) σ) (Q (.exit i) σ) := ⟨fun h => h⟩
instance : qE (noG Q .ret σ) (Q .ret σ) := ⟨fun h => h⟩
end
class lP (p : Prop) (q : outParam Prop) : Prop where
 go : q -> p
instance (priority := low) stpN_nil (p : Prop) : lP p p := ⟨fun h => h⟩
instance aBh {p p' q : Prop} [s : qE p p'] [t : lP p' q] : lP p q := ⟨fun h => s.go (t.go h)⟩
theorem Fg {P : Program} {cx : Cx} {Q : Exit -> St -> Prop} {σ : St} {q : Prop} [s : lP (Q .ret σ) q] (h : q) : B2 P cx .ret Q σ := bP (s.go h)
theorem sn_ {Q : Exit -> St -> Prop} {i j : Nat} {σ : St} (h : Q (.exit j) σ) (hne : j ≠ i := by decide) : vO i Q (.exit j) σ := mB hne h
theorem B9 {P : Program} {cx : Cx} {id : Nat} {l : List Oper} {σ : St} {y : Code} {Q : Exit -> St -> Prop} (nb nb' : Nat) (B : ∀ k, nb <= k -> σ.U k = false)
  (h : Chain (B8 P cx []) l.toArray none nb (D8 0 l) [] σ (fun σ' => (∀ j, nb' <= j -> σ'.U j = false) -> oE (B2 P cx y Q) Q .normal σ')) (hn : Nat.ble (nb + 8 * l.length) nb' = true := by rfl) (hd : iQ cx.N l = true := by rfl) : B2 P cx (.seq (.region id l.toArray false) y) Q σ :=
 Aj (Ak (B8 _ _ []) nb nb' B hn hd h)
section
variable {P : Program} {cx : Cx} {ops : Array Oper} {Rt : Option (List Nat)} {nb i : Nat} {l : List Oper} {lg : gB} {σ : St} {Q : St -> Prop} {fz : List Nat}
theorem Gk {Q : Exit -> St -> Prop} {nb' : Nat} {q : Prop} [s : lP (Q .normal σ) q] (h : (∀ j, nb' <= j -> σ.U j = false) -> q) : Chain (B8 P cx fz) ops Rt nb (D8 i []) lg σ (fun σ' => (∀ j, nb' <= j -> σ'.U j = false) -> Q .normal σ') := aDv fun B => s.go (h B)
theorem C0 {dst : Option Tmp} {op : Op} {ty : TypeId} {pos : String} {af : Array Edge} {g : Option (Nat × Bool)} {ds : List (DV × Option LB)} {wr : List Nat} {e : Lc} (G : Ji ops σ ⟨dst, op, ty, pos, af, g⟩ = some true) (hds : Ei σ (Jh op) op.operands.toList = some ds) (h : Fi P (nb + 8 * i) op ty ds wr e)
  (hrd : (bif Jh op then Ka (Kq op) ds else []) = []) (hok : Kb Rt i false (nb + 8 * i) [] wr lg = true) (k : Chain (B8 P cx fz) ops Rt nb (D8 (i + 1) l) ((i, false, nb + 8 * i, [], wr) :: lg) (σ.app dst e) Q) (hz : zM fz (nb + 8 * i) = 0 := by rfl) (hap : Og cx.np op wr = true := by rfl) :
  Chain (B8 P cx fz) ops Rt nb (D8 i (⟨dst, op, ty, pos, af, g⟩ :: l)) lg σ Q := Gd (rd := []) G hds h hrd hok k hz hap
end
end Go.Proofs.YtidpkjdkfkkgiaaGreat
namespace Go.Proofs.YtidpkjdkfkkgiaaGreat
open Go.RowKit
theorem Ut : ∀ {d : DV} {k : Nat}, men d k -> k ∈ Iz d
 | .row _, k, h => by simpa [Iz, men] using h
 | .part _ _ _, k, h => by simpa [Iz, men] using h
 | .ptr _ _, k, h => by simpa [Iz, men] using h
 | .agg ds, k, h => by unfold men at h; unfold Iz; exact menL_dtoks h
 | .tup ds, k, h => by unfold men at h; unfold Iz; exact menL_dtoks h
 | .clo _ _ ds, k, h => by unfold men at h; unfold Iz; exact menL_dtoks h
 | .val _, k, h => by unfold men at h; exact h.elim
 | .sl _ _, k, h => by unfold men at h; exact h.elim
 | .slc _ _, k, h => by unfold men at h; exact h.elim
 | .mp _, k, h => by unfold men at h; exact h.elim
 | .elt _, k, h => by unfold men at h; exact h.elim
where
 menL_dtoks : ∀ {ds : List DV} {k : Nat}, E9 ds k -> k ∈ Lx ds
 | [], k, h => by unfold E9 at h; exact h.elim
 | d :: ds, k, h => by
  unfold E9 at h
  unfold Lx
  rcases h with h | h
  ·exact List.mem_append_left _ (Ut h)
  ·exact List.mem_append_right _ (menL_dtoks h)
theorem P3.cut {cx : Cx} {σ σ' : St} {t k n e sz : Nat} {cs : List C} (hk : cx.np <= k) (hF : σ.F t = some (.part k 0 n)) (hL : σ.L k = some (.row e sz cs)) (hn : n * sz <= cs.length)
  (hF' : ∀ s d, σ'.F s = some d -> (d = .row k /\ s = t) \/ (σ.F s = some d /\ ¬ men d k)) (hL' : ∀ j lb, σ'.L j = some lb -> (j = k /\ lb = .row e sz (cs.take (n * sz))) \/ (j ≠ k /\ σ.L j = some lb /\ ¬ P8 lb k)) (B : ∀ j, σ'.U j = σ.U j) : P3 cx σ σ' := by
 rintro a w ⟨ρ, h⟩
 obtain ⟨N, us, q1, q0, q2⟩ := h.lo _ _ hL
 have hr := h.fr _ _ hF
 unfold Cq at hr
 obtain ⟨A, c, hv, hnc, hc, hA, hB⟩ := hr
 have hlen : n * sz <= us.length := by rw [<- q2.1]; exact hn
 have hblk : ∀ b, C3 (a.tmps.getD t undef) = some b -> C3 (ρ k) = some b := fun b hb => by
  rcases q1.2 with ⟨A', e, -⟩ | ⟨g', cap, cur, e, r1, -⟩
  ·obtain ⟨t1, t2⟩ := hB rfl _ _ _ e
   rw [hv, t2] at hb
   cases A <;> cases hb
  ·obtain ⟨t1, t2⟩ := hB rfl _ _ _ e
   rw [hv, t1] at hb
   rw [e, Io r1, (E4 hb).1]
 have hown : w.rowOk e sz (a.tmps.getD t undef) n (us.take (n * sz)) := by
  refine ⟨by rw [List.length_take]; omega, ?_⟩
  rcases q1.2 with ⟨A', e, q3⟩ | ⟨g, cap, cur, e, r1, r2, r3, r4, r5, r6⟩
  ·obtain ⟨t1, t2⟩ := hB rfl _ _ _ e
   refine .inl ⟨A', by rw [hv, t1, t2]; congr 1; omega, by omega⟩
  ·obtain ⟨t1, t2⟩ := hB rfl _ _ _ e
   refine .inr ⟨g, cap, cur, by rw [hv, t1, t2], r1, r2, by omega, r4, r5, ?_⟩
   have hle : n * sz <= N * sz := by rw [<- q1.1]; exact hlen
   rw [<- r6, List.take_take, Nat.min_eq_left hle]
 let ρ' : Nat -> Value := fun j => if j = k then a.tmps.getD t undef else ρ j
 have hk' : ρ' k = a.tmps.getD t undef := if_pos rfl
 have ho : ∀ j, j ≠ k -> ρ' j = ρ j := fun j hj => if_neg hj
 have loc : ∀ j lb b, σ'.L j = some lb -> C3 (ρ' j) = some b -> ∃ lb', σ.L j = some lb' /\ C3 (ρ j) = some b := fun j lb b hj hb => by
  rcases hL' j lb hj with ⟨rfl, -⟩ | ⟨hne, h1, -⟩
  ·rw [hk'] at hb; exact ⟨_, hL, hblk b hb⟩
  ·rw [ho j hne] at hb; exact ⟨_, h1, hb⟩
 have hI : ∀ b, Lm cx σ ρ w b -> Lm cx σ' ρ' w b /\ w.heap[b]? = w.heap[b]? := fun b hb => by
  refine ⟨⟨hb.1, fun hl => ?_, hb.2.2⟩, rfl⟩
  obtain ⟨j, lb, h1, h2⟩ := hl
  obtain ⟨lb', h3, h4⟩ := loc j lb b h1 h2
  exact hb.2.1 ⟨j, lb', h3, h4⟩
 refine ⟨ρ', ⟨h.defers, h.size, h.kept, fun s d hs => ?_, fun j lb hj => ?_, fun j j' lb lb' b h1 h2 h3 h4 => ?_, fun s d j hs hm => ?_, fun j lb hj => ?_, fun j hj => ?_, fun j lb b hj hp hb => ?_⟩⟩
 ·rcases hF' s d hs with ⟨rfl, rfl⟩ | ⟨h1, h2⟩
  ·unfold Cq
   rw [hk']
   refine ⟨rfl, ?_⟩
   rw [hv]; rfl
  ·exact Cq.step hI d _ (fun j hj => ho j fun e => h2 (e ▸ hj)) (h.fr _ _ h1)
 ·rcases hL' j lb hj with ⟨rfl, rfl⟩ | ⟨hne, h1, h2⟩
  ·rw [hk']
   refine ⟨n, us.take (n * sz), hown, fun b hb => q0 b (hblk b hb), ?_⟩
   refine Gb.keep_ (w := w) ⟨by rw [List.length_take, List.length_take, q2.1], fun j c u a b => ?_⟩ (fun b hb => rfl) fun b hb => (hI b hb).1
   rw [List.getElem?_take] at a b
   split at a
   ·rename_i hj
    rw [if_pos hj] at b
    exact q2.2 j c u a b
   ·cases a
  ·rw [ho j hne]
   exact (h.lo _ _ h1).step hI (fun j' hj' => ho j' fun e => h2 (e ▸ hj')) fun b _ => rfl
 ·obtain ⟨_, e1, e2⟩ := loc _ _ _ h1 h3
  obtain ⟨_, e3, e4⟩ := loc _ _ _ h2 h4
  exact h.sep _ _ _ _ _ e1 e3 e2 e4
 ·rw [B]
  rcases hF' s d hs with ⟨rfl, rfl⟩ | ⟨h1, h2⟩
  ·unfold men at hm
   subst hm
   exact (h.usedL _ _ hL).1
  ·exact h.usedF _ _ _ h1 hm
 ·rw [B]
  rcases hL' j lb hj with ⟨rfl, rfl⟩ | ⟨hne, h1, h2⟩
  ·exact ⟨(h.usedL _ _ hL).1, fun k' hm => hm.elim⟩
  ·exact ⟨(h.usedL _ _ h1).1, fun k' hm => by rw [B]; exact (h.usedL _ _ h1).2 k' hm⟩
 ·rw [B]
  exact ⟨(ho j (by omega)).trans (h.pin j hj).1, (h.pin j hj).2⟩
 ·obtain ⟨_, e1, e2⟩ := loc _ _ _ hj hb
  exact h.fresh _ _ _ e1 hp e2
def lW (t k : Nat) : List (Nat × DV) -> List (Nat × DV)
 | [] => []
 | (s, d) :: l => bif Nat.beq s t then (s, .row k) :: lW t k l else (s, d) :: lW t k l
def mK (k : Nat) (lb : LB) : List (Nat × LB) -> List (Nat × LB)
 | [] => []
 | (j, b) :: l => bif Nat.beq j k then (j, lb) :: mK k lb l else (j, b) :: mK k lb l
def aB5 (t k : Nat) (fl : List (Nat × DV)) (ll : List (Nat × LB)) : Bool :=
 fl.all (fun q => Nat.beq q.1 t || !(Iz q.2).contains k) && ll.all (fun q => Nat.beq q.1 k || !(Ym q.2).contains k)
theorem Vn {t k : Nat} : ∀ {fl : List (Nat × DV)} {s : Nat} {d : DV}, Fj (lW t k fl) s = some d -> (s = t /\ d = .row k) \/ (s ≠ t /\ Fj fl s = some d)
 | [], s, d, h => by simp [lW, Fj] at h
 | (s', d') :: l, s, d, h => by
  unfold lW at h
  cases hb : Nat.beq s' t with
  | true =>
   rw [hb] at h
   simp only [cond_true] at h
   have e0 := Nat.eq_of_beq_eq_true hb
   unfold Fj at h
   cases hs : Nat.beq s s' with
   | true =>
    rw [hs] at h
    have := Nat.eq_of_beq_eq_true hs
    injection h with h
    exact .inl ⟨by omega, h.symm⟩
   | false =>
    rw [hs] at h
    rcases Vn h with h | ⟨h1, h2⟩
    ·exact .inl h
    ·refine .inr ⟨h1, ?_⟩
     unfold Fj
     rw [hs]
     exact h2
  | false =>
   rw [hb] at h
   simp only [cond_false] at h
   unfold Fj at h
   cases hs : Nat.beq s s' with
   | true =>
    rw [hs] at h
    have := Nat.eq_of_beq_eq_true hs
    refine .inr ⟨fun e => ?_, ?_⟩
    ·subst this
     subst e
     rw [Nat.beq_refl] at hb
     cases hb
    ·unfold Fj
     rw [hs]
     exact h
   | false =>
    rw [hs] at h
    rcases Vn h with h | ⟨h1, h2⟩
    ·exact .inl h
    ·refine .inr ⟨h1, ?_⟩
     unfold Fj
     rw [hs]
     exact h2
theorem Vh {k : Nat} {lb : LB} : ∀ {ll : List (Nat × LB)} {j : Nat} {b : LB}, Fj (mK k lb ll) j = some b -> (j = k /\ b = lb) \/ (j ≠ k /\ Fj ll j = some b)
 | [], s, d, h => by simp [mK, Fj] at h
 | (s', d') :: l, s, d, h => by
  unfold mK at h
  cases hb : Nat.beq s' k with
  | true =>
   rw [hb] at h
   simp only [cond_true] at h
   have e0 := Nat.eq_of_beq_eq_true hb
   unfold Fj at h
   cases hs : Nat.beq s s' with
   | true =>
    rw [hs] at h
    have := Nat.eq_of_beq_eq_true hs
    injection h with h
    exact .inl ⟨by omega, h.symm⟩
   | false =>
    rw [hs] at h
    rcases Vh h with h | ⟨h1, h2⟩
    ·exact .inl h
    ·refine .inr ⟨h1, ?_⟩
     unfold Fj
     rw [hs]
     exact h2
  | false =>
   rw [hb] at h
   simp only [cond_false] at h
   unfold Fj at h
   cases hs : Nat.beq s s' with
   | true =>
    rw [hs] at h
    have := Nat.eq_of_beq_eq_true hs
    refine .inr ⟨fun e => ?_, ?_⟩
    ·subst this
     subst e
     rw [Nat.beq_refl] at hb
     cases hb
    ·unfold Fj
     rw [hs]
     exact h
   | false =>
    rw [hs] at h
    rcases Vh h with h | ⟨h1, h2⟩
    ·exact .inl h
    ·refine .inr ⟨h1, ?_⟩
     unfold Fj
     rw [hs]
     exact h2
theorem lL {lb : LB} {k : Nat} (h : P8 lb k) : k ∈ Ym lb := by
 cases lb with
 | box ds ty => unfold Ym; exact Ut.menL_dtoks h
 | row => exact h.elim
 | map => exact h.elim
 | mit k' n s => have h : k = k' := h; subst h; exact List.mem_singleton.2 rfl
 | vec ds e => unfold Ym; exact Ut.menL_dtoks h
theorem mG {α : Type} {f : α -> List C} {sz : Nat} (hf : ∀ x, (f x).length = sz) {l : List α} {n : Nat} (hn : n <= l.length) : (Aq f l).take (n * sz) = Aq f (l.take n) := by
 have := aW hf l 0 n (Nat.zero_le _) hn
 simpa using this
theorem aEv {α : Type} {f : α -> List C} {L : List α} {cx : Cx} {fl : List (Nat × DV)} {ll : List (Nat × LB)} {N : Nat} (t k : Nat) {n e sz : Nat} (hf : ∀ x, (f x).length = sz) (hn : n <= L.length) (hF : Fj fl t = some (.part k 0 n)) (hL : Fj ll k = some (.row e sz (Aq f L)))
  (hk : Nat.ble cx.np k = true) (hc : aB5 t k fl ll = true) : P3 cx (mk fl ll N) (mk (lW t k fl) (mK k (.row e sz (Aq f (L.take n))) ll) N) := by
 unfold aB5 at hc
 rw [Bool.and_eq_true, List.all_eq_true, List.all_eq_true] at hc
 refine P3.cut (t := t) (k := k) (n := n) (e := e) (sz := sz) (cs := Aq f L) (Nat.le_of_ble_eq_true hk) hF hL (by rw [Gs hf]; exact Nat.mul_le_mul_right _ hn) (fun s d hs => ?_) (fun j lb hj => ?_) fun _ => rfl
 ·rcases Vn hs with ⟨rfl, rfl⟩ | ⟨h1, h2⟩
  ·exact .inl ⟨rfl, rfl⟩
  ·refine .inr ⟨h2, fun hm => ?_⟩
   have := hc.1 _ (H0 h2)
   rw [Bool.or_eq_true] at this
   rcases this with h | h
   ·exact h1 (Nat.eq_of_beq_eq_true h)
   ·have hm' := Ut hm
    simp at h
    exact h hm'
 ·rcases Vh hj with ⟨rfl, rfl⟩ | ⟨h1, h2⟩
  ·refine .inl ⟨rfl, ?_⟩
   rw [mG hf hn]
  ·refine .inr ⟨h1, h2, fun hm => ?_⟩
   have := hc.2 _ (H0 h2)
   rw [Bool.or_eq_true] at this
   rcases this with h | h
   ·exact h1 (Nat.eq_of_beq_eq_true h)
   ·have hm' := lL hm
    simp at h
    exact h hm'
end Go.Proofs.YtidpkjdkfkkgiaaGreat
