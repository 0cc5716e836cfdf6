/- Steps of a walk: where code goes on; lengths; what lies at a place. -/
import Derived.Test.YtfkgbfhpibiheaaED
import Derived.KernelRfl
import Derived.Test.YtfkgbfhpibiheaaPU
import Derived.Scope
set_option linter.unusedVariables false
set_option linter.unusedSimpArgs false
namespace Go.Proofs.Ytfkgbfhpibiheaa
open Go.RowKit
section
variable {Q : Exit → St → Prop} {next : St → Prop} {σ : St} {i j : Nat}
theorem inB_here (h : Q .normal σ) : inB i Q (.exit i) σ := by
  show (if i = i then _ else _)
  rw [if_pos rfl]
  exact h
theorem inB_other (hne : j ≠ i) (h : Q (.exit j) σ) : inB i Q (.exit j) σ := by
  show (if j = i then _ else _)
  rw [if_neg hne]
  exact h
end
section
variable {P : Program} {t : TypeId} {X Y : Operand}
end
section
variable {P : Program} {t : TypeId} {X Y : Operand} {k : IntKind} {x y : Int}
end
section
variable {P : Program} {t : TypeId} {X Y : Operand} {a b : ByteArray}
end
theorem look_ne {θ : List (Nat × Nat)} {j : Nat} (h : (θ.all fun q => !Nat.beq q.2 j) = true) : ∀ k, look θ k ≠ some j := fun k hk => by
  have := List.all_eq_true.1 h _ (look_mem hk)
  simp at this
theorem awp_cut {P : Program} {cx : Cx} {x y : Code} {Q : Exit → St → Prop} {σ : St} {ι : Type} (mid : ι → St) (ok : ι → Prop) (hx : awp P cx x (thn (fun σ' => ∃ i, ok i ∧ Sub cx σ' (mid i)) Q) σ) (hy : ∀ i, ok i → awp P cx y Q (mid i)) : awp P cx (.seq x y) Q σ := by
  refine awp_seq (awp_mono ?_ hx)
  intro e σ' h
  cases e with
  | normal =>
    obtain ⟨i, h1, h2⟩ := h
    exact awp_sub h2 (hy i h1)
  | _ => exact h
end Go.Proofs.Ytfkgbfhpibiheaa
namespace Go.Proofs.Ytfkgbfhpibiheaa
open Go.RowKit
mutual
def nop (j : Nat) : DV → Bool
  | .part k _ _ => !Nat.beq k j
  | .ptr k _ => !Nat.beq k j
  | .agg ds => nops j ds
  | .tup ds => nops j ds
  | .clo _ _ ds => nops j ds
  | .val _ => true
  | .sl _ _ => true
  | .slc _ _ => true
  | .mp _ => true
  | .elt _ => true
  | .row _ => true
  | .nst k s _ => !Nat.beq k j && !Nat.beq s j
  | .npt k s _ _ => !Nat.beq k j && !Nat.beq s j
  | .qpt k _ => !Nat.beq k j
def nops (j : Nat) : List DV → Bool
  | [] => true
  | d :: ds => nop j d && nops j ds
end
mutual
def frzD (j sz : Nat) (cs : List C) : DV → DV
  | .row k => bif Nat.beq k j then .sl sz cs else .row k
  | .agg ds => .agg (frzDs j sz cs ds)
  | .tup ds => .tup (frzDs j sz cs ds)
  | .clo f n ds => .clo f n (frzDs j sz cs ds)
  | .val v => .val v
  | .sl s c => .sl s c
  | .slc s c => .slc s c
  | .mp l => .mp l
  | .elt c => .elt c
  | .part k o n => .part k o n
  | .ptr k i => .ptr k i
  | .nst k s i => .nst k s i
  | .npt k s i p => .npt k s i p
  | .qpt k i => .qpt k i
def frzDs (j sz : Nat) (cs : List C) : List DV → List DV
  | [] => []
  | d :: ds => frzD j sz cs d :: frzDs j sz cs ds
end
def St.frz (σ : St) (j sz : Nat) (cs : List C) : St where
  F := fun t => match σ.F t with | some d => bif nop j d then some (frzD j sz cs d) else none | none => none
  L := fun k => bif Nat.beq k j then none else match σ.L k with | some (.box ds ty) => (bif nops j ds then some (.box (frzDs j sz cs ds) ty) else none) | some (.row e s c) => some (.row e s c) | _ => none
  U := σ.U
theorem beq_false {a b : Nat} (h : Nat.beq a b = false) : a ≠ b := fun e => by
  subst e
  rw [Nat.beq_refl] at h; cases h
section
variable {σ : St} {j e sz : Nat} {cs : List C}
abbrev frzT (j : Nat) (k : Nat) : Option Nat := if k = j then none else some k
mutual
theorem Cv.frzD (h : σ.L j = some (.row e sz cs)) : ∀ d, nop j d = true → Cv σ (frzT j) d (Go.Proofs.Ytfkgbfhpibiheaa.frzD j sz cs d)
  | .val v, _ => by unfold Go.Proofs.Ytfkgbfhpibiheaa.frzD; exact .val v
  | .sl _ _, _ => by unfold Go.Proofs.Ytfkgbfhpibiheaa.frzD; exact .sl _ _
  | .slc _ _, _ => by unfold Go.Proofs.Ytfkgbfhpibiheaa.frzD; exact .slcc _ _
  | .mp _, _ => by unfold Go.Proofs.Ytfkgbfhpibiheaa.frzD; exact .mp _
  | .elt _, _ => by unfold Go.Proofs.Ytfkgbfhpibiheaa.frzD; exact .elt _
  | .row k, _ => by
    unfold Go.Proofs.Ytfkgbfhpibiheaa.frzD
    cases hb : Nat.beq k j with
    | true =>
      have := Nat.eq_of_beq_eq_true hb
      subst this
      refine .frz h fun k' hk' => ?_
      unfold frzT at hk'
      split at hk'
      · cases hk'
      · rename_i hne
        injection hk' with hk'
        exact hne hk'
    | false => exact .row (if_neg (beq_false hb))
  | .part k _ _, hn => by
    unfold nop at hn
    unfold Go.Proofs.Ytfkgbfhpibiheaa.frzD
    exact .part (if_neg (beq_false (by simpa using hn)))
  | .ptr k _, hn => by
    unfold nop at hn
    unfold Go.Proofs.Ytfkgbfhpibiheaa.frzD
    exact .ptr (if_neg (beq_false (by simpa using hn)))
  | .nst k s _, hn => by
    unfold nop at hn
    rw [Bool.and_eq_true] at hn
    unfold Go.Proofs.Ytfkgbfhpibiheaa.frzD
    exact .nst (if_neg (beq_false (by simpa using hn.1))) (if_neg (beq_false (by simpa using hn.2)))
  | .npt k s _ _, hn => by
    unfold nop at hn
    rw [Bool.and_eq_true] at hn
    unfold Go.Proofs.Ytfkgbfhpibiheaa.frzD
    exact .npt (if_neg (beq_false (by simpa using hn.1))) (if_neg (beq_false (by simpa using hn.2)))
  | .qpt k _, hn => by
    unfold nop at hn
    unfold Go.Proofs.Ytfkgbfhpibiheaa.frzD
    exact .qpt (if_neg (beq_false (by simpa using hn)))
  | .agg ds, hn => by
    unfold nop at hn
    unfold Go.Proofs.Ytfkgbfhpibiheaa.frzD
    exact .agg (CvL.frzDs h ds hn)
  | .tup ds, hn => by
    unfold nop at hn
    unfold Go.Proofs.Ytfkgbfhpibiheaa.frzD
    exact .tup (CvL.frzDs h ds hn)
  | .clo f n ds, hn => by
    unfold nop at hn
    unfold Go.Proofs.Ytfkgbfhpibiheaa.frzD
    exact .clo f n (CvL.frzDs h ds hn)
theorem CvL.frzDs (h : σ.L j = some (.row e sz cs)) : ∀ ds, nops j ds = true → CvL σ (frzT j) ds (Go.Proofs.Ytfkgbfhpibiheaa.frzDs j sz cs ds)
  | [], _ => by unfold Go.Proofs.Ytfkgbfhpibiheaa.frzDs; exact .nil
  | d :: ds, hn => by
    unfold nops at hn
    simp only [Bool.and_eq_true] at hn
    unfold Go.Proofs.Ytfkgbfhpibiheaa.frzDs
    exact .cons (Cv.frzD h d hn.1) (CvL.frzDs h ds hn.2)
end
mutual
theorem men_frz : ∀ (d : DV) (k : Nat), men (frzD j sz cs d) k → men d k
  | .val _, k, h => by unfold frzD men at h; exact h.elim
  | .sl _ _, k, h => by unfold frzD men at h; exact h.elim
  | .slc _ _, k, h => by unfold frzD men at h; exact h.elim
  | .mp _, k, h => by unfold frzD men at h; exact h.elim
  | .elt _, k, h => by unfold frzD men at h; exact h.elim
  | .row i, k, h => by
    unfold frzD at h
    cases hb : Nat.beq i j with
    | true => rw [hb] at h; simp only [cond_true] at h; unfold men at h; exact h.elim
    | false => rw [hb] at h; exact h
  | .part _ _ _, k, h => by unfold frzD at h; exact h
  | .ptr _ _, k, h => by unfold frzD at h; exact h
  | .nst _ _ _, k, h => by unfold frzD at h; exact h
  | .npt _ _ _ _, k, h => by unfold frzD at h; exact h
  | .qpt _ _, k, h => by unfold frzD at h; exact h
  | .agg ds, k, h => by unfold frzD men at h; unfold men; exact menL_frz ds k h
  | .tup ds, k, h => by unfold frzD men at h; unfold men; exact menL_frz ds k h
  | .clo _ _ ds, k, h => by unfold frzD men at h; unfold men; exact menL_frz ds k h
theorem menL_frz : ∀ (ds : List DV) (k : Nat), menL (frzDs j sz cs ds) k → menL ds k
  | [], k, h => by unfold frzDs menL at h; exact h.elim
  | d :: ds, k, h => by
    unfold frzDs menL at h
    unfold menL
    exact h.imp (men_frz d k) (menL_frz ds k)
end
theorem frz_F {t : Nat} {d' : DV} (h : (σ.frz j sz cs).F t = some d') : ∃ d, σ.F t = some d ∧ nop j d = true ∧ d' = frzD j sz cs d := by
  have h' : (match σ.F t with | some d => bif nop j d then some (frzD j sz cs d) else none | none => none) = some d' := h
  cases hF : σ.F t with
  | none => rw [hF] at h'; cases h'
  | some d =>
    rw [hF] at h'
    cases hn : nop j d with
    | false => simp only [hn, cond_false] at h'; cases h'
    | true => simp only [hn, cond_true] at h'; injection h' with h'; exact ⟨d, rfl, hn, h'.symm⟩
theorem frz_L {k : Nat} {lb' : LB} (h : (σ.frz j sz cs).L k = some lb') : k ≠ j ∧ ((∃ ds ty, σ.L k = some (.box ds ty) ∧ nops j ds = true ∧ lb' = .box (frzDs j sz cs ds) ty) ∨ ∃ e s c, σ.L k = some (.row e s c) ∧ lb' = .row e s c) := by
  have h' : (bif Nat.beq k j then none else match σ.L k with | some (.box ds ty) => (bif nops j ds then some (LB.box (frzDs j sz cs ds) ty) else none) | some (.row e s c) => some (.row e s c) | _ => none) = some lb' := h
  cases hb : Nat.beq k j with
  | true => rw [hb] at h'; cases h'
  | false =>
    refine ⟨beq_false hb, ?_⟩
    rw [hb] at h'
    simp only [cond_false] at h'
    cases hL : σ.L k with
    | none => rw [hL] at h'; cases h'
    | some lb =>
      rw [hL] at h'
      cases lb with
      | row e s c => simp only [] at h'; injection h' with h'; exact .inr ⟨e, s, c, rfl, h'.symm⟩
      | map l => cases h'
      | mit k' n s => cases h'
      | vec ds e => cases h'
      | tree => cases h'
      | gho => cases h'
      | que => cases h'
      | box ds ty =>
        simp only [] at h'
        cases hn : nops j ds with
        | false => rw [hn] at h'; cases h'
        | true => rw [hn] at h'; injection h' with h'; exact .inl ⟨ds, ty, rfl, hn, h'.symm⟩
theorem Sub.frz {cx : Cx} (h : σ.L j = some (.row e sz cs)) (hj : Nat.ble cx.np j = true) : Sub cx σ (σ.frz j sz cs) := by
  rintro a w ⟨ρ, ha⟩
  have hj' : cx.np ≤ j := Nat.le_of_ble_eq_true hj
  refine ⟨_, (ha.ren (σ' := σ.frz j sz cs) (frzT j) (fun t d' hd => ?_) (fun k lb' hl => ?_) (fun k k' i h1 h2 => ?_) (fun k hk => ⟨if_neg (by omega), (ha.pin k hk).2⟩) (fun t d k hd hm => ?_) (fun k lb hl => ?_)).1⟩
  · obtain ⟨d, h1, h2, rfl⟩ := frz_F hd
    exact ⟨d, h1, Cv.frzD h d h2⟩
  · obtain ⟨hne, h1⟩ := frz_L hl
    refine .inl ?_
    rcases h1 with ⟨ds, ty, h1, h2, rfl⟩ | ⟨e', s, c, h1, rfl⟩
    · exact ⟨k, _, if_neg hne, h1, rfl, CvL.frzDs h ds h2⟩
    · exact ⟨k, _, if_neg hne, h1, rfl, rfl, rfl⟩
  · unfold frzT at h1 h2
    split at h1
    · cases h1
    · split at h2
      · cases h2
      · injection h1 with h1
        injection h2 with h2
        omega
  · obtain ⟨d', h1, h2, rfl⟩ := frz_F hd
    exact ha.usedF t d' k h1 (men_frz d' k hm)
  · obtain ⟨hne, h1⟩ := frz_L hl
    rcases h1 with ⟨ds, ty, h1, h2, rfl⟩ | ⟨e', s, c, h1, rfl⟩
    · exact ⟨(ha.usedL k _ h1).1, fun k' hk' => (ha.usedL k _ h1).2 k' (menL_frz ds k' hk')⟩
    · exact ⟨(ha.usedL k _ h1).1, fun k' hk' => hk'.elim⟩
end
section
variable {P : Program} {cx : Cx} {ops : Array Oper} {Q : Exit → St → Prop} {l : List Oper} {σ σ' : St}
def AwpL (P : Program) (cx : Cx) (ops : Array Oper) (Q : Exit → St → Prop) (l : List Oper) (σ : St) : Prop := ∀ a w, Abs cx σ a w → wpList P ops (post cx Q) l a w
theorem AwpL.sub (h : Sub cx σ σ') (k : AwpL P cx ops Q l σ') : AwpL P cx ops Q l σ := fun a w ha => k a w (h a w ha)
theorem AwpL.fin (h : Q .normal σ) : AwpL P cx ops Q [] σ := fun a w ha => ⟨σ, h, ha⟩
variable {S : Sys P cx} {nb nb' : Nat}
end
section
variable {P : Program} {f : FuncId} {args : List DV}
theorem Fn.plain {v : Value} {R : DV → List LB → Prop} {vs : List Value} {w : World} (h : Fn P f 0 args [] R) (hR : ∀ r b, R r b → r = .val v) (ρ : Nat → Value) (I : Nat → Prop) (hI : ∀ b, I b → b < w.heap.size) (hr : RepL ρ I w args vs) : Calls P f vs.toArray w fun e w' => e = .returned v ∧ Ext w w' := by
  refine (h.2.2 ρ I w vs (fun b hb => ⟨hI b hb, fun k hk => by simp at hk⟩) hr (fun k lb h => by simp at h) (fun k k' b hk => by simp at hk)).mono ?_
  rintro e w' ⟨u, r, b, rfl, h1, h2⟩
  obtain ⟨-, ⟨o1, o2, o3, o4⟩, hk, ⟨ρ', J, -, -, hrep, -⟩, -⟩ := h2
  rw [hR r b h1] at hrep
  unfold Rep at hrep
  rw [hrep.1]
  exact ⟨rfl, o1, o2, o3, o4, fun b hb => hk b hb fun k hk => by simp at hk⟩
end
end Go.Proofs.Ytfkgbfhpibiheaa
namespace Go.Proofs.Ytfkgbfhpibiheaa
open Go.RowKit
def noG (Q : Exit → St → Prop) : Exit → St → Prop
  | .normal, σ => Q .normal σ
  | .exit i, σ => Q (.exit i) σ
  | .goto _, _ => False
  | .ret, σ => Q .ret σ
  | .panic c, σ => Q (.panic c) σ
  | .outgrown, σ => Q .outgrown σ
def encL {α : Type} (f : α → List C) (l : List α) : List C := l.flatMap f
def eI (x : Int) : List C := [.int .i64 x]
def eK (k : IntKind) (x : Int) : List C := [.int k x]
def e8 (x : UInt8) : List C := [.int .u8 (x.toNat : Int)]
def eS (x : ByteArray) : List C := [.str x]
def eB (x : Bool) : List C := [.bool x]
def eL {α : Type} (sz : Nat) (f : α → List C) (l : List α) : List C := [.sl sz (encL f l)]
theorem eI_len (x : Int) : (eI x).length = 1 := rfl
theorem eK_len (k : IntKind) (x : Int) : (eK k x).length = 1 := rfl
theorem e8_len (x : UInt8) : (e8 x).length = 1 := rfl
theorem eS_len (x : ByteArray) : (eS x).length = 1 := rfl
theorem eB_len (x : Bool) : (eB x).length = 1 := rfl
theorem eL_len {α : Type} (sz : Nat) (f : α → List C) (l : List α) : (eL sz f l).length = 1 := rfl
section
variable {α : Type} {f : α → List C} {sz : Nat}
theorem encL_len (hf : ∀ x, (f x).length = sz) : ∀ (l : List α), (encL f l).length = l.length * sz
  | [] => by simp [encL]
  | x :: l => by
    have := encL_len hf l
    unfold encL at this ⊢
    rw [List.flatMap_cons, List.length_append, hf, this, List.length_cons, Nat.add_mul, Nat.one_mul, Nat.add_comm]
theorem encL_append (l m : List α) : encL f (l ++ m) = encL f l ++ encL f m := by unfold encL; rw [List.flatMap_append]
theorem encL_split {l : List α} {j : Nat} {x : α} (hx : l[j]? = some x) : encL f l = encL f (l.take j) ++ (f x ++ encL f (l.drop (j + 1))) := by
  have hj := (List.getElem?_eq_some_iff.1 hx).1
  have hxe := (List.getElem?_eq_some_iff.1 hx).2
  have e1 : l = l.take j ++ (x :: l.drop (j + 1)) := by
    rw [← hxe, List.getElem_cons_drop, List.take_append_drop]
  rw [show encL f l = encL f (l.take j ++ (x :: l.drop (j + 1))) from congrArg _ e1, encL_append]
  rfl
theorem encL_tlen (hf : ∀ x, (f x).length = sz) {l : List α} {j : Nat} (hj : j ≤ l.length) : (encL f (l.take j)).length = j * sz := by
  rw [encL_len hf, List.length_take, Nat.min_eq_left hj]
theorem enc_le (hf : ∀ x, (f x).length = sz) {l : List α} {j : Nat} {x : α} (hx : l[j]? = some x) : j * sz + sz ≤ (encL f l).length := by
  have hj := (List.getElem?_eq_some_iff.1 hx).1
  rw [encL_len hf]
  have : (j + 1) * sz ≤ l.length * sz := Nat.mul_le_mul_right _ hj
  rw [Nat.add_mul, Nat.one_mul] at this
  exact this
theorem enc_lt (hf : ∀ x, (f x).length = sz) {l : List α} {j o : Nat} {x : α} (hx : l[j]? = some x) (ho : o < sz) {a : Nat} (ha : a = j * sz + o) : a < (encL f l).length := by
  have := enc_le hf hx
  omega
theorem enc_drop (hf : ∀ x, (f x).length = sz) {l : List α} {j o : Nat} {x : α} (hx : l[j]? = some x) (ho : o ≤ sz) : (encL f l).drop (j * sz + o) = (f x).drop o ++ encL f (l.drop (j + 1)) := by
  have hj := (List.getElem?_eq_some_iff.1 hx).1
  have ht := encL_tlen hf (l := l) (j := j) (by omega)
  rw [encL_split hx, ← ht, ← List.drop_drop, List.drop_left, List.drop_append_of_le_length (by rw [hf]; exact ho)]
theorem enc_cell (hf : ∀ x, (f x).length = sz) {l : List α} {j o : Nat} {x : α} {c : C} (hx : l[j]? = some x) (hc : (f x)[o]? = some c) {a : Nat} (ha : a = j * sz + o) : (encL f l)[a]? = some c := by
  subst ha
  have ho : o < sz := by rw [← hf x]; exact (List.getElem?_eq_some_iff.1 hc).1
  have e1 := enc_drop hf hx (Nat.le_of_lt ho)
  have e2 : (encL f l)[j * sz + o]? = ((encL f l).drop (j * sz + o))[0]? := by rw [List.getElem?_drop]; rfl
  rw [e2, e1, List.getElem?_append_left (by rw [List.length_drop, hf]; omega), List.getElem?_drop]
  exact hc
theorem enc_cells (hf : ∀ x, (f x).length = sz) {l : List α} {j o m : Nat} {x : α} {cs : List C} (hx : l[j]? = some x) (hs : ((f x).drop o).take m = cs) (ho : o + m ≤ sz) {a : Nat} (ha : a = j * sz + o) : ((encL f l).drop a).take m = cs := by
  subst ha
  rw [enc_drop hf hx (by omega), List.take_append_of_le_length (by rw [List.length_drop, hf]; omega)]
  exact hs
theorem enc_cells_le (hf : ∀ x, (f x).length = sz) {l : List α} {j o m : Nat} {x : α} (hx : l[j]? = some x) (ho : o + m ≤ sz) {a : Nat} (ha : a = j * sz + o) : a + m ≤ (encL f l).length := by
  have := enc_le hf hx
  omega
theorem enc_splice (hf : ∀ x, (f x).length = sz) {l : List α} {j o : Nat} {x x' : α} {cs : List C} (hx : l[j]? = some x) (ho : o + cs.length ≤ sz) (hs : splice (f x) o cs = f x') {a : Nat} (ha : a = j * sz + o) : splice (encL f l) a cs = encL f (setI l j x') := by
  subst ha
  have hj := (List.getElem?_eq_some_iff.1 hx).1
  have ht := encL_tlen hf (l := l) (j := j) (by omega)
  have hset : encL f (setI l j x') = encL f (l.take j) ++ (f x' ++ encL f (l.drop (j + 1))) := by
    have : (setI l j x')[j]? = some x' := by unfold setI; rw [List.getElem?_set_self hj]
    rw [encL_split this]
    unfold setI
    rw [List.take_set_of_le (Nat.le_refl _), List.drop_set_of_lt (by omega)]
  rw [hset, ← hs]
  unfold splice
  have e1 : (encL f l).take (j * sz + o) = encL f (l.take j) ++ (f x).take o := by
    rw [encL_split hx, List.take_append, ht, Nat.add_sub_cancel_left, List.take_of_length_le (by rw [ht]; omega)]
    congr 1
    rw [List.take_append_of_le_length (by rw [hf]; omega)]
  have e2 : (encL f l).drop (j * sz + o + cs.length) = (f x).drop (o + cs.length) ++ encL f (l.drop (j + 1)) := by
    rw [Nat.add_assoc, enc_drop hf hx ho]
  rw [e1, e2]
  simp only [List.append_assoc]
theorem enc_sub (hf : ∀ x, (f x).length = sz) (l : List α) (i j : Nat) (hij : i ≤ j) (hj : j ≤ l.length) : ((encL f l).drop (i * sz)).take ((j - i) * sz) = encL f ((l.drop i).take (j - i)) := by
  have e0 : encL f l = encL f (l.take i) ++ encL f (l.drop i) := by rw [← encL_append, List.take_append_drop]
  have e1 : encL f (l.drop i) = encL f ((l.drop i).take (j - i)) ++ encL f ((l.drop i).drop (j - i)) := by rw [← encL_append, List.take_append_drop]
  rw [e0]
  have ht := encL_tlen hf (l := l) (j := i) (by omega)
  have hd : ((encL f (l.take i)) ++ encL f (l.drop i)).drop (i * sz) = encL f (l.drop i) := by rw [← ht, List.drop_left]
  rw [hd, e1]
  have ht2 := encL_tlen hf (l := l.drop i) (j := j - i) (by rw [List.length_drop]; omega)
  rw [← ht2, List.take_left]
end
theorem encL8 (l : List UInt8) : encL e8 l = bytesC l := by
  induction l with
  | nil => rfl
  | cons x l ih =>
    show e8 x ++ encL e8 l = _
    rw [ih]
    rfl
section
variable {P : Program} {tk : Nat} {t ty yt : TypeId} {X Y : Operand} {b1 b2 : Option LB} {k : IntKind} {x y : Int}
theorem r_lss : OpR P tk (.binOp .lss t X Y yt) ty [(.val (.int k x), b1), (.val (.int k y), b2)] [] (v0 (.val (.bool (decide (x < y))))) := .binOp (fun _ _ => rfl) bo_lss
theorem r_leq : OpR P tk (.binOp .leq t X Y yt) ty [(.val (.int k x), b1), (.val (.int k y), b2)] [] (v0 (.val (.bool (decide (x ≤ y))))) := .binOp (fun _ _ => rfl) bo_leq
theorem r_gtr : OpR P tk (.binOp .gtr t X Y yt) ty [(.val (.int k x), b1), (.val (.int k y), b2)] [] (v0 (.val (.bool (decide (y < x))))) := .binOp (fun _ _ => rfl) bo_gtr
theorem r_geq : OpR P tk (.binOp .geq t X Y yt) ty [(.val (.int k x), b1), (.val (.int k y), b2)] [] (v0 (.val (.bool (decide (y ≤ x))))) := .binOp (fun _ _ => rfl) bo_geq
theorem r_eql : OpR P tk (.binOp .eql t X Y yt) ty [(.val (.int k x), b1), (.val (.int k y), b2)] [] (v0 (.val (.bool (decide (x = y))))) := .binOp (fun _ _ => rfl) bo_eql
theorem r_neq : OpR P tk (.binOp .neq t X Y yt) ty [(.val (.int k x), b1), (.val (.int k y), b2)] [] (v0 (.val (.bool (!decide (x = y))))) := .binOp (fun _ _ => rfl) (fun w => by rw [bo_neq w, decide_not])
theorem wrapW (x : Int) : IntKind.i64.wrap x = W x := by rw [IntKind.wrap_i64]; unfold W; omega
theorem okW (x : Int) : okVb (.int .i64 (W x)) = true := okVb_int.2 (i64_range (W_range x))
theorem wrap8 (x : Int) : IntKind.u8.wrap x = ((u8 x).toNat : Int) := by rw [IntKind.wrap_u8, u8_toNat]
theorem ok8 (x : UInt8) : okVb (.int .u8 (x.toNat : Int)) = true := okVb_int.2 (u8_range ⟨by omega, by have := x.toNat_lt; omega⟩)
theorem r_add : OpR P tk (.binOp .add t X Y yt) ty [(.val (.int .i64 x), b1), (.val (.int .i64 y), b2)] [] (v0 (.val (.int .i64 (W (x + y))))) := .binOp (fun _ _ => okW _) (fun w => by rw [bo_addw w, wrapW])
theorem r_sub : OpR P tk (.binOp .sub t X Y yt) ty [(.val (.int .i64 x), b1), (.val (.int .i64 y), b2)] [] (v0 (.val (.int .i64 (W (x - y))))) := .binOp (fun _ _ => okW _) (fun w => by rw [bo_subw w, wrapW])
theorem r_mul : OpR P tk (.binOp .mul t X Y yt) ty [(.val (.int .i64 x), b1), (.val (.int .i64 y), b2)] [] (v0 (.val (.int .i64 (W (x * y))))) := .binOp (fun _ _ => okW _) (fun w => by rw [bo_mulw w, wrapW])
theorem tmod_abs (x y : Int) : (x.tmod y).natAbs ≤ x.natAbs := by
  rw [Int.natAbs_tmod]
  exact Nat.mod_le _ _
theorem tmod_range {x y : Int} (h : -9223372036854775808 ≤ x ∧ x ≤ 9223372036854775807) : -9223372036854775808 ≤ x.tmod y ∧ x.tmod y ≤ 9223372036854775807 := by
  have h0 := tmod_abs x y
  rcases Int.le_total 0 x with hx | hx
  · have h1 := Int.tmod_nonneg y hx
    omega
  · have e : x.tmod y = -((-x).tmod y) := by rw [Int.neg_tmod]; omega
    have h1 := Int.tmod_nonneg y (show 0 ≤ -x by omega)
    omega
theorem i64_lim {n : Int} (h : okVb (.int .i64 n) = true) : -9223372036854775808 ≤ n ∧ n ≤ 9223372036854775807 := by
  have := okVb_int.1 h
  have h1 : IntKind.i64.min = -9223372036854775808 := by decide
  have h2 : IntKind.i64.max = 9223372036854775807 := by decide
  rw [h1, h2] at this
  exact this
theorem r_rem {z : Int} (h : remI x y = some z) : OpR P tk (.binOp .rem t X Y yt) ty [(.val (.int .i64 x), b1), (.val (.int .i64 y), b2)] [] (v0 (.val (.int .i64 z))) := by
  obtain ⟨hy, rfl⟩ := remI_some h
  exact .binOp (fun h _ => okVb_int.2 (i64_range (tmod_range (i64_lim h)))) (bo_rem hy)
theorem r_quo {z : Int} (h : quoI x y = some z) : OpR P tk (.binOp .quo t X Y yt) ty [(.val (.int .i64 x), b1), (.val (.int .i64 y), b2)] [] (v0 (.val (.int .i64 z))) := by
  obtain ⟨hy, rfl⟩ := quoI_some h
  exact .binOp (fun _ _ => okW _) (fun w => by rw [bo_quo hy w, wrapW])
theorem r_not {b : Bool} : OpR P tk (.unOp .not t X) ty [(.val (.bool b), b1)] [] (v0 (.val (.bool (!b)))) := .unOp (fun _ => rfl) uo_not
theorem r_seql {a b : ByteArray} : OpR P tk (.binOp .eql t X Y yt) ty [(.val (.string a), b1), (.val (.string b), b2)] [] (v0 (.val (.bool (decide (a = b))))) := .binOp (fun _ _ => rfl) bo_seql
theorem r_sneq {a b : ByteArray} : OpR P tk (.binOp .neq t X Y yt) ty [(.val (.string a), b1), (.val (.string b), b2)] [] (v0 (.val (.bool (!decide (a = b))))) := .binOp (fun _ _ => rfl) (fun w => by rw [bo_sneq w, decide_not])
theorem r_conv_u8 {src dst : TypeId} (hs : P.underlying src = some (.int k)) (hd : P.underlying dst = some (.int .u8)) : OpR P tk (.convert src dst X) ty [(.val (.int k x), b1)] [] (v0 (.val (.int .u8 ((u8 x).toNat : Int)))) :=
  .conv (by unfold scT; rw [hs]) (by unfold scT; rw [hd]) (fun _ => ok8 _) (fun w => by rw [cv_int (by rw [hs]; rfl) hd w, wrap8])
theorem r_conv_i64 {src dst : TypeId} (hs : P.underlying src = some (.int k)) (hd : P.underlying dst = some (.int .i64)) : OpR P tk (.convert src dst X) ty [(.val (.int k x), b1)] [] (v0 (.val (.int .i64 (W x)))) :=
  .conv (by unfold scT; rw [hs]) (by unfold scT; rw [hd]) (fun _ => okW _) (fun w => by rw [cv_int (by rw [hs]; rfl) hd w, wrapW])
theorem r_conv_8i {src dst : TypeId} {u : UInt8} (hs : P.underlying src = some (.int .u8)) (hd : P.underlying dst = some (.int .i64)) : OpR P tk (.convert src dst X) ty [(.val (.int .u8 (u.toNat : Int)), b1)] [] (v0 (.val (.int .i64 (u.toNat : Int)))) :=
  .conv (by unfold scT; rw [hs]) (by unfold scT; rw [hd]) (fun _ => okVb_int.2 (i64_range ⟨by omega, by have := u.toNat_lt; omega⟩)) (fun w => by
    have := u.toNat_lt
    rw [cv_int (by rw [hs]; rfl) hd w, wrapW, W_id (by omega)])
theorem r_pickT {Z : Operand} {c : Bool} {d1 d2 : DV} {b3 : Option LB} (h : c = true) : OpR P tk (.pick X Y Z) ty [(.val (.bool c), b1), (d1, b2), (d2, b3)] [] (v0 d1) := by subst h; exact .pick
theorem r_pickF {Z : Operand} {c : Bool} {d1 d2 : DV} {b3 : Option LB} (h : c = false) : OpR P tk (.pick X Y Z) ty [(.val (.bool c), b1), (d1, b2), (d2, b3)] [] (v0 d2) := by subst h; exact .pick
end
section
variable {P : Program} {tk : Nat} {t ty e sz bytes : Nat} {X Y : Operand} {b1 b2 : Option LB} {α : Type} {f : α → List C} {l : List α} {n : Int} {k : IntKind} {j kr e' : Nat} {x : α}
theorem r_lenS (h : SlT P t e sz bytes) (hf : ∀ x, (f x).length = sz) : OpR P tk (.call ⟨.builtin .len, #[X], #[t]⟩) ty [(.sl sz (encL f l), b1)] [] (v0 (.val (.int .i64 (l.length : Int)))) := .len h.elem (.sl h.hsz (encL_len hf l))
theorem r_lenR (h : SlT P t e sz bytes) (hf : ∀ x, (f x).length = sz) : OpR P tk (.call ⟨.builtin .len, #[X], #[t]⟩) ty [(.row kr, some (.row e' sz (encL f l)))] [] (v0 (.val (.int .i64 (l.length : Int)))) := .len h.elem (.row h.hsz (encL_len hf l))
theorem r_idxS (h : SlT P t e sz bytes) (hf : ∀ x, (f x).length = sz) (hj : n = (j : Int)) (hx : l[j]? = some x) : OpR P tk (.indexAddr t X Y) ty [(.sl sz (encL f l), b1), (.val (.int k n), b2)] [] (v0 (.elt ((encL f l).drop (j * sz)))) := .idxS h hj (enc_le hf hx)
theorem r_idxR (h : SlT P t e sz bytes) (hf : ∀ x, (f x).length = sz) (hj : n = (j : Int)) (hx : l[j]? = some x) : OpR P tk (.indexAddr t X Y) ty [(.row kr, some (.row e' sz (encL f l))), (.val (.int k n), b2)] [] (v0 (.ptr kr (j * sz))) := .idxR h hj (enc_le hf hx)
theorem r_fieldE {s g off ft sz' : Nat} {ag : Bool} {cs : List C} {a : Nat} (h : Fd P s g off ft) (ht : Ty P ft ag sz') (hz : 0 < sz') (hl : a + off < cs.length) : OpR P tk (.fieldAddr s X g) ty [(.elt (cs.drop a), b1)] [] (v0 (.elt (cs.drop (a + off)))) := by
  have := OpR.fieldE (P := P) (tk := tk) (x := X) (ty := ty) (b := b1) h ht hz (cs := cs.drop a) (by rw [List.length_drop]; omega)
  rwa [List.drop_drop] at this
theorem r_loadE1 {sz' a : Nat} {cs : List C} {c : C} (ht : Ty P t false sz') (h : cs[a]? = some c) : OpR P tk (.load t X) ty [(.elt (cs.drop a), b1)] [] (v0 (cdv c)) := .loadE1 ht (by rw [List.getElem?_drop]; exact h)
theorem r_loadEA {m a : Nat} {cs cs2 : List C} (ht : Ty P t true m) (h : (cs.drop a).take m = cs2) (hl : a + m ≤ cs.length) : OpR P tk (.load t X) ty [(.elt (cs.drop a), b1)] [] (v0 (.agg (cs2.map cdv))) := by
  subst h
  exact .loadEA ht (by rw [List.length_drop]; omega)
theorem r_loadRA {m a s : Nat} {cs cs2 : List C} (ht : Ty P t true m) (h : (cs.drop a).take m = cs2) (hl : a + m ≤ cs.length) : OpR P tk (.load t X) ty [(.ptr kr a, some (.row e' s cs))] [] (v0 (.agg (cs2.map cdv))) := by
  subst h
  exact .loadRA ht hl
theorem r_storeR {i s : Nat} {cs cs' cs2 : List C} {ag : Bool} {d : DV} {sz' : Nat} {ck : List (Option Nat)} (ht : Ty P t ag sz') (hs : (dcells d).length = sz') (hi : i + sz' ≤ cs.length) (hk : cellK P 20 t = ck) (hd : DcsE ck (dcells d) cs') (h : splice cs i cs' = cs2) : OpR P tk (.store t X Y) ty [(.ptr kr i, some (.row e' s cs)), (d, b2)] [kr] (wrt kr (.row e' s cs2)) := by
  subst h
  exact .storeR ht hs hi hk hd
theorem r_append {d d' : DV × Option LB} {l' l2 : List α} {ks : List Nat} {kk : Nat} {cs cs' : List C} (hS : SlT P t e sz bytes) (hf : ∀ x, (f x).length = sz) (ht : Tgt d e sz cs ks) (hc : cs = encL f l) (hs : Src d' sz cs') (hc' : cs' = encL f l') (h : appI kk l l' = some l2) (hk : sz * bytes = kk) : OpR P tk (.call ⟨.builtin .append, #[X, Y], #[t, t]⟩) ty [d, d'] ks (new1k tk (.row e sz (encL f l2)) ks (.row tk)) := by
  subst hc hc'
  obtain ⟨h1, rfl⟩ := appI_some h
  rw [encL_append]
  refine .append hS ht hs ?_
  rw [encL_len hf, encL_len hf, ← Nat.add_mul, Nat.mul_assoc, hk]
  exact h1
theorem dcs_rep {ck : List (Option Nat)} {ds : List DV} {z : α} (h : DcsE ck ds (f z)) (hk : ck.length = ds.length) : ∀ m, DcsE (List.replicate m ck).flatten (List.replicate m ds).flatten (encL f (List.replicate m z))
  | 0 => .nil
  | m + 1 => by
    have ih := dcs_rep h hk m
    rw [List.replicate_succ, List.replicate_succ, List.replicate_succ, List.flatten_cons, List.flatten_cons]
    show DcsE _ _ (f z ++ encL f (List.replicate m z))
    have app : ∀ {k1 : List (Option Nat)} {d1 : List DV} {c1 : List C}, DcsE k1 d1 c1 → k1.length = d1.length → ∀ {k2 d2 c2}, DcsE k2 d2 c2 → DcsE (k1 ++ k2) (d1 ++ d2) (c1 ++ c2) := by
      intro k1 d1 c1 h1
      induction h1 with
      | @nil ks => intro hl k2 d2 c2 h2; have : ks = [] := List.eq_nil_of_length_eq_zero (by simpa using hl); subst this; exact h2
      | cons h hs ih => intro hl k2 d2 c2 h2; exact .cons h (ih (by simpa using hl) h2)
    exact app h hk ih
theorem r_makeSl {z : List Value} {k' : IntKind} {z0 : α} {kk : Nat} {ck : List (Option Nat)} (hS : SlT P t e sz bytes) (hz : Zt P e z) (hk : cellK P 20 e = ck) (hd : DcsE ck (z.map DV.val) (f z0)) (hl : ck.length = (z.map DV.val).length) (h : makI kk n z0 = some l) (hkk : bytes = kk) (hxy : X = Y := by rfl) : OpR P tk (.makeSlice t X Y) ty [(.val (.int k n), b1), (.val (.int k' n), b2)] [] (new1 tk (.row e sz (encL f l)) (.row tk)) := by
  obtain ⟨m, rfl, h1, h2, rfl⟩ := makI_some h
  subst hkk
  exact .makeSl hS hz rfl ⟨h1, h2⟩ hk (dcs_rep hd hl m) hxy
section
variable {lo hi : Operand} {a b : Int} {ka kb : IntKind} {b3 : Option LB} {m : List α}
theorem r_sliS (hS : SlT P t e sz bytes) (hf : ∀ x, (f x).length = sz) (h : slI l a b = some m) : OpR P tk (.slice t X (some lo) (some hi) none) ty [(.sl sz (encL f l), b1), (.val (.int ka a), b2), (.val (.int kb b), b3)] [] (v0 (.sl sz (encL f m))) := by
  obtain ⟨i, j, rfl, rfl, h1, h2, rfl⟩ := slI_some h
  rw [← enc_sub hf l i j h1 h2]
  exact .sliS hS (encL_len hf l) ⟨_, _, _, _, _, _, rfl, rfl, rfl⟩ ⟨h1, h2⟩
theorem r_sliS_hi (hS : SlT P t e sz bytes) (hf : ∀ x, (f x).length = sz) (h : slI l 0 b = some m) : OpR P tk (.slice t X none (some hi) none) ty [(.sl sz (encL f l), b1), (.val (.int kb b), b2)] [] (v0 (.sl sz (encL f m))) := by
  obtain ⟨i, j, hi', rfl, h1, h2, rfl⟩ := slI_some h
  have : i = 0 := by omega
  subst this
  rw [← enc_sub hf l 0 j h1 h2]
  exact .sliS hS (encL_len hf l) ⟨⟨_, _, _, rfl, rfl⟩, rfl⟩ ⟨h1, h2⟩
end
theorem r_convS {src dst : TypeId} {d : DV × Option LB} {cs : List C} {l : List UInt8} (hs : P.underlying src = some (.slice e)) (he : P.underlying e = some (.int .u8)) (hd : P.underlying dst = some .string) (h : SrcN d 1 cs) (hc : cs = encL e8 l) : OpR P tk (.convert src dst X) ty [d] [] (v0 (.val (.string (ofB l)))) := .convS hs he hd h (hc.trans (encL8 l))
end
theorem Cv.frzE {σ : St} {θ : Nat → Option Nat} {j e sz : Nat} {cs : List C} (h : σ.L j = some (.row e sz cs)) (h' : (match σ.L j with | some _ => true | none => false) = true) (hn : ∀ k, θ k ≠ some j) : Cv σ θ (.row j) (.sl sz cs) := .frz h hn
end Go.Proofs.Ytfkgbfhpibiheaa
namespace Go.Proofs.Ytfkgbfhpibiheaa
open Go.RowKit
mutual
theorem mapD_id (f : Nat → Nat) : ∀ d, dtok d = [] → mapD f d = d
  | .row _, h => by simp [dtok] at h
  | .part _ _ _, h => by simp [dtok] at h
  | .ptr _ _, h => by simp [dtok] at h
  | .nst _ _ _, h => by simp [dtok] at h
  | .npt _ _ _ _, h => by simp [dtok] at h
  | .qpt _ _, h => by simp [dtok] at h
  | .val _, _ => rfl
  | .sl _ _, _ => rfl
  | .slc _ _, _ => rfl
  | .mp _, _ => rfl
  | .elt _, _ => rfl
  | .agg ds, h => by unfold dtok at h; unfold mapD; rw [mapDs_id f ds h]
  | .tup ds, h => by unfold dtok at h; unfold mapD; rw [mapDs_id f ds h]
  | .clo _ _ ds, h => by unfold dtok at h; unfold mapD; rw [mapDs_id f ds h]
theorem mapDs_id (f : Nat → Nat) : ∀ ds, dtoks ds = [] → mapDs f ds = ds
  | [], _ => rfl
  | d :: ds, h => by
    unfold dtoks at h
    have h1 := List.append_eq_nil_iff.1 h
    unfold mapDs
    rw [mapD_id f d h1.1, mapDs_id f ds h1.2]
end
def btok : LB → List Nat
  | .box ds _ => dtoks ds
  | .row .. => []
  | .map _ => []
  | .mit k _ _ => [k]
  | .vec ds _ => dtoks ds
  | .tree _ _ _ _ _ s _ _ => [s]
  | .gho => []
  | .que .. => []
theorem mapB_id (f : Nat → Nat) {lb : LB} (h : btok lb = []) : mapB f lb = lb := by
  cases lb with
  | box ds ty =>
    show LB.box (mapDs f ds) ty = _
    rw [mapDs_id f ds h]
  | row => rfl
  | map => rfl
  | mit => cases h
  | tree => cases h
  | gho => rfl
  | que => rfl
  | vec ds e =>
    show LB.vec (mapDs f ds) e = _
    rw [mapDs_id f ds h]
def effP (ps gs : List Nat) (r : DV) (bx : List LB) : Eff := ⟨some r, fun k => match look (ps.zip bx) k with | some lb => some (some lb) | none => bif gs.any (Nat.beq k) then some none else none⟩
theorem impA_zip {ps : List Nat} {tk : Nat} : ∀ {l : List Nat} {b : List LB} {i : Nat}, (∀ j, l[j]? = ps[i + j]?) → b.length = l.length → (∀ lb ∈ b, btok lb = []) → impA ps tk i b = l.zip b
  | [], [], _, _, _, _ => rfl
  | x :: l, lb :: b, i, hl, hb, ht => by
    unfold impA
    have h0 := hl 0
    simp only [Nat.add_zero] at h0
    have e1 : impT ps tk i = x := by
      unfold impT
      rw [← h0]
      rfl
    rw [e1, mapB_id _ (ht lb (List.mem_cons_self ..)), impA_zip (l := l) (fun j => by have := hl (j + 1); rw [show i + 1 + j = i + (j + 1) by omega, ← this]; rfl) (by simpa using hb) fun lb h => ht lb (List.mem_cons_of_mem _ h)]
    rfl
  | [], _ :: _, _, _, h, _ => by simp at h
  | _ :: _, [], _, _, h, _ => by simp at h
theorem effP_eq {ps gs : List Nat} {tk : Nat} {r : DV} {b : List LB} (hr : dtok r = []) (hl : b.length = ps.length) (hb : ∀ lb ∈ b, btok lb = []) : effC ps gs tk r b = effP ps gs r b := by
  unfold effC effP
  rw [mapD_id _ _ hr, impA_zip (l := ps) (fun j => by rw [Nat.zero_add]) hl hb]
  rfl
section
variable {P : Program} {cx : Cx} {ops : Array Oper} {Rt : Option (List Nat)} {nb i : Nat} {l : List Oper} {lg : Log} {σ : St} {Q : St → Prop} {fz : List Nat}
theorem ch_callP {dst : Option Tmp} {f : FuncId} {xs : Array Operand} {tys : Array TypeId} {ty : TypeId} {pos : String} {af : Array Edge} {g : Option (Nat × Bool)} {dsA : List (DV × Option LB)} {rd ps gs : List Nat} {args : List DV} {bx : List LB} {d : DV} {b : List LB} (fl : Bool)
    (hg : gdv ops σ ⟨dst, .call ⟨.value (.func f), xs, tys⟩, ty, pos, af, g⟩ = some true)
    (hF : Fn P f ps.length args bx (fun d' b' => d' = d ∧ b' = b)) (hds : evs σ true xs.toList = some dsA) (hrd : deep σ 3 (argT dsA) = rd) (hA : AgL fl (ps ++ gs) (envL σ rd) (dsA.map (·.1)) args) (hB : BxR fl (ps ++ gs) (envL σ rd) (ps ++ gs) bx) (hnd : hands cx.np ps gs = true) (hfl : fl = true → flatD d ∧ ∀ lb ∈ b, flatB lb)
    (hok : okL Rt i true (nb + 8 * i) rd (ps ++ gs) lg = true) (hr : dtok d = []) (hl : b.length = ps.length) (hb : b.flatMap btok = [])
    (k : Chain (sys P cx fz) ops Rt nb (idx (i + 1) l) ((i, true, nb + 8 * i, rd, ps ++ gs) :: lg) (σ.app dst (effP ps gs d b)) Q) :
    Chain (sys P cx fz) ops Rt nb (idx i (⟨dst, .call ⟨.value (.func f), xs, tys⟩, ty, pos, af, g⟩ :: l)) lg σ Q := by
  refine ch_call fl hg hF hds hrd hA hB hnd (fun h r b => ?_) hok (fun _ => ⟨_, _, ⟨rfl, rfl⟩, by omega, by omega⟩) fun r b => ?_
  · rintro ⟨rfl, rfl⟩; exact hfl h
  · rintro ⟨rfl, rfl⟩
    rw [effP_eq hr hl fun lb h => ?_]
    · exact k
    · have := List.flatMap_eq_nil_iff.1 hb lb h
      exact this
theorem ch_callCP {dst : Option Tmp} {t : Tmp} {f : FuncId} {n : Nat} {cs : List DV} {q : Option LB} {xs : Array Operand} {tys : Array TypeId} {ty : TypeId} {pos : String} {af : Array Edge} {g : Option (Nat × Bool)} {dsA : List (DV × Option LB)} {rd ps gs : List Nat} {args : List DV} {bx : List LB} {d : DV} {b : List LB} (fl : Bool)
    (hg : gdv ops σ ⟨dst, .call ⟨.value (.tmp t), xs, tys⟩, ty, pos, af, g⟩ = some true) (hc : ev σ true (.tmp t) = some (.clo f n cs, q))
    (hF : Fn P f ps.length args bx (fun d' b' => d' = d ∧ b' = b)) (hds : evs σ true xs.toList = some dsA) (hrd : deep σ 3 (dtoks cs ++ argT dsA) = rd) (hA : AgL fl (ps ++ gs) (envL σ rd) (cs.take n ++ (dsA.map (·.1) ++ cs.drop n)) args) (hB : BxR fl (ps ++ gs) (envL σ rd) (ps ++ gs) bx) (hnd : hands cx.np ps gs = true) (hfl : fl = true → flatD d ∧ ∀ lb ∈ b, flatB lb)
    (hok : okL Rt i true (nb + 8 * i) rd (ps ++ gs) lg = true) (hr : dtok d = []) (hl : b.length = ps.length) (hb : b.flatMap btok = [])
    (k : Chain (sys P cx fz) ops Rt nb (idx (i + 1) l) ((i, true, nb + 8 * i, rd, ps ++ gs) :: lg) (σ.app dst (effP ps gs d b)) Q) :
    Chain (sys P cx fz) ops Rt nb (idx i (⟨dst, .call ⟨.value (.tmp t), xs, tys⟩, ty, pos, af, g⟩ :: l)) lg σ Q := by
  refine ch_callC fl hg hc hF hds hrd hA hB hnd (fun h r b => ?_) hok (fun _ => ⟨_, _, ⟨rfl, rfl⟩, by omega, by omega⟩) fun r b => ?_
  · rintro ⟨rfl, rfl⟩; exact hfl h
  · rintro ⟨rfl, rfl⟩
    rw [effP_eq hr hl fun lb h => ?_]
    · exact k
    · have := List.flatMap_eq_nil_iff.1 hb lb h
      exact this
end
section
variable {P : Program} {tk : Nat} {t ty yt : TypeId} {X Y : Operand} {b1 b2 : Option LB} {k k' : IntKind} {x y : Int}
theorem ok_wrap (k : IntKind) (z : Int) : okVb (.int k (k.wrap z)) = true := by
  rw [okVb_int]
  cases k <;> simp [IntKind.wrap, IntKind.bits, IntKind.signed, IntKind.min, IntKind.max] <;> (try split) <;> omega
theorem r_subK : OpR P tk (.binOp .sub t X Y yt) ty [(.val (.int k x), b1), (.val (.int k y), b2)] [] (v0 (.val (.int k (k.wrap (x - y))))) := .binOp (fun _ _ => ok_wrap _ _) bo_subw
theorem r_andK : OpR P tk (.binOp .and t X Y yt) ty [(.val (.int k x), b1), (.val (.int k y), b2)] [] (v0 (.val (.int k (andK k x y)))) := .binOp (fun _ _ => ok_wrap _ _) (fun w => by simp [eqGuard, binOp, Op.intBits, andK])
theorem r_xorK : OpR P tk (.binOp .xor t X Y yt) ty [(.val (.int k x), b1), (.val (.int k y), b2)] [] (v0 (.val (.int k (xorK k x y)))) := .binOp (fun _ _ => ok_wrap _ _) (fun w => by simp [eqGuard, binOp, Op.intBits, xorK])
theorem min_max (k : IntKind) : k.min ≤ 0 ∧ 0 ≤ k.max := by cases k <;> decide
theorem ediv_le0 {x d : Int} (hx : x ≤ 0) (hd : 0 < d) : x / d ≤ 0 := by
  rcases Int.lt_trichotomy (x / d) 0 with h | h | h
  · omega
  · omega
  · exfalso
    have h1 := Int.mul_ediv_add_emod x d
    have h2 := Int.emod_nonneg x (show d ≠ 0 by omega)
    have h3 : d * 1 ≤ d * (x / d) := Int.mul_le_mul_of_nonneg_left (by omega) (by omega)
    omega
theorem r_shrK {z : Int} (h : shrK k x y = some z) : OpR P tk (.binOp .shr t X Y yt) ty [(.val (.int k x), b1), (.val (.int k' y), b2)] [] (v0 (.val (.int k z))) := by
  obtain ⟨h0, rfl⟩ := shrK_some h
  refine .binOp (fun hx _ => ?_) (fun w => by simp [eqGuard, binOp, Op.shift, h0])
  rw [okVb_int] at hx ⊢
  have hm := min_max k
  have hd : (0 : Int) < 2 ^ min y.toNat k.bits := Int.pow_pos (by omega)
  generalize (2 : Int) ^ min y.toNat k.bits = d at hd
  rw [Int.fdiv_eq_ediv_of_nonneg _ (Int.le_of_lt hd)]
  rcases Int.le_total 0 x with hx0 | hx0
  · have h1 := Int.ediv_nonneg hx0 (Int.le_of_lt hd)
    have h2 := Int.ediv_le_self d hx0
    omega
  · have h1 : x ≤ x / d := by
      have := Int.mul_ediv_add_emod x d
      have h3 := Int.emod_nonneg x (show d ≠ 0 by omega)
      have h4 : x / d ≤ 0 := ediv_le0 hx0 hd
      have h5 : d * (x / d) ≤ 1 * (x / d) := Int.mul_le_mul_of_nonpos_right (by omega) h4
      have h6 := Int.emod_lt_of_pos x hd
      by_cases h7 : x / d = 0
      · omega
      · have h8 : x / d ≤ -1 := by omega
        have h9 : (d - 1) * (x / d) ≤ (d - 1) * (-1) := Int.mul_le_mul_of_nonneg_left h8 (by omega)
        have h10 : d * (x / d) = (d - 1) * (x / d) + x / d := by rw [Int.sub_mul, Int.one_mul]; omega
        omega
    have h2 : x / d ≤ 0 := ediv_le0 hx0 hd
    omega
theorem r_shlK {z : Int} (h : shlK k x y = some z) : OpR P tk (.binOp .shl t X Y yt) ty [(.val (.int k x), b1), (.val (.int k' y), b2)] [] (v0 (.val (.int k z))) := by
  obtain ⟨h0, rfl⟩ := shlK_some h
  exact .binOp (fun _ _ => ok_wrap _ _) (fun w => by simp [eqGuard, binOp, Op.shift, h0])
theorem r_convK {src dst : TypeId} (hs : P.underlying src = some (.int k)) (hd : P.underlying dst = some (.int k')) : OpR P tk (.convert src dst X) ty [(.val (.int k x), b1)] [] (v0 (.val (.int k' (k'.wrap x)))) :=
  .conv (by unfold scT; rw [hs]) (by unfold scT; rw [hd]) (fun _ => ok_wrap _ _) (cv_int (by rw [hs]; rfl) hd)
theorem r_idxT {s : ByteArray} {u : UInt8} (ht : P.underlying t = some .string) (h : idxT s x = some u) : OpR P tk (.index t X Y) ty [(.val (.string s), b1), (.val (.int k x), b2)] [] (v0 (.val (.int .u8 (u.toNat : Int)))) := by
  unfold idxT at h
  split at h
  · cases h
  · rename_i h0
    have h1 : 0 ≤ x := by omega
    have hlt := (Array.getElem?_eq_some_iff.1 h).1
    have hs : s[x.toNat]? = some u := by
      have hlt' : x.toNat < s.size := hlt
      rw [getElem?_pos s x.toNat hlt']
      have := (Array.getElem?_eq_some_iff.1 h).2
      exact congrArg some this
    exact .indexS (fun _ _ => ok8 _) (fun w => by simp [Instr.index, asIntOf, run_underlying ht, h1, hs])
end
section
variable {α : Type} {f : α → List C} {sz : Nat}
end
section
variable {P : Program} {tk : Nat} {t ty e sz bytes : Nat} {X Y : Operand} {b1 b2 b3 : Option LB} {α : Type} {f : α → List C} {l m : List α} {n : Int} {k ka kb : IntKind} {j kr e' : Nat} {x : α} {lo hi : Operand} {a b : Int}
theorem dfill_full {sz : Nat} : ∀ (ds : List DV) (k : Nat) (pre rest : List DV), pre.length = k * sz → rest.length = ds.length * sz → (∀ d ∈ ds, (dcells d).length = sz) → dfill (fun i => some (i * sz, sz)) (pre ++ rest) ((List.range' k ds.length).zip ds) = some (pre ++ ds.flatMap dcells)
  | [], k, pre, rest, _, hr, _ => by
    have : rest = [] := List.eq_nil_of_length_eq_zero (by simpa using hr)
    subst this
    simp [dfill]
  | d :: ds, k, pre, rest, hp, hr, hd => by
    have h0 := hd d (List.mem_cons_self ..)
    have hr' : rest.length = ds.length * sz + sz := by rw [hr, List.length_cons, Nat.add_mul, Nat.one_mul]
    rw [List.length_cons, List.range'_succ, List.zip_cons_cons]
    unfold dfill
    simp only []
    have c1 : Nat.beq (dcells d).length sz = true := by rw [h0]; exact Nat.beq_refl _
    have c2 : Nat.ble (k * sz + sz) (pre ++ rest).length = true := Nat.ble_eq_true_of_le (by rw [List.length_append, hp, hr']; omega)
    rw [c1, c2]
    simp only [Bool.and_self, cond_true]
    have e1 : splice (pre ++ rest) (k * sz) (dcells d) = (pre ++ dcells d) ++ rest.drop sz := by
      unfold splice
      rw [h0, ← hp, List.take_left, ← List.drop_drop, List.drop_left, List.append_assoc]
    rw [e1, dfill_full ds (k + 1) (pre ++ dcells d) (rest.drop sz) (by rw [List.length_append, hp, h0, Nat.add_mul, Nat.one_mul]) (by rw [List.length_drop, hr']; omega) fun x hx => hd x (List.mem_cons_of_mem _ hx)]
    rw [List.flatMap_cons, List.append_assoc]
theorem r_buildFull {len : Nat} {parts : Array (Nat × Operand)} {ds : List (DV × Option LB)} {z : List Value} {cs : List C} {ck : List (Option Nat)} (hS : SlT P t e sz bytes) (hz : Zt P e z) (hlen : len * sz ≤ 16777216) (hp : parts.toList.map (·.1) = List.range' 0 len) (hzl : z.length = sz) (hn : ds.length = len) (hs : ds.all (fun q => Nat.beq (dcells q.1).length sz) = true) (hk : cellK P 20 e = ck) (hc : DcsE (List.replicate len ck).flatten (ds.flatMap fun q => dcells q.1) cs) (ho : ds.all (fun q => (dcells q.1).all okC) = true) (h : encL f l = cs) : OpR P tk (.buildSlice t len parts) ty ds [] (new1 tk (.row e sz (encL f l)) (.row tk)) := by
  subst h
  refine .buildSl hS hz hlen ?_ hk hc ho
  have hd := dfill_full (sz := sz) (ds.map (·.1)) 0 [] ((List.replicate len (z.map DV.val)).flatten) (by simp) (by simp [hzl, hn]) fun d hd => by
    obtain ⟨q, hq, rfl⟩ := List.mem_map.1 hd
    exact Nat.eq_of_beq_eq_true (List.all_eq_true.1 hs q hq)
  rw [List.nil_append, List.nil_append, List.length_map, hn] at hd
  rw [hp, hd]
  congr 1
  rw [List.flatMap_map]
theorem r_storeB {i bt sz' : Nat} {ds ds' : List DV} {ag : Bool} {d : DV} {kk : Nat} (ht : Ty P t ag sz') (hs : (dcells d).length = sz') (hi : i + sz' ≤ ds.length) (ho : (dcells d).all okC = true) (h : splice ds i (dcells d) = ds') : OpR P tk (.store t X Y) ty [(.ptr kk i, some (.box ds bt)), (d, b2)] [kk] (wrt kk (.box ds' bt)) := by
  subst h
  exact .storeB ht hs hi ho
theorem r_indexAA {tk2 : Nat} {m' : Nat} {ds : List DV} {L : List α} (ht : P.underlying t = some (.array m' e)) (he : Ty P e true sz) (hf : ∀ x, (f x).length = sz) (hds : ds = (encL f L).map cdv) (hL : L.length = m') (hx : getI L n = some x) {d2 : List DV} (h2 : (f x).map cdv = d2) : OpR P tk2 (.index t X Y) ty [(.agg ds, b1), (.val (.int k n), b2)] [] (v0 (.agg d2)) := by
  have hx' := getI_at hx
  refine .indexAA ht he (getI_ix hx) (by rw [← hL]; exact (List.getElem?_eq_some_iff.1 hx').1) ?_
  rw [hds, ← List.map_drop, ← List.map_take, ← h2]
  congr 1
  exact enc_cells hf hx' (o := 0) (by rw [List.drop_zero]; exact List.take_of_length_le (Nat.le_of_eq (hf _))) (by omega) rfl
end
def eA {α : Type} [Inhabited α] (n : Nat) (f : α → List C) (x : List α) : List C := (List.range n).flatMap fun i => f (x[i]!)
theorem eA_len {α : Type} [Inhabited α] {n sz : Nat} {f : α → List C} (hf : ∀ x, (f x).length = sz) (x : List α) : (eA n f x).length = n * sz := by
  unfold eA
  induction n with
  | zero => simp
  | succ n ih => rw [List.range_succ, List.flatMap_append, List.length_append, ih, List.flatMap_cons, List.flatMap_nil, List.append_nil, hf, Nat.add_mul, Nat.one_mul]
class Stp (p : Prop) (q : outParam Prop) : Prop where
  go : q → p
theorem st_ {p q : Prop} [s : Stp p q] (h : q) : p := s.go h
section
variable {next : St → Prop} {Q : Exit → St → Prop} {i : Nat} {σ : St}
instance : Stp (thn next Q .normal σ) (next σ) := ⟨fun h => h⟩
instance : Stp (thn next Q (.exit i) σ) (Q (.exit i) σ) := ⟨fun h => h⟩
instance : Stp (thn next Q .ret σ) (Q .ret σ) := ⟨fun h => h⟩
instance : Stp (inB i Q (.exit i) σ) (Q .normal σ) := ⟨fun h => inB_here h⟩
instance : Stp (inB i Q .normal σ) (Q .normal σ) := ⟨fun h => h⟩
instance : Stp (inB i Q .ret σ) (Q .ret σ) := ⟨fun h => h⟩
instance : Stp (noG Q .normal σ) (Q .normal σ) := ⟨fun h => h⟩
instance : Stp (noG Q (.exit i) σ) (Q (.exit i) σ) := ⟨fun h => h⟩
instance : Stp (noG Q .ret σ) (Q .ret σ) := ⟨fun h => h⟩
end
class StpN (p : Prop) (q : outParam Prop) : Prop where
  go : q → p
instance (priority := low) stpN_nil (p : Prop) : StpN p p := ⟨fun h => h⟩
instance stpN_cons {p p' q : Prop} [s : Stp p p'] [t : StpN p' q] : StpN p q := ⟨fun h => s.go (t.go h)⟩
theorem aw_r {P : Program} {cx : Cx} {Q : Exit → St → Prop} {σ : St} {q : Prop} [s : StpN (Q .ret σ) q] (h : q) : awp P cx .ret Q σ := awp_ret (s.go h)
theorem sn_ {Q : Exit → St → Prop} {i j : Nat} {σ : St} (h : Q (.exit j) σ) (hne : j ≠ i := by decide) : inB i Q (.exit j) σ := inB_other hne h
theorem sr_ {P : Program} {cx : Cx} {id : Nat} {l : List Oper} {σ : St} {y : Code} {Q : Exit → St → Prop} (nb nb' : Nat) (hU : ∀ k, nb ≤ k → σ.U k = false)
    (h : Chain (sys P cx []) l.toArray none nb (idx 0 l) [] σ (fun σ' => (∀ j, nb' ≤ j → σ'.U j = false) → thn (awp P cx y Q) Q .normal σ')) (hn : Nat.ble (nb + 8 * l.length) nb' = true := by rfl) (hd : dstB cx.N l = true := by rfl) : awp P cx (.seq (.region id l.toArray false) y) Q σ :=
  awp_seq (awp_region (sys _ _ []) nb nb' hU hn hd h)
section
variable {P : Program} {cx : Cx} {ops : Array Oper} {Rt : Option (List Nat)} {nb i : Nat} {l : List Oper} {lg : Log} {σ : St} {Q : St → Prop} {fz : List Nat}
theorem ch_n {Q : Exit → St → Prop} {nb' : Nat} {q : Prop} [s : StpN (Q .normal σ) q] (h : (∀ j, nb' ≤ j → σ.U j = false) → q) : Chain (sys P cx fz) ops Rt nb (idx i []) lg σ (fun σ' => (∀ j, nb' ≤ j → σ'.U j = false) → Q .normal σ') := ch_q fun hU => s.go (h hU)
theorem c0_ {dst : Option Tmp} {op : Op} {ty : TypeId} {pos : String} {af : Array Edge} {g : Option (Nat × Bool)} {ds : List (DV × Option LB)} {wr : List Nat} {e : Eff} (hg : gdv ops σ ⟨dst, op, ty, pos, af, g⟩ = some true) (hds : evs σ (touch op) op.operands.toList = some ds) (h : OpR P (nb + 8 * i) op ty ds wr e)
    (hrd : (bif touch op then toks (blindB op) ds else []) = []) (hok : okL Rt i false (nb + 8 * i) [] wr lg = true) (k : Chain (sys P cx fz) ops Rt nb (idx (i + 1) l) ((i, false, nb + 8 * i, [], wr) :: lg) (σ.app dst e) Q) (hz : zM fz (nb + 8 * i) = 0 := by rfl) (hap : apB cx.np op wr = true := by rfl) :
    Chain (sys P cx fz) ops Rt nb (idx i (⟨dst, op, ty, pos, af, g⟩ :: l)) lg σ Q := ch_s (rd := []) hg hds h hrd hok k hz hap
end
end Go.Proofs.Ytfkgbfhpibiheaa
namespace Go.Proofs.Ytfkgbfhpibiheaa
open Go.RowKit
theorem Sub.cut {cx : Cx} {σ σ' : St} {t k n e sz : Nat} {cs : List C} (hk : cx.np ≤ k) (hF : σ.F t = some (.part k 0 n)) (hL : σ.L k = some (.row e sz cs)) (hn : n * sz ≤ cs.length)
    (hF' : ∀ s d, σ'.F s = some d → (d = .row k ∧ s = t) ∨ (σ.F s = some d ∧ ¬ men d k)) (hL' : ∀ j lb, σ'.L j = some lb → (j = k ∧ lb = .row e sz (cs.take (n * sz))) ∨ (j ≠ k ∧ σ.L j = some lb ∧ ¬ menB lb k)) (hU : ∀ j, σ'.U j = σ.U j) : Sub cx σ σ' := by
  rintro a w ⟨ρ, h⟩
  obtain ⟨N, us, q1, q0, q2⟩ := h.lo _ _ hL
  have hr := h.fr _ _ hF
  unfold Rep at hr
  obtain ⟨A, c, hv, hnc, hc, hA, hB⟩ := hr
  have hlen : n * sz ≤ us.length := by rw [← q2.1]; exact hn
  have hblk : ∀ b, blkOf (a.tmps.getD t undef) = some b → blkOf (ρ k) = some b := fun b hb => by
    rcases q1.2 with ⟨A', e, -⟩ | ⟨g', cap, cur, e, r1, -⟩
    · obtain ⟨t1, t2⟩ := hB rfl _ _ _ e
      rw [hv, t2] at hb
      cases A <;> cases hb
    · obtain ⟨t1, t2⟩ := hB rfl _ _ _ e
      rw [hv, t1] at hb
      rw [e, blkOf_pos r1, (blkOf_sl hb).1]
  have hown : w.rowOk e sz (a.tmps.getD t undef) n (us.take (n * sz)) := by
    refine ⟨by rw [List.length_take]; omega, ?_⟩
    rcases q1.2 with ⟨A', e, q3⟩ | ⟨g, cap, cur, e, r1, r2, r3, r4, r5, r6⟩
    · obtain ⟨t1, t2⟩ := hB rfl _ _ _ e
      refine .inl ⟨A', by rw [hv, t1, t2]; congr 1; omega, by omega⟩
    · obtain ⟨t1, t2⟩ := hB rfl _ _ _ e
      refine .inr ⟨g, cap, cur, by rw [hv, t1, t2], r1, r2, by omega, r4, r5, ?_⟩
      have hle : n * sz ≤ N * sz := by rw [← q1.1]; exact hlen
      rw [← r6, List.take_take, Nat.min_eq_left hle]
  let ρ' : Nat → Value := fun j => if j = k then a.tmps.getD t undef else ρ j
  have hk' : ρ' k = a.tmps.getD t undef := if_pos rfl
  have ho : ∀ j, j ≠ k → ρ' j = ρ j := fun j hj => if_neg hj
  have loc : ∀ j lb b, σ'.L j = some lb → own ρ' (ρ' j) lb b → ∃ lb', σ.L j = some lb' ∧ own ρ (ρ j) lb' b := fun j lb b hj hb => by
    rcases hL' j lb hj with ⟨rfl, rfl⟩ | ⟨hne, h1, h2⟩
    · rw [hk'] at hb; exact ⟨_, hL, hblk b hb⟩
    · rw [ho j hne] at hb; exact ⟨_, h1, own_same (fun q hq => (ho q fun e => h2 (e ▸ hq)).symm) hb⟩
  have hI : ∀ b, Imm cx σ ρ w b → Imm cx σ' ρ' w b ∧ w.heap[b]? = w.heap[b]? := fun b hb => by
    refine ⟨⟨hb.1, fun hl => ?_, hb.2.2⟩, rfl⟩
    obtain ⟨j, lb, h1, h2⟩ := hl
    obtain ⟨lb', h3, h4⟩ := loc j lb b h1 h2
    exact hb.2.1 ⟨j, lb', h3, h4⟩
  refine ⟨ρ', ⟨h.defers, h.size, h.kept, fun s d hs => ?_, fun j lb hj => ?_, fun j j' lb lb' b h1 h2 h3 h4 => ?_, fun s d j hs hm => ?_, fun j lb hj => ?_, fun j hj => ?_, fun j lb b hj hp hb => ?_⟩⟩
  · rcases hF' s d hs with ⟨rfl, rfl⟩ | ⟨h1, h2⟩
    · unfold Rep
      rw [hk']
      refine ⟨rfl, ?_⟩
      rw [hv]; rfl
    · exact Rep.step hI d _ (fun j hj => ho j fun e => h2 (e ▸ hj)) (h.fr _ _ h1)
  · rcases hL' j lb hj with ⟨rfl, rfl⟩ | ⟨hne, h1, h2⟩
    · rw [hk']
      refine ⟨n, us.take (n * sz), hown, fun b hb => q0 b (hblk b hb), ?_⟩
      refine RdUs.keep_ (w := w) ⟨by rw [List.length_take, List.length_take, q2.1], fun j c u a b => ?_⟩ (fun b hb => rfl) fun b hb => (hI b hb).1
      rw [List.getElem?_take] at a b
      split at a
      · rename_i hj
        rw [if_pos hj] at b
        exact q2.2 j c u a b
      · cases a
    · rw [ho j hne]
      exact (h.lo _ _ h1).step hI (fun j' hj' => ho j' fun e => h2 (e ▸ hj')) fun b _ => rfl
  · obtain ⟨_, e1, e2⟩ := loc _ _ _ h1 h3
    obtain ⟨_, e3, e4⟩ := loc _ _ _ h2 h4
    exact h.sep _ _ _ _ _ e1 e3 e2 e4
  · rw [hU]
    rcases hF' s d hs with ⟨rfl, rfl⟩ | ⟨h1, h2⟩
    · unfold men at hm
      subst hm
      exact (h.usedL _ _ hL).1
    · exact h.usedF _ _ _ h1 hm
  · rw [hU]
    rcases hL' j lb hj with ⟨rfl, rfl⟩ | ⟨hne, h1, h2⟩
    · exact ⟨(h.usedL _ _ hL).1, fun k' hm => hm.elim⟩
    · exact ⟨(h.usedL _ _ h1).1, fun k' hm => by rw [hU]; exact (h.usedL _ _ h1).2 k' hm⟩
  · rw [hU]
    exact ⟨(ho j (by omega)).trans (h.pin j hj).1, (h.pin j hj).2⟩
  · obtain ⟨_, e1, e2⟩ := loc _ _ _ hj hb
    exact h.fresh _ _ _ e1 hp e2
end Go.Proofs.Ytfkgbfhpibiheaa
