import Derived.Test.YtjomajedgbcngaaED
import Derived.KernelRfl
import Derived.Test.YtjomajedgbcngaaPU
import Derived.Scope
set_option linter.unusedVariables false
set_option linter.unusedSimpArgs false
namespace Go.Proofs.Ytjomajedgbcngaa
open Go.RowKit
section
variable {Q : Exit -> St -> Prop} {next : St -> Prop} {σ : St} {i j : Nat}
theorem bY (h : Q .normal σ) : gR i Q (.exit i) σ := by
 show (if i = i then _ else _)
 rw [if_pos rfl]
 exact h
theorem Zq (hne : j ≠ i) (h : Q (.exit j) σ) : gR i Q (.exit j) σ := by
 show (if j = i then _ else _)
 rw [if_neg hne]
 exact h
end
theorem dT {P : Program} {t ty : TypeId} {s : ByteArray} (h : P.underlying t = some .string) : ∀ w, ∀ cs, (builtin .len #[t] ty cs #[.string s]).run P w = .ok (.value (.int .i64 s.size)) w := fun w cs => by
 simp [builtin, Builtin.len_, run_underlying h, goInt]
section
variable {P : Program} {t : TypeId} {X Y : Operand}
end
section
variable {P : Program} {t : TypeId} {X Y : Operand} {k : IntKind} {x y : Int}
end
section
variable {P : Program} {t : TypeId} {X Y : Operand} {a b : ByteArray}
end
theorem E6 {θ : List (Nat × Nat)} {j : Nat} (h : (θ.all fun q => !Nat.beq q.2 j) = true) : ∀ k, Ed θ k ≠ some j := fun k hk => by
 have := List.all_eq_true.1 h _ (Gb hk)
 simp at this
theorem By {P : Program} {cx : Cx} {x y : Code} {Q : Exit -> St -> Prop} {σ : St} {ι : Type} (mid : ι -> St) (ok : ι -> Prop) (hx : Ci P cx x (dS (fun σ' => ∃ i, ok i /\ Nl cx σ' (mid i)) Q) σ) (hy : ∀ i, ok i -> Ci P cx y Q (mid i)) : Ci P cx (.seq x y) Q σ := by
 refine Ah (dJ ?_ hx)
 intro e σ' h
 cases e with
 | normal =>
  obtain ⟨i, h1, h2⟩ := h
  exact Em h2 (hy i h1)
 | _ => exact h
end Go.Proofs.Ytjomajedgbcngaa
namespace Go.Proofs.Ytjomajedgbcngaa
open Go.RowKit
mutual
def bR (j : Nat) : DV -> Bool
 | .part k _ _ => !Nat.beq k j
 | .ptr k _ => !Nat.beq k j
 | .agg ds => Ue j ds
 | .tup ds => Ue j ds
 | .clo _ _ ds => Ue j ds
 | .val _ => true
 | .sl _ _ => true
 | .slc _ _ => true
 | .mp _ => true
 | .elt _ => true
 | .row _ => true
def Ue (j : Nat) : List DV -> Bool
 | [] => true
 | d :: ds => bR j d && Ue j ds
end
mutual
def Iw (j sz : Nat) (cs : List C) : DV -> DV
 | .row k => bif Nat.beq k j then .sl sz cs else .row k
 | .agg ds => .agg (L9 j sz cs ds)
 | .tup ds => .tup (L9 j sz cs ds)
 | .clo f n ds => .clo f n (L9 j sz cs ds)
 | .val v => .val v
 | .sl s c => .sl s c
 | .slc s c => .slc s c
 | .mp l => .mp l
 | .elt c => .elt c
 | .part k o n => .part k o n
 | .ptr k i => .ptr k i
def L9 (j sz : Nat) (cs : List C) : List DV -> List DV
 | [] => []
 | d :: ds => Iw j sz cs d :: L9 j sz cs ds
end
def St.frz (σ : St) (j sz : Nat) (cs : List C) : St where
 F := fun t => match σ.F t with | some d => bif bR j d then some (Iw j sz cs d) else none | none => none
 L := fun k => bif Nat.beq k j then none else match σ.L k with | some (.box ds ty) => (bif Ue j ds then some (.box (L9 j sz cs ds) ty) else none) | some (.row e s c) => some (.row e s c) | _ => none
 U := σ.U
theorem O9 {a b : Nat} (h : Nat.beq a b = false) : a ≠ b := fun e => by
 subst e
 rw [Nat.beq_refl] at h; cases h
section
variable {σ : St} {j e sz : Nat} {cs : List C}
abbrev cN (j : Nat) (k : Nat) : Option Nat := if k = j then none else some k
mutual
theorem Cv.frzD (h : σ.L j = some (.row e sz cs)) : ∀ d, bR j d = true -> Cv σ (cN j) d (Go.Proofs.Ytjomajedgbcngaa.Iw j sz cs d)
 | .val v, _ => by unfold Go.Proofs.Ytjomajedgbcngaa.Iw; exact .val v
 | .sl _ _, _ => by unfold Go.Proofs.Ytjomajedgbcngaa.Iw; exact .sl _ _
 | .slc _ _, _ => by unfold Go.Proofs.Ytjomajedgbcngaa.Iw; exact .slcc _ _
 | .mp _, _ => by unfold Go.Proofs.Ytjomajedgbcngaa.Iw; exact .mp _
 | .elt _, _ => by unfold Go.Proofs.Ytjomajedgbcngaa.Iw; exact .elt _
 | .row k, _ => by
  unfold Go.Proofs.Ytjomajedgbcngaa.Iw
  cases hb : Nat.beq k j with
  | true =>
   have := Nat.eq_of_beq_eq_true hb
   subst this
   refine .frz h fun k' hk' => ?_
   unfold cN at hk'
   split at hk'
   ·cases hk'
   ·rename_i hne
    injection hk' with hk'
    exact hne hk'
  | false => exact .row (if_neg (O9 hb))
 | .part k _ _, hn => by
  unfold bR at hn
  unfold Go.Proofs.Ytjomajedgbcngaa.Iw
  exact .part (if_neg (O9 (by simpa using hn)))
 | .ptr k _, hn => by
  unfold bR at hn
  unfold Go.Proofs.Ytjomajedgbcngaa.Iw
  exact .ptr (if_neg (O9 (by simpa using hn)))
 | .agg ds, hn => by
  unfold bR at hn
  unfold Go.Proofs.Ytjomajedgbcngaa.Iw
  exact .agg (Ny.frzDs h ds hn)
 | .tup ds, hn => by
  unfold bR at hn
  unfold Go.Proofs.Ytjomajedgbcngaa.Iw
  exact .tup (Ny.frzDs h ds hn)
 | .clo f n ds, hn => by
  unfold bR at hn
  unfold Go.Proofs.Ytjomajedgbcngaa.Iw
  exact .clo f n (Ny.frzDs h ds hn)
theorem Ny.frzDs (h : σ.L j = some (.row e sz cs)) : ∀ ds, Ue j ds = true -> Ny σ (cN j) ds (Go.Proofs.Ytjomajedgbcngaa.L9 j sz cs ds)
 | [], _ => by unfold Go.Proofs.Ytjomajedgbcngaa.L9; exact .nil
 | d :: ds, hn => by
  unfold Ue at hn
  simp only [Bool.and_eq_true] at hn
  unfold Go.Proofs.Ytjomajedgbcngaa.L9
  exact .cons (Cv.frzD h d hn.1) (Ny.frzDs h ds hn.2)
end
mutual
theorem Yt : ∀ (d : DV) (k : Nat), men (Iw j sz cs d) k -> men d k
 | .val _, k, h => by unfold Iw men at h; exact h.elim
 | .sl _ _, k, h => by unfold Iw men at h; exact h.elim
 | .slc _ _, k, h => by unfold Iw men at h; exact h.elim
 | .mp _, k, h => by unfold Iw men at h; exact h.elim
 | .elt _, k, h => by unfold Iw men at h; exact h.elim
 | .row i, k, h => by
  unfold Iw at h
  cases hb : Nat.beq i j with
  | true => rw [hb] at h; simp only [cond_true] at h; unfold men at h; exact h.elim
  | false => rw [hb] at h; exact h
 | .part _ _ _, k, h => by unfold Iw at h; exact h
 | .ptr _ _, k, h => by unfold Iw at h; exact h
 | .agg ds, k, h => by unfold Iw men at h; unfold men; exact Oq ds k h
 | .tup ds, k, h => by unfold Iw men at h; unfold men; exact Oq ds k h
 | .clo _ _ ds, k, h => by unfold Iw men at h; unfold men; exact Oq ds k h
theorem Oq : ∀ (ds : List DV) (k : Nat), D8 (L9 j sz cs ds) k -> D8 ds k
 | [], k, h => by unfold L9 D8 at h; exact h.elim
 | d :: ds, k, h => by
  unfold L9 D8 at h
  unfold D8
  exact h.imp (Yt d k) (Oq ds k)
end
theorem gQ {t : Nat} {d' : DV} (h : (σ.frz j sz cs).F t = some d') : ∃ d, σ.F t = some d /\ bR j d = true /\ d' = Iw j sz cs d := by
 have h' : (match σ.F t with | some d => bif bR j d then some (Iw j sz cs d) else none | none => none) = some d' := h
 cases hF : σ.F t with
 | none => rw [hF] at h'; cases h'
 | some d =>
  rw [hF] at h'
  cases hn : bR j d with
  | false => simp only [hn, cond_false] at h'; cases h'
  | true => simp only [hn, cond_true] at h'; injection h' with h'; exact ⟨d, rfl, hn, h'.symm⟩
theorem gM {k : Nat} {lb' : LB} (h : (σ.frz j sz cs).L k = some lb') : k ≠ j /\ ((∃ ds ty, σ.L k = some (.box ds ty) /\ Ue j ds = true /\ lb' = .box (L9 j sz cs ds) ty) \/ ∃ e s c, σ.L k = some (.row e s c) /\ lb' = .row e s c) := by
 have h' : (bif Nat.beq k j then none else match σ.L k with | some (.box ds ty) => (bif Ue j ds then some (LB.box (L9 j sz cs ds) ty) else none) | some (.row e s c) => some (.row e s c) | _ => none) = some lb' := h
 cases hb : Nat.beq k j with
 | true => rw [hb] at h'; cases h'
 | false =>
  refine ⟨O9 hb, ?_⟩
  rw [hb] at h'
  simp only [cond_false] at h'
  cases hL : σ.L k with
  | none => rw [hL] at h'; cases h'
  | some lb =>
   rw [hL] at h'
   cases lb with
   | row e s c => simp only [] at h'; injection h' with h'; exact .inr ⟨e, s, c, rfl, h'.symm⟩
   | map l => cases h'
   | mit k' n s => cases h'
   | vec ds e => cases h'
   | box ds ty =>
    simp only [] at h'
    cases hn : Ue j ds with
    | false => rw [hn] at h'; cases h'
    | true => rw [hn] at h'; injection h' with h'; exact .inl ⟨ds, ty, rfl, hn, h'.symm⟩
theorem Nl.frz {cx : Cx} (h : σ.L j = some (.row e sz cs)) (hj : Nat.ble cx.np j = true) : Nl cx σ (σ.frz j sz cs) := by
 rintro a w ⟨ρ, ha⟩
 have hj' : cx.np <= j := Nat.le_of_ble_eq_true hj
 refine ⟨_, (ha.ren (σ' := σ.frz j sz cs) (cN j) (fun t d' hd => ?_) (fun k lb' hl => ?_) (fun k k' i h1 h2 => ?_) (fun k hk => ⟨if_neg (by omega), (ha.pin k hk).2⟩) (fun t d k hd hm => ?_) (fun k lb hl => ?_)).1⟩
 ·obtain ⟨d, h1, h2, rfl⟩ := gQ hd
  exact ⟨d, h1, Cv.frzD h d h2⟩
 ·obtain ⟨hne, h1⟩ := gM hl
  refine .inl ?_
  rcases h1 with ⟨ds, ty, h1, h2, rfl⟩ | ⟨e', s, c, h1, rfl⟩
  ·exact ⟨k, _, if_neg hne, h1, rfl, Ny.frzDs h ds h2⟩
  ·exact ⟨k, _, if_neg hne, h1, rfl, rfl, rfl⟩
 ·unfold cN at h1 h2
  split at h1
  ·cases h1
  ·split at h2
   ·cases h2
   ·injection h1 with h1
    injection h2 with h2
    omega
 ·obtain ⟨d', h1, h2, rfl⟩ := gQ hd
  exact ha.usedF t d' k h1 (Yt d' k hm)
 ·obtain ⟨hne, h1⟩ := gM hl
  rcases h1 with ⟨ds, ty, h1, h2, rfl⟩ | ⟨e', s, c, h1, rfl⟩
  ·exact ⟨(ha.usedL k _ h1).1, fun k' hk' => (ha.usedL k _ h1).2 k' (Oq ds k' hk')⟩
  ·exact ⟨(ha.usedL k _ h1).1, fun k' hk' => hk'.elim⟩
end
section
variable {P : Program} {cx : Cx} {ops : Array Oper} {Q : Exit -> St -> Prop} {l : List Oper} {σ σ' : St}
def cP (P : Program) (cx : Cx) (ops : Array Oper) (Q : Exit -> St -> Prop) (l : List Oper) (σ : St) : Prop := ∀ a w, Hw cx σ a w -> wpList P ops (R2 cx Q) l a w
theorem cP.sub (h : Nl cx σ σ') (k : cP P cx ops Q l σ') : cP P cx ops Q l σ := fun a w ha => k a w (h a w ha)
theorem cP.fin (h : Q .normal σ) : cP P cx ops Q [] σ := fun a w ha => ⟨σ, h, ha⟩
variable {S : eF P cx} {nb nb' : Nat}
end
section
variable {P : Program} {f : FuncId} {args : List DV}
theorem Fn.plain {v : Value} {R : DV -> List LB -> Prop} {vs : List Value} {w : World} (h : Fn P f 0 args [] R) (hR : ∀ r b, R r b -> r = .val v) (ρ : Nat -> Value) (I : Nat -> Prop) (hI : ∀ b, I b -> b < w.heap.size) (hr : Bw ρ I w args vs) : Calls P f vs.toArray w fun e w' => e = .returned v /\ Sc w w' := by
 refine (h.2.2 ρ I w vs (fun b hb => ⟨hI b hb, fun k hk => by simp at hk⟩) hr (fun k lb h => by simp at h) (fun k k' b hk => by simp at hk)).mono ?_
 rintro e w' ⟨u, r, b, rfl, h1, h2⟩
 obtain ⟨-, ⟨o1, o2, o3, o4⟩, hk, ⟨ρ', J, -, -, hrep, -⟩, -⟩ := h2
 rw [hR r b h1] at hrep
 unfold B9 at hrep
 rw [hrep.1]
 exact ⟨rfl, o1, o2, o3, o4, fun b hb => hk b hb fun k hk => by simp at hk⟩
end
end Go.Proofs.Ytjomajedgbcngaa
namespace Go.Proofs.Ytjomajedgbcngaa
open Go.RowKit
def pP (Q : Exit -> St -> Prop) : Exit -> St -> Prop
 | .normal, σ => Q .normal σ
 | .exit i, σ => Q (.exit i) σ
 | .goto _, _ => False
 | .ret, σ => Q .ret σ
 | .panic c, σ => Q (.panic c) σ
 | .outgrown, σ => Q .outgrown σ
def Az {α : Type} (f : α -> List C) (l : List α) : List C := l.flatMap f
def eI (x : Int) : List C := [.int .i64 x]
def eK (k : IntKind) (x : Int) : List C := [.int k x]
def e8 (x : UInt8) : List C := [.int .u8 (x.toNat : Int)]
def eS (x : ByteArray) : List C := [.str x]
def eB (x : Bool) : List C := [.bool x]
def eL {α : Type} (sz : Nat) (f : α -> List C) (l : List α) : List C := [.sl sz (Az f l)]
theorem H0 (x : Int) : (eI x).length = 1 := rfl
theorem jL (k : IntKind) (x : Int) : (eK k x).length = 1 := rfl
theorem dH (x : UInt8) : (e8 x).length = 1 := rfl
theorem Vy (x : ByteArray) : (eS x).length = 1 := rfl
theorem iG (x : Bool) : (eB x).length = 1 := rfl
theorem Xy {α : Type} (sz : Nat) (f : α -> List C) (l : List α) : (eL sz f l).length = 1 := rfl
section
variable {α : Type} {f : α -> List C} {sz : Nat}
theorem Fk (hf : ∀ x, (f x).length = sz) : ∀ (l : List α), (Az f l).length = l.length * sz
 | [] => by simp [Az]
 | x :: l => by
  have := Fk hf l
  unfold Az at this ⊢
  rw [List.flatMap_cons, List.length_append, hf, this, List.length_cons, Nat.add_mul, Nat.one_mul, Nat.add_comm]
theorem Ie (l m : List α) : Az f (l ++ m) = Az f l ++ Az f m := by unfold Az; rw [List.flatMap_append]
theorem M5 {l : List α} {j : Nat} {x : α} (hx : l[j]? = some x) : Az f l = Az f (l.take j) ++ (f x ++ Az f (l.drop (j + 1))) := by
 have hj := (List.getElem?_eq_some_iff.1 hx).1
 have hxe := (List.getElem?_eq_some_iff.1 hx).2
 have e1 : l = l.take j ++ (x :: l.drop (j + 1)) := by
  rw [<- hxe, List.getElem_cons_drop, List.take_append_drop]
 rw [show Az f l = Az f (l.take j ++ (x :: l.drop (j + 1))) from congrArg _ e1, Ie]
 rfl
theorem Kf (hf : ∀ x, (f x).length = sz) {l : List α} {j : Nat} (hj : j <= l.length) : (Az f (l.take j)).length = j * sz := by
 rw [Fk hf, List.length_take, Nat.min_eq_left hj]
theorem Ve (hf : ∀ x, (f x).length = sz) {l : List α} {j : Nat} {x : α} (hx : l[j]? = some x) : j * sz + sz <= (Az f l).length := by
 have hj := (List.getElem?_eq_some_iff.1 hx).1
 rw [Fk hf]
 have : (j + 1) * sz <= l.length * sz := Nat.mul_le_mul_right _ hj
 rw [Nat.add_mul, Nat.one_mul] at this
 exact this
theorem Q5 (hf : ∀ x, (f x).length = sz) {l : List α} {j o : Nat} {x : α} (hx : l[j]? = some x) (ho : o < sz) {a : Nat} (ha : a = j * sz + o) : a < (Az f l).length := by
 have := Ve hf hx
 omega
theorem Sw (hf : ∀ x, (f x).length = sz) {l : List α} {j o : Nat} {x : α} (hx : l[j]? = some x) (ho : o <= sz) : (Az f l).drop (j * sz + o) = (f x).drop o ++ Az f (l.drop (j + 1)) := by
 have hj := (List.getElem?_eq_some_iff.1 hx).1
 have ht := Kf hf (l := l) (j := j) (by omega)
 rw [M5 hx, <- ht, <- List.drop_drop, List.drop_left, List.drop_append_of_le_length (by rw [hf]; exact ho)]
theorem D6 (hf : ∀ x, (f x).length = sz) {l : List α} {j o : Nat} {x : α} {c : C} (hx : l[j]? = some x) (hc : (f x)[o]? = some c) {a : Nat} (ha : a = j * sz + o) : (Az f l)[a]? = some c := by
 subst ha
 have ho : o < sz := by rw [<- hf x]; exact (List.getElem?_eq_some_iff.1 hc).1
 have e1 := Sw hf hx (Nat.le_of_lt ho)
 have e2 : (Az f l)[j * sz + o]? = ((Az f l).drop (j * sz + o))[0]? := by rw [List.getElem?_drop]; rfl
 rw [e2, e1, List.getElem?_append_left (by rw [List.length_drop, hf]; omega), List.getElem?_drop]
 exact hc
theorem Bd (hf : ∀ x, (f x).length = sz) {l : List α} {j o m : Nat} {x : α} {cs : List C} (hx : l[j]? = some x) (hs : ((f x).drop o).take m = cs) (ho : o + m <= sz) {a : Nat} (ha : a = j * sz + o) : ((Az f l).drop a).take m = cs := by
 subst ha
 rw [Sw hf hx (by omega), List.take_append_of_le_length (by rw [List.length_drop, hf]; omega)]
 exact hs
theorem Ap (hf : ∀ x, (f x).length = sz) {l : List α} {j o m : Nat} {x : α} (hx : l[j]? = some x) (ho : o + m <= sz) {a : Nat} (ha : a = j * sz + o) : a + m <= (Az f l).length := by
 have := Ve hf hx
 omega
theorem Cm (hf : ∀ x, (f x).length = sz) {l : List α} {j o : Nat} {x x' : α} {cs : List C} (hx : l[j]? = some x) (ho : o + cs.length <= sz) (hs : C1 (f x) o cs = f x') {a : Nat} (ha : a = j * sz + o) : C1 (Az f l) a cs = Az f (Cq l j x') := by
 subst ha
 have hj := (List.getElem?_eq_some_iff.1 hx).1
 have ht := Kf hf (l := l) (j := j) (by omega)
 have hset : Az f (Cq l j x') = Az f (l.take j) ++ (f x' ++ Az f (l.drop (j + 1))) := by
  have : (Cq l j x')[j]? = some x' := by unfold Cq; rw [List.getElem?_set_self hj]
  rw [M5 this]
  unfold Cq
  rw [List.take_set_of_le (Nat.le_refl _), List.drop_set_of_lt (by omega)]
 rw [hset, <- hs]
 unfold C1
 have e1 : (Az f l).take (j * sz + o) = Az f (l.take j) ++ (f x).take o := by
  rw [M5 hx, List.take_append, ht, Nat.add_sub_cancel_left, List.take_of_length_le (by rw [ht]; omega)]
  congr 1
  rw [List.take_append_of_le_length (by rw [hf]; omega)]
 have e2 : (Az f l).drop (j * sz + o + cs.length) = (f x).drop (o + cs.length) ++ Az f (l.drop (j + 1)) := by
  rw [Nat.add_assoc, Sw hf hx ho]
 rw [e1, e2]
 simp only [List.append_assoc]
theorem X5 (hf : ∀ x, (f x).length = sz) (l : List α) (i j : Nat) (hij : i <= j) (hj : j <= l.length) : ((Az f l).drop (i * sz)).take ((j - i) * sz) = Az f ((l.drop i).take (j - i)) := by
 have e0 : Az f l = Az f (l.take i) ++ Az f (l.drop i) := by rw [<- Ie, List.take_append_drop]
 have e1 : Az f (l.drop i) = Az f ((l.drop i).take (j - i)) ++ Az f ((l.drop i).drop (j - i)) := by rw [<- Ie, List.take_append_drop]
 rw [e0]
 have ht := Kf hf (l := l) (j := i) (by omega)
 have hd : ((Az f (l.take i)) ++ Az f (l.drop i)).drop (i * sz) = Az f (l.drop i) := by rw [<- ht, List.drop_left]
 rw [hd, e1]
 have ht2 := Kf hf (l := l.drop i) (j := j - i) (by rw [List.length_drop]; omega)
 rw [<- ht2, List.take_left]
theorem V4 (hf : ∀ x, (f x).length = sz) (l : List α) (i n : Nat) (hn : i + n <= l.length) : ((Az f l).drop (i * sz)).take (n * sz) = Az f ((l.drop i).take n) := by
 have := X5 hf l i (i + n) (by omega) (by omega)
 rw [Nat.add_sub_cancel_left] at this
 exact this
end
theorem oJ (l : List UInt8) : Az e8 l = G5 l := by
 induction l with
 | nil => rfl
 | cons x l ih =>
  show e8 x ++ Az e8 l = _
  rw [ih]
  rfl
section
variable {P : Program} {tk : Nat} {t ty yt : TypeId} {X Y : Operand} {b1 b2 : Option LB} {k : IntKind} {x y : Int}
theorem nI : Eb P tk (.binOp .lss t X Y yt) ty [(.val (.int k x), b1), (.val (.int k y), b2)] [] (v0 (.val (.bool (decide (x < y))))) := .binOp (fun _ _ => rfl) kA
theorem nS : Eb P tk (.binOp .leq t X Y yt) ty [(.val (.int k x), b1), (.val (.int k y), b2)] [] (v0 (.val (.bool (decide (x <= y))))) := .binOp (fun _ _ => rfl) lH
theorem oB : Eb P tk (.binOp .gtr t X Y yt) ty [(.val (.int k x), b1), (.val (.int k y), b2)] [] (v0 (.val (.bool (decide (y < x))))) := .binOp (fun _ _ => rfl) kI
theorem nQ : Eb P tk (.binOp .geq t X Y yt) ty [(.val (.int k x), b1), (.val (.int k y), b2)] [] (v0 (.val (.bool (decide (y <= x))))) := .binOp (fun _ _ => rfl) jM
theorem nH : Eb P tk (.binOp .eql t X Y yt) ty [(.val (.int k x), b1), (.val (.int k y), b2)] [] (v0 (.val (.bool (decide (x = y))))) := .binOp (fun _ _ => rfl) iV
theorem nE : Eb P tk (.binOp .neq t X Y yt) ty [(.val (.int k x), b1), (.val (.int k y), b2)] [] (v0 (.val (.bool (!decide (x = y))))) := .binOp (fun _ _ => rfl) (fun w => by rw [mB w, decide_not])
theorem Sr (x : Int) : IntKind.i64.wrap x = W x := by rw [IntKind.wrap_i64]; unfold W; omega
theorem mI (x : Int) : Dt (.int .i64 (W x)) = true := Gp.2 (Mo (dX x))
theorem mX (x : Int) : IntKind.u8.wrap x = ((u8 x).toNat : Int) := by rw [IntKind.wrap_u8, cL]
theorem qF (x : UInt8) : Dt (.int .u8 (x.toNat : Int)) = true := Gp.2 (Wc ⟨by omega, by have := x.toNat_lt; omega⟩)
theorem gS : Eb P tk (.binOp .add t X Y yt) ty [(.val (.int .i64 x), b1), (.val (.int .i64 y), b2)] [] (v0 (.val (.int .i64 (W (x + y))))) := .binOp (fun _ _ => mI _) (fun w => by rw [gC w, Sr])
theorem nG : Eb P tk (.binOp .sub t X Y yt) ty [(.val (.int .i64 x), b1), (.val (.int .i64 y), b2)] [] (v0 (.val (.int .i64 (W (x - y))))) := .binOp (fun _ _ => mI _) (fun w => by rw [Yx w, Sr])
theorem nD : Eb P tk (.binOp .mul t X Y yt) ty [(.val (.int .i64 x), b1), (.val (.int .i64 y), b2)] [] (v0 (.val (.int .i64 (W (x * y))))) := .binOp (fun _ _ => mI _) (fun w => by rw [fR w, Sr])
theorem dA (x y : Int) : (x.tmod y).natAbs <= x.natAbs := by
 rw [Int.natAbs_tmod]
 exact Nat.mod_le _ _
theorem Xl {x y : Int} (h : -9223372036854775808 <= x /\ x <= 9223372036854775807) : -9223372036854775808 <= x.tmod y /\ x.tmod y <= 9223372036854775807 := by
 have h0 := dA x y
 rcases Int.le_total 0 x with hx | hx
 ·have h1 := Int.tmod_nonneg y hx
  omega
 ·have e : x.tmod y = -((-x).tmod y) := by rw [Int.neg_tmod]; omega
  have h1 := Int.tmod_nonneg y (show 0 <= -x by omega)
  omega
theorem fW {n : Int} (h : Dt (.int .i64 n) = true) : -9223372036854775808 <= n /\ n <= 9223372036854775807 := by
 have := Gp.1 h
 have h1 : IntKind.i64.min = -9223372036854775808 := by decide
 have h2 : IntKind.i64.max = 9223372036854775807 := by decide
 rw [h1, h2] at this
 exact this
theorem hH {z : Int} (h : Y8 x y = some z) : Eb P tk (.binOp .rem t X Y yt) ty [(.val (.int .i64 x), b1), (.val (.int .i64 y), b2)] [] (v0 (.val (.int .i64 z))) := by
 obtain ⟨hy, rfl⟩ := Zi h
 exact .binOp (fun h _ => Gp.2 (Mo (Xl (fW h)))) (lM hy)
theorem Qq {z : Int} (h : Md x y = some z) : Eb P tk (.binOp .quo t X Y yt) ty [(.val (.int .i64 x), b1), (.val (.int .i64 y), b2)] [] (v0 (.val (.int .i64 z))) := by
 obtain ⟨hy, rfl⟩ := Zm h
 exact .binOp (fun _ _ => mI _) (fun w => by rw [iB hy w, Sr])
theorem K8 {z : Int} (h : W (x + y) = z) : Eb P tk (.binOp .add t X Y yt) ty [(.val (.int .i64 x), b1), (.val (.int .i64 y), b2)] [] (v0 (.val (.int .i64 z))) := h ▸ gS
theorem nC : Eb P tk (.unOp .neg t X) ty [(.val (.int .i64 x), b1)] [] (v0 (.val (.int .i64 (W (-x))))) := .unOp (fun _ => mI _) (fun w => by rw [jY w, Sr])
theorem mJ {b : Bool} : Eb P tk (.unOp .not t X) ty [(.val (.bool b), b1)] [] (v0 (.val (.bool (!b)))) := .unOp (fun _ => rfl) lG
theorem Xf {a b : Bool} (ht : P.underlying t = some .bool) : Eb P tk (.binOp .neq t X Y yt) ty [(.val (.bool a), b1), (.val (.bool b), b2)] [] (v0 (.val (.bool (!decide (a = b))))) := .binOp (fun _ _ => rfl) (fun w => by cases a <;> cases b <;> simp [eqGuard, binOp, Op.equal, Op.maxDepth, run_equalIn_bool', ht])
theorem lP {a b : ByteArray} : Eb P tk (.binOp .eql t X Y yt) ty [(.val (.string a), b1), (.val (.string b), b2)] [] (v0 (.val (.bool (decide (a = b))))) := .binOp (fun _ _ => rfl) gD
theorem kM {a b : ByteArray} : Eb P tk (.binOp .neq t X Y yt) ty [(.val (.string a), b1), (.val (.string b), b2)] [] (v0 (.val (.bool (!decide (a = b))))) := .binOp (fun _ _ => rfl) (fun w => by rw [fB w, decide_not])
theorem Vx : ∀ (a b : List UInt8), Op.bytesLess a b = Iz a b
 | _, [] => by cases ‹List UInt8› <;> rfl
 | [], _ :: _ => rfl
 | a :: x, b :: y => by unfold Op.bytesLess Iz; rw [Vx x y]
theorem iO {a b : ByteArray} : Eb P tk (.binOp .lss t X Y yt) ty [(.val (.string a), b1), (.val (.string b), b2)] [] (v0 (.val (.bool (Iz (Hk a) (Hk b))))) := .binOp (fun _ _ => rfl) (fun w => by
 simp [eqGuard, binOp, Op.stringOp, Vx, ByteArray.toList_eq, Hk])
theorem Zd {src dst : TypeId} (hs : P.underlying src = some (.int k)) (hd : P.underlying dst = some (.int .u8)) : Eb P tk (.convert src dst X) ty [(.val (.int k x), b1)] [] (v0 (.val (.int .u8 ((u8 x).toNat : Int)))) :=
 .conv (by unfold Yc; rw [hs]) (by unfold Yc; rw [hd]) (fun _ => qF _) (fun w => by rw [U7 (by rw [hs]; rfl) hd w, mX])
theorem Xq {src dst : TypeId} (hs : P.underlying src = some (.int k)) (hd : P.underlying dst = some (.int .i64)) : Eb P tk (.convert src dst X) ty [(.val (.int k x), b1)] [] (v0 (.val (.int .i64 (W x)))) :=
 .conv (by unfold Yc; rw [hs]) (by unfold Yc; rw [hd]) (fun _ => mI _) (fun w => by rw [U7 (by rw [hs]; rfl) hd w, Sr])
theorem Z6 {src dst : TypeId} {u : UInt8} (hs : P.underlying src = some (.int .u8)) (hd : P.underlying dst = some (.int .i64)) : Eb P tk (.convert src dst X) ty [(.val (.int .u8 (u.toNat : Int)), b1)] [] (v0 (.val (.int .i64 (u.toNat : Int)))) :=
 .conv (by unfold Yc; rw [hs]) (by unfold Yc; rw [hd]) (fun _ => Gp.2 (Mo ⟨by omega, by have := u.toNat_lt; omega⟩)) (fun w => by
  have := u.toNat_lt
  rw [U7 (by rw [hs]; rfl) hd w, Sr, D0 (by omega)])
theorem gB {Z : Operand} {c : Bool} {d1 d2 : DV} {b3 : Option LB} (h : c = true) : Eb P tk (.pick X Y Z) ty [(.val (.bool c), b1), (d1, b2), (d2, b3)] [] (v0 d1) := by subst h; exact .pick
theorem fO {Z : Operand} {c : Bool} {d1 d2 : DV} {b3 : Option LB} (h : c = false) : Eb P tk (.pick X Y Z) ty [(.val (.bool c), b1), (d1, b2), (d2, b3)] [] (v0 d2) := by subst h; exact .pick
theorem S3 {s : ByteArray} (h : P.underlying t = some .string) : Eb P tk (.call ⟨.builtin .len, #[X], #[t]⟩) ty [(.val (.string s), b1)] [] (v0 (.val (.int .i64 (s.size : Int)))) :=
 .callV1 (fun h => Gp.2 (Mo ⟨by omega, by have := N7.1 h; unfold maxLen at this; omega⟩)) (dT h)
theorem aM (h : P.underlying t = some (.slice (P.elem t))) : Eb P tk (.call ⟨.builtin .len, #[X], #[t]⟩) ty [(.val (.slice none 0 0), b1)] [] (v0 (.val (.int .i64 0))) :=
 .callV1 (fun _ => rfl) (fun w cs => by simp [builtin, Builtin.len_, run_len_slice, h, run_underlying h, Builtin.lenOf, goInt])
end
section
variable {P : Program} {tk : Nat} {t ty e sz bytes : Nat} {X Y : Operand} {b1 b2 : Option LB} {α : Type} {f : α -> List C} {l : List α} {n : Int} {k : IntKind} {j kr e' : Nat} {x : α}
theorem jQ (h : G4 P t e sz bytes) (hf : ∀ x, (f x).length = sz) : Eb P tk (.call ⟨.builtin .len, #[X], #[t]⟩) ty [(.sl sz (Az f l), b1)] [] (v0 (.val (.int .i64 (l.length : Int)))) := .len h.elem (.sl h.hsz (Fk hf l))
theorem kR (h : G4 P t e sz bytes) (hf : ∀ x, (f x).length = sz) : Eb P tk (.call ⟨.builtin .len, #[X], #[t]⟩) ty [(.row kr, some (.row e' sz (Az f l)))] [] (v0 (.val (.int .i64 (l.length : Int)))) := .len h.elem (.row h.hsz (Fk hf l))
theorem lW (h : G4 P t e sz bytes) (hf : ∀ x, (f x).length = sz) (hj : n = (j : Int)) (hx : l[j]? = some x) : Eb P tk (.indexAddr t X Y) ty [(.sl sz (Az f l), b1), (.val (.int k n), b2)] [] (v0 (.elt ((Az f l).drop (j * sz)))) := .idxS h hj (Ve hf hx)
theorem kO (h : G4 P t e sz bytes) (hf : ∀ x, (f x).length = sz) (hj : n = (j : Int)) (hx : l[j]? = some x) : Eb P tk (.indexAddr t X Y) ty [(.row kr, some (.row e' sz (Az f l))), (.val (.int k n), b2)] [] (v0 (.ptr kr (j * sz))) := .idxR h hj (Ve hf hx)
theorem Xa {a m : Nat} {b1 : Option LB} (h : G4 P t e sz bytes) (hj : n = (j : Int)) (hx : ((l.drop a).take m)[j]? = some x) : Eb P tk (.indexAddr t X Y) ty [(.part kr (a * sz) m, b1), (.val (.int k n), b2)] [] (v0 (.ptr kr ((a + j) * sz))) := by
 have hl := (List.getElem?_eq_some_iff.1 hx).1
 rw [List.length_take] at hl
 rw [Nat.add_mul]
 exact .idxP h hj (by omega)
theorem O8 {a m : Nat} (hx : ((l.drop a).take m)[j]? = some x) : l[a + j]? = some x := by
 rw [List.getElem?_take] at hx
 split at hx
 ·rwa [List.getElem?_drop] at hx
 ·cases hx
theorem Mm {s g off ft sz' : Nat} {ag : Bool} {cs : List C} {a : Nat} (h : Fd P s g off ft) (ht : Ty P ft ag sz') (hz : 0 < sz') (hl : a + off < cs.length) : Eb P tk (.fieldAddr s X g) ty [(.elt (cs.drop a), b1)] [] (v0 (.elt (cs.drop (a + off)))) := by
 have := Eb.fieldE (P := P) (tk := tk) (x := X) (ty := ty) (b := b1) h ht hz (cs := cs.drop a) (by rw [List.length_drop]; omega)
 rwa [List.drop_drop] at this
theorem Ch {sz' a : Nat} {cs : List C} {c : C} (ht : Ty P t false sz') (h : cs[a]? = some c) : Eb P tk (.load t X) ty [(.elt (cs.drop a), b1)] [] (v0 (Sj c)) := .loadE1 ht (by rw [List.getElem?_drop]; exact h)
theorem Cd {m a : Nat} {cs cs2 : List C} (ht : Ty P t true m) (h : (cs.drop a).take m = cs2) (hl : a + m <= cs.length) : Eb P tk (.load t X) ty [(.elt (cs.drop a), b1)] [] (v0 (.agg (cs2.map Sj))) := by
 subst h
 exact .loadEA ht (by rw [List.length_drop]; omega)
theorem Bt {m a s : Nat} {cs cs2 : List C} (ht : Ty P t true m) (h : (cs.drop a).take m = cs2) (hl : a + m <= cs.length) : Eb P tk (.load t X) ty [(.ptr kr a, some (.row e' s cs))] [] (v0 (.agg (cs2.map Sj))) := by
 subst h
 exact .loadRA ht hl
theorem Dh {i s : Nat} {cs cs' cs2 : List C} {ag : Bool} {d : DV} {sz' : Nat} {ck : List (Option Nat)} (ht : Ty P t ag sz') (hs : (Cr d).length = sz') (hi : i + sz' <= cs.length) (hk : Lt P 20 t = ck) (hd : Im ck (Cr d) cs') (h : C1 cs i cs' = cs2) : Eb P tk (.store t X Y) ty [(.ptr kr i, some (.row e' s cs)), (d, b2)] [kr] (Z9 kr (.row e' s cs2)) := by
 subst h
 exact .storeR ht hs hi hk hd
theorem Hm {d d' : DV × Option LB} {l' l2 : List α} {ks : List Nat} {kk : Nat} {cs cs' : List C} (hS : G4 P t e sz bytes) (hf : ∀ x, (f x).length = sz) (ht : fI d e sz cs ks) (hc : cs = Az f l) (hs : V0 d' sz cs') (hc' : cs' = Az f l') (h : N4 kk l l' = some l2) (hk : sz * bytes = kk) : Eb P tk (.call ⟨.builtin .append, #[X, Y], #[t, t]⟩) ty [d, d'] ks (J6 tk (.row e sz (Az f l2)) ks (.row tk)) := by
 subst hc hc'
 obtain ⟨h1, rfl⟩ := Y6 h
 rw [Ie]
 refine .append hS ht hs ?_
 rw [Fk hf, Fk hf, <- Nat.add_mul, Nat.mul_assoc, hk]
 exact h1
section
variable {lo hi : Operand} {a b : Int} {ka kb : IntKind} {b3 : Option LB} {m : List α}
end
theorem gH {src dst : TypeId} {s : ByteArray} (hs : P.underlying src = some .string) (hd : P.underlying dst = some (.slice e)) (he : P.underlying e = some (.int .u8)) : Eb P tk (.convert src dst X) ty [(.val (.string s), b1)] [] (v0 (.sl 1 (Az e8 (Hk s)))) := by
 have := Eb.convB (P := P) (tk := tk) (x := X) (ty := ty) (b := b1) (s := s) hs hd he
 rw [<- oJ] at this
 exact this
end
theorem Cv.frzE {σ : St} {θ : Nat -> Option Nat} {j e sz : Nat} {cs : List C} (h : σ.L j = some (.row e sz cs)) (h' : (match σ.L j with | some _ => true | none => false) = true) (hn : ∀ k, θ k ≠ some j) : Cv σ θ (.row j) (.sl sz cs) := .frz h hn
end Go.Proofs.Ytjomajedgbcngaa
namespace Go.Proofs.Ytjomajedgbcngaa
open Go.RowKit
mutual
theorem X6 (f : Nat -> Nat) : ∀ d, G9 d = [] -> If f d = d
 | .row _, h => by simp [G9] at h
 | .part _ _ _, h => by simp [G9] at h
 | .ptr _ _, h => by simp [G9] at h
 | .val _, _ => rfl
 | .sl _ _, _ => rfl
 | .slc _ _, _ => rfl
 | .mp _, _ => rfl
 | .elt _, _ => rfl
 | .agg ds, h => by unfold G9 at h; unfold If; rw [Mh f ds h]
 | .tup ds, h => by unfold G9 at h; unfold If; rw [Mh f ds h]
 | .clo _ _ ds, h => by unfold G9 at h; unfold If; rw [Mh f ds h]
theorem Mh (f : Nat -> Nat) : ∀ ds, Jp ds = [] -> J3 f ds = ds
 | [], _ => rfl
 | d :: ds, h => by
  unfold Jp at h
  have h1 := List.append_eq_nil_iff.1 h
  unfold J3
  rw [X6 f d h1.1, Mh f ds h1.2]
end
def S7 : LB -> List Nat
 | .box ds _ => Jp ds
 | .row .. => []
 | .map _ => []
 | .mit k _ _ => [k]
 | .vec ds _ => Jp ds
theorem eD (f : Nat -> Nat) {lb : LB} (h : S7 lb = []) : Y9 f lb = lb := by
 cases lb with
 | box ds ty =>
  show LB.box (J3 f ds) ty = _
  rw [Mh f ds h]
 | row => rfl
 | map => rfl
 | mit => cases h
 | vec ds e =>
  show LB.vec (J3 f ds) e = _
  rw [Mh f ds h]
def Xh (ps gs : List Nat) (r : DV) (bx : List LB) : Jh := ⟨some r, fun k => match Ed (ps.zip bx) k with | some lb => some (some lb) | none => bif gs.any (Nat.beq k) then some none else none⟩
theorem Wh {ps : List Nat} {tk : Nat} : ∀ {l : List Nat} {b : List LB} {i : Nat}, (∀ j, l[j]? = ps[i + j]?) -> b.length = l.length -> (∀ lb ∈ b, S7 lb = []) -> Qm ps tk i b = l.zip b
 | [], [], _, _, _, _ => rfl
 | x :: l, lb :: b, i, hl, hb, ht => by
  unfold Qm
  have h0 := hl 0
  simp only [Nat.add_zero] at h0
  have e1 : Gj ps tk i = x := by
   unfold Gj
   rw [<- h0]
   rfl
  rw [e1, eD _ (ht lb (List.mem_cons_self ..)), Wh (l := l) (fun j => by have := hl (j + 1); rw [show i + 1 + j = i + (j + 1) by omega, <- this]; rfl) (by simpa using hb) fun lb h => ht lb (List.mem_cons_of_mem _ h)]
  rfl
 | [], _ :: _, _, _, h, _ => by simp at h
 | _ :: _, [], _, _, h, _ => by simp at h
theorem Vs {ps gs : List Nat} {tk : Nat} {r : DV} {b : List LB} (hr : G9 r = []) (hl : b.length = ps.length) (hb : ∀ lb ∈ b, S7 lb = []) : N6 ps gs tk r b = Xh ps gs r b := by
 unfold N6 Xh
 rw [X6 _ _ hr, Wh (l := ps) (fun j => by rw [Nat.zero_add]) hl hb]
 rfl
section
variable {P : Program} {cx : Cx} {ops : Array Oper} {Rt : Option (List Nat)} {nb i : Nat} {l : List Oper} {lg : Zv} {σ : St} {Q : St -> Prop} {fz : List Nat}
theorem W3 {dst : Option Tmp} {f : FuncId} {xs : Array Operand} {tys : Array TypeId} {ty : TypeId} {pos : String} {af : Array Edge} {g : Option (Nat × Bool)} {dsA : List (DV × Option LB)} {rd ps gs : List Nat} {args : List DV} {bx : List LB} {d : DV} {b : List LB} (fl : Bool)
  (hg : H1 ops σ ⟨dst, .call ⟨.value (.func f), xs, tys⟩, ty, pos, af, g⟩ = some true)
  (hF : Fn P f ps.length args bx (fun d' b' => d' = d /\ b' = b)) (hds : Ds σ true xs.toList = some dsA) (hrd : Mn σ 3 (Nv dsA) = rd) (hA : Le fl (ps ++ gs) (Ip σ rd) (dsA.map (·.1)) args) (hB : Sy fl (ps ++ gs) (Ip σ rd) (ps ++ gs) bx) (hnd : Nk cx.np ps gs = true) (hfl : fl = true -> Hx d /\ ∀ lb ∈ b, No lb)
  (hok : Iv Rt i true (nb + 8 * i) rd (ps ++ gs) lg = true) (hr : G9 d = []) (hl : b.length = ps.length) (hb : b.flatMap S7 = [])
  (k : Chain (Bo P cx fz) ops Rt nb (Dx (i + 1) l) ((i, true, nb + 8 * i, rd, ps ++ gs) :: lg) (σ.app dst (Xh ps gs d b)) Q) :
  Chain (Bo P cx fz) ops Rt nb (Dx i (⟨dst, .call ⟨.value (.func f), xs, tys⟩, ty, pos, af, g⟩ :: l)) lg σ Q := by
 refine Gh fl hg hF hds hrd hA hB hnd (fun h r b => ?_) hok (fun _ => ⟨_, _, ⟨rfl, rfl⟩, by omega, by omega⟩) fun r b => ?_
 ·rintro ⟨rfl, rfl⟩; exact hfl h
 ·rintro ⟨rfl, rfl⟩
  rw [Vs hr hl fun lb h => ?_]
  ·exact k
  ·have := List.flatMap_eq_nil_iff.1 hb lb h
   exact this
theorem Dr {dst : Option Tmp} {t : Tmp} {f : FuncId} {q : Option LB} {xs : Array Operand} {tys : Array TypeId} {ty : TypeId} {pos : String} {af : Array Edge} {g : Option (Nat × Bool)} {dsA : List (DV × Option LB)} {rd ps gs : List Nat} {args : List DV} {bx : List LB} {d : DV} {b : List LB} (fl : Bool)
  (hg : H1 ops σ ⟨dst, .call ⟨.value (.tmp t), xs, tys⟩, ty, pos, af, g⟩ = some true) (hc : ev σ true (.tmp t) = some (.val (.func (.func f) #[] #[]), q))
  (hF : Fn P f ps.length args bx (fun d' b' => d' = d /\ b' = b)) (hds : Ds σ true xs.toList = some dsA) (hrd : Mn σ 3 (Nv dsA) = rd) (hA : Le fl (ps ++ gs) (Ip σ rd) (dsA.map (·.1)) args) (hB : Sy fl (ps ++ gs) (Ip σ rd) (ps ++ gs) bx) (hnd : Nk cx.np ps gs = true) (hfl : fl = true -> Hx d /\ ∀ lb ∈ b, No lb)
  (hok : Iv Rt i true (nb + 8 * i) rd (ps ++ gs) lg = true) (hr : G9 d = []) (hl : b.length = ps.length) (hb : b.flatMap S7 = [])
  (k : Chain (Bo P cx fz) ops Rt nb (Dx (i + 1) l) ((i, true, nb + 8 * i, rd, ps ++ gs) :: lg) (σ.app dst (Xh ps gs d b)) Q) :
  Chain (Bo P cx fz) ops Rt nb (Dx i (⟨dst, .call ⟨.value (.tmp t), xs, tys⟩, ty, pos, af, g⟩ :: l)) lg σ Q := by
 refine aB fl hg hc hF hds hrd hA hB hnd (fun h r b => ?_) hok (fun _ => ⟨_, _, ⟨rfl, rfl⟩, by omega, by omega⟩) fun r b => ?_
 ·rintro ⟨rfl, rfl⟩; exact hfl h
 ·rintro ⟨rfl, rfl⟩
  rw [Vs hr hl fun lb h => ?_]
  ·exact k
  ·have := List.flatMap_eq_nil_iff.1 hb lb h
   exact this
theorem Ck {dst : Option Tmp} {t : Tmp} {f : FuncId} {n : Nat} {cs : List DV} {q : Option LB} {xs : Array Operand} {tys : Array TypeId} {ty : TypeId} {pos : String} {af : Array Edge} {g : Option (Nat × Bool)} {dsA : List (DV × Option LB)} {rd ps gs : List Nat} {args : List DV} {bx : List LB} {d : DV} {b : List LB} (fl : Bool)
  (hg : H1 ops σ ⟨dst, .call ⟨.value (.tmp t), xs, tys⟩, ty, pos, af, g⟩ = some true) (hc : ev σ true (.tmp t) = some (.clo f n cs, q))
  (hF : Fn P f ps.length args bx (fun d' b' => d' = d /\ b' = b)) (hds : Ds σ true xs.toList = some dsA) (hrd : Mn σ 3 (Jp cs ++ Nv dsA) = rd) (hA : Le fl (ps ++ gs) (Ip σ rd) (cs.take n ++ (dsA.map (·.1) ++ cs.drop n)) args) (hB : Sy fl (ps ++ gs) (Ip σ rd) (ps ++ gs) bx) (hnd : Nk cx.np ps gs = true) (hfl : fl = true -> Hx d /\ ∀ lb ∈ b, No lb)
  (hok : Iv Rt i true (nb + 8 * i) rd (ps ++ gs) lg = true) (hr : G9 d = []) (hl : b.length = ps.length) (hb : b.flatMap S7 = [])
  (k : Chain (Bo P cx fz) ops Rt nb (Dx (i + 1) l) ((i, true, nb + 8 * i, rd, ps ++ gs) :: lg) (σ.app dst (Xh ps gs d b)) Q) :
  Chain (Bo P cx fz) ops Rt nb (Dx i (⟨dst, .call ⟨.value (.tmp t), xs, tys⟩, ty, pos, af, g⟩ :: l)) lg σ Q := by
 refine aP fl hg hc hF hds hrd hA hB hnd (fun h r b => ?_) hok (fun _ => ⟨_, _, ⟨rfl, rfl⟩, by omega, by omega⟩) fun r b => ?_
 ·rintro ⟨rfl, rfl⟩; exact hfl h
 ·rintro ⟨rfl, rfl⟩
  rw [Vs hr hl fun lb h => ?_]
  ·exact k
  ·have := List.flatMap_eq_nil_iff.1 hb lb h
   exact this
end
section
variable {P : Program} {tk : Nat} {t ty yt : TypeId} {X Y : Operand} {b1 b2 : Option LB} {k k' : IntKind} {x y : Int}
theorem Qc (k : IntKind) (z : Int) : Dt (.int k (k.wrap z)) = true := by
 rw [Gp]
 cases k <;> simp [IntKind.wrap, IntKind.bits, IntKind.signed, IntKind.min, IntKind.max] <;> (try split) <;> omega
theorem kV : Eb P tk (.binOp .sub t X Y yt) ty [(.val (.int k x), b1), (.val (.int k y), b2)] [] (v0 (.val (.int k (k.wrap (x - y))))) := .binOp (fun _ _ => Qc _ _) Yx
theorem mD : Eb P tk (.binOp .and t X Y yt) ty [(.val (.int k x), b1), (.val (.int k y), b2)] [] (v0 (.val (.int k (Wa k x y)))) := .binOp (fun _ _ => Qc _ _) (fun w => by simp [eqGuard, binOp, Op.intBits, Wa])
theorem X0 : Eb P tk (.binOp .xor t X Y yt) ty [(.val (.int k x), b1), (.val (.int k y), b2)] [] (v0 (.val (.int k (Qa k x y)))) := .binOp (fun _ _ => Qc _ _) (fun w => by simp [eqGuard, binOp, Op.intBits, Qa])
theorem fS (k : IntKind) : k.min <= 0 /\ 0 <= k.max := by cases k <;> decide
theorem V7 {x d : Int} (hx : x <= 0) (hd : 0 < d) : x / d <= 0 := by
 rcases Int.lt_trichotomy (x / d) 0 with h | h | h
 ·omega
 ·omega
 ·exfalso
  have h1 := Int.mul_ediv_add_emod x d
  have h2 := Int.emod_nonneg x (show d ≠ 0 by omega)
  have h3 : d * 1 <= d * (x / d) := Int.mul_le_mul_of_nonneg_left (by omega) (by omega)
  omega
theorem Vl {z : Int} (h : S0 k x y = some z) : Eb P tk (.binOp .shr t X Y yt) ty [(.val (.int k x), b1), (.val (.int k' y), b2)] [] (v0 (.val (.int k z))) := by
 obtain ⟨h0, rfl⟩ := Zx h
 refine .binOp (fun hx _ => ?_) (fun w => by simp [eqGuard, binOp, Op.shift, h0])
 rw [Gp] at hx ⊢
 have hm := fS k
 have hd : (0 : Int) < 2 ^ min y.toNat k.bits := Int.pow_pos (by omega)
 generalize (2 : Int) ^ min y.toNat k.bits = d at hd
 rw [Int.fdiv_eq_ediv_of_nonneg _ (Int.le_of_lt hd)]
 rcases Int.le_total 0 x with hx0 | hx0
 ·have h1 := Int.ediv_nonneg hx0 (Int.le_of_lt hd)
  have h2 := Int.ediv_le_self d hx0
  omega
 ·have h1 : x <= x / d := by
   have := Int.mul_ediv_add_emod x d
   have h3 := Int.emod_nonneg x (show d ≠ 0 by omega)
   have h4 : x / d <= 0 := V7 hx0 hd
   have h5 : d * (x / d) <= 1 * (x / d) := Int.mul_le_mul_of_nonpos_right (by omega) h4
   have h6 := Int.emod_lt_of_pos x hd
   by_cases h7 : x / d = 0
   ·omega
   ·have h8 : x / d <= -1 := by omega
    have h9 : (d - 1) * (x / d) <= (d - 1) * (-1) := Int.mul_le_mul_of_nonneg_left h8 (by omega)
    have h10 : d * (x / d) = (d - 1) * (x / d) + x / d := by rw [Int.sub_mul, Int.one_mul]; omega
    omega
  have h2 : x / d <= 0 := V7 hx0 hd
  omega
theorem Xb {z : Int} (h : Ug k x y = some z) : Eb P tk (.binOp .shl t X Y yt) ty [(.val (.int k x), b1), (.val (.int k' y), b2)] [] (v0 (.val (.int k z))) := by
 obtain ⟨h0, rfl⟩ := Za h
 exact .binOp (fun _ _ => Qc _ _) (fun w => by simp [eqGuard, binOp, Op.shift, h0])
theorem Vf {src dst : TypeId} (hs : P.underlying src = some (.int k)) (hd : P.underlying dst = some (.int k')) : Eb P tk (.convert src dst X) ty [(.val (.int k x), b1)] [] (v0 (.val (.int k' (k'.wrap x)))) :=
 .conv (by unfold Yc; rw [hs]) (by unfold Yc; rw [hd]) (fun _ => Qc _ _) (U7 (by rw [hs]; rfl) hd)
theorem Xs {s : ByteArray} {u : UInt8} (ht : P.underlying t = some .string) (h : Wq s x = some u) : Eb P tk (.index t X Y) ty [(.val (.string s), b1), (.val (.int k x), b2)] [] (v0 (.val (.int .u8 (u.toNat : Int)))) := by
 unfold Wq at h
 split at h
 ·cases h
 ·rename_i h0
  have h1 : 0 <= x := by omega
  have hlt := (Array.getElem?_eq_some_iff.1 h).1
  have hs : s[x.toNat]? = some u := by
   have hlt' : x.toNat < s.size := hlt
   rw [getElem?_pos s x.toNat hlt']
   have := (Array.getElem?_eq_some_iff.1 h).2
   exact congrArg some this
  exact .indexS (fun _ _ => qF _) (fun w => by simp [Instr.index, asIntOf, run_underlying ht, h1, hs])
theorem jF {a b : ByteArray} : Eb P tk (.binOp .gtr t X Y yt) ty [(.val (.string a), b1), (.val (.string b), b2)] [] (v0 (.val (.bool (Iz (Hk b) (Hk a))))) := .binOp (fun _ _ => rfl) (fun w => by
 rw [<- Sn]
 simp [eqGuard, binOp, Op.stringOp, Vx, ByteArray.toList_eq, Hk]
 congr 1
 rw [show (a.data == b.data) = decide (a.data = b.data) from by by_cases h : a.data = b.data <;> simp [h]])
theorem bF {a b : ByteArray} : Eb P tk (.binOp .geq t X Y yt) ty [(.val (.string a), b1), (.val (.string b), b2)] [] (v0 (.val (.bool (!Iz (Hk a) (Hk b))))) := .binOp (fun _ _ => rfl) (fun w => by
 simp [eqGuard, binOp, Op.stringOp, Vx, ByteArray.toList_eq, Hk])
end
section
variable {α : Type} {f : α -> List C} {sz : Nat}
theorem Yg (hf : ∀ x, (f x).length = sz) {l : List α} {i n : Nat} (h : i + n <= l.length) : i * sz + n * sz <= (Az f l).length := by
 rw [Fk hf, <- Nat.add_mul]
 exact Nat.mul_le_mul_right _ h
theorem Xn (hf : ∀ x, (f x).length = sz) (h0 : 0 < sz) {l : List α} (h : Az f l = []) : l = [] := by
 have := Fk hf l
 rw [h] at this
 rcases Nat.mul_eq_zero.1 this.symm with h1 | h1
 ·exact List.eq_nil_of_length_eq_zero h1
 ·omega
end
section
variable {P : Program} {tk : Nat} {t ty e sz bytes : Nat} {X Y : Operand} {b1 b2 b3 : Option LB} {α : Type} {f : α -> List C} {l m : List α} {n : Int} {k ka kb : IntKind} {j kr e' : Nat} {x : α} {lo hi : Operand} {a b : Int}
theorem Q4 (hS : G4 P t e sz bytes) (hf : ∀ x, (f x).length = sz) (h : X9 l a (l.length : Int) = some m) : Eb P tk (.slice t X (some lo) none none) ty [(.row kr, some (.row e' sz (Az f l))), (.val (.int ka a), b2)] [] (v0 (.part kr (a.toNat * sz) ((l.length : Int).toNat - a.toNat))) := by
 obtain ⟨i, j, rfl, hj, h1, h2, rfl⟩ := Ws h
 have : j = l.length := by omega
 subst this
 exact .sliR hS (Fk hf l) ⟨⟨_, _, _, rfl, rfl⟩, rfl⟩ ⟨h1, h2⟩
theorem Rm (hS : G4 P t e sz bytes) (hf : ∀ x, (f x).length = sz) (h : X9 l 0 b = some m) : Eb P tk (.slice t X none (some hi) none) ty [(.row kr, some (.row e' sz (Az f l))), (.val (.int kb b), b3)] [] (v0 (.part kr ((0 : Int).toNat * sz) (b.toNat - (0 : Int).toNat))) := by
 obtain ⟨i, j, hi', rfl, h1, h2, rfl⟩ := Ws h
 have : i = 0 := by omega
 subst this
 have e0 : (0 : Int).toNat * sz = 0 * sz := rfl
 exact .sliR hS (Fk hf l) ⟨⟨_, _, _, rfl, rfl⟩, rfl⟩ ⟨h1, h2⟩
theorem Td {sz : Nat} : ∀ (ds : List DV) (k : Nat) (pre rest : List DV), pre.length = k * sz -> rest.length = ds.length * sz -> (∀ d ∈ ds, (Cr d).length = sz) -> Gs (fun i => some (i * sz, sz)) (pre ++ rest) ((List.range' k ds.length).zip ds) = some (pre ++ ds.flatMap Cr)
 | [], k, pre, rest, _, hr, _ => by
  have : rest = [] := List.eq_nil_of_length_eq_zero (by simpa using hr)
  subst this
  simp [Gs]
 | d :: ds, k, pre, rest, hp, hr, hd => by
  have h0 := hd d (List.mem_cons_self ..)
  have hr' : rest.length = ds.length * sz + sz := by rw [hr, List.length_cons, Nat.add_mul, Nat.one_mul]
  rw [List.length_cons, List.range'_succ, List.zip_cons_cons]
  unfold Gs
  simp only []
  have c1 : Nat.beq (Cr d).length sz = true := by rw [h0]; exact Nat.beq_refl _
  have c2 : Nat.ble (k * sz + sz) (pre ++ rest).length = true := Nat.ble_eq_true_of_le (by rw [List.length_append, hp, hr']; omega)
  rw [c1, c2]
  simp only [Bool.and_self, cond_true]
  have e1 : C1 (pre ++ rest) (k * sz) (Cr d) = (pre ++ Cr d) ++ rest.drop sz := by
   unfold C1
   rw [h0, <- hp, List.take_left, <- List.drop_drop, List.drop_left, List.append_assoc]
  rw [e1, Td ds (k + 1) (pre ++ Cr d) (rest.drop sz) (by rw [List.length_append, hp, h0, Nat.add_mul, Nat.one_mul]) (by rw [List.length_drop, hr']; omega) fun x hx => hd x (List.mem_cons_of_mem _ hx)]
  rw [List.flatMap_cons, List.append_assoc]
theorem Bb {len : Nat} {parts : Array (Nat × Operand)} {ds : List (DV × Option LB)} {z : List Value} {cs : List C} {ck : List (Option Nat)} (hS : G4 P t e sz bytes) (hz : Zt P e z) (hlen : len * sz <= 16777216) (hp : parts.toList.map (·.1) = List.range' 0 len) (hzl : z.length = sz) (hn : ds.length = len) (hs : ds.all (fun q => Nat.beq (Cr q.1).length sz) = true) (hk : Lt P 20 e = ck) (hc : Im (List.replicate len ck).flatten (ds.flatMap fun q => Cr q.1) cs) (ho : ds.all (fun q => (Cr q.1).all T9) = true) (h : Az f l = cs) : Eb P tk (.buildSlice t len parts) ty ds [] (Ky tk (.row e sz (Az f l)) (.row tk)) := by
 subst h
 refine .buildSl hS hz hlen ?_ hk hc ho
 have hd := Td (sz := sz) (ds.map (·.1)) 0 [] ((List.replicate len (z.map DV.val)).flatten) (by simp) (by simp [hzl, hn]) fun d hd => by
  obtain ⟨q, hq, rfl⟩ := List.mem_map.1 hd
  exact Nat.eq_of_beq_eq_true (List.all_eq_true.1 hs q hq)
 rw [List.nil_append, List.nil_append, List.length_map, hn] at hd
 rw [hp, hd]
 congr 1
 rw [List.flatMap_map]
theorem dC {i bt sz' : Nat} {ds ds' : List DV} {ag : Bool} {d : DV} {kk : Nat} (ht : Ty P t ag sz') (hs : (Cr d).length = sz') (hi : i + sz' <= ds.length) (ho : (Cr d).all T9 = true) (h : C1 ds i (Cr d) = ds') : Eb P tk (.store t X Y) ty [(.ptr kk i, some (.box ds bt)), (d, b2)] [kk] (Z9 kk (.box ds' bt)) := by
 subst h
 exact .storeB ht hs hi ho
theorem Uj {tk2 : Nat} {m' : Nat} {ds : List DV} {L : List α} (ht : P.underlying t = some (.array m' e)) (he : Ty P e true sz) (hf : ∀ x, (f x).length = sz) (hds : ds = (Az f L).map Sj) (hL : L.length = m') (hx : Cc L n = some x) {d2 : List DV} (h2 : (f x).map Sj = d2) : Eb P tk2 (.index t X Y) ty [(.agg ds, b1), (.val (.int k n), b2)] [] (v0 (.agg d2)) := by
 have hx' := Ao hx
 refine .indexAA ht he (O2 hx) (by rw [<- hL]; exact (List.getElem?_eq_some_iff.1 hx').1) ?_
 rw [hds, <- List.map_drop, <- List.map_take, <- h2]
 congr 1
 exact Bd hf hx' (o := 0) (by rw [List.drop_zero]; exact List.take_of_length_le (Nat.le_of_eq (hf _))) (by omega) rfl
end
def eA {α : Type} [Inhabited α] (n : Nat) (f : α -> List C) (x : List α) : List C := (List.range n).flatMap fun i => f (x[i]!)
theorem iM {α : Type} [Inhabited α] {n sz : Nat} {f : α -> List C} (hf : ∀ x, (f x).length = sz) (x : List α) : (eA n f x).length = n * sz := by
 unfold eA
 induction n with
 | zero => simp
 | succ n ih => rw [List.range_succ, List.flatMap_append, List.length_append, ih, List.flatMap_cons, List.flatMap_nil, List.append_nil, hf, Nat.add_mul, Nat.one_mul]
class bG (p : Prop) (q : outParam Prop) : Prop where
 go : q -> p
theorem Cw {p q : Prop} [s : bG p q] (h : q) : p := s.go h
section
variable {next : St -> Prop} {Q : Exit -> St -> Prop} {i : Nat} {σ : St}
instance : bG (dS next Q .normal σ) (next σ) := ⟨fun h => h⟩
instance : bG (dS next Q (.exit i) σ) (Q (.exit i) σ) := ⟨fun h => h⟩
instance : bG (dS next Q .ret σ) (Q .ret σ) := ⟨fun h => h⟩
instance : bG (gR i Q (.exit i) σ) (Q .normal σ) := ⟨fun h => bY h⟩
instance : bG (gR i Q .normal σ) (Q .normal σ) := ⟨fun h => h⟩
instance : bG (gR i Q .ret σ) (Q .ret σ) := ⟨fun h => h⟩
instance : bG (pP Q .normal σ) (Q .normal σ) := ⟨fun h => h⟩
instance : bG (pP Q (.exit i) σ) (Q (.exit i) σ) := ⟨fun h => h⟩
instance : bG (pP Q .ret σ) (Q .ret σ) := ⟨fun h => h⟩
end
class bP (p : Prop) (q : outParam Prop) : Prop where
 go : q -> p
instance (priority := low) stpN_nil (p : Prop) : bP p p := ⟨fun h => h⟩
instance mF {p p' q : Prop} [s : bG p p'] [t : bP p' q] : bP p q := ⟨fun h => s.go (t.go h)⟩
theorem Bj {P : Program} {cx : Cx} {Q : Exit -> St -> Prop} {σ : St} {q : Prop} [s : bP (Q .ret σ) q] (h : q) : Ci P cx .ret Q σ := Vu (s.go h)
theorem Cz {Q : Exit -> St -> Prop} {i j : Nat} {σ : St} (h : Q (.exit j) σ) (hne : j ≠ i := by decide) : gR i Q (.exit j) σ := Zq hne h
theorem Bn {P : Program} {cx : Cx} {id : Nat} {l : List Oper} {σ : St} {y : Code} {Q : Exit -> St -> Prop} (nb nb' : Nat) (hU : ∀ k, nb <= k -> σ.U k = false)
  (h : Chain (Bo P cx []) l.toArray none nb (Dx 0 l) [] σ (fun σ' => (∀ j, nb' <= j -> σ'.U j = false) -> dS (Ci P cx y Q) Q .normal σ')) (hn : Nat.ble (nb + 8 * l.length) nb' = true := by rfl) (hd : aR cx.N l = true := by rfl) : Ci P cx (.seq (.region id l.toArray false) y) Q σ :=
 Ah (Ad (Bo _ _ []) nb nb' hU hn hd h)
section
variable {P : Program} {cx : Cx} {ops : Array Oper} {Rt : Option (List Nat)} {nb i : Nat} {l : List Oper} {lg : Zv} {σ : St} {Q : St -> Prop} {fz : List Nat}
theorem Ai {Q : Exit -> St -> Prop} {nb' : Nat} {q : Prop} [s : bP (Q .normal σ) q] (h : (∀ j, nb' <= j -> σ.U j = false) -> q) : Chain (Bo P cx fz) ops Rt nb (Dx i []) lg σ (fun σ' => (∀ j, nb' <= j -> σ'.U j = false) -> Q .normal σ') := pI fun hU => s.go (h hU)
theorem Ca {dst : Option Tmp} {op : Op} {ty : TypeId} {pos : String} {af : Array Edge} {g : Option (Nat × Bool)} {ds : List (DV × Option LB)} {wr : List Nat} {e : Jh} (hg : H1 ops σ ⟨dst, op, ty, pos, af, g⟩ = some true) (hds : Ds σ (Hg op) op.operands.toList = some ds) (h : Eb P (nb + 8 * i) op ty ds wr e)
  (hrd : (bif Hg op then H5 (Io op) ds else []) = []) (hok : Iv Rt i false (nb + 8 * i) [] wr lg = true) (k : Chain (Bo P cx fz) ops Rt nb (Dx (i + 1) l) ((i, false, nb + 8 * i, [], wr) :: lg) (σ.app dst e) Q) (hz : zM fz (nb + 8 * i) = 0 := by rfl) (hap : Na cx.np op wr = true := by rfl) :
  Chain (Bo P cx fz) ops Rt nb (Dx i (⟨dst, op, ty, pos, af, g⟩ :: l)) lg σ Q := Cu (rd := []) hg hds h hrd hok k hz hap
end
end Go.Proofs.Ytjomajedgbcngaa
namespace Go.Proofs.Ytjomajedgbcngaa
open Go.RowKit
theorem Qn : ∀ {d : DV} {k : Nat}, men d k -> k ∈ G9 d
 | .row _, k, h => by simpa [G9, men] using h
 | .part _ _ _, k, h => by simpa [G9, men] using h
 | .ptr _ _, k, h => by simpa [G9, men] using h
 | .agg ds, k, h => by unfold men at h; unfold G9; exact menL_dtoks h
 | .tup ds, k, h => by unfold men at h; unfold G9; exact menL_dtoks h
 | .clo _ _ ds, k, h => by unfold men at h; unfold G9; exact menL_dtoks h
 | .val _, k, h => by unfold men at h; exact h.elim
 | .sl _ _, k, h => by unfold men at h; exact h.elim
 | .slc _ _, k, h => by unfold men at h; exact h.elim
 | .mp _, k, h => by unfold men at h; exact h.elim
 | .elt _, k, h => by unfold men at h; exact h.elim
where
 menL_dtoks : ∀ {ds : List DV} {k : Nat}, D8 ds k -> k ∈ Jp ds
 | [], k, h => by unfold D8 at h; exact h.elim
 | d :: ds, k, h => by
  unfold D8 at h
  unfold Jp
  rcases h with h | h
  ·exact List.mem_append_left _ (Qn h)
  ·exact List.mem_append_right _ (menL_dtoks h)
theorem Nl.cut {cx : Cx} {σ σ' : St} {t k n e sz : Nat} {cs : List C} (hk : cx.np <= k) (hF : σ.F t = some (.part k 0 n)) (hL : σ.L k = some (.row e sz cs)) (hn : n * sz <= cs.length)
  (hF' : ∀ s d, σ'.F s = some d -> (d = .row k /\ s = t) \/ (σ.F s = some d /\ ¬ men d k)) (hL' : ∀ j lb, σ'.L j = some lb -> (j = k /\ lb = .row e sz (cs.take (n * sz))) \/ (j ≠ k /\ σ.L j = some lb /\ ¬ Nh lb k)) (hU : ∀ j, σ'.U j = σ.U j) : Nl cx σ σ' := by
 rintro a w ⟨ρ, h⟩
 obtain ⟨N, us, q1, q0, q2⟩ := h.lo _ _ hL
 have hr := h.fr _ _ hF
 unfold B9 at hr
 obtain ⟨A, c, hv, hnc, hc, hA, hB⟩ := hr
 have hlen : n * sz <= us.length := by rw [<- q2.1]; exact hn
 have hblk : ∀ b, Cl (a.tmps.getD t undef) = some b -> Cl (ρ k) = some b := fun b hb => by
  rcases q1.2 with ⟨A', e, -⟩ | ⟨g', cap, cur, e, r1, -⟩
  ·obtain ⟨t1, t2⟩ := hB rfl _ _ _ e
   rw [hv, t2] at hb
   cases A <;> cases hb
  ·obtain ⟨t1, t2⟩ := hB rfl _ _ _ e
   rw [hv, t1] at hb
   rw [e, G2 r1, (D5 hb).1]
 have hown : w.rowOk e sz (a.tmps.getD t undef) n (us.take (n * sz)) := by
  refine ⟨by rw [List.length_take]; omega, ?_⟩
  rcases q1.2 with ⟨A', e, q3⟩ | ⟨g, cap, cur, e, r1, r2, r3, r4, r5, r6⟩
  ·obtain ⟨t1, t2⟩ := hB rfl _ _ _ e
   refine .inl ⟨A', by rw [hv, t1, t2]; congr 1; omega, by omega⟩
  ·obtain ⟨t1, t2⟩ := hB rfl _ _ _ e
   refine .inr ⟨g, cap, cur, by rw [hv, t1, t2], r1, r2, by omega, r4, r5, ?_⟩
   have hle : n * sz <= N * sz := by rw [<- q1.1]; exact hlen
   rw [<- r6, List.take_take, Nat.min_eq_left hle]
 let ρ' : Nat -> Value := fun j => if j = k then a.tmps.getD t undef else ρ j
 have hk' : ρ' k = a.tmps.getD t undef := if_pos rfl
 have ho : ∀ j, j ≠ k -> ρ' j = ρ j := fun j hj => if_neg hj
 have loc : ∀ j lb b, σ'.L j = some lb -> Cl (ρ' j) = some b -> ∃ lb', σ.L j = some lb' /\ Cl (ρ j) = some b := fun j lb b hj hb => by
  rcases hL' j lb hj with ⟨rfl, -⟩ | ⟨hne, h1, -⟩
  ·rw [hk'] at hb; exact ⟨_, hL, hblk b hb⟩
  ·rw [ho j hne] at hb; exact ⟨_, h1, hb⟩
 have hI : ∀ b, Ji cx σ ρ w b -> Ji cx σ' ρ' w b /\ w.heap[b]? = w.heap[b]? := fun b hb => by
  refine ⟨⟨hb.1, fun hl => ?_, hb.2.2⟩, rfl⟩
  obtain ⟨j, lb, h1, h2⟩ := hl
  obtain ⟨lb', h3, h4⟩ := loc j lb b h1 h2
  exact hb.2.1 ⟨j, lb', h3, h4⟩
 refine ⟨ρ', ⟨h.defers, h.size, h.kept, fun s d hs => ?_, fun j lb hj => ?_, fun j j' lb lb' b h1 h2 h3 h4 => ?_, fun s d j hs hm => ?_, fun j lb hj => ?_, fun j hj => ?_, fun j lb b hj hp hb => ?_⟩⟩
 ·rcases hF' s d hs with ⟨rfl, rfl⟩ | ⟨h1, h2⟩
  ·unfold B9
   rw [hk']
   refine ⟨rfl, ?_⟩
   rw [hv]; rfl
  ·exact B9.step hI d _ (fun j hj => ho j fun e => h2 (e ▸ hj)) (h.fr _ _ h1)
 ·rcases hL' j lb hj with ⟨rfl, rfl⟩ | ⟨hne, h1, h2⟩
  ·rw [hk']
   refine ⟨n, us.take (n * sz), hown, fun b hb => q0 b (hblk b hb), ?_⟩
   refine Dz.keep_ (w := w) ⟨by rw [List.length_take, List.length_take, q2.1], fun j c u a b => ?_⟩ (fun b hb => rfl) fun b hb => (hI b hb).1
   rw [List.getElem?_take] at a b
   split at a
   ·rename_i hj
    rw [if_pos hj] at b
    exact q2.2 j c u a b
   ·cases a
  ·rw [ho j hne]
   exact (h.lo _ _ h1).step hI (fun j' hj' => ho j' fun e => h2 (e ▸ hj')) fun b _ => rfl
 ·obtain ⟨_, e1, e2⟩ := loc _ _ _ h1 h3
  obtain ⟨_, e3, e4⟩ := loc _ _ _ h2 h4
  exact h.sep _ _ _ _ _ e1 e3 e2 e4
 ·rw [hU]
  rcases hF' s d hs with ⟨rfl, rfl⟩ | ⟨h1, h2⟩
  ·unfold men at hm
   subst hm
   exact (h.usedL _ _ hL).1
  ·exact h.usedF _ _ _ h1 hm
 ·rw [hU]
  rcases hL' j lb hj with ⟨rfl, rfl⟩ | ⟨hne, h1, h2⟩
  ·exact ⟨(h.usedL _ _ hL).1, fun k' hm => hm.elim⟩
  ·exact ⟨(h.usedL _ _ h1).1, fun k' hm => by rw [hU]; exact (h.usedL _ _ h1).2 k' hm⟩
 ·rw [hU]
  exact ⟨(ho j (by omega)).trans (h.pin j hj).1, (h.pin j hj).2⟩
 ·obtain ⟨_, e1, e2⟩ := loc _ _ _ hj hb
  exact h.fresh _ _ _ e1 hp e2
def Z2 (t k : Nat) : List (Nat × DV) -> List (Nat × DV)
 | [] => []
 | (s, d) :: l => bif Nat.beq s t then (s, .row k) :: Z2 t k l else (s, d) :: Z2 t k l
def Zz (k : Nat) (lb : LB) : List (Nat × LB) -> List (Nat × LB)
 | [] => []
 | (j, b) :: l => bif Nat.beq j k then (j, lb) :: Zz k lb l else (j, b) :: Zz k lb l
def mO (t k : Nat) (fl : List (Nat × DV)) (ll : List (Nat × LB)) : Bool :=
 fl.all (fun q => Nat.beq q.1 t || !(G9 q.2).contains k) && ll.all (fun q => Nat.beq q.1 k || !(S7 q.2).contains k)
theorem Re {t k : Nat} : ∀ {fl : List (Nat × DV)} {s : Nat} {d : DV}, Ed (Z2 t k fl) s = some d -> (s = t /\ d = .row k) \/ (s ≠ t /\ Ed fl s = some d)
 | [], s, d, h => by simp [Z2, Ed] at h
 | (s', d') :: l, s, d, h => by
  unfold Z2 at h
  cases hb : Nat.beq s' t with
  | true =>
   rw [hb] at h
   simp only [cond_true] at h
   have e0 := Nat.eq_of_beq_eq_true hb
   unfold Ed at h
   cases hs : Nat.beq s s' with
   | true =>
    rw [hs] at h
    have := Nat.eq_of_beq_eq_true hs
    injection h with h
    exact .inl ⟨by omega, h.symm⟩
   | false =>
    rw [hs] at h
    rcases Re h with h | ⟨h1, h2⟩
    ·exact .inl h
    ·refine .inr ⟨h1, ?_⟩
     unfold Ed
     rw [hs]
     exact h2
  | false =>
   rw [hb] at h
   simp only [cond_false] at h
   unfold Ed at h
   cases hs : Nat.beq s s' with
   | true =>
    rw [hs] at h
    have := Nat.eq_of_beq_eq_true hs
    refine .inr ⟨fun e => ?_, ?_⟩
    ·subst this
     subst e
     rw [Nat.beq_refl] at hb
     cases hb
    ·unfold Ed
     rw [hs]
     exact h
   | false =>
    rw [hs] at h
    rcases Re h with h | ⟨h1, h2⟩
    ·exact .inl h
    ·refine .inr ⟨h1, ?_⟩
     unfold Ed
     rw [hs]
     exact h2
theorem Rb {k : Nat} {lb : LB} : ∀ {ll : List (Nat × LB)} {j : Nat} {b : LB}, Ed (Zz k lb ll) j = some b -> (j = k /\ b = lb) \/ (j ≠ k /\ Ed ll j = some b)
 | [], s, d, h => by simp [Zz, Ed] at h
 | (s', d') :: l, s, d, h => by
  unfold Zz at h
  cases hb : Nat.beq s' k with
  | true =>
   rw [hb] at h
   simp only [cond_true] at h
   have e0 := Nat.eq_of_beq_eq_true hb
   unfold Ed at h
   cases hs : Nat.beq s s' with
   | true =>
    rw [hs] at h
    have := Nat.eq_of_beq_eq_true hs
    injection h with h
    exact .inl ⟨by omega, h.symm⟩
   | false =>
    rw [hs] at h
    rcases Rb h with h | ⟨h1, h2⟩
    ·exact .inl h
    ·refine .inr ⟨h1, ?_⟩
     unfold Ed
     rw [hs]
     exact h2
  | false =>
   rw [hb] at h
   simp only [cond_false] at h
   unfold Ed at h
   cases hs : Nat.beq s s' with
   | true =>
    rw [hs] at h
    have := Nat.eq_of_beq_eq_true hs
    refine .inr ⟨fun e => ?_, ?_⟩
    ·subst this
     subst e
     rw [Nat.beq_refl] at hb
     cases hb
    ·unfold Ed
     rw [hs]
     exact h
   | false =>
    rw [hs] at h
    rcases Rb h with h | ⟨h1, h2⟩
    ·exact .inl h
    ·refine .inr ⟨h1, ?_⟩
     unfold Ed
     rw [hs]
     exact h2
theorem Zy {lb : LB} {k : Nat} (h : Nh lb k) : k ∈ S7 lb := by
 cases lb with
 | box ds ty => unfold S7; exact Qn.menL_dtoks h
 | row => exact h.elim
 | map => exact h.elim
 | mit k' n s => have h : k = k' := h; subst h; exact List.mem_singleton.2 rfl
 | vec ds e => unfold S7; exact Qn.menL_dtoks h
theorem Zo {α : Type} {f : α -> List C} {sz : Nat} (hf : ∀ x, (f x).length = sz) {l : List α} {n : Nat} (hn : n <= l.length) : (Az f l).take (n * sz) = Az f (l.take n) := by
 have := X5 hf l 0 n (Nat.zero_le _) hn
 simpa using this
theorem oT {α : Type} {f : α -> List C} {L : List α} {cx : Cx} {fl : List (Nat × DV)} {ll : List (Nat × LB)} {N : Nat} (t k : Nat) {n e sz : Nat} (hf : ∀ x, (f x).length = sz) (hn : n <= L.length) (hF : Ed fl t = some (.part k 0 n)) (hL : Ed ll k = some (.row e sz (Az f L)))
  (hk : Nat.ble cx.np k = true) (hc : mO t k fl ll = true) : Nl cx (mk fl ll N) (mk (Z2 t k fl) (Zz k (.row e sz (Az f (L.take n))) ll) N) := by
 unfold mO at hc
 rw [Bool.and_eq_true, List.all_eq_true, List.all_eq_true] at hc
 refine Nl.cut (t := t) (k := k) (n := n) (e := e) (sz := sz) (cs := Az f L) (Nat.le_of_ble_eq_true hk) hF hL (by rw [Fk hf]; exact Nat.mul_le_mul_right _ hn) (fun s d hs => ?_) (fun j lb hj => ?_) fun _ => rfl
 ·rcases Re hs with ⟨rfl, rfl⟩ | ⟨h1, h2⟩
  ·exact .inl ⟨rfl, rfl⟩
  ·refine .inr ⟨h2, fun hm => ?_⟩
   have := hc.1 _ (Gb h2)
   rw [Bool.or_eq_true] at this
   rcases this with h | h
   ·exact h1 (Nat.eq_of_beq_eq_true h)
   ·have hm' := Qn hm
    simp at h
    exact h hm'
 ·rcases Rb hj with ⟨rfl, rfl⟩ | ⟨h1, h2⟩
  ·refine .inl ⟨rfl, ?_⟩
   rw [Zo hf hn]
  ·refine .inr ⟨h1, h2, fun hm => ?_⟩
   have := hc.2 _ (Gb h2)
   rw [Bool.or_eq_true] at this
   rcases this with h | h
   ·exact h1 (Nat.eq_of_beq_eq_true h)
   ·have hm' := Zy hm
    simp at h
    exact h hm'
end Go.Proofs.Ytjomajedgbcngaa
