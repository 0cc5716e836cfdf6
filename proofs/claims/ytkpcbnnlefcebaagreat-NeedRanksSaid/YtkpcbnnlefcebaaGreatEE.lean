import Derived.Test.YtkpcbnnlefcebaaGreatED
import Derived.KernelRfl
import Derived.Test.YtkpcbnnlefcebaaGreatPU
import Derived.Scope
set_option linter.unusedVariables false
set_option linter.unusedSimpArgs false
namespace Go.Proofs.YtkpcbnnlefcebaaGreat
open Go.RowKit
section
variable {Q : Exit -> St -> Prop} {next : St -> Prop} {σ : St} {i j : Nat}
theorem iW (h : Q .normal σ) : oT i Q (.exit i) σ := by
 show (if i = i then _ else _)
 rw [if_pos rfl]
 exact h
theorem fV (hne : j ≠ i) (h : Q (.exit j) σ) : oT i Q (.exit j) σ := by
 show (if j = i then _ else _)
 rw [if_neg hne]
 exact h
end
theorem oN {P : Program} {t ty : TypeId} {s : ByteArray} (h : P.underlying t = some .string) : ∀ w, ∀ cs, (builtin .len #[t] ty cs #[.string s]).run P w = .ok (.value (.int .i64 s.size)) w := fun w cs => by
 simp [builtin, Builtin.len_, run_underlying h, goInt]
section
variable {P : Program} {t : TypeId} {X Y : Operand}
end
section
variable {P : Program} {t : TypeId} {X Y : Operand} {k : IntKind} {x y : Int}
end
section
variable {P : Program} {t : TypeId} {X Y : Operand} {a b : ByteArray}
end
theorem Ju {θ : List (Nat × Nat)} {j : Nat} (h : (θ.all fun q => !Nat.beq q.2 j) = true) : ∀ k, F4 θ k ≠ some j := fun k hk => by
 have := List.all_eq_true.1 h _ (Hl hk)
 simp at this
theorem B7 {P : Program} {cx : Cx} {x y : Code} {Q : Exit -> St -> Prop} {σ : St} {ι : Type} (mid : ι -> St) (ok : ι -> Prop) (hx : Cy P cx x (pB (fun σ' => ∃ i, ok i /\ Nx cx σ' (mid i)) Q) σ) (hy : ∀ i, ok i -> Cy P cx y Q (mid i)) : Cy P cx (.seq x y) Q σ := by
 refine Aj (jJ ?_ hx)
 intro e σ' h
 cases e with
 | normal =>
  obtain ⟨i, h1, h2⟩ := h
  exact H6 h2 (hy i h1)
 | _ => exact h
end Go.Proofs.YtkpcbnnlefcebaaGreat
namespace Go.Proofs.YtkpcbnnlefcebaaGreat
open Go.RowKit
mutual
def lH (j : Nat) : DV -> Bool
 | .part k _ _ => !Nat.beq k j
 | .ptr k _ => !Nat.beq k j
 | .agg ds => Yi j ds
 | .tup ds => Yi j ds
 | .clo _ _ ds => Yi j ds
 | .val _ => true
 | .sl _ _ => true
 | .slc _ _ => true
 | .mp _ => true
 | .elt _ => true
 | .row _ => true
def Yi (j : Nat) : List DV -> Bool
 | [] => true
 | d :: ds => lH j d && Yi j ds
end
mutual
def Lk (j sz : Nat) (cs : List C) : DV -> DV
 | .row k => bif Nat.beq k j then .sl sz cs else .row k
 | .agg ds => .agg (Pb j sz cs ds)
 | .tup ds => .tup (Pb j sz cs ds)
 | .clo f n ds => .clo f n (Pb j sz cs ds)
 | .val v => .val v
 | .sl s c => .sl s c
 | .slc s c => .slc s c
 | .mp l => .mp l
 | .elt c => .elt c
 | .part k o n => .part k o n
 | .ptr k i => .ptr k i
def Pb (j sz : Nat) (cs : List C) : List DV -> List DV
 | [] => []
 | d :: ds => Lk j sz cs d :: Pb j sz cs ds
end
def St.frz (σ : St) (j sz : Nat) (cs : List C) : St where
 F := fun t => match σ.F t with | some d => bif lH j d then some (Lk j sz cs d) else none | none => none
 L := fun k => bif Nat.beq k j then none else match σ.L k with | some (.box ds ty) => (bif Yi j ds then some (.box (Pb j sz cs ds) ty) else none) | some (.row e s c) => some (.row e s c) | _ => none
 U := σ.U
theorem Rp {a b : Nat} (h : Nat.beq a b = false) : a ≠ b := fun e => by
 subst e
 rw [Nat.beq_refl] at h; cases h
section
variable {σ : St} {j e sz : Nat} {cs : List C}
abbrev lB (j : Nat) (k : Nat) : Option Nat := if k = j then none else some k
mutual
theorem Cv.frzD (h : σ.L j = some (.row e sz cs)) : ∀ d, lH j d = true -> Cv σ (lB j) d (Go.Proofs.YtkpcbnnlefcebaaGreat.Lk j sz cs d)
 | .val v, _ => by unfold Go.Proofs.YtkpcbnnlefcebaaGreat.Lk; exact .val v
 | .sl _ _, _ => by unfold Go.Proofs.YtkpcbnnlefcebaaGreat.Lk; exact .sl _ _
 | .slc _ _, _ => by unfold Go.Proofs.YtkpcbnnlefcebaaGreat.Lk; exact .slcc _ _
 | .mp _, _ => by unfold Go.Proofs.YtkpcbnnlefcebaaGreat.Lk; exact .mp _
 | .elt _, _ => by unfold Go.Proofs.YtkpcbnnlefcebaaGreat.Lk; exact .elt _
 | .row k, _ => by
  unfold Go.Proofs.YtkpcbnnlefcebaaGreat.Lk
  cases hb : Nat.beq k j with
  | true =>
   have := Nat.eq_of_beq_eq_true hb
   subst this
   refine .frz h fun k' hk' => ?_
   unfold lB at hk'
   split at hk'
   ·cases hk'
   ·rename_i hne
    injection hk' with hk'
    exact hne hk'
  | false => exact .row (if_neg (Rp hb))
 | .part k _ _, hn => by
  unfold lH at hn
  unfold Go.Proofs.YtkpcbnnlefcebaaGreat.Lk
  exact .part (if_neg (Rp (by simpa using hn)))
 | .ptr k _, hn => by
  unfold lH at hn
  unfold Go.Proofs.YtkpcbnnlefcebaaGreat.Lk
  exact .ptr (if_neg (Rp (by simpa using hn)))
 | .agg ds, hn => by
  unfold lH at hn
  unfold Go.Proofs.YtkpcbnnlefcebaaGreat.Lk
  exact .agg (Qi.frzDs h ds hn)
 | .tup ds, hn => by
  unfold lH at hn
  unfold Go.Proofs.YtkpcbnnlefcebaaGreat.Lk
  exact .tup (Qi.frzDs h ds hn)
 | .clo f n ds, hn => by
  unfold lH at hn
  unfold Go.Proofs.YtkpcbnnlefcebaaGreat.Lk
  exact .clo f n (Qi.frzDs h ds hn)
theorem Qi.frzDs (h : σ.L j = some (.row e sz cs)) : ∀ ds, Yi j ds = true -> Qi σ (lB j) ds (Go.Proofs.YtkpcbnnlefcebaaGreat.Pb j sz cs ds)
 | [], _ => by unfold Go.Proofs.YtkpcbnnlefcebaaGreat.Pb; exact .nil
 | d :: ds, hn => by
  unfold Yi at hn
  simp only [Bool.and_eq_true] at hn
  unfold Go.Proofs.YtkpcbnnlefcebaaGreat.Pb
  exact .cons (Cv.frzD h d hn.1) (Qi.frzDs h ds hn.2)
end
mutual
theorem eV : ∀ (d : DV) (k : Nat), men (Lk j sz cs d) k -> men d k
 | .val _, k, h => by unfold Lk men at h; exact h.elim
 | .sl _ _, k, h => by unfold Lk men at h; exact h.elim
 | .slc _ _, k, h => by unfold Lk men at h; exact h.elim
 | .mp _, k, h => by unfold Lk men at h; exact h.elim
 | .elt _, k, h => by unfold Lk men at h; exact h.elim
 | .row i, k, h => by
  unfold Lk at h
  cases hb : Nat.beq i j with
  | true => rw [hb] at h; simp only [cond_true] at h; unfold men at h; exact h.elim
  | false => rw [hb] at h; exact h
 | .part _ _ _, k, h => by unfold Lk at h; exact h
 | .ptr _ _, k, h => by unfold Lk at h; exact h
 | .agg ds, k, h => by unfold Lk men at h; unfold men; exact Q3 ds k h
 | .tup ds, k, h => by unfold Lk men at h; unfold men; exact Q3 ds k h
 | .clo _ _ ds, k, h => by unfold Lk men at h; unfold men; exact Q3 ds k h
theorem Q3 : ∀ (ds : List DV) (k : Nat), Fz (Pb j sz cs ds) k -> Fz ds k
 | [], k, h => by unfold Pb Fz at h; exact h.elim
 | d :: ds, k, h => by
  unfold Pb Fz at h
  unfold Fz
  exact h.imp (eV d k) (Q3 ds k)
end
theorem pD {t : Nat} {d' : DV} (h : (σ.frz j sz cs).F t = some d') : ∃ d, σ.F t = some d /\ lH j d = true /\ d' = Lk j sz cs d := by
 have h' : (match σ.F t with | some d => bif lH j d then some (Lk j sz cs d) else none | none => none) = some d' := h
 cases hF : σ.F t with
 | none => rw [hF] at h'; cases h'
 | some d =>
  rw [hF] at h'
  cases hn : lH j d with
  | false => simp only [hn, cond_false] at h'; cases h'
  | true => simp only [hn, cond_true] at h'; injection h' with h'; exact ⟨d, rfl, hn, h'.symm⟩
theorem pI {k : Nat} {lb' : LB} (h : (σ.frz j sz cs).L k = some lb') : k ≠ j /\ ((∃ ds ty, σ.L k = some (.box ds ty) /\ Yi j ds = true /\ lb' = .box (Pb j sz cs ds) ty) \/ ∃ e s c, σ.L k = some (.row e s c) /\ lb' = .row e s c) := by
 have h' : (bif Nat.beq k j then none else match σ.L k with | some (.box ds ty) => (bif Yi j ds then some (LB.box (Pb j sz cs ds) ty) else none) | some (.row e s c) => some (.row e s c) | _ => none) = some lb' := h
 cases hb : Nat.beq k j with
 | true => rw [hb] at h'; cases h'
 | false =>
  refine ⟨Rp hb, ?_⟩
  rw [hb] at h'
  simp only [cond_false] at h'
  cases hL : σ.L k with
  | none => rw [hL] at h'; cases h'
  | some lb =>
   rw [hL] at h'
   cases lb with
   | row e s c => simp only [] at h'; injection h' with h'; exact .inr ⟨e, s, c, rfl, h'.symm⟩
   | map l => cases h'
   | mit k' n s => cases h'
   | vec ds e => cases h'
   | box ds ty =>
    simp only [] at h'
    cases hn : Yi j ds with
    | false => rw [hn] at h'; cases h'
    | true => rw [hn] at h'; injection h' with h'; exact .inl ⟨ds, ty, rfl, hn, h'.symm⟩
theorem Nx.frz {cx : Cx} (h : σ.L j = some (.row e sz cs)) (hj : Nat.ble cx.np j = true) : Nx cx σ (σ.frz j sz cs) := by
 rintro a w ⟨ρ, ha⟩
 have hj' : cx.np <= j := Nat.le_of_ble_eq_true hj
 refine ⟨_, (ha.ren (σ' := σ.frz j sz cs) (lB j) (fun t d' hd => ?_) (fun k lb' hl => ?_) (fun k k' i h1 h2 => ?_) (fun k hk => ⟨if_neg (by omega), (ha.pin k hk).2⟩) (fun t d k hd hm => ?_) (fun k lb hl => ?_)).1⟩
 ·obtain ⟨d, h1, h2, rfl⟩ := pD hd
  exact ⟨d, h1, Cv.frzD h d h2⟩
 ·obtain ⟨hne, h1⟩ := pI hl
  refine .inl ?_
  rcases h1 with ⟨ds, ty, h1, h2, rfl⟩ | ⟨e', s, c, h1, rfl⟩
  ·exact ⟨k, _, if_neg hne, h1, rfl, Qi.frzDs h ds h2⟩
  ·exact ⟨k, _, if_neg hne, h1, rfl, rfl, rfl⟩
 ·unfold lB at h1 h2
  split at h1
  ·cases h1
  ·split at h2
   ·cases h2
   ·injection h1 with h1
    injection h2 with h2
    omega
 ·obtain ⟨d', h1, h2, rfl⟩ := pD hd
  exact ha.usedF t d' k h1 (eV d' k hm)
 ·obtain ⟨hne, h1⟩ := pI hl
  rcases h1 with ⟨ds, ty, h1, h2, rfl⟩ | ⟨e', s, c, h1, rfl⟩
  ·exact ⟨(ha.usedL k _ h1).1, fun k' hk' => (ha.usedL k _ h1).2 k' (Q3 ds k' hk')⟩
  ·exact ⟨(ha.usedL k _ h1).1, fun k' hk' => hk'.elim⟩
end
section
variable {P : Program} {cx : Cx} {ops : Array Oper} {Q : Exit -> St -> Prop} {l : List Oper} {σ σ' : St}
def lM (P : Program) (cx : Cx) (ops : Array Oper) (Q : Exit -> St -> Prop) (l : List Oper) (σ : St) : Prop := ∀ a w, Jx cx σ a w -> wpList P ops (V2 cx Q) l a w
theorem lM.sub (h : Nx cx σ σ') (k : lM P cx ops Q l σ') : lM P cx ops Q l σ := fun a w ha => k a w (h a w ha)
theorem lM.fin (h : Q .normal σ) : lM P cx ops Q [] σ := fun a w ha => ⟨σ, h, ha⟩
variable {S : nL P cx} {nb nb' : Nat}
end
section
variable {P : Program} {f : FuncId} {args : List DV}
theorem Fn.plain {v : Value} {R : DV -> List LB -> Prop} {vs : List Value} {w : World} (h : Fn P f 0 args [] R) (hR : ∀ r b, R r b -> r = .val v) (ρ : Nat -> Value) (I : Nat -> Prop) (hI : ∀ b, I b -> b < w.heap.size) (hr : Cn ρ I w args vs) : Calls P f vs.toArray w fun e w' => e = .returned v /\ Wb w w' := by
 refine (h.2.2 ρ I w vs (fun b hb => ⟨hI b hb, fun k hk => by simp at hk⟩) hr (fun k lb h => by simp at h) (fun k k' b hk => by simp at hk)).mono ?_
 rintro e w' ⟨u, r, b, rfl, h1, h2⟩
 obtain ⟨-, ⟨o1, o2, o3, o4⟩, hk, ⟨ρ', J, -, -, hrep, -⟩, -⟩ := h2
 rw [hR r b h1] at hrep
 unfold Dk at hrep
 rw [hrep.1]
 exact ⟨rfl, o1, o2, o3, o4, fun b hb => hk b hb fun k hk => by simp at hk⟩
end
end Go.Proofs.YtkpcbnnlefcebaaGreat
namespace Go.Proofs.YtkpcbnnlefcebaaGreat
open Go.RowKit
def yS (Q : Exit -> St -> Prop) : Exit -> St -> Prop
 | .normal, σ => Q .normal σ
 | .exit i, σ => Q (.exit i) σ
 | .goto _, _ => False
 | .ret, σ => Q .ret σ
 | .panic c, σ => Q (.panic c) σ
 | .outgrown, σ => Q .outgrown σ
def Av {α : Type} (f : α -> List C) (l : List α) : List C := l.flatMap f
def eI (x : Int) : List C := [.int .i64 x]
def eK (k : IntKind) (x : Int) : List C := [.int k x]
def e8 (x : UInt8) : List C := [.int .u8 (x.toNat : Int)]
def eS (x : ByteArray) : List C := [.str x]
def eB (x : Bool) : List C := [.bool x]
def eL {α : Type} (sz : Nat) (f : α -> List C) (l : List α) : List C := [.sl sz (Av f l)]
theorem Hu (x : Int) : (eI x).length = 1 := rfl
theorem sG (k : IntKind) (x : Int) : (eK k x).length = 1 := rfl
theorem I7 (x : UInt8) : (e8 x).length = 1 := rfl
theorem Nt (x : ByteArray) : (eS x).length = 1 := rfl
theorem qV (x : Bool) : (eB x).length = 1 := rfl
theorem jU {α : Type} (sz : Nat) (f : α -> List C) (l : List α) : (eL sz f l).length = 1 := rfl
section
variable {α : Type} {f : α -> List C} {sz : Nat}
theorem Hm (hf : ∀ x, (f x).length = sz) : ∀ (l : List α), (Av f l).length = l.length * sz
 | [] => by simp [Av]
 | x :: l => by
  have := Hm hf l
  unfold Av at this ⊢
  rw [List.flatMap_cons, List.length_append, hf, this, List.length_cons, Nat.add_mul, Nat.one_mul, Nat.add_comm]
theorem Ko (l m : List α) : Av f (l ++ m) = Av f l ++ Av f m := by unfold Av; rw [List.flatMap_append]
theorem Pe {l : List α} {j : Nat} {x : α} (hx : l[j]? = some x) : Av f l = Av f (l.take j) ++ (f x ++ Av f (l.drop (j + 1))) := by
 have hj := (List.getElem?_eq_some_iff.1 hx).1
 have hxe := (List.getElem?_eq_some_iff.1 hx).2
 have e1 : l = l.take j ++ (x :: l.drop (j + 1)) := by
  rw [<- hxe, List.getElem_cons_drop, List.take_append_drop]
 rw [show Av f l = Av f (l.take j ++ (x :: l.drop (j + 1))) from congrArg _ e1, Ko]
 rfl
theorem M2 (hf : ∀ x, (f x).length = sz) {l : List α} {j : Nat} (hj : j <= l.length) : (Av f (l.take j)).length = j * sz := by
 rw [Hm hf, List.length_take, Nat.min_eq_left hj]
theorem Zj (hf : ∀ x, (f x).length = sz) {l : List α} {j : Nat} {x : α} (hx : l[j]? = some x) : j * sz + sz <= (Av f l).length := by
 have hj := (List.getElem?_eq_some_iff.1 hx).1
 rw [Hm hf]
 have : (j + 1) * sz <= l.length * sz := Nat.mul_le_mul_right _ hj
 rw [Nat.add_mul, Nat.one_mul] at this
 exact this
theorem Nu (hf : ∀ x, (f x).length = sz) {l : List α} {j o : Nat} {x : α} (hx : l[j]? = some x) (ho : o < sz) {a : Nat} (ha : a = j * sz + o) : a < (Av f l).length := by
 have := Zj hf hx
 omega
theorem Xi (hf : ∀ x, (f x).length = sz) {l : List α} {j o : Nat} {x : α} (hx : l[j]? = some x) (ho : o <= sz) : (Av f l).drop (j * sz + o) = (f x).drop o ++ Av f (l.drop (j + 1)) := by
 have hj := (List.getElem?_eq_some_iff.1 hx).1
 have ht := M2 hf (l := l) (j := j) (by omega)
 rw [Pe hx, <- ht, <- List.drop_drop, List.drop_left, List.drop_append_of_le_length (by rw [hf]; exact ho)]
theorem Do (hf : ∀ x, (f x).length = sz) {l : List α} {j o : Nat} {x : α} {c : C} (hx : l[j]? = some x) (hc : (f x)[o]? = some c) {a : Nat} (ha : a = j * sz + o) : (Av f l)[a]? = some c := by
 subst ha
 have ho : o < sz := by rw [<- hf x]; exact (List.getElem?_eq_some_iff.1 hc).1
 have e1 := Xi hf hx (Nat.le_of_lt ho)
 have e2 : (Av f l)[j * sz + o]? = ((Av f l).drop (j * sz + o))[0]? := by rw [List.getElem?_drop]; rfl
 rw [e2, e1, List.getElem?_append_left (by rw [List.length_drop, hf]; omega), List.getElem?_drop]
 exact hc
theorem Bh (hf : ∀ x, (f x).length = sz) {l : List α} {j o m : Nat} {x : α} {cs : List C} (hx : l[j]? = some x) (hs : ((f x).drop o).take m = cs) (ho : o + m <= sz) {a : Nat} (ha : a = j * sz + o) : ((Av f l).drop a).take m = cs := by
 subst ha
 rw [Xi hf hx (by omega), List.take_append_of_le_length (by rw [List.length_drop, hf]; omega)]
 exact hs
theorem Ax (hf : ∀ x, (f x).length = sz) {l : List α} {j o m : Nat} {x : α} (hx : l[j]? = some x) (ho : o + m <= sz) {a : Nat} (ha : a = j * sz + o) : a + m <= (Av f l).length := by
 have := Zj hf hx
 omega
theorem Dm (hf : ∀ x, (f x).length = sz) {l : List α} {j o : Nat} {x x' : α} {cs : List C} (hx : l[j]? = some x) (ho : o + cs.length <= sz) (hs : D5 (f x) o cs = f x') {a : Nat} (ha : a = j * sz + o) : D5 (Av f l) a cs = Av f (De l j x') := by
 subst ha
 have hj := (List.getElem?_eq_some_iff.1 hx).1
 have ht := M2 hf (l := l) (j := j) (by omega)
 have hset : Av f (De l j x') = Av f (l.take j) ++ (f x' ++ Av f (l.drop (j + 1))) := by
  have : (De l j x')[j]? = some x' := by unfold De; rw [List.getElem?_set_self hj]
  rw [Pe this]
  unfold De
  rw [List.take_set_of_le (Nat.le_refl _), List.drop_set_of_lt (by omega)]
 rw [hset, <- hs]
 unfold D5
 have e1 : (Av f l).take (j * sz + o) = Av f (l.take j) ++ (f x).take o := by
  rw [Pe hx, List.take_append, ht, Nat.add_sub_cancel_left, List.take_of_length_le (by rw [ht]; omega)]
  congr 1
  rw [List.take_append_of_le_length (by rw [hf]; omega)]
 have e2 : (Av f l).drop (j * sz + o + cs.length) = (f x).drop (o + cs.length) ++ Av f (l.drop (j + 1)) := by
  rw [Nat.add_assoc, Xi hf hx ho]
 rw [e1, e2]
 simp only [List.append_assoc]
theorem eH (hf : ∀ x, (f x).length = sz) (l : List α) (i j : Nat) (hij : i <= j) (hj : j <= l.length) : ((Av f l).drop (i * sz)).take ((j - i) * sz) = Av f ((l.drop i).take (j - i)) := by
 have e0 : Av f l = Av f (l.take i) ++ Av f (l.drop i) := by rw [<- Ko, List.take_append_drop]
 have e1 : Av f (l.drop i) = Av f ((l.drop i).take (j - i)) ++ Av f ((l.drop i).drop (j - i)) := by rw [<- Ko, List.take_append_drop]
 rw [e0]
 have ht := M2 hf (l := l) (j := i) (by omega)
 have hd : ((Av f (l.take i)) ++ Av f (l.drop i)).drop (i * sz) = Av f (l.drop i) := by rw [<- ht, List.drop_left]
 rw [hd, e1]
 have ht2 := M2 hf (l := l.drop i) (j := j - i) (by rw [List.length_drop]; omega)
 rw [<- ht2, List.take_left]
end
theorem wZ (l : List UInt8) : Av e8 l = Ik l := by
 induction l with
 | nil => rfl
 | cons x l ih =>
  show e8 x ++ Av e8 l = _
  rw [ih]
  rfl
section
variable {P : Program} {tk : Nat} {t ty yt : TypeId} {X Y : Operand} {b1 b2 : Option LB} {k : IntKind} {x y : Int}
theorem wW : F3 P tk (.binOp .lss t X Y yt) ty [(.val (.int k x), b1), (.val (.int k y), b2)] [] (v0 (.val (.bool (decide (x < y))))) := .binOp (fun _ _ => rfl) pR
theorem vP : F3 P tk (.binOp .leq t X Y yt) ty [(.val (.int k x), b1), (.val (.int k y), b2)] [] (v0 (.val (.bool (decide (x <= y))))) := .binOp (fun _ _ => rfl) rD
theorem vC : F3 P tk (.binOp .gtr t X Y yt) ty [(.val (.int k x), b1), (.val (.int k y), b2)] [] (v0 (.val (.bool (decide (y < x))))) := .binOp (fun _ _ => rfl) sO
theorem wA : F3 P tk (.binOp .geq t X Y yt) ty [(.val (.int k x), b1), (.val (.int k y), b2)] [] (v0 (.val (.bool (decide (y <= x))))) := .binOp (fun _ _ => rfl) rV
theorem vJ : F3 P tk (.binOp .eql t X Y yt) ty [(.val (.int k x), b1), (.val (.int k y), b2)] [] (v0 (.val (.bool (decide (x = y))))) := .binOp (fun _ _ => rfl) uI
theorem wM : F3 P tk (.binOp .neq t X Y yt) ty [(.val (.int k x), b1), (.val (.int k y), b2)] [] (v0 (.val (.bool (!decide (x = y))))) := .binOp (fun _ _ => rfl) (fun w => by rw [tM w, decide_not])
theorem Yj (x : Int) : IntKind.i64.wrap x = W x := by rw [IntKind.wrap_i64]; unfold W; omega
theorem vK (x : Int) : Fa (.int .i64 (W x)) = true := H2.2 (Ov (mM x))
theorem vW (x : Int) : IntKind.u8.wrap x = ((u8 x).toNat : Int) := by rw [IntKind.wrap_u8, jS]
theorem zN (x : UInt8) : Fa (.int .u8 (x.toNat : Int)) = true := H2.2 (bQ ⟨by omega, by have := x.toNat_lt; omega⟩)
theorem xA : F3 P tk (.binOp .add t X Y yt) ty [(.val (.int .i64 x), b1), (.val (.int .i64 y), b2)] [] (v0 (.val (.int .i64 (W (x + y))))) := .binOp (fun _ _ => vK _) (fun w => by rw [mV w, Yj])
theorem wS : F3 P tk (.binOp .sub t X Y yt) ty [(.val (.int .i64 x), b1), (.val (.int .i64 y), b2)] [] (v0 (.val (.int .i64 (W (x - y))))) := .binOp (fun _ _ => vK _) (fun w => by rw [eN w, Yj])
theorem uL : F3 P tk (.binOp .mul t X Y yt) ty [(.val (.int .i64 x), b1), (.val (.int .i64 y), b2)] [] (v0 (.val (.int .i64 (W (x * y))))) := .binOp (fun _ _ => vK _) (fun w => by rw [eU w, Yj])
theorem kJ (x y : Int) : (x.tmod y).natAbs <= x.natAbs := by
 rw [Int.natAbs_tmod]
 exact Nat.mod_le _ _
theorem cT {x y : Int} (h : -9223372036854775808 <= x /\ x <= 9223372036854775807) : -9223372036854775808 <= x.tmod y /\ x.tmod y <= 9223372036854775807 := by
 have h0 := kJ x y
 rcases Int.le_total 0 x with hx | hx
 ·have h1 := Int.tmod_nonneg y hx
  omega
 ·have e : x.tmod y = -((-x).tmod y) := by rw [Int.neg_tmod]; omega
  have h1 := Int.tmod_nonneg y (show 0 <= -x by omega)
  omega
theorem nH {n : Int} (h : Fa (.int .i64 n) = true) : -9223372036854775808 <= n /\ n <= 9223372036854775807 := by
 have := H2.1 h
 have h1 : IntKind.i64.min = -9223372036854775808 := by decide
 have h2 : IntKind.i64.max = 9223372036854775807 := by decide
 rw [h1, h2] at this
 exact this
theorem aW {z : Int} (h : V6 x y = some z) : F3 P tk (.binOp .rem t X Y yt) ty [(.val (.int .i64 x), b1), (.val (.int .i64 y), b2)] [] (v0 (.val (.int .i64 z))) := by
 obtain ⟨hy, rfl⟩ := gP h
 exact .binOp (fun h _ => H2.2 (Ov (cT (nH h)))) (qE hy)
theorem Rc {z : Int} (h : Mb x y = some z) : F3 P tk (.binOp .quo t X Y yt) ty [(.val (.int .i64 x), b1), (.val (.int .i64 y), b2)] [] (v0 (.val (.int .i64 z))) := by
 obtain ⟨hy, rfl⟩ := iD h
 exact .binOp (fun _ _ => vK _) (fun w => by rw [rI hy w, Yj])
theorem uQ {b : Bool} : F3 P tk (.unOp .not t X) ty [(.val (.bool b), b1)] [] (v0 (.val (.bool (!b)))) := .unOp (fun _ => rfl) tD
theorem qB {a b : Bool} (ht : P.underlying t = some .bool) : F3 P tk (.binOp .neq t X Y yt) ty [(.val (.bool a), b1), (.val (.bool b), b2)] [] (v0 (.val (.bool (!decide (a = b))))) := .binOp (fun _ _ => rfl) (fun w => by cases a <;> cases b <;> simp [eqGuard, binOp, Op.equal, Op.maxDepth, run_equalIn_bool', ht])
theorem sB {a b : ByteArray} : F3 P tk (.binOp .eql t X Y yt) ty [(.val (.string a), b1), (.val (.string b), b2)] [] (v0 (.val (.bool (decide (a = b))))) := .binOp (fun _ _ => rfl) mL
theorem pW {a b : ByteArray} : F3 P tk (.binOp .neq t X Y yt) ty [(.val (.string a), b1), (.val (.string b), b2)] [] (v0 (.val (.bool (!decide (a = b))))) := .binOp (fun _ _ => rfl) (fun w => by rw [oC w, decide_not])
theorem jN : ∀ (a b : List UInt8), Op.bytesLess a b = gH a b
 | _, [] => by cases ‹List UInt8› <;> rfl
 | [], _ :: _ => rfl
 | a :: x, b :: y => by unfold Op.bytesLess gH; rw [jN x y]
theorem Lw {src dst : TypeId} (hs : P.underlying src = some (.int k)) (hd : P.underlying dst = some (.int .u8)) : F3 P tk (.convert src dst X) ty [(.val (.int k x), b1)] [] (v0 (.val (.int .u8 ((u8 x).toNat : Int)))) :=
 .conv (by unfold fB; rw [hs]) (by unfold fB; rw [hd]) (fun _ => zN _) (fun w => by rw [Zm (by rw [hs]; rfl) hd w, vW])
theorem Xe {src dst : TypeId} (hs : P.underlying src = some (.int k)) (hd : P.underlying dst = some (.int .i64)) : F3 P tk (.convert src dst X) ty [(.val (.int k x), b1)] [] (v0 (.val (.int .i64 (W x)))) :=
 .conv (by unfold fB; rw [hs]) (by unfold fB; rw [hd]) (fun _ => vK _) (fun w => by rw [Zm (by rw [hs]; rfl) hd w, Yj])
theorem gC {src dst : TypeId} {u : UInt8} (hs : P.underlying src = some (.int .u8)) (hd : P.underlying dst = some (.int .i64)) : F3 P tk (.convert src dst X) ty [(.val (.int .u8 (u.toNat : Int)), b1)] [] (v0 (.val (.int .i64 (u.toNat : Int)))) :=
 .conv (by unfold fB; rw [hs]) (by unfold fB; rw [hd]) (fun _ => H2.2 (Ov ⟨by omega, by have := u.toNat_lt; omega⟩)) (fun w => by
  have := u.toNat_lt
  rw [Zm (by rw [hs]; rfl) hd w, Yj, Es (by omega)])
theorem sW {ts : Array TypeId} : ∀ w, ∀ cs, (builtin .max ts ty cs #[.int k x, .int k y]).run P w = .ok (.value (.int k (max x y))) w := fun w cs => by
 simp [builtin, Builtin.max_, Builtin.max2, go_sem]
 split <;> omega
theorem wO {ts : Array TypeId} : F3 P tk (.call ⟨.builtin .max, #[X, Y], ts⟩) ty [(.val (.int k x), b1), (.val (.int k y), b2)] [] (v0 (.val (.int k (max x y)))) :=
 .callV2 (vx := .int k x) (vy := .int k y) (v := .int k (max x y)) (by decide) (fun h h' => by
  rcases Int.le_total x y with hxy | hxy
  ·rw [Int.max_eq_right hxy]; exact h'
  ·rw [Int.max_eq_left hxy]; exact h) sW
theorem mN {Z : Operand} {c : Bool} {d1 d2 : DV} {b3 : Option LB} (h : c = true) : F3 P tk (.pick X Y Z) ty [(.val (.bool c), b1), (d1, b2), (d2, b3)] [] (v0 d1) := by subst h; exact .pick
theorem mJ {Z : Operand} {c : Bool} {d1 d2 : DV} {b3 : Option LB} (h : c = false) : F3 P tk (.pick X Y Z) ty [(.val (.bool c), b1), (d1, b2), (d2, b3)] [] (v0 d2) := by subst h; exact .pick
theorem Sx {s : ByteArray} (h : P.underlying t = some .string) : F3 P tk (.call ⟨.builtin .len, #[X], #[t]⟩) ty [(.val (.string s), b1)] [] (v0 (.val (.int .i64 (s.size : Int)))) :=
 .callV1 (fun h => H2.2 (Ov ⟨by omega, by have := O4.1 h; unfold maxLen at this; omega⟩)) (oN h)
end
section
variable {P : Program} {tk : Nat} {t ty e sz bytes : Nat} {X Y : Operand} {b1 b2 : Option LB} {α : Type} {f : α -> List C} {l : List α} {n : Int} {k : IntKind} {j kr e' : Nat} {x : α}
theorem tK (h : Hr P t e sz bytes) (hf : ∀ x, (f x).length = sz) : F3 P tk (.call ⟨.builtin .len, #[X], #[t]⟩) ty [(.sl sz (Av f l), b1)] [] (v0 (.val (.int .i64 (l.length : Int)))) := .len h.elem (.sl h.hsz (Hm hf l))
theorem rU (h : Hr P t e sz bytes) (hf : ∀ x, (f x).length = sz) : F3 P tk (.call ⟨.builtin .len, #[X], #[t]⟩) ty [(.row kr, some (.row e' sz (Av f l)))] [] (v0 (.val (.int .i64 (l.length : Int)))) := .len h.elem (.row h.hsz (Hm hf l))
theorem sS (h : Hr P t e sz bytes) (hf : ∀ x, (f x).length = sz) (hj : n = (j : Int)) (hx : l[j]? = some x) : F3 P tk (.indexAddr t X Y) ty [(.sl sz (Av f l), b1), (.val (.int k n), b2)] [] (v0 (.elt ((Av f l).drop (j * sz)))) := .idxS h hj (Zj hf hx)
theorem sP (h : Hr P t e sz bytes) (hf : ∀ x, (f x).length = sz) (hj : n = (j : Int)) (hx : l[j]? = some x) : F3 P tk (.indexAddr t X Y) ty [(.row kr, some (.row e' sz (Av f l))), (.val (.int k n), b2)] [] (v0 (.ptr kr (j * sz))) := .idxR h hj (Zj hf hx)
theorem Zx {a m : Nat} {b1 : Option LB} (h : Hr P t e sz bytes) (hj : n = (j : Int)) (hx : ((l.drop a).take m)[j]? = some x) : F3 P tk (.indexAddr t X Y) ty [(.part kr (a * sz) m, b1), (.val (.int k n), b2)] [] (v0 (.ptr kr ((a + j) * sz))) := by
 have hl := (List.getElem?_eq_some_iff.1 hx).1
 rw [List.length_take] at hl
 rw [Nat.add_mul]
 exact .idxP h hj (by omega)
theorem Pv {a m : Nat} (hx : ((l.drop a).take m)[j]? = some x) : l[a + j]? = some x := by
 rw [List.getElem?_take] at hx
 split at hx
 ·rwa [List.getElem?_drop] at hx
 ·cases hx
theorem Ig {s g off ft sz' : Nat} {ag : Bool} {cs : List C} {a : Nat} (h : Fd P s g off ft) (ht : Ty P ft ag sz') (hz : 0 < sz') (hl : a + off < cs.length) : F3 P tk (.fieldAddr s X g) ty [(.elt (cs.drop a), b1)] [] (v0 (.elt (cs.drop (a + off)))) := by
 have := F3.fieldE (P := P) (tk := tk) (x := X) (ty := ty) (b := b1) h ht hz (cs := cs.drop a) (by rw [List.length_drop]; omega)
 rwa [List.drop_drop] at this
theorem Cz {sz' a : Nat} {cs : List C} {c : C} (ht : Ty P t false sz') (h : cs[a]? = some c) : F3 P tk (.load t X) ty [(.elt (cs.drop a), b1)] [] (v0 (Wf c)) := .loadE1 ht (by rw [List.getElem?_drop]; exact h)
theorem D4 {m a : Nat} {cs cs2 : List C} (ht : Ty P t true m) (h : (cs.drop a).take m = cs2) (hl : a + m <= cs.length) : F3 P tk (.load t X) ty [(.elt (cs.drop a), b1)] [] (v0 (.agg (cs2.map Wf))) := by
 subst h
 exact .loadEA ht (by rw [List.length_drop]; omega)
theorem Ci {m a s : Nat} {cs cs2 : List C} (ht : Ty P t true m) (h : (cs.drop a).take m = cs2) (hl : a + m <= cs.length) : F3 P tk (.load t X) ty [(.ptr kr a, some (.row e' s cs))] [] (v0 (.agg (cs2.map Wf))) := by
 subst h
 exact .loadRA ht hl
theorem D9 {i s : Nat} {cs cs' cs2 : List C} {ag : Bool} {d : DV} {sz' : Nat} {ck : List (Option Nat)} (ht : Ty P t ag sz') (hs : (D0 d).length = sz') (hi : i + sz' <= cs.length) (hk : Jc P 20 t = ck) (hd : Lb ck (D0 d) cs') (h : D5 cs i cs' = cs2) : F3 P tk (.store t X Y) ty [(.ptr kr i, some (.row e' s cs)), (d, b2)] [kr] (iF kr (.row e' s cs2)) := by
 subst h
 exact .storeR ht hs hi hk hd
theorem E3 {d d' : DV × Option LB} {l' l2 : List α} {ks : List Nat} {kk : Nat} {cs cs' : List C} (hS : Hr P t e sz bytes) (hf : ∀ x, (f x).length = sz) (ht : oJ d e sz cs ks) (hc : cs = Av f l) (hs : aC d' sz cs') (hc' : cs' = Av f l') (h : Hz kk l l' = some l2) (hk : sz * bytes = kk) : F3 P tk (.call ⟨.builtin .append, #[X, Y], #[t, t]⟩) ty [d, d'] ks (Mm tk (.row e sz (Av f l2)) ks (.row tk)) := by
 subst hc hc'
 obtain ⟨h1, rfl⟩ := fY h
 rw [Ko]
 refine .append hS ht hs ?_
 rw [Hm hf, Hm hf, <- Nat.add_mul, Nat.mul_assoc, hk]
 exact h1
section
variable {lo hi : Operand} {a b : Int} {ka kb : IntKind} {b3 : Option LB} {m : List α}
theorem gU (hS : Hr P t e sz bytes) (hf : ∀ x, (f x).length = sz) (h : dF l 0 b = some m) : F3 P tk (.slice t X none (some hi) none) ty [(.sl sz (Av f l), b1), (.val (.int kb b), b2)] [] (v0 (.sl sz (Av f m))) := by
 obtain ⟨i, j, hi', rfl, h1, h2, rfl⟩ := Xk h
 have : i = 0 := by omega
 subst this
 rw [<- eH hf l 0 j h1 h2]
 exact .sliS hS (Hm hf l) ⟨⟨_, _, _, rfl, rfl⟩, rfl⟩ ⟨h1, h2⟩
end
theorem Z4 {src dst : TypeId} {s : ByteArray} (hs : P.underlying src = some .string) (hd : P.underlying dst = some (.slice e)) (he : P.underlying e = some (.int .u8)) : F3 P tk (.convert src dst X) ty [(.val (.string s), b1)] [] (v0 (.sl 1 (Av e8 (Ny s)))) := by
 have := F3.convB (P := P) (tk := tk) (x := X) (ty := ty) (b := b1) (s := s) hs hd he
 rw [<- wZ] at this
 exact this
end
theorem Cv.frzE {σ : St} {θ : Nat -> Option Nat} {j e sz : Nat} {cs : List C} (h : σ.L j = some (.row e sz cs)) (h' : (match σ.L j with | some _ => true | none => false) = true) (hn : ∀ k, θ k ≠ some j) : Cv σ θ (.row j) (.sl sz cs) := .frz h hn
end Go.Proofs.YtkpcbnnlefcebaaGreat
namespace Go.Proofs.YtkpcbnnlefcebaaGreat
open Go.RowKit
mutual
theorem fE (f : Nat -> Nat) : ∀ d, Iq d = [] -> Ku f d = d
 | .row _, h => by simp [Iq] at h
 | .part _ _ _, h => by simp [Iq] at h
 | .ptr _ _, h => by simp [Iq] at h
 | .val _, _ => rfl
 | .sl _ _, _ => rfl
 | .slc _ _, _ => rfl
 | .mp _, _ => rfl
 | .elt _, _ => rfl
 | .agg ds, h => by unfold Iq at h; unfold Ku; rw [Pd f ds h]
 | .tup ds, h => by unfold Iq at h; unfold Ku; rw [Pd f ds h]
 | .clo _ _ ds, h => by unfold Iq at h; unfold Ku; rw [Pd f ds h]
theorem Pd (f : Nat -> Nat) : ∀ ds, L7 ds = [] -> Ml f ds = ds
 | [], _ => rfl
 | d :: ds, h => by
  unfold L7 at h
  have h1 := List.append_eq_nil_iff.1 h
  unfold Ml
  rw [fE f d h1.1, Pd f ds h1.2]
end
def W4 : LB -> List Nat
 | .box ds _ => L7 ds
 | .row .. => []
 | .map _ => []
 | .mit k _ _ => [k]
 | .vec ds _ => L7 ds
theorem nW (f : Nat -> Nat) {lb : LB} (h : W4 lb = []) : gZ f lb = lb := by
 cases lb with
 | box ds ty =>
  show LB.box (Ml f ds) ty = _
  rw [Pd f ds h]
 | row => rfl
 | map => rfl
 | mit => cases h
 | vec ds e =>
  show LB.vec (Ml f ds) e = _
  rw [Pd f ds h]
def cJ (ps gs : List Nat) (r : DV) (bx : List LB) : L2 := ⟨some r, fun k => match F4 (ps.zip bx) k with | some lb => some (some lb) | none => bif gs.any (Nat.beq k) then some none else none⟩
theorem aJ {ps : List Nat} {tk : Nat} : ∀ {l : List Nat} {b : List LB} {i : Nat}, (∀ j, l[j]? = ps[i + j]?) -> b.length = l.length -> (∀ lb ∈ b, W4 lb = []) -> S5 ps tk i b = l.zip b
 | [], [], _, _, _, _ => rfl
 | x :: l, lb :: b, i, hl, hb, ht => by
  unfold S5
  have h0 := hl 0
  simp only [Nat.add_zero] at h0
  have e1 : Hw ps tk i = x := by
   unfold Hw
   rw [<- h0]
   rfl
  rw [e1, nW _ (ht lb (List.mem_cons_self ..)), aJ (l := l) (fun j => by have := hl (j + 1); rw [show i + 1 + j = i + (j + 1) by omega, <- this]; rfl) (by simpa using hb) fun lb h => ht lb (List.mem_cons_of_mem _ h)]
  rfl
 | [], _ :: _, _, _, h, _ => by simp at h
 | _ :: _, [], _, _, h, _ => by simp at h
theorem Zz {ps gs : List Nat} {tk : Nat} {r : DV} {b : List LB} (hr : Iq r = []) (hl : b.length = ps.length) (hb : ∀ lb ∈ b, W4 lb = []) : Qu ps gs tk r b = cJ ps gs r b := by
 unfold Qu cJ
 rw [fE _ _ hr, aJ (l := ps) (fun j => by rw [Nat.zero_add]) hl hb]
 rfl
section
variable {P : Program} {cx : Cx} {ops : Array Oper} {Rt : Option (List Nat)} {nb i : Nat} {l : List Oper} {lg : gL} {σ : St} {Q : St -> Prop} {fz : List Nat}
theorem bY {dst : Option Tmp} {f : FuncId} {xs : Array Operand} {tys : Array TypeId} {ty : TypeId} {pos : String} {af : Array Edge} {g : Option (Nat × Bool)} {dsA : List (DV × Option LB)} {rd ps gs : List Nat} {args : List DV} {bx : List LB} {d : DV} {b : List LB} (fl : Bool)
  (hg : Kd ops σ ⟨dst, .call ⟨.value (.func f), xs, tys⟩, ty, pos, af, g⟩ = some true)
  (hF : Fn P f ps.length args bx (fun d' b' => d' = d /\ b' = b)) (hds : Fc σ true xs.toList = some dsA) (hrd : O2 σ 3 (Qm dsA) = rd) (hA : Q5 fl (ps ++ gs) (K3 σ rd) (dsA.map (·.1)) args) (hB : W7 fl (ps ++ gs) (K3 σ rd) (ps ++ gs) bx) (hnd : P4 cx.np ps gs = true) (hfl : fl = true -> Jw d /\ ∀ lb ∈ b, Qe lb)
  (hok : Lm Rt i true (nb + 8 * i) rd (ps ++ gs) lg = true) (hr : Iq d = []) (hl : b.length = ps.length) (hb : b.flatMap W4 = [])
  (k : Chain (Cd P cx fz) ops Rt nb (Fl (i + 1) l) ((i, true, nb + 8 * i, rd, ps ++ gs) :: lg) (σ.app dst (cJ ps gs d b)) Q) :
  Chain (Cd P cx fz) ops Rt nb (Fl i (⟨dst, .call ⟨.value (.func f), xs, tys⟩, ty, pos, af, g⟩ :: l)) lg σ Q := by
 refine Wj fl hg hF hds hrd hA hB hnd (fun h r b => ?_) hok (fun _ => ⟨_, _, ⟨rfl, rfl⟩, by omega, by omega⟩) fun r b => ?_
 ·rintro ⟨rfl, rfl⟩; exact hfl h
 ·rintro ⟨rfl, rfl⟩
  rw [Zz hr hl fun lb h => ?_]
  ·exact k
  ·have := List.flatMap_eq_nil_iff.1 hb lb h
   exact this
theorem Ry {dst : Option Tmp} {t : Tmp} {f : FuncId} {q : Option LB} {xs : Array Operand} {tys : Array TypeId} {ty : TypeId} {pos : String} {af : Array Edge} {g : Option (Nat × Bool)} {dsA : List (DV × Option LB)} {rd ps gs : List Nat} {args : List DV} {bx : List LB} {d : DV} {b : List LB} (fl : Bool)
  (hg : Kd ops σ ⟨dst, .call ⟨.value (.tmp t), xs, tys⟩, ty, pos, af, g⟩ = some true) (hc : ev σ true (.tmp t) = some (.val (.func (.func f) #[] #[]), q))
  (hF : Fn P f ps.length args bx (fun d' b' => d' = d /\ b' = b)) (hds : Fc σ true xs.toList = some dsA) (hrd : O2 σ 3 (Qm dsA) = rd) (hA : Q5 fl (ps ++ gs) (K3 σ rd) (dsA.map (·.1)) args) (hB : W7 fl (ps ++ gs) (K3 σ rd) (ps ++ gs) bx) (hnd : P4 cx.np ps gs = true) (hfl : fl = true -> Jw d /\ ∀ lb ∈ b, Qe lb)
  (hok : Lm Rt i true (nb + 8 * i) rd (ps ++ gs) lg = true) (hr : Iq d = []) (hl : b.length = ps.length) (hb : b.flatMap W4 = [])
  (k : Chain (Cd P cx fz) ops Rt nb (Fl (i + 1) l) ((i, true, nb + 8 * i, rd, ps ++ gs) :: lg) (σ.app dst (cJ ps gs d b)) Q) :
  Chain (Cd P cx fz) ops Rt nb (Fl i (⟨dst, .call ⟨.value (.tmp t), xs, tys⟩, ty, pos, af, g⟩ :: l)) lg σ Q := by
 refine kH fl hg hc hF hds hrd hA hB hnd (fun h r b => ?_) hok (fun _ => ⟨_, _, ⟨rfl, rfl⟩, by omega, by omega⟩) fun r b => ?_
 ·rintro ⟨rfl, rfl⟩; exact hfl h
 ·rintro ⟨rfl, rfl⟩
  rw [Zz hr hl fun lb h => ?_]
  ·exact k
  ·have := List.flatMap_eq_nil_iff.1 hb lb h
   exact this
theorem Fg {dst : Option Tmp} {t : Tmp} {f : FuncId} {n : Nat} {cs : List DV} {q : Option LB} {xs : Array Operand} {tys : Array TypeId} {ty : TypeId} {pos : String} {af : Array Edge} {g : Option (Nat × Bool)} {dsA : List (DV × Option LB)} {rd ps gs : List Nat} {args : List DV} {bx : List LB} {d : DV} {b : List LB} (fl : Bool)
  (hg : Kd ops σ ⟨dst, .call ⟨.value (.tmp t), xs, tys⟩, ty, pos, af, g⟩ = some true) (hc : ev σ true (.tmp t) = some (.clo f n cs, q))
  (hF : Fn P f ps.length args bx (fun d' b' => d' = d /\ b' = b)) (hds : Fc σ true xs.toList = some dsA) (hrd : O2 σ 3 (L7 cs ++ Qm dsA) = rd) (hA : Q5 fl (ps ++ gs) (K3 σ rd) (cs.take n ++ (dsA.map (·.1) ++ cs.drop n)) args) (hB : W7 fl (ps ++ gs) (K3 σ rd) (ps ++ gs) bx) (hnd : P4 cx.np ps gs = true) (hfl : fl = true -> Jw d /\ ∀ lb ∈ b, Qe lb)
  (hok : Lm Rt i true (nb + 8 * i) rd (ps ++ gs) lg = true) (hr : Iq d = []) (hl : b.length = ps.length) (hb : b.flatMap W4 = [])
  (k : Chain (Cd P cx fz) ops Rt nb (Fl (i + 1) l) ((i, true, nb + 8 * i, rd, ps ++ gs) :: lg) (σ.app dst (cJ ps gs d b)) Q) :
  Chain (Cd P cx fz) ops Rt nb (Fl i (⟨dst, .call ⟨.value (.tmp t), xs, tys⟩, ty, pos, af, g⟩ :: l)) lg σ Q := by
 refine lN fl hg hc hF hds hrd hA hB hnd (fun h r b => ?_) hok (fun _ => ⟨_, _, ⟨rfl, rfl⟩, by omega, by omega⟩) fun r b => ?_
 ·rintro ⟨rfl, rfl⟩; exact hfl h
 ·rintro ⟨rfl, rfl⟩
  rw [Zz hr hl fun lb h => ?_]
  ·exact k
  ·have := List.flatMap_eq_nil_iff.1 hb lb h
   exact this
end
section
variable {P : Program} {tk : Nat} {t ty yt : TypeId} {X Y : Operand} {b1 b2 : Option LB} {k k' : IntKind} {x y : Int}
theorem Rs (k : IntKind) (z : Int) : Fa (.int k (k.wrap z)) = true := by
 rw [H2]
 cases k <;> simp [IntKind.wrap, IntKind.bits, IntKind.signed, IntKind.min, IntKind.max] <;> (try split) <;> omega
theorem qX : F3 P tk (.binOp .sub t X Y yt) ty [(.val (.int k x), b1), (.val (.int k y), b2)] [] (v0 (.val (.int k (k.wrap (x - y))))) := .binOp (fun _ _ => Rs _ _) eN
theorem tJ : F3 P tk (.binOp .mul t X Y yt) ty [(.val (.int k x), b1), (.val (.int k y), b2)] [] (v0 (.val (.int k (k.wrap (x * y))))) := .binOp (fun _ _ => Rs _ _) eU
theorem uC : F3 P tk (.binOp .and t X Y yt) ty [(.val (.int k x), b1), (.val (.int k y), b2)] [] (v0 (.val (.int k (aM k x y)))) := .binOp (fun _ _ => Rs _ _) (fun w => by simp [eqGuard, binOp, Op.intBits, aM])
theorem Zp : F3 P tk (.binOp .xor t X Y yt) ty [(.val (.int k x), b1), (.val (.int k y), b2)] [] (v0 (.val (.int k (Qv k x y)))) := .binOp (fun _ _ => Rs _ _) (fun w => by simp [eqGuard, binOp, Op.intBits, Qv])
theorem oD (k : IntKind) : k.min <= 0 /\ 0 <= k.max := by cases k <;> decide
theorem aT {x d : Int} (hx : x <= 0) (hd : 0 < d) : x / d <= 0 := by
 rcases Int.lt_trichotomy (x / d) 0 with h | h | h
 ·omega
 ·omega
 ·exfalso
  have h1 := Int.mul_ediv_add_emod x d
  have h2 := Int.emod_nonneg x (show d ≠ 0 by omega)
  have h3 : d * 1 <= d * (x / d) := Int.mul_le_mul_of_nonneg_left (by omega) (by omega)
  omega
theorem U2 {z : Int} (h : Sk k x y = some z) : F3 P tk (.binOp .shr t X Y yt) ty [(.val (.int k x), b1), (.val (.int k' y), b2)] [] (v0 (.val (.int k z))) := by
 obtain ⟨h0, rfl⟩ := gA h
 refine .binOp (fun hx _ => ?_) (fun w => by simp [eqGuard, binOp, Op.shift, h0])
 rw [H2] at hx ⊢
 have hm := oD k
 have hd : (0 : Int) < 2 ^ min y.toNat k.bits := Int.pow_pos (by omega)
 generalize (2 : Int) ^ min y.toNat k.bits = d at hd
 rw [Int.fdiv_eq_ediv_of_nonneg _ (Int.le_of_lt hd)]
 rcases Int.le_total 0 x with hx0 | hx0
 ·have h1 := Int.ediv_nonneg hx0 (Int.le_of_lt hd)
  have h2 := Int.ediv_le_self d hx0
  omega
 ·have h1 : x <= x / d := by
   have := Int.mul_ediv_add_emod x d
   have h3 := Int.emod_nonneg x (show d ≠ 0 by omega)
   have h4 : x / d <= 0 := aT hx0 hd
   have h5 : d * (x / d) <= 1 * (x / d) := Int.mul_le_mul_of_nonpos_right (by omega) h4
   have h6 := Int.emod_lt_of_pos x hd
   by_cases h7 : x / d = 0
   ·omega
   ·have h8 : x / d <= -1 := by omega
    have h9 : (d - 1) * (x / d) <= (d - 1) * (-1) := Int.mul_le_mul_of_nonneg_left h8 (by omega)
    have h10 : d * (x / d) = (d - 1) * (x / d) + x / d := by rw [Int.sub_mul, Int.one_mul]; omega
    omega
  have h2 : x / d <= 0 := aT hx0 hd
  omega
theorem cG {z : Int} (h : X3 k x y = some z) : F3 P tk (.binOp .shl t X Y yt) ty [(.val (.int k x), b1), (.val (.int k' y), b2)] [] (v0 (.val (.int k z))) := by
 obtain ⟨h0, rfl⟩ := gG h
 exact .binOp (fun _ _ => Rs _ _) (fun w => by simp [eqGuard, binOp, Op.shift, h0])
theorem Wi {src dst : TypeId} (hs : P.underlying src = some (.int k)) (hd : P.underlying dst = some (.int k')) : F3 P tk (.convert src dst X) ty [(.val (.int k x), b1)] [] (v0 (.val (.int k' (k'.wrap x)))) :=
 .conv (by unfold fB; rw [hs]) (by unfold fB; rw [hd]) (fun _ => Rs _ _) (Zm (by rw [hs]; rfl) hd)
theorem cI {s : ByteArray} {u : UInt8} (ht : P.underlying t = some .string) (h : bD s x = some u) : F3 P tk (.index t X Y) ty [(.val (.string s), b1), (.val (.int k x), b2)] [] (v0 (.val (.int .u8 (u.toNat : Int)))) := by
 unfold bD at h
 split at h
 ·cases h
 ·rename_i h0
  have h1 : 0 <= x := by omega
  have hlt := (Array.getElem?_eq_some_iff.1 h).1
  have hs : s[x.toNat]? = some u := by
   have hlt' : x.toNat < s.size := hlt
   rw [getElem?_pos s x.toNat hlt']
   have := (Array.getElem?_eq_some_iff.1 h).2
   exact congrArg some this
  exact .indexS (fun _ _ => zN _) (fun w => by simp [Instr.index, asIntOf, run_underlying ht, h1, hs])
theorem dP {a b : ByteArray} : F3 P tk (.binOp .geq t X Y yt) ty [(.val (.string a), b1), (.val (.string b), b2)] [] (v0 (.val (.bool (!gH (Ny a) (Ny b))))) := .binOp (fun _ _ => rfl) (fun w => by
 simp [eqGuard, binOp, Op.stringOp, jN, ByteArray.toList_eq, Ny])
end
section
variable {α : Type} {f : α -> List C} {sz : Nat}
end
section
variable {P : Program} {tk : Nat} {t ty e sz bytes : Nat} {X Y : Operand} {b1 b2 b3 : Option LB} {α : Type} {f : α -> List C} {l m : List α} {n : Int} {k ka kb : IntKind} {j kr e' : Nat} {x : α} {lo hi : Operand} {a b : Int}
theorem Yl (hS : Hr P t e sz bytes) (hf : ∀ x, (f x).length = sz) (h : dF l a (l.length : Int) = some m) : F3 P tk (.slice t X (some lo) none none) ty [(.row kr, some (.row e' sz (Av f l))), (.val (.int ka a), b2)] [] (v0 (.part kr (a.toNat * sz) ((l.length : Int).toNat - a.toNat))) := by
 obtain ⟨i, j, rfl, hj, h1, h2, rfl⟩ := Xk h
 have : j = l.length := by omega
 subst this
 exact .sliR hS (Hm hf l) ⟨⟨_, _, _, rfl, rfl⟩, rfl⟩ ⟨h1, h2⟩
theorem Up (hS : Hr P t e sz bytes) (hf : ∀ x, (f x).length = sz) (h : dF l 0 b = some m) : F3 P tk (.slice t X none (some hi) none) ty [(.row kr, some (.row e' sz (Av f l))), (.val (.int kb b), b3)] [] (v0 (.part kr ((0 : Int).toNat * sz) (b.toNat - (0 : Int).toNat))) := by
 obtain ⟨i, j, hi', rfl, h1, h2, rfl⟩ := Xk h
 have : i = 0 := by omega
 subst this
 have e0 : (0 : Int).toNat * sz = 0 * sz := rfl
 exact .sliR hS (Hm hf l) ⟨⟨_, _, _, rfl, rfl⟩, rfl⟩ ⟨h1, h2⟩
theorem Ws {sz : Nat} : ∀ (ds : List DV) (k : Nat) (pre rest : List DV), pre.length = k * sz -> rest.length = ds.length * sz -> (∀ d ∈ ds, (D0 d).length = sz) -> H4 (fun i => some (i * sz, sz)) (pre ++ rest) ((List.range' k ds.length).zip ds) = some (pre ++ ds.flatMap D0)
 | [], k, pre, rest, _, hr, _ => by
  have : rest = [] := List.eq_nil_of_length_eq_zero (by simpa using hr)
  subst this
  simp [H4]
 | d :: ds, k, pre, rest, hp, hr, hd => by
  have h0 := hd d (List.mem_cons_self ..)
  have hr' : rest.length = ds.length * sz + sz := by rw [hr, List.length_cons, Nat.add_mul, Nat.one_mul]
  rw [List.length_cons, List.range'_succ, List.zip_cons_cons]
  unfold H4
  simp only []
  have c1 : Nat.beq (D0 d).length sz = true := by rw [h0]; exact Nat.beq_refl _
  have c2 : Nat.ble (k * sz + sz) (pre ++ rest).length = true := Nat.ble_eq_true_of_le (by rw [List.length_append, hp, hr']; omega)
  rw [c1, c2]
  simp only [Bool.and_self, cond_true]
  have e1 : D5 (pre ++ rest) (k * sz) (D0 d) = (pre ++ D0 d) ++ rest.drop sz := by
   unfold D5
   rw [h0, <- hp, List.take_left, <- List.drop_drop, List.drop_left, List.append_assoc]
  rw [e1, Ws ds (k + 1) (pre ++ D0 d) (rest.drop sz) (by rw [List.length_append, hp, h0, Nat.add_mul, Nat.one_mul]) (by rw [List.length_drop, hr']; omega) fun x hx => hd x (List.mem_cons_of_mem _ hx)]
  rw [List.flatMap_cons, List.append_assoc]
theorem Bc {len : Nat} {parts : Array (Nat × Operand)} {ds : List (DV × Option LB)} {z : List Value} {cs : List C} {ck : List (Option Nat)} (hS : Hr P t e sz bytes) (hz : Zt P e z) (hlen : len * sz <= 16777216) (hp : parts.toList.map (·.1) = List.range' 0 len) (hzl : z.length = sz) (hn : ds.length = len) (hs : ds.all (fun q => Nat.beq (D0 q.1).length sz) = true) (hk : Jc P 20 e = ck) (hc : Lb (List.replicate len ck).flatten (ds.flatMap fun q => D0 q.1) cs) (ho : ds.all (fun q => (D0 q.1).all X9) = true) (h : Av f l = cs) : F3 P tk (.buildSlice t len parts) ty ds [] (Of tk (.row e sz (Av f l)) (.row tk)) := by
 subst h
 refine .buildSl hS hz hlen ?_ hk hc ho
 have hd := Ws (sz := sz) (ds.map (·.1)) 0 [] ((List.replicate len (z.map DV.val)).flatten) (by simp) (by simp [hzl, hn]) fun d hd => by
  obtain ⟨q, hq, rfl⟩ := List.mem_map.1 hd
  exact Nat.eq_of_beq_eq_true (List.all_eq_true.1 hs q hq)
 rw [List.nil_append, List.nil_append, List.length_map, hn] at hd
 rw [hp, hd]
 congr 1
 rw [List.flatMap_map]
theorem jR {i bt sz' : Nat} {ds ds' : List DV} {ag : Bool} {d : DV} {kk : Nat} (ht : Ty P t ag sz') (hs : (D0 d).length = sz') (hi : i + sz' <= ds.length) (ho : (D0 d).all X9 = true) (h : D5 ds i (D0 d) = ds') : F3 P tk (.store t X Y) ty [(.ptr kk i, some (.box ds bt)), (d, b2)] [kk] (iF kk (.box ds' bt)) := by
 subst h
 exact .storeB ht hs hi ho
theorem Yk {tk2 : Nat} {m' : Nat} {ds : List DV} {L : List α} (ht : P.underlying t = some (.array m' e)) (he : Ty P e true sz) (hf : ∀ x, (f x).length = sz) (hds : ds = (Av f L).map Wf) (hL : L.length = m') (hx : Cb L n = some x) {d2 : List DV} (h2 : (f x).map Wf = d2) : F3 P tk2 (.index t X Y) ty [(.agg ds, b1), (.val (.int k n), b2)] [] (v0 (.agg d2)) := by
 have hx' := Aq hx
 refine .indexAA ht he (P0 hx) (by rw [<- hL]; exact (List.getElem?_eq_some_iff.1 hx').1) ?_
 rw [hds, <- List.map_drop, <- List.map_take, <- h2]
 congr 1
 exact Bh hf hx' (o := 0) (by rw [List.drop_zero]; exact List.take_of_length_le (Nat.le_of_eq (hf _))) (by omega) rfl
end
def eA {α : Type} [Inhabited α] (n : Nat) (f : α -> List C) (x : List α) : List C := (List.range n).flatMap fun i => f (x[i]!)
theorem pY {α : Type} [Inhabited α] {n sz : Nat} {f : α -> List C} (hf : ∀ x, (f x).length = sz) (x : List α) : (eA n f x).length = n * sz := by
 unfold eA
 induction n with
 | zero => simp
 | succ n ih => rw [List.range_succ, List.flatMap_append, List.length_append, ih, List.flatMap_cons, List.flatMap_nil, List.append_nil, hf, Nat.add_mul, Nat.one_mul]
class kG (p : Prop) (q : outParam Prop) : Prop where
 go : q -> p
theorem Dg {p q : Prop} [s : kG p q] (h : q) : p := s.go h
section
variable {next : St -> Prop} {Q : Exit -> St -> Prop} {i : Nat} {σ : St}
instance : kG (pB next Q .normal σ) (next σ) := ⟨fun h => h⟩
instance : kG (pB next Q (.exit i) σ) (Q (.exit i) σ) := ⟨fun h => h⟩
instance : kG (pB next Q .ret σ) (Q .ret σ) := ⟨fun h => h⟩
instance : kG (oT i Q (.exit i) σ) (Q .normal σ) := ⟨fun h => iW h⟩
instance : kG (oT i Q .normal σ) (Q .normal σ) := ⟨fun h => h⟩
instance : kG (oT i Q .ret σ) (Q .ret σ) := ⟨fun h => h⟩
instance : kG (yS Q .normal σ) (Q .normal σ) := ⟨fun h => h⟩
instance : kG (yS Q (.exit i) σ) (Q (.exit i) σ) := ⟨fun h => h⟩
instance : kG (yS Q .ret σ) (Q .ret σ) := ⟨fun h => h⟩
end
class jF (p : Prop) (q : outParam Prop) : Prop where
 go : q -> p
instance (priority := low) stpN_nil (p : Prop) : jF p p := ⟨fun h => h⟩
instance uK {p p' q : Prop} [s : kG p p'] [t : jF p' q] : jF p q := ⟨fun h => s.go (t.go h)⟩
theorem Bv {P : Program} {cx : Cx} {Q : Exit -> St -> Prop} {σ : St} {q : Prop} [s : jF (Q .ret σ) q] (h : q) : Cy P cx .ret Q σ := Z5 (s.go h)
theorem Df {Q : Exit -> St -> Prop} {i j : Nat} {σ : St} (h : Q (.exit j) σ) (hne : j ≠ i := by decide) : oT i Q (.exit j) σ := fV hne h
theorem Bu {P : Program} {cx : Cx} {id : Nat} {l : List Oper} {σ : St} {y : Code} {Q : Exit -> St -> Prop} (nb nb' : Nat) (hU : ∀ k, nb <= k -> σ.U k = false)
  (h : Chain (Cd P cx []) l.toArray none nb (Fl 0 l) [] σ (fun σ' => (∀ j, nb' <= j -> σ'.U j = false) -> pB (Cy P cx y Q) Q .normal σ')) (hn : Nat.ble (nb + 8 * l.length) nb' = true := by rfl) (hd : lL cx.N l = true := by rfl) : Cy P cx (.seq (.region id l.toArray false) y) Q σ :=
 Aj (Af (Cd _ _ []) nb nb' hU hn hd h)
section
variable {P : Program} {cx : Cx} {ops : Array Oper} {Rt : Option (List Nat)} {nb i : Nat} {l : List Oper} {lg : gL} {σ : St} {Q : St -> Prop} {fz : List Nat}
theorem Al {Q : Exit -> St -> Prop} {nb' : Nat} {q : Prop} [s : jF (Q .normal σ) q] (h : (∀ j, nb' <= j -> σ.U j = false) -> q) : Chain (Cd P cx fz) ops Rt nb (Fl i []) lg σ (fun σ' => (∀ j, nb' <= j -> σ'.U j = false) -> Q .normal σ') := zG fun hU => s.go (h hU)
theorem Cl {dst : Option Tmp} {op : Op} {ty : TypeId} {pos : String} {af : Array Edge} {g : Option (Nat × Bool)} {ds : List (DV × Option LB)} {wr : List Nat} {e : L2} (hg : Kd ops σ ⟨dst, op, ty, pos, af, g⟩ = some true) (hds : Fc σ (I9 op) op.operands.toList = some ds) (h : F3 P (nb + 8 * i) op ty ds wr e)
  (hrd : (bif I9 op then Ka (Ky op) ds else []) = []) (hok : Lm Rt i false (nb + 8 * i) [] wr lg = true) (k : Chain (Cd P cx fz) ops Rt nb (Fl (i + 1) l) ((i, false, nb + 8 * i, [], wr) :: lg) (σ.app dst e) Q) (hz : zM fz (nb + 8 * i) = 0 := by rfl) (hap : Pw cx.np op wr = true := by rfl) :
  Chain (Cd P cx fz) ops Rt nb (Fl i (⟨dst, op, ty, pos, af, g⟩ :: l)) lg σ Q := Da (rd := []) hg hds h hrd hok k hz hap
end
end Go.Proofs.YtkpcbnnlefcebaaGreat
namespace Go.Proofs.YtkpcbnnlefcebaaGreat
open Go.RowKit
theorem Tw : ∀ {d : DV} {k : Nat}, men d k -> k ∈ Iq d
 | .row _, k, h => by simpa [Iq, men] using h
 | .part _ _ _, k, h => by simpa [Iq, men] using h
 | .ptr _ _, k, h => by simpa [Iq, men] using h
 | .agg ds, k, h => by unfold men at h; unfold Iq; exact menL_dtoks h
 | .tup ds, k, h => by unfold men at h; unfold Iq; exact menL_dtoks h
 | .clo _ _ ds, k, h => by unfold men at h; unfold Iq; exact menL_dtoks h
 | .val _, k, h => by unfold men at h; exact h.elim
 | .sl _ _, k, h => by unfold men at h; exact h.elim
 | .slc _ _, k, h => by unfold men at h; exact h.elim
 | .mp _, k, h => by unfold men at h; exact h.elim
 | .elt _, k, h => by unfold men at h; exact h.elim
where
 menL_dtoks : ∀ {ds : List DV} {k : Nat}, Fz ds k -> k ∈ L7 ds
 | [], k, h => by unfold Fz at h; exact h.elim
 | d :: ds, k, h => by
  unfold Fz at h
  unfold L7
  rcases h with h | h
  ·exact List.mem_append_left _ (Tw h)
  ·exact List.mem_append_right _ (menL_dtoks h)
theorem Nx.cut {cx : Cx} {σ σ' : St} {t k n e sz : Nat} {cs : List C} (hk : cx.np <= k) (hF : σ.F t = some (.part k 0 n)) (hL : σ.L k = some (.row e sz cs)) (hn : n * sz <= cs.length)
  (hF' : ∀ s d, σ'.F s = some d -> (d = .row k /\ s = t) \/ (σ.F s = some d /\ ¬ men d k)) (hL' : ∀ j lb, σ'.L j = some lb -> (j = k /\ lb = .row e sz (cs.take (n * sz))) \/ (j ≠ k /\ σ.L j = some lb /\ ¬ Pp lb k)) (hU : ∀ j, σ'.U j = σ.U j) : Nx cx σ σ' := by
 rintro a w ⟨ρ, h⟩
 obtain ⟨N, us, q1, q0, q2⟩ := h.lo _ _ hL
 have hr := h.fr _ _ hF
 unfold Dk at hr
 obtain ⟨A, c, hv, hnc, hc, hA, hB⟩ := hr
 have hlen : n * sz <= us.length := by rw [<- q2.1]; exact hn
 have hblk : ∀ b, Dw (a.tmps.getD t undef) = some b -> Dw (ρ k) = some b := fun b hb => by
  rcases q1.2 with ⟨A', e, -⟩ | ⟨g', cap, I1, e, r1, -⟩
  ·obtain ⟨t1, t2⟩ := hB rfl _ _ _ e
   rw [hv, t2] at hb
   cases A <;> cases hb
  ·obtain ⟨t1, t2⟩ := hB rfl _ _ _ e
   rw [hv, t1] at hb
   rw [e, If r1, (F5 hb).1]
 have hown : w.rowOk e sz (a.tmps.getD t undef) n (us.take (n * sz)) := by
  refine ⟨by rw [List.length_take]; omega, ?_⟩
  rcases q1.2 with ⟨A', e, q3⟩ | ⟨g, cap, I1, e, r1, r2, r3, r4, r5, r6⟩
  ·obtain ⟨t1, t2⟩ := hB rfl _ _ _ e
   refine .inl ⟨A', by rw [hv, t1, t2]; congr 1; omega, by omega⟩
  ·obtain ⟨t1, t2⟩ := hB rfl _ _ _ e
   refine .inr ⟨g, cap, I1, by rw [hv, t1, t2], r1, r2, by omega, r4, r5, ?_⟩
   have hle : n * sz <= N * sz := by rw [<- q1.1]; exact hlen
   rw [<- r6, List.take_take, Nat.min_eq_left hle]
 let ρ' : Nat -> Value := fun j => if j = k then a.tmps.getD t undef else ρ j
 have hk' : ρ' k = a.tmps.getD t undef := if_pos rfl
 have ho : ∀ j, j ≠ k -> ρ' j = ρ j := fun j hj => if_neg hj
 have loc : ∀ j lb b, σ'.L j = some lb -> Dw (ρ' j) = some b -> ∃ lb', σ.L j = some lb' /\ Dw (ρ j) = some b := fun j lb b hj hb => by
  rcases hL' j lb hj with ⟨rfl, -⟩ | ⟨hne, h1, -⟩
  ·rw [hk'] at hb; exact ⟨_, hL, hblk b hb⟩
  ·rw [ho j hne] at hb; exact ⟨_, h1, hb⟩
 have hI : ∀ b, Lx cx σ ρ w b -> Lx cx σ' ρ' w b /\ w.heap[b]? = w.heap[b]? := fun b hb => by
  refine ⟨⟨hb.1, fun hl => ?_, hb.2.2⟩, rfl⟩
  obtain ⟨j, lb, h1, h2⟩ := hl
  obtain ⟨lb', h3, h4⟩ := loc j lb b h1 h2
  exact hb.2.1 ⟨j, lb', h3, h4⟩
 refine ⟨ρ', ⟨h.defers, h.size, h.kept, fun s d hs => ?_, fun j lb hj => ?_, fun j j' lb lb' b h1 h2 h3 h4 => ?_, fun s d j hs hm => ?_, fun j lb hj => ?_, fun j hj => ?_, fun j lb b hj hp hb => ?_⟩⟩
 ·rcases hF' s d hs with ⟨rfl, rfl⟩ | ⟨h1, h2⟩
  ·unfold Dk
   rw [hk']
   refine ⟨rfl, ?_⟩
   rw [hv]; rfl
  ·exact Dk.step hI d _ (fun j hj => ho j fun e => h2 (e ▸ hj)) (h.fr _ _ h1)
 ·rcases hL' j lb hj with ⟨rfl, rfl⟩ | ⟨hne, h1, h2⟩
  ·rw [hk']
   refine ⟨n, us.take (n * sz), hown, fun b hb => q0 b (hblk b hb), ?_⟩
   refine Gn.keep_ (w := w) ⟨by rw [List.length_take, List.length_take, q2.1], fun j c u a b => ?_⟩ (fun b hb => rfl) fun b hb => (hI b hb).1
   rw [List.getElem?_take] at a b
   split at a
   ·rename_i hj
    rw [if_pos hj] at b
    exact q2.2 j c u a b
   ·cases a
  ·rw [ho j hne]
   exact (h.lo _ _ h1).step hI (fun j' hj' => ho j' fun e => h2 (e ▸ hj')) fun b _ => rfl
 ·obtain ⟨_, e1, e2⟩ := loc _ _ _ h1 h3
  obtain ⟨_, e3, e4⟩ := loc _ _ _ h2 h4
  exact h.sep _ _ _ _ _ e1 e3 e2 e4
 ·rw [hU]
  rcases hF' s d hs with ⟨rfl, rfl⟩ | ⟨h1, h2⟩
  ·unfold men at hm
   subst hm
   exact (h.usedL _ _ hL).1
  ·exact h.usedF _ _ _ h1 hm
 ·rw [hU]
  rcases hL' j lb hj with ⟨rfl, rfl⟩ | ⟨hne, h1, h2⟩
  ·exact ⟨(h.usedL _ _ hL).1, fun k' hm => hm.elim⟩
  ·exact ⟨(h.usedL _ _ h1).1, fun k' hm => by rw [hU]; exact (h.usedL _ _ h1).2 k' hm⟩
 ·rw [hU]
  exact ⟨(ho j (by omega)).trans (h.pin j hj).1, (h.pin j hj).2⟩
 ·obtain ⟨_, e1, e2⟩ := loc _ _ _ hj hb
  exact h.fresh _ _ _ e1 hp e2
def hZ (t k : Nat) : List (Nat × DV) -> List (Nat × DV)
 | [] => []
 | (s, d) :: l => bif Nat.beq s t then (s, .row k) :: hZ t k l else (s, d) :: hZ t k l
def fW (k : Nat) (lb : LB) : List (Nat × LB) -> List (Nat × LB)
 | [] => []
 | (j, b) :: l => bif Nat.beq j k then (j, lb) :: fW k lb l else (j, b) :: fW k lb l
def vD (t k : Nat) (fl : List (Nat × DV)) (ll : List (Nat × LB)) : Bool :=
 fl.all (fun q => Nat.beq q.1 t || !(Iq q.2).contains k) && ll.all (fun q => Nat.beq q.1 k || !(W4 q.2).contains k)
theorem Ul {t k : Nat} : ∀ {fl : List (Nat × DV)} {s : Nat} {d : DV}, F4 (hZ t k fl) s = some d -> (s = t /\ d = .row k) \/ (s ≠ t /\ F4 fl s = some d)
 | [], s, d, h => by simp [hZ, F4] at h
 | (s', d') :: l, s, d, h => by
  unfold hZ at h
  cases hb : Nat.beq s' t with
  | true =>
   rw [hb] at h
   simp only [cond_true] at h
   have e0 := Nat.eq_of_beq_eq_true hb
   unfold F4 at h
   cases hs : Nat.beq s s' with
   | true =>
    rw [hs] at h
    have := Nat.eq_of_beq_eq_true hs
    injection h with h
    exact .inl ⟨by omega, h.symm⟩
   | false =>
    rw [hs] at h
    rcases Ul h with h | ⟨h1, h2⟩
    ·exact .inl h
    ·refine .inr ⟨h1, ?_⟩
     unfold F4
     rw [hs]
     exact h2
  | false =>
   rw [hb] at h
   simp only [cond_false] at h
   unfold F4 at h
   cases hs : Nat.beq s s' with
   | true =>
    rw [hs] at h
    have := Nat.eq_of_beq_eq_true hs
    refine .inr ⟨fun e => ?_, ?_⟩
    ·subst this
     subst e
     rw [Nat.beq_refl] at hb
     cases hb
    ·unfold F4
     rw [hs]
     exact h
   | false =>
    rw [hs] at h
    rcases Ul h with h | ⟨h1, h2⟩
    ·exact .inl h
    ·refine .inr ⟨h1, ?_⟩
     unfold F4
     rw [hs]
     exact h2
theorem Vd {k : Nat} {lb : LB} : ∀ {ll : List (Nat × LB)} {j : Nat} {b : LB}, F4 (fW k lb ll) j = some b -> (j = k /\ b = lb) \/ (j ≠ k /\ F4 ll j = some b)
 | [], s, d, h => by simp [fW, F4] at h
 | (s', d') :: l, s, d, h => by
  unfold fW at h
  cases hb : Nat.beq s' k with
  | true =>
   rw [hb] at h
   simp only [cond_true] at h
   have e0 := Nat.eq_of_beq_eq_true hb
   unfold F4 at h
   cases hs : Nat.beq s s' with
   | true =>
    rw [hs] at h
    have := Nat.eq_of_beq_eq_true hs
    injection h with h
    exact .inl ⟨by omega, h.symm⟩
   | false =>
    rw [hs] at h
    rcases Vd h with h | ⟨h1, h2⟩
    ·exact .inl h
    ·refine .inr ⟨h1, ?_⟩
     unfold F4
     rw [hs]
     exact h2
  | false =>
   rw [hb] at h
   simp only [cond_false] at h
   unfold F4 at h
   cases hs : Nat.beq s s' with
   | true =>
    rw [hs] at h
    have := Nat.eq_of_beq_eq_true hs
    refine .inr ⟨fun e => ?_, ?_⟩
    ·subst this
     subst e
     rw [Nat.beq_refl] at hb
     cases hb
    ·unfold F4
     rw [hs]
     exact h
   | false =>
    rw [hs] at h
    rcases Vd h with h | ⟨h1, h2⟩
    ·exact .inl h
    ·refine .inr ⟨h1, ?_⟩
     unfold F4
     rw [hs]
     exact h2
theorem iB {lb : LB} {k : Nat} (h : Pp lb k) : k ∈ W4 lb := by
 cases lb with
 | box ds ty => unfold W4; exact Tw.menL_dtoks h
 | row => exact h.elim
 | map => exact h.elim
 | mit k' n s => have h : k = k' := h; subst h; exact List.mem_singleton.2 rfl
 | vec ds e => unfold W4; exact Tw.menL_dtoks h
theorem fS {α : Type} {f : α -> List C} {sz : Nat} (hf : ∀ x, (f x).length = sz) {l : List α} {n : Nat} (hn : n <= l.length) : (Av f l).take (n * sz) = Av f (l.take n) := by
 have := eH hf l 0 n (Nat.zero_le _) hn
 simpa using this
theorem vE {α : Type} {f : α -> List C} {L : List α} {cx : Cx} {fl : List (Nat × DV)} {ll : List (Nat × LB)} {N : Nat} (t k : Nat) {n e sz : Nat} (hf : ∀ x, (f x).length = sz) (hn : n <= L.length) (hF : F4 fl t = some (.part k 0 n)) (hL : F4 ll k = some (.row e sz (Av f L)))
  (hk : Nat.ble cx.np k = true) (hc : vD t k fl ll = true) : Nx cx (mk fl ll N) (mk (hZ t k fl) (fW k (.row e sz (Av f (L.take n))) ll) N) := by
 unfold vD at hc
 rw [Bool.and_eq_true, List.all_eq_true, List.all_eq_true] at hc
 refine Nx.cut (t := t) (k := k) (n := n) (e := e) (sz := sz) (cs := Av f L) (Nat.le_of_ble_eq_true hk) hF hL (by rw [Hm hf]; exact Nat.mul_le_mul_right _ hn) (fun s d hs => ?_) (fun j lb hj => ?_) fun _ => rfl
 ·rcases Ul hs with ⟨rfl, rfl⟩ | ⟨h1, h2⟩
  ·exact .inl ⟨rfl, rfl⟩
  ·refine .inr ⟨h2, fun hm => ?_⟩
   have := hc.1 _ (Hl h2)
   rw [Bool.or_eq_true] at this
   rcases this with h | h
   ·exact h1 (Nat.eq_of_beq_eq_true h)
   ·have hm' := Tw hm
    simp at h
    exact h hm'
 ·rcases Vd hj with ⟨rfl, rfl⟩ | ⟨h1, h2⟩
  ·refine .inl ⟨rfl, ?_⟩
   rw [fS hf hn]
  ·refine .inr ⟨h1, h2, fun hm => ?_⟩
   have := hc.2 _ (Hl h2)
   rw [Bool.or_eq_true] at this
   rcases this with h | h
   ·exact h1 (Nat.eq_of_beq_eq_true h)
   ·have hm' := iB hm
    simp at h
    exact h hm'
end Go.Proofs.YtkpcbnnlefcebaaGreat
