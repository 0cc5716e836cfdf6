import Derived.Test.YtfkgbfhpibiheaaED
import Derived.KernelRfl
import Derived.Test.YtfkgbfhpibiheaaPU
import Derived.Scope
set_option linter.unusedVariables false
set_option linter.unusedSimpArgs false
namespace Go.Proofs.Ytfkgbfhpibiheaa
open Go.RowKit
section
variable {Q : Exit -> St -> Prop} {next : St -> Prop} {σ : St} {i j : Nat}
theorem gT (h : Q .normal σ) : oC i Q (.exit i) σ := by
 show (if i = i then _ else _)
 rw [if_pos rfl]
 exact h
theorem dW (hne : j ≠ i) (h : Q (.exit j) σ) : oC i Q (.exit j) σ := by
 show (if j = i then _ else _)
 rw [if_neg hne]
 exact h
end
theorem lT {P : Program} {t ty : TypeId} {s : ByteArray} (h : P.underlying t = some .string) : ∀ w, ∀ cs, (builtin .len #[t] ty cs #[.string s]).run P w = .ok (.value (.int .i64 s.size)) w := fun w cs => by
 simp [builtin, Builtin.len_, run_underlying h, goInt]
section
variable {P : Program} {t : TypeId} {X Y : Operand}
end
section
variable {P : Program} {t : TypeId} {X Y : Operand} {k : IntKind} {x y : Int}
end
section
variable {P : Program} {t : TypeId} {X Y : Operand} {a b : ByteArray}
end
theorem Ij {θ : List (Nat × Nat)} {j : Nat} (h : (θ.all fun q => !Nat.beq q.2 j) = true) : ∀ k, Ec θ k ≠ some j := fun k hk => by
 have := yO.1 h _ (E3 hk)
 simp at this
theorem By {P : Program} {cx : Cx} {x y : Code} {Q : Exit -> St -> Prop} {σ : St} {ι : Type} (mid : ι -> St) (ok : ι -> Prop) (hx : Cp P cx x (lU (fun σ' => ∃ i, ok i /\ Qy cx σ' (mid i)) Q) σ) (hy : ∀ i, ok i -> Cp P cx y Q (mid i)) : Cp P cx (.seq x y) Q σ := by
 refine An (gI ?_ hx)
 intro e σ' h
 cases e with
 | normal =>
  obtain ⟨i, h1, h2⟩ := h
  exact J6 h2 (hy i h1)
 | _ => exact h
end Go.Proofs.Ytfkgbfhpibiheaa
namespace Go.Proofs.Ytfkgbfhpibiheaa
open Go.RowKit
mutual
def cH (j : Nat) : DV -> Bool
 | .part k _ _ => !Nat.beq k j
 | .ptr k _ => !Nat.beq k j
 | .agg ds => V0 j ds
 | .tup ds => V0 j ds
 | .clo _ _ ds => V0 j ds
 | .val _ => true
 | .sl _ _ => true
 | .slc _ _ => true
 | .mp _ => true
 | .elt _ => true
 | .row _ => true
 | .nst k s _ => !Nat.beq k j && !Nat.beq s j
 | .npt k s _ _ => !Nat.beq k j && !Nat.beq s j
 | .qpt k _ => !Nat.beq k j
def V0 (j : Nat) : List DV -> Bool
 | [] => true
 | d :: ds => cH j d && V0 j ds
end
mutual
def H3 (j sz : Nat) (cs : List C) : DV -> DV
 | .row k => bif Nat.beq k j then .sl sz cs else .row k
 | .agg ds => .agg (Lw j sz cs ds)
 | .tup ds => .tup (Lw j sz cs ds)
 | .clo f n ds => .clo f n (Lw j sz cs ds)
 | .val v => .val v
 | .sl s c => .sl s c
 | .slc s c => .slc s c
 | .mp l => .mp l
 | .elt c => .elt c
 | .part k o n => .part k o n
 | .ptr k i => .ptr k i
 | .nst k s i => .nst k s i
 | .npt k s i p => .npt k s i p
 | .qpt k i => .qpt k i
def Lw (j sz : Nat) (cs : List C) : List DV -> List DV
 | [] => []
 | d :: ds => H3 j sz cs d :: Lw j sz cs ds
end
def St.frz (σ : St) (j sz : Nat) (cs : List C) : St where
 F := fun t => match σ.F t with | some d => bif cH j d then some (H3 j sz cs d) else none | none => none
 L := fun k => bif Nat.beq k j then none else match σ.L k with | some (.box ds ty) => (bif V0 j ds then some (.box (Lw j sz cs ds) ty) else none) | some (.row e s c) => some (.row e s c) | _ => none
 U := σ.U
theorem H1 {a b : Nat} (h : Nat.beq a b = false) : a ≠ b := fun e => by
 subst e
 rw [aA6] at h; cases h
section
variable {σ : St} {j e sz : Nat} {cs : List C}
abbrev frzT (j : Nat) (k : Nat) : Option Nat := if k = j then none else some k
mutual
theorem Cv.frzD (h : σ.L j = some (.row e sz cs)) : ∀ d, cH j d = true -> Cv σ (frzT j) d (Go.Proofs.Ytfkgbfhpibiheaa.H3 j sz cs d)
 | .val v, _ => by unfold Go.Proofs.Ytfkgbfhpibiheaa.H3; exact .val v
 | .sl _ _, _ => by unfold Go.Proofs.Ytfkgbfhpibiheaa.H3; exact .sl _ _
 | .slc _ _, _ => by unfold Go.Proofs.Ytfkgbfhpibiheaa.H3; exact .slcc _ _
 | .mp _, _ => by unfold Go.Proofs.Ytfkgbfhpibiheaa.H3; exact .mp _
 | .elt _, _ => by unfold Go.Proofs.Ytfkgbfhpibiheaa.H3; exact .elt _
 | .row k, _ => by
  unfold Go.Proofs.Ytfkgbfhpibiheaa.H3
  cases hb : Nat.beq k j with
  | true =>
   have := xV hb
   subst this
   refine .frz h fun k' hk' => ?_
   unfold frzT at hk'
   split at hk'
   ·cases hk'
   ·rename_i hne
    injection hk' with hk'
    exact hne hk'
  | false => exact .row (if_neg (H1 hb))
 | .part k _ _, hn => by
  unfold cH at hn
  unfold Go.Proofs.Ytfkgbfhpibiheaa.H3
  exact .part (if_neg (H1 (by simpa using hn)))
 | .ptr k _, hn => by
  unfold cH at hn
  unfold Go.Proofs.Ytfkgbfhpibiheaa.H3
  exact .ptr (if_neg (H1 (by simpa using hn)))
 | .nst k s _, hn => by
  unfold cH at hn
  rw [yF] at hn
  unfold Go.Proofs.Ytfkgbfhpibiheaa.H3
  exact .nst (if_neg (H1 (by simpa using hn.1))) (if_neg (H1 (by simpa using hn.2)))
 | .npt k s _ _, hn => by
  unfold cH at hn
  rw [yF] at hn
  unfold Go.Proofs.Ytfkgbfhpibiheaa.H3
  exact .npt (if_neg (H1 (by simpa using hn.1))) (if_neg (H1 (by simpa using hn.2)))
 | .qpt k _, hn => by
  unfold cH at hn
  unfold Go.Proofs.Ytfkgbfhpibiheaa.H3
  exact .qpt (if_neg (H1 (by simpa using hn)))
 | .agg ds, hn => by
  unfold cH at hn
  unfold Go.Proofs.Ytfkgbfhpibiheaa.H3
  exact .agg (Lr.frzDs h ds hn)
 | .tup ds, hn => by
  unfold cH at hn
  unfold Go.Proofs.Ytfkgbfhpibiheaa.H3
  exact .tup (Lr.frzDs h ds hn)
 | .clo f n ds, hn => by
  unfold cH at hn
  unfold Go.Proofs.Ytfkgbfhpibiheaa.H3
  exact .clo f n (Lr.frzDs h ds hn)
theorem Lr.frzDs (h : σ.L j = some (.row e sz cs)) : ∀ ds, V0 j ds = true -> Lr σ (frzT j) ds (Go.Proofs.Ytfkgbfhpibiheaa.Lw j sz cs ds)
 | [], _ => by unfold Go.Proofs.Ytfkgbfhpibiheaa.Lw; exact .nil
 | d :: ds, hn => by
  unfold V0 at hn
  simp only [yF] at hn
  unfold Go.Proofs.Ytfkgbfhpibiheaa.Lw
  exact .cons (Cv.frzD h d hn.1) (Lr.frzDs h ds hn.2)
end
mutual
theorem bT : ∀ (d : DV) (k : Nat), men (H3 j sz cs d) k -> men d k
 | .val _, k, h => by unfold H3 men at h; exact h.elim
 | .sl _ _, k, h => by unfold H3 men at h; exact h.elim
 | .slc _ _, k, h => by unfold H3 men at h; exact h.elim
 | .mp _, k, h => by unfold H3 men at h; exact h.elim
 | .elt _, k, h => by unfold H3 men at h; exact h.elim
 | .row i, k, h => by
  unfold H3 at h
  cases hb : Nat.beq i j with
  | true => rw [hb] at h; simp only [xT] at h; unfold men at h; exact h.elim
  | false => rw [hb] at h; exact h
 | .part _ _ _, k, h => by unfold H3 at h; exact h
 | .ptr _ _, k, h => by unfold H3 at h; exact h
 | .nst _ _ _, k, h => by unfold H3 at h; exact h
 | .npt _ _ _ _, k, h => by unfold H3 at h; exact h
 | .qpt _ _, k, h => by unfold H3 at h; exact h
 | .agg ds, k, h => by unfold H3 men at h; unfold men; exact Nu ds k h
 | .tup ds, k, h => by unfold H3 men at h; unfold men; exact Nu ds k h
 | .clo _ _ ds, k, h => by unfold H3 men at h; unfold men; exact Nu ds k h
theorem Nu : ∀ (ds : List DV) (k : Nat), E1 (Lw j sz cs ds) k -> E1 ds k
 | [], k, h => by unfold Lw E1 at h; exact h.elim
 | d :: ds, k, h => by
  unfold Lw E1 at h
  unfold E1
  exact h.imp (bT d k) (Nu ds k)
end
theorem oJ {t : Nat} {d' : DV} (h : (σ.frz j sz cs).F t = some d') : ∃ d, σ.F t = some d /\ cH j d = true /\ d' = H3 j sz cs d := by
 have h' : (match σ.F t with | some d => bif cH j d then some (H3 j sz cs d) else none | none => none) = some d' := h
 cases hF : σ.F t with
 | none => rw [hF] at h'; cases h'
 | some d =>
  rw [hF] at h'
  cases hn : cH j d with
  | false => simp only [hn, xP] at h'; cases h'
  | true => simp only [hn, xT] at h'; injection h' with h'; exact ⟨d, rfl, hn, h'.symm⟩
theorem nV {k : Nat} {lb' : LB} (h : (σ.frz j sz cs).L k = some lb') : k ≠ j /\ ((∃ ds ty, σ.L k = some (.box ds ty) /\ V0 j ds = true /\ lb' = .box (Lw j sz cs ds) ty) \/ ∃ e s c, σ.L k = some (.row e s c) /\ lb' = .row e s c) := by
 have h' : (bif Nat.beq k j then none else match σ.L k with | some (.box ds ty) => (bif V0 j ds then some (LB.box (Lw j sz cs ds) ty) else none) | some (.row e s c) => some (.row e s c) | _ => none) = some lb' := h
 cases hb : Nat.beq k j with
 | true => rw [hb] at h'; cases h'
 | false =>
  refine ⟨H1 hb, ?_⟩
  rw [hb] at h'
  simp only [xP] at h'
  cases hL : σ.L k with
  | none => rw [hL] at h'; cases h'
  | some lb =>
   rw [hL] at h'
   cases lb with
   | row e s c => simp only [] at h'; injection h' with h'; exact .inr ⟨e, s, c, rfl, h'.symm⟩
   | map l => cases h'
   | mit k' n s => cases h'
   | vec ds e => cases h'
   | tree => cases h'
   | gho => cases h'
   | que => cases h'
   | box ds ty =>
    simp only [] at h'
    cases hn : V0 j ds with
    | false => rw [hn] at h'; cases h'
    | true => rw [hn] at h'; injection h' with h'; exact .inl ⟨ds, ty, rfl, hn, h'.symm⟩
theorem Qy.frz {cx : Cx} (h : σ.L j = some (.row e sz cs)) (hj : Nat.ble cx.np j = true) : Qy cx σ (σ.frz j sz cs) := by
 rintro a w ⟨ρ, ha⟩
 have hj' : cx.np <= j := xR hj
 refine ⟨_, (ha.ren (σ' := σ.frz j sz cs) (frzT j) (fun t d' hd => ?_) (fun k lb' hl => ?_) (fun k k' i h1 h2 => ?_) (fun k hk => ⟨if_neg (by omega), (ha.pin k hk).2⟩) (fun t d k hd hm => ?_) (fun k lb hl => ?_)).1⟩
 ·obtain ⟨d, h1, h2, rfl⟩ := oJ hd
  exact ⟨d, h1, Cv.frzD h d h2⟩
 ·obtain ⟨hne, h1⟩ := nV hl
  refine .inl ?_
  rcases h1 with ⟨ds, ty, h1, h2, rfl⟩ | ⟨e', s, c, h1, rfl⟩
  ·exact ⟨k, _, if_neg hne, h1, rfl, Lr.frzDs h ds h2⟩
  ·exact ⟨k, _, if_neg hne, h1, rfl, rfl, rfl⟩
 ·unfold frzT at h1 h2
  split at h1
  ·cases h1
  ·split at h2
   ·cases h2
   ·injection h1 with h1
    injection h2 with h2
    omega
 ·obtain ⟨d', h1, h2, rfl⟩ := oJ hd
  exact ha.usedF t d' k h1 (bT d' k hm)
 ·obtain ⟨hne, h1⟩ := nV hl
  rcases h1 with ⟨ds, ty, h1, h2, rfl⟩ | ⟨e', s, c, h1, rfl⟩
  ·exact ⟨(ha.usedL k _ h1).1, fun k' hk' => (ha.usedL k _ h1).2 k' (Nu ds k' hk')⟩
  ·exact ⟨(ha.usedL k _ h1).1, fun k' hk' => hk'.elim⟩
end
section
variable {P : Program} {cx : Cx} {ops : Array Oper} {Q : Exit -> St -> Prop} {l : List Oper} {σ σ' : St}
def iB (P : Program) (cx : Cx) (ops : Array Oper) (Q : Exit -> St -> Prop) (l : List Oper) (σ : St) : Prop := ∀ a w, G6 cx σ a w -> wpList P ops (post cx Q) l a w
theorem iB.sub (h : Qy cx σ σ') (k : iB P cx ops Q l σ') : iB P cx ops Q l σ := fun a w ha => k a w (h a w ha)
theorem iB.fin (h : Q .normal σ) : iB P cx ops Q [] σ := fun a w ha => ⟨σ, h, ha⟩
variable {S : nT P cx} {nb nb' : Nat}
end
section
variable {P : Program} {f : FuncId} {args : List DV}
theorem Fn.plain {v : Value} {R : DV -> List LB -> Prop} {vs : List Value} {w : World} (h : Fn P f 0 args [] R) (hR : ∀ r b, R r b -> r = .val v) (ρ : Nat -> Value) (I : Nat -> Prop) (hI : ∀ b, I b -> b < w.heap.size) (hr : B2 ρ I w args vs) : Calls P f vs.toArray w fun e w' => e = .returned v /\ Td w w' := by
 refine (h.2.2 ρ I w vs (fun b hb => ⟨hI b hb, fun k hk => by simp at hk⟩) hr (fun k lb h => by simp at h) (fun k k' b hk => by simp at hk)).mono ?_
 rintro e w' ⟨u, r, b, rfl, h1, h2⟩
 obtain ⟨-, ⟨o1, o2, o3, o4⟩, hk, ⟨ρ', J, -, -, hrep, -⟩, -⟩ := h2
 rw [hR r b h1] at hrep
 unfold Ce at hrep
 rw [hrep.1]
 exact ⟨rfl, o1, o2, o3, o4, fun b hb => hk b hb fun k hk => by simp at hk⟩
end
end Go.Proofs.Ytfkgbfhpibiheaa
namespace Go.Proofs.Ytfkgbfhpibiheaa
open Go.RowKit
def wH (Q : Exit -> St -> Prop) : Exit -> St -> Prop
 | .normal, σ => Q .normal σ
 | .exit i, σ => Q (.exit i) σ
 | .goto _, _ => False
 | .ret, σ => Q .ret σ
 | .panic c, σ => Q (.panic c) σ
 | .outgrown, σ => Q .outgrown σ
def As {α : Type} (f : α -> List C) (l : List α) : List C := l.flatMap f
def eI (x : Int) : List C := [.int .i64 x]
def eK (k : IntKind) (x : Int) : List C := [.int k x]
def e8 (x : UInt8) : List C := [.int .u8 (x.toNat : Int)]
def eS (x : ByteArray) : List C := [.str x]
def eB (x : Bool) : List C := [.bool x]
def eL {α : Type} (sz : Nat) (f : α -> List C) (l : List α) : List C := [.sl sz (As f l)]
theorem Lg (x : Int) : (eI x).length = 1 := rfl
theorem Q8 (k : IntKind) (x : Int) : (eK k x).length = 1 := rfl
theorem Nc (x : UInt8) : (e8 x).length = 1 := rfl
theorem Ps (x : ByteArray) : (eS x).length = 1 := rfl
theorem pX (x : Bool) : (eB x).length = 1 := rfl
theorem sB {α : Type} (sz : Nat) (f : α -> List C) (l : List α) : (eL sz f l).length = 1 := rfl
section
variable {α : Type} {f : α -> List C} {sz : Nat}
theorem D5 (hf : ∀ x, (f x).length = sz) : ∀ (l : List α), (As f l).length = l.length * sz
 | [] => by simp [As]
 | x :: l => by
  have := D5 hf l
  unfold As at this ⊢
  rw [aBf, xS, hf, this, aAp, zJ, aAw, Nat.add_comm]
theorem F7 (l m : List α) : As f (l ++ m) = As f l ++ As f m := by unfold As; rw [aBk]
theorem Mh {l : List α} {j : Nat} {x : α} (hx : l[j]? = some x) : As f l = As f (l.take j) ++ (f x ++ As f (l.drop (j + 1))) := by
 have hj := (xM.1 hx).1
 have hxe := (xM.1 hx).2
 have e1 : l = l.take j ++ (x :: l.drop (j + 1)) := by
  rw [<- hxe, List.getElem_cons_drop, aA8]
 rw [show As f l = As f (l.take j ++ (x :: l.drop (j + 1))) from congrArg _ e1, F7]
 rfl
theorem J9 (hf : ∀ x, (f x).length = sz) {l : List α} {j : Nat} (hj : j <= l.length) : (As f (l.take j)).length = j * sz := by
 rw [D5 hf, xY, aAu hj]
theorem Hk (hf : ∀ x, (f x).length = sz) {l : List α} {j : Nat} {x : α} (hx : l[j]? = some x) : j * sz + sz <= (As f l).length := by
 have hj := (xM.1 hx).1
 rw [D5 hf]
 have : (j + 1) * sz <= l.length * sz := yZ _ hj
 rw [zJ, aAw] at this
 exact this
theorem Eu (hf : ∀ x, (f x).length = sz) {l : List α} {j o : Nat} {x : α} (hx : l[j]? = some x) (ho : o < sz) {a : Nat} (ha : a = j * sz + o) : a < (As f l).length := by
 have := Hk hf hx
 omega
theorem Ts (hf : ∀ x, (f x).length = sz) {l : List α} {j o : Nat} {x : α} (hx : l[j]? = some x) (ho : o <= sz) : (As f l).drop (j * sz + o) = (f x).drop o ++ As f (l.drop (j + 1)) := by
 have hj := (xM.1 hx).1
 have ht := J9 hf (l := l) (j := j) (by omega)
 rw [Mh hx, <- ht, <- aBx, List.drop_left, aAz (by rw [hf]; exact ho)]
theorem C8 (hf : ∀ x, (f x).length = sz) {l : List α} {j o : Nat} {x : α} {c : C} (hx : l[j]? = some x) (hc : (f x)[o]? = some c) {a : Nat} (ha : a = j * sz + o) : (As f l)[a]? = some c := by
 subst ha
 have ho : o < sz := by rw [<- hf x]; exact (xM.1 hc).1
 have e1 := Ts hf hx (Nat.le_of_lt ho)
 have e2 : (As f l)[j * sz + o]? = ((As f l).drop (j * sz + o))[0]? := by rw [yP]; rfl
 rw [e2, e1, yD (by rw [yK, hf]; omega), yP]
 exact hc
theorem H4 (hf : ∀ x, (f x).length = sz) {l : List α} {j o m : Nat} {x : α} {cs : List C} (hx : l[j]? = some x) (hs : ((f x).drop o).take m = cs) (ho : o + m <= sz) {a : Nat} (ha : a = j * sz + o) : ((As f l).drop a).take m = cs := by
 subst ha
 rw [Ts hf hx (by omega), aAf (by rw [yK, hf]; omega)]
 exact hs
theorem Eb (hf : ∀ x, (f x).length = sz) {l : List α} {j o m : Nat} {x : α} (hx : l[j]? = some x) (ho : o + m <= sz) {a : Nat} (ha : a = j * sz + o) : a + m <= (As f l).length := by
 have := Hk hf hx
 omega
theorem Hv (hf : ∀ x, (f x).length = sz) {l : List α} {j o : Nat} {x x' : α} {cs : List C} (hx : l[j]? = some x) (ho : o + cs.length <= sz) (hs : Ca (f x) o cs = f x') {a : Nat} (ha : a = j * sz + o) : Ca (As f l) a cs = As f (Bi l j x') := by
 subst ha
 have hj := (xM.1 hx).1
 have ht := J9 hf (l := l) (j := j) (by omega)
 have hset : As f (Bi l j x') = As f (l.take j) ++ (f x' ++ As f (l.drop (j + 1))) := by
  have : (Bi l j x')[j]? = some x' := by unfold Bi; rw [zD hj]
  rw [Mh this]
  unfold Bi
  rw [List.take_set_of_le (xX _), List.drop_set_of_lt (by omega)]
 rw [hset, <- hs]
 unfold Ca
 have e1 : (As f l).take (j * sz + o) = As f (l.take j) ++ (f x).take o := by
  rw [Mh hx, aA4, ht, zQ, yG (by rw [ht]; omega)]
  congr 1
  rw [aAf (by rw [hf]; omega)]
 have e2 : (As f l).drop (j * sz + o + cs.length) = (f x).drop (o + cs.length) ++ As f (l.drop (j + 1)) := by
  rw [Nat.add_assoc, Ts hf hx ho]
 rw [e1, e2]
 simp only [yV]
theorem P0 (hf : ∀ x, (f x).length = sz) (l : List α) (i j : Nat) (hij : i <= j) (hj : j <= l.length) : ((As f l).drop (i * sz)).take ((j - i) * sz) = As f ((l.drop i).take (j - i)) := by
 have e0 : As f l = As f (l.take i) ++ As f (l.drop i) := by rw [<- F7, aA8]
 have e1 : As f (l.drop i) = As f ((l.drop i).take (j - i)) ++ As f ((l.drop i).drop (j - i)) := by rw [<- F7, aA8]
 rw [e0]
 have ht := J9 hf (l := l) (j := i) (by omega)
 have hd : ((As f (l.take i)) ++ As f (l.drop i)).drop (i * sz) = As f (l.drop i) := by rw [<- ht, List.drop_left]
 rw [hd, e1]
 have ht2 := J9 hf (l := l.drop i) (j := j - i) (by rw [yK]; omega)
 rw [<- ht2, aCb]
end
theorem dB (l : List UInt8) : As e8 l = Gd l := by
 induction l with
 | nil => rfl
 | cons x l ih =>
  show e8 x ++ As e8 l = _
  rw [ih]
  rfl
section
variable {P : Program} {tk : Nat} {t ty yt : TypeId} {X Y : Operand} {b1 b2 : Option LB} {k : IntKind} {x y : Int}
theorem vG : Ex P tk (.binOp .lss t X Y yt) ty [(.val (.int k x), b1), (.val (.int k y), b2)] [] (v0 (.val (.bool (decide (x < y))))) := .binOp (fun _ _ => rfl) qF
theorem tO : Ex P tk (.binOp .leq t X Y yt) ty [(.val (.int k x), b1), (.val (.int k y), b2)] [] (v0 (.val (.bool (decide (x <= y))))) := .binOp (fun _ _ => rfl) sF
theorem tJ : Ex P tk (.binOp .gtr t X Y yt) ty [(.val (.int k x), b1), (.val (.int k y), b2)] [] (v0 (.val (.bool (decide (y < x))))) := .binOp (fun _ _ => rfl) rP
theorem uW : Ex P tk (.binOp .geq t X Y yt) ty [(.val (.int k x), b1), (.val (.int k y), b2)] [] (v0 (.val (.bool (decide (y <= x))))) := .binOp (fun _ _ => rfl) sA
theorem tH : Ex P tk (.binOp .eql t X Y yt) ty [(.val (.int k x), b1), (.val (.int k y), b2)] [] (v0 (.val (.bool (decide (x = y))))) := .binOp (fun _ _ => rfl) qS
theorem uK : Ex P tk (.binOp .neq t X Y yt) ty [(.val (.int k x), b1), (.val (.int k y), b2)] [] (v0 (.val (.bool (!decide (x = y))))) := .binOp (fun _ _ => rfl) (fun w => by rw [pU w, decide_not])
theorem Wg (x : Int) : IntKind.i64.wrap x = W x := by rw [IntKind.wrap_i64]; unfold W; omega
theorem sY (x : Int) : Eo (.int .i64 (W x)) = true := Gc.2 (L6 (mC x))
theorem uU (x : Int) : IntKind.u8.wrap x = ((u8 x).toNat : Int) := by rw [IntKind.wrap_u8, kK]
theorem wU (x : UInt8) : Eo (.int .u8 (x.toNat : Int)) = true := Gc.2 (U9 ⟨by omega, by have := x.toNat_lt; omega⟩)
theorem uG : Ex P tk (.binOp .add t X Y yt) ty [(.val (.int .i64 x), b1), (.val (.int .i64 y), b2)] [] (v0 (.val (.int .i64 (W (x + y))))) := .binOp (fun _ _ => sY _) (fun w => by rw [lY w, Wg])
theorem sZ : Ex P tk (.binOp .sub t X Y yt) ty [(.val (.int .i64 x), b1), (.val (.int .i64 y), b2)] [] (v0 (.val (.int .i64 (W (x - y))))) := .binOp (fun _ _ => sY _) (fun w => by rw [dO w, Wg])
theorem uT : Ex P tk (.binOp .mul t X Y yt) ty [(.val (.int .i64 x), b1), (.val (.int .i64 y), b2)] [] (v0 (.val (.int .i64 (W (x * y))))) := .binOp (fun _ _ => sY _) (fun w => by rw [lQ w, Wg])
theorem iW (x y : Int) : (x.tmod y).natAbs <= x.natAbs := by
 rw [Int.natAbs_tmod]
 exact Nat.mod_le _ _
theorem aA {x y : Int} (h : -9223372036854775808 <= x /\ x <= 9223372036854775807) : -9223372036854775808 <= x.tmod y /\ x.tmod y <= 9223372036854775807 := by
 have h0 := iW x y
 rcases Int.le_total 0 x with hx | hx
 ·have h1 := Int.tmod_nonneg y hx
  omega
 ·have e : x.tmod y = -((-x).tmod y) := by rw [Int.neg_tmod]; omega
  have h1 := Int.tmod_nonneg y (show 0 <= -x by omega)
  omega
theorem nN {n : Int} (h : Eo (.int .i64 n) = true) : -9223372036854775808 <= n /\ n <= 9223372036854775807 := by
 have := Gc.1 h
 have h1 : IntKind.i64.min = -9223372036854775808 := by decide
 have h2 : IntKind.i64.max = 9223372036854775807 := by decide
 rw [h1, h2] at this
 exact this
theorem gZ {z : Int} (h : Xb x y = some z) : Ex P tk (.binOp .rem t X Y yt) ty [(.val (.int .i64 x), b1), (.val (.int .i64 y), b2)] [] (v0 (.val (.int .i64 z))) := by
 obtain ⟨hy, rfl⟩ := fY h
 exact .binOp (fun h _ => Gc.2 (L6 (aA (nN h)))) (kP hy)
theorem Jv {z : Int} (h : Ia x y = some z) : Ex P tk (.binOp .quo t X Y yt) ty [(.val (.int .i64 x), b1), (.val (.int .i64 y), b2)] [] (v0 (.val (.int .i64 z))) := by
 obtain ⟨hy, rfl⟩ := eR h
 exact .binOp (fun _ _ => sY _) (fun w => by rw [pV hy w, Wg])
theorem qY {a b z : UInt8} (h : nM a b = some z) : Ex P tk (.binOp .rem t X Y yt) ty [(.val (.int .u8 (a.toNat : Int)), b1), (.val (.int .u8 (b.toNat : Int)), b2)] [] (v0 (.val (.int .u8 (z.toNat : Int)))) := by
 obtain ⟨hy, hz⟩ := fL h
 refine .binOp (fun _ _ => Gc.2 (U9 ⟨by omega, by have := z.toNat_lt; omega⟩)) ?_
 rw [hz]
 exact kP hy
theorem uV {b : Bool} : Ex P tk (.unOp .not t X) ty [(.val (.bool b), b1)] [] (v0 (.val (.bool (!b)))) := .unOp (fun _ => rfl) qH
theorem qR {a b : ByteArray} : Ex P tk (.binOp .eql t X Y yt) ty [(.val (.string a), b1), (.val (.string b), b2)] [] (v0 (.val (.bool (decide (a = b))))) := .binOp (fun _ _ => rfl) mO
theorem pH {a b : ByteArray} : Ex P tk (.binOp .neq t X Y yt) ty [(.val (.string a), b1), (.val (.string b), b2)] [] (v0 (.val (.bool (!decide (a = b))))) := .binOp (fun _ _ => rfl) (fun w => by rw [mS w, decide_not])
theorem vF {a b c : ByteArray} (h : iU a b = some c) : Ex P tk (.binOp .add t X Y yt) ty [(.val (.string a), b1), (.val (.string b), b2)] [] (v0 (.val (.string c))) := by
 obtain ⟨h1, rfl⟩ := gC h
 refine .binOp (fun _ _ => Lj.2 ?_) (fun w => ?_)
 ·rw [ByteArray.size_append]; exact h1
 ·have h2 : ¬ (9223372036854775807 : Int) < ((a.size : Int) + (b.size : Int)) := by omega
  have hm : IntKind.i64.max = 9223372036854775807 := by decide
  simp [eqGuard, binOp, Op.stringOp, hm, h2]
theorem L5 {src dst : TypeId} (hs : P.underlying src = some (.int k)) (hd : P.underlying dst = some (.int .u8)) : Ex P tk (.convert src dst X) ty [(.val (.int k x), b1)] [] (v0 (.val (.int .u8 ((u8 x).toNat : Int)))) :=
 .conv (by unfold dH; rw [hs]) (by unfold dH; rw [hd]) (fun _ => wU _) (fun w => by rw [W7 (by rw [hs]; rfl) hd w, uU])
theorem Ti {src dst : TypeId} (hs : P.underlying src = some (.int k)) (hd : P.underlying dst = some (.int .i64)) : Ex P tk (.convert src dst X) ty [(.val (.int k x), b1)] [] (v0 (.val (.int .i64 (W x)))) :=
 .conv (by unfold dH; rw [hs]) (by unfold dH; rw [hd]) (fun _ => sY _) (fun w => by rw [W7 (by rw [hs]; rfl) hd w, Wg])
theorem dS {src dst : TypeId} {u : UInt8} (hs : P.underlying src = some (.int .u8)) (hd : P.underlying dst = some (.int .i64)) : Ex P tk (.convert src dst X) ty [(.val (.int .u8 (u.toNat : Int)), b1)] [] (v0 (.val (.int .i64 (u.toNat : Int)))) :=
 .conv (by unfold dH; rw [hs]) (by unfold dH; rw [hd]) (fun _ => Gc.2 (L6 ⟨by omega, by have := u.toNat_lt; omega⟩)) (fun w => by
  have := u.toNat_lt
  rw [W7 (by rw [hs]; rfl) hd w, Wg, Do (by omega)])
theorem lO {Z : Operand} {c : Bool} {d1 d2 : DV} {b3 : Option LB} (h : c = true) : Ex P tk (.pick X Y Z) ty [(.val (.bool c), b1), (d1, b2), (d2, b3)] [] (v0 d1) := by subst h; exact .pick
theorem lP {Z : Operand} {c : Bool} {d1 d2 : DV} {b3 : Option LB} (h : c = false) : Ex P tk (.pick X Y Z) ty [(.val (.bool c), b1), (d1, b2), (d2, b3)] [] (v0 d2) := by subst h; exact .pick
theorem Nq {s : ByteArray} (h : P.underlying t = some .string) : Ex P tk (.call ⟨.builtin .len, #[X], #[t]⟩) ty [(.val (.string s), b1)] [] (v0 (.val (.int .i64 (s.size : Int)))) :=
 .callV1 (fun h => Gc.2 (L6 ⟨by omega, by have := Lj.1 h; unfold maxLen at this; omega⟩)) (lT h)
end
section
variable {P : Program} {tk : Nat} {t ty e sz bytes : Nat} {X Y : Operand} {b1 b2 : Option LB} {α : Type} {f : α -> List C} {l : List α} {n : Int} {k : IntKind} {j kr e' : Nat} {x : α}
theorem sJ (h : Fs P t e sz bytes) (hf : ∀ x, (f x).length = sz) : Ex P tk (.call ⟨.builtin .len, #[X], #[t]⟩) ty [(.sl sz (As f l), b1)] [] (v0 (.val (.int .i64 (l.length : Int)))) := .len h.elem (.sl h.hsz (D5 hf l))
theorem pL (h : Fs P t e sz bytes) (hf : ∀ x, (f x).length = sz) : Ex P tk (.call ⟨.builtin .len, #[X], #[t]⟩) ty [(.row kr, some (.row e' sz (As f l)))] [] (v0 (.val (.int .i64 (l.length : Int)))) := .len h.elem (.row h.hsz (D5 hf l))
theorem rM (h : Fs P t e sz bytes) (hf : ∀ x, (f x).length = sz) (hj : n = (j : Int)) (hx : l[j]? = some x) : Ex P tk (.indexAddr t X Y) ty [(.sl sz (As f l), b1), (.val (.int k n), b2)] [] (v0 (.elt ((As f l).drop (j * sz)))) := .idxS h hj (Hk hf hx)
theorem rZ (h : Fs P t e sz bytes) (hf : ∀ x, (f x).length = sz) (hj : n = (j : Int)) (hx : l[j]? = some x) : Ex P tk (.indexAddr t X Y) ty [(.row kr, some (.row e' sz (As f l))), (.val (.int k n), b2)] [] (v0 (.ptr kr (j * sz))) := .idxR h hj (Hk hf hx)
theorem aE {a m : Nat} {b1 : Option LB} (h : Fs P t e sz bytes) (hj : n = (j : Int)) (hx : ((l.drop a).take m)[j]? = some x) : Ex P tk (.indexAddr t X Y) ty [(.part kr (a * sz) m, b1), (.val (.int k n), b2)] [] (v0 (.ptr kr ((a + j) * sz))) := by
 have hl := (xM.1 hx).1
 rw [xY] at hl
 rw [zJ]
 exact .idxP h hj (by omega)
theorem Ot {a m : Nat} (hx : ((l.drop a).take m)[j]? = some x) : l[a + j]? = some x := by
 rw [yM] at hx
 split at hx
 ·rwa [yP] at hx
 ·cases hx
theorem Dz {s g off ft sz' : Nat} {ag : Bool} {cs : List C} {a : Nat} (h : Fd P s g off ft) (ht : Ty P ft ag sz') (hz : 0 < sz') (hl : a + off < cs.length) : Ex P tk (.fieldAddr s X g) ty [(.elt (cs.drop a), b1)] [] (v0 (.elt (cs.drop (a + off)))) := by
 have := Ex.fieldE (P := P) (tk := tk) (x := X) (ty := ty) (b := b1) h ht hz (cs := cs.drop a) (by rw [yK]; omega)
 rwa [aBx] at this
theorem D4 {sz' a : Nat} {cs : List C} {c : C} (ht : Ty P t false sz') (h : cs[a]? = some c) : Ex P tk (.load t X) ty [(.elt (cs.drop a), b1)] [] (v0 (Oj c)) := .loadE1 ht (by rw [yP]; exact h)
theorem Qj {m a : Nat} {cs cs2 : List C} (ht : Ty P t true m) (h : (cs.drop a).take m = cs2) (hl : a + m <= cs.length) : Ex P tk (.load t X) ty [(.elt (cs.drop a), b1)] [] (v0 (.agg (cs2.map Oj))) := by
 subst h
 exact .loadEA ht (by rw [yK]; omega)
theorem Qt {m a s : Nat} {cs cs2 : List C} (ht : Ty P t true m) (h : (cs.drop a).take m = cs2) (hl : a + m <= cs.length) : Ex P tk (.load t X) ty [(.ptr kr a, some (.row e' s cs))] [] (v0 (.agg (cs2.map Oj))) := by
 subst h
 exact .loadRA ht hl
theorem N9 {i s : Nat} {cs cs' cs2 : List C} {ag : Bool} {d : DV} {sz' : Nat} {ck : List (Option Nat)} (ht : Ty P t ag sz') (hs : (Ci d).length = sz') (hi : i + sz' <= cs.length) (hk : Ib P 20 t = ck) (hd : Fb ck (Ci d) cs') (h : Ca cs i cs' = cs2) : Ex P tk (.store t X Y) ty [(.ptr kr i, some (.row e' s cs)), (d, b2)] [kr] (aV kr (.row e' s cs2)) := by
 subst h
 exact .storeR ht hs hi hk hd
theorem Fu {d d' : DV × Option LB} {l' l2 : List α} {ks : List Nat} {kk : Nat} {cs cs' : List C} (hS : Fs P t e sz bytes) (hf : ∀ x, (f x).length = sz) (ht : mJ d e sz cs ks) (hc : cs = As f l) (hs : S7 d' sz cs') (hc' : cs' = As f l') (h : H7 kk l l' = some l2) (hk : sz * bytes = kk) : Ex P tk (.call ⟨.builtin .append, #[X, Y], #[t, t]⟩) ty [d, d'] ks (Hn tk (.row e sz (As f l2)) ks (.row tk)) := by
 subst hc hc'
 obtain ⟨h1, rfl⟩ := Lq h
 rw [F7]
 refine .append hS ht hs ?_
 rw [D5 hf, D5 hf, <- zJ, Nat.mul_assoc, hk]
 exact h1
theorem cP {ck : List (Option Nat)} {ds : List DV} {z : α} (h : Fb ck ds (f z)) (hk : ck.length = ds.length) : ∀ m, Fb (List.replicate m ck).flatten (List.replicate m ds).flatten (As f (List.replicate m z))
 | 0 => .nil
 | m + 1 => by
  have ih := cP h hk m
  rw [zS, zS, zS, aA1, aA1]
  show Fb _ _ (f z ++ As f (List.replicate m z))
  have app : ∀ {k1 : List (Option Nat)} {d1 : List DV} {c1 : List C}, Fb k1 d1 c1 -> k1.length = d1.length -> ∀ {k2 d2 c2}, Fb k2 d2 c2 -> Fb (k1 ++ k2) (d1 ++ d2) (c1 ++ c2) := by
   intro k1 d1 c1 h1
   induction h1 with
   | @nil ks => intro hl k2 d2 c2 h2; have : ks = [] := xZ (by simpa using hl); subst this; exact h2
   | cons h hs ih => intro hl k2 d2 c2 h2; exact .cons h (ih (by simpa using hl) h2)
  exact app h hk ih
theorem Qm {z : List Value} {k' : IntKind} {z0 : α} {kk : Nat} {ck : List (Option Nat)} (hS : Fs P t e sz bytes) (hz : Zt P e z) (hk : Ib P 20 e = ck) (hd : Fb ck (z.map DV.val) (f z0)) (hl : ck.length = (z.map DV.val).length) (h : U8 kk n z0 = some l) (hkk : bytes = kk) (hxy : X = Y := by rfl) : Ex P tk (.makeSlice t X Y) ty [(.val (.int k n), b1), (.val (.int k' n), b2)] [] (J2 tk (.row e sz (As f l)) (.row tk)) := by
 obtain ⟨m, rfl, h1, h2, rfl⟩ := fK h
 subst hkk
 exact .makeSl hS hz rfl ⟨h1, h2⟩ hk (cP hd hl m) hxy
section
variable {lo hi : Operand} {a b : Int} {ka kb : IntKind} {b3 : Option LB} {m : List α}
theorem pB (hS : Fs P t e sz bytes) (hf : ∀ x, (f x).length = sz) (h : Si l a b = some m) : Ex P tk (.slice t X (some lo) (some hi) none) ty [(.sl sz (As f l), b1), (.val (.int ka a), b2), (.val (.int kb b), b3)] [] (v0 (.sl sz (As f m))) := by
 obtain ⟨i, j, rfl, rfl, h1, h2, rfl⟩ := Ob h
 rw [<- P0 hf l i j h1 h2]
 exact .sliS hS (D5 hf l) ⟨_, _, _, _, _, _, rfl, rfl, rfl⟩ ⟨h1, h2⟩
theorem gA (hS : Fs P t e sz bytes) (hf : ∀ x, (f x).length = sz) (h : Si l a (l.length : Int) = some m) : Ex P tk (.slice t X (some lo) none none) ty [(.sl sz (As f l), b1), (.val (.int ka a), b2)] [] (v0 (.sl sz (As f m))) := by
 obtain ⟨i, j, rfl, hj, h1, h2, rfl⟩ := Ob h
 have : j = l.length := by omega
 subst this
 rw [<- P0 hf l i l.length h1 h2]
 exact .sliS hS (D5 hf l) ⟨⟨_, _, _, rfl, rfl⟩, rfl⟩ ⟨h1, h2⟩
theorem Wf (hS : Fs P t e sz bytes) (hf : ∀ x, (f x).length = sz) (h : Si l 0 b = some m) : Ex P tk (.slice t X none (some hi) none) ty [(.sl sz (As f l), b1), (.val (.int kb b), b2)] [] (v0 (.sl sz (As f m))) := by
 obtain ⟨i, j, hi', rfl, h1, h2, rfl⟩ := Ob h
 have : i = 0 := by omega
 subst this
 rw [<- P0 hf l 0 j h1 h2]
 exact .sliS hS (D5 hf l) ⟨⟨_, _, _, rfl, rfl⟩, rfl⟩ ⟨h1, h2⟩
end
theorem dJ {src dst : TypeId} {d : DV × Option LB} {cs : List C} {l : List UInt8} (hs : P.underlying src = some (.slice e)) (he : P.underlying e = some (.int .u8)) (hd : P.underlying dst = some .string) (h : T3 d 1 cs) (hc : cs = As e8 l) : Ex P tk (.convert src dst X) ty [d] [] (v0 (.val (.string (sT l)))) := .convS hs he hd h (hc.trans (dB l))
theorem lZ {src dst : TypeId} {s : ByteArray} (hs : P.underlying src = some .string) (hd : P.underlying dst = some (.slice e)) (he : P.underlying e = some (.int .u8)) : Ex P tk (.convert src dst X) ty [(.val (.string s), b1)] [] (v0 (.sl 1 (As e8 (Up s)))) := by
 have := Ex.convB (P := P) (tk := tk) (x := X) (ty := ty) (b := b1) (s := s) hs hd he
 rw [<- dB] at this
 exact this
end
theorem Cv.frzE {σ : St} {θ : Nat -> Option Nat} {j e sz : Nat} {cs : List C} (h : σ.L j = some (.row e sz cs)) (h' : (match σ.L j with | some _ => true | none => false) = true) (hn : ∀ k, θ k ≠ some j) : Cv σ θ (.row j) (.sl sz cs) := .frz h hn
end Go.Proofs.Ytfkgbfhpibiheaa
namespace Go.Proofs.Ytfkgbfhpibiheaa
open Go.RowKit
mutual
theorem cZ (f : Nat -> Nat) : ∀ d, Ga d = [] -> Hq f d = d
 | .row _, h => by simp [Ga] at h
 | .part _ _ _, h => by simp [Ga] at h
 | .ptr _ _, h => by simp [Ga] at h
 | .nst _ _ _, h => by simp [Ga] at h
 | .npt _ _ _ _, h => by simp [Ga] at h
 | .qpt _ _, h => by simp [Ga] at h
 | .val _, _ => rfl
 | .sl _ _, _ => rfl
 | .slc _ _, _ => rfl
 | .mp _, _ => rfl
 | .elt _, _ => rfl
 | .agg ds, h => by unfold Ga at h; unfold Hq; rw [Ln f ds h]
 | .tup ds, h => by unfold Ga at h; unfold Hq; rw [Ln f ds h]
 | .clo _ _ ds, h => by unfold Ga at h; unfold Hq; rw [Ln f ds h]
theorem Ln (f : Nat -> Nat) : ∀ ds, Jt ds = [] -> J4 f ds = ds
 | [], _ => rfl
 | d :: ds, h => by
  unfold Jt at h
  have h1 := List.append_eq_nil_iff.1 h
  unfold J4
  rw [cZ f d h1.1, Ln f ds h1.2]
end
def Vl : LB -> List Nat
 | .box ds _ => Jt ds
 | .row .. => []
 | .map _ => []
 | .mit k _ _ => [k]
 | .vec ds _ => Jt ds
 | .tree _ _ _ _ _ s _ _ => [s]
 | .gho => []
 | .que .. => []
theorem mF (f : Nat -> Nat) {lb : LB} (h : Vl lb = []) : aU f lb = lb := by
 cases lb with
 | box ds ty =>
  show LB.box (J4 f ds) ty = _
  rw [Ln f ds h]
 | row => rfl
 | map => rfl
 | mit => cases h
 | tree => cases h
 | gho => rfl
 | que => rfl
 | vec ds e =>
  show LB.vec (J4 f ds) e = _
  rw [Ln f ds h]
def eQ (ps gs : List Nat) (r : DV) (bx : List LB) : Jf := ⟨some r, fun k => match Ec (ps.zip bx) k with | some lb => some (some lb) | none => bif gs.any (Nat.beq k) then some none else none⟩
theorem Yn {ps : List Nat} {tk : Nat} : ∀ {l : List Nat} {b : List LB} {i : Nat}, (∀ j, l[j]? = ps[i + j]?) -> b.length = l.length -> (∀ lb ∈ b, Vl lb = []) -> Qh ps tk i b = l.zip b
 | [], [], _, _, _, _ => rfl
 | x :: l, lb :: b, i, hl, hb, ht => by
  unfold Qh
  have h0 := hl 0
  simp only [aBq] at h0
  have e1 : F4 ps tk i = x := by
   unfold F4
   rw [<- h0]
   rfl
  rw [e1, mF _ (ht lb (yX ..)), Yn (l := l) (fun j => by have := hl (j + 1); rw [show i + 1 + j = i + (j + 1) by omega, <- this]; rfl) (by simpa using hb) fun lb h => ht lb (yS _ h)]
  rfl
 | [], _ :: _, _, _, h, _ => by simp at h
 | _ :: _, [], _, _, h, _ => by simp at h
theorem cT {ps gs : List Nat} {tk : Nat} {r : DV} {b : List LB} (hr : Ga r = []) (hl : b.length = ps.length) (hb : ∀ lb ∈ b, Vl lb = []) : Nz ps gs tk r b = eQ ps gs r b := by
 unfold Nz eQ
 rw [cZ _ _ hr, Yn (l := ps) (fun j => by rw [zC]) hl hb]
 rfl
section
variable {P : Program} {cx : Cx} {ops : Array Oper} {Rt : Option (List Nat)} {nb i : Nat} {l : List Oper} {lg : aW} {σ : St} {Q : St -> Prop} {fz : List Nat}
theorem Ze {dst : Option Tmp} {f : FuncId} {xs : Array Operand} {tys : Array TypeId} {ty : TypeId} {pos : String} {af : Array Edge} {g : Option (Nat × Bool)} {dsA : List (DV × Option LB)} {rd ps gs : List Nat} {args : List DV} {bx : List LB} {d : DV} {b : List LB} (fl : Bool)
  (G : Hx ops σ ⟨dst, .call ⟨.value (.func f), xs, tys⟩, ty, pos, af, g⟩ = some true)
  (hF : Fn P f ps.length args bx (fun d' b' => d' = d /\ b' = b)) (hds : Du σ true xs.toList = some dsA) (hrd : Mn σ 3 (Nn dsA) = rd) (hA : Kx fl (ps ++ gs) (Jb σ rd) (dsA.map (·.1)) args) (hB : Vk fl (ps ++ gs) (Jb σ rd) (ps ++ gs) bx) (hnd : Oc cx.np ps gs = true) (hfl : fl = true -> Ig d /\ ∀ lb ∈ b, Ny lb)
  (hok : Im Rt i true (nb + 8 * i) rd (ps ++ gs) lg = true) (hr : Ga d = []) (hl : b.length = ps.length) (hb : b.flatMap Vl = [])
  (k : Dv (Cm P cx fz) ops Rt nb (idx (i + 1) l) ((i, true, nb + 8 * i, rd, ps ++ gs) :: lg) (σ.app dst (eQ ps gs d b)) Q) :
  Dv (Cm P cx fz) ops Rt nb (idx i (⟨dst, .call ⟨.value (.func f), xs, tys⟩, ty, pos, af, g⟩ :: l)) lg σ Q := by
 refine F6 fl G hF hds hrd hA hB hnd (fun h r b => ?_) hok (fun _ => ⟨_, _, ⟨rfl, rfl⟩, by omega, by omega⟩) fun r b => ?_
 ·rintro ⟨rfl, rfl⟩; exact hfl h
 ·rintro ⟨rfl, rfl⟩
  rw [cT hr hl fun lb h => ?_]
  ·exact k
  ·have := List.flatMap_eq_nil_iff.1 hb lb h
   exact this
theorem Dm {dst : Option Tmp} {t : Tmp} {f : FuncId} {n : Nat} {cs : List DV} {q : Option LB} {xs : Array Operand} {tys : Array TypeId} {ty : TypeId} {pos : String} {af : Array Edge} {g : Option (Nat × Bool)} {dsA : List (DV × Option LB)} {rd ps gs : List Nat} {args : List DV} {bx : List LB} {d : DV} {b : List LB} (fl : Bool)
  (G : Hx ops σ ⟨dst, .call ⟨.value (.tmp t), xs, tys⟩, ty, pos, af, g⟩ = some true) (hc : ev σ true (.tmp t) = some (.clo f n cs, q))
  (hF : Fn P f ps.length args bx (fun d' b' => d' = d /\ b' = b)) (hds : Du σ true xs.toList = some dsA) (hrd : Mn σ 3 (Jt cs ++ Nn dsA) = rd) (hA : Kx fl (ps ++ gs) (Jb σ rd) (cs.take n ++ (dsA.map (·.1) ++ cs.drop n)) args) (hB : Vk fl (ps ++ gs) (Jb σ rd) (ps ++ gs) bx) (hnd : Oc cx.np ps gs = true) (hfl : fl = true -> Ig d /\ ∀ lb ∈ b, Ny lb)
  (hok : Im Rt i true (nb + 8 * i) rd (ps ++ gs) lg = true) (hr : Ga d = []) (hl : b.length = ps.length) (hb : b.flatMap Vl = [])
  (k : Dv (Cm P cx fz) ops Rt nb (idx (i + 1) l) ((i, true, nb + 8 * i, rd, ps ++ gs) :: lg) (σ.app dst (eQ ps gs d b)) Q) :
  Dv (Cm P cx fz) ops Rt nb (idx i (⟨dst, .call ⟨.value (.tmp t), xs, tys⟩, ty, pos, af, g⟩ :: l)) lg σ Q := by
 refine Ub fl G hc hF hds hrd hA hB hnd (fun h r b => ?_) hok (fun _ => ⟨_, _, ⟨rfl, rfl⟩, by omega, by omega⟩) fun r b => ?_
 ·rintro ⟨rfl, rfl⟩; exact hfl h
 ·rintro ⟨rfl, rfl⟩
  rw [cT hr hl fun lb h => ?_]
  ·exact k
  ·have := List.flatMap_eq_nil_iff.1 hb lb h
   exact this
end
section
variable {P : Program} {tk : Nat} {t ty yt : TypeId} {X Y : Operand} {b1 b2 : Option LB} {k k' : IntKind} {x y : Int}
theorem P5 (k : IntKind) (z : Int) : Eo (.int k (k.wrap z)) = true := by
 rw [Gc]
 cases k <;> simp [IntKind.wrap, IntKind.bits, IntKind.signed, IntKind.min, IntKind.max] <;> (try split) <;> omega
theorem lH : Ex P tk (.binOp .sub t X Y yt) ty [(.val (.int k x), b1), (.val (.int k y), b2)] [] (v0 (.val (.int k (k.wrap (x - y))))) := .binOp (fun _ _ => P5 _ _) dO
theorem kB : Ex P tk (.binOp .and t X Y yt) ty [(.val (.int k x), b1), (.val (.int k y), b2)] [] (v0 (.val (.int k (Rx k x y)))) := .binOp (fun _ _ => P5 _ _) (fun w => by simp [eqGuard, binOp, Op.intBits, Rx])
theorem bN : Ex P tk (.binOp .xor t X Y yt) ty [(.val (.int k x), b1), (.val (.int k y), b2)] [] (v0 (.val (.int k (Ql k x y)))) := .binOp (fun _ _ => P5 _ _) (fun w => by simp [eqGuard, binOp, Op.intBits, Ql])
theorem nK (k : IntKind) : k.min <= 0 /\ 0 <= k.max := by cases k <;> decide
theorem Zz {x d : Int} (hx : x <= 0) (hd : 0 < d) : x / d <= 0 := by
 rcases Int.lt_trichotomy (x / d) 0 with h | h | h
 ·omega
 ·omega
 ·exfalso
  have h1 := Int.mul_ediv_add_emod x d
  have h2 := Int.emod_nonneg x (show d ≠ 0 by omega)
  have h3 : d * 1 <= d * (x / d) := Int.mul_le_mul_of_nonneg_left (by omega) (by omega)
  omega
theorem Tk {z : Int} (h : Rs k x y = some z) : Ex P tk (.binOp .shr t X Y yt) ty [(.val (.int k x), b1), (.val (.int k' y), b2)] [] (v0 (.val (.int k z))) := by
 obtain ⟨h0, rfl⟩ := dT h
 refine .binOp (fun hx _ => ?_) (fun w => by simp [eqGuard, binOp, Op.shift, h0])
 rw [Gc] at hx ⊢
 have hm := nK k
 have hd : (0 : Int) < 2 ^ min y.toNat k.bits := Int.pow_pos (by omega)
 generalize (2 : Int) ^ min y.toNat k.bits = d at hd
 rw [Int.fdiv_eq_ediv_of_nonneg _ (Int.le_of_lt hd)]
 rcases Int.le_total 0 x with hx0 | hx0
 ·have h1 := Int.ediv_nonneg hx0 (Int.le_of_lt hd)
  have h2 := Int.ediv_le_self d hx0
  omega
 ·have h1 : x <= x / d := by
   have := Int.mul_ediv_add_emod x d
   have h3 := Int.emod_nonneg x (show d ≠ 0 by omega)
   have h4 : x / d <= 0 := Zz hx0 hd
   have h5 : d * (x / d) <= 1 * (x / d) := Int.mul_le_mul_of_nonpos_right (by omega) h4
   have h6 := Int.emod_lt_of_pos x hd
   by_cases h7 : x / d = 0
   ·omega
   ·have h8 : x / d <= -1 := by omega
    have h9 : (d - 1) * (x / d) <= (d - 1) * (-1) := Int.mul_le_mul_of_nonneg_left h8 (by omega)
    have h10 : d * (x / d) = (d - 1) * (x / d) + x / d := by rw [Int.sub_mul, Int.one_mul]; omega
    omega
  have h2 : x / d <= 0 := Zz hx0 hd
  omega
theorem aI {z : Int} (h : V1 k x y = some z) : Ex P tk (.binOp .shl t X Y yt) ty [(.val (.int k x), b1), (.val (.int k' y), b2)] [] (v0 (.val (.int k z))) := by
 obtain ⟨h0, rfl⟩ := eN h
 exact .binOp (fun _ _ => P5 _ _) (fun w => by simp [eqGuard, binOp, Op.shift, h0])
theorem Oy {src dst : TypeId} (hs : P.underlying src = some (.int k)) (hd : P.underlying dst = some (.int k')) : Ex P tk (.convert src dst X) ty [(.val (.int k x), b1)] [] (v0 (.val (.int k' (k'.wrap x)))) :=
 .conv (by unfold dH; rw [hs]) (by unfold dH; rw [hd]) (fun _ => P5 _ _) (W7 (by rw [hs]; rfl) hd)
theorem aN {s : ByteArray} {u : UInt8} (ht : P.underlying t = some .string) (h : idxT s x = some u) : Ex P tk (.index t X Y) ty [(.val (.string s), b1), (.val (.int k x), b2)] [] (v0 (.val (.int .u8 (u.toNat : Int)))) := by
 unfold idxT at h
 split at h
 ·cases h
 ·rename_i h0
  have h1 : 0 <= x := by omega
  have hlt := (yH.1 h).1
  have hs : s[x.toNat]? = some u := by
   have hlt' : x.toNat < s.size := hlt
   rw [getElem?_pos s x.toNat hlt']
   have := (yH.1 h).2
   exact congrArg some this
  exact .indexS (fun _ _ => wU _) (fun w => by simp [Instr.index, asIntOf, run_underlying ht, h1, hs])
end
section
variable {α : Type} {f : α -> List C} {sz : Nat}
end
section
variable {P : Program} {tk : Nat} {t ty e sz bytes : Nat} {X Y : Operand} {b1 b2 b3 : Option LB} {α : Type} {f : α -> List C} {l m : List α} {n : Int} {k ka kb : IntKind} {j kr e' : Nat} {x : α} {lo hi : Operand} {a b : Int}
theorem Wo (hS : Fs P t e sz bytes) (hf : ∀ x, (f x).length = sz) (h : Si l a (l.length : Int) = some m) : Ex P tk (.slice t X (some lo) none none) ty [(.row kr, some (.row e' sz (As f l))), (.val (.int ka a), b2)] [] (v0 (.part kr (a.toNat * sz) ((l.length : Int).toNat - a.toNat))) := by
 obtain ⟨i, j, rfl, hj, h1, h2, rfl⟩ := Ob h
 have : j = l.length := by omega
 subst this
 exact .sliR hS (D5 hf l) ⟨⟨_, _, _, rfl, rfl⟩, rfl⟩ ⟨h1, h2⟩
theorem fC (hS : Fs P t e sz bytes) (hf : ∀ x, (f x).length = sz) (h : Si l 0 b = some m) : Ex P tk (.slice t X none (some hi) none) ty [(.row kr, some (.row e' sz (As f l))), (.val (.int kb b), b3)] [] (v0 (.part kr ((0 : Int).toNat * sz) (b.toNat - (0 : Int).toNat))) := by
 obtain ⟨i, j, hi', rfl, h1, h2, rfl⟩ := Ob h
 have : i = 0 := by omega
 subst this
 have e0 : (0 : Int).toNat * sz = 0 * sz := rfl
 exact .sliR hS (D5 hf l) ⟨⟨_, _, _, rfl, rfl⟩, rfl⟩ ⟨h1, h2⟩
theorem Vf {sz : Nat} : ∀ (ds : List DV) (k : Nat) (pre rest : List DV), pre.length = k * sz -> rest.length = ds.length * sz -> (∀ d ∈ ds, (Ci d).length = sz) -> Fp (fun i => some (i * sz, sz)) (pre ++ rest) ((List.range' k ds.length).zip ds) = some (pre ++ ds.flatMap Ci)
 | [], k, pre, rest, _, hr, _ => by
  have : rest = [] := xZ (by simpa using hr)
  subst this
  simp [Fp]
 | d :: ds, k, pre, rest, hp, hr, hd => by
  have h0 := hd d (yX ..)
  have hr' : rest.length = ds.length * sz + sz := by rw [hr, aAp, zJ, aAw]
  rw [aAp, List.range'_succ, List.zip_cons_cons]
  unfold Fp
  simp only []
  have c1 : Nat.beq (Ci d).length sz = true := by rw [h0]; exact aA6 _
  have c2 : Nat.ble (k * sz + sz) (pre ++ rest).length = true := aBp (by rw [xS, hp, hr']; omega)
  rw [c1, c2]
  simp only [Bool.and_self, xT]
  have e1 : Ca (pre ++ rest) (k * sz) (Ci d) = (pre ++ Ci d) ++ rest.drop sz := by
   unfold Ca
   rw [h0, <- hp, aCb, <- aBx, List.drop_left, yV]
  rw [e1, Vf ds (k + 1) (pre ++ Ci d) (rest.drop sz) (by rw [xS, hp, h0, zJ, aAw]) (by rw [yK, hr']; omega) fun x hx => hd x (yS _ hx)]
  rw [aBf, yV]
theorem Nw {len : Nat} {parts : Array (Nat × Operand)} {ds : List (DV × Option LB)} {z : List Value} {cs : List C} {ck : List (Option Nat)} (hS : Fs P t e sz bytes) (hz : Zt P e z) (hlen : len * sz <= 16777216) (hp : parts.toList.map (·.1) = List.range' 0 len) (hzl : z.length = sz) (hn : ds.length = len) (hs : ds.all (fun q => Nat.beq (Ci q.1).length sz) = true) (hk : Ib P 20 e = ck) (hc : Fb (List.replicate len ck).flatten (ds.flatMap fun q => Ci q.1) cs) (ho : ds.all (fun q => (Ci q.1).all Oh) = true) (h : As f l = cs) : Ex P tk (.buildSlice t len parts) ty ds [] (J2 tk (.row e sz (As f l)) (.row tk)) := by
 subst h
 refine .buildSl hS hz hlen ?_ hk hc ho
 have hd := Vf (sz := sz) (ds.map (·.1)) 0 [] ((List.replicate len (z.map DV.val)).flatten) (by simp) (by simp [hzl, hn]) fun d hd => by
  obtain ⟨q, hq, rfl⟩ := yW.1 hd
  exact xV (yO.1 hs q hq)
 rw [aBi, aBi, zU, hn] at hd
 rw [hp, hd]
 congr 1
 rw [List.flatMap_map]
theorem Uz {i bt sz' : Nat} {ds ds' : List DV} {ag : Bool} {d : DV} {kk : Nat} (ht : Ty P t ag sz') (hs : (Ci d).length = sz') (hi : i + sz' <= ds.length) (ho : (Ci d).all Oh = true) (h : Ca ds i (Ci d) = ds') : Ex P tk (.store t X Y) ty [(.ptr kk i, some (.box ds bt)), (d, b2)] [kk] (aV kk (.box ds' bt)) := by
 subst h
 exact .storeB ht hs hi ho
theorem Wx {tk2 : Nat} {m' : Nat} {ds : List DV} {L : List α} (ht : P.underlying t = some (.array m' e)) (he : Ty P e true sz) (hf : ∀ x, (f x).length = sz) (hds : ds = (As f L).map Oj) (hL : L.length = m') (hx : Bo L n = some x) {d2 : List DV} (h2 : (f x).map Oj = d2) : Ex P tk2 (.index t X Y) ty [(.agg ds, b1), (.val (.int k n), b2)] [] (v0 (.agg d2)) := by
 have hx' := A4 hx
 refine .indexAA ht he (Er hx) (by rw [<- hL]; exact (xM.1 hx').1) ?_
 rw [hds, <- List.map_drop, <- List.map_take, <- h2]
 congr 1
 exact H4 hf hx' (o := 0) (by rw [aBv]; exact yG (aAq (hf _))) (by omega) rfl
end
def eA {α : Type} [Inhabited α] (n : Nat) (f : α -> List C) (x : List α) : List C := (List.range n).flatMap fun i => f (x[i]!)
theorem qQ {α : Type} [Inhabited α] {n sz : Nat} {f : α -> List C} (hf : ∀ x, (f x).length = sz) (x : List α) : (eA n f x).length = n * sz := by
 unfold eA
 induction n with
 | zero => simp
 | succ n ih => rw [aBj, aBk, xS, ih, aBf, List.flatMap_nil, aAm, hf, zJ, aAw]
class iE (p : Prop) (q : outParam Prop) : Prop where
 go : q -> p
theorem vV {p q : Prop} [s : iE p q] (h : q) : p := s.go h
section
variable {next : St -> Prop} {Q : Exit -> St -> Prop} {i : Nat} {σ : St}
instance : iE (lU next Q .normal σ) (next σ) := ⟨fun h => h⟩
instance : iE (lU next Q (.exit i) σ) (Q (.exit i) σ) := ⟨fun h => h⟩
instance : iE (lU next Q .ret σ) (Q .ret σ) := ⟨fun h => h⟩
instance : iE (oC i Q (.exit i) σ) (Q .normal σ) := ⟨fun h => gT h⟩
instance : iE (oC i Q .normal σ) (Q .normal σ) := ⟨fun h => h⟩
instance : iE (oC i Q .ret σ) (Q .ret σ) := ⟨fun h => h⟩
instance : iE (wH Q .normal σ) (Q .normal σ) := ⟨fun h => h⟩
instance : iE (wH Q (.exit i) σ) (Q (.exit i) σ) := ⟨fun h => h⟩
instance : iE (wH Q .ret σ) (Q .ret σ) := ⟨fun h => h⟩
end
class fN (p : Prop) (q : outParam Prop) : Prop where
 go : q -> p
instance (priority := low) stpN_nil (p : Prop) : fN p p := ⟨fun h => h⟩
instance sV {p p' q : Prop} [s : iE p p'] [t : fN p' q] : fN p q := ⟨fun h => s.go (t.go h)⟩
theorem El {P : Program} {cx : Cx} {Q : Exit -> St -> Prop} {σ : St} {q : Prop} [s : fN (Q .ret σ) q] (h : q) : Cp P cx .ret Q σ := Mt (s.go h)
theorem vS {Q : Exit -> St -> Prop} {i j : Nat} {σ : St} (h : Q (.exit j) σ) (hne : j ≠ i := by decide) : oC i Q (.exit j) σ := dW hne h
theorem C4 {P : Program} {cx : Cx} {id : Nat} {l : List Oper} {σ : St} {y : Code} {Q : Exit -> St -> Prop} (nb nb' : Nat) (B : ∀ k, nb <= k -> σ.U k = false)
  (h : Dv (Cm P cx []) l.toArray none nb (idx 0 l) [] σ (fun σ' => (∀ j, nb' <= j -> σ'.U j = false) -> lU (Cp P cx y Q) Q .normal σ')) (hn : Nat.ble (nb + 8 * l.length) nb' = true := by rfl) (hd : eE cx.N l = true := by rfl) : Cp P cx (.seq (.region id l.toArray false) y) Q σ :=
 An (Aq (Cm _ _ []) nb nb' B hn hd h)
section
variable {P : Program} {cx : Cx} {ops : Array Oper} {Rt : Option (List Nat)} {nb i : Nat} {l : List Oper} {lg : aW} {σ : St} {Q : St -> Prop} {fz : List Nat}
theorem D2 {Q : Exit -> St -> Prop} {nb' : Nat} {q : Prop} [s : fN (Q .normal σ) q] (h : (∀ j, nb' <= j -> σ.U j = false) -> q) : Dv (Cm P cx fz) ops Rt nb (idx i []) lg σ (fun σ' => (∀ j, nb' <= j -> σ'.U j = false) -> Q .normal σ') := vY fun B => s.go (h B)
theorem D1 {dst : Option Tmp} {op : Op} {ty : TypeId} {pos : String} {af : Array Edge} {g : Option (Nat × Bool)} {ds : List (DV × Option LB)} {wr : List Nat} {e : Jf} (G : Hx ops σ ⟨dst, op, ty, pos, af, g⟩ = some true) (hds : Du σ (Hl op) op.operands.toList = some ds) (h : Ex P (nb + 8 * i) op ty ds wr e)
  (hrd : (bif Hl op then H6 (I3 op) ds else []) = []) (hok : Im Rt i false (nb + 8 * i) [] wr lg = true) (k : Dv (Cm P cx fz) ops Rt nb (idx (i + 1) l) ((i, false, nb + 8 * i, [], wr) :: lg) (σ.app dst e) Q) (hz : zM fz (nb + 8 * i) = 0 := by rfl) (hap : Kw cx.np op wr = true := by rfl) :
  Dv (Cm P cx fz) ops Rt nb (idx i (⟨dst, op, ty, pos, af, g⟩ :: l)) lg σ Q := Ei (rd := []) G hds h hrd hok k hz hap
end
end Go.Proofs.Ytfkgbfhpibiheaa
namespace Go.Proofs.Ytfkgbfhpibiheaa
open Go.RowKit
theorem Qk : ∀ {d : DV} {k : Nat}, men d k -> k ∈ Ga d
 | .row _, k, h => by simpa [Ga, men] using h
 | .part _ _ _, k, h => by simpa [Ga, men] using h
 | .ptr _ _, k, h => by simpa [Ga, men] using h
 | .nst _ _ _, k, h => by simpa [Ga, men] using h
 | .npt _ _ _ _, k, h => by simpa [Ga, men] using h
 | .qpt _ _, k, h => by simpa [Ga, men] using h
 | .agg ds, k, h => by unfold men at h; unfold Ga; exact menL_dtoks h
 | .tup ds, k, h => by unfold men at h; unfold Ga; exact menL_dtoks h
 | .clo _ _ ds, k, h => by unfold men at h; unfold Ga; exact menL_dtoks h
 | .val _, k, h => by unfold men at h; exact h.elim
 | .sl _ _, k, h => by unfold men at h; exact h.elim
 | .slc _ _, k, h => by unfold men at h; exact h.elim
 | .mp _, k, h => by unfold men at h; exact h.elim
 | .elt _, k, h => by unfold men at h; exact h.elim
where
 menL_dtoks : ∀ {ds : List DV} {k : Nat}, E1 ds k -> k ∈ Jt ds
 | [], k, h => by unfold E1 at h; exact h.elim
 | d :: ds, k, h => by
  unfold E1 at h
  unfold Jt
  rcases h with h | h
  ·exact yT _ (Qk h)
  ·exact zL _ (menL_dtoks h)
theorem Qy.cut {cx : Cx} {σ σ' : St} {t k n e sz : Nat} {cs : List C} (hk : cx.np <= k) (hF : σ.F t = some (.part k 0 n)) (hL : σ.L k = some (.row e sz cs)) (hn : n * sz <= cs.length)
  (hF' : ∀ s d, σ'.F s = some d -> (d = .row k /\ s = t) \/ (σ.F s = some d /\ ¬ men d k)) (hL' : ∀ j lb, σ'.L j = some lb -> (j = k /\ lb = .row e sz (cs.take (n * sz))) \/ (j ≠ k /\ σ.L j = some lb /\ ¬ Kz lb k)) (B : ∀ j, σ'.U j = σ.U j) : Qy cx σ σ' := by
 rintro a w ⟨ρ, h⟩
 obtain ⟨N, us, q1, q0, q2⟩ := h.lo _ _ hL
 have hr := h.fr _ _ hF
 unfold Ce at hr
 obtain ⟨A, c, hv, hnc, hc, hA, hB⟩ := hr
 have hlen : n * sz <= us.length := by rw [<- q2.1]; exact hn
 have hblk : ∀ b, Ch (a.tmps.getD t undef) = some b -> Ch (ρ k) = some b := fun b hb => by
  rcases q1.2 with ⟨A', e, -⟩ | ⟨g', cap, cur, e, r1, -⟩
  ·obtain ⟨t1, t2⟩ := hB rfl _ _ _ e
   rw [hv, t2] at hb
   cases A <;> cases hb
  ·obtain ⟨t1, t2⟩ := hB rfl _ _ _ e
   rw [hv, t1] at hb
   rw [e, D7 r1, (Dr hb).1]
 have hown : w.rowOk e sz (a.tmps.getD t undef) n (us.take (n * sz)) := by
  refine ⟨by rw [xY]; omega, ?_⟩
  rcases q1.2 with ⟨A', e, q3⟩ | ⟨g, cap, cur, e, r1, r2, r3, r4, r5, r6⟩
  ·obtain ⟨t1, t2⟩ := hB rfl _ _ _ e
   refine .inl ⟨A', by rw [hv, t1, t2]; congr 1; omega, by omega⟩
  ·obtain ⟨t1, t2⟩ := hB rfl _ _ _ e
   refine .inr ⟨g, cap, cur, by rw [hv, t1, t2], r1, r2, by omega, r4, r5, ?_⟩
   have hle : n * sz <= N * sz := by rw [<- q1.1]; exact hlen
   rw [<- r6, aCa, aAu hle]
 let ρ' : Nat -> Value := fun j => if j = k then a.tmps.getD t undef else ρ j
 have hk' : ρ' k = a.tmps.getD t undef := if_pos rfl
 have ho : ∀ j, j ≠ k -> ρ' j = ρ j := fun j hj => if_neg hj
 have loc : ∀ j lb b, σ'.L j = some lb -> Hm ρ' (ρ' j) lb b -> ∃ lb', σ.L j = some lb' /\ Hm ρ (ρ j) lb' b := fun j lb b hj hb => by
  rcases hL' j lb hj with ⟨rfl, rfl⟩ | ⟨hne, h1, h2⟩
  ·rw [hk'] at hb; exact ⟨_, hL, hblk b hb⟩
  ·rw [ho j hne] at hb; exact ⟨_, h1, Qn (fun q hq => (ho q fun e => h2 (e ▸ hq)).symm) hb⟩
 have hI : ∀ b, Iv cx σ ρ w b -> Iv cx σ' ρ' w b /\ w.heap[b]? = w.heap[b]? := fun b hb => by
  refine ⟨⟨hb.1, fun hl => ?_, hb.2.2⟩, rfl⟩
  obtain ⟨j, lb, h1, h2⟩ := hl
  obtain ⟨lb', h3, h4⟩ := loc j lb b h1 h2
  exact hb.2.1 ⟨j, lb', h3, h4⟩
 refine ⟨ρ', ⟨h.defers, h.size, h.kept, fun s d hs => ?_, fun j lb hj => ?_, fun j j' lb lb' b h1 h2 h3 h4 => ?_, fun s d j hs hm => ?_, fun j lb hj => ?_, fun j hj => ?_, fun j lb b hj hp hb => ?_⟩⟩
 ·rcases hF' s d hs with ⟨rfl, rfl⟩ | ⟨h1, h2⟩
  ·unfold Ce
   rw [hk']
   refine ⟨rfl, ?_⟩
   rw [hv]; rfl
  ·exact Ce.step hI d _ (fun j hj => ho j fun e => h2 (e ▸ hj)) (h.fr _ _ h1)
 ·rcases hL' j lb hj with ⟨rfl, rfl⟩ | ⟨hne, h1, h2⟩
  ·rw [hk']
   refine ⟨n, us.take (n * sz), hown, fun b hb => q0 b (hblk b hb), ?_⟩
   refine E0.keep_ (w := w) ⟨by rw [xY, xY, q2.1], fun j c u a b => ?_⟩ (fun b hb => rfl) fun b hb => (hI b hb).1
   rw [yM] at a b
   split at a
   ·rename_i hj
    rw [if_pos hj] at b
    exact q2.2 j c u a b
   ·cases a
  ·rw [ho j hne]
   exact (h.lo _ _ h1).step hI (fun j' hj' => ho j' fun e => h2 (e ▸ hj')) fun b _ => rfl
 ·obtain ⟨_, e1, e2⟩ := loc _ _ _ h1 h3
  obtain ⟨_, e3, e4⟩ := loc _ _ _ h2 h4
  exact h.sep _ _ _ _ _ e1 e3 e2 e4
 ·rw [B]
  rcases hF' s d hs with ⟨rfl, rfl⟩ | ⟨h1, h2⟩
  ·unfold men at hm
   subst hm
   exact (h.usedL _ _ hL).1
  ·exact h.usedF _ _ _ h1 hm
 ·rw [B]
  rcases hL' j lb hj with ⟨rfl, rfl⟩ | ⟨hne, h1, h2⟩
  ·exact ⟨(h.usedL _ _ hL).1, fun k' hm => hm.elim⟩
  ·exact ⟨(h.usedL _ _ h1).1, fun k' hm => by rw [B]; exact (h.usedL _ _ h1).2 k' hm⟩
 ·rw [B]
  exact ⟨(ho j (by omega)).trans (h.pin j hj).1, (h.pin j hj).2⟩
 ·obtain ⟨_, e1, e2⟩ := loc _ _ _ hj hb
  exact h.fresh _ _ _ e1 hp e2
def dV (t k : Nat) : List (Nat × DV) -> List (Nat × DV)
 | [] => []
 | (s, d) :: l => bif Nat.beq s t then (s, .row k) :: dV t k l else (s, d) :: dV t k l
def fI (k : Nat) (lb : LB) : List (Nat × LB) -> List (Nat × LB)
 | [] => []
 | (j, b) :: l => bif Nat.beq j k then (j, lb) :: fI k lb l else (j, b) :: fI k lb l
def tT (t k : Nat) (fl : List (Nat × DV)) (ll : List (Nat × LB)) : Bool :=
 fl.all (fun q => Nat.beq q.1 t || !(Ga q.2).contains k) && ll.all (fun q => Nat.beq q.1 k || !(Vl q.2).contains k)
theorem Q4 {t k : Nat} : ∀ {fl : List (Nat × DV)} {s : Nat} {d : DV}, Ec (dV t k fl) s = some d -> (s = t /\ d = .row k) \/ (s ≠ t /\ Ec fl s = some d)
 | [], s, d, h => by simp [dV, Ec] at h
 | (s', d') :: l, s, d, h => by
  unfold dV at h
  cases hb : Nat.beq s' t with
  | true =>
   rw [hb] at h
   simp only [xT] at h
   have e0 := xV hb
   unfold Ec at h
   cases hs : Nat.beq s s' with
   | true =>
    rw [hs] at h
    have := xV hs
    injection h with h
    exact .inl ⟨by omega, h.symm⟩
   | false =>
    rw [hs] at h
    rcases Q4 h with h | ⟨h1, h2⟩
    ·exact .inl h
    ·refine .inr ⟨h1, ?_⟩
     unfold Ec
     rw [hs]
     exact h2
  | false =>
   rw [hb] at h
   simp only [xP] at h
   unfold Ec at h
   cases hs : Nat.beq s s' with
   | true =>
    rw [hs] at h
    have := xV hs
    refine .inr ⟨fun e => ?_, ?_⟩
    ·subst this
     subst e
     rw [aA6] at hb
     cases hb
    ·unfold Ec
     rw [hs]
     exact h
   | false =>
    rw [hs] at h
    rcases Q4 h with h | ⟨h1, h2⟩
    ·exact .inl h
    ·refine .inr ⟨h1, ?_⟩
     unfold Ec
     rw [hs]
     exact h2
theorem Ro {k : Nat} {lb : LB} : ∀ {ll : List (Nat × LB)} {j : Nat} {b : LB}, Ec (fI k lb ll) j = some b -> (j = k /\ b = lb) \/ (j ≠ k /\ Ec ll j = some b)
 | [], s, d, h => by simp [fI, Ec] at h
 | (s', d') :: l, s, d, h => by
  unfold fI at h
  cases hb : Nat.beq s' k with
  | true =>
   rw [hb] at h
   simp only [xT] at h
   have e0 := xV hb
   unfold Ec at h
   cases hs : Nat.beq s s' with
   | true =>
    rw [hs] at h
    have := xV hs
    injection h with h
    exact .inl ⟨by omega, h.symm⟩
   | false =>
    rw [hs] at h
    rcases Ro h with h | ⟨h1, h2⟩
    ·exact .inl h
    ·refine .inr ⟨h1, ?_⟩
     unfold Ec
     rw [hs]
     exact h2
  | false =>
   rw [hb] at h
   simp only [xP] at h
   unfold Ec at h
   cases hs : Nat.beq s s' with
   | true =>
    rw [hs] at h
    have := xV hs
    refine .inr ⟨fun e => ?_, ?_⟩
    ·subst this
     subst e
     rw [aA6] at hb
     cases hb
    ·unfold Ec
     rw [hs]
     exact h
   | false =>
    rw [hs] at h
    rcases Ro h with h | ⟨h1, h2⟩
    ·exact .inl h
    ·refine .inr ⟨h1, ?_⟩
     unfold Ec
     rw [hs]
     exact h2
theorem fW {lb : LB} {k : Nat} (h : Kz lb k) : k ∈ Vl lb := by
 cases lb with
 | box ds ty => unfold Vl; exact Qk.menL_dtoks h
 | row => exact h.elim
 | map => exact h.elim
 | mit k' n s => have h : k = k' := h; subst h; exact xQ.2 rfl
 | tree e sz o e2 sz2 s hh cs => have h : k = s := h; subst h; exact xQ.2 rfl
 | gho => exact h.elim
 | que => exact h.elim
 | vec ds e => unfold Vl; exact Qk.menL_dtoks h
theorem fH {α : Type} {f : α -> List C} {sz : Nat} (hf : ∀ x, (f x).length = sz) {l : List α} {n : Nat} (hn : n <= l.length) : (As f l).take (n * sz) = As f (l.take n) := by
 have := P0 hf l 0 n (yL _) hn
 simpa using this
theorem wN {α : Type} {f : α -> List C} {L : List α} {cx : Cx} {fl : List (Nat × DV)} {ll : List (Nat × LB)} {N : Nat} (t k : Nat) {n e sz : Nat} (hf : ∀ x, (f x).length = sz) (hn : n <= L.length) (hF : Ec fl t = some (.part k 0 n)) (hL : Ec ll k = some (.row e sz (As f L)))
  (hk : Nat.ble cx.np k = true) (hc : tT t k fl ll = true) : Qy cx (mk fl ll N) (mk (dV t k fl) (fI k (.row e sz (As f (L.take n))) ll) N) := by
 unfold tT at hc
 rw [yF, yO, yO] at hc
 refine Qy.cut (t := t) (k := k) (n := n) (e := e) (sz := sz) (cs := As f L) (xR hk) hF hL (by rw [D5 hf]; exact yZ _ hn) (fun s d hs => ?_) (fun j lb hj => ?_) fun _ => rfl
 ·rcases Q4 hs with ⟨rfl, rfl⟩ | ⟨h1, h2⟩
  ·exact .inl ⟨rfl, rfl⟩
  ·refine .inr ⟨h2, fun hm => ?_⟩
   have := hc.1 _ (E3 h2)
   rw [aAc] at this
   rcases this with h | h
   ·exact h1 (xV h)
   ·have hm' := Qk hm
    simp at h
    exact h hm'
 ·rcases Ro hj with ⟨rfl, rfl⟩ | ⟨h1, h2⟩
  ·refine .inl ⟨rfl, ?_⟩
   rw [fH hf hn]
  ·refine .inr ⟨h1, h2, fun hm => ?_⟩
   have := hc.2 _ (E3 h2)
   rw [aAc] at this
   rcases this with h | h
   ·exact h1 (xV h)
   ·have hm' := fW hm
    simp at h
    exact h hm'
end Go.Proofs.Ytfkgbfhpibiheaa
