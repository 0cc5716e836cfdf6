/- A region that draws its order: operations that only add to the world, in whatever order, and a last few that wait for all of them. -/
import Derived.Deep.Quiet
import Derived.StillTail
import Derived.Test.YthjgcmifggdepaaMem
set_option linter.unusedSimpArgs false
set_option linter.unusedVariables false
namespace Go.Proofs.Ythjgcmifggdepaa
open Go.RowKit

section
variable {P : Program} {ops : Array Oper} {C : World → Prop}
/-- The first m of the operations come up, in whatever order; then L. -/
def headQ (P : Program) (ops : Array Oper) (C : World → Prop) (m : Nat) (L : Array Bool → Act → Prop) : Nat → Array Bool → Act → Prop
  | 0, s, a => L s a
  | f + 1, s, a => Region.ready .any ops s ≠ [] ∧ ∀ i ∈ Region.ready .any ops s, i < m ∧ qOp P ops C i (headQ P ops C m L f (s.setIfInBounds i true)) a
theorem any_of_headQ {m g : Nat} {L : Array Bool → Act → Prop} {Q : Exit → Act → World → Prop} (hL : ∀ s a w, C w → L s a → wpAny P .any ops Q g s a w) :
    ∀ (f : Nat) (s : Array Bool) (a : Act) (w : World), C w → headQ P ops C m L f s a → wpAny P .any ops Q (f + g) s a w
  | 0, s, a, w, hw, h => by rw [Nat.zero_add]; exact hL s a w hw h
  | f + 1, s, a, w, hw, h => by
    rw [Nat.add_right_comm]
    exact ⟨fun e => absurd e h.1, fun i hi => wpOp_of_qOp hw (fun a' w' hw' h' => any_of_headQ hL f _ a' w' hw' h') (h.2 i hi).2⟩
/-- What may come up may be taken first. -/
theorem headQ_swap {m i : Nat} {o : Oper} {v : Value} {L : Array Bool → Act → Prop} (ho : ops[i]? = some o) (hsel : ∀ (j : Nat) (o : Oper) cs b, ops[j]? = some o → o.op ≠ .select cs b)
    (hwait : ∀ s, HeadInv .any ops m s → s.getD i true = false → ∀ t, m ≤ t → t ∉ Region.ready .any ops s) (hL : ∀ s a, L s a → ∀ j ∈ Region.ready .any ops s, m ≤ j) :
    ∀ (f : Nat) (s : Array Bool) (a : Act), HeadInv .any ops m s →
      (∀ j oj, ops[j]? = some oj → j ≠ i → s.getD j true = false → (∀ e ∈ oj.after, Region.binds .any e = true → e.on ≠ i) → o.apart ops oj = true) →
      i ∈ Region.ready .any ops s → YieldsIn P ops C o v a → headQ P ops C m L f (s.setIfInBounds i true) (a.put o.dst v) → headQ P ops C m L (f + 1) s a := by
  intro f
  induction f with
  | zero =>
    intro s a inv _ hr hy H
    refine ⟨fun e => (by rw [e] at hr; cases hr), fun j hj => ?_⟩
    have hjm : j < m := Nat.lt_of_not_le fun h => hwait s inv (mem_ready.1 hr).1 j h hj
    refine ⟨hjm, ?_⟩
    rcases Decidable.em (j = i) with e | e
    · rw [e]; exact hy.qOp ho H
    · exact absurd (hL _ _ H j (ready_mono hj e)) (by omega)
  | succ f ih =>
    intro s a inv hap hr hy H
    have hi0 := (mem_ready.1 hr).1
    refine ⟨fun e => (by rw [e] at hr; cases hr), fun j hj => ?_⟩
    have hjm : j < m := Nat.lt_of_not_le fun h => hwait s inv hi0 j h hj
    refine ⟨hjm, ?_⟩
    rcases Decidable.em (j = i) with e | e
    · rw [e]; exact hy.qOp ho H
    obtain ⟨hj0, oj, hoj, hafter⟩ := mem_ready.1 hj
    have hno : ∀ x ∈ oj.after, Region.binds .any x = true → x.on ≠ i := fun x hx hb he => by
      have h1 := hafter x hx hb
      rw [he, getD_both hi0] at h1
      cases h1
    refine qOp_mono (fun a' h3 => ih _ a' (inv.set hj hjm) (fun k ok hok hki hk0 hkn => hap k ok hok hki ?_ hkn) (ready_mono hr (Ne.symm e)) h3.1 ?_)
      (qOp_put hoj (hap j oj hoj e hj0 hno) (fun cs b => hsel i o cs b ho) (fun cs b => hsel j oj cs b hoj) hy (H.2 j (ready_mono hj e)).2)
    · rcases Decidable.em (j = k) with ek | ek
      · rw [← ek]; exact hj0
      · rwa [getD_set_ne true ek] at hk0
    · rw [Array.setIfInBounds_comm _ _ e]; exact h3.2
theorem headQ_lex {m g : Nat} {F : Act → Prop} (hsel : Region.noSelect ops = true) (hs : Region.sinkB .any ops m = true) (hc : Region.chainB .any ops m = true) (hm : m < ops.size) :
    ∀ (l : List Oper) (k : Nat) (s : Array Bool) (a : Act), (∀ j, j < l.length → l[j]? = ops[k + j]?) → k + l.length = m → HeadInv .any ops m s →
      Region.lexHead .any ops g l.length k s = true → wpQuiet P ops C F l a → headQ P ops C m (fun s' a' => Region.seqB .any ops g m s' = true ∧ F a') l.length s a
  | [], k, s, a, _, hk, _, hB, h => by
    obtain rfl : k = m := hk
    exact ⟨by simpa [Region.lexHead] using hB, h⟩
  | o :: l, k, s, a, hl, hk, inv, hB, h => by
    rw [List.length_cons] at hk
    have ho : ops[k]? = some o := by simpa using (hl 0 (Nat.succ_pos _)).symm
    simp only [List.length_cons, Region.lexHead, Bool.and_eq_true] at hB
    have hr : k ∈ Region.ready .any ops s := by simpa using hB.1.1
    obtain ⟨v, hy, hK⟩ := yieldsIn_of_qOp (P := P) (C := C) (K := wpQuiet P ops C F l) ho (by unfold qOp; simp only [ho]; exact h)
    exact headQ_swap ho (Region.noSelect_spec hsel) (fun s inv h0 t ht => tail_waits hs hc hm inv _ k rfl (by omega) h0 t ht) (fun s' a' hL => seqB_ready hL.1) l.length s a inv (Region.free_spec ho hB.1.2) hr hy
      (headQ_lex hsel hs hc hm l (k + 1) _ _ (fun j hj => by rw [Nat.add_assoc, Nat.add_comm 1 j]; simpa using hl (j + 1) (by simpa using hj)) (by omega) (inv.set hr (by omega)) hB.2 hK)
/-- Behind the first m operations the rest has its order. -/
theorem wp_region_quiet_tail {id : Nat} {Q : Exit → Act → World → Prop} {a : Act} {w : World} {l : List Oper} (m : Nat) (hf : P.follows .mixedOrders = true) (hB : Region.lexTailB .any l.toArray m = true) (hC : C { w with drawn := w.drawn + 1 })
    (h : wpQuiet P l.toArray C (fun a' => ∀ w', C w' → wpList P l.toArray Q (l.drop m) a' w') (l.take m) a) : (Code.region id l.toArray true).wp P Q a w := by
  simp only [Region.lexTailB, Bool.and_eq_true, decide_eq_true_eq] at hB
  obtain ⟨⟨⟨⟨h1, h2⟩, h3⟩, h4⟩, h5⟩ := hB
  have hm : m < l.length := by simpa using h2
  have ht : (l.take m).length = m := by rw [List.length_take]; omega
  have H := headQ_lex (g := l.toArray.size - m) h1 h3 h4 h2 (l.take m) 0 _ a (fun j hj => by rw [ht] at hj; simp [hj]) (by omega)
    (⟨by simp, fun j oj _ hl => (by rw [getD_replicate_false] at hl; cases hl), fun t _ h => getD_in (by simpa using h) (getD_replicate_false _ _)⟩ : HeadInv .any l.toArray m (Array.replicate l.toArray.size false)) (by rw [ht]; exact h5) h
  have K := any_of_headQ (Q := Q) (g := l.toArray.size - m) (fun s a' w' hw' hL => by
    have := wpAny_of_seq (md := .any) (Q' := Q) (l.drop m) m s a' w' (fun j => by simp [List.getElem?_drop]) (by rw [show (l.drop m).length = l.toArray.size - m by simp]; exact hL.1) (hL.2 w' hw')
    rwa [show (l.drop m).length = l.toArray.size - m by simp] at this) _ _ _ _ hC H
  refine wp_region_any hf ?_
  rw [ht, show m + (l.toArray.size - m) = l.toArray.size by omega] at K
  exact K
end
/-- Regions whose first operations only add to the world. -/
theorem wp_region_quietE_tail {P : Program} {id : Nat} {Q : Exit → Act → World → Prop} {a : Act} {w : World} {l : List Oper} (m : Nat) (hf : P.follows .mixedOrders = true) (hB : Region.lexTailB .any l.toArray m = true)
    (h : wpQuiet P l.toArray (fun w' => ∃ x : EW w, w' = x.w) (fun a' => ∀ w', (∃ x : EW w, w' = x.w) → wpList P l.toArray Q (l.drop m) a' w') (l.take m) a) : (Code.region id l.toArray true).wp P Q a w :=
  wp_region_quiet_tail (C := fun w' => ∃ x : EW w, w' = x.w) m hf hB ⟨⟨_, (Ext.refl w).drew⟩, rfl⟩ h
/-- The same, the two parts written out. -/
theorem wp_region_quietE_cut {P : Program} {id : Nat} {Q : Exit → Act → World → Prop} {a : Act} {w : World} {l : List Oper} (m : Nat) {l1 l2 : List Oper} (hf : P.follows .mixedOrders = true) (hB : Region.lexTailB .any l.toArray m = true) (h1 : l.take m = l1) (h2 : l.drop m = l2)
    (h : wpQuiet P l.toArray (fun w' => ∃ x : EW w, w' = x.w) (fun a' => ∀ w', (∃ x : EW w, w' = x.w) → wpList P l.toArray Q l2 a' w') l1 a) : (Code.region id l.toArray true).wp P Q a w := by
  subst h1 h2
  exact wp_region_quietE_tail m hf hB h
theorem wp_code {P : Program} {c c' : Code} {Q : Exit → Act → World → Prop} {a : Act} {w : World} (h : c = c') (h' : c'.wp P Q a w) : c.wp P Q a w := h ▸ h'
theorem wp_gen {P : Program} {code : Code} {Q : Exit → Act → World → Prop} {a : Act} {w : World} (F : World → Prop) (hF : F w) (h : ∀ W, F W → code.wp P Q a W) : code.wp P Q a w := h w hF
end Go.Proofs.Ythjgcmifggdepaa
