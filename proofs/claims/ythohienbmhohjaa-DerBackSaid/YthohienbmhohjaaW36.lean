/- The walk: an element out of the dice. -/
import Derived.Test.YthohienbmhohjaaW35
import Derived.BigGuardPart
import Derived.Test.YthohienbmhohjaaSpec6
namespace Go.Proofs.Ythohienbmhohjaa
open Go.RowKit

/-! append to a row of the call's own, in a world in which the dice have turned -/
section
variable {P : Program} {w w' : World} {T : Nat → Prop} {base : Nat} {e : TypeId} {sz : Nat} {v : Value} {cs : List C}
theorem wp_app_B {t : TypeId} {bytes : Nat} (H : SlT P t e sz bytes) {base : Nat} {o : Oper} {a : Act} {K : Act → World → Prop} {Q : Exit → Act → World → Prop} (s x : Operand)
    (ho : o.op = .call { callee := .builtin .append, args := #[s, x], argTypes := #[t, t] }) (hx0 : base ≤ w.heap.size) (hown : OwnT T w base e sz v cs) (hs : a.eval s = v)
    {A : Option Addr} {m c : Nat} {cs' : List C} {us' : List Value} (hx : a.eval x = .slice A m c) (hl' : us'.length = m * sz) (hc' : 0 < m → ∃ ad, A = some ad ∧ ∀ j u, us'[j]? = some u → w.cell? (ad.add j) = some u)
    (hu' : RdUs w (fun b => T b ∧ b < w.heap.size ∧ v.ownBlock ≠ some b) cs' us') (hlen : (cs.length + cs'.length) * bytes ≤ 140737488355328)
    (h : ∀ A' n' c' w', OwnT T w' base e sz (.slice A' n' c') (cs ++ cs') → w.grownBy w' v.ownBlock → ((Value.slice A' n' c').ownBlock = v.ownBlock ∨ (Value.slice A' n' c').ownBlock = some w.heap.size) → K (a.put o.dst (.slice A' n' c')) w') :
    o.wp P a w K Q := by
  obtain ⟨i, z, h1, h2, h3, h4, h5⟩ := H.hi
  obtain ⟨v', w', hrun, g1, g2, g3⟩ := run_append_T (P := P) w base t o.type e i z sz bytes H.ht h1 h2 h3 h4 h5 H.hsz v cs hown A m c cs' us' hl' hc' hu' hlen H.hby hx0
  obtain ⟨A', n', c', rfl, _⟩ := g1.shape
  unfold Oper.wp execOp
  simp only [ho, resolve, invoke, builtin, Sem.run_bind, Sem.run_pure, Result.andThen_ok, List.map_toArray, List.map_cons, List.map_nil, hs, hx, hrun]
  exact h A' n' c' w' g1 g2 g3
/-- append of one element, which has just been laid in a new block. -/
theorem wpList_appB1 {t : TypeId} {bytes : Nat} (H : SlT P t e sz bytes) {base : Nat} {ops : Array Oper} {rest : List Oper} {o : Oper} {a : Act} {Q : Exit → Act → World → Prop} (hgd : o.guard = none) (s x : Operand)
    (ho : o.op = .call { callee := .builtin .append, args := #[s, x], argTypes := #[t, t] }) (hx0 : base ≤ w.heap.size) (hown : OwnT T w base e sz v cs) (hs : a.eval s = v)
    {us : List Value} {cs1 : List C} (hu : RdUs w (fun b => T b ∧ b < w.heap.size ∧ v.ownBlock ≠ some b) cs1 us) (h1 : cs1.length = sz) {B : Nat} (hx : a.eval x = .slice (some ⟨B, 0, none⟩) 1 1) (hB : B = w.heap.size) (hlen : (cs.length + cs1.length) * bytes ≤ 140737488355328)
    (h : ∀ A' n' c' w', OwnT T w' base e sz (.slice A' n' c') (cs ++ cs1) → w.grownBy w' v.ownBlock → wpList P ops Q rest (a.put o.dst (.slice A' n' c')) w') :
    wpList P ops Q (o :: rest) a (w.alloc (.cells us.toArray e)) := by
  subst hB
  have hu2 : RdUs (w.alloc (.cells us.toArray e)) (fun b => T b ∧ b < (w.alloc (.cells us.toArray e)).heap.size ∧ v.ownBlock ≠ some b) cs1 us := hu.keep_ (fun b hb => Below.heap_alloc w _ b hb.2.1) (fun b hb => ⟨hb.1, by have := hb.2.1; simp; omega, hb.2.2⟩)
  refine wpList_plain hgd fun _ hK => wp_app_B H s x ho (by simp; omega) (hown.ext ((Ext.refl _).alloc _)) hs hx (by rw [← hu.1, h1, Nat.one_mul]) (fun _ => ⟨_, rfl, fun j u hj => ?_⟩) hu2 hlen fun A' n' c' w' g1 g3 g4 => hK _ _ (h A' n' c' w' g1 (grown_of_alloc g3 fun k hk => (hown.base_le k hk).2))
  have hjl : j < us.length := (List.getElem?_eq_some_iff.1 hj).1
  have e1 : (w.alloc (.cells us.toArray e)).cell? ⟨w.heap.size, j, none⟩ = some u := by
    simp only [World.cell?, heap_alloc_new]
    simpa using hj
  unfold Addr.add
  split
  · rename_i h0; subst h0; exact e1
  · simpa using e1
/-- An own row, while only the dice turn. -/
theorem OwnT.dice {g : Nat} {a b : World} (h : OwnT T a base e sz v cs) (hg : g < base) (hT : ∀ k, T k → k ≠ g) (hx : ExtD g a b) : OwnT T b base e sz v cs := by
  obtain ⟨n, us, ho, hr⟩ := h
  refine ⟨n, us, ⟨ho.1, ?_⟩, hr.keep_ (fun k hk => hx.block k hk.2.1 (hT k hk.1)) (fun k hk => ⟨hk.1, Nat.lt_of_lt_of_le hk.2.1 hx.size, hk.2.2⟩)⟩
  rcases ho.2 with h1 | ⟨q, cap, cur, hv, hb, hq, r⟩
  · exact .inl h1
  · exact .inr ⟨q, cap, cur, hv, hb, by rw [hx.block q (Array.getElem?_eq_some_iff.1 hq).1 (by omega)]; exact hq, r⟩
end

/-- How great an element out of the dice may be. -/
def bound (k : Nat) : Nat := 300 * 4 ^ k
theorem bound_succ (k : Nat) : bound (k + 1) = 4 * bound k := by unfold bound; rw [Nat.pow_succ]; omega
theorem bound_pos (k : Nat) : 300 ≤ bound k := by
  unfold bound
  have := Nat.one_le_pow k 4 (by omega)
  omega
theorem bound_le {k : Nat} (h : k ≤ 5) : bound k ≤ 307200 := by
  have e : bound 5 = 307200 := by decide
  rw [← e]
  unfold bound
  exact Nat.mul_le_mul_left _ (Nat.pow_le_pow_right (by omega) h)
def Small (k : Nat) (d : V) : Prop := d.depth ≤ k + 1 ∧ d.put.length ≤ bound k ∧ d.wt ≤ bound k
def ElemRes (g k : Nat) (w : World) (e : Ending) (w' : World) : Prop := ∃ d v, e = .returned v ∧ RdV w' (New w w') d v ∧ Small k d ∧ Dice w' g ∧ ExtD g w w'

/-- A plain element of few bytes. -/
theorem small_plain (k : Nat) (t : Int) (b : List UInt8) (hb : b.length ≤ 280) : Small k (.mk t b false []) := by
  have h1 := bound_pos k
  have h2 := lenB_le (n := b.length) (by omega)
  refine ⟨by rw [V.depth, depthAll]; omega, ?_, by rw [V.wt, wtAll]; omega⟩
  have hbody : (V.mk t b false []).body = b := by simp [V.body]
  rw [put_eq, hbody]
  simp
  omega
theorem small_list (k : Nat) (hk : k + 1 ≤ 5) (t : Int) (es : List V) (h3 : es.length ≤ 3) (h : ∀ d ∈ es, Small k d) : Small (k + 1) (.mk t [] true es) := by
  have hb := bound_pos k
  have hs := bound_succ k
  have hl := bound_le (k := k) (by omega)
  have key : ∀ es : List V, (∀ d ∈ es, Small k d) → depthAll es ≤ k + 1 ∧ (putAll es).length ≤ es.length * bound k ∧ wtAll es ≤ es.length * bound k := by
    intro es
    induction es with
    | nil => intro _; simp [depthAll, putAll, wtAll]
    | cons d ds ih =>
      intro h
      have h1 := h d (List.mem_cons_self ..)
      have h2 := ih fun d' hd => h d' (List.mem_cons_of_mem _ hd)
      obtain ⟨a1, a2, a3⟩ := h1
      rw [depthAll, putAll, wtAll, List.length_append, List.length_cons, Nat.add_mul]
      omega
  obtain ⟨k1, k2, k3⟩ := key es h
  have hm : es.length * bound k ≤ 3 * bound k := Nat.mul_le_mul_right _ h3
  have h2 := lenB_le (n := (putAll es).length) (by omega)
  refine ⟨by rw [V.depth]; omega, ?_, by rw [V.wt]; simp; omega⟩
  have hbody : (V.mk t [] true es).body = putAll es := by simp [V.body]
  rw [put_eq, hbody]
  simp
  omega
theorem small_nil (k : Nat) (t : Int) : Small k (.mk t [] true []) := by
  have hb := bound_pos k
  have h2 := lenB_le (n := 0) (by omega)
  refine ⟨by rw [V.depth, depthAll]; omega, ?_, by rw [V.wt, wtAll]; simp; omega⟩
  have hbody : (V.mk t [] true []).body = [] := by simp [V.body, putAll]
  rw [put_eq, hbody]
  simp
  omega
theorem small_int (k : Nat) (n : Int) : Small k (intV n) := small_plain k 2 (intB n) (by have := intB_len n; omega)
theorem small_text (k : Nat) (s : ByteArray) (h : s.size ≤ 10) : Small k (textV s) := small_plain k 12 s.data.toList (by have : s.data.toList.length = s.size := rfl; omega)
theorem small_bool (k : Nat) (b : Bool) : Small k (boolV b) := small_plain k 1 _ (by simp)
theorem Small.mono {k : Nat} {d : V} (h : Small k d) : Small (k + 1) d := by
  obtain ⟨h1, h2, h3⟩ := h
  have := bound_succ k
  exact ⟨by omega, by omega, by omega⟩

/-- The result's block is filled with an element that came new. -/
theorem fin_el {w wb : World} {d : V} {v : Value} (hw : w.heap.size < wb.heap.size) (h : RdV wb (fun b => w.heap.size < b ∧ b < wb.heap.size) d v) (u0 u1 u2 u3 : Value) :
    RdV ((((wb.setCell { block := w.heap.size, off := 0 } u0).setCell { block := w.heap.size, off := 1 } u1).setCell { block := w.heap.size, off := 2 } u2).setCell { block := w.heap.size, off := 3 } u3)
      (New w ((((wb.setCell { block := w.heap.size, off := 0 } u0).setCell { block := w.heap.size, off := 1 } u1).setCell { block := w.heap.size, off := 2 } u2).setCell { block := w.heap.size, off := 3 } u3)) d v := by
  refine h.keep_ (fun b hb => ?_) (fun b hb => ⟨by omega, by simp only [World.size_setCell]; exact hb.2⟩)
  have hne : b ≠ w.heap.size := by omega
  rw [Below.heap_setCell _ _ _ _ (by exact hne), Below.heap_setCell _ _ _ _ (by exact hne), Below.heap_setCell _ _ _ _ (by exact hne), Below.heap_setCell _ _ _ _ (by exact hne)]
theorem fin_dice {g : Nat} {w wb : World} (hg : g < w.heap.size) (h : Dice wb g) (u0 u1 u2 u3 : Value) :
    Dice ((((wb.setCell { block := w.heap.size, off := 0 } u0).setCell { block := w.heap.size, off := 1 } u1).setCell { block := w.heap.size, off := 2 } u2).setCell { block := w.heap.size, off := 3 } u3) g :=
  (((h.setCell (by exact hg) _).setCell (by exact hg) _).setCell (by exact hg) _).setCell (by exact hg) _
theorem fin_extd {g : Nat} {w wb : World} (h : ExtD g w wb) (u0 u1 u2 u3 : Value) :
    ExtD g w ((((wb.setCell { block := w.heap.size, off := 0 } u0).setCell { block := w.heap.size, off := 1 } u1).setCell { block := w.heap.size, off := 2 } u2).setCell { block := w.heap.size, off := 3 } u3) :=
  (((h.setCell (.inr (Nat.le_refl _)) _).setCell (.inr (Nat.le_refl _)) _).setCell (.inr (Nat.le_refl _)) _).setCell (.inr (Nat.le_refl _)) _
end Go.Proofs.Ythohienbmhohjaa
