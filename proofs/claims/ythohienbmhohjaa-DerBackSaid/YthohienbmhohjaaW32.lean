/- Laying elements by literals, and wrapping one into a list. -/
import Derived.Test.YthohienbmhohjaaW31
import Derived.Laws.MakeOwn
namespace Go.Proofs.Ythohienbmhohjaa
open Go.RowKit

/-- Zeros, as many as are asked for. -/
theorem zeros_cells (k : Nat) : madeCells (Value.int .u8 0).cells (k * 1) = Array.replicate k (Value.int .u8 0) := by
  apply Array.toList_inj.1
  rw [Nat.mul_one, show (Value.int .u8 0).cells = #[Value.int .u8 0] from rfl, toList_madeCells_one]
  simp
theorem zeros_rd (k : Nat) (hk : k ≤ 65536) (w : World) : Rd (w.alloc (.cells (Array.replicate k (Value.int .u8 0)) 5)) (.sl 1 (bytesC (List.replicate k 0))) (.slice (some ⟨w.heap.size, 0, none⟩) k k) := by
  have h := bytes_lit w (List.replicate k 0) k (by simp) (by unfold maxLen; omega)
  rw [show ((List.replicate k (0 : UInt8)).map fun x => Value.int .u8 x.toNat).toArray = Array.replicate k (Value.int .u8 0) by apply Array.toList_inj.1; simp] at h
  exact h
theorem make_zeros (k : Nat) (hk : k ≤ 65536) (w : World) : (Instr.makeSlice 22 (.int .i64 (k : Int)) (.int .i64 (k : Int))).run Try.prog w = .ok (.slice (some ⟨w.heap.size, 0, none⟩) k k) (w.alloc (.cells (Array.replicate k (Value.int .u8 0)) 5)) := by
  obtain ⟨i, z1, z2, z3, z4⟩ := info_parts info5
  have hr := run_make (P := Try.prog) w 22 5 i (.int .u8 0) Try.underlying22 z1 z2 .i64 .i64 k k (by omega) (by omega) (by rw [z4]; omega) (by omega)
  rw [z3] at hr
  simp only [Int.toNat_natCast] at hr
  rw [zeros_cells] at hr
  exact hr

theorem wrap_put {d : V} (h : d.put.length < 281474976710656) : (V.mk 48 [] true [d]).put.length ≤ d.put.length + 8 := by
  rw [put_eq]
  have hb : (V.mk 48 [] true [d]).body = d.put := by simp [V.body, putAll]
  rw [hb]
  have := lenB_le (n := d.put.length) (by simpa using h)
  simp
  omega
theorem wrap_depth (d : V) : (V.mk 48 [] true [d]).depth = d.depth + 1 := by rw [V.depth, depthAll, depthAll]; omega
theorem wrap_small {d : V} {k : Nat} (hk : k ≤ 100) (h : d.depth ≤ k + 1 ∧ d.put.length ≤ 5000 + 8 * k) : (V.mk 48 [] true [d]).depth ≤ k + 1 + 1 ∧ (V.mk 48 [] true [d]).put.length ≤ 5000 + 8 * (k + 1) := by
  have h1 := wrap_put (d := d) (by omega)
  rw [wrap_depth]
  exact ⟨by omega, by omega⟩
theorem tag_put (t t' : Int) (b : List UInt8) (n : Bool) (es : List V) : (V.mk t' b n es).put.length = (V.mk t b n es).put.length := by rw [put_eq, put_eq]; rfl
theorem tag_depth (t t' : Int) (b : List UInt8) (n : Bool) (es : List V) : (V.mk t' b n es).depth = (V.mk t b n es).depth := by rw [V.depth, V.depth]

/-- What is in a variable of its own: it reads without the variable's block. -/
def InVar (w : World) (g : Nat) (d : V) (t : Int) (vb : Value) (nst : Bool) (ve : Value) : Prop :=
  w.heap[g]? = some (.cells #[.int .i64 t, vb, .bool nst, ve] 29) ∧ RdV w (fun b => b < w.heap.size ∧ b ≠ g) d (.agg #[.int .i64 t, vb, .bool nst, ve])
theorem InVar.val {w : World} {g : Nat} {d : V} {t : Int} {vb ve : Value} {nst : Bool} (h : InVar w g d t vb nst ve) : RdVal w d (.agg #[.int .i64 t, vb, .bool nst, ve]) := h.2.keep_ (fun _ _ => rfl) fun _ hb => hb.1
theorem InVar.lt {w : World} {g : Nat} {d : V} {t : Int} {vb ve : Value} {nst : Bool} (h : InVar w g d t vb nst ve) : g < w.heap.size := (Array.getElem?_eq_some_iff.1 h.1).1
theorem InVar.ext {w w' : World} {g : Nat} {d : V} {t : Int} {vb ve : Value} {nst : Bool} (h : InVar w g d t vb nst ve) (hx : Ext w w') : InVar w' g d t vb nst ve :=
  ⟨by rw [hx.block g h.lt]; exact h.1, h.2.keep_ (fun b hb => hx.block b hb.1) fun b hb => ⟨Nat.lt_of_lt_of_le hb.1 hx.size, hb.2⟩⟩
/-- The variable is wrapped into a list. -/
theorem InVar.wrap {w : World} {g : Nat} {t : Int} {b : List UInt8} {es : List V} {vb ve : Value} {nst : Bool} (h : InVar w g (.mk t b nst es) t vb nst ve) :
    InVar (((((w.alloc (.cells #[.int .i64 t, vb, .bool nst, ve] 29)).setCell { block := g, off := 0 } (.int .i64 48)).setCell { block := g, off := 1 } (.slice none 0 0)).setCell { block := g, off := 2 } (.bool true)).setCell { block := g, off := 3 } (.slice (some { block := w.heap.size, off := 0 }) 1 1))
      g (.mk 48 [] true [.mk t b nst es]) 48 (.slice none 0 0) true (.slice (some { block := w.heap.size, off := 0 }) 1 1) := by
  have hg := h.lt
  have hb1 : (w.alloc (.cells #[.int .i64 t, vb, .bool nst, ve] 29)).heap[g]? = some (.cells #[.int .i64 t, vb, .bool nst, ve] 29) := (((Ext.refl w).alloc _).block g hg).trans h.1
  refine ⟨?_, ?_⟩
  · have e1 := blk_set (i := 0) hb1 (.int .i64 48)
    have e2 := blk_set (i := 1) e1 (.slice none 0 0)
    have e3 := blk_set (i := 2) e2 (.bool true)
    have e4 := blk_set (i := 3) e3 (.slice (some { block := w.heap.size, off := 0 }) 1 1)
    rw [e4]
    simp
  · have hl : (encs [V.mk t b nst es]).length = 1 * 4 := by rw [encs_length]; rfl
    have e : encs [V.mk t b nst es] = (V.mk t b nst es).enc := by simp [encs]
    have hL : RdC (w.alloc (.cells #[.int .i64 t, vb, .bool nst, ve] 29)) (fun b => (b ≠ g ∨ w.heap.size ≤ b) ∧ b < (w.alloc (.cells #[.int .i64 t, vb, .bool nst, ve] 29)).heap.size) (.sl 4 (encs [V.mk t b nst es])) (.slice (some { block := w.heap.size, off := 0 }) 1 1) := by
      rw [e] at hl ⊢
      exact (OwnT.madeAt (T := fun b => b ≠ g) (base := w.heap.size) (e := 29) (sz := 4) (n := 1) w.heap.size rfl hl (by simp [maxLen]) (RdV.us h.2) (fun b hb => ⟨hb.2, hb.1⟩) (Nat.le_refl _)).rdT
    refine RdV.mk_ (by omega) (RdC.nil_ 1) (RdC.keep_ (fun b hb => ?_) (fun b hb => ?_) _ _ hL)
    · have hne : b ≠ g := by rcases hb.1 with h1 | h1 <;> omega
      rw [Below.heap_setCell _ _ _ _ (by exact hne), Below.heap_setCell _ _ _ _ (by exact hne), Below.heap_setCell _ _ _ _ (by exact hne), Below.heap_setCell _ _ _ _ (by exact hne)]
    · refine ⟨?_, by rcases hb.1 with h1 | h1 <;> omega⟩
      simp only [World.size_setCell]
      exact hb.2
/-- The variable at its start: a new element with zeros. -/
theorem InVar.zeros (k : Nat) (hk : k ≤ 65536) (w : World) : InVar ((w.alloc (.cells (Array.replicate k (Value.int .u8 0)) 5)).alloc (.cells #[.int .i64 4, .slice (some ⟨w.heap.size, 0, none⟩) k k, .bool false, .slice none 0 0] 29)) (w.heap.size + 1) (.mk 4 (List.replicate k 0) false []) 4 (.slice (some ⟨w.heap.size, 0, none⟩) k k) false (.slice none 0 0) := by
  refine ⟨?_, RdV.mk_ (by omega) (RdC.keep_ (fun b hb => ?_) (fun b hb => ?_) _ _ (zeros_rd k hk w)) (RdC.nil_ 4)⟩
  · have h := heap_alloc_new (w.alloc (.cells (Array.replicate k (Value.int .u8 0)) 5)) (.cells #[.int .i64 4, .slice (some ⟨w.heap.size, 0, none⟩) k k, .bool false, .slice none 0 0] 29)
    rwa [show (w.alloc (.cells (Array.replicate k (Value.int .u8 0)) 5)).heap.size = w.heap.size + 1 by simp] at h
  · exact ((Ext.refl _).alloc _).block b hb
  · have hb : b < (w.alloc (.cells (Array.replicate k (Value.int .u8 0)) 5)).heap.size := hb
    simp at hb ⊢
    omega
theorem zeros_small (k : Nat) (hk : k ≤ 4200) : (V.mk 4 (List.replicate k 0) false []).depth ≤ 0 + 1 ∧ (V.mk 4 (List.replicate k 0) false []).put.length ≤ 5000 + 8 * 0 := by
  refine ⟨by rw [V.depth, depthAll]; omega, ?_⟩
  rw [put_eq]
  have hb : (V.mk 4 (List.replicate k 0) false []).body = List.replicate k 0 := by simp [V.body]
  rw [hb]
  have := lenB_le (n := k) (by omega)
  simp
  omega
/-- The variable's tag is set. -/
theorem InVar.tag {w : World} {g : Nat} {t t' : Int} {b : List UInt8} {es : List V} {vb ve : Value} {nst : Bool} (h : InVar w g (.mk t b nst es) t vb nst ve) (ht : -9223372036854775808 ≤ t' ∧ t' ≤ 9223372036854775807) :
    InVar (w.setCell { block := g, off := 0 } (.int .i64 t')) g (.mk t' b nst es) t' vb nst ve := by
  refine ⟨?_, ?_⟩
  · rw [blk_set (i := 0) h.1 (.int .i64 t')]
    simp
  · obtain ⟨vb', ve', e1, _, hb, he⟩ := h.2
    simp only [Value.agg.injEq, Array.mk.injEq, List.cons.injEq] at e1
    obtain ⟨-, rfl, -, rfl, -⟩ := e1
    exact RdV.mk_ ht (RdC.keep_ (fun k hk => Below.heap_setCell _ _ _ _ (by exact hk.2)) (fun k hk => by simpa using hk) _ _ hb) (RdC.keep_ (fun k hk => Below.heap_setCell _ _ _ _ (by exact hk.2)) (fun k hk => by simpa using hk) _ _ he)
/-- The element of a literal of three. -/
theorem three_at (w : World) (t tg : Int) (m : Nat) (hm : m < 3) : (w.alloc (.cells #[.int .i64 t, .int .i64 t, .int .i64 tg] 3)).cell? { block := w.heap.size, off := m } = some (.int .i64 (if m = 2 then tg else t)) := by
  simp only [World.cell?, heap_alloc_new]
  rcases (by omega : m = 0 ∨ m = 1 ∨ m = 2) with rfl | rfl | rfl <;> simp
theorem rdTwo {w : World} {S : Nat → Prop} {x y : UInt8} {E F : Int} (h : E = (x.toNat : Int)) (h' : F = (y.toNat : Int)) : RdUs w S (bytesC [x, y]) [.int .u8 E, .int .u8 F] := by
  have := (rdByte (w := w) (S := S) h).append (rdByte (w := w) (S := S) h')
  exact this
end Go.Proofs.Ythohienbmhohjaa
