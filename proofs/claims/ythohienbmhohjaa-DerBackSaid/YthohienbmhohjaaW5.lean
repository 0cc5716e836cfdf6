/- The walks: what makes elements: numbers, texts, truth values. -/
import Derived.Test.YthohienbmhohjaaW3
import Derived.Test.YthohienbmhohjaaSpec2
namespace Go.Proofs.Ythohienbmhohjaa
open Go.RowKit

theorem info5 : (Try.prog.info? 5).map (fun i => (i.zero, i.size, i.bytes)) = some (some (.int .u8 0), 1, 1) := by kernel_rfl
theorem sl22 : SlT Try.prog 22 5 1 1 := SlT.mk' Try.underlying22 info5 rfl (by decide) (by decide)

/-- The first two bytes of a slice that has two. -/
theorem RdC.two {w : World} {S : Nat → Prop} {l : List UInt8} {A : Option Addr} {m c : Nat} (h : RdC w S (.sl 1 (bytesC l)) (.slice A m c)) (hm : 2 ≤ m) :
    ∃ ad x y r, A = some ad ∧ l = x :: y :: r ∧ w.cell? ad = some (.int .u8 x.toNat) ∧ w.cell? { block := ad.block, off := ad.off + 1 } = some (.int .u8 y.toNat) := by
  obtain ⟨ad, x, rfl, -, e1, c1⟩ := RdC.byte h (k := 0) (by omega)
  obtain ⟨ad', y, e, -, e2, c2⟩ := RdC.byte h (k := 1) (by omega)
  injection e with e
  subst e
  match l, e1, e2 with
  | x' :: y' :: r, e1, e2 =>
    simp at e1 e2
    subst e1 e2
    exact ⟨ad, _, _, r, rfl, rfl, by simpa [Addr.add] using c1, by simpa [Addr.add] using c2⟩
theorem RdC.tail1 {w : World} {S : Nat → Prop} {x : UInt8} {l : List UInt8} {ad : Addr} {m c : Nat} (h : RdC w S (.sl 1 (bytesC (x :: l))) (.slice (some ad) m c)) (hm : 2 ≤ m) :
    RdC w S (.sl 1 (bytesC l)) (.slice (some { block := ad.block, off := ad.off + 1 }) (m - 1) (c - 1)) := by
  have hl := RdC.blen h
  have := RdC.cut h (i := 1) (j := m) (cap' := c - 1) (A' := some { block := ad.block, off := ad.off + 1 }) (by omega) (Nat.le_refl _) (by omega) (by unfold maxLen at *; omega)
    (fun a ha _ => by injection ha with ha; subst ha; simp [Addr.add])
  have e : List.take ((m - 1) * 1) (List.drop (1 * 1) (bytesC (x :: l))) = bytesC l := by
    have : (bytesC l).length = m - 1 := by have := hl.1; rw [bytesC_length]; simp at this; omega
    rw [Nat.mul_one, ← this]
    exact List.take_of_length_le (by simp [bytesC])
  rwa [e] at this
/-- Bytes that the call has appended lie in a block of its own. -/
theorem Own.flat {w : World} {base : Nat} {e : TypeId} {v : Value} {l : List UInt8} (h : Own w base e 1 v (bytesC l)) : RdC w (fun b => base ≤ b ∧ b < w.heap.size) (.sl 1 (bytesC l)) v := by
  obtain ⟨n, us, h1, h2, h3, h4⟩ := h.form
  rcases h4 with ⟨rfl, rfl⟩ | ⟨g, cap, rfl, hb, hg, hn, hm, hc, _⟩
  · have : bytesC l = [] := List.eq_nil_of_length_eq_zero (by simpa using h1)
    rw [this]
    exact RdC.nil_ 1
  · refine RdC.mk_slice h1 hn hm fun _ => ⟨⟨g, 0, none⟩, rfl, ⟨hb, hg⟩, fun j c hj => ?_⟩
    have hjl : j < us.length := by rw [← h3.1]; exact (List.getElem?_eq_some_iff.1 hj).1
    have hr := h3.2 j c _ hj (List.getElem?_eq_getElem hjl)
    obtain ⟨x, rfl⟩ : ∃ x : UInt8, c = .int .u8 x.toNat := by
      simp [bytesC] at hj
      obtain ⟨x, _, rfl⟩ := hj
      exact ⟨x, rfl⟩
    refine ⟨us[j], ?_, by unfold RdC at hr ⊢; exact hr⟩
    have := hc j _ (List.getElem?_eq_getElem hjl)
    unfold Addr.add
    split
    · rename_i h0; subst h0; exact this
    · simpa using this
theorem strip_yes {x y : UInt8} {r : List UInt8} (h : ((x.toNat : Int) = 0 ∧ (y.toNat : Int) < 128) ∨ ((x.toNat : Int) = 255 ∧ (128 : Int) ≤ y.toNat)) : strip (x :: y :: r) = strip (y :: r) := by
  rw [strip, if_pos]
  rcases h with ⟨h1, h2⟩ | ⟨h1, h2⟩
  · exact .inl ⟨UInt8.toNat.inj (by simpa using h1), by rw [UInt8.lt_iff_toNat_lt]; simp; omega⟩
  · exact .inr ⟨UInt8.toNat.inj (by simp; omega), by rw [UInt8.le_iff_toNat_le]; simp; omega⟩
theorem strip_no {x y : UInt8} {r : List UInt8} (h : ¬ (((x.toNat : Int) = 0 ∧ (y.toNat : Int) < 128) ∨ ((x.toNat : Int) = 255 ∧ (128 : Int) ≤ y.toNat))) : strip (x :: y :: r) = x :: y :: r := by
  rw [strip, if_neg]
  rintro (⟨h1, h2⟩ | ⟨h1, h2⟩)
  · exact h (.inl ⟨by rw [h1]; rfl, by rw [UInt8.lt_iff_toNat_lt] at h2; simp at h2; omega⟩)
  · exact h (.inr ⟨by rw [h1]; rfl, by rw [UInt8.le_iff_toNat_le] at h2; simp at h2; omega⟩)

def sliceLen : Value → Nat | .slice _ m _ => m | _ => 0

/-- The four cells of a struct of the call's own. -/
theorem four {wr : World} {g : Nat} {a b c d : Value} {t : TypeId} (h : wr.heap[g]? = some (.cells #[a, b, c, d] t)) :
    (wr.cell? { block := g, off := 0 } = some a ∧ wr.cell? { block := g, off := 1 } = some b ∧ wr.cell? { block := g, off := 2 } = some c ∧ wr.cell? { block := g, off := 3 } = some d) ∧
    (wr.frozen? { block := g, off := 0 } = false ∧ wr.frozen? { block := g, off := 1 } = false ∧ wr.frozen? { block := g, off := 2 } = false ∧ wr.frozen? { block := g, off := 3 } = false) := by
  simp [World.cell?, World.frozen?, h]

set_option maxRecDepth 100000 in
set_option maxHeartbeats 1600000 in
theorem int_any (n : Int) (w : World) :
    Calls Try.prog 10 #[.int .i64 n] w fun e w' => ∃ v, e = .returned v ∧ RdV w' (New w w') (intV n) v ∧ Ext w w' := by
  go_enter Try.func10, Try.ntmps10
  go_wp2
  go_loopw [3, 4] (fun b i wr => ∃ k : Nat, k ≤ 8 ∧ i = .int .i64 (56 - 8 * (k : Int)) ∧ Ext (w.alloc (.cells #[.int .i64 0, .slice none 0 0, .bool false, .slice none 0 0] 29)) wr ∧ Own wr (w.alloc (.cells #[.int .i64 0, .slice none 0 0, .bool false, .slice none 0 0] 29)).heap.size 5 1 b (bytesC (beK n k))) (fun _ i _ => (8 + intOf i).toNat)
  case atStart => exact ⟨0, by omega, rfl, Ext.refl _, Own.nil_ _ _ _ _⟩
  case round =>
    obtain ⟨k, hk, rfl, hx, hown⟩ := hrel
    by_cases hlt : k < 8
    · have hp := u64_wrap_pos n
      go_wp2_with (at_builtin; go_loud (refine wpList_app1 sl22 (by rfl) _ _ (by rfl) (by exact hx) (by exact hown) (by rfl) (by exact RdUs.int_ (u8_range (by omega))) (by rfl) (by rfl) (by simp [bytesC, beK]; omega) ?_); intro A' n' c' w' hown' hx' _ _)
      go_roundw
      case rel => exact ⟨k + 1, by omega, by go_num, hx', by rw [beK_succ]; exact hown'⟩
      case measure => simp [intOf]; omega
    · obtain rfl : k = 8 := by omega
      obtain ⟨⟨q0, q1, q2, q3⟩, ⟨f0, f1, f2, f3⟩⟩ := four hx.blk
      have hR := hown.flat
      obtain ⟨A, m, c, rfl, hm, hmc, hcl⟩ := hown.shape
      clear hown
      have hm8 : m = 8 := by simp [bytesC, beK] at hm; omega
      clear hm
      subst hm8
      have fin : ∀ A m c l, RdC wr (fun b => (w.alloc (.cells #[.int .i64 0, .slice none 0 0, .bool false, .slice none 0 0] 29)).heap.size ≤ b ∧ b < wr.heap.size) (.sl 1 (bytesC l)) (.slice A m c) → l = intB n →
          ∀ w', w' = (((wr.setCell { block := w.heap.size, off := 0 } (.int .i64 2)).setCell { block := w.heap.size, off := 1 } (.slice A m c)).setCell { block := w.heap.size, off := 2 } (.bool false)).setCell { block := w.heap.size, off := 3 } (.slice none 0 0) →
          RdV w' (New w w') (intV n) (.agg #[.int .i64 2, .slice A m c, .bool false, .slice none 0 0]) ∧ Ext w w' := by
        intro A m c l h1 h2 w' h3
        subst h2 h3
        refine ⟨RdV.mk_ (by omega) (RdC.keep_ (fun b hb => ?_) (fun b hb => ?_) _ _ h1) (RdC.nil_ 4), (((((((Ext.refl _).alloc _).trans hx).setCell (Nat.le_refl _) _).setCell (Nat.le_refl _) _).setCell (Nat.le_refl _) _).setCell (Nat.le_refl _) _)⟩
        · have hb1 := hb.1
          simp at hb1
          have hne : b ≠ w.heap.size := by omega
          rw [Below.heap_setCell _ _ _ _ (by exact hne), Below.heap_setCell _ _ _ _ (by exact hne), Below.heap_setCell _ _ _ _ (by exact hne), Below.heap_setCell _ _ _ _ (by exact hne)]
        · have hb1 := hb.1
          simp at hb1
          exact ⟨by omega, by simpa [World.setCell] using hb.2⟩
      have FIN := Lib.hid fin
      clear fin
      go_wp2
      go_loop [3] (fun b => ∃ A m c l, b = .slice A m c ∧ RdC wr (fun b => (w.alloc (.cells #[.int .i64 0, .slice none 0 0, .bool false, .slice none 0 0] 29)).heap.size ≤ b ∧ b < wr.heap.size) (.sl 1 (bytesC l)) (.slice A m c) ∧ Hid (strip l = intB n) ∧ 1 ≤ m ∧ m ≤ c ∧ c ≤ 9223372036854775807) (fun b => sliceLen b)
      case atStart => exact ⟨A, 8, c, _, rfl, hR, rfl, by omega, hmc, by unfold maxLen at hcl; omega⟩
      case round =>
        obtain ⟨A, m, c, l, rfl, hl, HS, hm1, hm2, hm3⟩ := hrel
        by_cases hm : m < 2
        · obtain rfl : m = 1 := by omega
          go_wp2
          have hs : l = intB n := by
            have := (RdC.blen hl).1
            match l, this with
            | [x], _ => exact HS.out
          exact bodyPost_ret (v := .agg #[.int .i64 2, .slice A 1 c, .bool false, .slice none 0 0]) (by simp [results, Try.results10, go_sem, q0, q1, q2, q3]) rfl ⟨_, rfl, FIN.out A 1 c l hl hs _ rfl⟩
        · have hm' : 2 ≤ m := by omega
          obtain ⟨ad, x, y, r, rfl, rfl, c0, c1⟩ := RdC.two hl hm'
          have hm'' : (1 : Int) < (m : Int) := by omega
          clear hm
          have ret : ∀ (h : ¬ (((x.toNat : Int) = 0 ∧ (y.toNat : Int) < 128) ∨ ((x.toNat : Int) = 255 ∧ (128 : Int) ≤ y.toNat))), x :: y :: r = intB n := fun h => by rw [← HS.out, strip_no h]
          have RET := Lib.hid ret
          have go : ∀ (h : (((x.toNat : Int) = 0 ∧ (y.toNat : Int) < 128) ∨ ((x.toNat : Int) = 255 ∧ (128 : Int) ≤ y.toNat))), strip (y :: r) = intB n := fun h => by rw [← HS.out, strip_yes h]
          have GO := Lib.hid go
          clear ret go
          go_wp2
          · go_round
            case rel => exact ⟨_, _, _, _, rfl, hl.tail1 hm', GO.out (by omega), by omega, by omega, by omega⟩
            case measure => simp [sliceLen]; omega
          · exact bodyPost_ret (v := .agg #[.int .i64 2, .slice (some ad) m c, .bool false, .slice none 0 0]) (by simp [results, Try.results10, go_sem, q0, q1, q2, q3]) rfl ⟨_, rfl, FIN.out _ m c _ hl (RET.out (by omega)) _ rfl⟩
          · go_round
            case rel => exact ⟨_, _, _, _, rfl, hl.tail1 hm', GO.out (by omega), by omega, by omega, by omega⟩
            case measure => simp [sliceLen]; omega
          · exact bodyPost_ret (v := .agg #[.int .i64 2, .slice (some ad) m c, .bool false, .slice none 0 0]) (by simp [results, Try.results10, go_sem, q0, q1, q2, q3]) rfl ⟨_, rfl, FIN.out _ m c _ hl (RET.out (by omega)) _ rfl⟩
          · exact bodyPost_ret (v := .agg #[.int .i64 2, .slice (some ad) m c, .bool false, .slice none 0 0]) (by simp [results, Try.results10, go_sem, q0, q1, q2, q3]) rfl ⟨_, rfl, FIN.out _ m c _ hl (RET.out (by omega)) _ rfl⟩
end Go.Proofs.Ythohienbmhohjaa
