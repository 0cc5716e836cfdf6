/- The walks: copies of elements. -/
import Derived.Test.YthohienbmhohjaaW8
import Derived.Test.YthohienbmhohjaaBase2
namespace Go.Proofs.Ythohienbmhohjaa
open Go.RowKit

theorem info29 : (Try.prog.info? 29).map (fun i => (i.zero, i.size, i.bytes)) = some (some (.agg #[.int .i64 0, .slice none 0 0, .bool false, .slice none 0 0]), 4, 64) := by kernel_rfl
theorem sl27 : SlT Try.prog 27 29 4 64 := SlT.mk' Try.underlying27 info29 rfl (by decide) (by decide)

set_option maxRecDepth 100000 in
set_option maxHeartbeats 800000 in
theorem clone_any (l : List UInt8) (A : Option Addr) (n c : Nat) (w : World) (h : Rd w (.sl 1 (bytesC l)) (.slice A n c)) (hl : l.length ≤ 1000000000000) :
    Calls Try.prog 73 #[.slice A n c] w fun e w' => ∃ A' n' c', e = .returned (.slice A' n' c') ∧ RdC w' (New w w') (.sl 1 (bytesC l)) (.slice A' n' c') ∧ Ext w w' := by
  have keq := fun (w : World) (a : Option Addr) (n c : Nat) => Lib.run_eql_slice_nil (P := Try.prog) w 22 5 a n c 0 0 Try.underlying22
  cases A with
  | none =>
    have h0 : l = [] := by
      rcases Nat.eq_zero_or_pos n with h0 | h0
      · exact List.eq_nil_of_length_eq_zero (by have := (RdC.blen h).1; omega)
      · obtain ⟨ad, _, e1, _⟩ := RdC.byte h h0; cases e1
    subst h0
    go_enter Try.func73, Try.ntmps73
    go_wp2
    go_ret
    exact ⟨none, 0, 0, rfl, RdC.nil_ 1, Ext.refl _⟩
  | some ad =>
    have hb1 := (RdC.blen h).1
    go_enter Try.func73, Try.ntmps73
    go_wp2_with (at_builtin; refine wpList_appF (T := fun _ => False) (a0 := w) sl22 (by rfl) _ _ (by rfl) (by exact (Ext.refl _).alloc _) (by exact OwnT.made (n := 0) (us := []) (cs := []) (S := fun _ => False) rfl (by simp [maxLen]) ⟨rfl, fun _ _ _ h _ => by simp at h⟩ (fun _ h => h.elim) (Nat.le_refl _)) (by rfl) (by rfl) (by exact h.ext ((Ext.refl _).alloc _)) (bytesC_flat l) (by simp [bytesC]; omega) ?_; intro A' n' c' w' hown' hx' _ _)
    go_ret
    exact ⟨A', n', c', rfl, by simpa using hown'.newF, hx'⟩

/-- Two fields of a struct of the call's own, stored. -/
theorem fix_two {wr w3 : World} {o : Obj} (hy : Ext (wr.alloc o) w3) (i j : Nat) (u u' : Value) : Ext wr ((w3.setCell { block := wr.heap.size, off := i } u).setCell { block := wr.heap.size, off := j } u') :=
  ((((Ext.refl _).alloc _).trans hy).setCell (Nat.le_refl _) _).setCell (Nat.le_refl _) _
theorem copy_el {wr w2 w3 : World} {o : Obj} (hx2 : Ext (wr.alloc o) w2) (hx3 : Ext w2 w3) {t : Int} {b : List UInt8} {nst : Bool} {es : List V} {u u' vb ve : Value} (ht : -9223372036854775808 ≤ t ∧ t ≤ 9223372036854775807)
    (h2 : RdC w2 (New (wr.alloc o) w2) (.sl 1 (bytesC b)) vb) (h3 : RdC w3 (New w2 w3) (.sl 4 (encs es)) ve) (i j : Nat) {S : Nat → Prop} (hS : ∀ b, wr.heap.size < b → b < w3.heap.size → S b) :
    RdUs ((w3.setCell { block := wr.heap.size, off := i } u).setCell { block := wr.heap.size, off := j } u') S (V.mk t b nst es).enc [.int .i64 t, vb, .bool nst, ve] := by
  have hk : ∀ b, wr.heap.size < b → ((w3.setCell { block := wr.heap.size, off := i } u).setCell { block := wr.heap.size, off := j } u').heap[b]? = w3.heap[b]? := fun b hb => by
    rw [Below.heap_setCell _ _ _ _ (by show b ≠ wr.heap.size; omega), Below.heap_setCell _ _ _ _ (by show b ≠ wr.heap.size; omega)]
  have hz : wr.heap.size < w2.heap.size := by have := hx2.size; simp at this; omega
  refine RdV.us (RdV.mk_ ht ?_ ?_)
  · refine RdC.keep_ (fun b hb => (hk b ?_).trans (hx3.block b hb.2)) (fun b hb => hS b ?_ (Nat.lt_of_lt_of_le hb.2 hx3.size)) _ _ h2
    · have := hb.1; simp at this; omega
    · have := hb.1; simp at this; omega
  · refine RdC.keep_ (fun b hb => hk b (Nat.lt_of_lt_of_le hz hb.1)) (fun b hb => hS b (Nat.lt_of_lt_of_le hz hb.1) hb.2) _ _ h3
theorem RdC.undrew {w w2 : World} {c : C} {v : Value} {o : Obj} (h : RdC w2 (New (w.alloc o).drew w2) c v) : RdC w2 (New (w.alloc o) w2) c v := h

/-- copied, of the elements themselves. -/
def CopyOf (f : FuncId) (es : List V) : Prop := ∀ (A : Option Addr) (n c : Nat) (w : World), Rd w (.sl 4 (encs es)) (.slice A n c) → (encs es).length ≤ 1000000000 →
  Calls Try.prog f #[.slice A n c] w fun e w' => ∃ A' n' c', e = .returned (.slice A' n' c') ∧ RdC w' (New w w') (.sl 4 (encs es)) (.slice A' n' c') ∧ Ext w w'

set_option maxRecDepth 100000 in
set_option maxHeartbeats 1600000 in
theorem copied_step (es : List V) (ih : ∀ t b n es', V.mk t b n es' ∈ es → b.length ≤ 1000000000000 ∧ CopyOf 63 es' ∧ (encs es').length ≤ 1000000000) : CopyOf 63 es := by
  intro A n c w h hlen
  have hl := (RdC.len h).1
  have hcap := (RdC.len h).2
  unfold maxLen at hcap
  rw [encs_length] at hl hlen
  have HL : Hid (es.length = n) := by show es.length = n; omega
  have hn : n ≤ 250000000 := by omega
  clear hl hlen
  have HI := Lib.hid ih
  clear ih
  go_enter Try.func63, Try.ntmps63
  go_wp2
  go_loopw [3, 8] (fun out i wr => ∃ k : Nat, k ≤ n ∧ i = .int .i64 k ∧ Ext w wr ∧ OwnT (fun b => w.heap.size ≤ b) wr w.heap.size 29 4 out (encs (es.take k))) (fun _ i _ => n - (intOf i).toNat)
  case atStart => exact ⟨0, by omega, rfl, Ext.refl _, OwnT.nil_ _ _ _ _ _⟩
  case round =>
    obtain ⟨k, hk, rfl, hx, hown⟩ := hrel
    by_cases hlt : k < n
    · obtain ⟨ad, t, b, nst, es1, Ab, nb, cb, Ae, ne, ce, rfl, -, hd, hv, c0, c1, c2, c3⟩ := (h.ext hx).elem hlt
      have HV := Lib.hid hv
      have HD := Lib.hid hd
      obtain ⟨hb1, hc1, hl1⟩ := HI.out t b nst es1 (List.mem_of_getElem? hd)
      have HC := Lib.hid hc1
      clear hv hd hc1
      obtain ⟨_, _, _, _, _, _, ev, ht1, rb, re, -⟩ := HV.out.opened
      simp only [Value.agg.injEq, Array.mk.injEq, List.cons.injEq, Value.slice.injEq] at ev
      obtain ⟨-, ⟨rfl, rfl, rfl⟩, -, ⟨rfl, rfl, rfl⟩, -⟩ := ev
      go_wp2
      go_region_with (first | (go_at_call 73; refine (clone_any b _ _ _ _ (rb.ext ((Ext.refl _).alloc _).drew) hb1).mono ?_; rintro e w2 ⟨A2, n2, c2, rfl, hr2, hx2⟩; have hy2 := Ext.trans (Ext.refl _).drew hx2; obtain ⟨⟨q0, q1, q2, q3⟩, ⟨f0, f1, f2, f3⟩⟩ := four hy2.blk; have hbk2 := hy2.blk) | (go_at_call 63; refine (HC.out _ _ _ _ (re.ext (((Ext.refl _).alloc _).trans hy2)) hl1).mono ?_; rintro e w3 ⟨A3, n3, c3, rfl, hr3, hx3⟩; obtain ⟨⟨p0, p1, p2, p3⟩, ⟨g0, g1, g2, g3⟩⟩ := four (hy2.trans hx3).blk; have hbk3 := (hy2.trans hx3).blk))
      all_goals
        have HY := Lib.hid (hy2.trans hx3)
        have hlt' : ∀ k', u3.ownBlock = some k' → k' < wr.heap.size := fun k' e => (hown.base_le k' e).2
        have hu := copy_el hy2 hx3 (b := b) (nst := nst) (es := es1) (u := .slice A2 n2 c2) (u' := .slice A3 n3 c3) ht1 hr2.undrew hr3 1 3 (S := fun b => w.heap.size ≤ b ∧ b < ((w3.setCell { block := wr.heap.size, off := 1 } (.slice A2 n2 c2)).setCell { block := wr.heap.size, off := 3 } (.slice A3 n3 c3)).heap.size ∧ u3.ownBlock ≠ some b) (fun b g1 g2 => ⟨by have := hx.size; omega, by simpa [World.setCell] using g2, fun e => by have := hlt' _ e; omega⟩)
        have HU := Lib.hid hu
        clear hu hlt'
        go_wp2_with (at_builtin; refine wpList_appT1 (T := fun b => w.heap.size ≤ b) (a0 := w) sl27 (by rfl) _ _ (by rfl) (by exact hx.trans (fix_two HY.out 1 3 _ _)) (by exact hown.ext (fix_two HY.out 1 3 _ _)) (by rfl) (by exact HU.out) (by rfl) (by rfl) (by simp [World.setCell]) (by rw [encs_length, V.enc_length]; have := List.length_take_le k es; omega) ?_; intro A' n' c' w' hown' hx' _ _)
        go_roundw
        case rel => exact ⟨k + 1, by omega, by go_num, hx', by rw [encs_take_succ HD.out]; exact hown'⟩
        case measure => simp [intOf]; omega
    · go_wp2
      obtain ⟨A', n', c', rfl, -⟩ := hown.shape
      go_ret
      exact ⟨A', n', c', rfl, by rw [take_all HL hlt] at hown; exact hown.new, hx⟩
end Go.Proofs.Ythohienbmhohjaa
