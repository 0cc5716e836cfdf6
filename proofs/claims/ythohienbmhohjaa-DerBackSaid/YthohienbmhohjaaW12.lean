/- The walks: copies of elements, by the reference. -/
import Derived.Test.YthohienbmhohjaaW11
namespace Go.Proofs.Ythohienbmhohjaa
open Go.RowKit

/-- A row that has just been laid, at the place as the walk spells it. -/
theorem OwnT.madeAt {w : World} {S T : Nat → Prop} {base : Nat} {e : TypeId} {sz : Nat} {cs : List C} {us : List Value} {n : Nat} (B : Nat) (hB : B = w.heap.size) (hn : cs.length = n * sz) (hm : n ≤ maxLen) (h : RdUs w S cs us) (hS : ∀ b, S b → T b ∧ b < w.heap.size) (hb : base ≤ w.heap.size) :
    OwnT T (w.alloc (.cells us.toArray e)) base e sz (.slice (some ⟨B, 0, none⟩) n n) cs := by
  subst hB
  exact OwnT.made hn hm h hS hb

theorem blk_set {w : World} {g i : Nat} {cs : Array Value} {t : TypeId} (h : w.heap[g]? = some (.cells cs t)) (u : Value) : (w.setCell { block := g, off := i } u).heap[g]? = some (.cells (cs.setIfInBounds i u) t) := by
  simp [World.setCell, Array.getElem?_modify, h]

/-- One field of a struct of the call's own, stored, then another one behind more work. -/
theorem rcopy_el {wr w2 w3 : World} {o : Obj} {u u' : Value} (i j : Nat) (hx2 : Ext (wr.alloc o) w2) (hx3 : Ext (w2.setCell { block := wr.heap.size, off := i } u) w3) {t : Int} {b : List UInt8} {nst : Bool} {es : List V} {vb ve : Value} (ht : -9223372036854775808 ≤ t ∧ t ≤ 9223372036854775807)
    (h2 : RdC w2 (New (wr.alloc o) w2) (.sl 1 (bytesC b)) vb) (h3 : RdC w3 (New (w2.setCell { block := wr.heap.size, off := i } u) w3) (.sl 4 (encs es)) ve) {S : Nat → Prop} (hS : ∀ b, wr.heap.size < b → b < w3.heap.size → S b) :
    RdUs (w3.setCell { block := wr.heap.size, off := j } u') S (V.mk t b nst es).enc [.int .i64 t, vb, .bool nst, ve] := by
  have hsz : (w2.setCell { block := wr.heap.size, off := i } u).heap.size = w2.heap.size := by simp [World.setCell]
  have hk : ∀ b, wr.heap.size < b → (w3.setCell { block := wr.heap.size, off := j } u').heap[b]? = w3.heap[b]? := fun b hb => by
    rw [Below.heap_setCell _ _ _ _ (by show b ≠ wr.heap.size; omega)]
  have hk2 : ∀ b, wr.heap.size < b → b < w2.heap.size → w3.heap[b]? = w2.heap[b]? := fun b hb hb2 => by
    rw [hx3.block b (by rw [hsz]; exact hb2), Below.heap_setCell _ _ _ _ (by show b ≠ wr.heap.size; omega)]
  have hz : wr.heap.size < w2.heap.size := by have := hx2.size; simp at this; omega
  have hz3 : w2.heap.size ≤ w3.heap.size := by have := hx3.size; rw [hsz] at this; exact this
  refine RdV.us (RdV.mk_ ht ?_ ?_)
  · refine RdC.keep_ (fun b hb => (hk b ?_).trans (hk2 b ?_ hb.2)) (fun b hb => hS b ?_ (Nat.lt_of_lt_of_le hb.2 hz3)) _ _ h2
    · have := hb.1; simp at this; omega
    · have := hb.1; simp at this; omega
    · have := hb.1; simp at this; omega
  · refine RdC.keep_ (fun b hb => hk b ?_) (fun b hb => hS b ?_ hb.2) _ _ h3
    · have := hb.1; rw [hsz] at this; omega
    · have := hb.1; rw [hsz] at this; omega

set_option maxRecDepth 100000 in
set_option maxHeartbeats 1600000 in
theorem copies_step (es : List V) (ih : ∀ t b n es', V.mk t b n es' ∈ es → b.length ≤ 1000000000000 ∧ CopyOf 64 es' ∧ (encs es').length ≤ 1000000000) : CopyOf 64 es := by
  intro A n c w h hlen
  have hl := (RdC.len h).1
  have hcap := (RdC.len h).2
  unfold maxLen at hcap
  rw [encs_length] at hl hlen
  have HL : Hid (es.length = n) := by show es.length = n; omega
  have hn : n ≤ 250000000 := by omega
  clear hl hlen
  have HI := Lib.hid ih
  clear ih
  go_enter Try.func64, Try.ntmps64
  go_wp2
  go_loopw [3, 4] (fun out i wr => ∃ k : Nat, k ≤ n ∧ i = .int .i64 k ∧ Ext w wr ∧ OwnT (fun b => w.heap.size ≤ b) wr w.heap.size 29 4 out (encs (es.take k))) (fun _ i _ => n - (intOf i).toNat)
  case atStart => exact ⟨0, by omega, rfl, Ext.refl _, OwnT.nil_ _ _ _ _ _⟩
  case round =>
    obtain ⟨k, hk, rfl, hx, hown⟩ := hrel
    by_cases hlt : k < n
    · obtain ⟨ad, t, b, nst, es1, Ab, nb, cb, Ae, ne, ce, rfl, -, hd, hv, c0, c1, c2, c3⟩ := (h.ext hx).elem hlt
      have HV := Lib.hid hv
      have HD := Lib.hid hd
      obtain ⟨hb1, hc1, hl1⟩ := HI.out t b nst es1 (List.mem_of_getElem? hd)
      have HC := Lib.hid hc1
      clear hv hd hc1
      obtain ⟨_, _, _, _, _, _, ev, ht1, rb, re, -⟩ := HV.out.opened
      simp only [Value.agg.injEq, Array.mk.injEq, List.cons.injEq, Value.slice.injEq] at ev
      obtain ⟨-, ⟨rfl, rfl, rfl⟩, -, ⟨rfl, rfl, rfl⟩, -⟩ := ev
      have tok1 : True := trivial
      go_wp2_with (first
        | (at_builtin; have _t := tok1; refine wpList_appF (T := fun _ => False) (a0 := wr.alloc (.cells #[.int .i64 t, .slice Ab nb cb, .bool nst, .slice Ae ne ce] 29)) sl22 (by rfl) _ _ (by rfl) (by exact (Ext.refl _).alloc _) (by exact OwnT.madeAt (wr.heap.size + 1) (by simp) (n := 0) (us := []) (cs := []) (S := fun _ => False) rfl (by simp [maxLen]) ⟨rfl, fun _ _ _ h _ => by simp at h⟩ (fun _ h => h.elim) (Nat.le_refl _)) (by rfl) (by rfl) (by exact rb.ext (((Ext.refl _).alloc _).alloc _)) (bytesC_flat b) (by simp [bytesC]; omega) ?_; intro A2 n2 c2 w2 hown2 hx2 _ _; clear tok1; have hr2 := hown2.newF; obtain ⟨⟨q0, q1, q2, q3⟩, ⟨f0, f1, f2, f3⟩⟩ := four hx2.blk; have hbk2 := hx2.blk)
        | (go_at_call 64; refine (HC.out _ _ _ _ (re.ext ((((Ext.refl _).alloc _).trans hx2).setCell (Nat.le_refl _) _)) hl1).mono ?_; rintro e w3 ⟨A3, n3, c3, rfl, hr3, hx3⟩; have hbk3 := (hx3.block wr.heap.size (by have := hx2.size; simp [World.setCell] at this ⊢; omega)).trans (blk_set hbk2 (i := 1) (.slice A2 n2 c2)); obtain ⟨⟨p0, p1, p2, p3⟩, ⟨g0, g1, g2, g3⟩⟩ := four (a := .int .i64 t) (b := .slice A2 n2 c2) (c := .bool nst) (d := .slice Ae ne ce) hbk3; have hE := (((((Ext.refl wr).alloc (.cells #[.int .i64 t, .slice Ab nb cb, .bool nst, .slice Ae ne ce] 29)).trans hx2).setCell (p := { block := wr.heap.size, off := 1 }) (Nat.le_refl _) (.slice A2 n2 c2)).trans hx3).setCell (p := { block := wr.heap.size, off := 3 }) (Nat.le_refl _) (.slice A3 n3 c3); have hlt' : ∀ k', u3.ownBlock = some k' → k' < wr.heap.size := fun k' e => (hown.base_le k' e).2; have HU := Lib.hid (rcopy_el 1 3 hx2 hx3 (b := b) (nst := nst) (es := es1) (u' := .slice A3 n3 c3) ht1 hr2 hr3 (S := fun b => w.heap.size ≤ b ∧ b < (w3.setCell { block := wr.heap.size, off := 3 } (.slice A3 n3 c3)).heap.size ∧ u3.ownBlock ≠ some b) (fun b g1 g2 => ⟨by have := hx.size; omega, by simpa [World.setCell] using g2, fun e => by have := hlt' _ e; omega⟩)))
        | (at_builtin; refine wpList_appT1 (T := fun b => w.heap.size ≤ b) (a0 := w) sl27 (by rfl) _ _ (by rfl) (by exact hx.trans hE) (by exact hown.ext hE) (by rfl) (by exact HU.out) (by rfl) (by rfl) (by simp [World.setCell]) (by rw [encs_length, V.enc_length]; have := List.length_take_le k es; omega) ?_; intro A' n' c' w' hown' hx' _ _))
      go_roundw
      case rel => exact ⟨k + 1, by omega, by go_num, hx', by rw [encs_take_succ HD.out]; exact hown'⟩
      case measure => simp [intOf]; omega
    · go_wp2
      obtain ⟨A', n', c', rfl, -⟩ := hown.shape
      go_ret
      exact ⟨A', n', c', rfl, by rw [take_all HL hlt] at hown; exact hown.new, hx⟩
end Go.Proofs.Ythohienbmhohjaa
