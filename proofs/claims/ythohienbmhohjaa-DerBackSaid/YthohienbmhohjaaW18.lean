/- The walks: the bytes of an element. -/
import Derived.Test.YthohienbmhohjaaW17
namespace Go.Proofs.Ythohienbmhohjaa
open Go.RowKit

def ContOf (d : V) : Prop := ∀ (v : Value) (a0 w : World), Ext a0 w → RdVal a0 d v → d.formed = true → d.put.length ≤ 1000000000 →
  Calls Try.prog 67 #[v] w fun e w' => ∃ A n c, e = .returned (.slice A n c) ∧ RdC w' (fun b => b < a0.heap.size ∨ (w.heap.size ≤ b ∧ b < w'.heap.size)) (.sl 1 (bytesC d.body)) (.slice A n c) ∧ Ext w w'
def ElemOf (d : V) : Prop := ∀ (l : List UInt8) (v : Value) (a0 w : World) (A : Option Addr) (m c : Nat), Ext a0 w → OwnT (fun _ => False) w a0.heap.size 5 1 (.slice A m c) (bytesC l) → RdVal a0 d v → d.formed = true → l.length + d.put.length ≤ 1000000000 →
  Calls Try.prog 44 #[.slice A m c, v] w fun e w' => AppRes w a0.heap.size (.slice A m c) (l ++ d.put) e w'

theorem ext_grown {w w1 w2 : World} {o : Option Nat} (h : Ext w w1) (g : w1.grownBy w2 o) : w.grownBy w2 o :=
  ⟨g.os.trans h.os, g.tape.trans h.tape, g.output.trans h.output, Nat.le_trans h.size g.size, fun k hk hne => (g.block k (Nat.lt_of_lt_of_le hk h.size) hne).trans (h.block k hk)⟩

theorem RowOf.less {w w1 : World} {v u : Value} (h : RowOf w1 v u) (hs : w.heap.size ≤ w1.heap.size) : RowOf w v u := by
  rcases h with h | ⟨k, h1, h2⟩
  · exact .inl h
  · exact .inr ⟨k, h1, Nat.le_trans hs h2⟩
theorem RdC.across {w w' : World} {S : Nat → Prop} {o : Option Nat} {c : C} {v : Value} (h : RdC w S c v) (g : w.grownBy w' o) (hS : ∀ b, S b → b < w.heap.size ∧ o ≠ some b) : RdC w' S c v :=
  h.keep fun b hb => g.block b (hS b hb).1 (fun e => (hS b hb).2 e.symm)

set_option maxRecDepth 100000 in
set_option maxHeartbeats 800000 in
theorem elem_step (d : V) (ih : ContOf d) : ElemOf d := by
  intro l v a0 w A m c hx0 hown h hf hlen
  have HC := Lib.hid (ih v a0)
  clear ih
  obtain ⟨t, b, nst, es⟩ := d
  have HV := Lib.hid h
  obtain ⟨Ab, nb, cb, Ae, ne, ce, rfl, ht, hb, he, HB, HE, hnb, hne⟩ := h.opened
  clear h
  obtain ⟨hf1, hbody, htag⟩ := formed_mem hf
  have htl := tagB_le htag
  have hbl := body_le t b nst es
  have HF := Lib.hid hf
  have HPE := Lib.hid (put_eq t b nst es)
  have hpl : (V.mk t b nst es).put.length ≤ 1000000000 := by omega
  have hlk := hown.base_le
  clear hf hf1 hbody htag
  have tok1 : True := trivial
  go_enter Try.func44, Try.ntmps44
  go_wp2_with (first
    | (go_at_call 67; refine (HC.out _ (hx0.alloc _) HV.out HF.out hpl).mono ?_; rintro e w2 ⟨A2, n2, c2, rfl, hr2, hx2⟩; have hc0 := hx2.box (i := 0) (v := .int .i64 t) rfl; have hn2 := (RdC.blen hr2).1; have hown2 := (hown.ext ((Ext.refl _).alloc _)).ext hx2; have hn2' : n2 ≤ 1000000000 := (by omega))
    | (at_builtin; have _t := tok1; refine wpList_appT1 (T := fun _ => False) (a0 := a0) sl22 (by rfl) _ _ (by rfl) (by exact (hx0.alloc _).trans hx2) (by exact hown2) (by rfl) (cs1 := bytesC [UInt8.ofNat (t.toNat % 256)]) (by exact rdByte (by rw [byteNat]; first | omega | (rw [u8wrap]; omega))) (by rfl) (by rfl) (by rfl) (by simp [bytesC]; omega) ?_; intro A3 n3 c3 w3 hown3 hx3 hg3 hr3; clear tok1; rw [← bytesC_append] at hown3)
    | (go_at_call 68; refine (length_any n2 (by omega) _ (by simp; omega) a0 _ _ _ _ hx3 hown3).mono ?_; rintro e w4 ⟨A4, n4, c4, rfl, hown4, hg4, hr4⟩; have hx4 := hx3.grown hg4 (fun k hk => (hown3.base_le k hk).1); have hG := grown_step hg3 (RowOf.of_app hr3) hg4; have hrc := hr2.across hG (fun b hb => ⟨(by rcases hb with hb | hb; exact Nat.lt_of_lt_of_le hb ((hx0.alloc _).trans hx2).size; exact hb.2), fun e => (by have h1 := hlk b e; rcases hb with hb | hb; omega; simp at hb; omega)⟩))
    | (at_builtin; refine wpList_appF (T := fun _ => False) (a0 := a0) sl22 (by rfl) _ _ (by rfl) (by exact hx4) (by exact hown4) (by rfl) (by rfl) (by exact hrc) (bytesC_flat _) (by simp only [bytesC_length, List.length_append, List.length_singleton]; have := lenB_le (n := n2) (by omega); omega) ?_; intro A5 n5 c5 w5 hown5 hx5 hg5 hr5))
  go_ret
  have R4 := (RowOf.of_app hr3).step hg3.size hr4
  have hE := ((Ext.refl w).alloc _).trans hx2
  refine ⟨A5, n5, c5, rfl, ?_, ext_grown hE (grown_step hG R4 hg5), (R4.step hG.size (RowOf.of_app0 hr5)).less hE.size⟩
  have e5 : l ++ UInt8.ofNat (t.toNat % 256) :: (lenB n2 ++ (V.mk t b nst es).body) = l ++ [UInt8.ofNat (t.toNat % 256)] ++ lenB n2 ++ (V.mk t b nst es).body := by simp
  rw [HPE.out, hn2, e5]
  rw [← bytesC_append] at hown5
  exact hown5

set_option maxRecDepth 100000 in
set_option maxHeartbeats 800000 in
theorem cont_step (t : Int) (b : List UInt8) (nst : Bool) (es : List V) (ih : ∀ d ∈ es, ElemOf d) : ContOf (.mk t b nst es) := by
  intro v a0 w hx0 h hf hlen
  obtain ⟨Ab, nb, cb, Ae, ne, ce, rfl, ht, hb, he0, HB, HE, hnb, hne⟩ := h.opened
  have he := he0.ext hx0
  clear h
  obtain ⟨hf1, -, -⟩ := formed_mem hf
  have hbl := body_le t b nst es
  by_cases hn : nst = false
  · subst hn
    go_enter Try.func67, Try.ntmps67
    go_wp2
    go_ret
    have hE := hx0.alloc (.cells #[.int .i64 t, .slice Ab nb cb, .bool false, .slice Ae ne ce] 29)
    exact ⟨Ab, nb, cb, rfl, RdC.keep_ (fun b hb => hE.block b hb) (fun b hb => .inl hb) _ _ hb, (Ext.refl _).alloc _⟩
  have hn : nst = true := by simpa using hn
  subst hn
  have hp2 : (putAll es).length ≤ 1000000000 := by have e1 : (V.mk t b true es).body = putAll es := rfl; rw [e1] at hbl; omega
  have HP3 := Lib.hid (fun k => putAll_take_le (es := es) k)
  have HP4 := Lib.hid (fun d hd => putAll_mem (es := es) (d := d) hd)
  have HI := Lib.hid ih
  have HF := Lib.hid hf1
  clear hf hf1 hbl hlen ih
  go_enter Try.func67, Try.ntmps67
  go_wp2
  go_loopw [3, 14] (fun o i wr => ∃ (k : Nat) (A2 : Option Addr) (n2 c2 : Nat), k ≤ ne ∧ i = .int .i64 k ∧ o = .slice A2 n2 c2 ∧ Ext (w.alloc (.cells #[.int .i64 t, .slice Ab nb cb, .bool true, .slice Ae ne ce] 29)) wr ∧ OwnT (fun _ => False) wr (w.alloc (.cells #[.int .i64 t, .slice Ab nb cb, .bool true, .slice Ae ne ce] 29)).heap.size 5 1 (.slice A2 n2 c2) (bytesC (putAll (es.take k)))) (fun _ i _ => ne - (intOf i).toNat)
  case atStart => exact ⟨0, none, 0, 0, by omega, rfl, rfl, Ext.refl _, OwnT.nil_ _ _ _ _ _⟩
  case round =>
    obtain ⟨k, A2, n2, c2, hk, rfl, rfl, hx, hown⟩ := hrel
    by_cases hlt : k < ne
    · have hel := (he.ext ((Ext.refl _).alloc (.cells #[.int .i64 t, .slice Ab nb cb, .bool true, .slice Ae ne ce] 29))).elem hlt
      obtain ⟨ad, t', b', nst', es', Ab', nb', cb', Ae', ne', ce', rfl, hbk, hd, hv, c0', c1', c2', c3'⟩ := hel
      have c0 := (hx.cell (p := ad.add (k * 4)) (by rw [block_add]; exact hbk)).trans c0'
      have c1 := (hx.cell (p := ⟨(ad.add (k * 4)).block, (ad.add (k * 4)).off + 1, none⟩) (by rw [block_add]; exact hbk)).trans c1'
      have c2 := (hx.cell (p := ⟨(ad.add (k * 4)).block, (ad.add (k * 4)).off + 2, none⟩) (by rw [block_add]; exact hbk)).trans c2'
      have c3 := (hx.cell (p := ⟨(ad.add (k * 4)).block, (ad.add (k * 4)).off + 3, none⟩) (by rw [block_add]; exact hbk)).trans c3'
      clear c0' c1' c2' c3'
      have hc3 := hx.box (i := 3) (v := .slice (some ad) ne ce) rfl
      have HV := Lib.hid hv
      have HD := Lib.hid hd
      have h4 := HP4.out _ (List.mem_of_getElem? hd)
      have h3 := HP3.out (k + 1)
      rw [putAll_take_succ hd, List.length_append] at h3
      clear hv hd
      go_wp2_with (first | (go_at_call 44; refine (HI.out _ (List.mem_of_getElem? HD.out) _ _ (w.alloc (.cells #[.int .i64 t, .slice Ab nb cb, .bool true, .slice (some ad) ne ce] 29)) _ _ _ _ (by exact hx.alloc _) (by exact hown.ext ((Ext.refl _).alloc _)) HV.out (HF.out _ (List.mem_of_getElem? HD.out)) (by omega)).mono ?_; rintro e w4 ⟨A4, n4, c4, rfl, hown4, hg4, hr4⟩; have hx4 := (hx.alloc _).grown hg4 (fun k hk => (hown.base_le k hk).1)))
      go_roundw
      case rel => exact ⟨k + 1, A4, n4, c4, by omega, by go_num, rfl, hx4, by rw [putAll_take_succ HD.out]; exact hown4⟩
      case measure => simp [intOf]; omega
    · have hall : Hid (es.take k = es) := take_all HE hlt
      go_wp2
      go_ret
      rw [hall.out] at hown
      exact ⟨A2, n2, c2, rfl, hown.newF.mono fun b hb => .inr ⟨by have := hb.1; simp at this; omega, hb.2⟩, ((Ext.refl _).alloc _).trans hx⟩

theorem put_pair : ∀ (k : Nat) (d : V), d.depth ≤ k → ContOf d ∧ ElemOf d := by
  intro k
  induction k with
  | zero => intro d hd; cases d; simp [V.depth] at hd
  | succ k ih =>
    intro d hd
    obtain ⟨t, b, nst, es⟩ := d
    have h1 := cont_step t b nst es fun d' hm => (ih d' (by have := depthAll_mem hm; rw [V.depth] at hd; omega)).2
    exact ⟨h1, elem_step _ h1⟩
theorem element_any (d : V) : ElemOf d := (put_pair _ d (Nat.le_refl _)).2
theorem contents_any (d : V) : ContOf d := (put_pair _ d (Nat.le_refl _)).1
end Go.Proofs.Ythohienbmhohjaa
