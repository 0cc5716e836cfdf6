/- The walk: an element out of the dice. -/
import Derived.Test.YthohienbmhohjaaW36
namespace Go.Proofs.Ythohienbmhohjaa
open Go.RowKit

/-- The block that the call laid first, still there. -/
theorem blk_d {g : Nat} {w wc : World} {o : Obj} (h : ExtD g (w.alloc o) wc) (hg : g < w.heap.size) : wc.heap[w.heap.size]? = some o := by
  rw [h.block _ (by simp) (by omega), heap_alloc_new]
/-- An element's own bytes, laid last. -/
theorem rd_bytes1 {w wc : World} (hw : w.heap.size < wc.heap.size) (t : Int) (ht : -9223372036854775808 ≤ t ∧ t ≤ 9223372036854775807) (n : Bool) (r : Nat) (hr : r < 256) :
    RdV (wc.alloc (.cells #[.int .u8 (r : Int)] 5)) (fun b => w.heap.size < b ∧ b < (wc.alloc (.cells #[.int .u8 (r : Int)] 5)).heap.size) (.mk t [UInt8.ofNat r] n []) (.agg #[.int .i64 t, .slice (some { block := wc.heap.size, off := 0 }) 1 1, .bool n, .slice none 0 0]) :=
  RdV.mk_ ht (RdC.fresh (S := fun _ => False) (us := [.int .u8 (r : Int)]) rfl (by simp [maxLen]) (rdByte (by rw [UInt8.toNat_ofNat', Nat.mod_eq_of_lt (by omega)])) (fun _ h => h.elim) _ (fun _ h => h.elim) ⟨hw, by simp⟩) (RdC.nil_ 4)
theorem rd_zeros {w wc : World} (hw : w.heap.size < wc.heap.size) (t : Int) (ht : -9223372036854775808 ≤ t ∧ t ≤ 9223372036854775807) (k : Nat) (hk : k ≤ 1000) :
    RdV (wc.alloc (.cells (Array.replicate k (Value.int .u8 0)) 5)) (fun b => w.heap.size < b ∧ b < (wc.alloc (.cells (Array.replicate k (Value.int .u8 0)) 5)).heap.size) (.mk t (List.replicate k 0) false []) (.agg #[.int .i64 t, .slice (some { block := wc.heap.size, off := 0 }) k k, .bool false, .slice none 0 0]) := by
  refine RdV.mk_ ht ?_ (RdC.nil_ 4)
  rw [show Array.replicate k (Value.int .u8 0) = ((List.replicate k (0 : UInt8)).map fun x => Value.int .u8 x.toNat).toArray by apply Array.toList_inj.1; simp]
  refine RdC.fresh (S := fun _ => False) (by simp [bytesC]) (by unfold maxLen; omega) ⟨by simp [bytesC], fun j c u h1 h2 => ?_⟩ (fun _ h => h.elim) _ (fun _ h => h.elim) ⟨hw, by simp⟩
  simp only [bytesC, List.getElem?_map, Option.map_eq_some_iff] at h1 h2
  obtain ⟨x, h1, rfl⟩ := h1
  obtain ⟨y, h2, rfl⟩ := h2
  rw [h1] at h2
  injection h2 with h2
  subst h2
  unfold RdC
  exact ⟨rfl, u8_range ⟨by omega, by have := x.toNat_lt; omega⟩⟩

/-- What the call laid itself lies above the result's block. -/
theorem new_big {w wa wb : World} {d : V} {v : Value} (h : RdV wb (New wa wb) d v) (hs : w.heap.size < wa.heap.size) : RdV wb (fun b => w.heap.size < b ∧ b < wb.heap.size) d v :=
  h.keep_ (fun _ _ => rfl) fun b hb => ⟨by have := hb.1; omega, hb.2⟩
theorem fin_leaf {g k : Nat} {w wb : World} {o : Obj} {d : V} {v u0 u1 u2 u3 : Value} (hlt : g < w.heap.size) (hE : ExtD g (w.alloc o) wb) (hD : Dice wb g) (hs : Small k d) (h : RdV wb (fun b => w.heap.size < b ∧ b < wb.heap.size) d v) :
    ElemRes g k w (.returned v) ((((wb.setCell { block := w.heap.size, off := 0 } u0).setCell { block := w.heap.size, off := 1 } u1).setCell { block := w.heap.size, off := 2 } u2).setCell { block := w.heap.size, off := 3 } u3) :=
  ⟨d, v, rfl, fin_el (by have := hE.size; simp at this; omega) h _ _ _ _, hs, fin_dice hlt hD _ _ _ _, fin_extd ((ExtD.of ((Ext.refl _).alloc _)).trans hE) _ _ _ _⟩
theorem ints_litB {g : Nat} {w : World} {B : Nat} (hB : B = w.heap.size) (hg : g < w.heap.size) (l : List Int) (n : Nat) (hn : l.length = n) (hm : n ≤ 1000) (h : ∀ x ∈ l, -9223372036854775808 ≤ x ∧ x ≤ 9223372036854775807) :
    RdC (w.alloc (.cells (l.map (Value.int .i64)).toArray 3)) (fun b => b < (w.alloc (.cells (l.map (Value.int .i64)).toArray 3)).heap.size ∧ b ≠ g) (.sl 1 (intsC l)) (.slice (some ⟨B, 0, none⟩) n n) := by
  subst hB
  exact ints_lit hg l n hn hm h
theorem small_any {k : Nat} (hk : k ≤ 5) (x : Int) {es : List V} (h0 : k = 0 → es = []) (h1 : ∀ d ∈ es, ∀ k', k = k' + 1 → Small k' d) (hl : es.length ≤ 3) : Small k (.mk x [] true es) := by
  cases k with
  | zero => rw [h0 rfl]; exact small_nil 0 x
  | succ k => exact small_list k hk x es hl fun d hd => h1 d hd k rfl
theorem small_wt {k : Nat} (hk : k ≤ 5) {es : List V} (h0 : k = 0 → es = []) (h1 : ∀ d ∈ es, ∀ k', k = k' + 1 → Small k' d) (hl : es.length ≤ 3) : wtAll es ≤ 100000000 := by
  have h := (small_any hk 0 h0 h1 hl).2.2
  have hb := bound_le hk
  rw [V.wt] at h
  omega

theorem small_raw (k : Nat) (t : Int) (n : Bool) (r : Nat) : Small k (.mk t [UInt8.ofNat r] n []) := by
  cases n with
  | false => exact small_plain k t _ (by simp)
  | true =>
    have hb := bound_pos k
    have h2 := lenB_le (n := 0) (by omega)
    refine ⟨by rw [V.depth, depthAll]; omega, ?_, by rw [V.wt, wtAll]; simp; omega⟩
    have hbody : (V.mk t [UInt8.ofNat r] true []).body = [] := by simp [V.body, putAll]
    rw [put_eq, hbody]
    simp
    omega
/-- The variable in which the list lies, behind the last draw. -/
theorem var_blk {g : Nat} {w3 w4 : World} {o o' : Obj} (hx4 : ExtD g ((w3.alloc o).alloc o') w4) (hg : g ≠ w3.heap.size) : w4.heap[w3.heap.size]? = some o := by
  rw [hx4.block _ (by simp; omega) (fun e => hg e.symm), Below.heap_alloc _ _ _ (by simp), heap_alloc_new]
theorem list_extd {g : Nat} {w w2 wr w3 w4 : World} {o o1 o2 : Obj} (hE2 : ExtD g (w.alloc o) w2) (hx : ExtD g w2 wr) (hx3 : Ext wr w3) (hx4 : ExtD g ((w3.alloc o1).alloc o2) w4) (hlt : g < w.heap.size) (x : Int) :
    ExtD g (w.alloc o) (w4.setCell { block := w3.heap.size, off := 0 } (.int .i64 x)) :=
  ((hE2.trans (hx.trans (ExtD.of hx3))).trans ((((ExtD.refl g w3).alloc o1).alloc o2).trans hx4)).setCell (.inr (by have h1 := hE2.size; have h2 := hx.size; have h3 := hx3.size; simp at h1 ⊢; omega)) _
theorem res_blk {g : Nat} {w w2 wr w3 w4 : World} {o o1 o2 : Obj} (hE2 : ExtD g (w.alloc o) w2) (hx : ExtD g w2 wr) (hx3 : Ext wr w3) (hx4 : ExtD g ((w3.alloc o1).alloc o2) w4) (hlt : g < w.heap.size) (x : Int) :
    (w4.setCell { block := w3.heap.size, off := 0 } (.int .i64 x)).heap[w.heap.size]? = some o :=
  blk_d (list_extd hE2 hx hx3 hx4 hlt x) hlt
theorem list_rd {g : Nat} {w wr w3 w4 : World} {o1 o2 : Obj} {es : List V} {t x : Int} {n : Bool} {b : List UInt8} {vb ve : Value} (hwr : w.heap.size < wr.heap.size) (hlt : g < w.heap.size) (hr : RdV w3 (New wr w3) (.mk t b n es) (.agg #[.int .i64 t, vb, .bool n, ve]))
    (hx4 : ExtD g ((w3.alloc o1).alloc o2) w4) (hxr : -9223372036854775808 ≤ x ∧ x ≤ 9223372036854775807) :
    RdV (w4.setCell { block := w3.heap.size, off := 0 } (.int .i64 x)) (fun b => w.heap.size < b ∧ b < (w4.setCell { block := w3.heap.size, off := 0 } (.int .i64 x)).heap.size) (.mk x b n es) (.agg #[.int .i64 x, vb, .bool n, ve]) := by
  obtain ⟨vb', ve', e1, _, hb, he⟩ := hr
  simp only [Value.agg.injEq, Array.mk.injEq, List.cons.injEq] at e1
  obtain ⟨-, rfl, -, rfl, -⟩ := e1
  have hk : ∀ k, New wr w3 k → (w4.setCell { block := w3.heap.size, off := 0 } (.int .i64 x)).heap[k]? = w3.heap[k]? := fun k hk => by
    have h1 := hk.1
    have h2 := hk.2
    rw [Below.heap_setCell _ _ _ _ (by simp; omega), hx4.block k (by simp; omega) (by omega), Below.heap_alloc _ _ _ (by simp; omega), Below.heap_alloc _ _ _ h2]
  have hm : ∀ k, New wr w3 k → w.heap.size < k ∧ k < (w4.setCell { block := w3.heap.size, off := 0 } (.int .i64 x)).heap.size := fun k hk => by
    have h1 := hk.1
    have h2 := hk.2
    have h3 := hx4.size
    simp at h3 ⊢
    omega
  exact RdV.mk_ hxr (RdC.keep_ hk hm _ _ hb) (RdC.keep_ hk hm _ _ he)
def l11 : List Int := [0, 127, 128, -1, -128, -129, 1099511627776, 255, 256, -9223372036854775808, 9223372036854775807]
def l8 : List Int := [4, 255, 1, 31, 0, 256, 36, 160]
def l3 : List Int := [4, 130, 3]
def l5 : List Int := [127, 128, 255, 256, 3]
def l5' : List Int := [48, 48, 49, 160, 163]
def s3 : List ByteArray := [⟨#[]⟩, ⟨#[97, 98, 99]⟩, ⟨#[97, 32, 98]⟩]
theorem l11_in : ∀ x ∈ l11, -9223372036854775808 ≤ x ∧ x ≤ 9223372036854775807 := by decide
theorem l8_in : ∀ x ∈ l8, -9223372036854775808 ≤ x ∧ x ≤ 9223372036854775807 := by decide
theorem l3_in : ∀ x ∈ l3, -9223372036854775808 ≤ x ∧ x ≤ 9223372036854775807 := by decide
theorem l5_in : ∀ x ∈ l5, -9223372036854775808 ≤ x ∧ x ≤ 9223372036854775807 := by decide
theorem l5'_in : ∀ x ∈ l5', -9223372036854775808 ≤ x ∧ x ≤ 9223372036854775807 := by decide
theorem l5_small : ∀ x ∈ l5, 0 ≤ x ∧ x ≤ 256 := by decide
theorem s3_in : ∀ x ∈ s3, x.size ≤ 10 := by decide

set_option maxRecDepth 100000 in
set_option maxHeartbeats 1600000 in
theorem element_step (k : Nat) (hk : k ≤ 5) (ih : ∀ k', k = k' + 1 → ∀ (g : Nat) (x : Int) (w : World), x = (k' : Int) → Dice w g → Calls Try.prog 26 #[.pointer (some { block := g, off := 0 }), .int .i64 x] w fun e w' => ElemRes g k' w e w') (g : Nat) (w : World) (hD : Dice w g) :
    Calls Try.prog 26 #[.pointer (some { block := g, off := 0 }), .int .i64 (k : Nat)] w fun e w' => ElemRes g k w e w' := by
  have hlt := hD.lt
  have hD0 := hD.alloc (.cells #[.int .i64 0, .slice none 0 0, .bool false, .slice none 0 0] 29)
  have HI := Lib.hid ih
  have tok1 : True := trivial
  have tok2 : True := trivial
  clear ih
  go_enter Try.func26, Try.ntmps26
  go_wp2_with (go_at_call 50; have _t := tok1; refine (dnext_any g _ (by omega) (by omega) _ (by exact hD0)).mono ?_; rintro e w1 ⟨r, rfl, hr, hD1, hx1⟩; have hlt1 := hD1.lt; clear tok1)
  · go_wp2_with (first
      | (go_at_call 51; refine (dof_any g l11 _ 11 11 (by omega) (by omega) _ (by exact hD1.alloc _) (by exact ints_lit hlt1 l11 11 rfl (by omega) l11_in)).mono ?_; rintro e w2 ⟨x, hm, rfl, hD2, hx2⟩; have hxr := l11_in x hm)
      | (go_at_call 19; refine (rint_any x _ hxr.1 hxr.2).mono ?_; rintro e w3 ⟨v3, rfl, hr3, hx3⟩; have hE := hx1.trans (((ExtD.refl g _).alloc _).trans (hx2.trans (ExtD.of hx3))); have hV3 := Lib.hid hr3; obtain ⟨vb3, ve3, rfl, -, hrb3, hre3⟩ := hr3; obtain ⟨A3, n3, c3, rfl, -⟩ := RdC.slice hrb3; obtain ⟨A4, n4, c4, rfl, -⟩ := RdC.slice hre3; clear hrb3 hre3; obtain ⟨⟨q0, q1, q2, q3⟩, ⟨f0, f1, f2, f3⟩⟩ := four (blk_d hE hlt)))
    exact bodyPost_ret (v := .agg #[.int .i64 2, .slice A3 n3 c3, .bool false, .slice A4 n4 c4]) (by simp [results, Try.results26, go_sem, q0, q1, q2, q3, f0, f1, f2, f3]) rfl (fin_leaf (d := intV x) hlt hE (hD2.ext hx3) (small_int k x) (new_big hV3.out (by have s1 := hx1.size; have s2 := hx2.size; simp at s1 s2; omega)))
  · go_wp2_with (first
      | (go_at_call 52; refine (dword_any g s3 _ 3 3 (by omega) (by omega) _ (by exact hD1.alloc _) (by exact strs_lit hlt1 s3 3 rfl (by omega) (fun x hx => by have := s3_in x hx; omega))).mono ?_; rintro e w2 ⟨x, hm, rfl, hD2, hx2⟩; have hxr := s3_in x hm)
      | (go_at_call 16; refine (rtext_any x _ (by omega)).mono ?_; rintro e w3 ⟨v3, rfl, hr3, hx3⟩; have hE := hx1.trans (((ExtD.refl g _).alloc _).trans (hx2.trans (ExtD.of hx3))); have hV3 := Lib.hid hr3; obtain ⟨vb3, ve3, rfl, -, hrb3, hre3⟩ := hr3; obtain ⟨A3, n3, c3, rfl, -⟩ := RdC.slice hrb3; obtain ⟨A4, n4, c4, rfl, -⟩ := RdC.slice hre3; clear hrb3 hre3; obtain ⟨⟨q0, q1, q2, q3⟩, ⟨f0, f1, f2, f3⟩⟩ := four (blk_d hE hlt)))
    exact bodyPost_ret (v := .agg #[.int .i64 12, .slice A3 n3 c3, .bool false, .slice A4 n4 c4]) (by simp [results, Try.results26, go_sem, q0, q1, q2, q3, f0, f1, f2, f3]) rfl (fin_leaf (d := textV x) hlt hE (hD2.ext hx3) (small_text k x (by omega)) (new_big hV3.out (by have s1 := hx1.size; have s2 := hx2.size; simp at s1 s2; omega)))
  · go_wp2_with (first
      | (go_at_call 53; refine (done_any g _ (by omega) (by omega) _ (by exact hD1)).mono ?_; rintro e w2 ⟨x, rfl, hD2, hx2⟩)
      | (go_at_call 20; refine (rbool_any x _).mono ?_; rintro e w3 ⟨v3, rfl, hr3, hx3⟩; have hE := hx1.trans (hx2.trans (ExtD.of hx3)); have hV3 := Lib.hid hr3; obtain ⟨vb3, ve3, rfl, -, hrb3, hre3⟩ := hr3; obtain ⟨A3, n3, c3, rfl, -⟩ := RdC.slice hrb3; obtain ⟨A4, n4, c4, rfl, -⟩ := RdC.slice hre3; clear hrb3 hre3; obtain ⟨⟨q0, q1, q2, q3⟩, ⟨f0, f1, f2, f3⟩⟩ := four (blk_d hE hlt)))
    exact bodyPost_ret (v := .agg #[.int .i64 1, .slice A3 n3 c3, .bool false, .slice A4 n4 c4]) (by simp [results, Try.results26, go_sem, q0, q1, q2, q3, f0, f1, f2, f3]) rfl (fin_leaf (d := boolV x) hlt hE (hD2.ext hx3) (small_bool k x) (new_big hV3.out (by have s1 := hx1.size; have s2 := hx2.size; simp at s1 s2; omega)))
  · go_wp2_with (first
      | (go_at_call 51; refine (dof_any g l8 _ 8 8 (by omega) (by omega) _ (by exact hD1.alloc _) (by exact ints_lit hlt1 l8 8 rfl (by omega) l8_in)).mono ?_; rintro e w2 ⟨x, hm, rfl, hD2, hx2⟩; have hxr := l8_in x hm)
      | (go_at_call 53; refine (done_any g _ (by omega) (by omega) _ (by exact hD2)).mono ?_; rintro e w3 ⟨y, rfl, hD3, hx3⟩)
      | (go_at_call 50; refine (dnext_any g _ (by omega) (by omega) _ (by exact hD3)).mono ?_; rintro e w4 ⟨s, rfl, hs, hD4, hx4⟩; have hE := hx1.trans (((ExtD.refl g _).alloc _).trans (hx2.trans (hx3.trans hx4))); have FF := fun z => four (blk_d (hE.alloc z) hlt); have q0 := fun z => (FF z).1.1; have q1 := fun z => (FF z).1.2.1; have q2 := fun z => (FF z).1.2.2.1; have q3 := fun z => (FF z).1.2.2.2; have f0 := fun z => (FF z).2.1; have f1 := fun z => (FF z).2.2.1; have f2 := fun z => (FF z).2.2.2.1; have f3 := fun z => (FF z).2.2.2.2))
    exact bodyPost_ret (v := .agg #[.int .i64 x, .slice (some { block := w4.heap.size, off := 0 }) 1 1, .bool y, .slice none 0 0]) (by simp [results, Try.results26, go_sem, q0, q1, q2, q3, f0, f1, f2, f3]) rfl (fin_leaf (d := .mk x [UInt8.ofNat s] y []) hlt (hE.alloc _) (hD4.alloc _) (small_raw k x y s) (rd_bytes1 (by have := hE.size; simp at this; omega) x hxr y s (by omega)))
  · go_wp2_with (first
      | (go_at_call 51; have _t := tok2; refine (dof_any g l3 _ 3 3 (by omega) (by omega) _ (by exact hD1.alloc _) (by exact ints_lit hlt1 l3 3 rfl (by omega) l3_in)).mono ?_; rintro e w2 ⟨x, hm, rfl, hD2, hx2⟩; have hxr := l3_in x hm; have hlt2 := hD2.lt; clear tok2)
      | (go_at_call 51; refine (dof_any g l5 _ 5 5 (by omega) (by omega) _ (by exact hD2.alloc _) (by exact ints_lit hlt2 l5 5 rfl (by omega) l5_in)).mono ?_; rintro e w3 ⟨y, hm3, rfl, hD3, hx3⟩; obtain ⟨hy1, hy2⟩ := l5_small y hm3; obtain ⟨m, rfl⟩ := Int.eq_ofNat_of_zero_le hy1; have hmk := make_zeros m (by omega) w3; have hE := hx1.trans (((ExtD.refl g _).alloc _).trans (hx2.trans (((ExtD.refl g _).alloc _).trans hx3))); have FF := fun z => four (blk_d (hE.alloc z) hlt); have q0 := fun z => (FF z).1.1; have q1 := fun z => (FF z).1.2.1; have q2 := fun z => (FF z).1.2.2.1; have q3 := fun z => (FF z).1.2.2.2; have f0 := fun z => (FF z).2.1; have f1 := fun z => (FF z).2.2.1; have f2 := fun z => (FF z).2.2.2.1; have f3 := fun z => (FF z).2.2.2.2))
    exact bodyPost_ret (v := .agg #[.int .i64 x, .slice (some { block := w3.heap.size, off := 0 }) m m, .bool false, .slice none 0 0]) (by simp [results, Try.results26, go_sem, q0, q1, q2, q3, f0, f1, f2, f3]) rfl (fin_leaf (d := .mk x (List.replicate m 0) false []) hlt (hE.alloc _) (hD3.alloc _) (small_plain k x _ (by simp; omega)) (rd_zeros (by have := hE.size; simp at this; omega) x hxr m (by omega)))
  · go_wp2_with (go_at_call 50; refine (dnext_any g _ (by omega) (by omega) _ (by exact hD1)).mono ?_; rintro e w2 ⟨s, rfl, hs, hD2, hx2⟩)
    have hlt2 := hD2.lt
    have hE2 := hx1.trans hx2
    have hw2 : w.heap.size < w2.heap.size := by have := hE2.size; simp at this; omega
    go_loopw [5, 6] (fun cc i wr => ∃ (es : List V) (A : Option Addr) (n c j : Nat), cc = .slice A n c ∧ i = .int .i64 j ∧ es.length + j ≤ 3 ∧ Hid (k = 0 → es = []) ∧ Hid (∀ d ∈ es, ∀ k', k = k' + 1 → Small k' d) ∧ OwnT (fun b => w2.heap.size ≤ b) wr w2.heap.size 29 4 (.slice A n c) (encs es) ∧ Dice wr g ∧ ExtD g w2 wr) (fun _ i _ => (intOf i).toNat)
    case atStart => exact ⟨[], none, 0, 0, s, rfl, rfl, by simp; omega, fun _ => rfl, fun d hd => by simp at hd, OwnT.nil_ _ _ _ _ _, hD2, ExtD.refl _ _⟩
    case round =>
      obtain ⟨es, A, n, c, j, rfl, rfl, hes, H0, H1, hown, hDr, hx⟩ := hrel
      by_cases hj : 0 < j ∧ 0 < k
      · obtain ⟨hj, hk0⟩ := hj
        obtain ⟨k', HK⟩ : ∃ k', Hid (k = k' + 1) := ⟨k - 1, by show _ = _; omega⟩
        go_wp2_with (first
          | (go_at_call 26; refine (HI.out k' HK.out g _ wr (by have := HK.out; omega) hDr).mono ?_; rintro e w3 ⟨⟨t, b, nst, es'⟩, v3, rfl, hr3, hsm, hD3, hx3⟩; have hV3 := Lib.hid hr3; obtain ⟨vb3, ve3, rfl, -, hrb3, hre3⟩ := hr3; obtain ⟨A3, n3, c3, rfl, -⟩ := RdC.slice hrb3; obtain ⟨A4, n4, c4, rfl, -⟩ := RdC.slice hre3; clear hrb3 hre3; have HU := Lib.hid (us_any (w0 := w2) (wr := wr) (W0 := wr) (w2 := w3) (w' := w3) (out := .slice A n c) (RdV.us (t := t) (b := b) (n := nst) (es := es') hV3.out) hx.size (Nat.le_refl _) hown.base_le (fun _ _ _ => rfl) (Nat.le_refl _)))
          | (at_builtin; refine wpList_appB1 (T := fun b => w2.heap.size ≤ b) (base := w2.heap.size) sl27 (by rfl) _ _ (by rfl) (by exact (hx.trans hx3).size) (by exact hown.dice hlt2 (fun q hq => by omega) hx3) (by rfl) (by exact HU.out) (by rfl) (by rfl) (by rfl) (by rw [encs_length, V.enc_length]; omega) ?_; intro A' n' c' w' hown' hg'))
        go_roundw
        case rel =>
          have hes2 : (es ++ [V.mk t b nst es']).length + (j - 1) ≤ 3 := by simp; omega
          refine ⟨es ++ [V.mk t b nst es'], A', n', c', j - 1, rfl, by go_num, hes2, ?_, ?_, ?_, hD3.grown hg' (fun q hq => Nat.lt_of_lt_of_le hlt2 (hown.base_le q hq).1), (hx.trans hx3).grown hg' (fun q hq => (hown.base_le q hq).1)⟩
          · show _ → _
            intro h0
            omega
          · intro d hd k'' hk''
            have hkk := HK.out
            rcases List.mem_append.1 hd with hd | hd
            · exact H1.out d hd k'' hk''
            · simp at hd
              obtain rfl : k'' = k' := by omega
              rw [hd]
              exact hsm
          · rw [encs_append]
            simpa [encs] using hown'
        case measure => simp [intOf]; omega
      · have hj' : j = 0 ∨ k = 0 := by omega
        have HW := Lib.hid (small_wt hk H0.out H1.out (by omega))
        have HS := fun x => small_any hk x H0.out H1.out (by omega)
        have HS := Lib.hid HS
        have hwr : w.heap.size < wr.heap.size := Nat.lt_of_lt_of_le hw2 hx.size
        go_wp2_with (first
          | (go_at_call 54; refine (rlist_any es HW.out _ _ _ wr (by exact hown.rd)).mono ?_; rintro e w3 ⟨v3, rfl, hr3, hx3⟩; have hV3 := Lib.hid hr3; obtain ⟨vb3, ve3, rfl, -, hrb3, hre3⟩ := hr3; obtain ⟨A3, n3, c3, rfl, -⟩ := RdC.slice hrb3; obtain ⟨A4, n4, c4, rfl, -⟩ := RdC.slice hre3; clear hrb3 hre3; have hD3 := hDr.ext hx3; have hlt3 := hD3.lt)
          | (go_at_call 51; refine (dof_any g l5' _ 5 5 (by omega) (by omega) _ (by exact (hD3.alloc _).alloc _) (by exact ints_litB (by simp) (hD3.alloc _).lt l5' 5 rfl (by omega) l5'_in)).mono ?_; rintro e w4 ⟨x, hm, rfl, hD4, hx4⟩; have hxr := l5'_in x hm; obtain ⟨⟨p0, p1, p2, p3⟩, ⟨e0, e1, e2, e3⟩⟩ := four (var_blk hx4 (by omega)); obtain ⟨⟨q0, q1, q2, q3⟩, ⟨f0, f1, f2, f3⟩⟩ := four (res_blk (w := w) hE2 hx hx3 hx4 hlt x)))
        all_goals exact bodyPost_ret (v := .agg #[.int .i64 x, .slice A3 n3 c3, .bool true, .slice A4 n4 c4]) (by simp [results, Try.results26, go_sem, q0, q1, q2, q3, f0, f1, f2, f3]) rfl (fin_leaf (d := .mk x [] true es) hlt (list_extd hE2 hx hx3 hx4 hlt x) (hD4.setCell hlt3 _) (HS.out x) (list_rd hwr hlt hV3.out hx4 hxr))

theorem delement_any : ∀ (k : Nat), k ≤ 5 → ∀ (g : Nat) (x : Int) (w : World), x = (k : Int) → Dice w g → Calls Try.prog 26 #[.pointer (some { block := g, off := 0 }), .int .i64 x] w fun e w' => ElemRes g k w e w' := by
  intro k
  induction k with
  | zero =>
    intro hk g x w hx hD
    subst hx
    exact element_step 0 hk (fun k' h => absurd h (by omega)) g w hD
  | succ k ih =>
    intro hk g x w hx hD
    subst hx
    exact element_step (k + 1) hk (fun k' h => by
      obtain rfl : k = k' := by omega
      exact ih (by omega)) g w hD
end Go.Proofs.Ythohienbmhohjaa
