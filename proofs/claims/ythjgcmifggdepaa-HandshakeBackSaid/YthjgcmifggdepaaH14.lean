/- The walks: a message read, by the reference. -/
import Derived.Test.YthjgcmifggdepaaH13
set_option linter.unusedSimpArgs false
set_option linter.unusedVariables false
namespace Go.Proofs.Ythjgcmifggdepaa
open Go.RowKit

theorem orA (x y : Nat) (hx : x < 256) (hy : y < 256) {A : Nat} (hA : (x * 256 + y) * 65536 = A) : bits .or .i64 ((x : Int) * 16777216) ((y : Int) * 65536) = (A : Int) := by
  have h := or_i64 24 x (y * 65536) (by omega) (by omega)
  rw [show ((x * 2 ^ 24 : Nat) : Int) = (x : Int) * 16777216 by omega, show ((y * 65536 : Nat) : Int) = (y : Int) * 65536 by omega] at h
  rw [h, ← hA]
  omega
theorem orB (q z : Nat) (hq : q < 65536) (hz : z < 256) {A B : Nat} (hA : q * 65536 = A) (hB : (q * 256 + z) * 256 = B) : bits .or .i64 (A : Int) ((z : Int) * 256) = (B : Int) := by
  have h := or_i64 16 q (z * 256) (by omega) (by omega)
  rw [show ((q * 2 ^ 16 : Nat) : Int) = (A : Int) by omega, show ((z * 256 : Nat) : Int) = (z : Int) * 256 by omega] at h
  rw [h, ← hB]
  omega
theorem orC (q u : Nat) (hq : q < 16777216) (hu : u < 256) {A B : Nat} (hA : q * 256 = A) (hB : q * 256 + u = B) : bits .or .i64 (A : Int) (u : Int) = (B : Int) := by
  have h := or_i64 8 q u (by omega) (by omega)
  rw [show ((q * 2 ^ 8 : Nat) : Int) = (A : Int) by omega] at h
  rw [h, ← hB]

theorem kD {W : World} {o : Obj} {p : Addr} {v : Value} (h : W.cell? p = some v) (hp : p.block < W.heap.size) : (W.alloc o).drew.cell? p = some v :=
  (((Ext.refl W).alloc o).cell hp).trans h
theorem wrapB {x : Nat} (h : x < 4294967296) : IntKind.i64.wrap (x : Int) = (x : Int) := by rw [IntKind.wrap_i64]; omega

set_option maxRecDepth 100000 in
set_option maxHeartbeats 3200000 in
theorem refDecode2 (l : List UInt8) (ad : Addr) (n c : Nat) (w : World) (h : Rd w (.sl 1 (bytesC l)) (.slice (some ad) n c)) (hn0 : 0 < n) (h2 : bAt l 0 = 2) :
    Calls Try.prog 36 #[.slice (some ad) n c] w fun e w' => DecRes w (decD l) e w' := by
  have HR := Lib.hid h
  obtain ⟨hl, hnc, hcap⟩ := RdC.blen h
  unfold maxLen at hcap
  obtain ⟨D, hD⟩ : ∃ D, decD l = D := ⟨_, rfl⟩
  rw [hD]
  have hx2 : Ext w ((w.alloc (.cells #[.int .i64 0, .slice none 0 0, .slice none 0 0] 24)).alloc (.cells #[.int .i64 0, .int .i64 0, .int .i64 0] 26)) := ((Ext.refl w).alloc _).alloc _
  have C := fun (w' : World) (hx : Ext w w') (k : Nat) (hk : k < n) => (bAt_cell (HR.out.ext hx) hk).elim fun ad' p => show w'.cell? (ad.add k) = some (.int .u8 (bAt l k : Nat)) from by obtain ⟨e, -, q⟩ := p; injection e with e; subst e; exact q
  have c0' := C _ hx2 0 hn0
  simp [Addr.add] at c0'
  rw [h2] at c0'
  by_cases h8 : n < 8
  · have e1 : D = noD 1 := by rw [← hD]; unfold decD; rw [if_neg (fun e => by have := e.2; omega), if_neg (fun e => by have := e.1; omega)]
    subst e1
    have h8i : (n : Int) < 8 := by omega
    clear C hD hl h h2
    go_enter Try.func36, Try.ntmps36
    go_wp2
    refine bodyPost_ret (v := .tuple #[.agg #[.int .i64 0, .slice none 0 0, .slice none 0 0], .agg #[.int .i64 0, .int .i64 0, .int .i64 0], .int .i64 0, .int .i64 1]) (by simp [results, Try.results36, go_sem]) rfl ?_
    exact DecRes.none_ hx2
  · have h8i : ¬ (n : Int) < 8 := by omega
    have c1' := C _ hx2 1 (by omega)
    have c2' := C _ hx2 2 (by omega)
    have c3' := C _ hx2 3 (by omega)
    have c4' := C _ hx2 4 (by omega)
    have c5' := C _ hx2 5 (by omega)
    have c6' := C _ hx2 6 (by omega)
    have c7' := C _ hx2 7 (by omega)
    simp [Addr.add] at c1' c2' c3' c4' c5' c6' c7'
    have i1 : (1 : Int) < (n : Int) := by omega
    have i2 : (2 : Int) < (n : Int) := by omega
    have i3 : (3 : Int) < (n : Int) := by omega
    have i4 : (4 : Int) < (n : Int) := by omega
    have i5 : (5 : Int) < (n : Int) := by omega
    have i6 : (6 : Int) < (n : Int) := by omega
    have i7 : (7 : Int) < (n : Int) := by omega
    obtain ⟨x1, e1⟩ : ∃ x, bAt l 1 = x := ⟨_, rfl⟩
    obtain ⟨x2, e2⟩ : ∃ x, bAt l 2 = x := ⟨_, rfl⟩
    obtain ⟨x3, e3⟩ : ∃ x, bAt l 3 = x := ⟨_, rfl⟩
    obtain ⟨x4, e4⟩ : ∃ x, bAt l 4 = x := ⟨_, rfl⟩
    obtain ⟨x5, e5⟩ : ∃ x, bAt l 5 = x := ⟨_, rfl⟩
    obtain ⟨x6, e6⟩ : ∃ x, bAt l 6 = x := ⟨_, rfl⟩
    obtain ⟨x7, e7⟩ : ∃ x, bAt l 7 = x := ⟨_, rfl⟩
    have l1 := bAt_le l 1
    have l2 := bAt_le l 2
    have l3 := bAt_le l 3
    have l4 := bAt_le l 4
    have l5 := bAt_le l 5
    have l6 := bAt_le l 6
    have l7 := bAt_le l 7
    have hc : chOf l = ⟨x1, ((x2 * 256 + x3 : Nat) : Int), ((((x4 * 256 + x5) * 256 + x6) * 256 + x7 : Nat) : Int)⟩ := by
      unfold chOf
      rw [e1, e2, e3, e4, e5, e6, e7]
      push_cast
      rfl
    rw [e1] at c1' l1
    rw [e2] at c2' l2
    rw [e3] at c3' l3
    rw [e4] at c4' l4
    rw [e5] at c5' l5
    rw [e6] at c6' l6
    rw [e7] at c7' l7
    obtain ⟨y2, hy2⟩ : ∃ y, x2 * 256 + x3 = y := ⟨_, rfl⟩
    obtain ⟨A1, hA1⟩ : ∃ y, (x4 * 256 + x5) * 65536 = y := ⟨_, rfl⟩
    obtain ⟨A2, hA2⟩ : ∃ y, ((x4 * 256 + x5) * 256 + x6) * 256 = y := ⟨_, rfl⟩
    obtain ⟨y3, hy3⟩ : ∃ y, ((x4 * 256 + x5) * 256 + x6) * 256 + x7 = y := ⟨_, rfl⟩
    have o0 := or8 x2 x3 (by omega) (by omega)
    rw [show ((x2 : Int) * 256 + (x3 : Int)) = (y2 : Int) by omega] at o0
    have o1 := orA x4 x5 (by omega) (by omega) hA1
    have o2 := orB (x4 * 256 + x5) x6 (by omega) (by omega) hA1 hA2
    have o3 := orC ((x4 * 256 + x5) * 256 + x6) x7 (by omega) (by omega) hA2 hy3
    rw [hy2, hy3] at hc
    have b2 : y2 ≤ 65535 := by omega
    have b3 : y3 < 4294967296 := by omega
    have v1 := wrapB (x := x1) (by omega)
    have v2 := wrapB (x := x2) (by omega)
    have v3 := wrapB (x := x3) (by omega)
    have v4 := wrapB (x := x4) (by omega)
    have v5 := wrapB (x := x5) (by omega)
    have v6 := wrapB (x := x6) (by omega)
    have v7 := wrapB (x := x7) (by omega)
    have had : ad.block < w.heap.size := by obtain ⟨ad', x, e, hS, -, -⟩ := RdC.byte h (k := 0) hn0; injection e with e; subst e; exact hS
    have hblk : ad.block < ((w.alloc (.cells #[.int .i64 0, .slice none 0 0, .slice none 0 0] 24)).alloc (.cells #[.int .i64 0, .int .i64 0, .int .i64 0] 26)).heap.size := by simp; omega
    have s2 : IntKind.i64.wrap ((x2 : Int) * 256) = (x2 : Int) * 256 := by rw [IntKind.wrap_i64]; omega
    have s4 : IntKind.i64.wrap ((x4 : Int) * 16777216) = (x4 : Int) * 16777216 := by rw [IntKind.wrap_i64]; omega
    have s5 : IntKind.i64.wrap ((x5 : Int) * 65536) = (x5 : Int) * 65536 := by rw [IntKind.wrap_i64]; omega
    have s6 : IntKind.i64.wrap ((x6 : Int) * 256) = (x6 : Int) * 256 := by rw [IntKind.wrap_i64]; omega
    clear hA1 hA2 hy2 hy3 e1 e2 e3 e4 e5 e6 e7
    cases hB : choiceB ⟨x1, y2, y3⟩ with
    | false =>
      have e1 : D = noD 23 := by rw [← hD]; unfold decD; rw [if_neg (fun e => by have := e.2; omega), if_pos ⟨by omega, h2⟩, hc, hB]; rfl
      subst e1
      have HB := Lib.hid hB
      clear C hD hl h h2 hc hB
      go_enter Try.func36, Try.ntmps36
      go_wp2
      go_region_held3 (fun w' => w'.cell? { block := ad.block, off := ad.off + 1 } = some (.int .u8 (x1 : Nat)) ∧ w'.cell? { block := ad.block, off := ad.off + 2 } = some (.int .u8 (x2 : Nat)) ∧ w'.cell? { block := ad.block, off := ad.off + 3 } = some (.int .u8 (x3 : Nat)) ∧ w'.cell? { block := ad.block, off := ad.off + 4 } = some (.int .u8 (x4 : Nat)) ∧ w'.cell? { block := ad.block, off := ad.off + 5 } = some (.int .u8 (x5 : Nat)) ∧ w'.cell? { block := ad.block, off := ad.off + 6 } = some (.int .u8 (x6 : Nat)) ∧ w'.cell? { block := ad.block, off := ad.off + 7 } = some (.int .u8 (x7 : Nat)))
        (first
          | exact ⟨c1', c2', c3', c4', c5', c6', c7'⟩
          | exact ⟨kD c1' hblk, kD c2' hblk, kD c3' hblk, kD c4' hblk, kD c5' hblk, kD c6' hblk, kD c7' hblk⟩)
        (fail)
      all_goals go_simp
      all_goals go_wp2_with (go_at_call 35; refine (refChoice_any ⟨x1, y2, y3⟩ _).mono ?_; rintro e w4 ⟨rfl, hx4⟩; rw [HB.out]; have hx24 := (((Ext.refl ((w.alloc (.cells #[.int .i64 0, .slice none 0 0, .slice none 0 0] 24)).alloc (.cells #[.int .i64 0, .int .i64 0, .int .i64 0] 26))).alloc (.cells #[.int .i64 x1, .int .i64 y2, .int .i64 y3] 26)).drew).trans hx4; obtain ⟨R1, R2⟩ := res2 hx24; obtain ⟨⟨q0, q1, q2⟩, ⟨f0, f1, f2⟩⟩ := three R1; obtain ⟨⟨r0, r1, r2⟩, ⟨g0, g1, g2⟩⟩ := three R2; clear R1 R2)
      all_goals
        refine bodyPost_ret (v := .tuple #[.agg #[.int .i64 0, .slice none 0 0, .slice none 0 0], .agg #[.int .i64 0, .int .i64 0, .int .i64 0], .int .i64 0, .int .i64 23]) (by simp [results, Try.results36, go_sem, q0, q1, q2, f0, f1, f2, r0, r1, r2, g0, g1, g2]) rfl ?_
        have hxw := hx2.trans hx24
        exact ⟨_, rfl, RdH.zero _ _, (((((((hxw).setCell (by simp) _).setCell (by simp) _).setCell (by simp) _).setCell (by simp) _).setCell (by simp) _).setCell (by simp) _)⟩
    | true =>
      have e1 : D = ⟨zH, ⟨x1, y2, y3⟩, 8, 0⟩ := by rw [← hD]; unfold decD; rw [if_neg (fun e => by have := e.2; omega), if_pos ⟨by omega, h2⟩, hc, hB]; rfl
      subst e1
      have HB := Lib.hid hB
      clear C hD hl h h2 hc hB
      go_enter Try.func36, Try.ntmps36
      go_wp2
      go_region_held3 (fun w' => w'.cell? { block := ad.block, off := ad.off + 1 } = some (.int .u8 (x1 : Nat)) ∧ w'.cell? { block := ad.block, off := ad.off + 2 } = some (.int .u8 (x2 : Nat)) ∧ w'.cell? { block := ad.block, off := ad.off + 3 } = some (.int .u8 (x3 : Nat)) ∧ w'.cell? { block := ad.block, off := ad.off + 4 } = some (.int .u8 (x4 : Nat)) ∧ w'.cell? { block := ad.block, off := ad.off + 5 } = some (.int .u8 (x5 : Nat)) ∧ w'.cell? { block := ad.block, off := ad.off + 6 } = some (.int .u8 (x6 : Nat)) ∧ w'.cell? { block := ad.block, off := ad.off + 7 } = some (.int .u8 (x7 : Nat)))
        (first
          | exact ⟨c1', c2', c3', c4', c5', c6', c7'⟩
          | exact ⟨kD c1' hblk, kD c2' hblk, kD c3' hblk, kD c4' hblk, kD c5' hblk, kD c6' hblk, kD c7' hblk⟩)
        (fail)
      all_goals go_simp
      all_goals go_wp2_with (go_at_call 35; refine (refChoice_any ⟨x1, y2, y3⟩ _).mono ?_; rintro e w4 ⟨rfl, hx4⟩; rw [HB.out]; have hx24 := (((Ext.refl ((w.alloc (.cells #[.int .i64 0, .slice none 0 0, .slice none 0 0] 24)).alloc (.cells #[.int .i64 0, .int .i64 0, .int .i64 0] 26))).alloc (.cells #[.int .i64 x1, .int .i64 y2, .int .i64 y3] 26)).drew).trans hx4; obtain ⟨R1, R2⟩ := res2 hx24; obtain ⟨⟨q0, q1, q2⟩, ⟨f0, f1, f2⟩⟩ := three R1; obtain ⟨⟨r0, r1, r2⟩, ⟨g0, g1, g2⟩⟩ := three R2; have R3 := blk_drew hx4; rw [show ((w.alloc (.cells #[.int .i64 0, .slice none 0 0, .slice none 0 0] 24)).alloc (.cells #[.int .i64 0, .int .i64 0, .int .i64 0] 26)).heap.size = w.heap.size + 1 + 1 from by simp] at R3; obtain ⟨⟨s0, s1, s2⟩, -⟩ := three R3; clear R1 R2 R3)
      all_goals try go_region
      all_goals go_wp2
      all_goals
        have hxw := hx2.trans hx24
        refine bodyPost_ret (v := .tuple #[.agg #[.int .i64 0, .slice none 0 0, .slice none 0 0], .agg #[.int .i64 x1, .int .i64 y2, .int .i64 y3], .int .i64 8, .int .i64 0]) (by simp [results, Try.results36, go_sem, q0, q1, q2, f0, f1, f2, r0, r1, r2, g0, g1, g2]) rfl ?_
        exact ⟨_, rfl, RdH.zero _ _, ((((((hxw.setCell (by simp) _).setCell (by simp) _).setCell (by simp) _).setCell (by simp) _).setCell (by simp) _).setCell (by simp) _).drew⟩
end Go.Proofs.Ythjgcmifggdepaa
