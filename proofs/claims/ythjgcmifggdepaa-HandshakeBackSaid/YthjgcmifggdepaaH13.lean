/- The walks: a message read, by the program. -/
import Derived.Test.YthjgcmifggdepaaH12
import Derived.Deep.RegionHeld3
set_option linter.unusedSimpArgs false
set_option linter.unusedVariables false
namespace Go.Proofs.Ythjgcmifggdepaa
open Go.RowKit

structure Dc where
  h : Hl
  c : Ch
  n : Int
  e : Int
def zH : Hl := ⟨0, [], []⟩
def zC : Ch := ⟨0, 0, 0⟩
def noD (e : Int) : Dc := ⟨zH, zC, 0, e⟩
def chOf (l : List UInt8) : Ch := ⟨(bAt l 1 : Nat), (bAt l 2 : Int) * 256 + (bAt l 3 : Int), (((bAt l 4 : Int) * 256 + (bAt l 5 : Int)) * 256 + (bAt l 6 : Int)) * 256 + (bAt l 7 : Int)⟩
def decD (l : List UInt8) : Dc :=
  if 0 < l.length ∧ bAt l 0 = 1 then (match decH l with | none => noD 1 | some p => if helloB p.1 then ⟨p.1, zC, (p.2 : Nat), 0⟩ else noD 23)
  else if 8 ≤ l.length ∧ bAt l 0 = 2 then (if choiceB (chOf l) then ⟨zH, chOf l, 8, 0⟩ else noD 23)
  else noD 1
def DecRes (w : World) (d : Dc) (e : Ending) (w' : World) : Prop :=
  ∃ hv, e = .returned (.tuple #[hv, chV d.c, .int .i64 d.n, .int .i64 d.e]) ∧ RdH w' (New w w') d.h hv ∧ Ext w w'
theorem DecRes.none_ {w w' : World} {k : Int} (hx : Ext w w') : DecRes w (noD k) (.returned (.tuple #[.agg #[.int .i64 0, .slice none 0 0, .slice none 0 0], .agg #[.int .i64 0, .int .i64 0, .int .i64 0], .int .i64 0, .int .i64 k])) w' :=
  ⟨_, rfl, RdH.zero _ _, hx⟩
theorem HelRes.none_ {w w' : World} {e : Ending} (h : HelRes w none e w') : ∃ A n c A' n' c', e = .returned (.tuple #[.agg #[.int .i64 0, .slice A n c, .slice A' n' c'], .int .i64 0, .bool false]) ∧ Ext w w' := by
  obtain ⟨hv, he, ⟨v1, v2, rfl, hm, h1, h2⟩, hx⟩ := h
  obtain ⟨A, n, c, rfl, -⟩ := RdC.slice h1
  obtain ⟨A', n', c', rfl, -⟩ := RdC.slice h2
  exact ⟨A, n, c, A', n', c', he, hx⟩
theorem HelRes.some_ {w w' : World} {hh : Hl} {m : Nat} {e : Ending} (h : HelRes w (some (hh, m)) e w') : ∃ A n c A' n' c', e = .returned (.tuple #[.agg #[.int .i64 hh.most, .slice A n c, .slice A' n' c'], .int .i64 (m : Nat), .bool true]) ∧ RdH w' (New w w') hh (.agg #[.int .i64 hh.most, .slice A n c, .slice A' n' c']) ∧ Ext w w' := by
  obtain ⟨hv, he, ⟨v1, v2, rfl, hm, h1, h2⟩, hx⟩ := h
  obtain ⟨A, n, c, rfl, -⟩ := RdC.slice h1
  obtain ⟨A', n', c', rfl, -⟩ := RdC.slice h2
  exact ⟨A, n, c, A', n', c', he, ⟨_, _, rfl, hm, h1, h2⟩, hx⟩
/-- The results' own blocks. -/
theorem res2 {w w' : World} (hx : Ext ((w.alloc (.cells #[.int .i64 0, .slice none 0 0, .slice none 0 0] 24)).alloc (.cells #[.int .i64 0, .int .i64 0, .int .i64 0] 26)) w') :
    w'.heap[w.heap.size]? = some (.cells #[.int .i64 0, .slice none 0 0, .slice none 0 0] 24) ∧ w'.heap[w.heap.size + 1]? = some (.cells #[.int .i64 0, .int .i64 0, .int .i64 0] 26) := by
  refine ⟨?_, ?_⟩
  · exact (((Ext.refl (w.alloc (.cells #[.int .i64 0, .slice none 0 0, .slice none 0 0] 24))).alloc _).trans hx).blk
  · have := hx.blk; simpa using this
theorem set6 {w : World} {g b : Nat} (h1 : b ≠ g) (h2 : b ≠ g + 1) (u0 u1 u2 u3 u4 u5 : Value) :
    ((((((w.setCell ⟨g, 0, none⟩ u0).setCell ⟨g, 1, none⟩ u1).setCell ⟨g, 2, none⟩ u2).setCell ⟨g + 1, 0, none⟩ u3).setCell ⟨g + 1, 1, none⟩ u4).setCell ⟨g + 1, 2, none⟩ u5).heap[b]? = w.heap[b]? := by
  rw [Below.heap_setCell _ _ _ _ (by simpa using h2), Below.heap_setCell _ _ _ _ (by simpa using h2), Below.heap_setCell _ _ _ _ (by simpa using h2), Below.heap_setCell _ _ _ _ (by simpa using h1), Below.heap_setCell _ _ _ _ (by simpa using h1), Below.heap_setCell _ _ _ _ (by simpa using h1)]
theorem keepS {W w' : World} {o : Obj} {p : Addr} {v : Value} (hp : p.block < W.heap.size) (h : Ext W w' ∧ w'.cell? p = some v) : Ext W (w'.alloc o) ∧ (w'.alloc o).cell? p = some v :=
  ⟨h.1.alloc o, (((Ext.refl w').alloc o).cell (Nat.lt_of_lt_of_le hp h.1.size)).trans h.2⟩
theorem keepD {W : World} {o : Obj} {p : Addr} {v : Value} (hp : p.block < W.heap.size) (h : W.cell? p = some v) : Ext W (W.alloc o).drew ∧ (W.alloc o).drew.cell? p = some v :=
  ⟨((Ext.refl W).alloc o).drew, (((Ext.refl W).alloc o).cell hp).trans h⟩
theorem blk_drew {a b : World} {o : Obj} (h : Ext (a.alloc o).drew b) : b.heap[a.heap.size]? = some o := Ext.blk (a := a) (o := o) (b := b) ⟨h.os, h.tape, h.output, h.size, h.block⟩
theorem four_bAt {l : List UInt8} {n : Nat} (hl : l.length = n) (h : 8 ≤ n) : (l.drop 4).take 4 = [l.getD 4 0, l.getD 5 0, l.getD 6 0, l.getD 7 0] := by
  match l, hl with
  | a :: b :: c :: d :: e :: f :: g :: i :: r, _ => rfl
  | [], hl => simp at hl; omega
  | [_], hl => simp at hl; omega
  | [_, _], hl => simp at hl; omega
  | [_, _, _], hl => simp at hl; omega
  | [_, _, _, _], hl => simp at hl; omega
  | [_, _, _, _, _], hl => simp at hl; omega
  | [_, _, _, _, _, _], hl => simp at hl; omega
  | [_, _, _, _, _, _, _], hl => simp at hl; omega

set_option maxRecDepth 100000 in
set_option maxHeartbeats 3200000 in
theorem decode_any (l : List UInt8) (A : Option Addr) (n c : Nat) (w : World) (h : Rd w (.sl 1 (bytesC l)) (.slice A n c)) (hn4 : n ≤ 1000000000) :
    Calls Try.prog 31 #[.slice A n c] w fun e w' => DecRes w (decD l) e w' := by
  have HR := Lib.hid h
  obtain ⟨hl, hnc, hcap⟩ := RdC.blen h
  unfold maxLen at hcap
  obtain ⟨D, hD⟩ : ∃ D, decD l = D := ⟨_, rfl⟩
  rw [hD]
  rcases Nat.eq_zero_or_pos n with h0 | hn0
  · have e1 : D = noD 1 := by rw [← hD]; unfold decD; rw [if_neg (by omega), if_neg (by omega)]
    subst e1 h0
    clear hD hl h
    go_enter Try.func31, Try.ntmps31
    go_wp2
    exact bodyPost_ret (v := .tuple #[.agg #[.int .i64 0, .slice none 0 0, .slice none 0 0], .agg #[.int .i64 0, .int .i64 0, .int .i64 0], .int .i64 0, .int .i64 1]) (by simp [results, Try.results31, go_sem]) rfl (DecRes.none_ (by repeat (first | exact Ext.refl _ | refine Ext.alloc ?_ _ | refine Ext.setCell ?_ (by simp) _)))
  obtain ⟨ad, rfl, -, c0⟩ := bAt_cell h (k := 0) hn0
  have had : ad.block < w.heap.size := by obtain ⟨ad', x, e, hS, -, -⟩ := RdC.byte h (k := 0) hn0; injection e with e; subst e; exact hS
  simp [Addr.add] at c0
  have hx2 : Ext w ((w.alloc (.cells #[.int .i64 0, .slice none 0 0, .slice none 0 0] 24)).alloc (.cells #[.int .i64 0, .int .i64 0, .int .i64 0] 26)) := ((Ext.refl w).alloc _).alloc _
  have C := fun (w' : World) (hx : Ext w w') (k : Nat) (hk : k < n) => (bAt_cell (HR.out.ext hx) hk).elim fun ad' p => show w'.cell? (ad.add k) = some (.int .u8 (bAt l k : Nat)) from by obtain ⟨e, -, q⟩ := p; injection e with e; subst e; exact q
  have HC := Lib.hid C
  have c0' := C _ hx2 0 hn0
  simp [Addr.add] at c0'
  by_cases h1 : bAt l 0 = 1
  · rw [h1] at c0'
    cases hd : decH l with
    | none =>
      have e1 : D = noD 1 := by rw [← hD]; unfold decD; rw [if_pos ⟨by omega, h1⟩, hd]
      have HH0 := hello_any l _ _ _ _ (HR.out.ext hx2) hn4
      rw [hd] at HH0
      have HH := Lib.hid (HH0.mono fun _ _ h => HelRes.none_ h)
      subst e1
      clear hD hl h C c0 hd h1 HH0
      go_enter Try.func31, Try.ntmps31
      go_wp2_with (go_at_call 43; refine HH.out.mono ?_; rintro e w3 ⟨A1, n1, c1, A2, n2, c2, rfl, hx3⟩; dsimp only; obtain ⟨R1, R2⟩ := res2 (hx3.trans ((Ext.refl w3).alloc (.cells #[.int .i64 0, .slice A1 n1 c1, .slice A2 n2 c2] 24))); obtain ⟨⟨q0, q1, q2⟩, ⟨f0, f1, f2⟩⟩ := three R1; obtain ⟨⟨r0, r1, r2⟩, ⟨g0, g1, g2⟩⟩ := three R2; clear R1 R2)
      refine bodyPost_ret (v := .tuple #[.agg #[.int .i64 0, .slice none 0 0, .slice none 0 0], .agg #[.int .i64 0, .int .i64 0, .int .i64 0], .int .i64 0, .int .i64 1]) (by simp [results, Try.results31, go_sem, q0, q1, q2, f0, f1, f2, r0, r1, r2, g0, g1, g2]) rfl ?_
      have hxw := hx2.trans hx3
      exact ⟨_, rfl, RdH.zero _ _, (((((((hxw.alloc _).setCell (by simp) _).setCell (by simp) _).setCell (by simp) _).setCell (by simp) _).setCell (by simp) _).setCell (by simp) _)⟩
    | some p =>
      obtain ⟨hh, m⟩ := p
      have HH0 := hello_any l _ _ _ _ (HR.out.ext hx2) hn4
      rw [hd] at HH0
      have HH := Lib.hid (HH0.mono fun _ _ h => HelRes.some_ h)
      cases hB : helloB hh with
      | false =>
        have e1 : D = noD 23 := by rw [← hD]; unfold decD; rw [if_pos ⟨by omega, h1⟩, hd]; dsimp only; rw [hB]; rfl
        subst e1
        have HB := Lib.hid hB
        clear hD hl h C c0 hd h1 HH0 hB
        go_enter Try.func31, Try.ntmps31
        go_wp2_with (first
          | (go_at_call 43; refine HH.out.mono ?_; rintro e w3 ⟨A1, n1, c1, A2, n2, c2, rfl, hr3, hx3⟩; dsimp only; have hx34 := hx3.trans ((Ext.refl w3).alloc (.cells #[.int .i64 hh.most, .slice A1 n1 c1, .slice A2 n2 c2] 24)))
          | (go_at_call 32; refine (rightHello_any hh _ _ (RdHv.ext (hr3.keep_ (fun _ _ => rfl) (fun _ h => h.2)) ((Ext.refl _).alloc _))).mono ?_; rintro e w4 ⟨rfl, hx4⟩; rw [HB.out]; have hx24 := hx34.trans hx4; obtain ⟨R1, R2⟩ := res2 hx24; obtain ⟨⟨q0, q1, q2⟩, ⟨f0, f1, f2⟩⟩ := three R1; obtain ⟨⟨r0, r1, r2⟩, ⟨g0, g1, g2⟩⟩ := three R2; clear R1 R2))
        refine bodyPost_ret (v := .tuple #[.agg #[.int .i64 0, .slice none 0 0, .slice none 0 0], .agg #[.int .i64 0, .int .i64 0, .int .i64 0], .int .i64 0, .int .i64 23]) (by simp [results, Try.results31, go_sem, q0, q1, q2, f0, f1, f2, r0, r1, r2, g0, g1, g2]) rfl ?_
        have hxw := hx2.trans hx24
        exact ⟨_, rfl, RdH.zero _ _, (((((((hxw).setCell (by simp) _).setCell (by simp) _).setCell (by simp) _).setCell (by simp) _).setCell (by simp) _).setCell (by simp) _)⟩
      | true =>
        have e1 : D = ⟨hh, zC, m, 0⟩ := by rw [← hD]; unfold decD; rw [if_pos ⟨by omega, h1⟩, hd]; dsimp only; rw [hB]; rfl
        subst e1
        have HB := Lib.hid hB
        clear hD hl h C c0 hd h1 HH0 hB
        go_enter Try.func31, Try.ntmps31
        go_wp2_with (first
          | (go_at_call 43; refine HH.out.mono ?_; rintro e w3 ⟨A1, n1, c1, A2, n2, c2, rfl, hr3, hx3⟩; dsimp only; have hx34 := hx3.trans ((Ext.refl w3).alloc (.cells #[.int .i64 hh.most, .slice A1 n1 c1, .slice A2 n2 c2] 24)))
          | (go_at_call 32; refine (rightHello_any hh _ _ (RdHv.ext (hr3.keep_ (fun _ _ => rfl) (fun _ h => h.2)) ((Ext.refl _).alloc _))).mono ?_; rintro e w4 ⟨rfl, hx4⟩; rw [HB.out]; have hx24 := hx34.trans hx4; obtain ⟨R1, R2⟩ := res2 hx24; obtain ⟨⟨q0, q1, q2⟩, ⟨f0, f1, f2⟩⟩ := three R1; obtain ⟨⟨r0, r1, r2⟩, ⟨g0, g1, g2⟩⟩ := three R2; have R3 := (((Ext.refl (w3.alloc (.cells #[.int .i64 hh.most, .slice A1 n1 c1, .slice A2 n2 c2] 24))).trans hx4)).blk; obtain ⟨⟨s0, s1, s2⟩, -⟩ := three R3; clear R1 R2 R3))
        refine bodyPost_ret (v := .tuple #[.agg #[.int .i64 hh.most, .slice A1 n1 c1, .slice A2 n2 c2], .agg #[.int .i64 0, .int .i64 0, .int .i64 0], .int .i64 m, .int .i64 0]) (by simp [results, Try.results31, go_sem, q0, q1, q2, f0, f1, f2, r0, r1, r2, g0, g1, g2]) rfl ?_
        have hxw := hx2.trans hx24
        refine ⟨_, rfl, hr3.keep_ (S' := New w _) (fun b hb => (set6 (by have := hb.1; simp at this; omega) (by have := hb.1; simp at this; omega) _ _ _ _ _ _).trans ((hx4.block b (by have := hb.2; simp; omega)).trans (Below.heap_alloc _ _ _ hb.2))) (fun b hb => ⟨by have := hb.1; simp at this; omega, by have := hb.2; have := hx4.size; simp at this; simp; omega⟩), (((((((hxw).setCell (by simp) _).setCell (by simp) _).setCell (by simp) _).setCell (by simp) _).setCell (by simp) _).setCell (by simp) _)⟩
  by_cases h2 : 8 ≤ n ∧ bAt l 0 = 2
  · obtain ⟨h8, h2⟩ := h2
    have h8' : 8 ≤ (n : Int) := by omega
    rw [h2] at c0'
    have l1 : (1 : Int) < (n : Int) := by omega
    have l4 : (4 : Int) ≤ (c : Int) := by omega
    have l8 : (8 : Int) ≤ (c : Int) := by omega
    have k2 : ¬ c = 2 := by omega
    have k4 : ¬ c = 4 := by omega
    have hsz : ({ block := ad.block, off := ad.off + 1 } : Addr).block < ((w.alloc (.cells #[.int .i64 0, .slice none 0 0, .slice none 0 0] 24)).alloc (.cells #[.int .i64 0, .int .i64 0, .int .i64 0] 26)).heap.size := by simp; omega
    have hx2' : Ext w (((w.alloc (.cells #[.int .i64 0, .slice none 0 0, .slice none 0 0] 24)).alloc (.cells #[.int .i64 0, .int .i64 0, .int .i64 0] 26)).drew) := hx2.drew
    have c1' := C _ hx2 1 (by omega)
    simp [Addr.add] at c1'
    have hs2 := RdC.sub HR.out (o := 2) (k := 2) (by omega) (by omega) (A' := some { block := ad.block, off := ad.off + 2 }) (c' := c - 2) (fun _ => rfl) (by unfold maxLen; omega)
    rw [two_at hl (by omega)] at hs2
    have HS2 := Lib.hid hs2
    have hs4 := RdC.sub HR.out (o := 4) (k := 4) (by omega) (by omega) (A' := some { block := ad.block, off := ad.off + 4 }) (c' := c - 4) (fun _ => rfl) (by unfold maxLen; omega)
    rw [four_bAt hl (by omega)] at hs4
    have HS4 := Lib.hid hs4
    obtain ⟨y1, hy1⟩ : ∃ y : Nat, bAt l 1 = y := ⟨_, rfl⟩
    obtain ⟨y2, hy2⟩ : ∃ y : Nat, (l.getD 2 0).toNat * 256 + (l.getD 3 0).toNat = y := ⟨_, rfl⟩
    obtain ⟨y3, hy3⟩ : ∃ y : Nat, (((l.getD 4 0).toNat * 256 + (l.getD 5 0).toNat) * 256 + (l.getD 6 0).toNat) * 256 + (l.getD 7 0).toNat = y := ⟨_, rfl⟩
    have b1 := bAt_le l 1
    have b2 : (l.getD 2 0).toNat < 256 := (l.getD 2 0).toNat_lt
    have b3 : (l.getD 3 0).toNat < 256 := (l.getD 3 0).toNat_lt
    have b4 : (l.getD 4 0).toNat < 256 := (l.getD 4 0).toNat_lt
    have b5 : (l.getD 5 0).toNat < 256 := (l.getD 5 0).toNat_lt
    have b6 : (l.getD 6 0).toNat < 256 := (l.getD 6 0).toNat_lt
    have b7 : (l.getD 7 0).toNat < 256 := (l.getD 7 0).toNat_lt
    have hy2' : ((l.getD 2 0).toNat : Int) * 256 + ((l.getD 3 0).toNat : Int) = (y2 : Int) := by omega
    have hy3' : four8 (l.getD 4 0) (l.getD 5 0) (l.getD 6 0) (l.getD 7 0) = (y3 : Int) := by unfold four8; omega
    have hy3'' : y3 < 4294967296 := by omega
    have hc : chOf l = ⟨y1, y2, y3⟩ := by unfold chOf; rw [hy1]; congr 1
    rw [hy1] at c1'
    have w1' : IntKind.i64.wrap (y1 : Int) = (y1 : Int) := by rw [IntKind.wrap_i64]; omega
    have w3' : IntKind.i64.wrap (y3 : Int) = (y3 : Int) := by rw [IntKind.wrap_i64]; omega
    have HY2 := Lib.hid hy2'
    have HY3 := Lib.hid hy3'
    cases hB : choiceB ⟨y1, y2, y3⟩ with
    | false =>
      have e1 : D = noD 23 := by rw [← hD]; unfold decD; rw [if_neg (fun e => h1 e.2), if_pos ⟨by omega, h2⟩, hc, hB]; rfl
      subst e1
      have HB := Lib.hid hB
      clear hD hl h C c0 hs2 hs4 h1 h2 hy1 hy2 hy3 hy2' hy3' b1 b2 b3 b4 b5 b6 b7 hc hB
      go_enter Try.func31, Try.ntmps31
      go_wp2
      go_region_held3 (fun w' => Ext ((w.alloc (.cells #[.int .i64 0, .slice none 0 0, .slice none 0 0] 24)).alloc (.cells #[.int .i64 0, .int .i64 0, .int .i64 0] 26)) w' ∧ w'.cell? { block := ad.block, off := ad.off + 1 } = some (.int .u8 (y1 : Nat)))
        (first
          | exact ⟨(Ext.refl _).drew, c1'⟩
          | exact keepD hsz c1')
        (first
          | (go_at_call 37; go_split_ands; refine (num2_any _ _ _ _ _ _ (Rd.ext HS2.out (hx2.trans (by assumption)))).mono ?_; rintro e w1 ⟨rfl, rfl⟩; rw [HY2.out])
          | (go_at_call 44; go_split_ands; refine (num4_any _ _ _ _ _ _ _ _ (Rd.ext HS4.out (hx2.trans (by assumption)))).mono ?_; rintro e w1 ⟨rfl, rfl⟩; rw [HY3.out]))
      all_goals go_simp
      all_goals go_wp2_with (go_at_call 34; refine (rightChoice_any ⟨y1, y2, y3⟩ _).mono ?_; rintro e w4 ⟨rfl, hx4⟩; rw [HB.out]; have hx24 := (((Ext.refl ((w.alloc (.cells #[.int .i64 0, .slice none 0 0, .slice none 0 0] 24)).alloc (.cells #[.int .i64 0, .int .i64 0, .int .i64 0] 26))).alloc (.cells #[.int .i64 y1, .int .i64 y2, .int .i64 y3] 26)).drew).trans hx4; obtain ⟨R1, R2⟩ := res2 hx24; obtain ⟨⟨q0, q1, q2⟩, ⟨f0, f1, f2⟩⟩ := three R1; obtain ⟨⟨r0, r1, r2⟩, ⟨g0, g1, g2⟩⟩ := three R2; clear R1 R2)
      all_goals
        refine bodyPost_ret (v := .tuple #[.agg #[.int .i64 0, .slice none 0 0, .slice none 0 0], .agg #[.int .i64 0, .int .i64 0, .int .i64 0], .int .i64 0, .int .i64 23]) (by simp [results, Try.results31, go_sem, q0, q1, q2, f0, f1, f2, r0, r1, r2, g0, g1, g2]) rfl ?_
        have hxw := hx2.trans hx24
        exact ⟨_, rfl, RdH.zero _ _, (((((((hxw).setCell (by simp) _).setCell (by simp) _).setCell (by simp) _).setCell (by simp) _).setCell (by simp) _).setCell (by simp) _)⟩
    | true =>
      have e1 : D = ⟨zH, ⟨y1, y2, y3⟩, 8, 0⟩ := by rw [← hD]; unfold decD; rw [if_neg (fun e => h1 e.2), if_pos ⟨by omega, h2⟩, hc, hB]; rfl
      subst e1
      have HB := Lib.hid hB
      clear hD hl h C c0 hs2 hs4 h1 h2 hy1 hy2 hy3 hy2' hy3' b1 b2 b3 b4 b5 b6 b7 hc hB
      go_enter Try.func31, Try.ntmps31
      go_wp2
      go_region_held3 (fun w' => Ext ((w.alloc (.cells #[.int .i64 0, .slice none 0 0, .slice none 0 0] 24)).alloc (.cells #[.int .i64 0, .int .i64 0, .int .i64 0] 26)) w' ∧ w'.cell? { block := ad.block, off := ad.off + 1 } = some (.int .u8 (y1 : Nat)))
        (first
          | exact ⟨(Ext.refl _).drew, c1'⟩
          | exact keepD hsz c1')
        (first
          | (go_at_call 37; go_split_ands; refine (num2_any _ _ _ _ _ _ (Rd.ext HS2.out (hx2.trans (by assumption)))).mono ?_; rintro e w1 ⟨rfl, rfl⟩; rw [HY2.out])
          | (go_at_call 44; go_split_ands; refine (num4_any _ _ _ _ _ _ _ _ (Rd.ext HS4.out (hx2.trans (by assumption)))).mono ?_; rintro e w1 ⟨rfl, rfl⟩; rw [HY3.out]))
      all_goals go_simp
      all_goals go_wp2_with (go_at_call 34; refine (rightChoice_any ⟨y1, y2, y3⟩ _).mono ?_; rintro e w4 ⟨rfl, hx4⟩; rw [HB.out]; have hx24 := (((Ext.refl ((w.alloc (.cells #[.int .i64 0, .slice none 0 0, .slice none 0 0] 24)).alloc (.cells #[.int .i64 0, .int .i64 0, .int .i64 0] 26))).alloc (.cells #[.int .i64 y1, .int .i64 y2, .int .i64 y3] 26)).drew).trans hx4; obtain ⟨R1, R2⟩ := res2 hx24; obtain ⟨⟨q0, q1, q2⟩, ⟨f0, f1, f2⟩⟩ := three R1; obtain ⟨⟨r0, r1, r2⟩, ⟨g0, g1, g2⟩⟩ := three R2; have R3 := blk_drew hx4; rw [show ((w.alloc (.cells #[.int .i64 0, .slice none 0 0, .slice none 0 0] 24)).alloc (.cells #[.int .i64 0, .int .i64 0, .int .i64 0] 26)).heap.size = w.heap.size + 1 + 1 from by simp] at R3; obtain ⟨⟨s0, s1, s2⟩, -⟩ := three R3; clear R1 R2 R3)
      all_goals try go_region
      all_goals go_wp2
      all_goals
        have hxw := hx2.trans hx24
        refine bodyPost_ret (v := .tuple #[.agg #[.int .i64 0, .slice none 0 0, .slice none 0 0], .agg #[.int .i64 y1, .int .i64 y2, .int .i64 y3], .int .i64 8, .int .i64 0]) (by simp [results, Try.results31, go_sem, q0, q1, q2, f0, f1, f2, r0, r1, r2, g0, g1, g2]) rfl ?_
        exact ⟨_, rfl, RdH.zero _ _, ((((((hxw.setCell (by simp) _).setCell (by simp) _).setCell (by simp) _).setCell (by simp) _).setCell (by simp) _).setCell (by simp) _).drew⟩
  · have e1 : D = noD 1 := by rw [← hD]; unfold decD; rw [if_neg (fun e => h1 e.2), if_neg (fun e => h2 ⟨by omega, e.2⟩)]
    subst e1
    obtain ⟨k, hk⟩ : ∃ k, bAt l 0 = k := ⟨_, rfl⟩
    rw [hk] at c0' h1 h2
    have h1' : ¬ (k : Int) = 1 := by omega
    by_cases h8 : 8 ≤ n
    · have h2' : ¬ (k : Int) = 2 := by omega
      have h8' : 8 ≤ (n : Int) := by omega
      clear hD hl h C c0 hk h1 h2
      go_enter Try.func31, Try.ntmps31
      go_wp2
      refine bodyPost_ret (v := .tuple #[.agg #[.int .i64 0, .slice none 0 0, .slice none 0 0], .agg #[.int .i64 0, .int .i64 0, .int .i64 0], .int .i64 0, .int .i64 1]) (by simp [results, Try.results31, go_sem]) rfl ?_
      exact DecRes.none_ (by repeat (first | exact Ext.refl _ | refine Ext.alloc ?_ _ | refine Ext.setCell ?_ (by simp) _))
    · have h8' : ¬ 8 ≤ (n : Int) := by omega
      clear hD hl h C c0 hk h1 h2
      go_enter Try.func31, Try.ntmps31
      go_wp2
      refine bodyPost_ret (v := .tuple #[.agg #[.int .i64 0, .slice none 0 0, .slice none 0 0], .agg #[.int .i64 0, .int .i64 0, .int .i64 0], .int .i64 0, .int .i64 1]) (by simp [results, Try.results31, go_sem]) rfl ?_
      exact DecRes.none_ (by repeat (first | exact Ext.refl _ | refine Ext.alloc ?_ _ | refine Ext.setCell ?_ (by simp) _))
end Go.Proofs.Ythjgcmifggdepaa
