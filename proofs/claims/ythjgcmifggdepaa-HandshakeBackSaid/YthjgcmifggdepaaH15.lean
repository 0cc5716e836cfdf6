/- The walks: a message read, by the reference: the rest. -/
import Derived.Test.YthjgcmifggdepaaH14
set_option linter.unusedSimpArgs false
set_option linter.unusedVariables false
namespace Go.Proofs.Ythjgcmifggdepaa
open Go.RowKit

theorem set6d {w : World} {g b : Nat} (h1 : b ≠ g) (h2 : b ≠ g + 1) (u0 u1 u2 u3 u4 u5 : Value) :
    ((((((w.setCell ⟨g, 0, none⟩ u0).setCell ⟨g, 1, none⟩ u1).setCell ⟨g, 2, none⟩ u2).setCell ⟨g + 1, 0, none⟩ u3).setCell ⟨g + 1, 1, none⟩ u4).setCell ⟨g + 1, 2, none⟩ u5).drew.heap[b]? = w.heap[b]? := by
  have := set6 (w := w) h1 h2 u0 u1 u2 u3 u4 u5
  generalize ((((((w.setCell ⟨g, 0, none⟩ u0).setCell ⟨g, 1, none⟩ u1).setCell ⟨g, 2, none⟩ u2).setCell ⟨g + 1, 0, none⟩ u3).setCell ⟨g + 1, 1, none⟩ u4).setCell ⟨g + 1, 2, none⟩ u5) = X at this ⊢
  exact this
set_option maxRecDepth 100000 in
set_option maxHeartbeats 1600000 in
theorem refDecode0 (l : List UInt8) (A : Option Addr) (c : Nat) (w : World) (h : Rd w (.sl 1 (bytesC l)) (.slice A 0 c)) :
    Calls Try.prog 36 #[.slice A 0 c] w fun e w' => DecRes w (decD l) e w' := by
  have hl := (RdC.blen h).1
  have e1 : decD l = noD 1 := by unfold decD; rw [if_neg (by omega), if_neg (by omega)]
  rw [e1]
  clear e1 h hl
  go_enter Try.func36, Try.ntmps36
  go_wp2
  refine bodyPost_ret (v := .tuple #[.agg #[.int .i64 0, .slice none 0 0, .slice none 0 0], .agg #[.int .i64 0, .int .i64 0, .int .i64 0], .int .i64 0, .int .i64 1]) (by simp [results, Try.results36, go_sem]) rfl ?_
  exact DecRes.none_ (((Ext.refl w).alloc _).alloc _)

set_option maxRecDepth 100000 in
set_option maxHeartbeats 3200000 in
theorem refDecode1 (l : List UInt8) (ad : Addr) (n c : Nat) (w : World) (h : Rd w (.sl 1 (bytesC l)) (.slice (some ad) n c)) (hn0 : 0 < n) (hn4 : n ≤ 1000000000) (h2 : ¬ bAt l 0 = 2) :
    Calls Try.prog 36 #[.slice (some ad) n c] w fun e w' => DecRes w (decD l) e w' := by
  have HR := Lib.hid h
  obtain ⟨hl, hnc, hcap⟩ := RdC.blen h
  unfold maxLen at hcap
  obtain ⟨D, hD⟩ : ∃ D, decD l = D := ⟨_, rfl⟩
  rw [hD]
  have hx2 : Ext w ((w.alloc (.cells #[.int .i64 0, .slice none 0 0, .slice none 0 0] 24)).alloc (.cells #[.int .i64 0, .int .i64 0, .int .i64 0] 26)) := ((Ext.refl w).alloc _).alloc _
  have C := fun (w' : World) (hx : Ext w w') (k : Nat) (hk : k < n) => (bAt_cell (HR.out.ext hx) hk).elim fun ad' p => show w'.cell? (ad.add k) = some (.int .u8 (bAt l k : Nat)) from by obtain ⟨e, -, q⟩ := p; injection e with e; subst e; exact q
  have c0' := C _ hx2 0 hn0
  simp [Addr.add] at c0'
  obtain ⟨k0, hk0⟩ : ∃ k, bAt l 0 = k := ⟨_, rfl⟩
  rw [hk0] at c0' h2
  have h2i : ¬ (k0 : Int) = 2 := by omega
  by_cases h3 : n < 3
  · have e1 : D = noD 1 := by
      rw [← hD]; unfold decD
      by_cases h1 : 0 < l.length ∧ bAt l 0 = 1
      · rw [if_pos h1]
        have : decH l = none := by unfold decH; rw [if_pos (by omega)]
        rw [this]
      · rw [if_neg h1, if_neg (by omega)]
    subst e1
    have h3i : (n : Int) < 3 := by omega
    clear C hD hl h h2 hk0
    go_enter Try.func36, Try.ntmps36
    go_wp2
    refine bodyPost_ret (v := .tuple #[.agg #[.int .i64 0, .slice none 0 0, .slice none 0 0], .agg #[.int .i64 0, .int .i64 0, .int .i64 0], .int .i64 0, .int .i64 1]) (by simp [results, Try.results36, go_sem]) rfl ?_
    exact DecRes.none_ hx2
  have h3i : ¬ (n : Int) < 3 := by omega
  by_cases h1 : k0 = 1
  · subst h1
    obtain ⟨K, hK⟩ : ∃ K, bAt l 2 = K := ⟨_, rfl⟩
    have hK2 : K ≤ 255 := by rw [← hK]; exact bAt_le _ _
    obtain ⟨M, hM⟩ : ∃ M, bAt l (3 + 2 * K) = M := ⟨_, rfl⟩
    have hM2 : M ≤ 255 := by rw [← hM]; exact bAt_le _ _
    obtain ⟨mo, hmo⟩ : ∃ mo, bAt l 1 = mo := ⟨_, rfl⟩
    have hmo2 : mo ≤ 255 := by rw [← hmo]; exact bAt_le _ _
    have c1' := C _ hx2 1 (by omega)
    have c2' := C _ hx2 2 (by omega)
    rw [hmo] at c1'
    rw [hK] at c2'
    simp [Addr.add] at c1' c2'
    have m1 : IntKind.i64.wrap (2 * (K : Int)) = 2 * (K : Int) := by rw [IntKind.wrap_i64]; omega
    have m2 : IntKind.i64.wrap (3 + 2 * (K : Int)) = 3 + 2 * (K : Int) := by rw [IntKind.wrap_i64]; omega
    have m0 : IntKind.i64.wrap (K : Int) = (K : Int) := wrapB (by omega)
    have m3 : IntKind.i64.wrap (mo : Int) = (mo : Int) := wrapB (by omega)
    have i1 : (1 : Int) < (n : Int) := by omega
    have i2 : (2 : Int) < (n : Int) := by omega
    by_cases hs : n ≤ 3 + 2 * K
    · have e1 : D = noD 1 := by
        rw [← hD]; unfold decD
        rw [if_pos ⟨by omega, hk0⟩]
        have : decH l = none := by unfold decH; rw [if_neg (by omega), hK, if_pos (by omega)]
        rw [this]
      subst e1
      have hsi : (n : Int) ≤ 3 + 2 * (K : Int) := by omega
      clear C hD hl h h2 hk0 hK hM hmo
      go_enter Try.func36, Try.ntmps36
      go_wp2
      refine bodyPost_ret (v := .tuple #[.agg #[.int .i64 0, .slice none 0 0, .slice none 0 0], .agg #[.int .i64 0, .int .i64 0, .int .i64 0], .int .i64 0, .int .i64 1]) (by simp [results, Try.results36, go_sem]) rfl ?_
      exact DecRes.none_ hx2
    have hsi : ¬ (n : Int) ≤ 3 + 2 * (K : Int) := by omega
    have cm := C _ hx2 (3 + 2 * K) (by omega)
    rw [hM] at cm
    have cm' := cm
    simp [Addr.add] at cm'
    have b1 : IntKind.i64.wrap (3 + 2 * (K : Int) + 1) = 3 + 2 * (K : Int) + 1 := by rw [IntKind.wrap_i64]; omega
    have b2 : (3 + 2 * (K : Int)).toNat = 3 + 2 * K := by omega
    have b3 : (0 : Int) ≤ 3 + 2 * (K : Int) := by omega
    have b4 : 3 + 2 * (K : Int) < (n : Int) := by omega
    have b5 : IntKind.i64.wrap (M : Int) = (M : Int) := wrapB (by omega)
    have b6 : IntKind.i64.wrap (3 + 2 * (K : Int) + 1 + (M : Int)) = 3 + 2 * (K : Int) + 1 + (M : Int) := by rw [IntKind.wrap_i64]; omega
    by_cases hs2 : n < 3 + 2 * K + 1 + M
    · have e1 : D = noD 1 := by
        rw [← hD]; unfold decD
        rw [if_pos ⟨by omega, hk0⟩]
        have : decH l = none := by unfold decH; rw [if_neg (by omega), hK, hM, if_neg (by omega), if_pos (by omega)]
        rw [this]
      subst e1
      have hsi2 : (n : Int) < 3 + 2 * (K : Int) + 1 + (M : Int) := by omega
      clear C hD hl h h2 hk0 hK hM hmo
      go_enter Try.func36, Try.ntmps36
      go_wp2
      refine bodyPost_ret (v := .tuple #[.agg #[.int .i64 0, .slice none 0 0, .slice none 0 0], .agg #[.int .i64 0, .int .i64 0, .int .i64 0], .int .i64 0, .int .i64 1]) (by simp [results, Try.results36, go_sem]) rfl ?_
      exact DecRes.none_ hx2
    have hsi2 : ¬ (n : Int) < 3 + 2 * (K : Int) + 1 + (M : Int) := by omega
    have hH : decH l = some (⟨(mo : Nat), pairs l K, ints8 l (3 + 2 * K + 1) M⟩, 3 + 2 * K + 1 + M) := by unfold decH; rw [if_neg (by omega), hK, hM, if_neg (by omega), if_neg (by omega), hmo]
    have hDD : Hid (D = if helloB ⟨(mo : Nat), pairs l K, ints8 l (3 + 2 * K + 1) M⟩ then ⟨⟨(mo : Nat), pairs l K, ints8 l (3 + 2 * K + 1) M⟩, zC, (3 + 2 * K + 1 + M : Nat), 0⟩ else noD 23) := by show _ = _; rw [← hD]; unfold decD; rw [if_pos ⟨by omega, hk0⟩, hH]
    have had : ad.block < w.heap.size := by obtain ⟨ad', x, e, hS, -, -⟩ := RdC.byte h (k := 0) hn0; injection e with e; subst e; exact hS
    have HC := Lib.hid C
    have HL := Lib.hid hl
    have HM := Lib.hid hM
    clear C hD hl h h2 hk0 hK hM hmo hH
    go_enter Try.func36, Try.ntmps36
    go_wp2
    obtain ⟨W0, hW0⟩ : ∃ W0, (w.alloc (.cells #[.int .i64 0, .slice none 0 0, .slice none 0 0] 24)).alloc (.cells #[.int .i64 0, .int .i64 0, .int .i64 0] 26) = W0 := ⟨_, rfl⟩
    have hs0 : W0.heap.size = w.heap.size + 1 + 1 := by rw [← hW0]; simp
    have hb0 := res2 (w := w) (w' := W0) (by rw [hW0]; exact Ext.refl _)
    rw [hW0] at hx2 cm cm' ⊢
    clear c0' c1' c2'
    go_loopw [10] (fun i wr => ∃ (k : Nat) (A2 : Option Addr) (n2 c2 : Nat), i = .int .i64 (k : Nat) ∧ k ≤ K ∧ wr.heap[w.heap.size + 1 + 1]? = some (.cells #[.int .i64 (mo : Nat), .slice A2 n2 c2, .slice none 0 0] 24) ∧ OwnT (fun _ => False) wr W0.heap.size 3 1 (.slice A2 n2 c2) (intsC (pairs l k)) ∧ Ext W0 wr) (fun i _ => K - (intOf i).toNat)
    case atStart =>
      refine ⟨0, none, 0, 0, rfl, by omega, ?_, OwnT.nil_ _ _ _ _ _, (Ext.refl _).alloc _⟩
      rw [← hs0]
      exact (Ext.refl (W0.alloc (.cells #[.int .i64 (mo : Nat), .slice none 0 0, .slice none 0 0] 24))).blk
    case round =>
      obtain ⟨k, A2, n2, c2, rfl, hkK, hbg, hown, hx⟩ := hrel
      have hxw := hx2.trans hx
      have hn2 := (RdC.len hown.rd).1
      obtain ⟨⟨q0, q1, q2⟩, ⟨f0, f1, f2⟩⟩ := three hbg
      have hne := hown.ne_block hbg (by decide)
      have hgl : w.heap.size + 1 + 1 < wr.heap.size := (Array.getElem?_eq_some_iff.1 hbg).1
      by_cases hkl : k < K
      · obtain ⟨z1, hz1⟩ : ∃ z, bAt l (3 + 2 * k) = z := ⟨_, rfl⟩
        obtain ⟨z2, hz2⟩ : ∃ z, bAt l (3 + 2 * k + 1) = z := ⟨_, rfl⟩
        have d1 := HC.out wr hxw (3 + 2 * k) (by omega)
        have d2 := HC.out wr hxw (4 + 2 * k) (by omega)
        rw [hz1] at d1
        rw [show 4 + 2 * k = 3 + 2 * k + 1 by omega, hz2, show 3 + 2 * k + 1 = 4 + 2 * k by omega] at d2
        have z1l := bAt_le l (3 + 2 * k)
        have z2l := bAt_le l (3 + 2 * k + 1)
        rw [hz1] at z1l
        rw [hz2] at z2l
        have o1 := or8 z1 z2 (by omega) (by omega)
        obtain ⟨vk, hvk⟩ : ∃ vk : Int, (z1 : Int) * 256 + (z2 : Int) = vk := ⟨_, rfl⟩
        rw [hvk] at o1
        have hvk2 : 0 ≤ vk ∧ vk ≤ 65535 := by omega
        have hps := pairs_succ l k
        rw [hz1, hz2, hvk] at hps
        have HPS := Lib.hid hps
        have t1 : IntKind.i64.wrap (2 * (k : Int)) = 2 * (k : Int) := by rw [IntKind.wrap_i64]; omega
        have t2 : IntKind.i64.wrap (3 + 2 * (k : Int)) = 3 + 2 * (k : Int) := by rw [IntKind.wrap_i64]; omega
        have t3 : IntKind.i64.wrap (4 + 2 * (k : Int)) = 4 + 2 * (k : Int) := by rw [IntKind.wrap_i64]; omega
        have t4 : (3 + 2 * (k : Int)).toNat = 3 + 2 * k := by omega
        have t5 : (4 + 2 * (k : Int)).toNat = 4 + 2 * k := by omega
        have t6 : (0 : Int) ≤ 3 + 2 * (k : Int) := by omega
        have t7 : (0 : Int) ≤ 4 + 2 * (k : Int) := by omega
        have t8 : 3 + 2 * (k : Int) < (n : Int) := by omega
        have t9 : 4 + 2 * (k : Int) < (n : Int) := by omega
        have w1 := wrapB (x := z1) (by omega)
        have w2 := wrapB (x := z2) (by omega)
        have w3 : IntKind.i64.wrap ((z1 : Int) * 256) = (z1 : Int) * 256 := by rw [IntKind.wrap_i64]; omega
        clear hps hvk hz1 hz2
        go_wp2
        go_region_law (refine step_appF (T := fun _ => False) (a0 := W0) sl22 (by rfl) (.tmp 118) (.tmp 135) (by rfl) (by exact hx.drew.alloc _) (by exact (hown.ext (Ext.refl wr).drew).ext ((Ext.refl _).alloc _)) (by simp [Act.eval, Act.put]) (A := some ⟨wr.heap.size, 0, none⟩) (m := 1) (c := 1) (by simp [Act.eval, Act.put]) (by exact int_lit (x := vk) hx.drew (by omega)) (intsC_flat _) (by simp only [intsC_length, List.length_singleton, pairs_len]; omega) ?_; intro A3 n3 c3 w3 hown3 hx3 hgr3 hor3; have hbg3 := (hgr3.block (w.heap.size + 1 + 1) (by simpa using Nat.lt_succ_of_lt hgl) hne.symm).trans ((((Ext.refl wr).drew.alloc _).block _ hgl).trans hbg); obtain ⟨⟨p0, p1, p2⟩, ⟨s0, s1, s2⟩⟩ := three hbg3)
        all_goals go_wp2
        all_goals
          go_roundw
          case rel => exact ⟨k + 1, A3, n3, c3, by go_num, by omega, by exact blk_set hbg3 _, by rw [HPS.out, intsC_append]; exact hown3.set_other (hown3.ne_block hbg3 (by decide)) _, hx3.setCell (by simp; omega) _⟩
          case measure => simp [intOf]; omega
      · obtain rfl : k = K := by omega
        go_wp2
        go_loopw [11] (fun i wr' => ∃ (j : Nat) (A4 : Option Addr) (n4 c4 : Nat), i = .int .i64 (j : Nat) ∧ j ≤ M ∧ wr'.heap[w.heap.size + 1 + 1]? = some (.cells #[.int .i64 (mo : Nat), .slice A2 n2 c2, .slice A4 n4 c4] 24) ∧ OwnT (fun _ => False) wr' W0.heap.size 3 1 (.slice A2 n2 c2) (intsC (pairs l k)) ∧ OwnT (fun _ => False) wr' W0.heap.size 3 1 (.slice A4 n4 c4) (intsC (ints8 l (3 + 2 * k + 1) j)) ∧ Hid (∀ q, (Value.slice A2 n2 c2).ownBlock = some q → (Value.slice A4 n4 c4).ownBlock ≠ some q) ∧ Ext W0 wr') (fun i _ => M - (intOf i).toNat)
        case atStart => exact ⟨0, none, 0, 0, rfl, by omega, hbg, hown, OwnT.nil_ _ _ _ _ _, by show ∀ _, _; simp [Value.ownBlock], hx⟩
        case round =>
          obtain ⟨j, A4, n4, c4, rfl, hjM, hbg', hown', howh, HNE, hx'⟩ := hrel
          have hxw' := hx2.trans hx'
          obtain ⟨⟨q0', q1', q2'⟩, ⟨f0', f1', f2'⟩⟩ := three hbg'
          have hgl' : w.heap.size + 1 + 1 < wr.heap.size := (Array.getElem?_eq_some_iff.1 hbg').1
          have hne' := howh.ne_block hbg' (by decide)
          have hca := HC.out wr hxw' (3 + 2 * k) (by omega)
          rw [HM.out] at hca
          by_cases hjl : j < M
          · have hcj := HC.out wr hxw' (3 + 2 * k + 1 + j) (by omega)
            have hb8 := bAt_le l (3 + 2 * k + 1 + j)
            have hi8 := ints8_succ l (3 + 2 * k + 1) j
            obtain ⟨y, hy⟩ : ∃ y, bAt l (3 + 2 * k + 1 + j) = y := ⟨_, rfl⟩
            rw [hy] at hcj hb8 hi8
            have HI8 := Lib.hid hi8
            have t1 : IntKind.i64.wrap (3 + 2 * (k : Int) + 1 + (j : Int)) = 3 + 2 * (k : Int) + 1 + (j : Int) := by rw [IntKind.wrap_i64]; omega
            have t2 : (3 + 2 * (k : Int) + 1 + (j : Int)).toNat = 3 + 2 * k + 1 + j := by omega
            have t3 : (0 : Int) ≤ 3 + 2 * (k : Int) + 1 + (j : Int) := by omega
            have t4 : 3 + 2 * (k : Int) + 1 + (j : Int) < (n : Int) := by omega
            have t5 := wrapB (x := y) (by omega)
            clear hy hi8
            go_wp2
            go_region_law (refine step_appF (T := fun _ => False) (a0 := W0) sl22 (by rfl) (.tmp 148) (.tmp 157) (by rfl) (by exact hx'.drew.alloc _) (by exact (howh.ext (Ext.refl wr).drew).ext ((Ext.refl _).alloc _)) (by simp [Act.eval, Act.put]) (A := some ⟨wr.heap.size, 0, none⟩) (m := 1) (c := 1) (by simp [Act.eval, Act.put]) (by exact int_lit (x := (y : Nat)) hx'.drew (by omega)) (intsC_flat _) (by simp only [intsC_length, List.length_singleton, ints8_len]; omega) ?_; intro A5 n5 c5 w5 hown5 hx5 hgr5 hor5; have hbg5 := (hgr5.block (w.heap.size + 1 + 1) (by simpa using Nat.lt_succ_of_lt hgl') hne'.symm).trans ((((Ext.refl wr).drew.alloc _).block _ hgl').trans hbg'); obtain ⟨⟨p0, p1, p2⟩, ⟨s0, s1, s2⟩⟩ := three hbg5)
            all_goals go_wp2
            all_goals
              have hsu : (Value.slice A2 n2 c2).ownBlock = none ∨ (Value.slice A2 n2 c2).ownBlock ≠ (Value.slice A4 n4 c4).ownBlock := by
                cases hq : (Value.slice A2 n2 c2).ownBlock with
                | none => exact .inl rfl
                | some q => exact .inr fun e => HNE.out q hq e.symm
              have hsu5 := (hown'.ext ((Ext.refl wr).drew.alloc _)).grown_other hgr5 hsu
              have HNE5 : Hid (∀ q, (Value.slice A2 n2 c2).ownBlock = some q → (Value.slice A5 n5 c5).ownBlock ≠ some q) := by
                intro q hq
                rcases hor5 with h5 | h5
                · rw [h5]; exact HNE.out q hq
                · rw [h5]
                  have := (hown'.base_le q hq).2
                  intro e
                  injection e with e
                  simp at e
                  omega
              go_roundw
              case rel => exact ⟨j + 1, A5, n5, c5, by go_num, by omega, blk_set hbg5 _, hsu5.set_other (hsu5.ne_block hbg5 (by decide)) _, by rw [HI8.out, intsC_append]; exact hown5.set_other (hown5.ne_block hbg5 (by decide)) _, HNE5, hx5.setCell (by simp; omega) _⟩
              case measure => simp [intOf]; omega
          · obtain rfl : j = M := by omega
            have HV : Hid (RdH wr (fun b => W0.heap.size ≤ b ∧ b < wr.heap.size) ⟨(mo : Nat), pairs l k, ints8 l (3 + 2 * k + 1) j⟩ (.agg #[.int .i64 (mo : Nat), .slice A2 n2 c2, .slice A4 n4 c4])) := ⟨_, _, rfl, by dsimp only; omega, hown'.newF, howh.newF⟩
            obtain ⟨H, hH⟩ : ∃ H : Hl, (⟨(mo : Nat), pairs l k, ints8 l (3 + 2 * k + 1) j⟩ : Hl) = H := ⟨_, rfl⟩
            rw [hH] at HV
            have HDD : Hid (D = if helloB H then ⟨H, zC, (3 + 2 * k + 1 + j : Nat), 0⟩ else noD 23) := by show _ = _; rw [hDD.out, hH]
            clear hH
            have hW0s := hs0
            cases hB : helloB H with
            | false =>
              have e1 : D = noD 23 := by rw [HDD.out, hB]; rfl
              subst e1
              have HB := Lib.hid hB
              clear hB
              go_wp2_with (go_at_call 33; refine (refHello_any H _ _ (HV.out.keep_ (fun _ _ => rfl) (fun _ h => h.2))).mono ?_; rintro e w4 ⟨rfl, hx4⟩; rw [HB.out]; have hx24 := hx'.trans hx4; obtain ⟨⟨v0, v1, v2⟩, ⟨g0, g1, g2⟩⟩ := three ((hx24.block _ (by omega)).trans hb0.1); obtain ⟨⟨r0, r1, r2⟩, ⟨k0, k1, k2⟩⟩ := three ((hx24.block _ (by omega)).trans hb0.2))
              refine bodyPost_ret (v := .tuple #[.agg #[.int .i64 0, .slice none 0 0, .slice none 0 0], .agg #[.int .i64 0, .int .i64 0, .int .i64 0], .int .i64 0, .int .i64 23]) (by simp [results, Try.results36, go_sem, v0, v1, v2, g0, g1, g2, r0, r1, r2, k0, k1, k2]) rfl ?_
              have hxw4 := hx2.trans hx24
              exact ⟨_, rfl, RdH.zero _ _, (((((((hxw4).setCell (by simp) _).setCell (by simp) _).setCell (by simp) _).setCell (by simp) _).setCell (by simp) _).setCell (by simp) _)⟩
            | true =>
              have e1 : D = ⟨H, zC, (3 + 2 * k + 1 + j : Nat), 0⟩ := by rw [HDD.out, hB]; rfl
              subst e1
              have HB := Lib.hid hB
              clear hB
              go_wp2_with (go_at_call 33; refine (refHello_any H _ _ (HV.out.keep_ (fun _ _ => rfl) (fun _ h => h.2))).mono ?_; rintro e w4 ⟨rfl, hx4⟩; rw [HB.out]; have hx24 := hx'.trans hx4; obtain ⟨⟨v0, v1, v2⟩, ⟨g0, g1, g2⟩⟩ := three ((hx24.block _ (by omega)).trans hb0.1); obtain ⟨⟨r0, r1, r2⟩, ⟨k0, k1, k2⟩⟩ := three ((hx24.block _ (by omega)).trans hb0.2); obtain ⟨⟨y0, y1, y2⟩, ⟨h0, h1, h2⟩⟩ := three ((hx4.block _ hgl').trans hbg'); have hc4 := HC.out w4 (hxw'.trans hx4) (3 + 2 * k) (by omega); rw [HM.out] at hc4)
              have hne1 : ∀ (W : World) (i : Nat) (u : Value), (W.setCell { block := w.heap.size, off := i } u).cell? (ad.add (3 + 2 * k)) = W.cell? (ad.add (3 + 2 * k)) := fun W i u => World.cell?_of_block (Below.heap_setCell _ _ _ _ (by rw [block_add]; simp; omega))
              have hne2 : ∀ (W : World) (i : Nat) (u : Value), (W.setCell { block := w.heap.size + 1, off := i } u).cell? (ad.add (3 + 2 * k)) = W.cell? (ad.add (3 + 2 * k)) := fun W i u => World.cell?_of_block (Below.heap_setCell _ _ _ _ (by rw [block_add]; simp; omega))
              go_region
              all_goals go_wp2
              all_goals
                have hxw4 := hx2.trans hx24
                refine bodyPost_ret (v := .tuple #[.agg #[.int .i64 (mo : Nat), .slice A2 n2 c2, .slice A4 n4 c4], .agg #[.int .i64 0, .int .i64 0, .int .i64 0], .int .i64 ((3 + 2 * k + 1 + j : Nat) : Int), .int .i64 0]) (by simp [results, Try.results36, go_sem, v0, v1, v2, g0, g1, g2, r0, r1, r2, k0, k1, k2]) rfl ?_
                exact ⟨_, rfl, HV.out.keep_ (S' := New w _) (fun b hb => (set6d (w := w4) (g := w.heap.size) (b := b) (by omega) (by omega) _ _ _ _ _ _).trans (hx4.block b hb.2)) (fun b hb => ⟨by omega, by have := hx4.size; have := hb.2; simp; omega⟩), ((((((hxw4.setCell (by simp) _).setCell (by simp) _).setCell (by simp) _).setCell (by simp) _).setCell (by simp) _).setCell (by simp) _).drew⟩
  · have e1 : D = noD 1 := by rw [← hD]; unfold decD; rw [if_neg (fun e => h1 (by rw [← hk0]; exact e.2)), if_neg (fun e => h2 (by rw [← hk0]; exact e.2))]
    subst e1
    have h1i : ¬ (k0 : Int) = 1 := by omega
    clear C hD hl h h2 hk0 h1
    go_enter Try.func36, Try.ntmps36
    go_wp2
    refine bodyPost_ret (v := .tuple #[.agg #[.int .i64 0, .slice none 0 0, .slice none 0 0], .agg #[.int .i64 0, .int .i64 0, .int .i64 0], .int .i64 0, .int .i64 1]) (by simp [results, Try.results36, go_sem]) rfl ?_
    exact DecRes.none_ hx2

theorem refDecode_any (l : List UInt8) (A : Option Addr) (n c : Nat) (w : World) (h : Rd w (.sl 1 (bytesC l)) (.slice A n c)) (hn4 : n ≤ 1000000000) :
    Calls Try.prog 36 #[.slice A n c] w fun e w' => DecRes w (decD l) e w' := by
  rcases Nat.eq_zero_or_pos n with h0 | h0
  · subst h0
    exact refDecode0 l A c w h
  · obtain ⟨ad, rfl, -, -⟩ := bAt_cell h (k := 0) h0
    by_cases h2 : bAt l 0 = 2
    · exact refDecode2 l ad n c w h h0 h2
    · exact refDecode1 l ad n c w h h0 hn4 h2
end Go.Proofs.Ythjgcmifggdepaa
