/- The walks: numbers read. -/
import Derived.Test.YthohienbmhohjaaW8
import Derived.Test.YthohienbmhohjaaSpec4
namespace Go.Proofs.Ythohienbmhohjaa
open Go.RowKit

theorem w64 (z : Int) : wrap64 z = IntKind.i64.wrap z := by rw [IntKind.wrap_i64]; unfold wrap64; rfl
theorem field1 (a b c d : Value) (w : World) : (Instr.field 29 (.agg #[a, b, c, d]) 1).run Try.prog w = .ok b w := by kernel_rfl

set_option maxRecDepth 100000 in
set_option maxHeartbeats 3200000 in
theorem asInt_any (t : Int) (b : List UInt8) (nst : Bool) (es : List V) (v : Value) (w : World) (h : RdVal w (.mk t b nst es) v) :
    Calls Try.prog 9 #[v] w fun e w' => e = .returned (orForm (intOk (.mk t b nst es)) (.int .i64 (numOf b)) (.int .i64 0)) ∧ Ext w w' := by
  obtain ⟨Ab, nb, cb, Ae, ne, ce, rfl, ht, hb, he, HB, HE, hnb, hne⟩ := h.opened
  have HV := Lib.hid h
  clear h
  have hfl := field1
  by_cases hn1 : 1 ≤ nb ∧ nb ≤ 8
  · obtain ⟨hn1, hn8⟩ := hn1
    obtain ⟨ad, x, r, rfl, hS, rfl, -⟩ := RdC.byte0 hb hn1
    have hn1' : (1 : Int) ≤ (nb : Int) := by omega
    have hn8' : (nb : Int) ≤ 8 := by omega
    by_cases h128 : (128 : Int) ≤ x.toNat
    · go_enter Try.func9, Try.ntmps9
      go_wp2_with (first | (go_at_call 33; refine (plain_any t _ nst es _ _ (HV.out.ext ((Ext.refl _).alloc _)) 2).mono ?_; rintro e w' ⟨rfl, hx⟩; have hbk := hx.blk; have hb1 := hx.box (i := 1) (v := .slice (some ad) nb cb) rfl; obtain ⟨_, _, _, e1, -, e2, hc0⟩ := RdC.byte0 (hb.ext (((Ext.refl _).alloc _).trans hx)) hn1; injection e1 with e1; injection e2 with e2 e3; subst e1 e2; clear e3))
      · go_ret2
        exact ⟨ret_val (orForm_no (intOk_no ‹_›)), ((Ext.refl _).alloc _).trans hx⟩
      · have hb2 := hb.ext (((Ext.refl _).alloc _).trans hx)
        have HR := Lib.hid (intOk_yes HB (by omega) ‹plainB (.mk t (x :: r) nst es) 2 = true›)
        have HP : Hid (plainB (.mk t (x :: r) nst es) 2 = true) := ‹_›
        rename plainB (.mk t (x :: r) nst es) 2 = true => hz; clear hz
        go_loop [4, 32] (fun s i => ∃ k : Nat, k ≤ nb ∧ i = .int .i64 k ∧ s = .int .u64 (IntKind.u64.wrap (foldU (sgn x) ((x :: r).take k)))) (fun _ i => nb - (intOf i).toNat)
        case atStart => exact ⟨0, by omega, rfl, by simp only [List.take_zero, foldU, List.foldl_nil]; unfold sgn; rw [if_pos h128]; rfl⟩
        case round =>
          obtain ⟨k, hk, rfl, rfl⟩ := hrel
          by_cases hlt : k < nb
          · obtain ⟨ad', y, e1, -, hd, hc1⟩ := RdC.byte hb2 hlt
            injection e1 with e1
            subst e1
            have HD := Lib.hid hd
            clear hd
            go_wp2
            go_round
            case rel => exact ⟨k + 1, by omega, by go_num, by rw [foldU_succ HD.out, or_u]⟩
            case measure => simp [intOf]; omega
          · have hn : Hid (IntKind.i64.wrap (IntKind.u64.wrap (foldU (sgn x) ((x :: r).take k))) = numOf (x :: r)) := by show _ = _; rw [take_all HB hlt, i64_of_u64]; rfl
            go_wp2
            go_region_with (first | (go_at_call 10; refine (int_any _ _).mono ?_; rintro e w2 ⟨v2, rfl, hv2, hx2⟩; obtain ⟨A2, m2, c2, A3, m3, c3, rfl, -, hvb, -⟩ := hv2.new_rd.opened; have hbk2 := (hx.trans (Ext.trans (Ext.refl _).drew hx2)).blk; have hb22 := (hx.trans (Ext.trans (Ext.refl _).drew hx2)).box (i := 1) (v := .slice (some ad) nb cb) rfl) | (go_at_call 34; refine (equal_any _ _ _ _ _ _ _ _ _ hvb (hb2.ext (Ext.trans (Ext.refl _).drew hx2))).mono ?_; rintro e w3 ⟨rfl, rfl⟩))
            all_goals
              go_wp2
              · have hq : (!intB (IntKind.i64.wrap (IntKind.u64.wrap (foldU (sgn x) ((x :: r).take k)))) == x :: r) = true := ‹_›
                rw [hn.out] at hq
                go_ret2
                exact ⟨ret_val (orForm_no (by rw [HR.out]; simpa using hq)), (((Ext.refl _).alloc _).trans hx).trans (Ext.trans (Ext.refl _).drew hx2)⟩
              · have hq : (!intB (IntKind.i64.wrap (IntKind.u64.wrap (foldU (sgn x) ((x :: r).take k)))) == x :: r) = false := ‹_›
                rw [hn.out] at hq
                go_ret2
                exact ⟨ret_val (Eq.trans (by rw [← hn.out, ← w64]; rfl) (orForm_yes (ok := intOk (.mk t (x :: r) nst es)) (good := .int .i64 (numOf (x :: r))) (by rw [HR.out]; simpa using hq))), (((Ext.refl _).alloc _).trans hx).trans (Ext.trans (Ext.refl _).drew hx2)⟩
    · have hx128 : (x.toNat : Int) < 128 := by omega
      go_enter Try.func9, Try.ntmps9
      go_wp2_with (first | (go_at_call 33; refine (plain_any t _ nst es _ _ (HV.out.ext ((Ext.refl _).alloc _)) 2).mono ?_; rintro e w' ⟨rfl, hx⟩; have hbk := hx.blk; have hb1 := hx.box (i := 1) (v := .slice (some ad) nb cb) rfl; obtain ⟨_, _, _, e1, -, e2, hc0⟩ := RdC.byte0 (hb.ext (((Ext.refl _).alloc _).trans hx)) hn1; injection e1 with e1; injection e2 with e2 e3; subst e1 e2; clear e3))
      · go_ret2
        exact ⟨ret_val (orForm_no (intOk_no ‹_›)), ((Ext.refl _).alloc _).trans hx⟩
      · have hb2 := hb.ext (((Ext.refl _).alloc _).trans hx)
        have HR := Lib.hid (intOk_yes HB (by omega) ‹plainB (.mk t (x :: r) nst es) 2 = true›)
        have HP : Hid (plainB (.mk t (x :: r) nst es) 2 = true) := ‹_›
        rename plainB (.mk t (x :: r) nst es) 2 = true => hz; clear hz
        go_loop [4, 32] (fun s i => ∃ k : Nat, k ≤ nb ∧ i = .int .i64 k ∧ s = .int .u64 (IntKind.u64.wrap (foldU (sgn x) ((x :: r).take k)))) (fun _ i => nb - (intOf i).toNat)
        case atStart => exact ⟨0, by omega, rfl, by simp only [List.take_zero, foldU, List.foldl_nil]; unfold sgn; rw [if_neg (by omega)]; rfl⟩
        case round =>
          obtain ⟨k, hk, rfl, rfl⟩ := hrel
          by_cases hlt : k < nb
          · obtain ⟨ad', y, e1, -, hd, hc1⟩ := RdC.byte hb2 hlt
            injection e1 with e1
            subst e1
            have HD := Lib.hid hd
            clear hd
            go_wp2
            go_round
            case rel => exact ⟨k + 1, by omega, by go_num, by rw [foldU_succ HD.out, or_u]⟩
            case measure => simp [intOf]; omega
          · have hn : Hid (IntKind.i64.wrap (IntKind.u64.wrap (foldU (sgn x) ((x :: r).take k))) = numOf (x :: r)) := by show _ = _; rw [take_all HB hlt, i64_of_u64]; rfl
            go_wp2
            go_region_with (first | (go_at_call 10; refine (int_any _ _).mono ?_; rintro e w2 ⟨v2, rfl, hv2, hx2⟩; obtain ⟨A2, m2, c2, A3, m3, c3, rfl, -, hvb, -⟩ := hv2.new_rd.opened; have hbk2 := (hx.trans (Ext.trans (Ext.refl _).drew hx2)).blk; have hb22 := (hx.trans (Ext.trans (Ext.refl _).drew hx2)).box (i := 1) (v := .slice (some ad) nb cb) rfl) | (go_at_call 34; refine (equal_any _ _ _ _ _ _ _ _ _ hvb (hb2.ext (Ext.trans (Ext.refl _).drew hx2))).mono ?_; rintro e w3 ⟨rfl, rfl⟩))
            all_goals
              go_wp2
              · have hq : (!intB (IntKind.i64.wrap (IntKind.u64.wrap (foldU (sgn x) ((x :: r).take k)))) == x :: r) = true := ‹_›
                rw [hn.out] at hq
                go_ret2
                exact ⟨ret_val (orForm_no (by rw [HR.out]; simpa using hq)), (((Ext.refl _).alloc _).trans hx).trans (Ext.trans (Ext.refl _).drew hx2)⟩
              · have hq : (!intB (IntKind.i64.wrap (IntKind.u64.wrap (foldU (sgn x) ((x :: r).take k)))) == x :: r) = false := ‹_›
                rw [hn.out] at hq
                go_ret2
                exact ⟨ret_val (Eq.trans (by rw [← hn.out, ← w64]; rfl) (orForm_yes (ok := intOk (.mk t (x :: r) nst es)) (good := .int .i64 (numOf (x :: r))) (by rw [HR.out]; simpa using hq))), (((Ext.refl _).alloc _).trans hx).trans (Ext.trans (Ext.refl _).drew hx2)⟩
  · have HN : Hid (intOk (.mk t b nst es) = false) := intOk_len HB (by omega)
    by_cases h0 : nb < 1
    · obtain rfl : nb = 0 := by omega
      go_enter Try.func9, Try.ntmps9
      go_wp2_with (first | (go_at_call 33; refine (plain_any t _ nst es _ _ (HV.out.ext ((Ext.refl _).alloc _)) 2).mono ?_; rintro e w' ⟨rfl, hx⟩; have hbk := hx.blk; have hb1 := hx.box (i := 1) (v := .slice Ab 0 cb) rfl))
      all_goals go_ret2
      all_goals exact ⟨ret_val (orForm_no HN.out), ((Ext.refl _).alloc _).trans hx⟩
    · have h8 : 8 < nb := by omega
      go_enter Try.func9, Try.ntmps9
      go_wp2_with (first | (go_at_call 33; refine (plain_any t _ nst es _ _ (HV.out.ext ((Ext.refl _).alloc _)) 2).mono ?_; rintro e w' ⟨rfl, hx⟩; have hbk := hx.blk; have hb1 := hx.box (i := 1) (v := .slice Ab nb cb) rfl))
      all_goals go_ret2
      all_goals exact ⟨ret_val (orForm_no HN.out), ((Ext.refl _).alloc _).trans hx⟩
end Go.Proofs.Ythohienbmhohjaa
