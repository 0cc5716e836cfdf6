/- The walks: numbers read, by the reference. -/
import Derived.Test.YthohienbmhohjaaW9
namespace Go.Proofs.Ythohienbmhohjaa
open Go.RowKit

theorem w64_0 : wrap64 0 = 0 := by rw [w64, IntKind.wrap_i64]; rfl
theorem w64_m : wrap64 (-1) = -1 := by rw [w64, IntKind.wrap_i64]; rfl
theorem or_w (z : Int) (y : UInt8) : bits .or .i64 (wrap64 (wrap64 z * 256)) (wrap64 (y.toNat : Int)) = wrap64 (z * 256 + y.toNat) := by
  have e : wrap64 (y.toNat : Int) = (y.toNat : Int) := by rw [w64, IntKind.wrap_i64]; have := y.toNat_lt; omega
  rw [e, w64, w64, w64, or_i]

set_option maxRecDepth 100000 in
set_option maxHeartbeats 3200000 in
theorem rasInt_any (t : Int) (b : List UInt8) (nst : Bool) (es : List V) (v : Value) (w : World) (h : RdVal w (.mk t b nst es) v) :
    Calls Try.prog 37 #[v] w fun e w' => e = .returned (orForm (intOk (.mk t b nst es)) (.int .i64 (numOf b)) (.int .i64 0)) ∧ Ext w w' := by
  obtain ⟨Ab, nb, cb, Ae, ne, ce, rfl, ht, hb, he, HB, HE, hnb, hne⟩ := h.opened
  clear h
  have hfl := field1
  by_cases hp : plainB (.mk t b nst es) 2 = true
  · have hp' := hp
    rw [plainB_eq t b nst es 2 HE] at hp'
    simp at hp'
    obtain ⟨⟨rfl, rfl⟩, rfl⟩ := hp'
    by_cases hn1 : 1 ≤ nb ∧ nb ≤ 8
    · obtain ⟨hn1, hn8⟩ := hn1
      obtain ⟨ad, x, r, rfl, hS, rfl, -⟩ := RdC.byte0 hb hn1
      have HR := Lib.hid (intOk_yes HB (by omega) hp)
      clear hp
      have hb2 := hb.ext ((Ext.refl _).alloc (.cells #[.int .i64 2, .slice (some ad) nb cb, .bool false, .slice Ae 0 ce] 29))
      obtain ⟨_, _, _, e1, -, e2, hc0⟩ := RdC.byte0 hb2 hn1
      injection e1 with e1; injection e2 with e2 e3; subst e1 e2; clear e3
      have hn1' : (1 : Int) ≤ (nb : Int) := by omega
      have hn8' : (nb : Int) ≤ 8 := by omega
      go_enter Try.func37, Try.ntmps37
      go_wp2
      all_goals
        go_loop [4, 5] (fun s i => ∃ k : Nat, k ≤ nb ∧ i = .int .i64 k ∧ s = .int .i64 (wrap64 (foldU (sgn x) ((x :: r).take k)))) (fun _ i => nb - (intOf i).toNat)
        case atStart => exact ⟨0, by omega, rfl, by simp only [List.take_zero, foldU, List.foldl_nil]; unfold sgn; first | rw [if_pos ‹_›, w64_m] | rw [if_neg (by omega), w64_0]⟩
        case round =>
          obtain ⟨k, hk, rfl, rfl⟩ := hrel
          by_cases hlt : k < nb
          · obtain ⟨ad', y, e1, -, hd, hc1⟩ := RdC.byte hb2 hlt
            injection e1 with e1
            subst e1
            have HD := Lib.hid hd
            clear hd
            go_wp2
            go_round
            case rel => exact ⟨k + 1, by omega, by go_num, by rw [foldU_succ HD.out, or_w]⟩
            case measure => simp [intOf]; omega
          · have hn : Hid (wrap64 (foldU (sgn x) ((x :: r).take k)) = numOf (x :: r)) := by show _ = _; rw [take_all HB hlt, w64]; rfl
            have hb3 : (-9223372036854775808 : Int) ≤ wrap64 (foldU (sgn x) ((x :: r).take k)) ∧ wrap64 (foldU (sgn x) ((x :: r).take k)) ≤ 9223372036854775807 := by rw [w64, IntKind.wrap_i64]; omega
            have HB3 := Lib.hid hb3
            clear hb3
            go_wp2
            have kc0 := conv_bytes (P := Try.prog) 22 5 9 Try.underlying22 Try.underlying5 Try.underlying9 (hb2.ext (Ext.refl _).drew)
            go_region_with (first | (go_at_call 19; refine (rint_any _ _ HB3.out.1 HB3.out.2).mono ?_; rintro e w2 ⟨v2, rfl, hv2, hx2⟩; obtain ⟨A2, m2, c2, A3, m3, c3, rfl, -, hvb, -⟩ := hv2.new_rd.opened; have kc1 := conv_bytes (P := Try.prog) 22 5 9 Try.underlying22 Try.underlying5 Try.underlying9 hvb; have kc2 := conv_bytes (P := Try.prog) 22 5 9 Try.underlying22 Try.underlying5 Try.underlying9 (hb2.ext (Ext.trans (Ext.refl _).drew hx2)); have hbk2 := (Ext.trans (Ext.refl _).drew hx2).blk; have hb22 := (Ext.trans (Ext.refl _).drew hx2).box (i := 1) (v := .slice (some ad) nb cb) rfl))
            all_goals
              go_wp2
              · have hq : (!intB (wrap64 (foldU (sgn x) ((x :: r).take k))) == x :: r) = true := ‹_›
                rw [hn.out] at hq
                go_ret2
                exact ⟨ret_val (orForm_no (by rw [HR.out]; simpa using hq)), ((Ext.refl _).alloc _).trans (Ext.trans (Ext.refl _).drew hx2)⟩
              · have hq : (!intB (wrap64 (foldU (sgn x) ((x :: r).take k))) == x :: r) = false := ‹_›
                rw [hn.out] at hq
                go_ret2
                exact ⟨ret_val (Eq.trans (by rw [← hn.out]; rfl) (orForm_yes (ok := intOk (.mk 2 (x :: r) false es)) (good := .int .i64 (numOf (x :: r))) (by rw [HR.out]; simpa using hq))), ((Ext.refl _).alloc _).trans (Ext.trans (Ext.refl _).drew hx2)⟩
    · have HN : Hid (intOk (.mk 2 b false es) = false) := intOk_len HB (by omega)
      by_cases h0 : nb < 1
      · obtain rfl : nb = 0 := by omega
        go_enter Try.func37, Try.ntmps37
        go_wp2
        go_ret2
        exact ⟨ret_val (orForm_no HN.out), (Ext.refl _).alloc _⟩
      · have h8 : (8 : Int) < (nb : Int) := by omega
        go_enter Try.func37, Try.ntmps37
        go_wp2
        go_ret2
        exact ⟨ret_val (orForm_no HN.out), (Ext.refl _).alloc _⟩
  · have hp := eq_false_of_ne_true hp
    have HN : Hid (intOk (.mk t b nst es) = false) := intOk_no hp
    rw [plainB_eq t b nst es 2 HE] at hp
    by_cases h1 : t = 2
    · subst h1
      cases nst
      · have h3 : 0 < ne := by simp at hp; omega
        clear hp
        go_enter Try.func37, Try.ntmps37
        go_wp2
        go_ret2
        exact ⟨ret_val (orForm_no HN.out), (Ext.refl _).alloc _⟩
      · clear hp
        go_enter Try.func37, Try.ntmps37
        go_wp2
        go_ret2
        exact ⟨ret_val (orForm_no HN.out), (Ext.refl _).alloc _⟩
    · clear hp
      go_enter Try.func37, Try.ntmps37
      go_wp2
      go_ret2
      exact ⟨ret_val (orForm_no HN.out), (Ext.refl _).alloc _⟩
end Go.Proofs.Ythohienbmhohjaa
