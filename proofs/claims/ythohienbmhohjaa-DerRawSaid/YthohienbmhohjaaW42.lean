/- The walk: the law of any elements and bytes. -/
import Derived.Test.YthohienbmhohjaaW41
import Derived.Test.YthohienbmhohjaaW22
import Derived.BigGuardPart
namespace Go.Proofs.Ythohienbmhohjaa
open Go.RowKit

set_option maxRecDepth 100000 in
set_option maxHeartbeats 1600000 in
theorem derRaw_any (d : V) (v : Value) (lr : List UInt8) (Ar : Option Addr) (nr cr : Nat) (w : World) (h : RdVal w d v) (hr : Rd w (.sl 1 (bytesC lr)) (.slice Ar nr cr)) :
    Calls Try.prog 7 #[v, .slice Ar nr cr] w fun e w' => e = .returned (.bool true) ∧ Ext w w' := by
  have HV := Lib.hid h
  have HR := Lib.hid hr
  obtain ⟨t, b, nst, es⟩ := d
  obtain ⟨Ab, nb, cb, Ae, ne, ce, rfl, -⟩ := h.opened
  clear h hr
  obtain ⟨E, hE⟩ : ∃ E, encE (V.mk t b nst es) = E := ⟨_, rfl⟩
  obtain ⟨L, hL⟩ : ∃ L, encL (V.mk t b nst es) = L := ⟨_, rfl⟩
  have HE := Lib.hid hE
  have HL := Lib.hid hL
  clear hE hL
  go_enter Try.func7, Try.ntmps7
  go_wp2_with (go_at_call 31; refine (vlight_any (.mk t b nst es) _ _ (by exact HV.out.ext ((Ext.refl _).alloc _))).mono ?_; rintro e w1 ⟨r, rfl, hrc, hx1⟩; have HRC := Lib.hid hrc; clear hrc; obtain ⟨⟨q0, q1, q2, q3⟩, -⟩ := four hx1.blk)
  · go_wp2_with (go_at_call 8; refine (awake_any _).mono ?_; rintro e w2 ⟨rfl, hx2⟩)
    go_ret
    exact ⟨ret_val rfl, ((Ext.refl _).alloc _).trans (hx1.trans hx2)⟩
  · go_wp2_with (go_at_call 8; refine (awake_any _).mono ?_; rintro e w2 ⟨rfl, hx2⟩)
    go_ret
    exact ⟨ret_val rfl, ((Ext.refl _).alloc _).trans (hx1.trans hx2)⟩
  · have hr4 : r ≤ 400 := by omega
    have hc := HRC.out hr4
    have h1 := cnt_depth (V.mk t b nst es)
    have h2 := cnt_wt (V.mk t b nst es)
    have h3 := cnt_put (V.mk t b nst es) (by omega)
    rw [V.wt] at h2
    have HDp : Hid ((V.mk t b nst es).depth ≤ 1000000) := by show _ ≤ _; omega
    have HPt : Hid ((V.mk t b nst es).put.length ≤ 1000000000) := by show _ ≤ _; omega
    have HWt : Hid (wtAll es ≤ 100000000) := by show _ ≤ _; omega
    clear h1 h2 h3 hc
    have hxa := ((Ext.refl w).alloc (.cells #[.int .i64 t, .slice Ab nb cb, .bool nst, .slice Ae ne ce] 29)).trans hx1
    go_wp2_with (first
      | (go_at_call 21; refine (encode_any (.mk t b nst es) HDp.out (fun _ => HPt.out) _ _ (by exact HV.out.ext hxa)).mono ?_; rintro e w2 ⟨A2, n2, c2, rfl, hr2, hx2⟩; rw [HE.out]; rw [HL.out] at hr2; obtain ⟨⟨q20, q21, q22, q23⟩, -⟩ := four (hx1.trans hx2).blk)
      | (go_at_call 22; refine (rencode_any (.mk t b nst es) HDp.out (fun _ => HPt.out) _ _ (by exact HV.out.ext (hxa.trans hx2))).mono ?_; rintro e w3 ⟨A3, n3, c3, rfl, hr3, hx3⟩; rw [HE.out]; rw [HL.out] at hr3; have kc2 := conv_bytes (P := Try.prog) 22 5 9 Try.underlying22 Try.underlying5 Try.underlying9 (hr2.new_rd.ext hx3); have kc3 := conv_bytes (P := Try.prog) 22 5 9 Try.underlying22 Try.underlying5 Try.underlying9 hr3.new_rd)
      | (go_at_call 23; refine (bytes_any lr _ _ _ _ (by exact HR.out.ext (hxa.trans (hx2.trans hx3)))).mono ?_; rintro e w4 ⟨rfl, hx4⟩; obtain ⟨⟨q40, q41, q42, q43⟩, -⟩ := four (hx1.trans (hx2.trans (hx3.trans hx4))).blk)
      | (go_at_call 17; refine (as_any t b nst es HWt.out _ _ (by exact HV.out.ext (hxa.trans (hx2.trans (hx3.trans hx4))))).mono ?_; rintro e w5 ⟨rfl, hx5⟩)
      | (go_at_call 8; refine (awake_any _).mono ?_; rintro e w6 ⟨rfl, hx6⟩))
    go_ret
    exact ⟨ret_val rfl, hxa.trans (hx2.trans (hx3.trans (hx4.trans (hx5.trans hx6))))⟩
end Go.Proofs.Ythohienbmhohjaa
