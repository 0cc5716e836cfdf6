/- The walk: what the law says of any bytes. -/
import Derived.Test.YthohienbmhohjaaW30
import Derived.Test.YthohienbmhohjaaW21
import Derived.Deep.RegionWith
namespace Go.Proofs.Ythohienbmhohjaa
open Go.RowKit

set_option maxRecDepth 100000 in
set_option maxHeartbeats 800000 in
theorem bytes_any (l : List UInt8) (A : Option Addr) (n c : Nat) (w : World) (h : Rd w (.sl 1 (bytesC l)) (.slice A n c)) :
    Calls Try.prog 23 #[.slice A n c] w fun e w' => e = .returned (.bool true) ∧ Ext w w' := by
  obtain ⟨t, b, nst, es, hd⟩ : ∃ t b nst es, decV l = .mk t b nst es := by
    cases decV l
    exact ⟨_, _, _, _, rfl⟩
  obtain ⟨k, hk⟩ : ∃ k, decE l = k := ⟨_, rfl⟩
  obtain ⟨k2, hk2⟩ : ∃ k, allE l = k := ⟨_, rfl⟩
  have HD := Lib.hid hd
  have HK := Lib.hid hk
  have HK2 := Lib.hid hk2
  have HS := Lib.hid (same_refl (.mk t b nst es))
  have HA := Lib.hid (sameAll_refl (allL l))
  have HR := Lib.hid h
  clear hd hk hk2 h
  go_enter Try.func23, Try.ntmps23
  go_wp2_with (first
    | (go_at_call 29; refine (decode_any l _ _ _ _ (by exact HR.out)).mono ?_; rintro e w1 ⟨v1, rfl, hr1, hx1⟩; rw [HD.out] at hr1; rw [HK.out]; have HV1 := Lib.hid hr1.new_rd; obtain ⟨vb1, ve1, rfl, i1, hrb1, hre1⟩ := hr1; obtain ⟨A1, n1, c1, rfl, -⟩ := RdC.slice hrb1; obtain ⟨A2, n2, c2, rfl, -⟩ := RdC.slice hre1; clear hrb1 hre1)
    | (go_at_call 48; refine (rdecode_any l _ _ _ _ (by exact HR.out.ext (hx1.alloc _))).mono ?_; rintro e w2 ⟨v2, rfl, hr2, hx2⟩; rw [HD.out] at hr2; rw [HK.out]; have HV2 := Lib.hid hr2.new_rd; obtain ⟨vb2, ve2, rfl, i2, hrb2, hre2⟩ := hr2; obtain ⟨A3, n3, c3, rfl, -⟩ := RdC.slice hrb2; obtain ⟨A4, n4, c4, rfl, -⟩ := RdC.slice hre2; clear hrb2 hre2)
    | (go_at_call 30; refine (alls_any l _ _ _ _ (by exact HR.out.ext (((hx1.alloc _).trans hx2).alloc _))).mono ?_; rintro e w3 ⟨A5, n5, c5, rfl, hr3, hx3⟩; rw [HK2.out])
    | (go_at_call 49; refine (ralls_any l _ _ _ _ (by exact HR.out.ext ((((hx1.alloc _).trans hx2).alloc _).trans hx3))).mono ?_; rintro e w4 ⟨A6, n6, c6, rfl, hr4, hx4⟩; rw [HK2.out]; have hx34 := hx3.trans hx4; have hx14 := hx2.trans (((Ext.refl _).alloc _).trans hx34); obtain ⟨⟨q20, q21, q22, q23⟩, -⟩ := four hx34.blk; obtain ⟨⟨q10, q11, q12, q13⟩, -⟩ := four hx14.blk)
    | (go_at_call 18; refine (rsame_any _ _ _ _ _ _ (Nat.le_refl _) (by exact HV1.out.ext (((Ext.refl _).alloc _).trans hx14)) (by exact HV2.out.ext (((Ext.refl _).alloc _).trans hx34))).mono ?_; rintro e w5 ⟨rfl, hx5⟩; rw [HS.out])
    | (go_at_call 41; refine (rsameAll_any _ _ _ _ _ _ _ _ _ (by exact hr3.new_rd.ext (hx4.trans hx5)) (by exact hr4.new_rd.ext hx5)).mono ?_; rintro e w6 ⟨rfl, hx6⟩; rw [HA.out]))
  go_ret
  exact ⟨ret_val rfl, (((hx1.alloc _).trans hx2).alloc _).trans (hx34.trans (hx5.trans hx6))⟩
end Go.Proofs.Ythohienbmhohjaa
