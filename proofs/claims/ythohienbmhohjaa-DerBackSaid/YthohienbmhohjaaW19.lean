/- The walks: Encode, by the program and by the reference. -/
import Derived.Test.YthohienbmhohjaaW18
namespace Go.Proofs.Ythohienbmhohjaa
open Go.RowKit

/-- Which error Encode gives. -/
def encE (d : V) : Int := if d.formed = false then 1 else if 16 < d.depth then 3 else if 4096 < d.put.length then 3 else 0
/-- Which bytes Encode gives. -/
def encL (d : V) : List UInt8 := if encE d = 0 then d.put else []
def EncRes (w : World) (d : V) (e : Ending) (w' : World) : Prop :=
  ∃ A n c, e = .returned (.tuple #[.slice A n c, .int .i64 (encE d)]) ∧ RdC w' (New w w') (.sl 1 (bytesC (encL d))) (.slice A n c) ∧ Ext w w'
theorem EncRes.no {w w' : World} {d : V} {v : Value} {k : Int} (hk : encE d = k) (h0 : k ≠ 0) (hv : v = .tuple #[.slice none 0 0, .int .i64 k]) (hx : Ext w w') : EncRes w d (.returned v) w' := by
  refine ⟨none, 0, 0, by rw [hv, hk], ?_, hx⟩
  unfold encL
  rw [if_neg (by omega)]
  exact RdC.nil_ 1
theorem EncRes.yes {w w' : World} {d : V} {v : Value} {A : Option Addr} {n c : Nat} (hk : encE d = 0) (hv : v = .tuple #[.slice A n c, .int .i64 0]) (hr : RdC w' (New w w') (.sl 1 (bytesC d.put)) (.slice A n c)) (hx : Ext w w') : EncRes w d (.returned v) w' := by
  refine ⟨A, n, c, by rw [hv, hk], ?_, hx⟩
  unfold encL
  rw [if_pos hk]
  exact hr

set_option maxRecDepth 100000 in
set_option maxHeartbeats 800000 in
theorem encode_any (d : V) (hdep : d.depth ≤ 1000000) (hlen : d.formed = true → d.put.length ≤ 1000000000) (v : Value) (w : World) (h : RdVal w d v) : Calls Try.prog 21 #[v] w fun e w' => EncRes w d e w' := by
  have HV := Lib.hid h
  obtain ⟨t, b, nst, es⟩ := d
  obtain ⟨Ab, nb, cb, Ae, ne, ce, rfl, ht, hb, he, HB, HE, hnb, hne⟩ := h.opened
  clear h
  by_cases hf : (V.mk t b nst es).formed = false
  · have H1 : Hid (encE (.mk t b nst es) = 1) := by show _ = _; unfold encE; rw [if_pos hf]
    go_enter Try.func21, Try.ntmps21
    go_wp2_with (go_at_call 42; refine (formed_any _ _ _ _ (Nat.le_refl _) (HV.out.ext ((Ext.refl _).alloc _))).mono ?_; rintro e w1 ⟨rfl, hx⟩; have hbk := hx.blk; rw [hf])
    go_ret2
    exact EncRes.no H1.out (by decide) rfl (((Ext.refl _).alloc _).trans hx)
  have hf : (V.mk t b nst es).formed = true := by simpa using hf
  have hl := hlen hf
  by_cases hd : 16 < (V.mk t b nst es).depth
  · have H1 : Hid (encE (.mk t b nst es) = 3) := by show _ = _; unfold encE; rw [if_neg (by rw [hf]; decide), if_pos hd]
    go_enter Try.func21, Try.ntmps21
    go_wp2_with (first
      | (go_at_call 42; refine (formed_any _ _ _ _ (Nat.le_refl _) (HV.out.ext ((Ext.refl _).alloc _))).mono ?_; rintro e w1 ⟨rfl, hx⟩; have hbk := hx.blk; obtain ⟨⟨q0, q1, q2, q3⟩, ⟨f0, f1, f2, f3⟩⟩ := four hx.blk; rw [hf]) | (go_at_call 43; refine (depth_any _ _ _ _ (Nat.le_refl _) hdep ((HV.out.ext ((Ext.refl _).alloc _)).ext hx)).mono ?_; rintro e w2 ⟨rfl, hx2⟩))
    go_ret2
    exact EncRes.no H1.out (by decide) rfl ((((Ext.refl _).alloc _).trans hx).trans hx2)
  have HF := Lib.hid hf
  by_cases hp : 4096 < (V.mk t b nst es).put.length
  · have H1 : Hid (encE (.mk t b nst es) = 3) := by show _ = _; unfold encE; rw [if_neg (by rw [hf]; decide), if_neg hd, if_pos hp]
    go_enter Try.func21, Try.ntmps21
    go_wp2_with (first
      | (go_at_call 42; refine (formed_any _ _ _ _ (Nat.le_refl _) (HV.out.ext ((Ext.refl _).alloc _))).mono ?_; rintro e w1 ⟨rfl, hx⟩; have hbk := hx.blk; obtain ⟨⟨q0, q1, q2, q3⟩, ⟨f0, f1, f2, f3⟩⟩ := four hx.blk; rw [hf]) | (go_at_call 43; refine (depth_any _ _ _ _ (Nat.le_refl _) hdep ((HV.out.ext ((Ext.refl _).alloc _)).ext hx)).mono ?_; rintro e w2 ⟨rfl, hx2⟩; obtain ⟨⟨q0, q1, q2, q3⟩, ⟨f0, f1, f2, f3⟩⟩ := four (hx.trans hx2).blk)
      | (go_at_call 44; refine (element_any _ [] _ w2 _ _ _ _ (Ext.refl _) (OwnT.nil_ _ _ _ _ _) (((HV.out.ext ((Ext.refl _).alloc _)).ext hx).ext hx2) HF.out (by simp; omega)).mono ?_; rintro e w3 ⟨A3, n3, c3, rfl, hown3, hg3, hr3⟩; have hx3 := (Ext.refl w2).grown hg3 (fun k hk => by simp [Value.ownBlock] at hk); have hn3 := (RdC.blen hown3.rd).1; rw [List.nil_append] at hn3))
    go_ret2
    exact EncRes.no H1.out (by decide) rfl (((((Ext.refl _).alloc _).trans hx).trans hx2).trans hx3)
  · have H1 : Hid (encE (.mk t b nst es) = 0) := by show _ = _; unfold encE; rw [if_neg (by rw [hf]; decide), if_neg hd, if_neg hp]
    go_enter Try.func21, Try.ntmps21
    go_wp2_with (first
      | (go_at_call 42; refine (formed_any _ _ _ _ (Nat.le_refl _) (HV.out.ext ((Ext.refl _).alloc _))).mono ?_; rintro e w1 ⟨rfl, hx⟩; have hbk := hx.blk; obtain ⟨⟨q0, q1, q2, q3⟩, ⟨f0, f1, f2, f3⟩⟩ := four hx.blk; rw [hf]) | (go_at_call 43; refine (depth_any _ _ _ _ (Nat.le_refl _) hdep ((HV.out.ext ((Ext.refl _).alloc _)).ext hx)).mono ?_; rintro e w2 ⟨rfl, hx2⟩; obtain ⟨⟨q0, q1, q2, q3⟩, ⟨f0, f1, f2, f3⟩⟩ := four (hx.trans hx2).blk)
      | (go_at_call 44; refine (element_any _ [] _ w2 _ _ _ _ (Ext.refl _) (OwnT.nil_ _ _ _ _ _) (((HV.out.ext ((Ext.refl _).alloc _)).ext hx).ext hx2) HF.out (by simp; omega)).mono ?_; rintro e w3 ⟨A3, n3, c3, rfl, hown3, hg3, hr3⟩; have hx3 := (Ext.refl w2).grown hg3 (fun k hk => by simp [Value.ownBlock] at hk); have hn3 := (RdC.blen hown3.rd).1; rw [List.nil_append] at hn3))
    go_ret2
    have hx12 := ((((Ext.refl _).alloc _).trans hx).trans hx2)
    exact EncRes.yes H1.out rfl (hown3.newF.new_back hx12) (hx12.trans hx3)
set_option maxRecDepth 100000 in
set_option maxHeartbeats 800000 in
theorem rencode_any (d : V) (hdep : d.depth ≤ 1000000) (hlen : d.formed = true → d.put.length ≤ 1000000000) (v : Value) (w : World) (h : RdVal w d v) : Calls Try.prog 22 #[v] w fun e w' => EncRes w d e w' := by
  have HV := Lib.hid h
  obtain ⟨t, b, nst, es⟩ := d
  obtain ⟨Ab, nb, cb, Ae, ne, ce, rfl, ht, hb, he, HB, HE, hnb, hne⟩ := h.opened
  clear h
  by_cases hf : (V.mk t b nst es).formed = false
  · have H1 : Hid (encE (.mk t b nst es) = 1) := by show _ = _; unfold encE; rw [if_pos hf]
    go_enter Try.func22, Try.ntmps22
    go_wp2_with (go_at_call 45; refine (rformed_any _ _ _ _ (Nat.le_refl _) (HV.out.ext ((Ext.refl _).alloc _))).mono ?_; rintro e w1 ⟨rfl, hx⟩; have hbk := hx.blk; rw [hf])
    go_ret2
    exact EncRes.no H1.out (by decide) rfl (((Ext.refl _).alloc _).trans hx)
  have hf : (V.mk t b nst es).formed = true := by simpa using hf
  have hl := hlen hf
  by_cases hd : 16 < (V.mk t b nst es).depth
  · have H1 : Hid (encE (.mk t b nst es) = 3) := by show _ = _; unfold encE; rw [if_neg (by rw [hf]; decide), if_pos hd]
    go_enter Try.func22, Try.ntmps22
    go_wp2_with (first
      | (go_at_call 45; refine (rformed_any _ _ _ _ (Nat.le_refl _) (HV.out.ext ((Ext.refl _).alloc _))).mono ?_; rintro e w1 ⟨rfl, hx⟩; have hbk := hx.blk; obtain ⟨⟨q0, q1, q2, q3⟩, ⟨f0, f1, f2, f3⟩⟩ := four hx.blk; rw [hf]) | (go_at_call 46; refine (rdepth_any _ _ _ _ (Nat.le_refl _) hdep ((HV.out.ext ((Ext.refl _).alloc _)).ext hx)).mono ?_; rintro e w2 ⟨rfl, hx2⟩))
    go_ret2
    exact EncRes.no H1.out (by decide) rfl ((((Ext.refl _).alloc _).trans hx).trans hx2)
  have HF := Lib.hid hf
  by_cases hp : 4096 < (V.mk t b nst es).put.length
  · have H1 : Hid (encE (.mk t b nst es) = 3) := by show _ = _; unfold encE; rw [if_neg (by rw [hf]; decide), if_neg hd, if_pos hp]
    go_enter Try.func22, Try.ntmps22
    go_wp2_with (first
      | (go_at_call 45; refine (rformed_any _ _ _ _ (Nat.le_refl _) (HV.out.ext ((Ext.refl _).alloc _))).mono ?_; rintro e w1 ⟨rfl, hx⟩; have hbk := hx.blk; obtain ⟨⟨q0, q1, q2, q3⟩, ⟨f0, f1, f2, f3⟩⟩ := four hx.blk; rw [hf]) | (go_at_call 46; refine (rdepth_any _ _ _ _ (Nat.le_refl _) hdep ((HV.out.ext ((Ext.refl _).alloc _)).ext hx)).mono ?_; rintro e w2 ⟨rfl, hx2⟩; obtain ⟨⟨q0, q1, q2, q3⟩, ⟨f0, f1, f2, f3⟩⟩ := four (hx.trans hx2).blk)
      | (go_at_call 47; refine (rput_any _ _ (Nat.le_refl _) _ w2 (((HV.out.ext ((Ext.refl _).alloc _)).ext hx).ext hx2) HF.out (by omega)).mono ?_; rintro e w3 ⟨A3, n3, c3, rfl, hown3, hx3⟩; have hn3 := (RdC.blen hown3.rd).1))
    go_ret2
    exact EncRes.no H1.out (by decide) rfl (((((Ext.refl _).alloc _).trans hx).trans hx2).trans hx3)
  · have H1 : Hid (encE (.mk t b nst es) = 0) := by show _ = _; unfold encE; rw [if_neg (by rw [hf]; decide), if_neg hd, if_neg hp]
    go_enter Try.func22, Try.ntmps22
    go_wp2_with (first
      | (go_at_call 45; refine (rformed_any _ _ _ _ (Nat.le_refl _) (HV.out.ext ((Ext.refl _).alloc _))).mono ?_; rintro e w1 ⟨rfl, hx⟩; have hbk := hx.blk; obtain ⟨⟨q0, q1, q2, q3⟩, ⟨f0, f1, f2, f3⟩⟩ := four hx.blk; rw [hf]) | (go_at_call 46; refine (rdepth_any _ _ _ _ (Nat.le_refl _) hdep ((HV.out.ext ((Ext.refl _).alloc _)).ext hx)).mono ?_; rintro e w2 ⟨rfl, hx2⟩; obtain ⟨⟨q0, q1, q2, q3⟩, ⟨f0, f1, f2, f3⟩⟩ := four (hx.trans hx2).blk)
      | (go_at_call 47; refine (rput_any _ _ (Nat.le_refl _) _ w2 (((HV.out.ext ((Ext.refl _).alloc _)).ext hx).ext hx2) HF.out (by omega)).mono ?_; rintro e w3 ⟨A3, n3, c3, rfl, hown3, hx3⟩; have hn3 := (RdC.blen hown3.rd).1))
    go_ret2
    have hx12 := ((((Ext.refl _).alloc _).trans hx).trans hx2)
    exact EncRes.yes H1.out rfl (hown3.newF.new_back hx12) (hx12.trans hx3)
end Go.Proofs.Ythohienbmhohjaa
