/- The walks: what an element stands for, program and reference side by side. -/
import Derived.Test.YthohienbmhohjaaW20
import Derived.Test.YthohienbmhohjaaW10
namespace Go.Proofs.Ythohienbmhohjaa
open Go.RowKit

mutual
theorem same_refl : ∀ d : V, d.same d = true
  | .mk t b n es => by rw [V.same]; simp [sameAll_refl es]
theorem sameAll_refl : ∀ es : List V, sameAll es es = true
  | [] => by rw [sameAll]
  | d :: ds => by rw [sameAll, same_refl d, sameAll_refl ds]; rfl
end
theorem orForm_tup (ok : Bool) (x y : Value) : orForm ok x y = .tuple #[if ok then x else y, .int .i64 (if ok then 0 else 1)] := by cases ok <;> rfl
theorem orForm_int (ok : Bool) (x y : Int) : ∃ n k, orForm ok (.int .i64 x) (.int .i64 y) = .tuple #[.int .i64 n, .int .i64 k] := by cases ok; exact ⟨_, _, rfl⟩; exact ⟨_, _, rfl⟩
theorem orForm_str (ok : Bool) (x y : ByteArray) : ∃ n k, orForm ok (.string x) (.string y) = .tuple #[.string n, .int .i64 k] := by cases ok; exact ⟨_, _, rfl⟩; exact ⟨_, _, rfl⟩
theorem orForm_bool (ok : Bool) (x y : Bool) : ∃ n k, orForm ok (.bool x) (.bool y) = .tuple #[.bool n, .int .i64 k] := by cases ok; exact ⟨_, _, rfl⟩; exact ⟨_, _, rfl⟩

theorem ListRes.of_yes {w w' : World} {d : V} {es : List V} {e : Ending} (h : ListRes w d es e w') (ho : listOk d = true) : ∃ A n c, e = .returned (.tuple #[.slice A n c, .int .i64 0]) ∧ RdC w' (New w w') (.sl 4 (encs es)) (.slice A n c) ∧ Ext w w' := by
  obtain ⟨⟨A, n, c, h1, h2, -⟩ | ⟨h1, -⟩, hx⟩ := h
  · exact ⟨A, n, c, h1, h2, hx⟩
  · rw [ho] at h1; cases h1
theorem ListRes.of_no {w w' : World} {d : V} {es : List V} {e : Ending} (h : ListRes w d es e w') (ho : listOk d = false) : e = .returned (.tuple #[.slice none 0 0, .int .i64 1]) ∧ Ext w w' := by
  obtain ⟨⟨A, n, c, h1, h2, h3⟩ | ⟨-, h1⟩, hx⟩ := h
  · rw [ho] at h3; cases h3
  · exact ⟨h1, hx⟩

set_option maxRecDepth 100000 in
set_option maxHeartbeats 1600000 in
theorem as_any (t : Int) (b : List UInt8) (nst : Bool) (es : List V) (hw : wtAll es ≤ 100000000) (v : Value) (w : World) (h : RdVal w (.mk t b nst es) v) :
    Calls Try.prog 17 #[v] w fun e w' => e = .returned (.bool true) ∧ Ext w w' := by
  have HV := Lib.hid h
  obtain ⟨Ab, nb, cb, Ae, ne, ce, rfl, -⟩ := h.opened
  clear h
  obtain ⟨n1, k1, E1⟩ := orForm_int (intOk (.mk t b nst es)) (numOf b) 0
  obtain ⟨n2, k2, E2⟩ := orForm_str (textOk (.mk t b nst es)) ⟨b.toArray⟩ ⟨#[]⟩
  obtain ⟨n3, k3, E3⟩ := orForm_bool (boolOk (.mk t b nst es)) (b == [255]) false
  have E1 := Lib.hid E1
  have E2 := Lib.hid E2
  have E3 := Lib.hid E3
  have HS := Lib.hid (sameAll_refl es)
  have HS0 := Lib.hid (sameAll_refl [])
  by_cases hok : listOk (.mk t b nst es) = true
  · have HO := Lib.hid hok
    clear hok
    go_enter Try.func17, Try.ntmps17
    go_wp2_with (first
      | (go_at_call 9; refine (asInt_any t b nst es _ _ (HV.out.ext ((Ext.refl _).alloc _))).mono ?_; rintro e w1 ⟨rfl, hx1⟩; rw [E1.out]; have hE1 := hx1; obtain ⟨⟨q10, q11, q12, q13⟩, -⟩ := four hE1.blk)
      | (go_at_call 37; refine (rasInt_any t b nst es _ _ ((HV.out.ext ((Ext.refl _).alloc _)).ext hE1)).mono ?_; rintro e w2 ⟨rfl, hx2⟩; rw [E1.out]; have hE2 := hE1.trans hx2; obtain ⟨⟨q20, q21, q22, q23⟩, -⟩ := four hE2.blk)
      | (go_at_call 11; refine (asText_any t b nst es _ _ ((HV.out.ext ((Ext.refl _).alloc _)).ext hE2)).mono ?_; rintro e w3 ⟨rfl, hx3⟩; rw [E2.out]; have hE3 := hE2.trans hx3; obtain ⟨⟨q30, q31, q32, q33⟩, -⟩ := four hE3.blk)
      | (go_at_call 15; refine (rasText_any t b nst es _ _ ((HV.out.ext ((Ext.refl _).alloc _)).ext hE3)).mono ?_; rintro e w4 ⟨rfl, hx4⟩; rw [E2.out]; have hE4 := hE3.trans hx4; obtain ⟨⟨q40, q41, q42, q43⟩, -⟩ := four hE4.blk)
      | (go_at_call 13; refine (asBool_any t b nst es _ _ ((HV.out.ext ((Ext.refl _).alloc _)).ext hE4)).mono ?_; rintro e w5 ⟨rfl, hx5⟩; rw [E3.out]; have hE5 := hE4.trans hx5; obtain ⟨⟨q50, q51, q52, q53⟩, -⟩ := four hE5.blk)
      | (go_at_call 38; refine (rasBool_any t b nst es _ _ ((HV.out.ext ((Ext.refl _).alloc _)).ext hE5)).mono ?_; rintro e w6 ⟨rfl, hx6⟩; rw [E3.out]; have hE6 := hE5.trans hx6; obtain ⟨⟨q60, q61, q62, q63⟩, -⟩ := four hE6.blk)
      | (go_at_call 39; refine (asList_any t b nst es hw _ _ ((HV.out.ext ((Ext.refl _).alloc _)).ext hE6)).mono ?_; intro e w7 hL; obtain ⟨A7, n7, c7, rfl, hr7, hx7⟩ := hL.of_yes HO.out; have hE7 := hE6.trans hx7; obtain ⟨⟨q70, q71, q72, q73⟩, -⟩ := four hE7.blk)
      | (go_at_call 40; refine (rasList_any t b nst es hw _ _ ((HV.out.ext ((Ext.refl _).alloc _)).ext hE7)).mono ?_; intro e w8 hL; obtain ⟨A8, n8, c8, rfl, hr8, hx8⟩ := hL.of_yes HO.out; have hE8 := hE7.trans hx8; obtain ⟨⟨q80, q81, q82, q83⟩, -⟩ := four hE8.blk)
      | (go_at_call 41; refine (rsameAll_any es es _ _ _ _ _ _ _ (hr7.new_rd.ext hx8) hr8.new_rd).mono ?_; rintro e w9 ⟨rfl, hx9⟩; rw [HS.out]))
    go_ret
    exact ⟨ret_val rfl, (((Ext.refl _).alloc _).trans hE8).trans hx9⟩
  · have hok : listOk (.mk t b nst es) = false := by simpa using hok
    have HO := Lib.hid hok
    clear hok
    go_enter Try.func17, Try.ntmps17
    go_wp2_with (first
      | (go_at_call 9; refine (asInt_any t b nst es _ _ (HV.out.ext ((Ext.refl _).alloc _))).mono ?_; rintro e w1 ⟨rfl, hx1⟩; rw [E1.out]; have hE1 := hx1; obtain ⟨⟨q10, q11, q12, q13⟩, -⟩ := four hE1.blk)
      | (go_at_call 37; refine (rasInt_any t b nst es _ _ ((HV.out.ext ((Ext.refl _).alloc _)).ext hE1)).mono ?_; rintro e w2 ⟨rfl, hx2⟩; rw [E1.out]; have hE2 := hE1.trans hx2; obtain ⟨⟨q20, q21, q22, q23⟩, -⟩ := four hE2.blk)
      | (go_at_call 11; refine (asText_any t b nst es _ _ ((HV.out.ext ((Ext.refl _).alloc _)).ext hE2)).mono ?_; rintro e w3 ⟨rfl, hx3⟩; rw [E2.out]; have hE3 := hE2.trans hx3; obtain ⟨⟨q30, q31, q32, q33⟩, -⟩ := four hE3.blk)
      | (go_at_call 15; refine (rasText_any t b nst es _ _ ((HV.out.ext ((Ext.refl _).alloc _)).ext hE3)).mono ?_; rintro e w4 ⟨rfl, hx4⟩; rw [E2.out]; have hE4 := hE3.trans hx4; obtain ⟨⟨q40, q41, q42, q43⟩, -⟩ := four hE4.blk)
      | (go_at_call 13; refine (asBool_any t b nst es _ _ ((HV.out.ext ((Ext.refl _).alloc _)).ext hE4)).mono ?_; rintro e w5 ⟨rfl, hx5⟩; rw [E3.out]; have hE5 := hE4.trans hx5; obtain ⟨⟨q50, q51, q52, q53⟩, -⟩ := four hE5.blk)
      | (go_at_call 38; refine (rasBool_any t b nst es _ _ ((HV.out.ext ((Ext.refl _).alloc _)).ext hE5)).mono ?_; rintro e w6 ⟨rfl, hx6⟩; rw [E3.out]; have hE6 := hE5.trans hx6; obtain ⟨⟨q60, q61, q62, q63⟩, -⟩ := four hE6.blk)
      | (go_at_call 39; refine (asList_any t b nst es hw _ _ ((HV.out.ext ((Ext.refl _).alloc _)).ext hE6)).mono ?_; intro e w7 hL; obtain ⟨rfl, hx7⟩ := hL.of_no HO.out; have hE7 := hE6.trans hx7; obtain ⟨⟨q70, q71, q72, q73⟩, -⟩ := four hE7.blk)
      | (go_at_call 40; refine (rasList_any t b nst es hw _ _ ((HV.out.ext ((Ext.refl _).alloc _)).ext hE7)).mono ?_; intro e w8 hL; obtain ⟨rfl, hx8⟩ := hL.of_no HO.out; have hE8 := hE7.trans hx8; obtain ⟨⟨q80, q81, q82, q83⟩, -⟩ := four hE8.blk)
      | (go_at_call 41; refine (rsameAll_any [] [] _ _ _ _ _ _ _ (RdC.nil_ 4) (RdC.nil_ 4)).mono ?_; rintro e w9 ⟨rfl, hx9⟩; rw [HS0.out]))
    go_ret
    exact ⟨ret_val rfl, (((Ext.refl _).alloc _).trans hE8).trans hx9⟩
end Go.Proofs.Ythohienbmhohjaa
