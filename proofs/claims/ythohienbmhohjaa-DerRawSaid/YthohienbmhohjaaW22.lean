/- The walk: the law of numbers, texts and truth values. -/
import Derived.Test.YthohienbmhohjaaW21
import Derived.Test.YthohienbmhohjaaSpec6
import Derived.Deep.RegionWith
namespace Go.Proofs.Ythohienbmhohjaa
open Go.RowKit

theorem asInt_own (n : Int) (h1 : -9223372036854775808 ≤ n) (h2 : n ≤ 9223372036854775807) : orForm (intOk (.mk 2 (intB n) false [])) (.int .i64 (numOf (intB n))) (.int .i64 0) = .tuple #[.int .i64 n, .int .i64 0] := by
  have := intOk_int n h1 h2
  unfold intV at this
  rw [this, numOf_intB n h1 h2]; rfl
theorem asBool_own (b : Bool) : orForm (boolOk (.mk 1 [if b then 255 else 0] false [])) (.bool ([if b then (255 : UInt8) else 0] == [255])) (.bool false) = .tuple #[.bool b, .int .i64 0] := by cases b <;> rfl

set_option maxRecDepth 100000 in
set_option maxHeartbeats 1600000 in
theorem derNumbers_any (n : Int) (s : ByteArray) (b : Bool) (l : List UInt8) (A : Option Addr) (m c : Nat) (w : World) (h1 : -9223372036854775808 ≤ n) (h2 : n ≤ 9223372036854775807) (hs : s.size ≤ maxLen) (h : Rd w (.sl 1 (bytesC l)) (.slice A m c)) :
    Calls Try.prog 3 #[.int .i64 n, .string s, .bool b, .slice A m c] w fun e w' => e = .returned (.bool true) ∧ Ext w w' := by
  have hcap := (RdC.len h).2
  unfold maxLen at hs hcap
  by_cases hbig : 1000 < s.size ∨ 20 < m
  · rcases hbig with hb | hb
    · go_enter Try.func3, Try.ntmps3
      go_wp2_with (go_at_call 8; refine (awake_any _).mono ?_; rintro e w1 ⟨rfl, hx1⟩)
      all_goals (go_ret; exact ⟨rfl, hx1⟩)
    · by_cases hb' : 1000 < s.size
      · go_enter Try.func3, Try.ntmps3
        go_wp2_with (go_at_call 8; refine (awake_any _).mono ?_; rintro e w1 ⟨rfl, hx1⟩)
        all_goals (go_ret; exact ⟨rfl, hx1⟩)
      · go_enter Try.func3, Try.ntmps3
        go_wp2_with (go_at_call 8; refine (awake_any _).mono ?_; rintro e w1 ⟨rfl, hx1⟩)
        all_goals (go_ret; exact ⟨rfl, hx1⟩)
  have hs1 : s.size ≤ 1000 := by omega
  have hm1 : m ≤ 20 := by omega
  clear hbig
  have EI := Lib.hid (asInt_own n h1 h2)
  have EB := Lib.hid (asBool_own b)
  obtain ⟨s1, k1, ES⟩ := orForm_str (textOk (.mk 12 s.data.toList false [])) ⟨s.data.toList.toArray⟩ ⟨#[]⟩
  have ES := Lib.hid ES
  have tokA : True := trivial
  have tokB : True := trivial
  have tokC : True := trivial
  have tokD : True := trivial
  have HI0 := Lib.hid (same_refl (intV n))
  have HT0 := Lib.hid (same_refl (textV s))
  have HB0 := Lib.hid (same_refl (boolV b))
  go_enter Try.func3, Try.ntmps3
  go_wp2_with (first
    | (go_at_call 10; have _t := tokA; refine (int_any _ _).mono ?_; rintro e w1 ⟨v1, rfl, hr1, hx1⟩)
    | (go_at_call 9; refine (asInt_any _ _ _ _ _ _ (by exact hr1.new_rd)).mono ?_; rintro e w2 ⟨rfl, hx2⟩; rw [EI.out])
    | (go_at_call 12; have _t := tokA; refine (text_any _ _ (by omega)).mono ?_; rintro e w3 ⟨v3, rfl, hr3, hx3⟩)
    | (go_at_call 11; refine (asText_any _ _ _ _ _ _ (by exact hr3.new_rd)).mono ?_; rintro e w4 ⟨rfl, hx4⟩; rw [ES.out])
    | (go_at_call 14; have _t := tokA; refine (bool_any _ _).mono ?_; rintro e w5 ⟨v5, rfl, hr5, hx5⟩)
    | (go_at_call 13; refine (asBool_any _ _ _ _ _ _ (by exact hr5.new_rd)).mono ?_; rintro e w6 ⟨rfl, hx6⟩; rw [EB.out])
    | (go_at_call 16; have _t := tokA; refine (rtext_any _ _ (by omega)).mono ?_; rintro e w7 ⟨v7, rfl, hr7, hx7⟩)
    | (go_at_call 15; refine (rasText_any _ _ _ _ _ _ (by exact hr7.new_rd)).mono ?_; rintro e w8 ⟨rfl, hx8⟩; rw [ES.out]; have hE8 := hx1.trans (hx2.trans (hx3.trans (hx4.trans (hx5.trans (hx6.trans (hx7.trans hx8)))))); clear tokA)
    | (go_at_call 17; have _t := tokB; refine (as_any 2 l false [] (by simp [wtAll]) _ _ (by exact RdV.mk_ (by omega) (h.ext ((hE8.alloc _).alloc _)) (RdC.nil_ 4))).mono ?_; rintro e w9 ⟨rfl, hx9⟩; have hE9 := ((hE8.alloc _).alloc _).trans hx9; obtain ⟨⟨q90, q91, q92, q93⟩, -⟩ := four (g := w8.heap.size + 1) (by simpa using hx9.blk); clear tokB)
    | (go_at_call 17; refine (as_any 1 l false [] (by simp [wtAll]) _ _ (by exact RdV.mk_ (by omega) (h.ext hE9) (RdC.nil_ 4))).mono ?_; rintro e w10 ⟨rfl, hx10⟩; have hE10 := hE9.trans hx10)
    | (go_at_call 10; refine (int_any _ _).mono ?_; rintro e w11 ⟨v11, rfl, hr11, hx11⟩; have hE11 := hE10.trans hx11)
    | (go_at_call 19; refine (rint_any _ _ h1 h2).mono ?_; rintro e w12 ⟨v12, rfl, hr12, hx12⟩; have hE12 := hE11.trans hx12)
    | (go_at_call 18; have _t := tokC; refine (rsame_any _ _ _ _ _ _ (Nat.le_refl _) (hr11.new_rd.ext hx12) hr12.new_rd).mono ?_; rintro e w13 ⟨rfl, hx13⟩; rw [HI0.out]; have hE13 := hE12.trans hx13; clear tokC)
    | (go_at_call 12; refine (text_any _ _ (by omega)).mono ?_; rintro e w14 ⟨v14, rfl, hr14, hx14⟩; have hE14 := hE13.trans hx14)
    | (go_at_call 16; refine (rtext_any _ _ (by omega)).mono ?_; rintro e w15 ⟨v15, rfl, hr15, hx15⟩; have hE15 := hE14.trans hx15)
    | (go_at_call 18; have _t := tokD; refine (rsame_any _ _ _ _ _ _ (Nat.le_refl _) (hr14.new_rd.ext hx15) hr15.new_rd).mono ?_; rintro e w16 ⟨rfl, hx16⟩; rw [HT0.out]; have hE16 := hE15.trans hx16; clear tokD)
    | (go_at_call 14; refine (bool_any _ _).mono ?_; rintro e w17 ⟨v17, rfl, hr17, hx17⟩; have hE17 := hE16.trans hx17)
    | (go_at_call 20; refine (rbool_any _ _).mono ?_; rintro e w18 ⟨v18, rfl, hr18, hx18⟩; have hE18 := hE17.trans hx18)
    | (go_at_call 18; refine (rsame_any _ _ _ _ _ _ (Nat.le_refl _) (hr17.new_rd.ext hx18) hr18.new_rd).mono ?_; rintro e w19 ⟨rfl, hx19⟩; rw [HB0.out]; have hE19 := hE18.trans hx19)
    | (go_at_call 8; refine (awake_any _).mono ?_; rintro e w20 ⟨rfl, hx20⟩; have hE20 := hE19.trans hx20))
  go_ret
  exact ⟨ret_val rfl, hE20⟩
end Go.Proofs.Ythohienbmhohjaa
