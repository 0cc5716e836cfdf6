/- The walk: the law of Decode and Encode, forth and back. -/
import Derived.Test.YthohienbmhohjaaW39
import Derived.Test.YthohienbmhohjaaSpec9
namespace Go.Proofs.Ythohienbmhohjaa
open Go.RowKit

theorem bne_false0 {x : Int} (h : (x != 0) = false) : x = 0 := by simpa using h
set_option maxRecDepth 100000 in
set_option maxHeartbeats 3200000 in
theorem derBack_any (l : List Int) (A : Option Addr) (n c : Nat) (lr : List UInt8) (Ar : Option Addr) (nr cr : Nat) (w : World) (h : Rd w (.sl 1 (intsC l)) (.slice A n c)) (hr : Rd w (.sl 1 (bytesC lr)) (.slice Ar nr cr)) :
    Calls Try.prog 6 #[.slice A n c, .slice Ar nr cr] w fun e w' => e = .returned (.bool true) ∧ Ext w w' := by
  by_cases hn : 400 < n ∨ 2000 < nr
  · by_cases hn1 : 400 < n
    · have hn' : ¬ n ≤ 400 := by omega
      go_enter Try.func6, Try.ntmps6
      go_wp2_with (first
        | (go_at_call 24; refine (light_any _ _ _ _).mono ?_; rintro e w0 ⟨rfl, rfl⟩)
        | (go_at_call 8; refine (awake_any _).mono ?_; rintro e w1 ⟨rfl, hx1⟩))
      go_ret
      exact ⟨ret_val rfl, hx1⟩
    · have hn' : n ≤ 400 := by omega
      have hn2 : 2000 < nr := by omega
      go_enter Try.func6, Try.ntmps6
      go_wp2_with (first
        | (go_at_call 24; refine (light_any _ _ _ _).mono ?_; rintro e w0 ⟨rfl, rfl⟩)
        | (go_at_call 8; refine (awake_any _).mono ?_; rintro e w1 ⟨rfl, hx1⟩))
      go_ret
      exact ⟨ret_val rfl, hx1⟩
  have hn' : n ≤ 400 := by omega
  have hn2 : nr ≤ 2000 := by omega
  clear hn
  have HR := Lib.hid h
  have HRr := Lib.hid hr
  have tok1 : True := trivial
  clear h hr
  go_enter Try.func6, Try.ntmps6
  go_wp2_with (first
    | (go_at_call 24; refine (light_any _ _ _ _).mono ?_; rintro e w0 ⟨rfl, rfl⟩)
    | (go_at_call 25; refine (roll_any l _ _ _ _ HR.out).mono ?_; rintro e w1 ⟨rfl, hD1, hx1⟩)
    | (go_at_call 26; have _t := tok1; refine (delement_any 4 (by omega) _ _ _ (by rfl) (by exact hD1)).mono ?_; rintro e w2 ⟨⟨t, b, nst, es⟩, v2, rfl, hr2, hs2, hD2, hx2⟩; clear tok1)
    | (go_at_call 26; refine (delement_any 3 (by omega) _ _ _ (by rfl) (by exact hD2)).mono ?_; rintro e w3 ⟨⟨t', b', nst', es'⟩, v3, rfl, hr3, hs3, hD3, hx3⟩; have hx3w := ExtD.ext hx1 (Nat.le_refl _) (hx2.trans hx3); have HV2 := Lib.hid ((hr2.new_d (by have := hD1.lt; exact this) hx3).new_rd); have HV3 := Lib.hid hr3.new_rd; obtain ⟨Ab, nb, cb, Ae, ne, ce, rfl, -⟩ := HV2.out.opened; obtain ⟨Ab', nb', cb', Ae', ne', ce', rfl, -⟩ := HV3.out.opened; obtain ⟨E, hE⟩ : ∃ E, encE (V.mk t b nst es) = E := ⟨_, rfl⟩; obtain ⟨F, hF⟩ : ∃ F, encE (V.mk t' b' nst' es') = F := ⟨_, rfl⟩; have HE := Lib.hid hE; have HF := Lib.hid hF; clear hE hF; have HSm := Lib.hid (small_enc (by omega) hs2); have HSm' := Lib.hid (small_enc (by omega) hs3); clear hs2 hs3 hr2 hr3)
    | (go_at_call_of 21 (Value.slice Ab' nb' cb'); refine (encode_any (.mk t' b' nst' es') HSm'.out.1 HSm'.out.2.1 _ _ (by exact HV3.out.ext ((((Ext.refl _).alloc _).alloc _).trans hx5))).mono ?_; rintro e w6 ⟨A6, n6, c6, rfl, hr6, hx6⟩; rw [HF.out])
    | (go_at_call 21; refine (encode_any (.mk t b nst es) HSm.out.1 HSm.out.2.1 _ _ (by exact HV2.out.ext (((Ext.refl _).alloc _).alloc _))).mono ?_; rintro e w5 ⟨A5, n5, c5, rfl, hr5, hx5⟩; rw [HE.out]; obtain ⟨⟨q0, q1, q2, q3⟩, -⟩ := four ((((Ext.refl _).alloc _).trans hx5).blk); obtain ⟨⟨p0, p1, p2, p3⟩, -⟩ := four (g := w3.heap.size + 1) (by have := hx5.blk; simpa using this)))
  have hx56 := hx5.trans hx6
  have hxB := ((hx3w.alloc (.cells #[.int .i64 t, .slice Ab nb cb, .bool nst, .slice Ae ne ce] 29)).alloc (.cells #[.int .i64 t', .slice Ab' nb' cb', .bool nst', .slice Ae' ne' ce'] 29)).trans hx56
  have HRr6 := Lib.hid (HRr.out.ext hxB)
  have hn5 := (RdC.blen hr5).1
  have hn6 := (RdC.blen hr6).1
  have HN5 := Lib.hid hn5
  have HN6 := Lib.hid hn6
  clear q0 q1 q2 q3 p0 p1 p2 p3 hn5 hn6
  by_cases hG : decE lr = 0
  · have HG := Lib.hid hG
    have HGB := Lib.hid (raw_back hG)
    obtain ⟨tr, br, nstr, esr, hDv⟩ : ∃ t b n es, decV lr = .mk t b n es := by
      cases decV lr
      exact ⟨_, _, _, _, rfl⟩
    have HDv := Lib.hid hDv
    clear hG hDv
    go_wp2_with (first
      | (go_at_call 29; refine (decode_any lr _ _ _ _ (by exact HRr6.out)).mono ?_; rintro e w7 ⟨v7, rfl, hr7, hx7⟩; rw [HDv.out] at hr7; rw [HG.out]; have HV7 := Lib.hid hr7.new_rd; obtain ⟨vb7, ve7, rfl, i7, hrb7, hre7⟩ := hr7; obtain ⟨Ad, nd, cd, rfl, -⟩ := RdC.slice hrb7; obtain ⟨Ad', nd', cd', rfl, -⟩ := RdC.slice hre7; clear hrb7 hre7)
      | (go_at_call 21; refine (encode_any (.mk tr br nstr esr) (by rw [← HDv.out]; have := HGB.out.2.2.1; omega) (fun _ => by rw [← HDv.out]; have := HGB.out.2.2.2; omega) _ _ (by exact HV7.out.ext ((Ext.refl _).alloc _))).mono ?_; rintro e w8 ⟨A8, n8, c8, rfl, hr8, hx8⟩; rw [← HDv.out] at hr8; rw [← HDv.out, HGB.out.1]; rw [HGB.out.2.1] at hr8; have kc8 := conv_bytes (P := Try.prog) 22 5 9 Try.underlying22 Try.underlying5 Try.underlying9 hr8.new_rd; have kcr := conv_bytes (P := Try.prog) 22 5 9 Try.underlying22 Try.underlying5 Try.underlying9 (HRr6.out.ext ((hx7.alloc (.cells #[.int .i64 tr, .slice Ad nd cd, .bool nstr, .slice Ad' nd' cd'] 29)).trans hx8))))
    all_goals have hx6G := ((hx7.alloc (.cells #[.int .i64 tr, .slice Ad nd cd, .bool nstr, .slice Ad' nd' cd'] 29)).trans hx8)
    · go_wp2_with (go_at_call 8; refine (awake_any _).mono ?_; rintro e w20 ⟨rfl, hx20⟩)
      go_ret
      exact ⟨ret_val rfl, hxB.trans (hx6G.trans hx20)⟩
    · go_wp2_with (go_at_call 8; refine (awake_any _).mono ?_; rintro e w20 ⟨rfl, hx20⟩)
      go_ret
      exact ⟨ret_val rfl, hxB.trans (hx6G.trans hx20)⟩
    · have hE0 : E = 0 := by first | assumption | (have hh : (E != 0) = false := by assumption; simpa using hh) | omega
      have hF0 : F = 0 := bne_false0 (by assumption)
      have hB := enc_back (HE.out.trans hE0)
      have HAT := all_two (HE.out.trans hE0) (HF.out.trans hF0)
      have hl5 : (encL (V.mk t b nst es)).length ≤ 4096 := by have := encE_zero (HE.out.trans hE0); rw [this.2.2.2]; exact this.2.2.1
      have hl6 : (encL (V.mk t' b' nst' es')).length ≤ 4096 := by have := encE_zero (HF.out.trans hF0); rw [this.2.2.2]; exact this.2.2.1
      have hb5 := HN5.out
      have hb6 := HN6.out
      have HSv := Lib.hid (same_refl (V.mk t b nst es))
      have HSu := Lib.hid (same_refl (V.mk t' b' nst' es'))
      generalize hLv : encL (V.mk t b nst es) = Lv at *
      generalize hLu : encL (V.mk t' b' nst' es') = Lu at *
      have HB := Lib.hid hB
      have hl56 : Lv.length = n5 ∧ Lu.length = n6 := ⟨hb5, hb6⟩
      have hn5 : n5 ≤ 4096 := by omega
      have hn6 : n6 ≤ 4096 := by omega
      clear hB hl5 hl6 hb5 hb6 hLv hLu
      have hxo1 := ((Ext.refl (w3.alloc (.cells #[.int .i64 t, .slice Ab nb cb, .bool nst, .slice Ae ne ce] 29))).alloc (.cells #[.int .i64 t', .slice Ab' nb' cb', .bool nst', .slice Ae' ne' ce'] 29)).trans (hx56.trans hx6G)
      have hxo2 := hx56.trans hx6G
      have tok2 : True := trivial
      obtain ⟨Q, hQ⟩ : ∃ Q, allE (Lv ++ Lu) = Q := ⟨_, rfl⟩
      rw [hQ] at HAT
      have HQ := Lib.hid hQ
      have HAT := Lib.hid HAT
      clear hQ
      go_wp2_with (first
        | (go_at_call 29; refine (decode_any Lv A5 n5 c5 _ (by exact hr5.new_rd.ext (hx6.trans hx6G))).mono ?_; rintro e w9 ⟨v9, rfl, hr9, hx9⟩; rw [HB.out.2] at hr9; rw [HB.out.1]; have HV9 := Lib.hid hr9.new_rd; obtain ⟨vb9, ve9, rfl, i9, hrb9, hre9⟩ := hr9; obtain ⟨A9, n9, c9, rfl, -⟩ := RdC.slice hrb9; obtain ⟨A9', n9', c9', rfl, -⟩ := RdC.slice hre9; clear hrb9 hre9; have hxo9 := hxo1.trans (hx9.alloc (.cells #[.int .i64 t, .slice A9 n9 c9, .bool nst, .slice A9' n9' c9'] 29)); obtain ⟨⟨q0, q1, q2, q3⟩, -⟩ := four hxo9.blk)
        | (go_at_call 27; refine (same_any _ (.mk t b nst es) (.mk t b nst es) _ _ _ (Nat.le_refl _) (by exact HV9.out.ext ((Ext.refl _).alloc _)) (by exact HV2.out.ext (((Ext.refl _).alloc _).trans hxo9))).mono ?_; rintro e w10 ⟨rfl, hx10⟩; rw [HSv.out])
        | (at_builtin; have _t := tok2; refine wpList_appF (T := fun _ => False) (a0 := w10) sl22 (by rfl) _ _ (by rfl) (by exact (Ext.refl _).alloc _) (by exact OwnT.madeAt w10.heap.size rfl (n := 0) (us := []) (cs := bytesC []) (S := fun _ => False) rfl (by simp [maxLen]) ⟨rfl, fun _ _ _ h _ => by simp [bytesC] at h⟩ (fun _ h => h.elim) (Nat.le_refl _)) (by rfl) (by rfl) (by exact hr5.new_rd.ext ((((hx6.trans hx6G).trans (hx9.alloc _)).trans hx10).alloc _)) (bytesC_flat _) (by simp only [bytesC_length, List.length_nil]; omega) ?_; intro A11 n11 c11 w11 hown11 hx11 _ _; clear tok2)
        | (at_builtin; refine wpList_appF (T := fun _ => False) (a0 := w10) sl22 (by rfl) _ _ (by rfl) (by exact hx11) (by exact hown11) (by rfl) (by rfl) (by exact hr6.new_rd.ext (((hx6G.trans (hx9.alloc _)).trans hx10).trans hx11)) (bytesC_flat _) (by simp only [bytesC_length, List.length_append, List.length_nil]; omega) ?_; intro A12 n12 c12 w12 hown12 hx12 _ _; have hr12 := hown12.rd; rw [← bytesC_append, ← bytesC_append, List.nil_append] at hr12)
        | (go_at_call 30; refine (alls_any (Lv ++ Lu) _ _ _ _ (by exact hr12)).mono ?_; rintro e w13 ⟨A13, n13, c13, rfl, hr13, hx13⟩; rw [HQ.out]))
      have hx9_13 := hx10.trans (hx12.trans hx13)
      have hfin := hxB.trans (hx6G.trans ((hx9.alloc (.cells #[.int .i64 t, .slice A9 n9 c9, .bool nst, .slice A9' n9' c9'] 29)).trans hx9_13))
      have hxv := hxo9.trans hx9_13
      have hxu := hxo2.trans ((hx9.alloc (.cells #[.int .i64 t, .slice A9 n9 c9, .bool nst, .slice A9' n9' c9'] 29)).trans hx9_13)
      rcases HAT.out with ⟨hlen, hA3⟩ | ⟨hlen, hA0, hAL⟩
      · subst hA3
        have hlen' : (4096 : Int) < (n5 : Int) + (n6 : Int) := by omega
        have hwr : IntKind.i64.wrap ((n5 : Int) + (n6 : Int)) = (n5 : Int) + (n6 : Int) := by rw [IntKind.wrap_i64]; omega
        have hdc : decide ((4096 : Int) < (n5 : Int) + (n6 : Int)) = true := decide_eq_true hlen'
        refine wp_region_quietE (by kernel_rfl) (by kernel_rfl) ?_
        repeat (go_big_quiet_step (first | (go_at_call 8; exact Calls.ew (fun w' _ => awake_any w'))))
        refine wpQuiet_nil ?_
        intro w14 hw'
        obtain ⟨⟨w14', hx14⟩, hw''⟩ := hw'
        have hw3 : w14 = w14' := hw''
        subst hw3
        clear hw''
        go_wp2
        go_ret
        exact ⟨ret_val rfl, hfin.trans hx14⟩
      · subst hA0
        rw [hAL] at hr13
        have hn13 := (RdC.len hr13).1
        rw [encs_length] at hn13
        have hn13' : n13 = 2 := by simp at hn13; omega
        subst hn13'
        obtain ⟨ad, t0, b0, s0, e0, B0, m0, k0, B0', m0', k0', ea, hlt0, hd0, hv0, c00, c01, c02, c03⟩ := hr13.new_rd.elem (k := 0) (by omega)
        obtain ⟨ad', t1, b1, s1, e1, B1, m1, k1, B1', m1', k1', ea', -, hd1, hv1, c10, c11', c12', c13'⟩ := hr13.new_rd.elem (k := 1) (by omega)
        rw [ea] at ea'
        injection ea' with ea'
        subst ea' ea
        simp at hd0 hd1
        obtain ⟨rfl, rfl, rfl, rfl⟩ := hd0
        obtain ⟨rfl, rfl, rfl, rfl⟩ := hd1
        simp [Addr.add] at c00 c01 c02 c03 c10 c11' c12' c13'
        have d00 := fun x : EW w13 => (x.h.cell (by exact hlt0)).trans c00
        have d01 := fun x : EW w13 => (x.h.cell (by exact hlt0)).trans c01
        have d02 := fun x : EW w13 => (x.h.cell (by exact hlt0)).trans c02
        have d03 := fun x : EW w13 => (x.h.cell (by exact hlt0)).trans c03
        have d10 := fun x : EW w13 => (x.h.cell (by exact hlt0)).trans c10
        have d11 := fun x : EW w13 => (x.h.cell (by exact hlt0)).trans c11'
        have d12 := fun x : EW w13 => (x.h.cell (by exact hlt0)).trans c12'
        have d13 := fun x : EW w13 => (x.h.cell (by exact hlt0)).trans c13'
        have F1 := fun x : EW w13 => four (hxv.trans x.h).blk
        have F2 := fun x : EW w13 => four (g := w3.heap.size + 1) (by have := (hxu.trans x.h).blk; simpa using this)
        have p0 := fun x : EW w13 => (F1 x).1.1
        have p1 := fun x : EW w13 => (F1 x).1.2.1
        have p2 := fun x : EW w13 => (F1 x).1.2.2.1
        have p3 := fun x : EW w13 => (F1 x).1.2.2.2
        have r0 := fun x : EW w13 => (F2 x).1.1
        have r1 := fun x : EW w13 => (F2 x).1.2.1
        have r2 := fun x : EW w13 => (F2 x).1.2.2.1
        have r3 := fun x : EW w13 => (F2 x).1.2.2.2
        have HS0 : Hid (∀ w', Ext w13 w' → Calls Try.prog 27 #[.agg #[.int .i64 t, .slice B0 m0 k0, .bool nst, .slice B0' m0' k0'], .agg #[.int .i64 t, .slice Ab nb cb, .bool nst, .slice Ae ne ce]] w' fun e w'' => e = .returned (.bool true) ∧ Ext w' w'') := fun w' hw' => by
          have hs := same_any _ (.mk t b nst es) (.mk t b nst es) _ _ w' (Nat.le_refl _) (hv0.ext hw') (HV2.out.ext (((Ext.refl _).alloc _).trans (hxv.trans hw')))
          rw [same_refl] at hs
          exact hs
        have HS1 : Hid (∀ w', Ext w13 w' → Calls Try.prog 27 #[.agg #[.int .i64 t', .slice B1 m1 k1, .bool nst', .slice B1' m1' k1'], .agg #[.int .i64 t', .slice Ab' nb' cb', .bool nst', .slice Ae' ne' ce']] w' fun e w'' => e = .returned (.bool true) ∧ Ext w' w'') := fun w' hw' => by
          have hs := same_any _ (.mk t' b' nst' es') (.mk t' b' nst' es') _ _ w' (Nat.le_refl _) (hv1.ext hw') (HV3.out.ext (((Ext.refl _).alloc _).trans (((Ext.refl _).alloc _).trans (hxu.trans hw'))))
          rw [same_refl] at hs
          exact hs
        clear F1 F2 c00 c01 c02 c03 c10 c11' c12' c13' hv0 hv1
        refine wp_region_quietE (by kernel_rfl) (by kernel_rfl) ?_
        repeat (go_big_quiet_step (first
          | (go_at_call_of 27 (Value.slice Ab' nb' cb'); exact Calls.ew HS1.out)
          | (go_at_call 27; exact Calls.ew HS0.out)
          | (go_at_call 8; exact Calls.ew (fun w' _ => awake_any w'))))
        refine wpQuiet_nil ?_
        intro w14 hw'
        obtain ⟨⟨w14', hx14⟩, hw''⟩ := hw'
        have hw3 : w14 = w14' := hw''
        subst hw3
        clear hw''
        go_wp2
        go_ret
        exact ⟨ret_val rfl, hfin.trans hx14⟩
  · go_wp2_with (first
      | (go_at_call 29; refine (decode_any lr _ _ _ _ (by exact HRr6.out)).mono ?_; rintro e w7 ⟨v7, rfl, hr7, hx7⟩; obtain ⟨tr, br, nstr, esr, hDv⟩ : ∃ t b n es, decV lr = .mk t b n es := (by cases decV lr; exact ⟨_, _, _, _, rfl⟩); rw [hDv] at hr7; obtain ⟨vb7, ve7, rfl, i7, hrb7, hre7⟩ := hr7; obtain ⟨Ad, nd, cd, rfl, -⟩ := RdC.slice hrb7; obtain ⟨Ad', nd', cd', rfl, -⟩ := RdC.slice hre7; clear hrb7 hre7 hDv))
    all_goals have hx6G := (hx7.alloc (.cells #[.int .i64 tr, .slice Ad nd cd, .bool nstr, .slice Ad' nd' cd'] 29))
    · go_wp2_with (go_at_call 8; refine (awake_any _).mono ?_; rintro e w20 ⟨rfl, hx20⟩)
      go_ret
      exact ⟨ret_val rfl, hxB.trans (hx6G.trans hx20)⟩
    · go_wp2_with (go_at_call 8; refine (awake_any _).mono ?_; rintro e w20 ⟨rfl, hx20⟩)
      go_ret
      exact ⟨ret_val rfl, hxB.trans (hx6G.trans hx20)⟩
    · have hE0 : E = 0 := by first | assumption | (have hh : (E != 0) = false := by assumption; simpa using hh) | omega
      have hF0 : F = 0 := bne_false0 (by assumption)
      have hB := enc_back (HE.out.trans hE0)
      have HAT := all_two (HE.out.trans hE0) (HF.out.trans hF0)
      have hl5 : (encL (V.mk t b nst es)).length ≤ 4096 := by have := encE_zero (HE.out.trans hE0); rw [this.2.2.2]; exact this.2.2.1
      have hl6 : (encL (V.mk t' b' nst' es')).length ≤ 4096 := by have := encE_zero (HF.out.trans hF0); rw [this.2.2.2]; exact this.2.2.1
      have hb5 := HN5.out
      have hb6 := HN6.out
      have HSv := Lib.hid (same_refl (V.mk t b nst es))
      have HSu := Lib.hid (same_refl (V.mk t' b' nst' es'))
      generalize hLv : encL (V.mk t b nst es) = Lv at *
      generalize hLu : encL (V.mk t' b' nst' es') = Lu at *
      have HB := Lib.hid hB
      have hl56 : Lv.length = n5 ∧ Lu.length = n6 := ⟨hb5, hb6⟩
      have hn5 : n5 ≤ 4096 := by omega
      have hn6 : n6 ≤ 4096 := by omega
      clear hB hl5 hl6 hb5 hb6 hLv hLu
      have hxo1 := ((Ext.refl (w3.alloc (.cells #[.int .i64 t, .slice Ab nb cb, .bool nst, .slice Ae ne ce] 29))).alloc (.cells #[.int .i64 t', .slice Ab' nb' cb', .bool nst', .slice Ae' ne' ce'] 29)).trans (hx56.trans hx6G)
      have hxo2 := hx56.trans hx6G
      have tok2 : True := trivial
      obtain ⟨Q, hQ⟩ : ∃ Q, allE (Lv ++ Lu) = Q := ⟨_, rfl⟩
      rw [hQ] at HAT
      have HQ := Lib.hid hQ
      have HAT := Lib.hid HAT
      clear hQ
      go_wp2_with (first
        | (go_at_call 29; refine (decode_any Lv A5 n5 c5 _ (by exact hr5.new_rd.ext (hx6.trans hx6G))).mono ?_; rintro e w9 ⟨v9, rfl, hr9, hx9⟩; rw [HB.out.2] at hr9; rw [HB.out.1]; have HV9 := Lib.hid hr9.new_rd; obtain ⟨vb9, ve9, rfl, i9, hrb9, hre9⟩ := hr9; obtain ⟨A9, n9, c9, rfl, -⟩ := RdC.slice hrb9; obtain ⟨A9', n9', c9', rfl, -⟩ := RdC.slice hre9; clear hrb9 hre9; have hxo9 := hxo1.trans (hx9.alloc (.cells #[.int .i64 t, .slice A9 n9 c9, .bool nst, .slice A9' n9' c9'] 29)); obtain ⟨⟨q0, q1, q2, q3⟩, -⟩ := four hxo9.blk)
        | (go_at_call 27; refine (same_any _ (.mk t b nst es) (.mk t b nst es) _ _ _ (Nat.le_refl _) (by exact HV9.out.ext ((Ext.refl _).alloc _)) (by exact HV2.out.ext (((Ext.refl _).alloc _).trans hxo9))).mono ?_; rintro e w10 ⟨rfl, hx10⟩; rw [HSv.out])
        | (at_builtin; have _t := tok2; refine wpList_appF (T := fun _ => False) (a0 := w10) sl22 (by rfl) _ _ (by rfl) (by exact (Ext.refl _).alloc _) (by exact OwnT.madeAt w10.heap.size rfl (n := 0) (us := []) (cs := bytesC []) (S := fun _ => False) rfl (by simp [maxLen]) ⟨rfl, fun _ _ _ h _ => by simp [bytesC] at h⟩ (fun _ h => h.elim) (Nat.le_refl _)) (by rfl) (by rfl) (by exact hr5.new_rd.ext ((((hx6.trans hx6G).trans (hx9.alloc _)).trans hx10).alloc _)) (bytesC_flat _) (by simp only [bytesC_length, List.length_nil]; omega) ?_; intro A11 n11 c11 w11 hown11 hx11 _ _; clear tok2)
        | (at_builtin; refine wpList_appF (T := fun _ => False) (a0 := w10) sl22 (by rfl) _ _ (by rfl) (by exact hx11) (by exact hown11) (by rfl) (by rfl) (by exact hr6.new_rd.ext (((hx6G.trans (hx9.alloc _)).trans hx10).trans hx11)) (bytesC_flat _) (by simp only [bytesC_length, List.length_append, List.length_nil]; omega) ?_; intro A12 n12 c12 w12 hown12 hx12 _ _; have hr12 := hown12.rd; rw [← bytesC_append, ← bytesC_append, List.nil_append] at hr12)
        | (go_at_call 30; refine (alls_any (Lv ++ Lu) _ _ _ _ (by exact hr12)).mono ?_; rintro e w13 ⟨A13, n13, c13, rfl, hr13, hx13⟩; rw [HQ.out]))
      have hx9_13 := hx10.trans (hx12.trans hx13)
      have hfin := hxB.trans (hx6G.trans ((hx9.alloc (.cells #[.int .i64 t, .slice A9 n9 c9, .bool nst, .slice A9' n9' c9'] 29)).trans hx9_13))
      have hxv := hxo9.trans hx9_13
      have hxu := hxo2.trans ((hx9.alloc (.cells #[.int .i64 t, .slice A9 n9 c9, .bool nst, .slice A9' n9' c9'] 29)).trans hx9_13)
      rcases HAT.out with ⟨hlen, hA3⟩ | ⟨hlen, hA0, hAL⟩
      · subst hA3
        have hlen' : (4096 : Int) < (n5 : Int) + (n6 : Int) := by omega
        have hwr : IntKind.i64.wrap ((n5 : Int) + (n6 : Int)) = (n5 : Int) + (n6 : Int) := by rw [IntKind.wrap_i64]; omega
        have hdc : decide ((4096 : Int) < (n5 : Int) + (n6 : Int)) = true := decide_eq_true hlen'
        refine wp_region_quietE (by kernel_rfl) (by kernel_rfl) ?_
        repeat (go_big_quiet_step (first | (go_at_call 8; exact Calls.ew (fun w' _ => awake_any w'))))
        refine wpQuiet_nil ?_
        intro w14 hw'
        obtain ⟨⟨w14', hx14⟩, hw''⟩ := hw'
        have hw3 : w14 = w14' := hw''
        subst hw3
        clear hw''
        go_wp2
        go_ret
        exact ⟨ret_val rfl, hfin.trans hx14⟩
      · subst hA0
        rw [hAL] at hr13
        have hn13 := (RdC.len hr13).1
        rw [encs_length] at hn13
        have hn13' : n13 = 2 := by simp at hn13; omega
        subst hn13'
        obtain ⟨ad, t0, b0, s0, e0, B0, m0, k0, B0', m0', k0', ea, hlt0, hd0, hv0, c00, c01, c02, c03⟩ := hr13.new_rd.elem (k := 0) (by omega)
        obtain ⟨ad', t1, b1, s1, e1, B1, m1, k1, B1', m1', k1', ea', -, hd1, hv1, c10, c11', c12', c13'⟩ := hr13.new_rd.elem (k := 1) (by omega)
        rw [ea] at ea'
        injection ea' with ea'
        subst ea' ea
        simp at hd0 hd1
        obtain ⟨rfl, rfl, rfl, rfl⟩ := hd0
        obtain ⟨rfl, rfl, rfl, rfl⟩ := hd1
        simp [Addr.add] at c00 c01 c02 c03 c10 c11' c12' c13'
        have d00 := fun x : EW w13 => (x.h.cell (by exact hlt0)).trans c00
        have d01 := fun x : EW w13 => (x.h.cell (by exact hlt0)).trans c01
        have d02 := fun x : EW w13 => (x.h.cell (by exact hlt0)).trans c02
        have d03 := fun x : EW w13 => (x.h.cell (by exact hlt0)).trans c03
        have d10 := fun x : EW w13 => (x.h.cell (by exact hlt0)).trans c10
        have d11 := fun x : EW w13 => (x.h.cell (by exact hlt0)).trans c11'
        have d12 := fun x : EW w13 => (x.h.cell (by exact hlt0)).trans c12'
        have d13 := fun x : EW w13 => (x.h.cell (by exact hlt0)).trans c13'
        have F1 := fun x : EW w13 => four (hxv.trans x.h).blk
        have F2 := fun x : EW w13 => four (g := w3.heap.size + 1) (by have := (hxu.trans x.h).blk; simpa using this)
        have p0 := fun x : EW w13 => (F1 x).1.1
        have p1 := fun x : EW w13 => (F1 x).1.2.1
        have p2 := fun x : EW w13 => (F1 x).1.2.2.1
        have p3 := fun x : EW w13 => (F1 x).1.2.2.2
        have r0 := fun x : EW w13 => (F2 x).1.1
        have r1 := fun x : EW w13 => (F2 x).1.2.1
        have r2 := fun x : EW w13 => (F2 x).1.2.2.1
        have r3 := fun x : EW w13 => (F2 x).1.2.2.2
        have HS0 : Hid (∀ w', Ext w13 w' → Calls Try.prog 27 #[.agg #[.int .i64 t, .slice B0 m0 k0, .bool nst, .slice B0' m0' k0'], .agg #[.int .i64 t, .slice Ab nb cb, .bool nst, .slice Ae ne ce]] w' fun e w'' => e = .returned (.bool true) ∧ Ext w' w'') := fun w' hw' => by
          have hs := same_any _ (.mk t b nst es) (.mk t b nst es) _ _ w' (Nat.le_refl _) (hv0.ext hw') (HV2.out.ext (((Ext.refl _).alloc _).trans (hxv.trans hw')))
          rw [same_refl] at hs
          exact hs
        have HS1 : Hid (∀ w', Ext w13 w' → Calls Try.prog 27 #[.agg #[.int .i64 t', .slice B1 m1 k1, .bool nst', .slice B1' m1' k1'], .agg #[.int .i64 t', .slice Ab' nb' cb', .bool nst', .slice Ae' ne' ce']] w' fun e w'' => e = .returned (.bool true) ∧ Ext w' w'') := fun w' hw' => by
          have hs := same_any _ (.mk t' b' nst' es') (.mk t' b' nst' es') _ _ w' (Nat.le_refl _) (hv1.ext hw') (HV3.out.ext (((Ext.refl _).alloc _).trans (((Ext.refl _).alloc _).trans (hxu.trans hw'))))
          rw [same_refl] at hs
          exact hs
        clear F1 F2 c00 c01 c02 c03 c10 c11' c12' c13' hv0 hv1
        refine wp_region_quietE (by kernel_rfl) (by kernel_rfl) ?_
        repeat (go_big_quiet_step (first
          | (go_at_call_of 27 (Value.slice Ab' nb' cb'); exact Calls.ew HS1.out)
          | (go_at_call 27; exact Calls.ew HS0.out)
          | (go_at_call 8; exact Calls.ew (fun w' _ => awake_any w'))))
        refine wpQuiet_nil ?_
        intro w14 hw'
        obtain ⟨⟨w14', hx14⟩, hw''⟩ := hw'
        have hw3 : w14 = w14' := hw''
        subst hw3
        clear hw''
        go_wp2
        go_ret
        exact ⟨ret_val rfl, hfin.trans hx14⟩
end Go.Proofs.Ythohienbmhohjaa
