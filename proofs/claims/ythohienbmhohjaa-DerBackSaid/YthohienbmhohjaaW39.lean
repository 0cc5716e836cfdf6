/- The walk: the law of the bytes of elements. -/
import Derived.Test.YthohienbmhohjaaW38
import Derived.Test.YthohienbmhohjaaW31
import Derived.BigGuardPart
import Derived.BigQuiet
import Derived.StillTailTactics
import Derived.Deep.RegionLaw
namespace Go.Proofs.Ythohienbmhohjaa
open Go.RowKit

theorem small_enc {k : Nat} {d : V} (hk : k ≤ 5) (h : Small k d) : d.depth ≤ 1000000 ∧ (d.formed = true → d.put.length ≤ 1000000000) ∧ d.put.length ≤ 307200 := by
  obtain ⟨h1, h2, h3⟩ := h
  have := bound_le hk
  exact ⟨by omega, fun _ => by omega, by omega⟩

set_option maxRecDepth 100000 in
set_option maxHeartbeats 1600000 in
theorem derMade_any (l : List Int) (A : Option Addr) (n c : Nat) (at' : Int) (by' how : Nat) (w : World) (hby : by' ≤ 255) (hhow : how ≤ 255) (h : Rd w (.sl 1 (intsC l)) (.slice A n c)) :
    Calls Try.prog 5 #[.slice A n c, .int .i64 at', .int .u8 (by' : Nat), .int .u8 (how : Nat)] w fun e w' => e = .returned (.bool true) ∧ Ext w w' := by
  by_cases hn : 400 < n
  · have hn' : ¬ n ≤ 400 := by omega
    go_enter Try.func5, Try.ntmps5
    go_wp2_with (first
      | (go_at_call 24; refine (light_any _ _ _ _).mono ?_; rintro e w0 ⟨rfl, rfl⟩)
      | (go_at_call 8; refine (awake_any _).mono ?_; rintro e w1 ⟨rfl, hx1⟩))
    go_ret
    exact ⟨rfl, hx1⟩
  have hn' : n ≤ 400 := by omega
  have HR := Lib.hid h
  have tok1 : True := trivial
  clear h
  go_enter Try.func5, Try.ntmps5
  go_wp2_with (first
    | (go_at_call 24; refine (light_any _ _ _ _).mono ?_; rintro e w0 ⟨rfl, rfl⟩)
    | (go_at_call 25; refine (roll_any l _ _ _ _ HR.out).mono ?_; rintro e w1 ⟨rfl, hD1, hx1⟩)
    | (go_at_call 26; have _t := tok1; refine (delement_any 4 (by omega) _ _ _ (by rfl) (by exact hD1)).mono ?_; rintro e w2 ⟨⟨t, b, nst, es⟩, v2, rfl, hr2, hs2, hD2, hx2⟩; clear tok1)
    | (go_at_call 26; refine (delement_any 2 (by omega) _ _ _ (by rfl) (by exact hD2)).mono ?_; rintro e w3 ⟨⟨t', b', nst', es'⟩, v3, rfl, hr3, hs3, hD3, hx3⟩; have hx3w := ExtD.ext hx1 (Nat.le_refl _) (hx2.trans hx3); have HV2 := Lib.hid ((hr2.new_d (by have := hD1.lt; exact this) hx3).new_rd); have HV3 := Lib.hid hr3.new_rd; obtain ⟨Ab, nb, cb, Ae, ne, ce, rfl, -⟩ := HV2.out.opened; obtain ⟨Ab', nb', cb', Ae', ne', ce', rfl, -⟩ := HV3.out.opened; obtain ⟨E, hE⟩ : ∃ E, encE (V.mk t b nst es) = E := ⟨_, rfl⟩; obtain ⟨L, hL⟩ : ∃ L, encL (V.mk t b nst es) = L := ⟨_, rfl⟩; have HE := Lib.hid hE; have HL := Lib.hid hL; clear hE hL; have HSm := Lib.hid (small_enc (by omega) hs2); clear hs2 hs3 hr2 hr3)
    | (go_at_call 21; refine (encode_any (.mk t b nst es) HSm.out.1 HSm.out.2.1 _ _ (by exact HV2.out.ext (((Ext.refl _).alloc _).alloc _))).mono ?_; rintro e w5 ⟨A5, n5, c5, rfl, hr5, hx5⟩; rw [HE.out]; rw [HL.out] at hr5; obtain ⟨⟨q0, q1, q2, q3⟩, -⟩ := four ((((Ext.refl _).alloc _).trans hx5).blk))
    | (go_at_call 22; refine (rencode_own (.mk t b nst es) HSm.out.1 HSm.out.2.1 _ _ (by exact HV2.out.ext ((((Ext.refl _).alloc _).alloc _).trans hx5))).mono ?_; rintro e w6 ⟨A6, n6, c6, rfl, hown6, hx6⟩; rw [HE.out]; rw [HL.out] at hown6))
  have hx56 := hx5.trans hx6
  have hxo1 := (((Ext.refl (w3.alloc (.cells #[.int .i64 t, .slice Ab nb cb, .bool nst, .slice Ae ne ce] 29))).alloc (.cells #[.int .i64 t', .slice Ab' nb' cb', .bool nst', .slice Ae' ne' ce'] 29)).trans hx56)
  have F1 := fun x : EW w6 => four (hxo1.trans x.h).blk
  have F2 := fun x : EW w6 => four (g := w3.heap.size + 1) (by have := (hx56.trans x.h).blk; simpa using this)
  have kc5 : ∀ x : EW w6, (convert 22 9 (.slice A5 n5 c5)).run Try.prog x.w = .ok (.string ⟨L.toArray⟩) x.w := fun x => conv_bytes (P := Try.prog) 22 5 9 Try.underlying22 Try.underlying5 Try.underlying9 (hr5.new_rd.ext (hx6.trans x.h))
  have kc6 : ∀ x : EW w6, (convert 22 9 (.slice A6 n6 c6)).run Try.prog x.w = .ok (.string ⟨L.toArray⟩) x.w := fun x => conv_bytes (P := Try.prog) 22 5 9 Try.underlying22 Try.underlying5 Try.underlying9 (hown6.rd.ext x.h)
  have p0 := fun x : EW w6 => (F1 x).1.1
  have p1 := fun x : EW w6 => (F1 x).1.2.1
  have p2 := fun x : EW w6 => (F1 x).1.2.2.1
  have p3 := fun x : EW w6 => (F1 x).1.2.2.2
  have r0 := fun x : EW w6 => (F2 x).1.1
  have r1 := fun x : EW w6 => (F2 x).1.2.1
  have r2 := fun x : EW w6 => (F2 x).1.2.2.1
  have r3 := fun x : EW w6 => (F2 x).1.2.2.2
  clear F1 F2
  refine wp_region_quietE (by kernel_rfl) (by kernel_rfl) ?_
  have HSm2 : Hid (∀ w', Ext w6 w' → Calls Try.prog 27 #[.agg #[.int .i64 t, .slice Ab nb cb, .bool nst, .slice Ae ne ce], .agg #[.int .i64 t, .slice Ab nb cb, .bool nst, .slice Ae ne ce]] w' fun e w'' => e = .returned (.bool true) ∧ Ext w' w'') := fun w' hw' => by
    have hs := same_any _ (.mk t b nst es) (.mk t b nst es) _ _ w' (Nat.le_refl _) (HV2.out.ext ((((Ext.refl _).alloc _).alloc _).trans (hx56.trans hw'))) (HV2.out.ext ((((Ext.refl _).alloc _).alloc _).trans (hx56.trans hw')))
    rw [same_refl] at hs
    exact hs
  repeat (go_big_quiet_step (first
    | (go_at_call_of 27 (Value.slice Ab' nb' cb'); exact Calls.ew fun w' hw' => same_any _ (.mk t b nst es) (.mk t' b' nst' es') _ _ _ (Nat.le_refl _) (HV2.out.ext ((((Ext.refl _).alloc _).alloc _).trans (hx56.trans hw'))) (HV3.out.ext ((((Ext.refl _).alloc _).alloc _).trans (hx56.trans hw'))))
    | (go_at_call 18; exact Calls.ew fun w' hw' => rsame_any _ (.mk t b nst es) (.mk t' b' nst' es') _ _ _ (Nat.le_refl _) (HV2.out.ext ((((Ext.refl _).alloc _).alloc _).trans (hx56.trans hw'))) (HV3.out.ext ((((Ext.refl _).alloc _).alloc _).trans (hx56.trans hw'))))
    | (go_at_call 27; exact Calls.ew HSm2.out)))
  refine wpQuiet_nil ?_
  intro w7 hw'
  obtain ⟨⟨w7', hx7⟩, hw''⟩ := hw'
  have hw3 : w7 = w7' := hw''
  subst hw3
  clear hw''
  have hown7 := hown6.ext hx7
  have hL6 : L.length ≤ 307200 := by
    rw [← HL.out]
    unfold encL
    split
    · exact HSm.out.2.2
    · simp
  have hb6 := RdC.blen hown6.rd
  have hn6 : n6 ≤ 307200 := by omega
  have hcap6 : c6 ≤ 9223372036854775807 := by have := hb6.2.2; unfold maxLen at this; exact this
  have hx37 := (hx56.trans hx7)
  have hw7 := ((hx3w.alloc (.cells #[.int .i64 t, .slice Ab nb cb, .bool nst, .slice Ae ne ce] 29)).alloc (.cells #[.int .i64 t', .slice Ab' nb' cb', .bool nst', .slice Ae' ne' ce'] 29)).trans hx37
  clear p0 p1 p2 p3 r0 r1 r2 r3 kc5 kc6 hb6
  by_cases hpos : 0 < n6
  · obtain ⟨gb, rfl, hgb, hgb2, hnc6, -, hfz⟩ := hown7.at_ hpos
    have HRb := RdC.blen hown7.rd
    have SUBQ : Hid (∀ (i : Nat) (A' : Option Addr) (q c' : Nat), i ≤ n6 → q = n6 - i → (0 < q → A' = some { block := gb, off := i }) → q ≤ c' ∧ c' ≤ maxLen → Rd w7 (.sl 1 (bytesC ((L.drop i).take q))) (.slice A' q c')) := fun i A' q c' hi hq hA hc => own_sub hown7.rd hi hq hA hc
    have HO7 := Lib.hid hown7
    have hE57 := hx6.trans hx7
    have hw05 : Ext w0 w5 := ((hx3w.alloc (.cells #[.int .i64 t, .slice Ab nb cb, .bool nst, .slice Ae ne ce] 29)).alloc (.cells #[.int .i64 t', .slice Ab' nb' cb', .bool nst', .slice Ae' ne' ce'] 29)).trans hx5
    clear hown6 hown7 hr5 HRb
    go_wp2_with (first
      | (go_at_call 28; refine (mod_any at' n6 (by omega) (by omega) _).mono ?_; rintro e w8 ⟨rfl, rfl⟩; obtain ⟨i, hi⟩ := Int.eq_ofNat_of_zero_le (modV_range at' n6 (by omega)).1; have hi2 := (modV_range at' n6 (by omega)).2; rw [hi]; rw [hi] at hi2; have hi3 : i < n6 := (by omega); obtain ⟨xi, hxi⟩ := HO7.out.byte_at hi3; have hfi := hfz i)
      | (at_builtin; refine wpList_appF (T := fun _ => False) (a0 := w5) sl22 (by rfl) _ _ (by rfl) (by exact hE57) (by exact HO7.out) (by rfl) (by rfl) (by exact HO7.out.rd) (bytesC_flat _) (by simp only [bytesC_length]; omega) ?_; intro A9 n9 c9 w9 hown9 hx9 _ _))
    · have hp := HO7.out.put' hi3 by' hby
      go_wp2_with (first
        | (go_at_call 23; refine (bytes_any (L.set i (UInt8.ofNat by')) _ _ _ _ (by exact hp.rd)).mono ?_; rintro e w10 ⟨rfl, hx10⟩)
        | (go_at_call 8; refine (awake_any _).mono ?_; rintro e w11 ⟨rfl, hx11⟩))
      go_ret
      exact ⟨ret_val rfl, (hw7.setCell (by have := hw05.size; exact Nat.le_trans this hgb) _).trans (hx10.trans hx11)⟩
    · have HOi := Lib.hid (HO7.out.headB hpos (i := i) (by omega))
      have b1 : i ≤ c6 := by omega
      have b2 : i + 1 ≤ n6 := by omega
      have b3 : IntKind.i64.wrap ((i : Int) + 1) = (i : Int) + 1 := by rw [IntKind.wrap_i64]; omega
      have b4 : ((i : Int) + 1).toNat = i + 1 := by omega
      have b5 : (0 : Int) ≤ (i : Int) + 1 := by omega
      have b6 : (i : Int) + 1 ≤ (n6 : Int) := by omega
      go_still_tail 7, (by kernel_rfl)
      change wpList _ _ _ _ _ w8.drew
      go_wp2_with (at_builtin; refine wpList_appF (T := fun _ => False) (a0 := w5) sl22 (by rfl) _ _ (by rfl) (by exact hE57.drew) (by exact HOi.out.ext (Ext.refl _).drew) (by rfl) (by rfl) (by refine Rd.ext (SUBQ.out (i + 1) _ _ _ (by omega) (by omega) ?_ ?_) (Ext.refl _).drew; (intro hq; first | rfl | (rw [if_neg (by omega)])); (unfold maxLen; omega)) (bytesC_flat _) (by simp only [bytesC_length, List.length_take, List.length_drop]; omega) ?_; intro A9 n9 c9 w9 hown9 hx9 _ _)
      all_goals
        have hr9 := hown9.rd
        rw [← bytesC_append] at hr9
        go_wp2_with (first
          | (go_at_call 23; refine (bytes_any _ _ _ _ _ (by exact hr9)).mono ?_; rintro e w10 ⟨rfl, hx10⟩)
          | (go_at_call 8; refine (awake_any _).mono ?_; rintro e w11 ⟨rfl, hx11⟩))
        go_ret
        exact ⟨ret_val rfl, hw05.trans (hx9.trans (hx10.trans hx11))⟩
    · have b1 : i ≤ c6 := by omega
      have b2 : i ≤ n6 := by omega
      have b3 : ¬ c6 = i := by omega
      have SRC1 := Lib.hid (HO7.out.headB hpos (i := i) (by omega)).rd
      have SRC2 := Lib.hid (SUBQ.out i (some { block := gb, off := i }) (n6 - i) (c6 - i) (by omega) rfl (fun _ => rfl) (by unfold maxLen; omega))
      go_region_law (first
        | (refine step_appF (T := fun _ => False) (a0 := w8) sl22 (by rfl) (.tmp 89) (.tmp 92) (by rfl) (by first | exact ((Ext.refl _).alloc _).drew | exact (((Ext.refl _).alloc _).alloc _).drew) (by first | exact OwnT.ext (OwnT.madeAt (w := w8) w8.heap.size rfl (n := 0) (us := []) (cs := bytesC []) (S := fun _ => False) rfl (by simp [maxLen]) ⟨rfl, fun _ _ _ h _ => by simp [bytesC] at h⟩ (fun _ h => h.elim) (Nat.le_refl _)) (by first | exact (Ext.refl _).drew | exact ((Ext.refl _).alloc _).drew) | exact OwnT.ext (OwnT.madeAt (w := w8.alloc (.cells #[.int .u8 (by' : Int)] 5)) (w8.heap.size + 1) (by simp) (n := 0) (us := []) (cs := bytesC []) (S := fun _ => False) rfl (by simp [maxLen]) ⟨rfl, fun _ _ _ h _ => by simp [bytesC] at h⟩ (fun _ h => h.elim) (by simp)) (Ext.refl _).drew) (by simp [Act.eval, Act.put]) (A := some ⟨gb, 0, none⟩) (m := i) (c := c6) (by simp [Act.eval, Act.put]) (by first | exact SRC1.out.ext ((Ext.refl _).alloc _).drew | exact SRC1.out.ext (((Ext.refl _).alloc _).alloc _).drew) (bytesC_flat _) (by simp only [bytesC_length, List.length_take, List.length_nil]; omega) ?_; intro A9 n9 c9 w9 hown9 hx9 hg9 _; (try have hBY := by_v2 hby hg9); (try have hBY := by_v3 hby hg9))
        | (refine step_appF (T := fun _ => False) (a0 := w8) sl22 (by rfl) (.tmp 93) (.tmp 95) (by rfl) (by exact hx9) (by exact hown9) (by simp [Act.eval, Act.put]) (A := some ⟨w8.heap.size + 1, 0, none⟩) (m := 1) (c := 1) (by simp [Act.eval, Act.put]) (by exact hBY) (bytesC_flat _) (by simp only [List.length_append, bytesC_length, List.length_take, List.length_nil, List.length_singleton]; omega) ?_; intro A10 n10 c10 w10 hown10 hx10 _ _)
        | (refine step_appF (T := fun _ => False) (a0 := w8) sl22 (by rfl) (.tmp 93) (.tmp 95) (by rfl) (by exact hx9) (by exact hown9) (by simp [Act.eval, Act.put]) (A := some ⟨w8.heap.size, 0, none⟩) (m := 1) (c := 1) (by simp [Act.eval, Act.put]) (by exact hBY) (bytesC_flat _) (by simp only [List.length_append, bytesC_length, List.length_take, List.length_nil, List.length_singleton]; omega) ?_; intro A10 n10 c10 w10 hown10 hx10 _ _)
        | (refine step_appF (T := fun _ => False) (a0 := w8) sl22 (by rfl) (.tmp 93) (.tmp 95) (by rfl) (by exact hx9.alloc _) (by exact hown9.ext ((Ext.refl _).alloc _)) (by simp [Act.eval, Act.put]) (A := some ⟨w9.heap.size, 0, none⟩) (m := 1) (c := 1) (by simp [Act.eval, Act.put]) (by exact by_v1 w9 hby) (bytesC_flat _) (by simp only [List.length_append, bytesC_length, List.length_take, List.length_nil, List.length_singleton]; omega) ?_; intro A10 n10 c10 w10 hown10 hx10 _ _)
        | (refine step_appF (T := fun _ => False) (a0 := w8) sl22 (by rfl) (.tmp 96) (.tmp 99) (by rfl) (by exact hx10) (by exact hown10) (by simp [Act.eval, Act.put]) (A := some ⟨gb, i, none⟩) (m := n6 - i) (c := c6 - i) (by simp [Act.eval, Act.put]) (by exact SRC2.out.ext hx10) (bytesC_flat _) (by simp only [List.length_append, bytesC_length, List.length_take, List.length_drop, List.length_nil, List.length_singleton]; omega) ?_; intro A11 n11 c11 w11 hown11 hx11 _ _))
      all_goals
        have hr9 := hown11.rd
        rw [← bytesC_append, ← bytesC_append, ← bytesC_append] at hr9
        go_wp2_with (first
          | (go_at_call 23; refine (bytes_any _ _ _ _ _ (by exact hr9)).mono ?_; rintro e w12 ⟨rfl, hx12⟩)
          | (go_at_call 8; refine (awake_any _).mono ?_; rintro e w13 ⟨rfl, hx13⟩))
        go_ret
        exact ⟨ret_val rfl, hw7.trans (hx11.trans (hx12.trans hx13))⟩
    · go_wp2_with (first
        | (go_at_call 23; refine (bytes_any (L ++ L) _ _ _ _ (by rw [bytesC_append]; exact hown9.rd)).mono ?_; rintro e w10 ⟨rfl, hx10⟩)
        | (go_at_call 8; refine (awake_any _).mono ?_; rintro e w11 ⟨rfl, hx11⟩))
      go_ret
      exact ⟨ret_val rfl, hw05.trans (hx9.trans (hx10.trans hx11))⟩
    · go_wp2_with (first
        | (go_at_call 23; refine (bytes_any L _ _ _ _ (by exact HO7.out.rd)).mono ?_; rintro e w10 ⟨rfl, hx10⟩)
        | (go_at_call 8; refine (awake_any _).mono ?_; rintro e w11 ⟨rfl, hx11⟩))
      go_ret
      exact ⟨ret_val rfl, hw7.trans (hx10.trans hx11)⟩
  · go_wp2_with (first
      | (go_at_call 23; refine (bytes_any L _ _ _ _ (by exact hown7.rd)).mono ?_; rintro e w8 ⟨rfl, hx8⟩)
      | (go_at_call 8; refine (awake_any _).mono ?_; rintro e w9 ⟨rfl, hx9⟩))
    go_ret
    exact ⟨ret_val rfl, hw7.trans (hx8.trans hx9)⟩
end Go.Proofs.Ythohienbmhohjaa
