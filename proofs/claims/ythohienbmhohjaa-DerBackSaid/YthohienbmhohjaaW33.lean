/- The walk: the law of the limits of depth and length. -/
import Derived.Test.YthohienbmhohjaaW32
import Derived.BigGuardPart
namespace Go.Proofs.Ythohienbmhohjaa
open Go.RowKit

set_option maxRecDepth 100000 in
set_option maxHeartbeats 800000 in
theorem derDeep_any (dp tg sz : Nat) (w : World) (h1 : dp ≤ 255) (h2 : tg ≤ 255) (h3 : sz ≤ 65535) :
    Calls Try.prog 4 #[.int .u8 (dp : Nat), .int .u8 (tg : Nat), .int .u16 (sz : Nat)] w fun e w' => e = .returned (.bool true) ∧ Ext w w' := by
  have hmk : (Instr.makeSlice 22 (.int .i64 ((sz : Int) % 4200)) (.int .i64 ((sz : Int) % 4200))).run Try.prog w = .ok (.slice (some ⟨w.heap.size, 0, none⟩) (sz % 4200) (sz % 4200)) (w.alloc (.cells (Array.replicate (sz % 4200) (Value.int .u8 0)) 5)) := make_zeros (sz % 4200) (by omega) w
  have P0 := Lib.hid (zeros_small (sz % 4200) (by omega))
  have V0 := Lib.hid (InVar.zeros (sz % 4200) (by omega) w)
  go_enter Try.func4, Try.ntmps4
  go_wp2
  go_loopw [8] (fun i wr => ∃ (k : Nat) (t : Int) (b : List UInt8) (nst : Bool) (es : List V) (Ab : Option Addr) (nb cb : Nat) (Ae : Option Addr) (ne ce : Nat), i = .int .i64 k ∧ k ≤ dp % 20 ∧ Hid (InVar wr (w.heap.size + 1) (.mk t b nst es) t (.slice Ab nb cb) nst (.slice Ae ne ce)) ∧ Hid ((V.mk t b nst es).depth ≤ k + 1 ∧ (V.mk t b nst es).put.length ≤ 5000 + 8 * k) ∧ Ext w wr) (fun i _ => dp % 20 - (intOf i).toNat)
  case atStart => exact ⟨0, _, _, _, _, _, _, _, _, _, _, rfl, by omega, V0, P0, ((Ext.refl _).alloc _).alloc _⟩
  case round =>
    obtain ⟨k, t, b, nst, es, Ab, nb, cb, Ae, ne, ce, rfl, hk, HV, HP, hx⟩ := hrel
    obtain ⟨⟨q0, q1, q2, q3⟩, ⟨f0, f1, f2, f3⟩⟩ := four HV.out.1
    by_cases hlt : k < dp % 20
    · obtain ⟨⟨g0, g1, g2, g3⟩, ⟨e0, e1, e2, e3⟩⟩ := four ((HV.out.ext ((Ext.refl wr).alloc (.cells #[.int .i64 t, .slice Ab nb cb, .bool nst, .slice Ae ne ce] 29))).1)
      have HP2 := Lib.hid (wrap_small (by omega) HP.out)
      go_wp2
      go_roundw
      case rel => exact ⟨k + 1, _, _, _, _, _, _, _, _, _, _, by go_num, by omega, Lib.hid HV.out.wrap, HP2, ((((hx.alloc _).setCell (by simp) _).setCell (by simp) _).setCell (by simp) _).setCell (by simp) _⟩
      case measure => simp [intOf]; omega
    · have ht : -9223372036854775808 ≤ t ∧ t ≤ 9223372036854775807 := by
        obtain ⟨_, _, _, ht, _⟩ := HV.out.2
        exact ht
      have hxr : -9223372036854775808 ≤ (if dp % 3 = 2 then (tg : Int) else t) ∧ (if dp % 3 = 2 then (tg : Int) else t) ≤ 9223372036854775807 := by split <;> omega
      have hc3 := three_at wr t tg (dp % 3) (by omega)
      obtain ⟨x, hxx⟩ : ∃ x, (if dp % 3 = 2 then (tg : Int) else t) = x := ⟨_, rfl⟩
      rw [hxx] at hc3 hxr
      clear hxx
      have HVa := Lib.hid (HV.out.ext ((Ext.refl wr).alloc (.cells #[.int .i64 t, .int .i64 t, .int .i64 tg] 3)))
      obtain ⟨⟨g0, g1, g2, g3⟩, ⟨e0, e1, e2, e3⟩⟩ := four HVa.out.1
      have HT := Lib.hid (HVa.out.tag hxr)
      have hxT := (hx.alloc (.cells #[.int .i64 t, .int .i64 t, .int .i64 tg] 3)).setCell (p := { block := w.heap.size + 1, off := 0 }) (by simp) (.int .i64 x)
      have hdep : (V.mk x b nst es).depth ≤ 1000000 := by rw [tag_depth t x]; have := HP.out.1; omega
      have hlen : (V.mk x b nst es).put.length ≤ 1000000000 := by rw [tag_put t x]; have := HP.out.2; omega
      have HDep := Lib.hid hdep
      have HLen := Lib.hid hlen
      obtain ⟨E, hE⟩ : ∃ E, encE (V.mk x b nst es) = E := ⟨_, rfl⟩
      obtain ⟨L, hL⟩ : ∃ L, encL (V.mk x b nst es) = L := ⟨_, rfl⟩
      have HE := Lib.hid hE
      have HL := Lib.hid hL
      have tokA : True := trivial
      clear hdep hlen hE hL q0 q1 q2 q3 f0 f1 f2 f3
      have q0 := (four HV.out.1).1.1
      go_wp2_with (first
        | (go_at_call 21; refine (encode_any (.mk x b nst es) HDep.out (fun _ => HLen.out) _ _ (by exact HT.out.val)).mono ?_; rintro e w1 ⟨A1, n1, c1, rfl, hr1, hx1⟩; rw [HE.out]; rw [HL.out] at hr1; obtain ⟨⟨q10, q11, q12, q13⟩, -⟩ := four (HT.out.ext hx1).1)
        | (go_at_call 22; refine (rencode_any (.mk x b nst es) HDep.out (fun _ => HLen.out) _ _ (by exact (HT.out.ext hx1).val)).mono ?_; rintro e w2 ⟨A2, n2, c2, rfl, hr2, hx2⟩; rw [HE.out]; rw [HL.out] at hr2; have kc1 := conv_bytes (P := Try.prog) 22 5 9 Try.underlying22 Try.underlying5 Try.underlying9 (hr1.new_rd.ext hx2); have kc2 := conv_bytes (P := Try.prog) 22 5 9 Try.underlying22 Try.underlying5 Try.underlying9 hr2.new_rd; have hE2 := hxT.trans (hx1.trans hx2)))
      go_loopw [13, 14] (fun cc i wr => ∃ (l : List UInt8) (A : Option Addr) (n c k : Nat), cc = .slice A n c ∧ i = .int .i64 k ∧ k ≤ dp % 20 ∧ n = 2 * k ∧ Hid (Rd wr (.sl 1 (bytesC l)) (.slice A n c)) ∧ Ext w2 wr) (fun _ i _ => dp % 20 - (intOf i).toNat)
      case atStart => exact ⟨[], none, 0, 0, 0, rfl, rfl, by omega, by omega, RdC.nil_ 1, Ext.refl _⟩
      case round =>
        obtain ⟨l, A, n, c, k2, rfl, rfl, hk2, hn, HR, hx3⟩ := hrel
        subst hn
        by_cases hlt2 : k2 < dp % 20
        · have hl := (RdC.blen HR.out).1
          go_wp2_with (at_builtin; refine wpList_appF (T := fun _ => False) (a0 := w2) sl22 (by rfl) _ _ (by rfl) (by exact hx3.alloc _) (by exact OwnT.madeAt wr.heap.size rfl (n := 2) (us := [.int .u8 48, .int .u8 _]) (cs := bytesC [48, UInt8.ofNat (2 * k2)]) (S := fun _ => False) rfl (by simp [maxLen]) (rdTwo rfl (by rw [UInt8.toNat_ofNat', Nat.mod_eq_of_lt (by omega)]; omega)) (fun _ h => h.elim) hx3.size) (by rfl) (by rfl) (by exact HR.out.ext ((Ext.refl _).alloc _)) (bytesC_flat l) (by simp [bytesC]; omega) ?_; intro A3 n3 c3 w3 hown3 hx4 _ _)
          have hb3 := (RdC.blen (l := 48 :: UInt8.ofNat (2 * k2) :: l) hown3.rd).1
          go_roundw
          case rel => exact ⟨48 :: UInt8.ofNat (2 * k2) :: l, A3, n3, c3, k2 + 1, rfl, by go_num, by omega, by simp at hb3; omega, hown3.rd, hx4⟩
          case measure => simp [intOf]; omega
        · go_wp2_with (first
            | (go_at_call 23; have _t := tokA; refine (bytes_any L _ _ _ _ (by exact hr2.new_rd.ext hx3)).mono ?_; rintro e w4 ⟨rfl, hx4⟩; clear tokA)
            | (go_at_call 23; refine (bytes_any l _ _ _ _ (by exact HR.out.ext hx4)).mono ?_; rintro e w5 ⟨rfl, hx5⟩)
            | (go_at_call 8; refine (awake_any _).mono ?_; rintro e w6 ⟨rfl, hx6⟩))
          go_ret
          exact ⟨ret_val rfl, hE2.trans (hx3.trans (hx4.trans (hx5.trans hx6)))⟩
end Go.Proofs.Ythohienbmhohjaa
