/- The walks: the bytes of a length. -/
import Derived.Test.YthohienbmhohjaaW12
import Derived.Test.YthohienbmhohjaaSpec5
namespace Go.Proofs.Ythohienbmhohjaa
open Go.RowKit

theorem byteNat (n : Nat) : ((UInt8.ofNat (n % 256)).toNat : Int) = (n : Int) % 256 := by
  rw [UInt8.toNat_ofNat', Nat.mod_eq_of_lt (by omega)]; omega
theorem rdByte {w : World} {S : Nat → Prop} {x : UInt8} {E : Int} (h : E = (x.toNat : Int)) : RdUs w S (bytesC [x]) [.int .u8 E] := by
  subst h
  exact RdUs.int_ (u8_range (by have := x.toNat_lt; omega))

set_option maxRecDepth 100000 in
set_option maxHeartbeats 1600000 in
theorem rlength_any (n : Nat) (hn : n ≤ 1000000000000) (w : World) :
    Calls Try.prog 70 #[.int .i64 n] w fun e w' => ∃ A k c, e = .returned (.slice A k c) ∧ RdC w' (New w w') (.sl 1 (bytesC (lenB n))) (.slice A k c) ∧ Ext w w' := by
  by_cases h128 : n < 128
  · have HR : Hid (RdC (w.alloc (.cells #[.int .u8 (n : Int)] 5)) (New w (w.alloc (.cells #[.int .u8 (n : Int)] 5))) (.sl 1 (bytesC (lenB n))) (.slice (some ⟨w.heap.size, 0, none⟩) 1 1)) := by
      have e : lenB n = [UInt8.ofNat n] := by unfold lenB; rw [if_pos h128]
      show RdC _ _ _ _
      rw [e]
      exact RdC.fresh (S := fun _ => False) (us := [.int .u8 (n : Int)]) rfl (by simp [maxLen]) (rdByte (by rw [UInt8.toNat_ofNat', Nat.mod_eq_of_lt (by omega)])) (fun _ h => h.elim) _ (fun _ h => h.elim) ⟨Nat.le_refl _, by simp⟩
    go_enter Try.func70, Try.ntmps70
    go_wp2
    go_ret
    exact ⟨_, _, _, rfl, HR.out, (Ext.refl _).alloc _⟩
  · have HQ : Hid (lenB n = UInt8.ofNat (128 + cnt n) :: be n) := by show _ = _; unfold lenB; rw [if_neg h128]
    have hc := cnt_le 6 n (by omega)
    have h128' : ¬ (n : Int) < 128 := by omega
    go_enter Try.func70, Try.ntmps70
    go_wp2
    go_loopw [0, 3] (fun x b wr => ∃ m l A k c, x = .int .i64 ((m : Nat) : Int) ∧ m ≤ n ∧ Hid (be n = be m ++ l) ∧ b = .slice A k c ∧ RdC wr (New w wr) (.sl 1 (bytesC l)) (.slice A k c) ∧ Ext w wr ∧ k ≤ 6) (fun x _ _ => (intOf x).toNat)
    case atStart => exact ⟨n, [], none, 0, 0, rfl, by omega, by show _ = _; simp, rfl, RdC.nil_ 1, Ext.refl _, by omega⟩
    case round =>
      obtain ⟨m, l, A, k, c, rfl, hm, HB, rfl, hr, hx, hk⟩ := hrel
      have HRd := Lib.hid hr
      have hl := (RdC.blen hr).1
      clear hr
      by_cases h0 : 0 < m
      · have hk5 : l.length ≤ 5 := by
          have := congrArg List.length HB.out
          rw [be_pos h0] at this
          simp at this
          unfold cnt at hc
          omega
        have hm0 : (0 : Int) < (m : Int) := by omega
        clear hl
        go_wp2_with (at_builtin; refine wpList_appF (T := fun _ => False) (a0 := w) sl22 (by rfl) _ _ (by rfl) (by exact hx.alloc _) (by exact OwnT.madeAt wr.heap.size rfl (n := 1) (us := [.int .u8 _]) (cs := bytesC [UInt8.ofNat (m % 256)]) (S := fun _ => False) rfl (by simp [maxLen]) (rdByte (by rw [byteNat])) (fun _ h => h.elim) hx.size) (by rfl) (by rfl) (by exact HRd.out.new_rd.ext ((Ext.refl _).alloc _)) (bytesC_flat l) (by simp [bytesC]; omega) ?_; intro A1 n1 c1 w1 hown1 hx1 _ _)
        have hb1 := (RdC.blen (l := UInt8.ofNat (m % 256) :: l) hown1.rd).1
        go_roundw
        case rel => exact ⟨m / 256, UInt8.ofNat (m % 256) :: l, A1, n1, c1, by congr 1, by omega, by show _ = _; rw [HB.out, be_pos h0]; simp, rfl, hown1.newF, hx1, by simp at hb1; omega⟩
        case measure => simp [intOf]; omega
      · obtain rfl : m = 0 := by omega
        have hbe : l = be n := by have := HB.out; rw [be_0] at this; simpa using this.symm
        subst hbe
        have hkc : Hid (k = cnt n) := hl.symm
        clear hl
        go_wp2_with (at_builtin; refine wpList_appF (T := fun _ => False) (a0 := w) sl22 (by rfl) _ _ (by rfl) (by exact hx.alloc _) (by exact OwnT.madeAt wr.heap.size rfl (n := 1) (us := [.int .u8 _]) (cs := bytesC [UInt8.ofNat (128 + cnt n)]) (S := fun _ => False) rfl (by simp [maxLen]) (rdByte (by rw [UInt8.toNat_ofNat', Nat.mod_eq_of_lt (by omega), ← hkc.out]; omega)) (fun _ h => h.elim) hx.size) (by rfl) (by rfl) (by exact HRd.out.new_rd.ext ((Ext.refl _).alloc _)) (bytesC_flat _) (by simp [bytesC]; unfold cnt at hc; omega) ?_; intro A1 n1 c1 w1 hown1 hx1 _ _)
        go_ret
        exact ⟨A1, n1, c1, rfl, by rw [HQ.out]; exact hown1.newF, hx1⟩
end Go.Proofs.Ythohienbmhohjaa
