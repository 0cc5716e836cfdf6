/- The walk of the law on records. -/
import Derived.Test.YthjgcmifggdepaaH19
set_option linter.unusedSimpArgs false
set_option linter.unusedVariables false
namespace Go.Proofs.Ythjgcmifggdepaa
open Go.RowKit

set_option maxRecDepth 100000 in
set_option maxHeartbeats 1600000 in
theorem handshakeRecords_any (l : List UInt8) (size : Int) (A : Option Addr) (n c : Nat) (w : World) (h : Rd w (.sl 1 (bytesC l)) (.slice A n c)) :
    Calls Try.prog 5 #[.slice A n c, .int .i64 size] w fun e w' => e = .returned (.bool true) ∧ Ext w w' := by
  have HR := Lib.hid h
  have hl := (RdC.blen h).1
  have HL := Lib.hid hl
  clear h hl
  by_cases hb : 5000 < n
  · go_enter Try.func5, Try.ntmps5
    go_wp2_with (go_at_call 9; refine (awake_any _).mono ?_; rintro e w1 ⟨rfl, hx1⟩)
    go_ret
    exact ⟨ret_val rfl, hx1⟩
  · go_enter Try.func5, Try.ntmps5
    go_wp2
    go_loopw [1, 5] (fun s i wr => ∃ (k : Nat) (sz : Int), s = .int .i64 sz ∧ i = .int .i64 (k : Nat) ∧ k ≤ 2 ∧ Ext w wr) (fun _ i _ => 2 - (intOf i).toNat)
    case atStart => exact ⟨0, size, rfl, rfl, by omega, Ext.refl _⟩
    case round =>
      obtain ⟨k, sz, rfl, rfl, hk, hx⟩ := hrel
      obtain ⟨E, hE⟩ : ∃ E, recE sz l = E := ⟨_, rfl⟩
      obtain ⟨R, hR⟩ : ∃ R, recL sz l = R := ⟨_, rfl⟩
      have HE := Lib.hid hE
      have HRr := Lib.hid hR
      clear hE hR
      by_cases hlt : k < 2
      · go_wp2_with (first
          | (go_at_call 28; refine (records_any l sz _ _ _ _ (HR.out.ext hx)).mono ?_; rw [HE.out, HRr.out]; rintro e w1 ⟨A1, n1, c1, rfl, hown1, hx1⟩)
          | (go_at_call 18; refine (refRecords_any l sz _ _ _ _ (HR.out.ext (hx.trans hx1))).mono ?_; rw [HE.out, HRr.out]; rintro e w2 ⟨A2, n2, c2, rfl, hown2, hx2⟩; have kc := conv_bytes (P := Try.prog) 33 5 9 Try.underlying33 Try.underlying5 Try.underlying9 (hown1.rd.ext hx2); have kc2 := conv_bytes (P := Try.prog) 33 5 9 Try.underlying33 Try.underlying5 Try.underlying9 hown2.rd)
          | (go_at_call 20; refine (mod_any sz 70 (by omega) (by omega) _).mono ?_; rintro e w3 ⟨rfl, rfl⟩))
        go_roundw
        case rel => exact ⟨k + 1, _, rfl, by go_num, by omega, (hx.trans hx1).trans hx2⟩
        case measure => simp [intOf]; omega
      · go_wp2_with (go_at_call 9; refine (awake_any _).mono ?_; rintro e w1 ⟨rfl, hx1⟩)
        go_ret
        exact ⟨ret_val rfl, hx.trans hx1⟩
end Go.Proofs.Ythjgcmifggdepaa
