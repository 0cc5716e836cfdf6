/- Dice, and what is made with them: what comes out is small enough. No program is in sight here. -/
import Derived.Test.YtfkgbfhpibiheaaL3
import Derived.Test.YtfkgbfhpibiheaaC1
set_option linter.unusedVariables false
set_option linter.unusedSimpArgs false
namespace Go.Proofs.Ytfkgbfhpibiheaa
open Go
structure DOK (d : cipherplanmake_Dice) : Prop where
  lo : Lo d.L
  at0 : 0 ≤ d.At
  at1 : d.At ≤ d.L.length
theorem mod_ok (e n : Int) (hn : 1 ≤ n) (hn2 : n ≤ 4611686018427387904) : Ok (g_make_Mod e n) (fun y => 0 ≤ y ∧ y < n) := by
  unfold g_make_Mod
  rw [decide_eq_false (by omega), cond_false]
  have h1 := Int.tmod_lt_of_pos e (show 0 < n by omega)
  have h2 : -n < e.tmod n := Int.lt_tmod_of_pos e (by omega)
  have h3 := Int.tmod_lt_of_pos (e.tmod n + n) (show 0 < n by omega)
  have h4 := Int.tmod_nonneg n (show 0 ≤ e.tmod n + n by omega)
  unfold remI
  rw [if_neg (by omega), Option.bind_some, W_id (by omega), if_neg (by omega)]
  exact ⟨_, rfl, h4, h3⟩
theorem next_ok {d : cipherplanmake_Dice} (h : DOK d) (n : Int) (hn : 1 ≤ n) (hn2 : n ≤ 4611686018427387904) : Ok (g_make_Dice_Next d n) (fun y => (0 ≤ y.1 ∧ y.1 < n) ∧ DOK y.2) := by
  have hl := h.lo
  unfold Lo at hl
  have h0 := h.at0
  have h1 := h.at1
  unfold g_make_Dice_Next
  refine Ok.cond (fun hb => ?_) fun hb => ?_
  · exact Ok.ret ⟨⟨Int.le_refl _, by show (0 : Int) < n; omega⟩, h⟩
  · have hb := of_decide_eq_false hb
    rw [W_id (x := d.At + 1) (by omega), W_id (by omega)]
    refine Ok.bind (getI_ok (by omega) (by omega)) fun e he => ?_
    refine Ok.bind (mod_ok e n hn hn2) fun y hy => ?_
    exact Ok.ret ⟨hy, ⟨h.lo, by show 0 ≤ d.At + 1; omega, by show d.At + 1 ≤ (d.L.length : Int); omega⟩⟩
def Sm (n : Int) : Prop := 0 ≤ n ∧ n ≤ 100000
def I64 (n : Int) : Prop := -9223372036854775808 ≤ n ∧ n ≤ 9223372036854775807
theorem Sm.i64 {n : Int} (h : Sm n) : I64 n := by unfold Sm at h; unfold I64; omega
end Go.Proofs.Ytfkgbfhpibiheaa
