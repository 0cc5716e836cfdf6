/- Dice, and what is made with them: what comes out is small enough. No program is in sight here. -/
import Derived.Test.YtkpcbnnlefcebaaGreatL3
import Derived.Test.YtkpcbnnlefcebaaGreatK6
set_option linter.unusedVariables false
set_option linter.unusedSimpArgs false
namespace Go.Proofs.YtkpcbnnlefcebaaGreat
open Go
structure DOK (d : cipherplanmake_Dice) : Prop where
  lo : Lo d.L
  at0 : 0 ≤ d.At
  at1 : d.At ≤ d.L.length
theorem mod_ok (e n : Int) (hn : 1 ≤ n) (hn2 : n ≤ 4611686018427387904) : Ok (g_make_Mod e n) (fun y => 0 ≤ y ∧ y < n) := by
  unfold g_make_Mod
  rw [decide_eq_false (by omega), cond_false]
  have h1 := Int.tmod_lt_of_pos e (show 0 < n by omega)
  have h2 : -n < e.tmod n := Int.lt_tmod_of_pos e (by omega)
  have h3 := Int.tmod_lt_of_pos (e.tmod n + n) (show 0 < n by omega)
  have h4 := Int.tmod_nonneg n (show 0 ≤ e.tmod n + n by omega)
  unfold remI
  rw [if_neg (by omega), Option.bind_some, W_id (by omega), if_neg (by omega)]
  exact ⟨_, rfl, h4, h3⟩
theorem next_ok {d : cipherplanmake_Dice} (h : DOK d) (n : Int) (hn : 1 ≤ n) (hn2 : n ≤ 4611686018427387904) : Ok (g_make_Dice_Next d n) (fun y => (0 ≤ y.1 ∧ y.1 < n) ∧ DOK y.2) := by
  have hl := h.lo
  unfold Lo at hl
  have h0 := h.at0
  have h1 := h.at1
  unfold g_make_Dice_Next
  refine Ok.cond (fun hb => ?_) fun hb => ?_
  · exact Ok.ret ⟨⟨Int.le_refl _, by show (0 : Int) < n; omega⟩, h⟩
  · have hb := of_decide_eq_false hb
    rw [W_id (x := d.At + 1) (by omega), W_id (by omega)]
    refine Ok.bind (getI_ok (by omega) (by omega)) fun e he => ?_
    refine Ok.bind (mod_ok e n hn hn2) fun y hy => ?_
    exact Ok.ret ⟨hy, ⟨h.lo, by show 0 ≤ d.At + 1; omega, by show d.At + 1 ≤ (d.L.length : Int); omega⟩⟩
theorem of_ok {d : cipherplanmake_Dice} (h : DOK d) (l : List Int) (hl : 1 ≤ l.length) (hl2 : l.length ≤ 1000) : Ok (g_make_Dice_Of d l) (fun y => y.1 ∈ l ∧ DOK y.2) := by
  unfold g_make_Dice_Of
  refine Ok.bind (next_ok h _ (by omega) (by omega)) fun y hy => ?_
  refine Ok.bind (getI_mem (by omega) (by omega)) fun e he => ?_
  exact Ok.ret ⟨he, hy.2⟩
theorem word_ok {d : cipherplanmake_Dice} (h : DOK d) (l : List ByteArray) (hl : 1 ≤ l.length) (hl2 : l.length ≤ 1000) : Ok (g_make_Dice_Word d l) (fun y => y.1 ∈ l ∧ DOK y.2) := by
  unfold g_make_Dice_Word
  refine Ok.bind (next_ok h _ (by omega) (by omega)) fun y hy => ?_
  refine Ok.bind (getI_mem (by omega) (by omega)) fun e he => ?_
  exact Ok.ret ⟨he, hy.2⟩
theorem one_ok {d : cipherplanmake_Dice} (h : DOK d) (n : Int) (hn : 1 ≤ n) (hn2 : n ≤ 1000) : Ok (g_make_Dice_One d n) (fun y => DOK y.2) := by
  unfold g_make_Dice_One
  refine Ok.bind (next_ok h _ (by omega) (by omega)) fun y hy => ?_
  exact Ok.ret hy.2
def Sm (n : Int) : Prop := 0 ≤ n ∧ n ≤ 100000
def I64 (n : Int) : Prop := -9223372036854775808 ≤ n ∧ n ≤ 9223372036854775807
theorem Sm.i64 {n : Int} (h : Sm n) : I64 n := by unfold Sm at h; unfold I64; omega
structure IntsC (c : api_Certificate) : Prop where
  a1 : I64 c.Serial
  a2 : I64 c.Key.Alg
  a3 : I64 c.Key.Bits
  a4 : I64 c.KeyId
  a5 : I64 c.Hash.Alg
  a6 : I64 c.Hash.Bits
  a7 : I64 c.From
  a8 : I64 c.To
  a9 : I64 c.Path
  b1 : I64 c.Seal.Key
  b2 : I64 c.Seal.Sum
theorem FitC.is {c : api_Certificate} (h : FitC c) : IntsC c := by
  have := h.ints
  constructor <;> exact this _ (by simp)
end Go.Proofs.YtkpcbnnlefcebaaGreat
