/- Dice, and what is made with them: what comes out is small enough. No program is in sight here. -/
import Derived.Test.YtbeageaekgccgaaGreatL3
import Derived.Test.YtbeageaekgccgaaGreatK6
set_option linter.unusedVariables false
set_option linter.unusedSimpArgs false
namespace Go.Proofs.YtbeageaekgccgaaGreat
open Go
structure DOK (d : cipherplanmake_Dice) : Prop where
  lo : Lo d.L
  at0 : 0 ≤ d.At
  at1 : d.At ≤ d.L.length
theorem mod_ok (e n : Int) (hn : 1 ≤ n) (hn2 : n ≤ 4611686018427387904) : Ok (g_make_Mod e n) (fun y => 0 ≤ y ∧ y < n) := by
  unfold g_make_Mod
  rw [decide_eq_false (by omega), cond_false]
  have h1 := Int.tmod_lt_of_pos e (show 0 < n by omega)
  have h2 : -n < e.tmod n := Int.lt_tmod_of_pos e (by omega)
  have h3 := Int.tmod_lt_of_pos (e.tmod n + n) (show 0 < n by omega)
  have h4 := Int.tmod_nonneg n (show 0 ≤ e.tmod n + n by omega)
  unfold remI
  rw [if_neg (by omega), Option.bind_some, W_id (by omega), if_neg (by omega)]
  exact ⟨_, rfl, h4, h3⟩
theorem next_ok {d : cipherplanmake_Dice} (h : DOK d) (n : Int) (hn : 1 ≤ n) (hn2 : n ≤ 4611686018427387904) : Ok (g_make_Dice_Next d n) (fun y => (0 ≤ y.1 ∧ y.1 < n) ∧ DOK y.2) := by
  have hl := h.lo
  unfold Lo at hl
  have h0 := h.at0
  have h1 := h.at1
  unfold g_make_Dice_Next
  refine Ok.cond (fun hb => ?_) fun hb => ?_
  · exact Ok.ret ⟨⟨Int.le_refl _, by show (0 : Int) < n; omega⟩, h⟩
  · have hb := of_decide_eq_false hb
    rw [W_id (x := d.At + 1) (by omega), W_id (by omega)]
    refine Ok.bind (getI_ok (by omega) (by omega)) fun e he => ?_
    refine Ok.bind (mod_ok e n hn hn2) fun y hy => ?_
    exact Ok.ret ⟨hy, ⟨h.lo, by show 0 ≤ d.At + 1; omega, by show d.At + 1 ≤ (d.L.length : Int); omega⟩⟩
theorem of_ok {d : cipherplanmake_Dice} (h : DOK d) (l : List Int) (hl : 1 ≤ l.length) (hl2 : l.length ≤ 1000) : Ok (g_make_Dice_Of d l) (fun y => y.1 ∈ l ∧ DOK y.2) := by
  unfold g_make_Dice_Of
  refine Ok.bind (next_ok h _ (by omega) (by omega)) fun y hy => ?_
  refine Ok.bind (getI_mem (by omega) (by omega)) fun e he => ?_
  exact Ok.ret ⟨he, hy.2⟩
theorem one_ok {d : cipherplanmake_Dice} (h : DOK d) (n : Int) (hn : 1 ≤ n) (hn2 : n ≤ 1000) : Ok (g_make_Dice_One d n) (fun y => DOK y.2) := by
  unfold g_make_Dice_One
  refine Ok.bind (next_ok h _ (by omega) (by omega)) fun y hy => ?_
  exact Ok.ret hy.2
def Sm (n : Int) : Prop := 0 ≤ n ∧ n ≤ 100000
theorem sm_of {l : List Int} (h : l.all (fun n => decide (0 ≤ n) && decide (n ≤ 100000)) = true) {n : Int} (hn : n ∈ l) : Sm n := by
  have := List.all_eq_true.1 h n hn
  simpa [Sm] using this
theorem size_ok {d : cipherplanmake_Dice} (h : DOK d) (a : Int) : Ok (g_make_size d a) (fun y => Sm y.1 ∧ DOK y.2) := by
  have O : ∀ l : List Int, 1 ≤ l.length → l.length ≤ 1000 → l.all (fun n => decide (0 ≤ n) && decide (n ≤ 100000)) = true → Ok ((g_make_Dice_Of d l).bind fun y => some (y.1, y.2)) (fun y => Sm y.1 ∧ DOK y.2) := fun l h1 h2 h3 =>
    Ok.bind (of_ok h l h1 h2) fun y hy => Ok.ret ⟨sm_of h3 hy.1, hy.2⟩
  have j3 : ∀ b, Ok (g_make_size.j3 d b) (fun y => Sm y.1 ∧ DOK y.2) := fun b => by
    unfold g_make_size.j3
    exact Ok.cond (fun _ => O _ (by decide) (by decide) (by decide)) fun _ => Ok.ret ⟨⟨Int.le_refl 0, by show (0 : Int) ≤ 100000; decide⟩, h⟩
  have j2 : ∀ b, Ok (g_make_size.j2 d a b) (fun y => Sm y.1 ∧ DOK y.2) := fun b => by
    unfold g_make_size.j2
    exact Ok.cond (fun _ => O _ (by decide) (by decide) (by decide)) fun _ => Ok.cond (fun _ => O _ (by decide) (by decide) (by decide)) fun _ => Ok.cond (fun _ => O _ (by decide) (by decide) (by decide)) fun _ => Ok.cond (fun _ => O _ (by decide) (by decide) (by decide)) fun _ => Ok.cond (fun _ => O _ (by decide) (by decide) (by decide)) fun _ => Ok.cond (fun _ => j3 _) fun _ => j3 _
  have j1 : ∀ b, Ok (g_make_size.j1 d a b) (fun y => Sm y.1 ∧ DOK y.2) := fun b => by
    unfold g_make_size.j1
    exact Ok.cond (fun _ => O _ (by decide) (by decide) (by decide)) fun _ => Ok.cond (fun _ => j2 _) fun _ => j2 _
  unfold g_make_size
  exact Ok.cond (fun _ => j1 _) fun _ => Ok.cond (fun _ => j1 _) fun _ => Ok.cond (fun _ => j1 _) fun _ => j1 _
def SmU (u : api_Use) : Prop := Sm u.Alg ∧ Sm u.Bits
def I64 (n : Int) : Prop := -9223372036854775808 ≤ n ∧ n ≤ 9223372036854775807
theorem Sm.i64 {n : Int} (h : Sm n) : I64 n := by unfold Sm at h; unfold I64; omega
def zeroC : api_Certificate := api_Certificate.mk 0 ⟨#[]⟩ ⟨#[]⟩ (api_Use.mk 0 0) 0 (api_Use.mk 0 0) 0 0 false 0 [] (api_Seal.mk 0 0)
def unsl (c : api_Certificate) : api_Certificate := api_Certificate.mk c.Serial c.Issuer c.Subject c.Key c.KeyId c.Hash c.From c.To c.Authority c.Path c.Names (api_Seal.mk 0 0)
def reseal (c : api_Certificate) (s : api_Seal) : api_Certificate := api_Certificate.mk c.Serial c.Issuer c.Subject c.Key c.KeyId c.Hash c.From c.To c.Authority c.Path c.Names s
theorem fit_mk {c : api_Certificate} (h1 : c.Names.length < 1000000000) (h2 : ∀ s ∈ c.Names, s.size ≤ 9223372036854775807) (h3 : c.Issuer.size ≤ 9223372036854775807) (h4 : c.Subject.size ≤ 9223372036854775807)
    (a1 : I64 c.Serial) (a2 : I64 c.Key.Alg) (a3 : I64 c.Key.Bits) (a4 : I64 c.KeyId) (a5 : I64 c.Hash.Alg) (a6 : I64 c.Hash.Bits) (a7 : I64 c.From) (a8 : I64 c.To) (a9 : I64 c.Path) (b1 : I64 c.Seal.Key) (b2 : I64 c.Seal.Sum) : FitC c := by
  refine ⟨h1, h2, h3, h4, ?_⟩
  intro n hn
  simp only [List.mem_cons, List.not_mem_nil, or_false] at hn
  rcases hn with rfl | rfl | rfl | rfl | rfl | rfl | rfl | rfl | rfl | rfl | rfl <;> assumption
structure IntsC (c : api_Certificate) : Prop where
  a1 : I64 c.Serial
  a2 : I64 c.Key.Alg
  a3 : I64 c.Key.Bits
  a4 : I64 c.KeyId
  a5 : I64 c.Hash.Alg
  a6 : I64 c.Hash.Bits
  a7 : I64 c.From
  a8 : I64 c.To
  a9 : I64 c.Path
  b1 : I64 c.Seal.Key
  b2 : I64 c.Seal.Sum
theorem FitC.is {c : api_Certificate} (h : FitC c) : IntsC c := by
  have := h.ints
  constructor <;> exact this _ (by simp)
theorem i64_0 : I64 0 := ⟨by decide, by decide⟩
theorem reseal_fit {c : api_Certificate} (h : FitC c) {s : api_Seal} (h1 : I64 s.Key) (h2 : I64 s.Sum) : FitC (reseal c s) := by
  have i := h.is
  exact fit_mk h.names h.name h.issuer h.subject i.a1 i.a2 i.a3 i.a4 i.a5 i.a6 i.a7 i.a8 i.a9 h1 h2
theorem copy_eq (c : api_Certificate) (h : FitC c) : g_ref03_Copy c = some c := by
  unfold g_ref03_Copy
  have := h.names
  rw [appI_ok (by simp; omega)]
  rfl
def signS (c : api_Certificate) (key : Int) : api_Certificate × Int := bif certS (unsl c) && (decide (0 ≤ key) && decide (key ≤ 2147483648)) then (reseal c ⟨key, sumS (bytesS (unsl c)).1⟩, 0) else (zeroC, 9)
theorem sumS_i64 (b : List UInt8) : I64 (sumS b) := W_range _
theorem ref_Sign (c : api_Certificate) (h : FitC c) (key : Int) : g_ref03_Sign c key = some (signS c key) := by
  have hu : FitC (unsl c) := reseal_fit h i64_0 i64_0
  unfold g_ref03_Sign
  rw [copy_eq c h, Option.bind_some]
  have e : g_ref03_Check (api_Certificate.mk c.Serial c.Issuer c.Subject c.Key c.KeyId c.Hash c.From c.To c.Authority c.Path c.Names (api_Seal.mk 0 0)) = some (bif certS (unsl c) then 0 else 9) := ref_Check (unsl c) hu
  rw [e, Option.bind_some]
  have j : ∀ b, g_ref03_Sign.j1 key c b = some (bif b then (zeroC, 9) else (reseal c ⟨key, sumS (bytesS (unsl c)).1⟩, 0)) := by
    intro b
    unfold g_ref03_Sign.j1
    cases b with
    | true => rfl
    | false =>
      rw [cond_false]
      have e2 : g_ref03_Bytes (api_Certificate.mk c.Serial c.Issuer c.Subject c.Key c.KeyId c.Hash c.From c.To c.Authority c.Path c.Names (api_Seal.mk 0 0)) = some (bytesS (unsl c)) := ref_Bytes (unsl c) hu
      rw [e2, Option.bind_some, ref_Sum _ (bytesS_lo _)]
      rfl
  simp only [j]
  unfold signS
  cases certS (unsl c) with
  | false => rfl
  | true =>
    by_cases a : key < 0
    · rw [decide_eq_true a, decide_eq_false (show ¬ 0 ≤ key by omega)]; rfl
    · rw [decide_eq_false a, decide_eq_true (show 0 ≤ key by omega)]
      by_cases b : key ≤ 2147483648
      · rw [decide_eq_true b, decide_eq_false (show ¬ 2147483648 < key by omega)]; rfl
      · rw [decide_eq_false b, decide_eq_true (show 2147483648 < key by omega)]; rfl
end Go.Proofs.YtbeageaekgccgaaGreat
