/- Chains: the law of any certificates. No program is in sight here. -/
import Derived.Test.YtadjcdhcdmiifaaK6
import Derived.Test.YtadjcdhcdmiifaaT1
import Derived.Test.YtadjcdhcdmiifaaC1
import Derived.KernelRfl
set_option linter.unusedVariables false
set_option linter.unusedSimpArgs false
namespace Go.Proofs.Ytadjcdhcdmiifaa
open Go

theorem awake_law04 : g_law04_awake = some true := c_law04_awake_le (fu := 1000) _ (by kernel_rfl)
theorem okCs_append : ∀ {a b : List C}, okCs (a ++ b) → okCs a ∧ okCs b
  | [], b, h => ⟨by unfold okCs; trivial, h⟩
  | .int _ _ :: a, b, h => by
    rw [List.cons_append, okCs] at h
    have t := okCs_append (a := a) (b := b) h.2
    rw [okCs]
    exact ⟨⟨h.1, t.1⟩, t.2⟩
  | .bool _ :: a, b, h => by
    rw [List.cons_append, okCs] at h
    have t := okCs_append (a := a) (b := b) h
    rw [okCs]
    exact t
  | .str _ :: a, b, h => by
    rw [List.cons_append, okCs] at h
    have t := okCs_append (a := a) (b := b) h.2
    rw [okCs]
    exact ⟨⟨h.1, t.1⟩, t.2⟩
  | .raw _ :: a, b, h => by
    rw [List.cons_append, okCs] at h
    have t := okCs_append (a := a) (b := b) h
    rw [okCs]
    exact t
  | .sl _ _ :: a, b, h => by
    rw [List.cons_append, okCs] at h
    have t := okCs_append (a := a) (b := b) h.2.2
    rw [okCs]
    exact ⟨⟨h.1, h.2.1, t.1⟩, t.2⟩
theorem okCs_encL {α : Type} {f : α → List C} {l : List α} (h : okCs (encL f l)) : ∀ x ∈ l, okCs (f x) := by
  induction l with
  | nil => intro x hx; cases hx
  | cons y l ih =>
    have e : encL f (y :: l) = f y ++ encL f l := by simp [encL]
    rw [e] at h
    have := okCs_append h
    intro x hx
    rcases List.mem_cons.1 hx with rfl | hx
    · exact this.1
    · exact ih this.2 x hx
theorem fitC_of {c : api_Certificate} (h : okCs (api_Certificate.enc c)) (hn : c.Names.length < 1000000000) : FitC c := by
  simp only [api_Certificate.enc, okCs] at h
  have hk : IntKind.i64.min = -9223372036854775808 := rfl
  have hk' : IntKind.i64.max = 9223372036854775807 := rfl
  have hm : maxLen = 9223372036854775807 := rfl
  rw [hk, hk', hm] at h
  refine ⟨hn, fun s hs => ?_, by omega, by omega, ?_⟩
  · have h1 : okCs (encL eS c.Names) := by
      have := h.2.2.2.2.2.2.2.2.2.2.2.2.2.1
      exact h.2.2.2.2.2.2.2.2.2.2.2.2.1
    have := okCs_encL h1 s hs
    simp only [eS, okCs] at this
    rw [hm] at this
    exact this.1
  · intro n hn
    simp only [List.mem_cons, List.not_mem_nil, or_false] at hn
    rcases hn with rfl | rfl | rfl | rfl | rfl | rfl | rfl | rfl | rfl | rfl | rfl <;> omega
theorem law_ChainRaw (x0 : (List api_Certificate)) (x1 : (List Int)) (x2 : Int) (hok : okDs [.sl 15 (encL api_Certificate.enc x0), .sl 1 (encL eI x1), .val (.int .i64 x2)]) : g_law04_ChainRaw x0 x1 x2 = some true := by
  have hj : ∀ b, g_law04_ChainRaw.j1 x0 x1 x2 b = some true ∨ (b = false ∧ x0.length ≤ 12 ∧ x1.length ≤ 20 → False) → True := fun _ _ => trivial
  have h1 : g_law04_ChainRaw.j1 x0 x1 x2 true = some true := by unfold g_law04_ChainRaw.j1; rw [awake_law04]; rfl
  unfold g_law04_ChainRaw
  by_cases a : 12 < (x0.length : Int)
  · rw [decide_eq_true a]; exact h1
  rw [decide_eq_false a, cond_false]
  by_cases b : 20 < (x1.length : Int)
  · rw [decide_eq_true b]; exact h1
  rw [decide_eq_false b]
  unfold g_law04_ChainRaw.j1
  rw [cond_false]
  simp only [okDs, okD] at hok
  have ok0 := okCs_encL hok.1.2
  have hj3 : ∀ i, g_law04_ChainRaw.j3 i true = some (.done true) := fun i => by unfold g_law04_ChainRaw.j3; rw [awake_law04]; rfl
  have hj4 : ∀ i, g_law04_ChainRaw.j3 i false = some (.next (W (i + 1))) := fun i => rfl
  obtain ⟨r, hr, e⟩ := loop_inv (body := fun q' => g_law04_ChainRaw.l2 x0 x1 x2 q') (fun s => ∃ i : Nat, s = (i : Int) ∧ i ≤ x0.length ∧ ∀ c ∈ x0.take i, FitC c) (fun s => x0.length - s.toNat) (fun r => r = true) (fun s hs => by
    obtain ⟨i, rfl, hi, hf⟩ := hs
    show ∃ o, g_law04_ChainRaw.l2 x0 x1 x2 (i : Int) = some o ∧ _
    unfold g_law04_ChainRaw.l2
    by_cases hl : i < x0.length
    · obtain ⟨c, hc⟩ : ∃ c, x0[i]? = some c := ⟨_, List.getElem?_eq_getElem hl⟩
      rw [for_in hc]
      by_cases h2 : 20 < (c.Names.length : Int)
      · rw [decide_eq_true h2, cond_true, hj3]; exact ⟨_, rfl, rfl⟩
      · rw [decide_eq_false h2, cond_false]
        cases decide (200 < W (↑c.Issuer.size + ↑c.Subject.size))
        · rw [hj4, W_succ (by omega)]
          refine ⟨_, rfl, ⟨i + 1, rfl, by omega, ?_⟩, by show x0.length - ((i + 1 : Nat) : Int).toNat < x0.length - (i : Int).toNat; omega⟩
          rw [take_succ' hc]
          intro d hd
          rcases List.mem_append.1 hd with hd | hd
          · exact hf d hd
          · rw [List.mem_singleton.1 hd]
            exact fitC_of (ok0 c (at_mem hc)) (by omega)
        · rw [hj3]; exact ⟨_, rfl, rfl⟩
    · have hi' : i = x0.length := by omega
      subst hi'
      rw [List.take_length] at hf
      have lh : Lo ([1, 2, 3, 4] : List Int) := by unfold Lo; decide
      have la : Lo x1 := by unfold Lo; omega
      have lc : Lo x0 := by unfold Lo; omega
      rw [for_out]
      unfold g_law04_hashes
      simp only [Option.bind_some]
      rw [chain_Check x0 x1 _ x2 _ la lh hf, ref04_Check x0 x1 _ x2 _ la lh hf, chain_Until x0 lc, ref04_Until x0 lc, awake_law04]
      simp only [Option.bind_some, decide_true, cond_true]
      exact ⟨_, rfl, rfl⟩) (0 : Int) ⟨0, rfl, Nat.zero_le _, by simp⟩
  exact hr.trans (by rw [e])
end Go.Proofs.Ytadjcdhcdmiifaa
