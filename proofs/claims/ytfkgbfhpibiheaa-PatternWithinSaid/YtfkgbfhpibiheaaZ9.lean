/- Chapter 11, plain: PatternPrefix and PatternRaw. -/
import Derived.Test.YtfkgbfhpibiheaaU1
set_option linter.unusedVariables false
set_option linter.unusedSimpArgs false
set_option maxRecDepth 100000
namespace Go.Proofs.Ytfkgbfhpibiheaa
open Go
theorem sameHits_self (a : List api_Hit) (h : a.length ≤ 100000) : g_law11_sameHits a a = some true := by
  unfold g_law11_sameHits
  rw [decide_eq_true rfl]
  show loop _ _ = _
  have := loop_hasN (body := fun q' => g_law11_sameHits.l1 a a q') a.length (fun _ => false) false true (by omega) (fun i hi => by
    show g_law11_sameHits.l1 a a _ = _
    unfold g_law11_sameHits.l1
    rw [decide_eq_true (by omega), cond_true, getI_nat, List.getElem?_eq_getElem hi]
    simp) (by
    show g_law11_sameHits.l1 a a _ = _
    unfold g_law11_sameHits.l1
    rw [for_out]
    rfl)
  rw [this]
  simp
theorem findS_len (p : List api_Pattern) (b : Bts) : (findS p b).1.length ≤ 1000 := by
  unfold findS
  cases h : decide (1000 < (RSn p b b.length).length) with
  | true => simp
  | false => have := of_decide_eq_false h; simp; omega
theorem Find_any {p : List api_Pattern} {b : Bts} (hl : Lo p) (hb : b.length ≤ 4096) : ∃ r, g_pattern_Find p b = some r ∧ g_ref11_Find p b = some r ∧ r.1.length ≤ 1000 := by
  by_cases hc : chk p = 0
  · exact ⟨_, Find_ok hl hc hb, ref_Find_ok hl hc hb, findS_len p b⟩
  · refine ⟨([], chk p), ?_, ?_, by simp⟩
    · unfold g_pattern_Find
      rw [early_ok hl, Option.bind_some]
      rw [show (!decide (chk p = 0)) = true by simp [hc]]
      simp [hc]
    · unfold g_ref11_Find
      rw [ref_Check p hl, Option.bind_some, show (!decide (chk p = 0)) = true by simp [hc], cond_true]
theorem First_any {p : List api_Pattern} {b : Bts} (hl : Lo p) (hb : b.length ≤ 4096) : ∃ r, g_pattern_First p b = some r ∧ g_ref11_First p b = some r ∧ r.1.length ≤ p.length := by
  by_cases hc : chk p = 0
  · obtain ⟨r, h1, h2, h3⟩ := First_both (b := b) hl hc hb
    exact ⟨_, h1, h2, Nat.le_of_eq h3.1⟩
  · refine ⟨([], chk p), ?_, ?_, by simp⟩
    · unfold g_pattern_First
      rw [early_ok hl, Option.bind_some]
      rw [show (!decide (chk p = 0)) = true by simp [hc]]
      simp [hc]
    · unfold g_ref11_First
      rw [ref_Check p hl, Option.bind_some, show (!decide (chk p = 0)) = true by simp [hc], cond_true]
theorem law_PatternRaw (p : List api_Pattern) (b : List UInt8) : g_law11_PatternRaw p b = some true := by
  have ha : g_law11_PatternRaw.j1 p b true = some true := by
    unfold g_law11_PatternRaw.j1
    rw [cond_true, awake11]
    rfl
  unfold g_law11_PatternRaw
  cases h1 : decide (40 < (p.length : Int)) with
  | true => exact ha
  | false =>
    rw [cond_false]
    cases h2 : decide (300 < (b.length : Int)) with
    | true => exact ha
    | false =>
      have h1 := of_decide_eq_false h1
      have h2 := of_decide_eq_false h2
      have hl : Lo p := by unfold Lo; omega
      obtain ⟨r, a1, a2, a3⟩ := Find_any (b := b) hl (by omega)
      obtain ⟨s, b1, b2, b3⟩ := First_any (b := b) hl (by omega)
      obtain ⟨t, c1, c2, c3⟩ := Prefix_both (b := b) (by omega)
      unfold g_law11_PatternRaw.j1
      rw [cond_false]
      simp only [a1, a2, b1, b2, c1, c2, Option.bind_some, patt_Check p hl, ref_Check p hl, decide_true, cond_true, sameHits_self r.1 (by omega), SameInts_self s.1 (by omega), SameInts_self t (by rw [c3.1]; omega), awake11]
theorem law_PatternPrefix (l : List Int) : g_law11_PatternPrefix l = some true := by
  refine Ok.true_ ?_
  unfold g_law11_PatternPrefix
  refine Ok.bindE (a := decide ((l.length : Int) ≤ 400)) rfl ?_
  refine Ok.cond (fun _ => Ok.bindE awake11 (Ok.ret rfl)) fun hlt => ?_
  have hlt : l.length ≤ 400 := by simp at hlt; omega
  refine Ok.bind (roll_ok hlt) fun d hd => ?_
  refine Ok.bind (text_ok hd 40 (by omega)) ?_
  rintro ⟨b, d'⟩ ⟨hb, -⟩
  simp only at hb
  obtain ⟨r, h1, -, h2⟩ := Prefix_both (b := b) (by omega)
  refine Ok.bindE h1 ?_
  have hrl := h2.1
  refine Ok.cond (fun h => by simp [hrl] at h) fun _ => ?_
  refine Ok.loop (fun x => ∃ n : Nat, x = (n : Int) ∧ 1 ≤ n ∧ n ≤ b.length + 1) (fun x => b.length + 1 - x.toNat) ?_ ⟨1, rfl, Nat.le_refl _, by omega⟩
  rintro x ⟨n, rfl, e1, e2⟩
  show Ok (g_law11_PatternPrefix.l2 (b, d') r (n : Int)) _
  unfold g_law11_PatternPrefix.l2
  refine Ok.cond (fun hn => ?_) fun hn => Ok.up (Ok.bindE awake11 (Ok.ret rfl))
  have hn : n ≤ b.length := by have := of_decide_eq_true hn; simp at this; omega
  obtain ⟨k, f1, f2⟩ := h2.2 n e1 hn
  have hkn := f2.1.1
  refine Ok.bindE (a := (k : Int)) (by
    rw [W_id (by omega), show (n : Int) - 1 = ((n - 1 : Nat) : Int) by omega, getI_nat]
    exact f1) ?_
  refine Ok.cond (fun h => by have := of_decide_eq_true h; omega) fun _ => ?_
  refine Ok.cond (fun h => by have := of_decide_eq_true h; omega) fun _ => ?_
  have sl1 : ∀ m : Nat, m ≤ n → slI b 0 (m : Int) = some (b.take m) := fun m hm => by
    unfold slI
    rw [if_pos (by omega)]
    simp
  have sl2 : ∀ m : Nat, m ≤ n → slI b (W ((n : Int) - (m : Int))) (n : Int) = some ((b.drop (n - m)).take m) := fun m hm => by
    rw [W_id (by omega), show (n : Int) - (m : Int) = ((n - m : Nat) : Int) by omega]
    unfold slI
    rw [if_pos (by omega), Int.toNat_natCast, Int.toNat_natCast, show n - (n - m) = m by omega]
  refine Ok.bindE (sl1 k (by omega)) ?_
  refine Ok.bindE (sl2 k (by omega)) ?_
  have hbd := ((Bd.at_ hn).1 f2.1).2
  rw [show (!decide (ofB (b.take k) = ofB ((b.drop (n - k)).take k))) = false by rw [hbd]; simp]
  unfold g_law11_PatternPrefix.j3
  rw [cond_false, W_succ (by omega)]
  refine Ok.loop (fun z => ∃ m : Nat, z = (m : Int) ∧ k + 1 ≤ m ∧ m ≤ n) (fun z => n - z.toNat) ?_ ⟨k + 1, rfl, Nat.le_refl _, hkn⟩
  rintro z ⟨m, rfl, g1, g2⟩
  show Ok (g_law11_PatternPrefix.l4 (b, d') (n : Int) (m : Int)) _
  unfold g_law11_PatternPrefix.l4
  refine Ok.cond (fun hm => ?_) fun hm => ?_
  · have hm := of_decide_eq_true hm
    refine Ok.bindE (sl1 m g2) ?_
    refine Ok.bindE (sl2 m g2) ?_
    refine Ok.cond (fun he => ?_) fun _ => Ok.ret ⟨⟨m + 1, W_succ (by omega), by omega, by omega⟩, ?_⟩
    · have he := ofB_inj.1 (of_decide_eq_true he)
      have := f2.2 m ((Bd.at_ hn).2 ⟨by omega, he.symm⟩)
      omega
    · show n - (W ((m : Int) + 1)).toNat < n - (m : Int).toNat
      rw [W_succ (by omega)]
      omega
  · refine Ok.up (Ok.ret ⟨⟨n + 1, W_succ (by omega), by omega, by omega⟩, ?_⟩)
    show b.length + 1 - (W ((n : Int) + 1)).toNat < b.length + 1 - (n : Int).toNat
    rw [W_succ (by omega)]
    omega
end Go.Proofs.Ytfkgbfhpibiheaa
