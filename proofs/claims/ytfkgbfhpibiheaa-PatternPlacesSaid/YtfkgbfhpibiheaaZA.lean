/- Chapter 11, plain: PatternPlaces. -/
import Derived.Test.YtfkgbfhpibiheaaZ9
set_option linter.unusedVariables false
set_option linter.unusedSimpArgs false
set_option maxRecDepth 100000
namespace Go.Proofs.Ytfkgbfhpibiheaa
open Go
theorem RSk_len {p : List api_Pattern} {b : Bts} {i k : Nat} : (RSk p b i k).length ≤ k := by
  unfold RSk
  rw [List.length_map]
  exact Nat.le_trans (List.length_filter_le _ _) (by simp)
theorem RSk_pre {p : List api_Pattern} {b : Bts} {i : Nat} : ∀ {j k : Nat}, j ≤ k → k ≤ p.length → RSk p b i j <+: RSk p b i k
  | j, 0, h, _ => by rw [show j = 0 by omega]; exact List.prefix_refl _
  | j, k + 1, h, hk => by
    rcases Nat.lt_or_ge j (k + 1) with h' | h'
    · rw [RSk_succ (List.getElem?_eq_getElem (show k < p.length by omega))]
      exact (RSk_pre (j := j) (k := k) (by omega) (by omega)).trans (List.prefix_append _ _)
    · rw [show j = k + 1 by omega]; exact List.prefix_refl _
theorem RSn_pre {p : List api_Pattern} {b : Bts} : ∀ {m n : Nat}, m ≤ n → RSn p b m <+: RSn p b n
  | m, 0, h => by rw [show m = 0 by omega]; exact List.prefix_refl _
  | m, n + 1, h => by
    rcases Nat.lt_or_ge m (n + 1) with h' | h'
    · rw [RSn_succ]
      exact (RSn_pre (m := m) (n := n) (by omega)).trans (List.prefix_append _ _)
    · rw [show m = n + 1 by omega]; exact List.prefix_refl _
theorem RSn_small {p : List api_Pattern} {b : Bts} : ∀ {n : Nat}, (RSn p b n).length ≤ n * p.length
  | 0 => by simp [RSn]
  | n + 1 => by
    rw [RSn_succ, List.length_append, Nat.add_mul, Nat.one_mul]
    exact Nat.add_le_add RSn_small RSk_len
theorem law_PatternPlaces (l : List Int) : g_law11_PatternPlaces l = some true := by
  refine Ok.true_ ?_
  unfold g_law11_PatternPlaces
  refine Ok.bindE (a := decide ((l.length : Int) ≤ 400)) rfl ?_
  refine Ok.cond (fun _ => Ok.bindE awake11 (Ok.ret rfl)) fun hlt => ?_
  have hlt : l.length ≤ 400 := by simp at hlt; omega
  refine Ok.bind (roll_ok hlt) fun d hd => ?_
  refine Ok.bind (pats_ok hd) ?_
  rintro ⟨p, d1⟩ ⟨p1, p2, p3, hd1⟩
  simp only at p1 p2 p3 hd1
  refine Ok.bind (text_ok hd1 60 (by omega)) ?_
  rintro ⟨b, d2⟩ ⟨hb, hd2⟩
  simp only at hb hd2
  have hl : Lo p := by unfold Lo; omega
  have hc : chk p = 0 := chk_zero (by omega) fun q hq => by obtain ⟨a, b, c⟩ := p3 q hq; exact ⟨a, by omega, c⟩
  have hF : findS p b = (RSn p b b.length, 0) := by
    unfold findS
    have h1 : (RSn p b b.length).length ≤ 60 * 5 := Nat.le_trans RSn_small (Nat.mul_le_mul hb p2)
    rw [decide_eq_false (by omega), cond_false]
  obtain ⟨r, r1, -, r2⟩ := First_both (b := b) hl hc (by omega)
  refine Ok.bindE (Find_ok (b := b) hl hc (by omega)) ?_
  refine Ok.bindE r1 ?_
  rw [hF]
  have hrl := r2.1
  refine Ok.cond (fun h => by simp at h) fun _ => ?_
  refine Ok.cond (fun h => by simp at h) fun _ => ?_
  rw [show (!decide ((r.length : Int) = (p.length : Int))) = false by rw [hrl]; simp]
  unfold g_law11_PatternPlaces.j3
  rw [cond_false]
  have hbig : (RSn p b b.length).length ≤ 300 := Nat.le_trans RSn_small (Nat.mul_le_mul hb p2)
  have hnle : ∀ i, i ≤ b.length → (RSn p b i).length ≤ 300 := fun i hi => Nat.le_trans (RSn_len hi) hbig
  have fst : ∀ (k : Nat) q, p[k]? = some q → ∃ x, r[k]? = some x ∧ Fst q.Bytes b x := r2.2
  refine Ok.loop (fun t => ∃ i : Nat, t.2 = (i : Int) ∧ i ≤ b.length ∧ t.1 = ((RSn p b i).length : Int)) (fun t => b.length - t.2.toNat) ?_ ⟨0, rfl, Nat.zero_le _, by simp [RSn]⟩
  rintro ⟨x, y⟩ ⟨i, c1, c2, c3⟩
  simp only at c1 c3 ⊢
  subst c1 c3
  unfold g_law11_PatternPlaces.l4
  refine Ok.cond (fun hi => ?_) fun hi => ?_
  · have hi : i < b.length := by have := of_decide_eq_true hi; simp at this; omega
    refine Ok.loop (fun t => ∃ k : Nat, t.2 = (k : Int) ∧ k ≤ p.length ∧ t.1 = ((RSn p b i ++ RSk p b i k).length : Int)) (fun t => p.length - t.2.toNat) ?_ ⟨0, rfl, Nat.zero_le _, by simp [RSk]⟩
    rintro ⟨z, w⟩ ⟨k, e1, e2, e3⟩
    simp only at e1 e3 ⊢
    subst e1 e3
    unfold g_law11_PatternPlaces.l5
    refine Ok.cond (fun hk => ?_) fun hk => ?_
    · have hk : k < p.length := by have := of_decide_eq_true hk; simp at this; omega
      have hq : p[k]? = some p[k] := List.getElem?_eq_getElem hk
      generalize p[k] = q at hq
      obtain ⟨q1, q2, -⟩ := p3 q (List.mem_of_getElem? hq)
      refine Ok.bindE (by rw [getI_nat]; exact hq) ?_
      have hkl := RSk_len (p := p) (b := b) (i := i) (k := k)
      have hil := hnle i c2
      have hm : p.length - (W ((k : Int) + 1)).toNat < p.length - (k : Int).toNat := by
        rw [W_succ (by omega)]
        omega
      have no : At q.Bytes b i = false → Ok (g_law11_PatternPlaces.j6 (RSn p b b.length, 0) (r, 0) (i : Int) ((RSn p b i ++ RSk p b i k).length : Int) (k : Int) true) (Rd' (fun t => (∃ k : Nat, t.2 = (k : Int) ∧ k ≤ p.length ∧ t.1 = ((RSn p b i ++ RSk p b i k).length : Int)) ∧ p.length - t.2.toNat < p.length - (k : Int).toNat) (Rd' (fun t => (∃ i : Nat, t.2 = (i : Int) ∧ i ≤ b.length ∧ t.1 = ((RSn p b i).length : Int)) ∧ b.length - t.2.toNat < b.length - (i : Int).toNat) fun r => r = true)) := fun hat => by
        unfold g_law11_PatternPlaces.j6 g_law11_PatternPlaces.j8
        rw [cond_true]
        refine Ok.ret ⟨⟨k + 1, W_succ (by omega), hk, ?_⟩, hm⟩
        rw [RSk_succ hq, hat, cond_false, List.append_nil]
      have yes : At q.Bytes b i = true → Ok (g_law11_PatternPlaces.j6 (RSn p b b.length, 0) (r, 0) (i : Int) ((RSn p b i ++ RSk p b i k).length : Int) (k : Int) false) (Rd' (fun t => (∃ k : Nat, t.2 = (k : Int) ∧ k ≤ p.length ∧ t.1 = ((RSn p b i ++ RSk p b i k).length : Int)) ∧ p.length - t.2.toNat < p.length - (k : Int).toNat) (Rd' (fun t => (∃ i : Nat, t.2 = (i : Int) ∧ i ≤ b.length ∧ t.1 = ((RSn p b i).length : Int)) ∧ b.length - t.2.toNat < b.length - (i : Int).toNat) fun r => r = true)) := fun hat => by
        have hsucc := RSk_succ (p := p) (b := b) (i := i) hq
        rw [hat, cond_true] at hsucc
        have hpre : (RSn p b i ++ RSk p b i k) ++ [(⟨(k : Int), (i : Int)⟩ : api_Hit)] <+: RSn p b b.length := by
          rw [List.append_assoc, ← hsucc]
          refine List.IsPrefix.trans ?_ (RSn_pre (m := i + 1) (n := b.length) hi)
          rw [RSn_succ]
          exact (List.prefix_append_right_inj _).2 (RSk_pre hk (Nat.le_refl _))
        obtain ⟨tl, htl⟩ := hpre
        have hget : (RSn p b b.length)[(RSn p b i ++ RSk p b i k).length]? = some (⟨(k : Int), (i : Int)⟩ : api_Hit) := by
          rw [← htl, List.append_assoc, List.getElem?_append_right (Nat.le_refl _), Nat.sub_self]
          rfl
        have hlt2 := (List.getElem?_eq_some_iff.1 hget).1
        unfold g_law11_PatternPlaces.j6
        rw [cond_false]
        refine Ok.cond (fun h => by have := of_decide_eq_true h; simp only at this; omega) fun _ => ?_
        refine Ok.bindE (by rw [getI_nat]; exact hget) ?_
        rw [show (!decide ((⟨(k : Int), (i : Int)⟩ : api_Hit) = (api_Hit.mk (k : Int) (i : Int)))) = false by simp, cond_false]
        obtain ⟨x, x1, x2⟩ := fst k q hq
        refine Ok.bindE (by rw [getI_nat]; exact x1) ?_
        rcases x2 with ⟨rfl, hno⟩ | ⟨j, rfl, hj, hmin⟩
        · rw [hno i] at hat; cases hat
        · have hji : j ≤ i := Nat.le_of_not_lt fun h => by rw [hmin i h] at hat; cases hat
          refine Ok.cond (fun h => by have := of_decide_eq_true h; omega) fun _ => ?_
          unfold g_law11_PatternPlaces.j7
          rw [show decide (((j : Nat) : Int) < 0) = false from decide_eq_false (by omega), cond_false]
          unfold g_law11_PatternPlaces.j8
          refine Ok.ret ⟨⟨k + 1, W_succ (by omega), hk, ?_⟩, hm⟩
          show W (((RSn p b i ++ RSk p b i k).length : Int) + 1) = _
          rw [W_succ (by rw [List.length_append]; omega), hsucc]
          simp
          omega
      rw [W_id (show -9223372036854775808 ≤ (i : Int) + (q.Bytes.length : Int) ∧ (i : Int) + (q.Bytes.length : Int) ≤ 9223372036854775807 by omega)]
      refine Ok.cond (fun h => ?_) fun h => ?_
      · have h := of_decide_eq_true h
        refine no ?_
        cases hat : At q.Bytes b i with
        | false => rfl
        | true => have := At_le hat; simp only at h; omega
      · have h := of_decide_eq_false h
        simp only at h
        refine Ok.bindE (a := (b.drop i).take q.Bytes.length) (by
          unfold slI
          rw [if_pos (by simp only; omega)]
          rw [show ((i : Int) + (q.Bytes.length : Int)).toNat - (i : Int).toNat = q.Bytes.length by omega, Int.toNat_natCast]) ?_
        by_cases he : (b.drop i).take q.Bytes.length = q.Bytes
        · rw [show (!decide (ofB ((b.drop i).take q.Bytes.length) = ofB q.Bytes)) = false by rw [he]; simp]
          exact yes (by unfold At; exact decide_eq_true ⟨by omega, he⟩)
        · rw [show (!decide (ofB ((b.drop i).take q.Bytes.length) = ofB q.Bytes)) = true by simp [ofB_inj, he]]
          exact no (by unfold At; exact decide_eq_false fun h => he h.2)
    · have hk : k = p.length := by have := of_decide_eq_false hk; simp at this; omega
      subst hk
      refine Ok.up (Ok.ret ⟨⟨i + 1, W_succ (by omega), hi, by rw [RSn_succ]⟩, ?_⟩)
      show b.length - (W ((i : Int) + 1)).toNat < _
      rw [W_succ (by omega)]
      omega
  · have hi : i = b.length := by have := of_decide_eq_false hi; simp at this; omega
    subst hi
    refine Ok.up ?_
    refine Ok.loop (fun x => ∃ k : Nat, x = (k : Int) ∧ k ≤ r.length) (fun x => r.length - x.toNat) ?_ ⟨0, rfl, Nat.zero_le _⟩
    rintro x ⟨k, rfl, e1⟩
    show Ok (g_law11_PatternPlaces.l9 (p, d1) (b, d2) (RSn p b b.length, 0) (r, 0) ((RSn p b b.length).length : Int) (k : Int)) _
    unfold g_law11_PatternPlaces.l9
    refine Ok.cond (fun hk => ?_) fun hk => ?_
    · have hk : k < r.length := by have := of_decide_eq_true hk; simp at this; omega
      have hq : p[k]? = some (p[k]'(by omega)) := List.getElem?_eq_getElem _
      generalize (p[k]'(by omega)) = q at hq
      obtain ⟨q1, q2, -⟩ := p3 q (List.mem_of_getElem? hq)
      obtain ⟨x, x1, x2⟩ := fst k q hq
      refine Ok.bindE (by rw [getI_nat]; exact x1) ?_
      have ok : Ok (g_law11_PatternPlaces.j10 (k : Int) false) (Rd' (fun x => (∃ k : Nat, x = (k : Int) ∧ k ≤ r.length) ∧ r.length - x.toNat < r.length - (k : Int).toNat) fun r => r = true) := by
        unfold g_law11_PatternPlaces.j10
        rw [cond_false]
        refine Ok.ret ⟨⟨k + 1, W_succ (by omega), hk⟩, ?_⟩
        show r.length - (W ((k : Int) + 1)).toNat < _
        rw [W_succ (by omega)]
        omega
      refine Ok.cond (fun hx => ?_) fun _ => ok
      have hx := of_decide_eq_true hx
      rcases x2 with ⟨rfl, -⟩ | ⟨j, rfl, hj, -⟩
      · omega
      · refine Ok.bindE (by rw [getI_nat]; exact hq) ?_
        have hle := At_le hj
        unfold At at hj
        have hj := (of_decide_eq_true hj).2
        rw [W_id (show -9223372036854775808 ≤ (j : Int) + (q.Bytes.length : Int) ∧ (j : Int) + (q.Bytes.length : Int) ≤ 9223372036854775807 by omega)]
        refine Ok.cond (fun h => by have := of_decide_eq_true h; simp only at this; omega) fun _ => ?_
        refine Ok.bindE (a := (b.drop j).take q.Bytes.length) (by
          unfold slI
          rw [if_pos (by simp only; omega)]
          rw [show ((j : Int) + (q.Bytes.length : Int)).toNat - (j : Int).toNat = q.Bytes.length by omega, Int.toNat_natCast]) ?_
        rw [show (!decide (ofB ((b.drop j).take q.Bytes.length) = ofB q.Bytes)) = false by rw [hj]; simp]
        exact ok
    · refine Ok.up ?_
      rw [show decide (((RSn p b b.length).length : Int) = (((RSn p b b.length, (0 : Int)).1).length : Int)) = true by simp, cond_true]
      exact Ok.bindE awake11 (Ok.ret rfl)
end Go.Proofs.Ytfkgbfhpibiheaa
