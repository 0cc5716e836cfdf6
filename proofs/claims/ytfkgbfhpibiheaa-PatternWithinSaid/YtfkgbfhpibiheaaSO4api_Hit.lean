/- The library's sort by a comparison: the reversal, the pattern breaker, the pivot, the whole. No program is in sight here. -/
import Derived.Test.YtfkgbfhpibiheaaSO3api_Hit
set_option linter.unusedVariables false
set_option linter.unusedSimpArgs false
namespace Go.Proofs.Ytfkgbfhpibiheaa
open Go Go.Sort
section
variable {cmp : api_Hit → api_Hit → Option Int} {lt : api_Hit → api_Hit → Bool} {P : api_Hit → Prop}
theorem AllA_api_Hit.perm {d d' : Array api_Hit} {a b : Nat} (h : AllA_api_Hit P d) (hb : b ≤ d.size) (hp : PermIn a b d d') : AllA_api_Hit P d' := by
  refine ⟨by rw [hp.1]; exact h.1, fun i hi => ?_⟩
  rw [hp.1] at hi
  by_cases hr : a ≤ i ∧ i < b
  · exact permIn_all d d' a b P hb hp (fun k _ hk => h.2 k (by omega)) i hr.1 hr.2
  · rw [hp.2.1 i (by omega)]
    exact h.2 i hi
theorem rev_api_Hit : ∀ (n i j : Nat) (d : Array api_Hit), j - i ≤ n → j < d.size → d.size ≤ 1000000000 →
    loop (fun q' => g_slices_reverseRangeCmpFunc_api_Hit.l1 q'.1 q'.2.1 q'.2.2) ((i : Int), (j : Int), d.toList) = some (reverseLoop i j d).toList := by
  intro n
  induction n with
  | zero =>
    intro i j d hn hj hs
    rw [reverseLoop, if_neg (by omega)]
    refine loop_up ?_
    show g_slices_reverseRangeCmpFunc_api_Hit.l1 (i : Int) (j : Int) d.toList = _
    unfold g_slices_reverseRangeCmpFunc_api_Hit.l1
    rw [decide_eq_false (by omega), cond_false]
  | succ n ih =>
    intro i j d hn hj hs
    rw [reverseLoop]
    by_cases h : i < j
    · rw [if_pos h]
      have hb : g_slices_reverseRangeCmpFunc_api_Hit.l1 (i : Int) (j : Int) d.toList = some (.next (((i + 1 : Nat) : Int), ((j - 1 : Nat) : Int), (Sort.swp d i j).toList)) := by
        unfold g_slices_reverseRangeCmpFunc_api_Hit.l1
        rw [decide_eq_true (by omega), cond_true, Wp (by omega), Wm (by omega) (by omega)]
        exact swb_api_Hit (i := i) (j := j) (by omega) (by omega) rfl rfl (fun l => some (Lp.next (((i + 1 : Nat) : Int), ((j - 1 : Nat) : Int), l)))
      exact (loop_next hb).trans (ih (i + 1) (j - 1) _ (by omega) (by rw [swp_size_api_Hit]; omega) (by rw [swp_size_api_Hit]; exact hs))
    · rw [if_neg h]
      refine loop_up ?_
      show g_slices_reverseRangeCmpFunc_api_Hit.l1 (i : Int) (j : Int) d.toList = _
      unfold g_slices_reverseRangeCmpFunc_api_Hit.l1
      rw [decide_eq_false (by omega), cond_false]
theorem reverse_api_Hit {a b : Nat} {d : Array api_Hit} (hab : a < b) (hb : b ≤ d.size) (hs : d.size ≤ 1000000000) : g_slices_reverseRangeCmpFunc_api_Hit d.toList (a : Int) (b : Int) cmp = some (reverseRange d a b).toList := by
  unfold g_slices_reverseRangeCmpFunc_api_Hit reverseRange
  rw [Wm (by omega) (by omega)]
  exact rev_api_Hit _ a (b - 1) d (Nat.le_refl _) (by omega) hs
theorem brk_j2_api_Hit {a idx o : Nat} {d : Array api_Hit} {z : Int × Int} (hi : idx < d.size) (ho : a + o < d.size) (hs : d.size ≤ 1000000000) :
    g_slices_breakPatternsCmpFunc_api_Hit.j2 (a : Int) (idx : Int) d.toList z (o : Int) = some (.next (((idx + 1 : Nat) : Int), (Sort.swp d idx (a + o)).toList, z.2)) := by
  unfold g_slices_breakPatternsCmpFunc_api_Hit.j2
  have e : W ((a : Int) + (o : Int)) = ((a + o : Nat) : Int) := by rw [W_id (by omega)]; omega
  rw [e, Wp (by omega)]
  exact swb_api_Hit (i := idx) (j := a + o) hi ho rfl rfl (fun l => some (Lp.next (((idx + 1 : Nat) : Int), l, z.2)))
theorem brk_lp_api_Hit {a b y : Nat} (hab : a < b) (h8 : 8 ≤ b - a) (hy1 : b - a < y) (hy2 : y ≤ 2 * (b - a)) : ∀ (k idx : Nat) (d : Array api_Hit) (r : Int), idx + k = a + (b - a) / 4 * 2 + 2 → a ≤ idx → b ≤ d.size → d.size < 65536 →
    ∃ d', loop (fun q' => g_slices_breakPatternsCmpFunc_api_Hit.l1 (a : Int) (b : Int) (y : Int) q'.1 q'.2.1 q'.2.2) ((idx : Int), d.toList, r) = some d'.toList ∧ PermIn a b d d' := by
  intro k
  induction k with
  | zero =>
    intro idx d r hk hi hb hs
    refine ⟨d, loop_up ?_, permIn_refl d a b⟩
    show g_slices_breakPatternsCmpFunc_api_Hit.l1 (a : Int) (b : Int) (y : Int) (idx : Int) d.toList r = _
    unfold g_slices_breakPatternsCmpFunc_api_Hit.l1
    rw [Wd (by omega) (by omega), quo4 (by omega), Option.bind_some, Wq2 (by omega) (by omega), Wp (by omega), decide_eq_false (by omega), cond_false]
  | succ k ih =>
    intro idx d r hk hi hb hs
    obtain ⟨z, hz⟩ := rnd_ok r
    obtain ⟨m, m1, m2⟩ := and_ok z.1 (y - 1) (by omega)
    have e3 : ((y : Int) - 1) = ((y - 1 : Nat) : Int) := by omega
    have hbody : ∃ o : Nat, o < b - a ∧ g_slices_breakPatternsCmpFunc_api_Hit.l1 (a : Int) (b : Int) (y : Int) (idx : Int) d.toList r = some (.next (((idx + 1 : Nat) : Int), (Sort.swp d idx (a + o)).toList, z.2)) := by
      unfold g_slices_breakPatternsCmpFunc_api_Hit.l1
      rw [Wd (m := b) (n := a) (by omega) (by omega), quo4 (by omega), Option.bind_some, Wq2 (by omega) (by omega), Wp (by omega), decide_eq_true (by omega), cond_true, hz, Option.bind_some, e3, m2]
      clear m2
      by_cases h : b - a ≤ m
      · refine ⟨m - (b - a), by omega, ?_⟩
        rw [decide_eq_true (by omega), cond_true, Wd (by omega) h]
        exact brk_j2_api_Hit (by omega) (by omega) (by omega)
      · refine ⟨m, by omega, ?_⟩
        rw [decide_eq_false (by omega), cond_false]
        exact brk_j2_api_Hit (by omega) (by omega) (by omega)
    obtain ⟨o, ho, hbd⟩ := hbody
    obtain ⟨d', h1, h2⟩ := ih (idx + 1) (Sort.swp d idx (a + o)) z.2 (by omega) (by omega) (by rw [swp_size_api_Hit]; exact hb) (by rw [swp_size_api_Hit]; exact hs)
    exact ⟨d', (loop_next hbd).trans h1, permIn_trans _ _ _ a b (swp_permIn d a b idx (a + o) (by omega) (by omega) (by omega) (by omega) hb) h2⟩
theorem break_api_Hit {a b : Nat} {d : Array api_Hit} (hab : a < b) (hb : b ≤ d.size) (hs : d.size < 65536) : ∃ d', g_slices_breakPatternsCmpFunc_api_Hit d.toList (a : Int) (b : Int) cmp = some d'.toList ∧ PermIn a b d d' := by
  unfold g_slices_breakPatternsCmpFunc_api_Hit
  rw [Wd (by omega) (by omega)]
  by_cases h8 : 8 ≤ b - a
  · obtain ⟨y, y1, y2, y3⟩ := pow2_ok (b - a) (by omega) (by omega)
    rw [decide_eq_true (by omega), cond_true, y3, Option.bind_some, quo4 (by omega), Option.bind_some, Wq2 (by omega) (by omega), Wm (by omega) (by omega)]
    exact brk_lp_api_Hit hab h8 y1 y2 3 (a + (b - a) / 4 * 2 - 1) d _ (by omega) (by omega) hb hs
  · rw [decide_eq_false (by omega), cond_false]
    exact ⟨d, rfl, permIn_refl d a b⟩
theorem ord2_api_Hit (hc : CmpOk_api_Hit cmp lt P) {d : Array api_Hit} (hd : AllA_api_Hit P d) {x y : Nat} (hx : x < d.size) (hy : y < d.size) (s : Int) :
    ∃ (x' y' : Nat) (s' : Int), g_slices_order2CmpFunc_api_Hit d.toList (x : Int) (y : Int) s cmp = some ((x' : Int), (y' : Int), s') ∧ (x' = x ∧ y' = y ∨ x' = y ∧ y' = x) := by
  obtain ⟨m, m1, m2⟩ := cm_api_Hit hc hd (i := y) (j := x) hy hx
  unfold g_slices_order2CmpFunc_api_Hit
  rw [gi_api_Hit (i := y) hy rfl, Option.bind_some, gi_api_Hit (i := x) hx rfl, Option.bind_some, m1, Option.bind_some]
  cases decide (m < 0) with
  | true => exact ⟨y, x, _, rfl, Or.inr ⟨rfl, rfl⟩⟩
  | false => exact ⟨x, y, _, rfl, Or.inl ⟨rfl, rfl⟩⟩
theorem med_api_Hit (hc : CmpOk_api_Hit cmp lt P) {d : Array api_Hit} (hd : AllA_api_Hit P d) {x y z : Nat} (hx : x < d.size) (hy : y < d.size) (hz : z < d.size) (s : Int) :
    ∃ (x' : Nat) (s' : Int), g_slices_medianCmpFunc_api_Hit d.toList (x : Int) (y : Int) (z : Int) s cmp = some ((x' : Int), s') ∧ (x' = x ∨ x' = y ∨ x' = z) := by
  obtain ⟨p1, p2, s1, h1, k1⟩ := ord2_api_Hit hc hd hx hy s
  unfold g_slices_medianCmpFunc_api_Hit
  rw [h1, Option.bind_some]
  obtain ⟨q1, q2, s2, h2, k2⟩ := ord2_api_Hit hc hd (x := p2) (y := z) (by omega) hz s1
  simp only []
  rw [h2, Option.bind_some]
  obtain ⟨r1, r2, s3, h3, k3⟩ := ord2_api_Hit hc hd (x := p1) (y := q1) (by omega) (by omega) s2
  simp only []
  rw [h3, Option.bind_some]
  exact ⟨r2, s3, rfl, by omega⟩
theorem meda_api_Hit (hc : CmpOk_api_Hit cmp lt P) {d : Array api_Hit} (hd : AllA_api_Hit P d) {x : Nat} (h0 : 0 < x) (hx : x + 1 < d.size) (s : Int) :
    ∃ (x' : Nat) (s' : Int), g_slices_medianAdjacentCmpFunc_api_Hit d.toList (x : Int) s cmp = some ((x' : Int), s') ∧ (x' = x - 1 ∨ x' = x ∨ x' = x + 1) := by
  have hsz := hd.1
  obtain ⟨p, s1, h1, k1⟩ := med_api_Hit hc hd (x := x - 1) (y := x) (z := x + 1) (by omega) (by omega) hx s
  unfold g_slices_medianAdjacentCmpFunc_api_Hit
  rw [Wm (by omega) h0, Wp (by omega), h1, Option.bind_some]
  exact ⟨p, s1, rfl, k1⟩
theorem hint_api_Hit (p : Nat) (s : Int) : ∃ h : Int, g_slices_choosePivotCmpFunc_api_Hit.j2 (p : Int) s = some ((p : Int), h) := by
  unfold g_slices_choosePivotCmpFunc_api_Hit.j2
  cases decide (s = 0) with
  | true => exact ⟨_, rfl⟩
  | false =>
    cases decide (s = 12) with
    | true => exact ⟨_, rfl⟩
    | false => exact ⟨_, rfl⟩
theorem choose_api_Hit (hc : CmpOk_api_Hit cmp lt P) {d : Array api_Hit} (hd : AllA_api_Hit P d) {a b : Nat} (h8 : 8 ≤ b - a) (hb : b ≤ d.size) :
    ∃ (p : Nat) (h : Int), g_slices_choosePivotCmpFunc_api_Hit d.toList (a : Int) (b : Int) cmp = some ((p : Int), h) ∧ a ≤ p ∧ p < b := by
  have hsz := hd.1
  have j1 : ∀ (i j k : Nat) (s : Int), a ≤ i → i < b → a ≤ j → j < b → a ≤ k → k < b → ∃ (p : Nat) (h : Int), g_slices_choosePivotCmpFunc_api_Hit.j1 d.toList cmp (i : Int) (j : Int) (k : Int) s = some ((p : Int), h) ∧ a ≤ p ∧ p < b := fun i j k s h1 h2 h3 h4 h5 h6 => by
    obtain ⟨p, s1, k1, k2⟩ := med_api_Hit hc hd (x := i) (y := j) (z := k) (by omega) (by omega) (by omega) s
    unfold g_slices_choosePivotCmpFunc_api_Hit.j1
    rw [k1, Option.bind_some]
    obtain ⟨h, hh⟩ := hint_api_Hit p s1
    exact ⟨p, h, hh, by omega, by omega⟩
  unfold g_slices_choosePivotCmpFunc_api_Hit
  rw [Wd (by omega) (by omega), quo4 (by omega), Option.bind_some, Option.bind_some, Option.bind_some, decide_eq_true (by omega), cond_true]
  generalize hq : (b - a) / 4 = q
  rw [Wq1 (by omega) (by omega), Wq2 (by omega) (by omega), Wq3 (by omega) (by omega)]
  by_cases h50 : 50 ≤ b - a
  · rw [decide_eq_true (by omega), cond_true]
    obtain ⟨x1, s1, g1, k1⟩ := meda_api_Hit hc hd (x := a + q) (by omega) (by omega) 0
    rw [g1, Option.bind_some]
    obtain ⟨x2, s2, g2, k2⟩ := meda_api_Hit hc hd (x := a + q * 2) (by omega) (by omega) s1
    simp only []
    rw [g2, Option.bind_some]
    obtain ⟨x3, s3, g3, k3⟩ := meda_api_Hit hc hd (x := a + q * 3) (by omega) (by omega) s2
    simp only []
    rw [g3, Option.bind_some]
    exact j1 x1 x2 x3 s3 (by omega) (by omega) (by omega) (by omega) (by omega) (by omega)
  · rw [decide_eq_false (by omega), cond_false]
    exact j1 (a + q) (a + q * 2) (a + q * 3) 0 (by omega) (by omega) (by omega) (by omega) (by omega) (by omega)
end
end Go.Proofs.Ytfkgbfhpibiheaa
