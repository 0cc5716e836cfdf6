/- The library's sort by a comparison: the partitions, the partial insertion. No program is in sight here. -/
import Derived.Test.YtfkgbfhpibiheaaSG1
import Derived.Test.YtfkgbfhpibiheaaSO1api_Hit
set_option linter.unusedVariables false
set_option linter.unusedSimpArgs false
namespace Go.Proofs.Ytfkgbfhpibiheaa
open Go Go.Sort
section
variable {cmp : api_Hit → api_Hit → Option Int} {lt : api_Hit → api_Hit → Bool} {P : api_Hit → Prop}
theorem swb_api_Hit {d : Array api_Hit} {i j : Nat} (hi : i < d.size) (hj : j < d.size) {ki kj : Int} (eki : ki = (i : Int)) (ekj : kj = (j : Int)) {γ : Type} (F : List api_Hit → Option γ) :
    ((getI d.toList kj).bind fun e => (getI d.toList ki).bind fun e2 => (getI (setI d.toList ki.toNat e) kj).bind fun _ => F (setI (setI d.toList ki.toNat e) kj.toNat e2)) = F (Sort.swp d i j).toList := by
  subst eki ekj
  obtain ⟨y, hy⟩ := gs_api_Hit (d := d) (x := d[j]!) (j := ((i : Int)).toNat) (i := j) hj rfl
  rw [gi_api_Hit hj rfl, Option.bind_some, gi_api_Hit hi rfl, Option.bind_some, hy, Option.bind_some, Int.toNat_natCast, Int.toNat_natCast, sw_api_Hit]
theorem cmb_api_Hit (hc : CmpOk_api_Hit cmp lt P) {d : Array api_Hit} (h : AllA_api_Hit P d) {i j : Nat} (hi : i < d.size) (hj : j < d.size) {ki kj : Int} (eki : ki = (i : Int)) (ekj : kj = (j : Int)) {γ : Type} (F : Bool → Option γ) :
    ((getI d.toList ki).bind fun e => (getI d.toList kj).bind fun e2 => (cmp e e2).bind fun y => F (decide (y < 0))) = F (lt d[i]! d[j]!) := by
  subst eki ekj
  obtain ⟨n, h1, h2⟩ := cm_api_Hit hc h hi hj
  rw [gi_api_Hit hi rfl, Option.bind_some, gi_api_Hit hj rfl, Option.bind_some, h1, Option.bind_some, h2]
theorem part_up_api_Hit (hc : CmpOk_api_Hit cmp lt P) {L0 : List api_Hit} {e e2 : api_Hit} {D : Array api_Hit} {a b pivot : Nat} (hD : setI (setI L0 ((a : Int)).toNat e) ((pivot : Int)).toNat e2 = D.toList) (hA : AllA_api_Hit P D) (ha : a < b) (hb : b ≤ D.size) :
    loop (fun q' => g_slices_partitionCmpFunc_api_Hit.l1 L0 (a : Int) (b : Int) (pivot : Int) cmp e e2 q') (W ((a : Int) + 1)) = loop (fun q' => g_slices_partitionCmpFunc_api_Hit.l3 L0 (a : Int) (pivot : Int) cmp e e2 ((scanUp (fun x => lt x D[a]!) D (b - 1) (a + 1) : Nat) : Int) q') (((b - 1 : Nat) : Int)) := by
  have hsz := hA.1
  rw [Wp (by omega)]
  refine scanU_ (p := fun x => lt x D[a]!) (D := D) (i0 := a + 1) (j := b - 1) (J := fun i x => g_slices_partitionCmpFunc_api_Hit.j2 L0 (a : Int) (b : Int) (pivot : Int) cmp e e2 (i : Int) x) (K := fun i => loop (fun q' => g_slices_partitionCmpFunc_api_Hit.l3 L0 (a : Int) (pivot : Int) cmp e e2 (i : Int) q') (((b - 1 : Nat) : Int))) (by omega) (fun i h1 h2 => ?_) (fun i => rfl) (fun i _ _ => ?_) _ (a + 1) rfl (Nat.le_refl _) (by omega)
  · unfold g_slices_partitionCmpFunc_api_Hit.l1
    rw [hD, Wm (by omega) (by omega)]
    by_cases h : i ≤ b - 1
    · rw [decide_eq_true (by omega), cond_true, decide_eq_true h, Bool.true_and]
      exact cmb_api_Hit hc hA (i := i) (j := a) (by omega) (by omega) rfl rfl (F := fun x => g_slices_partitionCmpFunc_api_Hit.j2 L0 (a : Int) (b : Int) (pivot : Int) cmp e e2 (i : Int) x)
    · rw [decide_eq_false (by omega), cond_false, decide_eq_false h, Bool.false_and]
  · unfold g_slices_partitionCmpFunc_api_Hit.j2
    rw [Wm (by omega) (by omega)]
    rfl
theorem part_dn_api_Hit (hc : CmpOk_api_Hit cmp lt P) {L0 : List api_Hit} {e e2 : api_Hit} {D : Array api_Hit} {a b i pivot : Nat} (hD : setI (setI L0 ((a : Int)).toNat e) ((pivot : Int)).toNat e2 = D.toList) (hA : AllA_api_Hit P D) (ha : a < i) (hi : i ≤ b) (hb : b ≤ D.size) :
    loop (fun q' => g_slices_partitionCmpFunc_api_Hit.l3 L0 (a : Int) (pivot : Int) cmp e e2 (i : Int) q') (((b - 1 : Nat) : Int)) = (fun j => if j < i then some ((j : Int), true, (Sort.swp D j a).toList) else
      loop (fun q' => g_slices_partitionCmpFunc_api_Hit.l5 (a : Int) cmp q'.1 q'.2.1 q'.2.2) (((i + 1 : Nat) : Int), ((j - 1 : Nat) : Int), (Sort.swp D i j).toList)) (scanDown (fun x => !lt x D[a]!) D i (b - 1)) := by
  have hsz := hA.1
  refine scanD_ (p := fun x => !lt x D[a]!) (D := D) (i := i) (j0 := b - 1) (J := fun j x => g_slices_partitionCmpFunc_api_Hit.j4 L0 (a : Int) (pivot : Int) cmp e e2 (i : Int) (j : Int) x) (K := fun j : Nat => if j < i then some ((j : Int), true, (Sort.swp D j a).toList) else
      loop (fun q' => g_slices_partitionCmpFunc_api_Hit.l5 (a : Int) cmp q'.1 q'.2.1 q'.2.2) (((i + 1 : Nat) : Int), ((j - 1 : Nat) : Int), (Sort.swp D i j).toList)) (by omega) (by omega) (fun j h1 h2 => ?_) (fun i => rfl) (fun j h1 h2 => ?_) (b - 1) (by omega) (Nat.le_refl _)
  · unfold g_slices_partitionCmpFunc_api_Hit.l3
    rw [hD]
    by_cases h : i ≤ j
    · rw [decide_eq_true (by omega), cond_true, decide_eq_true h, Bool.true_and]
      exact cmb_api_Hit hc hA (i := j) (j := a) (by omega) (by omega) rfl rfl (F := fun x => g_slices_partitionCmpFunc_api_Hit.j4 L0 (a : Int) (pivot : Int) cmp e e2 (i : Int) (j : Int) (!x))
    · rw [decide_eq_false (by omega), cond_false, decide_eq_false h, Bool.false_and]
  · unfold g_slices_partitionCmpFunc_api_Hit.j4
    rw [hD, cond_false]
    congr 1
    by_cases h : j < i
    · rw [decide_eq_true (by omega), cond_true, if_pos h]
      exact swb_api_Hit (i := j) (j := a) (by omega) (by omega) rfl rfl (fun l => some ((j : Int), true, l))
    · rw [decide_eq_false (by omega), cond_false, if_neg h, Wp (by omega), Wm (by omega) (by omega)]
      exact swb_api_Hit (i := i) (j := j) (by omega) (by omega) rfl rfl (fun l => loop (fun q' => g_slices_partitionCmpFunc_api_Hit.l5 (a : Int) cmp q'.1 q'.2.1 q'.2.2) (((i + 1 : Nat) : Int), ((j - 1 : Nat) : Int), l))
theorem part_rnd_api_Hit (hc : CmpOk_api_Hit cmp lt P) {D : Array api_Hit} {a i j : Nat} (hA : AllA_api_Hit P D) (ha : a < i) (hi : i ≤ j + 1) (hj : j < D.size) :
    g_slices_partitionCmpFunc_api_Hit.l5 (a : Int) cmp (i : Int) (j : Int) D.toList = (fun i' j' : Nat => if j' < i' then up (some ((j' : Int), false, (Sort.swp D j' a).toList)) else some (.next (((i' + 1 : Nat) : Int), ((j' - 1 : Nat) : Int), (Sort.swp D i' j').toList))) (scanUp (fun x => lt x D[a]!) D j i) (scanDown (fun x => !lt x D[a]!) D (scanUp (fun x => lt x D[a]!) D j i) j) := by
  have hsz := hA.1
  have hu := scanUp_spec (fun x => lt x D[a]!) D j _ i rfl
  unfold g_slices_partitionCmpFunc_api_Hit.l5
  refine (scanU_ (p := fun x => lt x D[a]!) (D := D) (i0 := i) (j := j) (J := fun i x => g_slices_partitionCmpFunc_api_Hit.j7 (a : Int) cmp (j : Int) D.toList (i : Int) x) (K := fun i => loop (fun q' => g_slices_partitionCmpFunc_api_Hit.l8 (a : Int) cmp D.toList (i : Int) q') (j : Int)) (by omega) (fun i' h1 h2 => ?_) (fun i => rfl) (fun i' h1 h2 => rfl) _ i rfl (Nat.le_refl _) (by omega)).trans ?_
  · unfold g_slices_partitionCmpFunc_api_Hit.l6
    by_cases h : i' ≤ j
    · rw [decide_eq_true (by omega), cond_true, decide_eq_true h, Bool.true_and]
      exact cmb_api_Hit hc hA (i := i') (j := a) (by omega) (by omega) rfl rfl (F := fun x => g_slices_partitionCmpFunc_api_Hit.j7 (a : Int) cmp (j : Int) D.toList (i' : Int) x)
    · rw [decide_eq_false (by omega), cond_false, decide_eq_false h, Bool.false_and]
  · generalize scanUp (fun x => lt x D[a]!) D j i = i2 at hu ⊢
    have h1 := hu.1
    have h2 := hu.2.1 hi
    refine scanD_ (p := fun x => !lt x D[a]!) (D := D) (i := i2) (j0 := j) (J := fun j x => g_slices_partitionCmpFunc_api_Hit.j9 (a : Int) D.toList (i2 : Int) (j : Int) x) (K := fun j' : Nat => if j' < i2 then up (some ((j' : Int), false, (Sort.swp D j' a).toList)) else some (.next (((i2 + 1 : Nat) : Int), ((j' - 1 : Nat) : Int), (Sort.swp D i2 j').toList))) (by omega) (by omega) (fun j' h3 h4 => ?_) (fun j' => rfl) (fun j' h3 h4 => ?_) j (by omega) (Nat.le_refl _)
    · unfold g_slices_partitionCmpFunc_api_Hit.l8
      by_cases h : i2 ≤ j'
      · rw [decide_eq_true (by omega), cond_true, decide_eq_true h, Bool.true_and]
        exact cmb_api_Hit hc hA (i := j') (j := a) (by omega) (by omega) rfl rfl (F := fun x => g_slices_partitionCmpFunc_api_Hit.j9 (a : Int) D.toList (i2 : Int) (j' : Int) (!x))
      · rw [decide_eq_false (by omega), cond_false, decide_eq_false h, Bool.false_and]
    · unfold g_slices_partitionCmpFunc_api_Hit.j9
      rw [cond_false]
      congr 1
      by_cases h : j' < i2
      · rw [decide_eq_true (by omega), cond_true, if_pos h]
        congr 1
        exact swb_api_Hit (i := j') (j := a) (by omega) (by omega) rfl rfl (fun l => some ((j' : Int), false, l))
      · rw [decide_eq_false (by omega), cond_false, if_neg h, Wp (by omega), Wm (by omega) (by omega)]
        exact swb_api_Hit (i := i2) (j := j') (by omega) (by omega) rfl rfl (fun l => some (Lp.next (((i2 + 1 : Nat) : Int), ((j' - 1 : Nat) : Int), l)))
theorem part_loop_api_Hit (hc : CmpOk_api_Hit cmp lt P) {a : Nat} : ∀ (n i j : Nat) (D : Array api_Hit), j + 1 - i ≤ n → a < i → i ≤ j + 1 → j < D.size → AllA_api_Hit P D →
    AllA_api_Hit P (partLoop lt a i j D).2 ∧ (partLoop lt a i j D).2.size = D.size ∧ (partLoop lt a i j D).1 < D.size ∧
    loop (fun q' => g_slices_partitionCmpFunc_api_Hit.l5 (a : Int) cmp q'.1 q'.2.1 q'.2.2) ((i : Int), (j : Int), D.toList) = some (((partLoop lt a i j D).1 : Int), false, (Sort.swp (partLoop lt a i j D).2 (partLoop lt a i j D).1 a).toList) := by
  intro n
  induction n with
  | zero =>
    intro i j D hn ha hi hj hA
    have hr := part_rnd_api_Hit hc hA ha hi hj
    have hu := scanUp_spec (fun x => lt x D[a]!) D j _ i rfl
    rw [partLoop_eq]
    generalize scanUp (fun x => lt x D[a]!) D j i = i2 at hu hr ⊢
    have hd := scanDown_spec (fun x => !lt x D[a]!) D i2 j
    generalize scanDown (fun x => !lt x D[a]!) D i2 j = j2 at hd hr ⊢
    have h1 := hu.1
    have h2 := hd.1
    rw [if_pos (show i2 > j2 by omega)]
    refine ⟨hA, rfl, show j2 < D.size by omega, loop_up (hr.trans ?_)⟩
    exact if_pos (show j2 < i2 by omega)
  | succ n ih =>
    intro i j D hn ha hi hj hA
    have hr := part_rnd_api_Hit hc hA ha hi hj
    have hu := scanUp_spec (fun x => lt x D[a]!) D j _ i rfl
    rw [partLoop_eq]
    generalize scanUp (fun x => lt x D[a]!) D j i = i2 at hu hr ⊢
    have hd := scanDown_spec (fun x => !lt x D[a]!) D i2 j
    generalize scanDown (fun x => !lt x D[a]!) D i2 j = j2 at hd hr ⊢
    have h1 := hu.1
    have h2 := hd.1
    by_cases h : i2 > j2
    · rw [if_pos h]
      refine ⟨hA, rfl, show j2 < D.size by omega, loop_up (hr.trans ?_)⟩
      exact if_pos (show j2 < i2 by omega)
    · rw [if_neg h]
      have hne : i2 ≠ j2 := fun e => by
        have u4 := hu.2.2.2 (by omega)
        have d4 := hd.2.2.2 (by omega) (by omega)
        rw [e] at u4
        rw [u4] at d4
        cases d4
      obtain ⟨q1, q2, q3, q4⟩ := ih (i2 + 1) (j2 - 1) (Sort.swp D i2 j2) (by omega) (by omega) (by omega) (by rw [swp_size_api_Hit]; omega) (hA.swp (by omega) (by omega))
      rw [swp_size_api_Hit] at q2 q3
      refine ⟨q1, q2, q3, (loop_next (hr.trans (if_neg (show ¬ j2 < i2 by omega)))).trans q4⟩
theorem part_api_Hit (hc : CmpOk_api_Hit cmp lt P) {a b pivot : Nat} {d : Array api_Hit} (hab : a < b) (hp1 : a ≤ pivot) (hp2 : pivot < b) (hb : b ≤ d.size) (hd : AllA_api_Hit P d) :
    g_slices_partitionCmpFunc_api_Hit d.toList (a : Int) (b : Int) (pivot : Int) cmp = some (((partition lt d a b pivot).1 : Int), (partition lt d a b pivot).2.1, (partition lt d a b pivot).2.2.toList) := by
  have hsz := hd.1
  have hA : AllA_api_Hit P (Sort.swp d a pivot) := hd.swp (by omega) (by omega)
  have hs := swp_size_api_Hit d a pivot
  have hD : setI (setI d.toList ((a : Int)).toNat d[pivot]!) ((pivot : Int)).toNat d[a]! = (Sort.swp d a pivot).toList := by
    rw [Int.toNat_natCast, Int.toNat_natCast, sw_api_Hit]
  obtain ⟨y, hy⟩ := gs_api_Hit (d := d) (x := d[pivot]!) (j := ((a : Int)).toNat) (i := pivot) (by omega) rfl
  unfold g_slices_partitionCmpFunc_api_Hit partition
  rw [gi_api_Hit (i := pivot) (by omega) rfl, Option.bind_some, gi_api_Hit (i := a) (by omega) rfl, Option.bind_some, hy, Option.bind_some, part_up_api_Hit hc hD hA hab (by omega)]
  simp only []
  generalize Sort.swp d a pivot = D at hA hs hD ⊢
  have hu := scanUp_spec (fun x => lt x D[a]!) D (b - 1) _ (a + 1) rfl
  generalize scanUp (fun x => lt x D[a]!) D (b - 1) (a + 1) = i2 at hu ⊢
  have h1 := hu.1
  have h2 := hu.2.1 (by omega)
  rw [part_dn_api_Hit hc hD hA (b := b) (i := i2) (by omega) (by omega) (by omega)]
  have hdn := scanDown_spec (fun x => !lt x D[a]!) D i2 (b - 1)
  generalize scanDown (fun x => !lt x D[a]!) D i2 (b - 1) = j2 at hdn ⊢
  have h3 := hdn.1
  by_cases h : i2 > j2
  · rw [if_pos h]
    exact if_pos (show j2 < i2 by omega)
  · rw [if_neg h]
    have hne : i2 ≠ j2 := fun e => by
      have u4 := hu.2.2.2 (by omega)
      have d4 := hdn.2.2.2 (by omega) (by omega)
      rw [e] at u4
      rw [u4] at d4
      cases d4
    refine (if_neg (show ¬ j2 < i2 by omega)).trans ?_
    exact (part_loop_api_Hit hc _ (i2 + 1) (j2 - 1) (Sort.swp D i2 j2) (Nat.le_refl _) (by omega) (by omega) (by rw [swp_size_api_Hit]; omega) (hA.swp (by omega) (by omega))).2.2.2
end
end Go.Proofs.Ytfkgbfhpibiheaa
