/- The library's sort by a comparison: insertion and heap. After the kit's plain layer. No program is in sight here. -/
import Derived.Test.YtfkgbfhpibiheaaL3
import Derived.Test.YtfkgbfhpibiheaaC1
import Derived.Sort.AssemblyPlain
set_option linter.unusedVariables false
set_option linter.unusedSimpArgs false
namespace Go.Proofs.Ytfkgbfhpibiheaa
open Go Go.Sort
section
variable {cmp : api_Hit → api_Hit → Option Int} {lt : api_Hit → api_Hit → Bool} {P : api_Hit → Prop}
def CmpOk_api_Hit (cmp : api_Hit → api_Hit → Option Int) (lt : api_Hit → api_Hit → Bool) (P : api_Hit → Prop) : Prop := ∀ x y, P x → P y → ∃ n, cmp x y = some n ∧ decide (n < 0) = lt x y
def AllA_api_Hit (P : api_Hit → Prop) (d : Array api_Hit) : Prop := d.size ≤ 1000000000 ∧ ∀ i, i < d.size → P d[i]!
theorem swp_size_api_Hit (d : Array api_Hit) (i j : Nat) : (swp d i j).size = d.size := by simp [swp]
theorem AllA_api_Hit.swp {d : Array api_Hit} (h : AllA_api_Hit P d) {i j : Nat} (hi : i < d.size) (hj : j < d.size) : AllA_api_Hit P (Sort.swp d i j) := by
  refine ⟨by rw [swp_size_api_Hit]; exact h.1, fun k hk => ?_⟩
  rw [swp_size_api_Hit] at hk
  unfold Sort.swp
  by_cases h1 : j = k
  · subst h1
    rw [getElem!_pos ((d.setIfInBounds i d[j]!).setIfInBounds j d[i]!) _ (by simpa using hk)]
    simp only [Array.getElem_setIfInBounds_self]
    exact h.2 i hi
  · by_cases h2 : i = k
    · subst h2
      rw [getElem!_pos ((d.setIfInBounds i d[j]!).setIfInBounds j d[i]!) _ (by simpa using hk)]
      rw [Array.getElem_setIfInBounds_ne (by simpa using hk) (by omega)]
      simp only [Array.getElem_setIfInBounds_self]
      exact h.2 j hj
    · rw [getElem!_pos _ _ (by simpa using hk)]
      rw [Array.getElem_setIfInBounds_ne (by simpa using hk) (by omega), Array.getElem_setIfInBounds_ne (by simpa using hk) (by omega)]
      have := h.2 k hk
      rwa [getElem!_pos d k hk] at this
theorem gi_api_Hit {d : Array api_Hit} {i : Nat} (h : i < d.size) {k : Int} (hk : k = (i : Int)) : getI d.toList k = some d[i]! := by
  subst hk
  rw [getI_nat, Array.getElem?_toList, Array.getElem?_eq_getElem h, getElem!_pos d i h]
theorem setI_arr_api_Hit (d : Array api_Hit) (i : Nat) (x : api_Hit) : setI d.toList i x = (d.setIfInBounds i x).toList := by
  unfold setI
  simp
theorem gs_api_Hit {d : Array api_Hit} {i : Nat} {x : api_Hit} {j : Nat} (h : i < d.size) {k : Int} (hk : k = (i : Int)) : ∃ y, getI (setI d.toList j x) k = some y := by
  subst hk
  rw [getI_nat]
  exact ⟨_, List.getElem?_eq_getElem (by unfold setI; simpa using h)⟩
theorem sw_api_Hit (d : Array api_Hit) (i j : Nat) : setI (setI d.toList i d[j]!) j d[i]! = (Sort.swp d i j).toList := by
  rw [setI_arr_api_Hit, setI_arr_api_Hit]
  rfl
theorem cm_api_Hit (hc : CmpOk_api_Hit cmp lt P) {d : Array api_Hit} (h : AllA_api_Hit P d) {i j : Nat} (hi : i < d.size) (hj : j < d.size) : ∃ n, cmp d[i]! d[j]! = some n ∧ decide (n < 0) = lt d[i]! d[j]! := hc _ _ (h.2 i hi) (h.2 j hj)
theorem ins_inner_api_Hit (hc : CmpOk_api_Hit cmp lt P) {a i1 : Nat} : ∀ (j : Nat) (d : Array api_Hit), j < d.size → AllA_api_Hit P d →
    AllA_api_Hit P (insInner lt a j d) ∧ (insInner lt a j d).size = d.size ∧ loop (fun q' => g_slices_insertionSortCmpFunc_api_Hit.l2 (a : Int) cmp (i1 : Int) q'.1 q'.2) ((j : Int), d.toList) = some (.next (W ((i1 : Int) + 1), (insInner lt a j d).toList))
  | 0, d, hj, hd => by
    refine ⟨hd, rfl, loop_up ?_⟩
    show g_slices_insertionSortCmpFunc_api_Hit.l2 (a : Int) cmp (i1 : Int) ((0 : Nat) : Int) d.toList = _
    unfold g_slices_insertionSortCmpFunc_api_Hit.l2
    rw [decide_eq_false (by omega)]
    rfl
  | j + 1, d, hj, hd => by
    have hsz := hd.1
    have hW : W (((j + 1 : Nat) : Int) - 1) = (j : Int) := by rw [W_id (by omega)]; omega
    unfold insInner
    by_cases ha : a < j + 1
    · obtain ⟨n, h1, h2⟩ := cm_api_Hit hc hd hj (show j < d.size by omega)
      have hbody : ∀ r, g_slices_insertionSortCmpFunc_api_Hit.j3 (i1 : Int) ((j + 1 : Nat) : Int) d.toList (lt d[j + 1]! d[j]!) = r → g_slices_insertionSortCmpFunc_api_Hit.l2 (a : Int) cmp (i1 : Int) ((j + 1 : Nat) : Int) d.toList = r := fun r hr => by
        unfold g_slices_insertionSortCmpFunc_api_Hit.l2
        rw [decide_eq_true (by omega), cond_true, gi_api_Hit hj rfl, Option.bind_some, gi_api_Hit (i := j) (by omega) hW, Option.bind_some, h1, Option.bind_some, h2]
        exact hr
      cases hl : lt d[j + 1]! d[j]! with
      | true =>
        obtain ⟨q1, q2, q3⟩ := ins_inner_api_Hit hc (i1 := i1) (a := a) j (Sort.swp d (j + 1) j) (by rw [swp_size_api_Hit]; omega) (hd.swp hj (by omega))
        rw [if_pos (by simp [ha])]
        refine ⟨q1, by rw [q2, swp_size_api_Hit], ?_⟩
        have hb' : g_slices_insertionSortCmpFunc_api_Hit.l2 (a : Int) cmp (i1 : Int) ((j + 1 : Nat) : Int) d.toList = some (.next ((j : Int), (Sort.swp d (j + 1) j).toList)) := by
          refine hbody _ ?_
          rw [hl]
          unfold g_slices_insertionSortCmpFunc_api_Hit.j3
          obtain ⟨y, hy⟩ := gs_api_Hit (d := d) (x := d[j]!) (j := (((j + 1 : Nat) : Int)).toNat) (i := j) (by omega) hW
          rw [cond_true, gi_api_Hit (i := j) (by omega) hW, Option.bind_some, gi_api_Hit hj rfl, Option.bind_some, hy, Option.bind_some, hW]
          have e1 : (((j + 1 : Nat) : Int)).toNat = j + 1 := by omega
          have e2 : ((j : Int)).toNat = j := by omega
          rw [e1, e2, sw_api_Hit]
        exact (loop_next (body := fun q' => g_slices_insertionSortCmpFunc_api_Hit.l2 (a : Int) cmp (i1 : Int) q'.1 q'.2) (s := (((j + 1 : Nat) : Int), d.toList)) hb').trans q3
      | false =>
        rw [if_neg (by simp)]
        refine ⟨hd, rfl, loop_up (hbody _ ?_)⟩
        rw [hl]
        rfl
    · rw [if_neg (by simp [ha])]
      refine ⟨hd, rfl, loop_up ?_⟩
      show g_slices_insertionSortCmpFunc_api_Hit.l2 (a : Int) cmp (i1 : Int) ((j + 1 : Nat) : Int) d.toList = _
      unfold g_slices_insertionSortCmpFunc_api_Hit.l2
      rw [decide_eq_false (by omega)]
      rfl
theorem ins_outer_api_Hit (hc : CmpOk_api_Hit cmp lt P) {a b : Nat} : ∀ (n i : Nat) (d : Array api_Hit), b - i = n → b ≤ d.size → AllA_api_Hit P d →
    loop (fun q' => g_slices_insertionSortCmpFunc_api_Hit.l1 (a : Int) (b : Int) cmp q'.1 q'.2) ((i : Int), d.toList) = some (insOuter lt a b i d).toList
  | 0, i, d, hn, hb, hd => by
    unfold insOuter
    rw [if_neg (by omega)]
    refine loop_up (x := some d.toList) ?_
    show g_slices_insertionSortCmpFunc_api_Hit.l1 (a : Int) (b : Int) cmp (i : Int) d.toList = _
    unfold g_slices_insertionSortCmpFunc_api_Hit.l1
    rw [decide_eq_false (by omega)]
    rfl
  | n + 1, i, d, hn, hb, hd => by
    have hsz := hd.1
    unfold insOuter
    rw [if_pos (by omega)]
    obtain ⟨q1, q2, q3⟩ := ins_inner_api_Hit hc (a := a) (i1 := i) i d (by omega) hd
    rw [loop_next (s' := (((i + 1 : Nat) : Int), (insInner lt a i d).toList)) ?_]
    · exact ins_outer_api_Hit hc n (i + 1) _ (by omega) (by rw [q2]; exact hb) q1
    · show g_slices_insertionSortCmpFunc_api_Hit.l1 (a : Int) (b : Int) cmp (i : Int) d.toList = _
      unfold g_slices_insertionSortCmpFunc_api_Hit.l1
      rw [decide_eq_true (by omega), cond_true, q3, W_succ (by omega)]
theorem insertion_api_Hit (hc : CmpOk_api_Hit cmp lt P) {a b : Nat} {d : Array api_Hit} (hab : a ≤ b) (hb : b ≤ d.size) (hd : AllA_api_Hit P d) : g_slices_insertionSortCmpFunc_api_Hit d.toList (a : Int) (b : Int) cmp = some (insertionSort lt d a b).toList := by
  have hsz := hd.1
  unfold g_slices_insertionSortCmpFunc_api_Hit insertionSort
  rw [W_succ (by omega)]
  exact ins_outer_api_Hit hc _ (a + 1) d rfl hb hd
theorem sift_j3_api_Hit (hc : CmpOk_api_Hit cmp lt P) {first root c : Nat} {d : Array api_Hit} (h1 : first + root < d.size) (h2 : first + c < d.size) (hd : AllA_api_Hit P d) :
    g_slices_siftDownCmpFunc_api_Hit.j3 (first : Int) cmp (root : Int) d.toList (c : Int) = some (bif lt d[first + root]! d[first + c]! then .next ((c : Int), (Sort.swp d (first + root) (first + c)).toList) else .done d.toList) := by
  have hsz := hd.1
  have w1 : W ((first : Int) + (root : Int)) = ((first + root : Nat) : Int) := by rw [W_id (by omega)]; omega
  have w2 : W ((first : Int) + (c : Int)) = ((first + c : Nat) : Int) := by rw [W_id (by omega)]; omega
  obtain ⟨n, n1, n2⟩ := cm_api_Hit hc hd h1 h2
  unfold g_slices_siftDownCmpFunc_api_Hit.j3
  rw [w1, w2, gi_api_Hit h1 rfl, Option.bind_some, gi_api_Hit h2 rfl, Option.bind_some, n1, Option.bind_some, n2]
  cases lt d[first + root]! d[first + c]! with
  | false => rfl
  | true =>
    obtain ⟨y, hy⟩ := gs_api_Hit (d := d) (x := d[first + c]!) (j := (((first + root : Nat) : Int)).toNat) h2 rfl
    rw [show (!true) = false from rfl, cond_false, hy, Option.bind_some, cond_true]
    have e1 : (((first + root : Nat) : Int)).toNat = first + root := by omega
    have e2 : (((first + c : Nat) : Int)).toNat = first + c := by omega
    rw [e1, e2, sw_api_Hit]
theorem sift_api_Hit (hc : CmpOk_api_Hit cmp lt P) {hi first : Nat} : ∀ (n root : Nat) (d : Array api_Hit), hi - root ≤ n → root ≤ 1000000000 → first + hi ≤ d.size → AllA_api_Hit P d →
    AllA_api_Hit P (siftDown lt hi first root d) ∧ (siftDown lt hi first root d).size = d.size ∧ loop (fun q' => g_slices_siftDownCmpFunc_api_Hit.l1 (hi : Int) (first : Int) cmp q'.1 q'.2) ((root : Int), d.toList) = some (siftDown lt hi first root d).toList := by
  intro n
  induction n with
  | zero =>
    intro root d hn hr hh hd
    have hsz := hd.1
    unfold siftDown
    rw [dif_pos (by omega)]
    refine ⟨hd, rfl, loop_up (x := some d.toList) ?_⟩
    show g_slices_siftDownCmpFunc_api_Hit.l1 (hi : Int) (first : Int) cmp (root : Int) d.toList = _
    unfold g_slices_siftDownCmpFunc_api_Hit.l1
    rw [W_id (x := 2 * (root : Int)) (by omega), W_id (by omega), decide_eq_true (by omega)]
    rfl
  | succ n ih =>
    intro root d hn hr hh hd
    have hsz := hd.1
    have w0 : W (2 * (root : Int)) = ((2 * root : Nat) : Int) := by rw [W_id (by omega)]; omega
    have w1 : W (((2 * root : Nat) : Int) + 1) = ((2 * root + 1 : Nat) : Int) := by rw [W_id (by omega)]; omega
    have w2 : W (((2 * root + 1 : Nat) : Int) + 1) = ((2 * root + 2 : Nat) : Int) := by rw [W_id (by omega)]; omega
    by_cases hend : 2 * root + 1 ≥ hi
    · unfold siftDown
      rw [dif_pos hend]
      refine ⟨hd, rfl, loop_up (x := some d.toList) ?_⟩
      show g_slices_siftDownCmpFunc_api_Hit.l1 (hi : Int) (first : Int) cmp (root : Int) d.toList = _
      unfold g_slices_siftDownCmpFunc_api_Hit.l1
      rw [w0, w1, decide_eq_true (by omega)]
      rfl
    · have step : ∀ c : Nat, c < hi → root < c → ∀ (b : Bool) (r : Array api_Hit), (lt d[first + root]! d[first + c]! = b) → r = (bif b then siftDown lt hi first c (Sort.swp d (first + root) (first + c)) else d) →
          (g_slices_siftDownCmpFunc_api_Hit.l1 (hi : Int) (first : Int) cmp (root : Int) d.toList = g_slices_siftDownCmpFunc_api_Hit.j3 (first : Int) cmp (root : Int) d.toList (c : Int)) →
          AllA_api_Hit P r ∧ r.size = d.size ∧ loop (fun q' => g_slices_siftDownCmpFunc_api_Hit.l1 (hi : Int) (first : Int) cmp q'.1 q'.2) ((root : Int), d.toList) = some r.toList := fun c hc1 hc2 b r hb hrr hl => by
        have hj := sift_j3_api_Hit hc (first := first) (root := root) (c := c) (d := d) (by omega) (by omega) hd
        rw [hb] at hj
        cases b with
        | false =>
          rw [cond_false] at hrr
          rw [hrr]
          refine ⟨hd, rfl, loop_done ?_⟩
          exact (by rw [hl, hj]; rfl : g_slices_siftDownCmpFunc_api_Hit.l1 (hi : Int) (first : Int) cmp (root : Int) d.toList = some (.done d.toList))
        | true =>
          rw [cond_true] at hrr
          rw [hrr]
          obtain ⟨q1, q2, q3⟩ := ih c (Sort.swp d (first + root) (first + c)) (by omega) (by omega) (by rw [swp_size_api_Hit]; exact hh) (hd.swp (by omega) (by omega))
          refine ⟨q1, by rw [q2, swp_size_api_Hit], ?_⟩
          have hb' : g_slices_siftDownCmpFunc_api_Hit.l1 (hi : Int) (first : Int) cmp (root : Int) d.toList = some (.next ((c : Int), (Sort.swp d (first + root) (first + c)).toList)) := by rw [hl, hj]; rfl
          exact (loop_next (body := fun q' => g_slices_siftDownCmpFunc_api_Hit.l1 (hi : Int) (first : Int) cmp q'.1 q'.2) (s := ((root : Int), d.toList)) hb').trans q3
      unfold siftDown
      rw [dif_neg hend]
      have hl : ∀ b : Bool, (decide (2 * root + 1 + 1 < hi) && lt d[first + (2 * root + 1)]! d[first + (2 * root + 1) + 1]!) = b → g_slices_siftDownCmpFunc_api_Hit.l1 (hi : Int) (first : Int) cmp (root : Int) d.toList = g_slices_siftDownCmpFunc_api_Hit.j3 (first : Int) cmp (root : Int) d.toList (bif b then ((2 * root + 2 : Nat) : Int) else ((2 * root + 1 : Nat) : Int)) := fun b hb => by
        unfold g_slices_siftDownCmpFunc_api_Hit.l1
        rw [w0, w1, w2, decide_eq_false (by omega), cond_false]
        by_cases h2 : 2 * root + 2 < hi
        · have a2 : first + (2 * root + 1) + 1 < d.size := by clear w0 w1 w2; omega
          have a1 : first + (2 * root + 1) < d.size := by clear w0 w1 w2; omega
          have a3 : decide (2 * root + 1 + 1 < hi) = true := decide_eq_true h2
          have a4 : decide (((2 * root + 2 : Nat) : Int) < (hi : Int)) = true := decide_eq_true (by clear w0 w1 w2; omega)
          have v1 : W ((first : Int) + ((2 * root + 1 : Nat) : Int)) = ((first + (2 * root + 1) : Nat) : Int) := by rw [W_id (by omega)]; omega
          have v2 : W (((first + (2 * root + 1) : Nat) : Int) + 1) = ((first + (2 * root + 1) + 1 : Nat) : Int) := by rw [W_id (by omega)]; omega
          obtain ⟨m, m1, m2⟩ := cm_api_Hit hc hd (i := first + (2 * root + 1)) (j := first + (2 * root + 1) + 1) a1 a2
          rw [a4, cond_true, v1, v2, gi_api_Hit (i := first + (2 * root + 1)) a1 rfl, Option.bind_some, gi_api_Hit (i := first + (2 * root + 1) + 1) a2 rfl, Option.bind_some, m1, Option.bind_some, m2]
          rw [a3, Bool.true_and] at hb
          rw [hb]
          unfold g_slices_siftDownCmpFunc_api_Hit.j2
          rw [w0, w1, w2]
          cases b with
          | true => rw [cond_true, cond_true]
          | false => rw [cond_false, cond_false]
        · rw [decide_eq_false (by omega), cond_false]
          rw [decide_eq_false (by omega), Bool.false_and] at hb
          subst hb
          unfold g_slices_siftDownCmpFunc_api_Hit.j2
          rw [w0, w1, cond_false, cond_false]
      cases hb : (decide (2 * root + 1 + 1 < hi) && lt d[first + (2 * root + 1)]! d[first + (2 * root + 1) + 1]!) with
      | true =>
        rw [if_pos rfl]
        have h2 : 2 * root + 2 < hi := by
          rw [Bool.and_eq_true] at hb
          have := of_decide_eq_true hb.1
          omega
        refine step (2 * root + 2) h2 (by omega) _ _ rfl ?_ (hl true hb)
        cases lt d[first + root]! d[first + (2 * root + 2)]! with
        | false => rfl
        | true => rw [show (!true) = false from rfl, if_neg (by simp), dif_pos h2]; rfl
      | false =>
        rw [if_neg (by simp)]
        refine step (2 * root + 1) (by omega) (by omega) _ _ rfl ?_ (hl false hb)
        cases lt d[first + root]! d[first + (2 * root + 1)]! with
        | false => rfl
        | true => rfl
theorem heap_build_api_Hit (hc : CmpOk_api_Hit cmp lt P) {a b : Nat} : ∀ (k : Nat) (d : Array api_Hit), a + (b - a) ≤ d.size → a ≤ b → k ≤ 1000000000 → AllA_api_Hit P d →
    AllA_api_Hit P (heapBuild lt (b - a) a k d) ∧ (heapBuild lt (b - a) a k d).size = d.size ∧ loop (fun q' => g_slices_heapSortCmpFunc_api_Hit.l1 (a : Int) (b : Int) cmp q'.1 q'.2) ((k : Int) - 1, d.toList) = loop (fun q' => g_slices_heapSortCmpFunc_api_Hit.l1 (a : Int) (b : Int) cmp q'.1 q'.2) (-1, (heapBuild lt (b - a) a k d).toList)
  | 0, d, h1, hab, hk, hd => ⟨hd, rfl, rfl⟩
  | k + 1, d, h1, hab, hk, hd => by
    have hsz := hd.1
    obtain ⟨q1, q2, q3⟩ := sift_api_Hit hc (hi := b - a) (first := a) _ k d (Nat.le_refl _) (by omega) h1 hd
    obtain ⟨r1, r2, r3⟩ := heap_build_api_Hit hc (a := a) (b := b) k (siftDown lt (b - a) a k d) (by rw [q2]; exact h1) hab (by omega) q1
    refine ⟨r1, by show (heapBuild lt (b - a) a k _).size = _; rw [r2, q2], ?_⟩
    rw [loop_next (s' := ((k : Int) - 1, (siftDown lt (b - a) a k d).toList)) ?_]
    · exact r3
    · show g_slices_heapSortCmpFunc_api_Hit.l1 (a : Int) (b : Int) cmp (((k + 1 : Nat) : Int) - 1) d.toList = _
      have e0 : ((k + 1 : Nat) : Int) - 1 = (k : Int) := by omega
      have e1 : W ((b : Int) - (a : Int)) = ((b - a : Nat) : Int) := by rw [W_id (by omega)]; omega
      unfold g_slices_heapSortCmpFunc_api_Hit.l1
      rw [e0, decide_eq_true (by omega), cond_true, e1]
      have e2 : g_slices_siftDownCmpFunc_api_Hit d.toList (k : Int) ((b - a : Nat) : Int) (a : Int) cmp = some (siftDown lt (b - a) a k d).toList := q3
      rw [e2, Option.bind_some, W_id (by omega)]
theorem heap_pop_api_Hit (hc : CmpOk_api_Hit cmp lt P) {a : Nat} : ∀ (k : Nat) (d : Array api_Hit), a + k ≤ d.size → AllA_api_Hit P d →
    loop (fun q' => g_slices_heapSortCmpFunc_api_Hit.l2 (a : Int) cmp q'.1 q'.2) ((k : Int) - 1, d.toList) = some (heapPop lt a k d).toList
  | 0, d, h1, hd => loop_up (x := some d.toList) (by
      show g_slices_heapSortCmpFunc_api_Hit.l2 (a : Int) cmp (((0 : Nat) : Int) - 1) d.toList = _
      unfold g_slices_heapSortCmpFunc_api_Hit.l2
      rw [decide_eq_false (by omega)]
      rfl)
  | k + 1, d, h1, hd => by
    have hsz := hd.1
    obtain ⟨q1, q2, q3⟩ := sift_api_Hit hc (hi := k) (first := a) k 0 (Sort.swp d a (a + k)) (by omega) (by omega) (by rw [swp_size_api_Hit]; omega) (hd.swp (by omega) (by omega))
    rw [loop_next (s' := ((k : Int) - 1, (siftDown lt k a 0 (Sort.swp d a (a + k))).toList)) ?_]
    · exact heap_pop_api_Hit hc k _ (by rw [q2, swp_size_api_Hit]; omega) q1
    · show g_slices_heapSortCmpFunc_api_Hit.l2 (a : Int) cmp (((k + 1 : Nat) : Int) - 1) d.toList = _
      have e0 : ((k + 1 : Nat) : Int) - 1 = (k : Int) := by omega
      have e1 : W ((a : Int) + (k : Int)) = ((a + k : Nat) : Int) := by rw [W_id (by omega)]; omega
      obtain ⟨y, hy⟩ := gs_api_Hit (d := d) (x := d[a + k]!) (j := ((a : Int)).toNat) (i := a + k) (by omega) rfl
      unfold g_slices_heapSortCmpFunc_api_Hit.l2
      rw [e0, decide_eq_true (by omega), cond_true, e1, gi_api_Hit (i := a + k) (by omega) rfl, Option.bind_some, gi_api_Hit (i := a) (by omega) rfl, Option.bind_some, hy, Option.bind_some]
      have e2 : ((a : Int)).toNat = a := by omega
      have e3 : (((a + k : Nat) : Int)).toNat = a + k := by omega
      rw [e2, e3, sw_api_Hit]
      have e4 : g_slices_siftDownCmpFunc_api_Hit (Sort.swp d a (a + k)).toList 0 (k : Int) (a : Int) cmp = some (siftDown lt k a 0 (Sort.swp d a (a + k))).toList := q3
      rw [e4, Option.bind_some, W_id (by omega)]
theorem heap_api_Hit (hc : CmpOk_api_Hit cmp lt P) {a b : Nat} {d : Array api_Hit} (hab : a < b) (hb : b ≤ d.size) (hd : AllA_api_Hit P d) : g_slices_heapSortCmpFunc_api_Hit d.toList (a : Int) (b : Int) cmp = some (heapSort lt d a b).toList := by
  have hsz := hd.1
  have e1 : W ((b : Int) - (a : Int)) = ((b - a : Nat) : Int) := by rw [W_id (by omega)]; omega
  have e2 : W (((b - a : Nat) : Int) - 1) = ((b - a - 1 : Nat) : Int) := by rw [W_id (by omega)]; omega
  obtain ⟨r1, r2, r3⟩ := heap_build_api_Hit hc (a := a) (b := b) ((b - a - 1) / 2 + 1) d (by omega) (by omega) (by omega) hd
  unfold g_slices_heapSortCmpFunc_api_Hit heapSort
  rw [e1, e2]
  have eq : quoI ((b - a - 1 : Nat) : Int) 2 = some (((b - a - 1) / 2 : Nat) : Int) := by
    unfold quoI
    rw [if_neg (by omega), W_id]
    · congr 1
    · have : ((b - a - 1 : Nat) : Int).tdiv 2 = (((b - a - 1) / 2 : Nat) : Int) := rfl
      rw [this]
      omega
  rw [eq, Option.bind_some]
  have e0 : (((b - a - 1) / 2 : Nat) : Int) = (((b - a - 1) / 2 + 1 : Nat) : Int) - 1 := by omega
  rw [e0, r3]
  refine loop_up (x := some (heapPop lt a (b - a) (heapBuild lt (b - a) a ((b - a - 1) / 2 + 1) d)).toList) ?_
  show g_slices_heapSortCmpFunc_api_Hit.l1 (a : Int) (b : Int) cmp (-1) _ = _
  unfold g_slices_heapSortCmpFunc_api_Hit.l1
  rw [decide_eq_false (by omega), cond_false, e1]
  have e3 : W (((b - a : Nat) : Int) - 1) = ((b - a : Nat) : Int) - 1 := W_id (by omega)
  rw [e3, heap_pop_api_Hit hc (b - a) _ (by rw [r2]; omega) r1]
end
end Go.Proofs.Ytfkgbfhpibiheaa
