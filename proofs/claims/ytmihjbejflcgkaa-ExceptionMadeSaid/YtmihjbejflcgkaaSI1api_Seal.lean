/- The library's sort by a comparison: insertion and heap. After the kit's plain layer. No program is in sight here. -/
import Derived.Test.YtmihjbejflcgkaaL3
import Derived.Test.YtmihjbejflcgkaaC1
import Derived.Sort.AssemblyPlain
set_option linter.unusedVariables false
set_option linter.unusedSimpArgs false
namespace Go.Proofs.Ytmihjbejflcgkaa
open Go Go.Sort
section
variable {cmp : api_Seal → api_Seal → Option Int} {lt : api_Seal → api_Seal → Bool} {P : api_Seal → Prop}
def CmpOk_api_Seal (cmp : api_Seal → api_Seal → Option Int) (lt : api_Seal → api_Seal → Bool) (P : api_Seal → Prop) : Prop := ∀ x y, P x → P y → ∃ n, cmp x y = some n ∧ decide (n < 0) = lt x y
def AllA_api_Seal (P : api_Seal → Prop) (d : Array api_Seal) : Prop := d.size ≤ 1000000000 ∧ ∀ i, i < d.size → P d[i]!
theorem swp_size_api_Seal (d : Array api_Seal) (i j : Nat) : (swp d i j).size = d.size := by simp [swp]
theorem AllA_api_Seal.swp {d : Array api_Seal} (h : AllA_api_Seal P d) {i j : Nat} (hi : i < d.size) (hj : j < d.size) : AllA_api_Seal P (Sort.swp d i j) := by
  refine ⟨by rw [swp_size_api_Seal]; exact h.1, fun k hk => ?_⟩
  rw [swp_size_api_Seal] at hk
  unfold Sort.swp
  by_cases h1 : j = k
  · subst h1
    rw [getElem!_pos ((d.setIfInBounds i d[j]!).setIfInBounds j d[i]!) _ (by simpa using hk)]
    simp only [Array.getElem_setIfInBounds_self]
    exact h.2 i hi
  · by_cases h2 : i = k
    · subst h2
      rw [getElem!_pos ((d.setIfInBounds i d[j]!).setIfInBounds j d[i]!) _ (by simpa using hk)]
      rw [Array.getElem_setIfInBounds_ne (by simpa using hk) (by omega)]
      simp only [Array.getElem_setIfInBounds_self]
      exact h.2 j hj
    · rw [getElem!_pos _ _ (by simpa using hk)]
      rw [Array.getElem_setIfInBounds_ne (by simpa using hk) (by omega), Array.getElem_setIfInBounds_ne (by simpa using hk) (by omega)]
      have := h.2 k hk
      rwa [getElem!_pos d k hk] at this
theorem gi_api_Seal {d : Array api_Seal} {i : Nat} (h : i < d.size) {k : Int} (hk : k = (i : Int)) : getI d.toList k = some d[i]! := by
  subst hk
  rw [getI_nat, Array.getElem?_toList, Array.getElem?_eq_getElem h, getElem!_pos d i h]
theorem setI_arr_api_Seal (d : Array api_Seal) (i : Nat) (x : api_Seal) : setI d.toList i x = (d.setIfInBounds i x).toList := by
  unfold setI
  simp
theorem gs_api_Seal {d : Array api_Seal} {i : Nat} {x : api_Seal} {j : Nat} (h : i < d.size) {k : Int} (hk : k = (i : Int)) : ∃ y, getI (setI d.toList j x) k = some y := by
  subst hk
  rw [getI_nat]
  exact ⟨_, List.getElem?_eq_getElem (by unfold setI; simpa using h)⟩
theorem sw_api_Seal (d : Array api_Seal) (i j : Nat) : setI (setI d.toList i d[j]!) j d[i]! = (Sort.swp d i j).toList := by
  rw [setI_arr_api_Seal, setI_arr_api_Seal]
  rfl
theorem cm_api_Seal (hc : CmpOk_api_Seal cmp lt P) {d : Array api_Seal} (h : AllA_api_Seal P d) {i j : Nat} (hi : i < d.size) (hj : j < d.size) : ∃ n, cmp d[i]! d[j]! = some n ∧ decide (n < 0) = lt d[i]! d[j]! := hc _ _ (h.2 i hi) (h.2 j hj)
theorem ins_inner_api_Seal (hc : CmpOk_api_Seal cmp lt P) {a i1 : Nat} : ∀ (j : Nat) (d : Array api_Seal), j < d.size → AllA_api_Seal P d →
    AllA_api_Seal P (insInner lt a j d) ∧ (insInner lt a j d).size = d.size ∧ loop (fun q' => g_slices_insertionSortCmpFunc_api_Seal.l2 (a : Int) cmp (i1 : Int) q'.1 q'.2) ((j : Int), d.toList) = some (.next (W ((i1 : Int) + 1), (insInner lt a j d).toList))
  | 0, d, hj, hd => by
    refine ⟨hd, rfl, loop_up ?_⟩
    show g_slices_insertionSortCmpFunc_api_Seal.l2 (a : Int) cmp (i1 : Int) ((0 : Nat) : Int) d.toList = _
    unfold g_slices_insertionSortCmpFunc_api_Seal.l2
    rw [decide_eq_false (by omega)]
    rfl
  | j + 1, d, hj, hd => by
    have hsz := hd.1
    have hW : W (((j + 1 : Nat) : Int) - 1) = (j : Int) := by rw [W_id (by omega)]; omega
    unfold insInner
    by_cases ha : a < j + 1
    · obtain ⟨n, h1, h2⟩ := cm_api_Seal hc hd hj (show j < d.size by omega)
      have hbody : ∀ r, g_slices_insertionSortCmpFunc_api_Seal.j3 (i1 : Int) ((j + 1 : Nat) : Int) d.toList (lt d[j + 1]! d[j]!) = r → g_slices_insertionSortCmpFunc_api_Seal.l2 (a : Int) cmp (i1 : Int) ((j + 1 : Nat) : Int) d.toList = r := fun r hr => by
        unfold g_slices_insertionSortCmpFunc_api_Seal.l2
        rw [decide_eq_true (by omega), cond_true, gi_api_Seal hj rfl, Option.bind_some, gi_api_Seal (i := j) (by omega) hW, Option.bind_some, h1, Option.bind_some, h2]
        exact hr
      cases hl : lt d[j + 1]! d[j]! with
      | true =>
        obtain ⟨q1, q2, q3⟩ := ins_inner_api_Seal hc (i1 := i1) (a := a) j (Sort.swp d (j + 1) j) (by rw [swp_size_api_Seal]; omega) (hd.swp hj (by omega))
        rw [if_pos (by simp [ha])]
        refine ⟨q1, by rw [q2, swp_size_api_Seal], ?_⟩
        have hb' : g_slices_insertionSortCmpFunc_api_Seal.l2 (a : Int) cmp (i1 : Int) ((j + 1 : Nat) : Int) d.toList = some (.next ((j : Int), (Sort.swp d (j + 1) j).toList)) := by
          refine hbody _ ?_
          rw [hl]
          unfold g_slices_insertionSortCmpFunc_api_Seal.j3
          obtain ⟨y, hy⟩ := gs_api_Seal (d := d) (x := d[j]!) (j := (((j + 1 : Nat) : Int)).toNat) (i := j) (by omega) hW
          rw [cond_true, gi_api_Seal (i := j) (by omega) hW, Option.bind_some, gi_api_Seal hj rfl, Option.bind_some, hy, Option.bind_some, hW]
          have e1 : (((j + 1 : Nat) : Int)).toNat = j + 1 := by omega
          have e2 : ((j : Int)).toNat = j := by omega
          rw [e1, e2, sw_api_Seal]
        exact (loop_next (body := fun q' => g_slices_insertionSortCmpFunc_api_Seal.l2 (a : Int) cmp (i1 : Int) q'.1 q'.2) (s := (((j + 1 : Nat) : Int), d.toList)) hb').trans q3
      | false =>
        rw [if_neg (by simp)]
        refine ⟨hd, rfl, loop_up (hbody _ ?_)⟩
        rw [hl]
        rfl
    · rw [if_neg (by simp [ha])]
      refine ⟨hd, rfl, loop_up ?_⟩
      show g_slices_insertionSortCmpFunc_api_Seal.l2 (a : Int) cmp (i1 : Int) ((j + 1 : Nat) : Int) d.toList = _
      unfold g_slices_insertionSortCmpFunc_api_Seal.l2
      rw [decide_eq_false (by omega)]
      rfl
theorem ins_outer_api_Seal (hc : CmpOk_api_Seal cmp lt P) {a b : Nat} : ∀ (n i : Nat) (d : Array api_Seal), b - i = n → b ≤ d.size → AllA_api_Seal P d →
    loop (fun q' => g_slices_insertionSortCmpFunc_api_Seal.l1 (a : Int) (b : Int) cmp q'.1 q'.2) ((i : Int), d.toList) = some (insOuter lt a b i d).toList
  | 0, i, d, hn, hb, hd => by
    unfold insOuter
    rw [if_neg (by omega)]
    refine loop_up (x := some d.toList) ?_
    show g_slices_insertionSortCmpFunc_api_Seal.l1 (a : Int) (b : Int) cmp (i : Int) d.toList = _
    unfold g_slices_insertionSortCmpFunc_api_Seal.l1
    rw [decide_eq_false (by omega)]
    rfl
  | n + 1, i, d, hn, hb, hd => by
    have hsz := hd.1
    unfold insOuter
    rw [if_pos (by omega)]
    obtain ⟨q1, q2, q3⟩ := ins_inner_api_Seal hc (a := a) (i1 := i) i d (by omega) hd
    rw [loop_next (s' := (((i + 1 : Nat) : Int), (insInner lt a i d).toList)) ?_]
    · exact ins_outer_api_Seal hc n (i + 1) _ (by omega) (by rw [q2]; exact hb) q1
    · show g_slices_insertionSortCmpFunc_api_Seal.l1 (a : Int) (b : Int) cmp (i : Int) d.toList = _
      unfold g_slices_insertionSortCmpFunc_api_Seal.l1
      rw [decide_eq_true (by omega), cond_true, q3, W_succ (by omega)]
theorem insertion_api_Seal (hc : CmpOk_api_Seal cmp lt P) {a b : Nat} {d : Array api_Seal} (hab : a ≤ b) (hb : b ≤ d.size) (hd : AllA_api_Seal P d) : g_slices_insertionSortCmpFunc_api_Seal d.toList (a : Int) (b : Int) cmp = some (insertionSort lt d a b).toList := by
  have hsz := hd.1
  unfold g_slices_insertionSortCmpFunc_api_Seal insertionSort
  rw [W_succ (by omega)]
  exact ins_outer_api_Seal hc _ (a + 1) d rfl hb hd
end
end Go.Proofs.Ytmihjbejflcgkaa
