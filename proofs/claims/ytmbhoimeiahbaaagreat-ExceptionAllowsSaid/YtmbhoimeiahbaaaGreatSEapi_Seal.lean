/- Plain texts, joined. No program is in sight here. -/
import Derived.Test.YtmbhoimeiahbaaaGreatL3
import Derived.Test.YtmbhoimeiahbaaaGreatC1
import Derived.Sort.AssemblyPlain
set_option linter.unusedVariables false
set_option linter.unusedSimpArgs false
namespace Go.Proofs.YtmbhoimeiahbaaaGreat
section
open Go Go.Sort
theorem shr_pos {x : Int} (hx : 0 ≤ x) (k : Nat) (hk : k ≤ 64) : shrK .u64 x (k : Int) = some (x / 2 ^ k) := by
  unfold shrK
  rw [if_neg (by omega)]
  have e : min ((k : Int)).toNat IntKind.u64.bits = k := by
    show min ((k : Int)).toNat 64 = k
    omega
  rw [e, Int.fdiv_eq_ediv_of_nonneg _ (Int.le_of_lt (Int.pow_pos (by decide)))]
noncomputable def chkLen (x : Nat) : Bool := match g_math_bits_Len64.j3 (x : Int) 0 with | some L => decide (0 ≤ L ∧ L ≤ 8 ∧ x < 2 ^ L.toNat ∧ (x = 0 ∨ 2 ^ L.toNat ≤ 2 * x)) | none => false
theorem chkLen_all : (List.range 256).all chkLen = true := by decide +kernel
theorem j3_len (x n : Int) : g_math_bits_Len64.j3 x n = (g_math_bits_Len64.j3 x 0).bind fun c => some (W (n + c)) := by
  unfold g_math_bits_Len64.j3
  cases idxT _ ((u8 x).toNat : Int) with
  | none => rfl
  | some c =>
    have := c.toNat_lt
    show some (W (n + (c.toNat : Int))) = some (W (n + W (0 + (c.toNat : Int))))
    rw [W_id (x := 0 + (c.toNat : Int)) (by omega), Int.zero_add]
theorem j3_ok (x : Nat) (hx : x < 256) : ∃ L : Nat, L ≤ 8 ∧ x < 2 ^ L ∧ (x = 0 ∨ 2 ^ L ≤ 2 * x) ∧ ∀ n : Nat, n < 1000 → g_math_bits_Len64.j3 (x : Int) (n : Int) = some ((n + L : Nat) : Int) := by
  have h := List.all_eq_true.1 chkLen_all x (List.mem_range.2 hx)
  unfold chkLen at h
  cases hj : g_math_bits_Len64.j3 (x : Int) 0 with
  | none => rw [hj] at h; cases h
  | some L =>
    rw [hj] at h
    obtain ⟨h1, h2, h3, h4⟩ := of_decide_eq_true h
    refine ⟨L.toNat, by omega, h3, h4, fun n hn => ?_⟩
    rw [j3_len, hj, Option.bind_some, W_id (by omega)]
    exact congrArg some (by omega)
theorem len_ok (x : Nat) (hx : x < 65536) : ∃ L : Nat, L ≤ 16 ∧ x < 2 ^ L ∧ (x = 0 ∨ 2 ^ L ≤ 2 * x) ∧ g_math_bits_Len (x : Int) = some (L : Int) := by
  by_cases h : x < 256
  · obtain ⟨L, h1, h2, h3, h4⟩ := j3_ok x h
    refine ⟨L, by omega, h2, h3, ?_⟩
    have h5 : g_math_bits_Len64.j3 (x : Int) 0 = some (L : Int) := by
      have h6 := h4 0 (by omega)
      rw [Nat.zero_add] at h6
      exact h6
    unfold g_math_bits_Len g_math_bits_Len64 g_math_bits_Len64.j1 g_math_bits_Len64.j2
    rw [decide_eq_false (by omega), cond_false, decide_eq_false (by omega), cond_false, decide_eq_false (by omega), cond_false]
    rw [h5, Option.bind_some]
  · obtain ⟨L, h1, h2, h3, h4⟩ := j3_ok (x / 256) (by omega)
    refine ⟨8 + L, by omega, ?_, ?_, ?_⟩
    · rw [Nat.pow_add]; omega
    · rw [Nat.pow_add]; omega
    · have h5 := h4 8 (by omega)
      unfold g_math_bits_Len g_math_bits_Len64 g_math_bits_Len64.j1 g_math_bits_Len64.j2
      rw [decide_eq_false (by omega), cond_false, decide_eq_false (by omega), cond_false, decide_eq_true (by omega), cond_true]
      have e : shrK .u64 (x : Int) 8 = some ((x / 256 : Nat) : Int) := by
        rw [show (8 : Int) = ((8 : Nat) : Int) from rfl, shr_pos (by omega) 8 (by omega)]
        rfl
      rw [e, Option.bind_some, show W (0 + 8) = ((8 : Nat) : Int) from rfl, h5, Option.bind_some]
theorem wrap_pos {x : Int} (h : 0 ≤ x ∧ x < 18446744073709551616) : IntKind.u64.wrap x = x := by
  have e : IntKind.u64.wrap x = x % 18446744073709551616 := by simp [IntKind.wrap, IntKind.bits, IntKind.signed]
  rw [e]; omega
end
section
open Go Go.Sort
section
variable {cmp : api_Seal → api_Seal → Option Int} {lt : api_Seal → api_Seal → Bool} {P : api_Seal → Prop}
def CmpOk_api_Seal (cmp : api_Seal → api_Seal → Option Int) (lt : api_Seal → api_Seal → Bool) (P : api_Seal → Prop) : Prop := ∀ x y, P x → P y → ∃ n, cmp x y = some n ∧ decide (n < 0) = lt x y
def AllA_api_Seal (P : api_Seal → Prop) (d : Array api_Seal) : Prop := d.size ≤ 1000000000 ∧ ∀ i, i < d.size → P d[i]!
theorem swp_size_api_Seal (d : Array api_Seal) (i j : Nat) : (swp d i j).size = d.size := by simp [swp]
theorem AllA_api_Seal.swp {d : Array api_Seal} (h : AllA_api_Seal P d) {i j : Nat} (hi : i < d.size) (hj : j < d.size) : AllA_api_Seal P (Sort.swp d i j) := by
  refine ⟨by rw [swp_size_api_Seal]; exact h.1, fun k hk => ?_⟩
  rw [swp_size_api_Seal] at hk
  unfold Sort.swp
  by_cases h1 : j = k
  · subst h1
    rw [getElem!_pos ((d.setIfInBounds i d[j]!).setIfInBounds j d[i]!) _ (by simpa using hk)]
    simp only [Array.getElem_setIfInBounds_self]
    exact h.2 i hi
  · by_cases h2 : i = k
    · subst h2
      rw [getElem!_pos ((d.setIfInBounds i d[j]!).setIfInBounds j d[i]!) _ (by simpa using hk)]
      rw [Array.getElem_setIfInBounds_ne (by simpa using hk) (by omega)]
      simp only [Array.getElem_setIfInBounds_self]
      exact h.2 j hj
    · rw [getElem!_pos _ _ (by simpa using hk)]
      rw [Array.getElem_setIfInBounds_ne (by simpa using hk) (by omega), Array.getElem_setIfInBounds_ne (by simpa using hk) (by omega)]
      have := h.2 k hk
      rwa [getElem!_pos d k hk] at this
theorem gi_api_Seal {d : Array api_Seal} {i : Nat} (h : i < d.size) {k : Int} (hk : k = (i : Int)) : getI d.toList k = some d[i]! := by
  subst hk
  rw [getI_nat, Array.getElem?_toList, Array.getElem?_eq_getElem h, getElem!_pos d i h]
theorem setI_arr_api_Seal (d : Array api_Seal) (i : Nat) (x : api_Seal) : setI d.toList i x = (d.setIfInBounds i x).toList := by
  unfold setI
  simp
theorem gs_api_Seal {d : Array api_Seal} {i : Nat} {x : api_Seal} {j : Nat} (h : i < d.size) {k : Int} (hk : k = (i : Int)) : ∃ y, getI (setI d.toList j x) k = some y := by
  subst hk
  rw [getI_nat]
  exact ⟨_, List.getElem?_eq_getElem (by unfold setI; simpa using h)⟩
theorem sw_api_Seal (d : Array api_Seal) (i j : Nat) : setI (setI d.toList i d[j]!) j d[i]! = (Sort.swp d i j).toList := by
  rw [setI_arr_api_Seal, setI_arr_api_Seal]
  rfl
theorem cm_api_Seal (hc : CmpOk_api_Seal cmp lt P) {d : Array api_Seal} (h : AllA_api_Seal P d) {i j : Nat} (hi : i < d.size) (hj : j < d.size) : ∃ n, cmp d[i]! d[j]! = some n ∧ decide (n < 0) = lt d[i]! d[j]! := hc _ _ (h.2 i hi) (h.2 j hj)
theorem ins_inner_api_Seal (hc : CmpOk_api_Seal cmp lt P) {a i1 : Nat} : ∀ (j : Nat) (d : Array api_Seal), j < d.size → AllA_api_Seal P d →
    AllA_api_Seal P (insInner lt a j d) ∧ (insInner lt a j d).size = d.size ∧ loop (fun q' => g_slices_insertionSortCmpFunc_api_Seal.l2 (a : Int) cmp (i1 : Int) q'.1 q'.2) ((j : Int), d.toList) = some (.next (W ((i1 : Int) + 1), (insInner lt a j d).toList))
  | 0, d, hj, hd => by
    refine ⟨hd, rfl, loop_up ?_⟩
    show g_slices_insertionSortCmpFunc_api_Seal.l2 (a : Int) cmp (i1 : Int) ((0 : Nat) : Int) d.toList = _
    unfold g_slices_insertionSortCmpFunc_api_Seal.l2
    rw [decide_eq_false (by omega)]
    rfl
  | j + 1, d, hj, hd => by
    have hsz := hd.1
    have hW : W (((j + 1 : Nat) : Int) - 1) = (j : Int) := by rw [W_id (by omega)]; omega
    unfold insInner
    by_cases ha : a < j + 1
    · obtain ⟨n, h1, h2⟩ := cm_api_Seal hc hd hj (show j < d.size by omega)
      have hbody : ∀ r, g_slices_insertionSortCmpFunc_api_Seal.j3 (i1 : Int) ((j + 1 : Nat) : Int) d.toList (lt d[j + 1]! d[j]!) = r → g_slices_insertionSortCmpFunc_api_Seal.l2 (a : Int) cmp (i1 : Int) ((j + 1 : Nat) : Int) d.toList = r := fun r hr => by
        unfold g_slices_insertionSortCmpFunc_api_Seal.l2
        rw [decide_eq_true (by omega), cond_true, gi_api_Seal hj rfl, Option.bind_some, gi_api_Seal (i := j) (by omega) hW, Option.bind_some, h1, Option.bind_some, h2]
        exact hr
      cases hl : lt d[j + 1]! d[j]! with
      | true =>
        obtain ⟨q1, q2, q3⟩ := ins_inner_api_Seal hc (i1 := i1) (a := a) j (Sort.swp d (j + 1) j) (by rw [swp_size_api_Seal]; omega) (hd.swp hj (by omega))
        rw [if_pos (by simp [ha])]
        refine ⟨q1, by rw [q2, swp_size_api_Seal], ?_⟩
        have hb' : g_slices_insertionSortCmpFunc_api_Seal.l2 (a : Int) cmp (i1 : Int) ((j + 1 : Nat) : Int) d.toList = some (.next ((j : Int), (Sort.swp d (j + 1) j).toList)) := by
          refine hbody _ ?_
          rw [hl]
          unfold g_slices_insertionSortCmpFunc_api_Seal.j3
          obtain ⟨y, hy⟩ := gs_api_Seal (d := d) (x := d[j]!) (j := (((j + 1 : Nat) : Int)).toNat) (i := j) (by omega) hW
          rw [cond_true, gi_api_Seal (i := j) (by omega) hW, Option.bind_some, gi_api_Seal hj rfl, Option.bind_some, hy, Option.bind_some, hW]
          have e1 : (((j + 1 : Nat) : Int)).toNat = j + 1 := by omega
          have e2 : ((j : Int)).toNat = j := by omega
          rw [e1, e2, sw_api_Seal]
        exact (loop_next (body := fun q' => g_slices_insertionSortCmpFunc_api_Seal.l2 (a : Int) cmp (i1 : Int) q'.1 q'.2) (s := (((j + 1 : Nat) : Int), d.toList)) hb').trans q3
      | false =>
        rw [if_neg (by simp)]
        refine ⟨hd, rfl, loop_up (hbody _ ?_)⟩
        rw [hl]
        rfl
    · rw [if_neg (by simp [ha])]
      refine ⟨hd, rfl, loop_up ?_⟩
      show g_slices_insertionSortCmpFunc_api_Seal.l2 (a : Int) cmp (i1 : Int) ((j + 1 : Nat) : Int) d.toList = _
      unfold g_slices_insertionSortCmpFunc_api_Seal.l2
      rw [decide_eq_false (by omega)]
      rfl
theorem ins_outer_api_Seal (hc : CmpOk_api_Seal cmp lt P) {a b : Nat} : ∀ (n i : Nat) (d : Array api_Seal), b - i = n → b ≤ d.size → AllA_api_Seal P d →
    loop (fun q' => g_slices_insertionSortCmpFunc_api_Seal.l1 (a : Int) (b : Int) cmp q'.1 q'.2) ((i : Int), d.toList) = some (insOuter lt a b i d).toList
  | 0, i, d, hn, hb, hd => by
    unfold insOuter
    rw [if_neg (by omega)]
    refine loop_up (x := some d.toList) ?_
    show g_slices_insertionSortCmpFunc_api_Seal.l1 (a : Int) (b : Int) cmp (i : Int) d.toList = _
    unfold g_slices_insertionSortCmpFunc_api_Seal.l1
    rw [decide_eq_false (by omega)]
    rfl
  | n + 1, i, d, hn, hb, hd => by
    have hsz := hd.1
    unfold insOuter
    rw [if_pos (by omega)]
    obtain ⟨q1, q2, q3⟩ := ins_inner_api_Seal hc (a := a) (i1 := i) i d (by omega) hd
    rw [loop_next (s' := (((i + 1 : Nat) : Int), (insInner lt a i d).toList)) ?_]
    · exact ins_outer_api_Seal hc n (i + 1) _ (by omega) (by rw [q2]; exact hb) q1
    · show g_slices_insertionSortCmpFunc_api_Seal.l1 (a : Int) (b : Int) cmp (i : Int) d.toList = _
      unfold g_slices_insertionSortCmpFunc_api_Seal.l1
      rw [decide_eq_true (by omega), cond_true, q3, W_succ (by omega)]
theorem insertion_api_Seal (hc : CmpOk_api_Seal cmp lt P) {a b : Nat} {d : Array api_Seal} (hab : a ≤ b) (hb : b ≤ d.size) (hd : AllA_api_Seal P d) : g_slices_insertionSortCmpFunc_api_Seal d.toList (a : Int) (b : Int) cmp = some (insertionSort lt d a b).toList := by
  have hsz := hd.1
  unfold g_slices_insertionSortCmpFunc_api_Seal insertionSort
  rw [W_succ (by omega)]
  exact ins_outer_api_Seal hc _ (a + 1) d rfl hb hd
end
end
section
open Go Go.Sort
section
variable {cmp : api_Seal → api_Seal → Option Int} {lt : api_Seal → api_Seal → Bool} {P : api_Seal → Prop}
def cap_api_Seal : Nat := 12
theorem sortC_api_Seal (hS : SWO lt) (hc : CmpOk_api_Seal cmp lt P) (l : List api_Seal) (hl : l.length ≤ cap_api_Seal) (hP : ∀ x ∈ l, P x) :
    Ok (g_slices_SortFunc_api_Seal l cmp) (fun r => r.Perm l ∧ r.Pairwise (fun x y => lt y x = false)) := by
  unfold cap_api_Seal at hl
  obtain ⟨L, _, _, _, h4⟩ := len_ok l.length (by omega)
  have hsz : l.toArray.size = l.length := by simp
  have hA : AllA_api_Seal P l.toArray := ⟨by omega, fun i hi => by
    rw [getElem!_pos l.toArray i hi]
    exact hP _ (by simp)⟩
  obtain ⟨k1, k2⟩ := insertionSort_holds hS l.toArray 0 l.toArray.size (Nat.zero_le _) (Nat.le_refl _)
  have hi := insertion_api_Seal hc (a := 0) (b := l.toArray.size) (Nat.zero_le _) (Nat.le_refl _) hA
  generalize insertionSort lt l.toArray 0 l.toArray.size = d' at k1 k2 hi
  have hz := k1.1
  have hp : g_slices_pdqsortCmpFunc_api_Seal l 0 (l.length : Int) (L : Int) cmp = some d'.toList := by
    unfold g_slices_pdqsortCmpFunc_api_Seal
    refine loop_up ?_
    unfold g_slices_pdqsortCmpFunc_api_Seal.l1
    rw [hsz] at hi
    have hi' : g_slices_insertionSortCmpFunc_api_Seal l 0 (l.length : Int) cmp = some d'.toList := hi
    rw [W_id (by omega), decide_eq_true (by omega), cond_true, hi']
    rfl
  unfold g_slices_SortFunc_api_Seal
  rw [wrap_pos (by omega), h4, Option.bind_some, hp, Option.bind_some]
  refine Ok.ret ⟨?_, ?_⟩
  · have := k1.2.2
    have e1 : d'.extract 0 l.toArray.size = d' := by
      rw [← hz]; exact Array.extract_size
    have e2 : l.toArray.extract 0 l.toArray.size = l.toArray := Array.extract_size
    rw [e1, e2] at this
    exact this
  · rw [List.pairwise_iff_getElem]
    intro i j hi hj hij
    have hi' : i < d'.size := by simpa using hi
    have hj' : j < d'.size := by simpa using hj
    have := k2 i j (Nat.zero_le _) hij (by omega)
    rw [getElem!_pos d' i hi', getElem!_pos d' j hj'] at this
    simpa using this
end
end
end Go.Proofs.YtmbhoimeiahbaaaGreat
