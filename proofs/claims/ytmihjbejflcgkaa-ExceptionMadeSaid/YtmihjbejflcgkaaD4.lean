/- Package der and its reference write elements alike: the generated functions are the specs. No program is in sight here. -/
import Derived.Test.YtmihjbejflcgkaaL3
import Derived.Test.YtmihjbejflcgkaaC1
import Derived.Test.YtmihjbejflcgkaaD1
set_option linter.unusedVariables false
set_option linter.unusedSimpArgs false
namespace Go.Proofs.Ytmihjbejflcgkaa
open Go
mutual
def api_Value.sz : api_Value → Nat
  | .mk _ b _ es => b.length + szs es + 1
def szs : List api_Value → Nat
  | [] => 0
  | v :: vs => v.sz + szs vs
end
theorem sz_eq (v : api_Value) : v.sz = v.Bytes.length + szs v.Elements + 1 := by cases v; rw [api_Value.sz]
theorem szs_mem : ∀ {es : List api_Value} {d : api_Value}, d ∈ es → d.sz ≤ szs es
  | v :: vs, d, h => by
    rw [szs]
    rcases List.mem_cons.1 h with rfl | h
    · omega
    · have := szs_mem h; omega
theorem szs_len : ∀ es : List api_Value, es.length ≤ szs es
  | [] => Nat.le_refl _
  | v :: vs => by
    have := szs_len vs
    rw [szs, List.length_cons, sz_eq]; omega
theorem szs_elem {v d : api_Value} (h : d ∈ v.Elements) : d.sz < v.sz := by
  have := szs_mem h
  rw [sz_eq v]; omega
theorem bytes_clone {b : List UInt8} (h : b.length < 1073741824) : g_bytes_Clone b = some b := by
  unfold g_bytes_Clone g_bytes_Clone.j1
  have e : appI 1 ([] : List UInt8) b = some b := by rw [appI_ok (by simp; omega)]; rfl
  rw [e]
  unfold nilC
  split
  · rename_i h0; subst h0; simp
  · rfl
theorem der_copied (l : List api_Value) (h : szs l < 1073741824) : g_der_copied l = some l :=
  fixT_spec mono_der_copied id szs (fun l => szs l < 1073741824) (fun rec l hl hr => by
    show g_der_copied.F rec l = some l
    unfold g_der_copied.F
    have hn := szs_len l
    refine (loop_path l.length (fun i => ((i : Int), l.take i)) l ?_ ?_).trans ?_
    · intro i hi
      obtain ⟨e, he⟩ : ∃ e, l[i]? = some e := ⟨_, List.getElem?_eq_getElem hi⟩
      have h1 := szs_mem (at_mem he)
      have h2 := sz_eq e
      show g_der_copied.l1 rec l (i : Int) (l.take i) = _
      unfold g_der_copied.l1
      rw [for_in he, bytes_clone (by omega), hr e.Elements (by omega) (by omega)]
      simp only [id, Option.bind_some]
      rw [appI_ok (by simp; omega), W_succ (by omega), take_succ' he]
      cases e; rfl
    · show g_der_copied.l1 rec l (l.length : Int) (l.take l.length) = _
      unfold g_der_copied.l1
      rw [for_out, List.take_length]; rfl
    · rfl) l h
theorem ref01_copies (l : List api_Value) (h : szs l < 1073741824) : g_ref01_copies l = some l :=
  fixT_spec mono_ref01_copies id szs (fun l => szs l < 1073741824) (fun rec l hl hr => by
    show g_ref01_copies.F rec l = some l
    unfold g_ref01_copies.F
    have hn := szs_len l
    refine (loop_path l.length (fun i => ((i : Int), l.take i)) l ?_ ?_).trans ?_
    · intro i hi
      obtain ⟨e, he⟩ : ∃ e, l[i]? = some e := ⟨_, List.getElem?_eq_getElem hi⟩
      have h1 := szs_mem (at_mem he)
      have h2 := sz_eq e
      show g_ref01_copies.l1 rec l (i : Int) (l.take i) = _
      unfold g_ref01_copies.l1
      rw [for_in he, appI_ok (by simp; omega)]
      simp only [List.nil_append, Option.bind_some]
      rw [hr e.Elements (by omega) (by omega)]
      simp only [id, Option.bind_some]
      rw [appI_ok (by simp; omega), W_succ (by omega), take_succ' he]
      cases e; rfl
    · show g_ref01_copies.l1 rec l (l.length : Int) (l.take l.length) = _
      unfold g_ref01_copies.l1
      rw [for_out, List.take_length]; rfl
    · rfl) l h
theorem der_Of (l : List api_Value) (h : szs l < 1073741824) : g_der_Of l = some (.mk 48 [] true l) := by unfold g_der_Of; rw [der_copied l h]; rfl
theorem ref01_List (l : List api_Value) (h : szs l < 1073741824) : g_ref01_List l = some (.mk 48 [] true l) := by unfold g_ref01_List; rw [ref01_copies l h]; rfl
theorem fin256 {n : Int} (h1 : 1 ≤ n) (h2 : n ≤ 255) : ∃ m : Fin 256, n = (m.val : Int) := ⟨⟨n.toNat, by omega⟩, by simp; omega⟩
theorem and31_fin : ∀ m : Fin 256, (!decide (andK .i64 (m.val : Int) 31 = 31)) = ((m.val : Int) % 32 != 31) := by decide +kernel
theorem and32_fin : ∀ m : Fin 256, (!decide (andK .i64 (m.val : Int) 32 = 0)) = nestB (m.val : Int) := by decide +kernel
theorem rem32_fin : ∀ m : Fin 256, (!decide ((m.val : Int).tmod 32 = 31)) = ((m.val : Int) % 32 != 31) := by decide +kernel
theorem quo32_fin : ∀ m : Fin 256, ((quoI (m.val : Int) 32).bind fun q => (remI q 2).bind fun r => some (decide (r = 1))) = some (nestB (m.val : Int)) := by decide +kernel
theorem der_tag (n : Int) : g_der_tag n = some (tagB n) := by
  unfold g_der_tag tagB
  by_cases h1 : 1 ≤ n
  · by_cases h2 : n ≤ 255
    · obtain ⟨m, rfl⟩ := fin256 h1 h2
      rw [and31_fin m, decide_eq_true h1, decide_eq_true h2]; rfl
    · simp [h1, h2]
  · simp [h1]
theorem ref01_tag (n : Int) : g_ref01_tag n = some (tagB n) := by
  unfold g_ref01_tag tagB
  by_cases h1 : 1 ≤ n
  · by_cases h2 : n ≤ 255
    · obtain ⟨m, rfl⟩ := fin256 h1 h2
      rw [← rem32_fin m, decide_eq_true h1, decide_eq_true h2]; rfl
    · simp [h1, h2]
  · simp [h1]
theorem tagB_range {n : Int} (h : tagB n = true) : 1 ≤ n ∧ n ≤ 255 := by
  unfold tagB at h
  simp only [Bool.and_eq_true, decide_eq_true_eq] at h
  exact ⟨h.1.1, h.1.2⟩
theorem formed_eq (v : api_Value) : v.formed = (tagB v.Tag && (v.Nested == nestB v.Tag) && !(v.Nested && decide (0 < v.Bytes.length)) && !(!v.Nested && decide (0 < v.Elements.length)) && formedAll v.Elements) := by cases v; rw [api_Value.formed]
theorem not_any_not (l : List api_Value) : (!l.any fun v => !v.formed) = formedAll l := by
  rw [formedAll_eq]
  induction l with
  | nil => rfl
  | cons v l ih => rw [List.any_cons, List.all_cons, ← ih]; cases v.formed <;> simp
theorem der_formed (v : api_Value) (h : v.sz < 1073741824) : g_der_formed v = some v.formed :=
  fixT_spec mono_der_formed api_Value.formed api_Value.sz (fun v => v.sz < 1073741824) (fun rec v hv hr => by
    show g_der_formed.F rec v = some v.formed
    have hn := szs_len v.Elements
    have h0 := sz_eq v
    have hj1 : g_der_formed.j1 rec v true = some false := rfl
    have hj2 : g_der_formed.j1 rec v false = some (formedAll v.Elements) := by
      unfold g_der_formed.j1 g_slices_ContainsFunc_api_Value g_slices_IndexFunc_api_Value
      have hl : loop (fun q' => g_slices_IndexFunc_api_Value.l1 v.Elements (fun x0 => g_der_formed_c1 rec x0) q') 0 = some (match v.Elements.findIdx? (fun v => !v.formed) with | some i => (i : Int) | none => -1) :=
        loop_find v.Elements (fun i => (i : Int)) (fun v => !v.formed) (fun i => (i : Int)) (-1) (fun i x hx => by
          have h1 := szs_elem (at_mem hx)
          have h2 := at_lt hx
          unfold g_slices_IndexFunc_api_Value.l1 g_der_formed_c1
          rw [for_in hx]
          dsimp only
          rw [hr x (by omega) h1, W_succ (by omega)]
          cases x.formed <;> rfl) (by unfold g_slices_IndexFunc_api_Value.l1; rw [for_out]; rfl)
      rw [hl, ← not_any_not]
      simp only [cond_false, Option.bind_some]
      cases hq : v.Elements.findIdx? (fun v => !v.formed) with
      | none =>
        have := List.findIdx?_eq_none_iff.1 hq
        have : (v.Elements.any fun v => !v.formed) = false := by rw [List.any_eq_false]; simpa using this
        rw [this]; rfl
      | some i =>
        have := List.findIdx?_isSome (xs := v.Elements) (p := fun v => !v.formed)
        rw [hq] at this
        rw [← this]
        simp
    unfold g_der_formed.F
    rw [der_tag, hj1, hj2, formed_eq]
    cases ht : tagB v.Tag
    · rfl
    · obtain ⟨m, hm⟩ := fin256 (tagB_range ht).1 (tagB_range ht).2
      rw [hm, and32_fin m]
      cases v.Nested <;> cases nestB (m.val : Int) <;> by_cases hb : 0 < v.Bytes.length <;> by_cases he : 0 < v.Elements.length <;> simp [hb, he, hj1, hj2]) v h
theorem ref01_formed (v : api_Value) (h : v.sz < 1073741824) : g_ref01_formed v = some v.formed :=
  fixT_spec mono_ref01_formed api_Value.formed api_Value.sz (fun v => v.sz < 1073741824) (fun rec v hv hr => by
    show g_ref01_formed.F rec v = some v.formed
    have hn := szs_len v.Elements
    have h0 := sz_eq v
    have hj1 : g_ref01_formed.j1 rec v true = some false := rfl
    have hj2 : g_ref01_formed.j1 rec v false = some (formedAll v.Elements) := by
      unfold g_ref01_formed.j1
      have hl := loop_any (body := fun q' => g_ref01_formed.l2 rec v q') v.Elements (fun i => (i : Int)) (fun v => !v.formed) false true (fun i x hx => by
          have h1 := szs_elem (at_mem hx)
          have h2 := at_lt hx
          unfold g_ref01_formed.l2
          rw [for_in hx, hr x (by omega) h1, W_succ (by omega)]
          cases x.formed <;> rfl) (by unfold g_ref01_formed.l2; rw [for_out]; rfl)
      rw [cond_false]
      refine Eq.trans hl ?_
      rw [← not_any_not]
      cases v.Elements.any fun v => !v.formed <;> rfl
    unfold g_ref01_formed.F
    rw [ref01_tag, hj1, hj2, formed_eq]
    cases ht : tagB v.Tag
    · rfl
    · obtain ⟨m, hm⟩ := fin256 (tagB_range ht).1 (tagB_range ht).2
      have hq := quo32_fin m
      rw [hm]
      cases h1 : quoI (m.val : Int) 32 with
      | none => rw [h1] at hq; cases hq
      | some q =>
        rw [h1] at hq
        simp only [Option.bind_some] at hq
        cases h2 : remI q 2 with
        | none => rw [h2] at hq; cases hq
        | some r =>
          rw [h2] at hq
          simp only [Option.bind_some, Option.some.injEq] at hq
          simp only [Option.bind_some, h2, hq]
          cases v.Nested <;> cases nestB (m.val : Int) <;> by_cases hb : 0 < v.Bytes.length <;> by_cases he : 0 < v.Elements.length <;> simp [hb, he, hj1, hj2]) v h
theorem depthAll_le : ∀ es : List api_Value, depthAll es ≤ szs es
  | [] => Nat.le_refl _
  | v :: vs => by
    obtain ⟨t, b, n, es⟩ := v
    have h1 := depthAll_le es
    have h2 := depthAll_le vs
    rw [depthAll, szs, api_Value.depth, api_Value.sz]; omega
theorem depth_le (v : api_Value) : v.depth ≤ v.sz := by
  obtain ⟨t, b, n, es⟩ := v
  have := depthAll_le es
  rw [api_Value.depth, api_Value.sz]; omega
theorem depth_eq (v : api_Value) : v.depth = depthAll v.Elements + 1 := by cases v; rw [api_Value.depth]
theorem der_depth (v : api_Value) (h : v.sz < 1073741824) : g_der_depth v = some (v.depth : Int) :=
  fixT_spec mono_der_depth (fun v => (v.depth : Int)) api_Value.sz (fun v => v.sz < 1073741824) (fun rec v hv hr => by
    show g_der_depth.F rec v = some (v.depth : Int)
    unfold g_der_depth.F
    have hn := szs_len v.Elements
    have h0 := sz_eq v
    have hd := depth_le v
    have hq := depth_eq v
    refine (loop_path v.Elements.length (fun i => ((depthAll (v.Elements.take i) : Int), (i : Int))) (v.depth : Int) ?_ ?_).trans ?_
    · intro i hi
      obtain ⟨e, he⟩ : ∃ e, v.Elements[i]? = some e := ⟨_, List.getElem?_eq_getElem hi⟩
      have h1 := szs_elem (at_mem he)
      show g_der_depth.l1 rec v (depthAll (v.Elements.take i) : Int) (i : Int) = _
      unfold g_der_depth.l1
      rw [for_in he, hr e (by omega) h1, W_succ (by omega), depthAll_take_succ he]
      simp only [Option.bind_some]
      congr 3
      omega
    · show g_der_depth.l1 rec v (depthAll (v.Elements.take v.Elements.length) : Int) (v.Elements.length : Int) = _
      unfold g_der_depth.l1
      rw [for_out, List.take_length, W_id (by omega), hq]; rfl
    · rfl) v h
theorem ref01_depth (v : api_Value) (h : v.sz < 1073741824) : g_ref01_depth v = some (v.depth : Int) :=
  fixT_spec mono_ref01_depth (fun v => (v.depth : Int)) api_Value.sz (fun v => v.sz < 1073741824) (fun rec v hv hr => by
    show g_ref01_depth.F rec v = some (v.depth : Int)
    unfold g_ref01_depth.F
    have hn := szs_len v.Elements
    have h0 := sz_eq v
    have hd := depth_le v
    have hq := depth_eq v
    refine (loop_path v.Elements.length (fun i => ((depthAll (v.Elements.take i) : Int), (i : Int))) (v.depth : Int) ?_ ?_).trans ?_
    · intro i hi
      obtain ⟨e, he⟩ : ∃ e, v.Elements[i]? = some e := ⟨_, List.getElem?_eq_getElem hi⟩
      have h1 := szs_elem (at_mem he)
      show g_ref01_depth.l1 rec v (depthAll (v.Elements.take i) : Int) (i : Int) = _
      unfold g_ref01_depth.l1
      rw [for_in he, hr e (by omega) h1, W_succ (by omega), depthAll_take_succ he]
      simp only [Option.bind_some]
      congr 3
      omega
    · show g_ref01_depth.l1 rec v (depthAll (v.Elements.take v.Elements.length) : Int) (v.Elements.length : Int) = _
      unfold g_ref01_depth.l1
      rw [for_out, List.take_length, W_id (by omega), hq]; rfl
    · rfl) v h
end Go.Proofs.Ytmihjbejflcgkaa
