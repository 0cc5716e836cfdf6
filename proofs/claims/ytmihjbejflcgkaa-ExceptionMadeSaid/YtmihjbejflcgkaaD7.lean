/- Package der and its reference encode alike. No program is in sight here. -/
import Derived.Test.YtmihjbejflcgkaaD6
set_option linter.unusedVariables false
set_option linter.unusedSimpArgs false
namespace Go.Proofs.Ytmihjbejflcgkaa
open Go
theorem put_body (v : api_Value) : v.put = UInt8.ofNat (v.Tag.toNat % 256) :: (lenB v.body.length ++ v.body) := by cases v; exact put_eq _ _ _ _
theorem body_eq (v : api_Value) : v.body = if v.Nested then putAll v.Elements else v.Bytes := by cases v; rfl
theorem body_le (v : api_Value) (h : v.sz < 67108864) : v.body.length ≤ 8 * v.sz := by
  have h1 := put_le v h
  rw [put_body] at h1
  simp at h1
  omega
theorem formed_tag {v : api_Value} (h : v.formed = true) : u8 v.Tag = UInt8.ofNat (v.Tag.toNat % 256) := by
  rw [formed_eq] at h
  simp only [Bool.and_eq_true] at h
  obtain ⟨m, hm⟩ := fin256 (tagB_range h.1.1.1.1).1 (tagB_range h.1.1.1.1).2
  rw [hm, u8_nat, Int.toNat_natCast, Nat.mod_eq_of_lt m.2]
theorem formed_cat {v : api_Value} (h : v.formed = true) : v.Bytes ++ putAll v.Elements = v.body := by
  rw [formed_eq] at h
  simp only [Bool.and_eq_true] at h
  obtain ⟨⟨⟨-, h1⟩, h2⟩, -⟩ := h
  rw [body_eq]
  cases hn : v.Nested with
  | true =>
    rw [hn] at h1
    have : v.Bytes = [] := List.eq_nil_of_length_eq_zero (by simp at h1; simpa using h1)
    rw [this]; rfl
  | false =>
    rw [hn] at h2
    have : v.Elements = [] := List.eq_nil_of_length_eq_zero (by simp at h2; simpa using h2)
    rw [this]; simp [putAll]
theorem formed_mem {v e : api_Value} (h : v.formed = true) (he : e ∈ v.Elements) : e.formed = true := by
  rw [formed_eq] at h
  simp only [Bool.and_eq_true] at h
  have := h.2
  rw [formedAll_eq, List.all_eq_true] at this
  exact this e he
def Fit (v : api_Value) : Prop := v.formed = true ∧ v.sz < 67108864
theorem Fit.elem {v e : api_Value} (h : Fit v) (he : e ∈ v.Elements) : Fit e := ⟨formed_mem h.1 he, Nat.lt_trans (szs_elem he) h.2⟩
theorem putAll_take_le' {v : api_Value} (h : Fit v) (i : Nat) : (putAll (v.Elements.take i)).length ≤ 536870912 := by
  have h1 := putAll_take_le (es := v.Elements) i
  have h0 := sz_eq v
  have h2 := h.2
  have h3 := putAll_le v.Elements (by omega)
  omega
theorem ref01_put (v : api_Value) (h : Fit v) : g_ref01_put v = some v.put :=
  fixT_spec mono_ref01_put api_Value.put api_Value.sz Fit (fun rec v hv hr => by
    show g_ref01_put.F rec v = some v.put
    unfold g_ref01_put.F
    have hn := szs_len v.Elements
    have h0 := sz_eq v
    have hz := hv.2
    rw [appI_ok (by simp; omega), List.nil_append, Option.bind_some]
    refine Eq.trans (congrArg (loop _) ?_) (loop_path v.Elements.length (fun i => ((i : Int), v.Bytes ++ putAll (v.Elements.take i))) v.put ?_ ?_)
    · simp [putAll]
    · intro i hi
      obtain ⟨e, he⟩ : ∃ e, v.Elements[i]? = some e := ⟨_, List.getElem?_eq_getElem hi⟩
      have h1 := szs_elem (at_mem he)
      have h2 := putAll_take_le' hv i
      have h3 := put_le e (by omega)
      show g_ref01_put.l1 rec v (i : Int) (v.Bytes ++ putAll (v.Elements.take i)) = _
      unfold g_ref01_put.l1
      rw [for_in he, hr e (hv.elem (at_mem he)) h1, Option.bind_some, appI_ok (by simp; omega), W_succ (by omega), putAll_take_succ he, List.append_assoc]
      rfl
    · show g_ref01_put.l1 rec v (v.Elements.length : Int) (v.Bytes ++ putAll (v.Elements.take v.Elements.length)) = _
      have h4 := body_le v hz
      have h5 := lenB_le (n := v.body.length) (by omega)
      unfold g_ref01_put.l1
      rw [for_out, List.take_length, formed_cat hv.1, ref01_length (by omega), Option.bind_some, appI_ok (by simp; omega), Option.bind_some, appI_ok (by simp; omega), Option.bind_some, formed_tag hv.1, put_body]
      simp [up]) v h
theorem der_element {rec : api_Value → Option (List UInt8)} {b : List UInt8} {v : api_Value} (hr : rec v = some v.body) (hb : b.length ≤ 536870912) (hv : Fit v) : g_der_element rec b v = some (b ++ v.put) := by
  have h4 := body_le v hv.2
  have hz := hv.2
  have h5 := lenB_le (n := v.body.length) (by omega)
  unfold g_der_element
  rw [hr, Option.bind_some, appI_ok (by simp; omega), Option.bind_some, der_length (by omega) (by simp; omega), Option.bind_some, appI_ok (by simp; omega), Option.bind_some, formed_tag hv.1, put_body]
  simp
theorem der_contents (v : api_Value) (h : Fit v) : g_der_contents v = some v.body :=
  fixT_spec mono_der_contents api_Value.body api_Value.sz Fit (fun rec v hv hr => by
    show g_der_contents.F rec v = some v.body
    unfold g_der_contents.F
    have hn := szs_len v.Elements
    have h0 := sz_eq v
    have hz := hv.2
    rw [body_eq]
    cases hN : v.Nested with
    | false => rfl
    | true =>
      rw [Bool.not_true, cond_false, if_pos rfl]
      refine loop_path v.Elements.length (fun i => ((i : Int), putAll (v.Elements.take i))) (putAll v.Elements) ?_ ?_
      · intro i hi
        obtain ⟨e, he⟩ : ∃ e, v.Elements[i]? = some e := ⟨_, List.getElem?_eq_getElem hi⟩
        have h1 := szs_elem (at_mem he)
        have h2 := putAll_take_le' hv i
        have hf := hv.elem (at_mem he)
        show g_der_contents.l1 rec v (i : Int) (putAll (v.Elements.take i)) = _
        unfold g_der_contents.l1
        rw [for_in he, der_element (hr e hf h1) h2 hf, W_succ (by omega), putAll_take_succ he]
        rfl
      · show g_der_contents.l1 rec v (v.Elements.length : Int) (putAll (v.Elements.take v.Elements.length)) = _
        unfold g_der_contents.l1
        rw [for_out, List.take_length]; rfl) v h
theorem der_element_nil (v : api_Value) (h : Fit v) : g_der_element_nil v = some v.put := by
  have e := der_element (rec := g_der_contents) (b := []) (der_contents v h) (by simp) h
  exact e
def encS (v : api_Value) : List UInt8 × Int := if v.formed then (if 16 < v.depth then ([], 3) else if 4096 < v.put.length then ([], 3) else (v.put, 0)) else ([], 1)
theorem der_Encode (v : api_Value) (h : v.sz < 67108864) : g_der_Encode v = some (encS v) := by
  unfold g_der_Encode encS
  rw [der_formed v (by omega), Option.bind_some]
  cases hf : v.formed with
  | false => rfl
  | true =>
    rw [Bool.not_true, cond_false, if_pos rfl, der_depth v (by omega), Option.bind_some]
    by_cases hd : 16 < v.depth
    · rw [decide_eq_true (by omega), if_pos hd]; rfl
    · rw [decide_eq_false (by omega), if_neg hd, cond_false, der_element_nil v ⟨hf, h⟩, Option.bind_some]
      by_cases hl : 4096 < v.put.length
      · rw [decide_eq_true (by omega), if_pos hl]; rfl
      · rw [decide_eq_false (by omega), if_neg hl]; rfl
theorem ref01_Encode (v : api_Value) (h : v.sz < 67108864) : g_ref01_Encode v = some (encS v) := by
  unfold g_ref01_Encode encS
  rw [ref01_formed v (by omega), Option.bind_some]
  cases hf : v.formed with
  | false => rfl
  | true =>
    rw [Bool.not_true, cond_false, if_pos rfl, ref01_depth v (by omega), Option.bind_some]
    by_cases hd : 16 < v.depth
    · rw [decide_eq_true (by omega), if_pos hd]; rfl
    · rw [decide_eq_false (by omega), if_neg hd, cond_false, ref01_put v ⟨hf, h⟩, Option.bind_some]
      by_cases hl : 4096 < v.put.length
      · rw [decide_eq_true (by omega), if_pos hl]; rfl
      · rw [decide_eq_false (by omega), if_neg hl]; rfl
end Go.Proofs.Ytmihjbejflcgkaa
