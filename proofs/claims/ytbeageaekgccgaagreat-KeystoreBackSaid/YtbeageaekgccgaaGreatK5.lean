/- Certificates: the element that is signed. No program is in sight here. -/
import Derived.Test.YtbeageaekgccgaaGreatK4
import Derived.Test.YtbeageaekgccgaaGreatD7
set_option linter.unusedVariables false
set_option linter.unusedSimpArgs false
namespace Go.Proofs.YtbeageaekgccgaaGreat
open Go
def textV (s : ByteArray) : api_Value := .mk 12 (toB s) false []
def boolV (b : Bool) : api_Value := .mk 1 [bif b then 255 else 0] false []
def listV (l : List api_Value) : api_Value := .mk 48 [] true l
def useV (u : api_Use) : api_Value := listV [intV u.Alg, intV u.Bits]
def bodyL (c : api_Certificate) : List api_Value := [intV c.Serial, textV c.Issuer, textV c.Subject, useV c.Key, intV c.KeyId, useV c.Hash, intV c.From, intV c.To, boolV c.Authority, intV c.Path, listV (c.Names.map textV)]
def bodyV (c : api_Certificate) : api_Value := listV (bodyL c)
theorem nameS_size {s : ByteArray} (h : nameS s = true) : s.size ≤ 32 := by
  unfold nameS at h
  simp only [Bool.and_eq_true, decide_eq_true_eq] at h
  omega
theorem namesS_size {l : List ByteArray} (h : namesS l = true) : ∀ s ∈ l, s.size ≤ 32 := by
  intro s hs
  obtain ⟨i, hi, e⟩ := List.getElem_of_mem hs
  unfold namesS at h
  have h1 : (List.range l.length).any (badN l) = false := by simpa using h
  rw [List.any_eq_false] at h1
  have h2 := h1 i (List.mem_range.2 hi)
  unfold badN at h2
  rw [getD_at (List.getElem?_eq_getElem hi), e] at h2
  refine nameS_size ?_
  cases hn : nameS s with
  | true => rfl
  | false => rw [hn] at h2; simp at h2
theorem valid_sizes {c : api_Certificate} (h : certS c = true) : c.Issuer.size ≤ 32 ∧ c.Subject.size ≤ 32 ∧ c.Names.length ≤ 8 ∧ ∀ s ∈ c.Names, s.size ≤ 32 := by
  unfold certS certBad at h
  simp only [List.any_cons, List.any_nil, id, Bool.not_eq_true', Bool.or_eq_false_iff] at h
  obtain ⟨-, -, h3, h4, h5, h6, -⟩ := h
  refine ⟨nameS_size (by simpa using h3), nameS_size (by simpa using h4), ?_, namesS_size (by simpa using h5)⟩
  have := of_decide_eq_false h6
  omega
theorem text_sz (s : ByteArray) : (textV s).sz = s.size + 1 := by
  unfold textV
  rw [sz_eq]
  show (toB s).length + szs [] + 1 = _
  rw [toB_len, szs]
theorem texts_sz : ∀ l : List ByteArray, (∀ s ∈ l, s.size ≤ 32) → szs (l.map textV) ≤ 33 * l.length
  | [], _ => Nat.le_refl _
  | s :: l, h => by
    have h1 := texts_sz l fun x hx => h x (List.mem_cons_of_mem _ hx)
    have h2 := h s (List.mem_cons_self ..)
    rw [List.map_cons, szs, text_sz, List.length_cons]; omega
theorem use_sz (u : api_Use) : (useV u).sz ≤ 19 := by
  unfold useV listV
  have h1 := intV_sz u.Alg
  have h2 := intV_sz u.Bits
  rw [sz_eq]
  show 0 + szs [intV u.Alg, intV u.Bits] + 1 ≤ 19
  simp only [szs]; omega
theorem list_sz (l : List api_Value) : (listV l).sz = szs l + 1 := by
  unfold listV
  rw [sz_eq]
  show 0 + szs l + 1 = _
  omega
theorem body_sz {c : api_Certificate} (h : certS c = true) : szs (bodyL c) ≤ 1000 := by
  obtain ⟨h1, h2, h3, h4⟩ := valid_sizes h
  have t := texts_sz c.Names h4
  have a1 := intV_sz c.Serial
  have a2 := use_sz c.Key
  have a3 := intV_sz c.KeyId
  have a4 := use_sz c.Hash
  have a5 := intV_sz c.From
  have a6 := intV_sz c.To
  have a7 := intV_sz c.Path
  have a8 : (boolV c.Authority).sz = 2 := by unfold boolV; rw [sz_eq]; simp [szs]
  unfold bodyL
  simp only [szs, text_sz, list_sz, a8]
  omega
theorem cat_Use (u : api_Use) : g_certificate_Use u = some (useV u) := by
  have := use_sz u
  unfold useV at this
  rw [list_sz] at this
  unfold g_certificate_Use
  rw [der_Int, Option.bind_some, der_Int, Option.bind_some, der_Of _ (by omega)]; rfl
theorem ref_use (u : api_Use) (h1 : -9223372036854775808 ≤ u.Alg ∧ u.Alg ≤ 9223372036854775807) (h2 : -9223372036854775808 ≤ u.Bits ∧ u.Bits ≤ 9223372036854775807) : g_ref03_use u = some (useV u) := by
  have := use_sz u
  unfold useV at this
  rw [list_sz] at this
  unfold g_ref03_use
  rw [ref01_Int _ h1.1 h1.2, Option.bind_some, ref01_Int _ h2.1 h2.2, Option.bind_some, ref01_List _ (by omega)]; rfl
theorem der_Bool (b : Bool) : g_der_Bool b = some (boolV b) := by cases b <;> rfl
theorem ref01_Bool (b : Bool) : g_ref01_Bool b = some (boolV b) := by cases b <;> rfl
theorem cat_body (c : api_Certificate) (h : certS c = true) : g_certificate_body c = some (bodyV c) := by
  obtain ⟨h1, h2, h3, h4⟩ := valid_sizes h
  have t := texts_sz c.Names h4
  have hb := body_sz h
  unfold g_certificate_body
  refine loop_path (body := fun q' => g_certificate_body.l1 c q'.1 q'.2) c.Names.length (fun i => ((i : Int), (c.Names.take i).map textV)) (bodyV c) ?_ ?_
  · intro i hi
    obtain ⟨s, hx⟩ : ∃ s, c.Names[i]? = some s := ⟨_, List.getElem?_eq_getElem hi⟩
    show g_certificate_body.l1 c (i : Int) ((c.Names.take i).map textV) = _
    unfold g_certificate_body.l1
    rw [for_in hx, show g_der_Text s = some (textV s) from rfl, Option.bind_some, appI_ok (by simp; omega), Option.bind_some, W_succ (by omega), take_succ' hx, List.map_append]
    rfl
  · show g_certificate_body.l1 c (c.Names.length : Int) ((c.Names.take c.Names.length).map textV) = _
    unfold g_certificate_body.l1
    have hT : ∀ s, g_der_Text s = some (textV s) := fun _ => rfl
    rw [for_out, List.take_length]
    simp only [der_Int, hT, cat_Use, der_Bool, Option.bind_some]
    rw [der_List _ (by omega)]
    simp only [Option.bind_some]
    show up ((g_der_Of (bodyL c)).bind fun y => some y) = _
    rw [der_Of _ (show szs (bodyL c) < 1073741824 by omega)]
    rfl
theorem ref_body (c : api_Certificate) (hf : FitC c) (h : certS c = true) : g_ref03_body c = some (bodyV c) := by
  obtain ⟨h1, h2, h3, h4⟩ := valid_sizes h
  have t := texts_sz c.Names h4
  have hb := body_sz h
  have hi := hf.ints
  simp only [List.mem_cons, List.not_mem_nil, or_false, forall_eq_or_imp, forall_eq] at hi
  obtain ⟨i1, i2, i3, i4, i5, i6, i7, i8, i9, -⟩ := hi
  unfold g_ref03_body
  refine loop_path (body := fun q' => g_ref03_body.l1 c q'.1 q'.2) c.Names.length (fun i => ((i : Int), (c.Names.take i).map textV)) (bodyV c) ?_ ?_
  · intro i hi
    obtain ⟨s, hx⟩ : ∃ s, c.Names[i]? = some s := ⟨_, List.getElem?_eq_getElem hi⟩
    show g_ref03_body.l1 c (i : Int) ((c.Names.take i).map textV) = _
    unfold g_ref03_body.l1
    rw [for_in hx, show g_ref01_Text s = some (textV s) from rfl, Option.bind_some, appI_ok (by simp; omega), Option.bind_some, W_succ (by omega), take_succ' hx, List.map_append]
    rfl
  · show g_ref03_body.l1 c (c.Names.length : Int) ((c.Names.take c.Names.length).map textV) = _
    unfold g_ref03_body.l1
    have hT : ∀ s, g_ref01_Text s = some (textV s) := fun _ => rfl
    rw [for_out, List.take_length, ref01_Int _ i1.1 i1.2, ref01_Int _ i4.1 i4.2, ref01_Int _ i7.1 i7.2, ref01_Int _ i8.1 i8.2, ref01_Int _ i9.1 i9.2, ref_use _ i2 i3, ref_use _ i5 i6]
    simp only [hT, ref01_Bool, Option.bind_some]
    rw [ref01_List _ (by omega)]
    simp only [Option.bind_some]
    show up ((g_ref01_List (bodyL c)).bind fun y => some y) = _
    rw [ref01_List _ (show szs (bodyL c) < 1073741824 by omega)]
    rfl
def bytesS (c : api_Certificate) : List UInt8 × Int := bif certS c then encS (bodyV c) else ([], 9)
theorem bodyV_sz {c : api_Certificate} (h : certS c = true) : (bodyV c).sz < 67108864 := by
  have := body_sz h
  unfold bodyV
  rw [list_sz]; omega
theorem ref_Bytes (c : api_Certificate) (hf : FitC c) : g_ref03_Bytes c = some (bytesS c) := by
  unfold g_ref03_Bytes bytesS
  rw [ref_Check c hf, Option.bind_some]
  cases h : certS c with
  | false => rfl
  | true =>
    show (g_ref03_body c).bind _ = _
    rw [ref_body c hf h, Option.bind_some, ref01_Encode _ (bodyV_sz h)]; rfl
end Go.Proofs.YtbeageaekgccgaaGreat
