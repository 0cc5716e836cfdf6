/- The catalog's strengths and kinds are the reference's. No program is in sight here. -/
import Derived.Test.YtfkgbfhpibiheaaL1
import Derived.Test.YtfkgbfhpibiheaaP1
set_option linter.unusedVariables false
set_option linter.unusedSimpArgs false
namespace Go.Proofs.Ytfkgbfhpibiheaa
open Go
def onceS (s b : Int) : Int := if b = 0 then s else 0
def modS (b : Int) : Int := if b < 1024 then 56 else if b < 2048 then 80 else if b < 3072 then 112 else if b < 7680 then 128 else if b < 15360 then 192 else 256
def modularS (b : Int) : Int := if 512 ≤ b ∧ b ≤ 16384 then modS b else 0
def curveS (b : Int) : Int := if b = 160 ∨ b = 224 ∨ b = 256 ∨ b = 384 ∨ b = 521 then b / 2 else 0
def amS (sizes strengths : List Int) (b : Int) : Int := match sizes.findIdx? (fun e => decide (b = e)) with | some i => strengths.getD i 0 | none => 0
def wayS : Nat → Int → Int
  | 1 => onceS 18
  | 2 => onceS 60
  | 3 => onceS 128
  | 4 => onceS 192
  | 5 => modularS
  | 6 => modularS
  | 7 => curveS
  | 8 => onceS 128
  | 9 => amS [44, 65, 87] [128, 192, 256]
  | 10 => modularS
  | 11 => modularS
  | 12 => curveS
  | 13 => amS [512, 768, 1024] [128, 192, 256]
  | 14 => amS [40, 128] [40, 60]
  | 15 => amS [112, 168] [80, 112]
  | 16 => amS [128, 256] [128, 256]
  | 17 => amS [128, 256] [128, 256]
  | 18 => onceS 256
  | 19 => onceS 64
  | 20 => onceS 80
  | 21 => onceS 128
  | 22 => onceS 256
  | _ => fun _ => 0
def strS (u : api_Use) : Int := if 1 ≤ u.Alg ∧ u.Alg ≤ 22 then wayS u.Alg.toNat u.Bits else 0
theorem ref_among (b : Int) (sizes strengths : List Int) (h : sizes.length = strengths.length) (hl : sizes.length < 1000000) : g_ref02_among b sizes strengths = some (amS sizes strengths b) := by
  unfold g_ref02_among amS
  refine (loop_find (body := fun q' => g_ref02_among.l1 b sizes strengths q') sizes (fun i => (i : Int)) (fun e => decide (b = e)) (fun i => strengths.getD i 0) 0 (fun i x hx => ?_) ?_).trans ?_
  · have h1 := at_lt hx
    show g_ref02_among.l1 b sizes strengths (i : Int) = _
    unfold g_ref02_among.l1
    rw [for_in hx, getI_nat, W_succ (by omega)]
    have hs : strengths[i]? = some (strengths.getD i 0) := by
      rw [List.getD_eq_getElem?_getD, List.getElem?_eq_getElem (by omega)]; rfl
    by_cases e : b = x
    · rw [decide_eq_true e.symm, decide_eq_true e, hs]; rfl
    · rw [decide_eq_false (fun e' => e e'.symm), decide_eq_false e]; rfl
  · show g_ref02_among.l1 b sizes strengths (sizes.length : Int) = _
    unfold g_ref02_among.l1
    rw [for_out]; rfl
  · rfl
theorem index_int (s : List Int) (v : Int) (hl : s.length < 4611686018427387904) : g_slices_Index_int s v = some (match s.findIdx? (fun e => decide (v = e)) with | some i => (i : Int) | none => -1) := by
  unfold g_slices_Index_int
  refine loop_find (body := fun q' => g_slices_Index_int.l1 s v q') s (fun i => (i : Int)) (fun e => decide (v = e)) (fun i => (i : Int)) (-1) (fun i x hx => ?_) ?_
  · have h1 := at_lt hx
    show g_slices_Index_int.l1 s v (i : Int) = _
    unfold g_slices_Index_int.l1
    rw [for_in hx, W_succ (by omega)]
    cases decide (v = x) <;> rfl
  · show g_slices_Index_int.l1 s v (s.length : Int) = _
    unfold g_slices_Index_int.l1
    rw [for_out]; rfl
theorem contains_int (s : List Int) (v : Int) (hl : s.length < 4611686018427387904) : g_slices_Contains_int s v = some (decide (v ∈ s)) := by
  unfold g_slices_Contains_int
  rw [index_int s v hl, Option.bind_some]
  cases h : s.findIdx? (fun e => decide (v = e)) with
  | none =>
    have := List.findIdx?_eq_none_iff.1 h
    have hn : ¬ v ∈ s := fun hm => by have := this v hm; simp at this
    rw [decide_eq_false hn]; rfl
  | some i =>
    have h2 := List.findIdx?_isSome (xs := s) (p := fun e => decide (v = e))
    rw [h] at h2
    have : v ∈ s := by
      have h3 := h2.symm
      rw [Option.isSome_some, List.any_eq_true] at h3
      obtain ⟨x, hx, e⟩ := h3
      rw [of_decide_eq_true e]; exact hx
    rw [decide_eq_true this]
    simp
theorem cat_mod (b : Int) : g_catalog_modulus b = some (modS b) := by
  have s0 : g_catalog_modulus.l1 b 0 = some (if b < 1024 then .done 56 else .next 1) := by
    by_cases h : b < 1024
    · rw [if_pos h]; show cond (decide (b < 1024)) _ _ = _; rw [decide_eq_true h]; rfl
    · rw [if_neg h]; show cond (decide (b < 1024)) _ _ = _; rw [decide_eq_false h]; rfl
  have s1 : g_catalog_modulus.l1 b 1 = some (if b < 2048 then .done 80 else .next 2) := by
    by_cases h : b < 2048
    · rw [if_pos h]; show cond (decide (b < 2048)) _ _ = _; rw [decide_eq_true h]; rfl
    · rw [if_neg h]; show cond (decide (b < 2048)) _ _ = _; rw [decide_eq_false h]; rfl
  have s2 : g_catalog_modulus.l1 b 2 = some (if b < 3072 then .done 112 else .next 3) := by
    by_cases h : b < 3072
    · rw [if_pos h]; show cond (decide (b < 3072)) _ _ = _; rw [decide_eq_true h]; rfl
    · rw [if_neg h]; show cond (decide (b < 3072)) _ _ = _; rw [decide_eq_false h]; rfl
  have s3 : g_catalog_modulus.l1 b 3 = some (if b < 7680 then .done 128 else .next 4) := by
    by_cases h : b < 7680
    · rw [if_pos h]; show cond (decide (b < 7680)) _ _ = _; rw [decide_eq_true h]; rfl
    · rw [if_neg h]; show cond (decide (b < 7680)) _ _ = _; rw [decide_eq_false h]; rfl
  have s4 : g_catalog_modulus.l1 b 4 = some (if b < 15360 then .done 192 else .next 5) := by
    by_cases h : b < 15360
    · rw [if_pos h]; show cond (decide (b < 15360)) _ _ = _; rw [decide_eq_true h]; rfl
    · rw [if_neg h]; show cond (decide (b < 15360)) _ _ = _; rw [decide_eq_false h]; rfl
  have s5 : g_catalog_modulus.l1 b 5 = some (.done 256) := rfl
  unfold g_catalog_modulus modS
  rw [loop_eq, s0]
  split
  · rfl
  show loop _ (1 : Int) = _
  rw [loop_eq, s1]
  split
  · rfl
  show loop _ (2 : Int) = _
  rw [loop_eq, s2]
  split
  · rfl
  show loop _ (3 : Int) = _
  rw [loop_eq, s3]
  split
  · rfl
  show loop _ (4 : Int) = _
  rw [loop_eq, s4]
  split
  · rfl
  show loop _ (5 : Int) = _
  rw [loop_eq, s5]; rfl
theorem ref_mod (b : Int) : g_ref02_modulus b = some (modularS b) := by
  unfold g_ref02_modulus g_ref02_modulus.j1 modularS modS
  by_cases h1 : b < 512
  · rw [decide_eq_true h1, if_neg (by omega)]; rfl
  · by_cases h2 : 16384 < b
    · rw [decide_eq_false h1, decide_eq_true h2, if_neg (by omega)]; rfl
    · rw [decide_eq_false h1, decide_eq_false h2, if_pos (by omega)]
      simp only [cond_false]
      by_cases a : b < 1024
      · simp [a]
      by_cases a2 : b < 2048
      · simp [a, a2]
      by_cases a3 : b < 3072
      · simp [a, a2, a3]
      by_cases a4 : b < 7680
      · simp [a, a2, a3, a4]
      by_cases a5 : b < 15360 <;> simp [a, a2, a3, a4, a5]
theorem cat_1 (b : Int) : g_catalog_Strength ⟨1, b⟩ = some (wayS 1 b) := by
  show cond (decide (b = 0)) (some 18) (some 0) = some (onceS 18 b)
  unfold onceS
  by_cases h : b = 0 <;> simp [h]
theorem ref_1 (b : Int) : g_ref02_Strength ⟨1, b⟩ = some (wayS 1 b) := by
  show (g_ref02_among b [0] [18]).bind (fun y_8 => some y_8) = some (onceS 18 b)
  rw [ref_among b [0] [18] rfl (by decide)]
  unfold amS onceS
  by_cases h : b = 0 <;> simp [h]
theorem cat_2 (b : Int) : g_catalog_Strength ⟨2, b⟩ = some (wayS 2 b) := by
  show cond (decide (b = 0)) (some 60) (some 0) = some (onceS 60 b)
  unfold onceS
  by_cases h : b = 0 <;> simp [h]
theorem ref_2 (b : Int) : g_ref02_Strength ⟨2, b⟩ = some (wayS 2 b) := by
  show (g_ref02_among b [0] [60]).bind (fun y_8 => some y_8) = some (onceS 60 b)
  rw [ref_among b [0] [60] rfl (by decide)]
  unfold amS onceS
  by_cases h : b = 0 <;> simp [h]
theorem cat_3 (b : Int) : g_catalog_Strength ⟨3, b⟩ = some (wayS 3 b) := by
  show cond (decide (b = 0)) (some 128) (some 0) = some (onceS 128 b)
  unfold onceS
  by_cases h : b = 0 <;> simp [h]
theorem ref_3 (b : Int) : g_ref02_Strength ⟨3, b⟩ = some (wayS 3 b) := by
  show (g_ref02_among b [0] [128]).bind (fun y_8 => some y_8) = some (onceS 128 b)
  rw [ref_among b [0] [128] rfl (by decide)]
  unfold amS onceS
  by_cases h : b = 0 <;> simp [h]
theorem cat_4 (b : Int) : g_catalog_Strength ⟨4, b⟩ = some (wayS 4 b) := by
  show cond (decide (b = 0)) (some 192) (some 0) = some (onceS 192 b)
  unfold onceS
  by_cases h : b = 0 <;> simp [h]
theorem ref_4 (b : Int) : g_ref02_Strength ⟨4, b⟩ = some (wayS 4 b) := by
  show (g_ref02_among b [0] [192]).bind (fun y_8 => some y_8) = some (onceS 192 b)
  rw [ref_among b [0] [192] rfl (by decide)]
  unfold amS onceS
  by_cases h : b = 0 <;> simp [h]
theorem cat_5 (b : Int) : g_catalog_Strength ⟨5, b⟩ = some (wayS 5 b) := by
  show cond (decide (512 ≤ b)) (g_catalog_Strength.j1 ⟨5, b⟩ (decide (b ≤ 16384))) (g_catalog_Strength.j1 ⟨5, b⟩ false) = some (modularS b)
  unfold g_catalog_Strength.j1 modularS
  rw [cat_mod]
  by_cases h1 : 512 ≤ b <;> by_cases h2 : b ≤ 16384 <;> simp [h1, h2]
theorem ref_5 (b : Int) : g_ref02_Strength ⟨5, b⟩ = some (wayS 5 b) := by
  show (g_ref02_modulus b).bind (fun y => some y) = some (modularS b)
  rw [ref_mod]; rfl
theorem cat_6 (b : Int) : g_catalog_Strength ⟨6, b⟩ = some (wayS 6 b) := by
  show cond (decide (512 ≤ b)) (g_catalog_Strength.j1 ⟨6, b⟩ (decide (b ≤ 16384))) (g_catalog_Strength.j1 ⟨6, b⟩ false) = some (modularS b)
  unfold g_catalog_Strength.j1 modularS
  rw [cat_mod]
  by_cases h1 : 512 ≤ b <;> by_cases h2 : b ≤ 16384 <;> simp [h1, h2]
theorem ref_6 (b : Int) : g_ref02_Strength ⟨6, b⟩ = some (wayS 6 b) := by
  show (g_ref02_modulus b).bind (fun y => some y) = some (modularS b)
  rw [ref_mod]; rfl
theorem cat_7 (b : Int) : g_catalog_Strength ⟨7, b⟩ = some (wayS 7 b) := by
  show (g_slices_Contains_int [160, 224, 256, 384, 521] b).bind (fun y_3 => cond y_3 ((quoI b 2).bind fun q => some q) (some 0)) = some (curveS b)
  rw [contains_int _ _ (by decide)]
  unfold curveS
  by_cases h : b = 160 ∨ b = 224 ∨ b = 256 ∨ b = 384 ∨ b = 521
  · rw [if_pos h, decide_eq_true (by simpa using h)]
    rcases h with h | h | h | h | h <;> (subst h; rfl)
  · rw [if_neg h, decide_eq_false (by simpa using h)]; rfl
theorem ref_7 (b : Int) : g_ref02_Strength ⟨7, b⟩ = some (wayS 7 b) := by
  show g_ref02_Strength.j2 ⟨7, b⟩ true = some (curveS b)
  unfold g_ref02_Strength.j2 g_ref02_Strength.j3 curveS
  by_cases h : b = 160 ∨ b = 224 ∨ b = 256 ∨ b = 384 ∨ b = 521
  · rw [if_pos h]
    rcases h with h | h | h | h | h <;> (subst h; rfl)
  · rw [if_neg h]
    have h1 : ¬ b = 160 := by omega
    have h2 : ¬ b = 224 := by omega
    have h3 : ¬ b = 256 := by omega
    have h4 : ¬ b = 384 := by omega
    have h5 : ¬ b = 521 := by omega
    simp [h1, h2, h3, h4, h5]
theorem cat_8 (b : Int) : g_catalog_Strength ⟨8, b⟩ = some (wayS 8 b) := by
  show cond (decide (b = 0)) (some 128) (some 0) = some (onceS 128 b)
  unfold onceS
  by_cases h : b = 0 <;> simp [h]
theorem ref_8 (b : Int) : g_ref02_Strength ⟨8, b⟩ = some (wayS 8 b) := by
  show (g_ref02_among b [0] [128]).bind (fun y_8 => some y_8) = some (onceS 128 b)
  rw [ref_among b [0] [128] rfl (by decide)]
  unfold amS onceS
  by_cases h : b = 0 <;> simp [h]
theorem cat_9 (b : Int) : g_catalog_Strength ⟨9, b⟩ = some (wayS 9 b) := by
  show (g_slices_Index_int [44, 65, 87] b).bind (fun y_4 => cond (decide (0 ≤ y_4)) ((getI [128, 192, 256] y_4).bind fun e_2 => some e_2) (some 0)) = some (amS [44, 65, 87] [128, 192, 256] b)
  rw [index_int _ _ (by decide)]
  unfold amS
  cases h : List.findIdx? (fun e => decide (b = e)) [44, 65, 87] with
  | none => rfl
  | some i =>
    have hi := (List.findIdx?_eq_some_iff_getElem.1 h).1
    have : i < 3 := hi
    rcases (by omega : i = 0 ∨ i = 1 ∨ i = 2) with h | h | h <;> (subst h; rfl)
theorem ref_9 (b : Int) : g_ref02_Strength ⟨9, b⟩ = some (wayS 9 b) := by
  show (g_ref02_among b [44, 65, 87] [128, 192, 256]).bind (fun y => some y) = some (amS [44, 65, 87] [128, 192, 256] b)
  rw [ref_among b [44, 65, 87] [128, 192, 256] rfl (by decide)]; rfl
theorem cat_10 (b : Int) : g_catalog_Strength ⟨10, b⟩ = some (wayS 10 b) := by
  show cond (decide (512 ≤ b)) (g_catalog_Strength.j1 ⟨10, b⟩ (decide (b ≤ 16384))) (g_catalog_Strength.j1 ⟨10, b⟩ false) = some (modularS b)
  unfold g_catalog_Strength.j1 modularS
  rw [cat_mod]
  by_cases h1 : 512 ≤ b <;> by_cases h2 : b ≤ 16384 <;> simp [h1, h2]
theorem ref_10 (b : Int) : g_ref02_Strength ⟨10, b⟩ = some (wayS 10 b) := by
  show (g_ref02_modulus b).bind (fun y => some y) = some (modularS b)
  rw [ref_mod]; rfl
theorem cat_11 (b : Int) : g_catalog_Strength ⟨11, b⟩ = some (wayS 11 b) := by
  show cond (decide (512 ≤ b)) (g_catalog_Strength.j1 ⟨11, b⟩ (decide (b ≤ 16384))) (g_catalog_Strength.j1 ⟨11, b⟩ false) = some (modularS b)
  unfold g_catalog_Strength.j1 modularS
  rw [cat_mod]
  by_cases h1 : 512 ≤ b <;> by_cases h2 : b ≤ 16384 <;> simp [h1, h2]
theorem ref_11 (b : Int) : g_ref02_Strength ⟨11, b⟩ = some (wayS 11 b) := by
  show (g_ref02_modulus b).bind (fun y => some y) = some (modularS b)
  rw [ref_mod]; rfl
theorem cat_12 (b : Int) : g_catalog_Strength ⟨12, b⟩ = some (wayS 12 b) := by
  show (g_slices_Contains_int [160, 224, 256, 384, 521] b).bind (fun y_3 => cond y_3 ((quoI b 2).bind fun q => some q) (some 0)) = some (curveS b)
  rw [contains_int _ _ (by decide)]
  unfold curveS
  by_cases h : b = 160 ∨ b = 224 ∨ b = 256 ∨ b = 384 ∨ b = 521
  · rw [if_pos h, decide_eq_true (by simpa using h)]
    rcases h with h | h | h | h | h <;> (subst h; rfl)
  · rw [if_neg h, decide_eq_false (by simpa using h)]; rfl
theorem ref_12 (b : Int) : g_ref02_Strength ⟨12, b⟩ = some (wayS 12 b) := by
  show g_ref02_Strength.j2 ⟨12, b⟩ true = some (curveS b)
  unfold g_ref02_Strength.j2 g_ref02_Strength.j3 curveS
  by_cases h : b = 160 ∨ b = 224 ∨ b = 256 ∨ b = 384 ∨ b = 521
  · rw [if_pos h]
    rcases h with h | h | h | h | h <;> (subst h; rfl)
  · rw [if_neg h]
    have h1 : ¬ b = 160 := by omega
    have h2 : ¬ b = 224 := by omega
    have h3 : ¬ b = 256 := by omega
    have h4 : ¬ b = 384 := by omega
    have h5 : ¬ b = 521 := by omega
    simp [h1, h2, h3, h4, h5]
theorem cat_13 (b : Int) : g_catalog_Strength ⟨13, b⟩ = some (wayS 13 b) := by
  show (g_slices_Index_int [512, 768, 1024] b).bind (fun y_4 => cond (decide (0 ≤ y_4)) ((getI [128, 192, 256] y_4).bind fun e_2 => some e_2) (some 0)) = some (amS [512, 768, 1024] [128, 192, 256] b)
  rw [index_int _ _ (by decide)]
  unfold amS
  cases h : List.findIdx? (fun e => decide (b = e)) [512, 768, 1024] with
  | none => rfl
  | some i =>
    have hi := (List.findIdx?_eq_some_iff_getElem.1 h).1
    have : i < 3 := hi
    rcases (by omega : i = 0 ∨ i = 1 ∨ i = 2) with h | h | h <;> (subst h; rfl)
theorem ref_13 (b : Int) : g_ref02_Strength ⟨13, b⟩ = some (wayS 13 b) := by
  show (g_ref02_among b [512, 768, 1024] [128, 192, 256]).bind (fun y => some y) = some (amS [512, 768, 1024] [128, 192, 256] b)
  rw [ref_among b [512, 768, 1024] [128, 192, 256] rfl (by decide)]; rfl
theorem cat_14 (b : Int) : g_catalog_Strength ⟨14, b⟩ = some (wayS 14 b) := by
  show (g_slices_Index_int [40, 128] b).bind (fun y_4 => cond (decide (0 ≤ y_4)) ((getI [40, 60] y_4).bind fun e_2 => some e_2) (some 0)) = some (amS [40, 128] [40, 60] b)
  rw [index_int _ _ (by decide)]
  unfold amS
  cases h : List.findIdx? (fun e => decide (b = e)) [40, 128] with
  | none => rfl
  | some i =>
    have hi := (List.findIdx?_eq_some_iff_getElem.1 h).1
    have : i < 2 := hi
    rcases (by omega : i = 0 ∨ i = 1) with h | h <;> (subst h; rfl)
theorem ref_14 (b : Int) : g_ref02_Strength ⟨14, b⟩ = some (wayS 14 b) := by
  show (g_ref02_among b [40, 128] [40, 60]).bind (fun y => some y) = some (amS [40, 128] [40, 60] b)
  rw [ref_among b [40, 128] [40, 60] rfl (by decide)]; rfl
theorem cat_15 (b : Int) : g_catalog_Strength ⟨15, b⟩ = some (wayS 15 b) := by
  show (g_slices_Index_int [112, 168] b).bind (fun y_4 => cond (decide (0 ≤ y_4)) ((getI [80, 112] y_4).bind fun e_2 => some e_2) (some 0)) = some (amS [112, 168] [80, 112] b)
  rw [index_int _ _ (by decide)]
  unfold amS
  cases h : List.findIdx? (fun e => decide (b = e)) [112, 168] with
  | none => rfl
  | some i =>
    have hi := (List.findIdx?_eq_some_iff_getElem.1 h).1
    have : i < 2 := hi
    rcases (by omega : i = 0 ∨ i = 1) with h | h <;> (subst h; rfl)
theorem ref_15 (b : Int) : g_ref02_Strength ⟨15, b⟩ = some (wayS 15 b) := by
  show (g_ref02_among b [112, 168] [80, 112]).bind (fun y => some y) = some (amS [112, 168] [80, 112] b)
  rw [ref_among b [112, 168] [80, 112] rfl (by decide)]; rfl
theorem cat_16 (b : Int) : g_catalog_Strength ⟨16, b⟩ = some (wayS 16 b) := by
  show (g_slices_Index_int [128, 256] b).bind (fun y_4 => cond (decide (0 ≤ y_4)) ((getI [128, 256] y_4).bind fun e_2 => some e_2) (some 0)) = some (amS [128, 256] [128, 256] b)
  rw [index_int _ _ (by decide)]
  unfold amS
  cases h : List.findIdx? (fun e => decide (b = e)) [128, 256] with
  | none => rfl
  | some i =>
    have hi := (List.findIdx?_eq_some_iff_getElem.1 h).1
    have : i < 2 := hi
    rcases (by omega : i = 0 ∨ i = 1) with h | h <;> (subst h; rfl)
theorem ref_16 (b : Int) : g_ref02_Strength ⟨16, b⟩ = some (wayS 16 b) := by
  show (g_ref02_among b [128, 256] [128, 256]).bind (fun y => some y) = some (amS [128, 256] [128, 256] b)
  rw [ref_among b [128, 256] [128, 256] rfl (by decide)]; rfl
theorem cat_17 (b : Int) : g_catalog_Strength ⟨17, b⟩ = some (wayS 17 b) := by
  show (g_slices_Index_int [128, 256] b).bind (fun y_4 => cond (decide (0 ≤ y_4)) ((getI [128, 256] y_4).bind fun e_2 => some e_2) (some 0)) = some (amS [128, 256] [128, 256] b)
  rw [index_int _ _ (by decide)]
  unfold amS
  cases h : List.findIdx? (fun e => decide (b = e)) [128, 256] with
  | none => rfl
  | some i =>
    have hi := (List.findIdx?_eq_some_iff_getElem.1 h).1
    have : i < 2 := hi
    rcases (by omega : i = 0 ∨ i = 1) with h | h <;> (subst h; rfl)
theorem ref_17 (b : Int) : g_ref02_Strength ⟨17, b⟩ = some (wayS 17 b) := by
  show (g_ref02_among b [128, 256] [128, 256]).bind (fun y => some y) = some (amS [128, 256] [128, 256] b)
  rw [ref_among b [128, 256] [128, 256] rfl (by decide)]; rfl
theorem cat_18 (b : Int) : g_catalog_Strength ⟨18, b⟩ = some (wayS 18 b) := by
  show cond (decide (b = 0)) (some 256) (some 0) = some (onceS 256 b)
  unfold onceS
  by_cases h : b = 0 <;> simp [h]
theorem ref_18 (b : Int) : g_ref02_Strength ⟨18, b⟩ = some (wayS 18 b) := by
  show (g_ref02_among b [0] [256]).bind (fun y_8 => some y_8) = some (onceS 256 b)
  rw [ref_among b [0] [256] rfl (by decide)]
  unfold amS onceS
  by_cases h : b = 0 <;> simp [h]
theorem cat_19 (b : Int) : g_catalog_Strength ⟨19, b⟩ = some (wayS 19 b) := by
  show cond (decide (b = 0)) (some 64) (some 0) = some (onceS 64 b)
  unfold onceS
  by_cases h : b = 0 <;> simp [h]
theorem ref_19 (b : Int) : g_ref02_Strength ⟨19, b⟩ = some (wayS 19 b) := by
  show (g_ref02_among b [0] [64]).bind (fun y_8 => some y_8) = some (onceS 64 b)
  rw [ref_among b [0] [64] rfl (by decide)]
  unfold amS onceS
  by_cases h : b = 0 <;> simp [h]
theorem cat_20 (b : Int) : g_catalog_Strength ⟨20, b⟩ = some (wayS 20 b) := by
  show cond (decide (b = 0)) (some 80) (some 0) = some (onceS 80 b)
  unfold onceS
  by_cases h : b = 0 <;> simp [h]
theorem ref_20 (b : Int) : g_ref02_Strength ⟨20, b⟩ = some (wayS 20 b) := by
  show (g_ref02_among b [0] [80]).bind (fun y_8 => some y_8) = some (onceS 80 b)
  rw [ref_among b [0] [80] rfl (by decide)]
  unfold amS onceS
  by_cases h : b = 0 <;> simp [h]
theorem cat_21 (b : Int) : g_catalog_Strength ⟨21, b⟩ = some (wayS 21 b) := by
  show cond (decide (b = 0)) (some 128) (some 0) = some (onceS 128 b)
  unfold onceS
  by_cases h : b = 0 <;> simp [h]
theorem ref_21 (b : Int) : g_ref02_Strength ⟨21, b⟩ = some (wayS 21 b) := by
  show (g_ref02_among b [0] [128]).bind (fun y_8 => some y_8) = some (onceS 128 b)
  rw [ref_among b [0] [128] rfl (by decide)]
  unfold amS onceS
  by_cases h : b = 0 <;> simp [h]
theorem cat_22 (b : Int) : g_catalog_Strength ⟨22, b⟩ = some (wayS 22 b) := by
  show cond (decide (b = 0)) (some 256) (some 0) = some (onceS 256 b)
  unfold onceS
  by_cases h : b = 0 <;> simp [h]
theorem ref_22 (b : Int) : g_ref02_Strength ⟨22, b⟩ = some (wayS 22 b) := by
  show (g_ref02_among b [0] [256]).bind (fun y_8 => some y_8) = some (onceS 256 b)
  rw [ref_among b [0] [256] rfl (by decide)]
  unfold amS onceS
  by_cases h : b = 0 <;> simp [h]
theorem alg_cases {a : Int} (h : 1 ≤ a ∧ a ≤ 22) : a = 1 ∨ a = 2 ∨ a = 3 ∨ a = 4 ∨ a = 5 ∨ a = 6 ∨ a = 7 ∨ a = 8 ∨ a = 9 ∨ a = 10 ∨ a = 11 ∨ a = 12 ∨ a = 13 ∨ a = 14 ∨ a = 15 ∨ a = 16 ∨ a = 17 ∨ a = 18 ∨ a = 19 ∨ a = 20 ∨ a = 21 ∨ a = 22 := by omega
theorem cat_Strength (u : api_Use) : g_catalog_Strength u = some (strS u) := by
  obtain ⟨a, b⟩ := u
  unfold strS
  by_cases h0 : 1 ≤ a ∧ a ≤ 22
  · rw [if_pos h0]
    rcases alg_cases h0 with h | h | h | h | h | h | h | h | h | h | h | h | h | h | h | h | h | h | h | h | h | h <;> subst h
    · exact cat_1 b
    · exact cat_2 b
    · exact cat_3 b
    · exact cat_4 b
    · exact cat_5 b
    · exact cat_6 b
    · exact cat_7 b
    · exact cat_8 b
    · exact cat_9 b
    · exact cat_10 b
    · exact cat_11 b
    · exact cat_12 b
    · exact cat_13 b
    · exact cat_14 b
    · exact cat_15 b
    · exact cat_16 b
    · exact cat_17 b
    · exact cat_18 b
    · exact cat_19 b
    · exact cat_20 b
    · exact cat_21 b
    · exact cat_22 b
  · rw [if_neg h0]
    unfold g_catalog_Strength g_catalog_of
    by_cases h1 : a < 1
    · simp [h1, g_catalog_of.j1]
    · have h2 : 22 < a := by omega
      simp [h1, h2, g_catalog_of.j1]
theorem ref_Strength (u : api_Use) : g_ref02_Strength u = some (strS u) := by
  obtain ⟨a, b⟩ := u
  unfold strS
  by_cases h0 : 1 ≤ a ∧ a ≤ 22
  · rw [if_pos h0]
    rcases alg_cases h0 with h | h | h | h | h | h | h | h | h | h | h | h | h | h | h | h | h | h | h | h | h | h <;> subst h
    · exact ref_1 b
    · exact ref_2 b
    · exact ref_3 b
    · exact ref_4 b
    · exact ref_5 b
    · exact ref_6 b
    · exact ref_7 b
    · exact ref_8 b
    · exact ref_9 b
    · exact ref_10 b
    · exact ref_11 b
    · exact ref_12 b
    · exact ref_13 b
    · exact ref_14 b
    · exact ref_15 b
    · exact ref_16 b
    · exact ref_17 b
    · exact ref_18 b
    · exact ref_19 b
    · exact ref_20 b
    · exact ref_21 b
    · exact ref_22 b
  · rw [if_neg h0]
    have h1 : ¬ a = 1 := by omega
    have h2 : ¬ a = 2 := by omega
    have h3 : ¬ a = 3 := by omega
    have h4 : ¬ a = 4 := by omega
    have h5 : ¬ a = 5 := by omega
    have h6 : ¬ a = 6 := by omega
    have h7 : ¬ a = 7 := by omega
    have h8 : ¬ a = 8 := by omega
    have h9 : ¬ a = 9 := by omega
    have h10 : ¬ a = 10 := by omega
    have h11 : ¬ a = 11 := by omega
    have h12 : ¬ a = 12 := by omega
    have h13 : ¬ a = 13 := by omega
    have h14 : ¬ a = 14 := by omega
    have h15 : ¬ a = 15 := by omega
    have h16 : ¬ a = 16 := by omega
    have h17 : ¬ a = 17 := by omega
    have h18 : ¬ a = 18 := by omega
    have h19 : ¬ a = 19 := by omega
    have h20 : ¬ a = 20 := by omega
    have h21 : ¬ a = 21 := by omega
    have h22 : ¬ a = 22 := by omega
    simp [g_ref02_Strength, g_ref02_Strength.j1, g_ref02_Strength.j2, g_ref02_Strength.j4, g_ref02_single, g_ref02_single.j1, g_ref02_single.j2, h1, h2, h3, h4, h5, h6, h7, h8, h9, h10, h11, h12, h13, h14, h15, h16, h17, h18, h19, h20, h21, h22]
    rw [ref_among b [0] [0] rfl (by decide)]
    unfold amS
    by_cases h : b = 0 <;> simp [h]
theorem cat_Valid (u : api_Use) : g_catalog_Valid u = some (decide (0 < strS u)) := by unfold g_catalog_Valid; rw [cat_Strength]; rfl
theorem ref_Valid (u : api_Use) : g_ref02_Valid u = some (decide (0 < strS u)) := by unfold g_ref02_Valid; rw [ref_Strength]; rfl
end Go.Proofs.Ytfkgbfhpibiheaa
