/- Certificates: their bytes are within the limits. No program is in sight here. -/
import Derived.Test.YtlcfdnjokgbccaaGreatR3
set_option linter.unusedVariables false
set_option linter.unusedSimpArgs false
set_option maxRecDepth 100000
namespace Go.Proofs.YtlcfdnjokgbccaaGreat
open Go
theorem lenB_3le {n : Nat} (h : n < 65536) : (lenB n).length ≤ 3 := by
  by_cases h1 : n < 128
  · rw [lenB_1 h1]; simp
  · by_cases h2 : n < 256
    · rw [lenB_2 (by omega) h2]; simp
    · rw [lenB_3 (by omega) h]; simp
mutual
theorem put_le4 : ∀ v : api_Value, v.sz < 16000 → v.put.length ≤ 4 * v.sz
  | .mk t b n es, h => by
    rw [api_Value.sz] at h ⊢
    have h1 := putAll_le4 es (by omega)
    rw [api_Value.put]
    cases n
    · have h2 := lenB_3le (n := b.length) (by omega)
      simp; omega
    · have h2 := lenB_3le (n := (putAll es).length) (by omega)
      simp; omega
theorem putAll_le4 : ∀ es : List api_Value, szs es < 16000 → (putAll es).length ≤ 4 * szs es
  | [], _ => by simp [putAll]
  | v :: vs, h => by
    rw [szs] at h ⊢
    have h1 := put_le4 v (by omega)
    have h2 := putAll_le4 vs (by omega)
    rw [putAll, List.length_append]; omega
end
theorem int_formed (n : Int) : (intV n).formed = true := by rw [formed_eq]; rfl
theorem text_formed (s : ByteArray) : (textV s).formed = true := by rw [formed_eq]; rfl
theorem bool_formed (b : Bool) : (boolV b).formed = true := by rw [formed_eq]; rfl
theorem list_formed (l : List api_Value) : (listV l).formed = formedAll l := by rw [formed_eq]; rfl
theorem use_formed (u : api_Use) : (useV u).formed = true := by
  unfold useV
  rw [list_formed, formedAll, int_formed, formedAll, int_formed, formedAll]; rfl
theorem texts_formed (l : List ByteArray) : formedAll (l.map textV) = true := by
  induction l with
  | nil => rw [List.map_nil, formedAll]
  | cons s l ih => rw [List.map_cons, formedAll, text_formed, ih]; rfl
theorem body_formed (c : api_Certificate) : (bodyV c).formed = true := by
  unfold bodyV bodyL
  rw [list_formed]
  simp only [formedAll, int_formed, text_formed, use_formed, bool_formed, list_formed, texts_formed, Bool.and_self]
theorem int_depth (n : Int) : (intV n).depth = 1 := by rw [depth_eq]; rfl
theorem text_depth (s : ByteArray) : (textV s).depth = 1 := by rw [depth_eq]; rfl
theorem bool_depth (b : Bool) : (boolV b).depth = 1 := by rw [depth_eq]; rfl
theorem list_depth (l : List api_Value) : (listV l).depth = depthAll l + 1 := by rw [depth_eq]; rfl
theorem use_depth (u : api_Use) : (useV u).depth = 2 := by
  unfold useV
  rw [list_depth]
  simp only [depthAll, int_depth]; rfl
theorem texts_depth (l : List ByteArray) : depthAll (l.map textV) ≤ 1 := by
  induction l with
  | nil => rw [List.map_nil, depthAll]; omega
  | cons s l ih => rw [List.map_cons, depthAll, text_depth]; omega
theorem body_depth (c : api_Certificate) : (bodyV c).depth ≤ 3 := by
  have := texts_depth c.Names
  unfold bodyV bodyL
  rw [list_depth]
  simp only [depthAll, int_depth, text_depth, use_depth, bool_depth, list_depth]
  omega
theorem encS_fit {v : api_Value} (h1 : v.formed = true) (h2 : v.depth ≤ 16) (h3 : v.sz ≤ 1024) : encS v = (v.put, 0) := by
  have := put_le4 v (by omega)
  unfold encS
  rw [if_pos h1, if_neg (by omega), if_neg (by omega)]
theorem bodyV_sz' (c : api_Certificate) : (bodyV c).sz = szs (bodyL c) + 1 := list_sz _
theorem bytesS_ok {c : api_Certificate} (h : certS c = true) : bytesS c = ((bodyV c).put, 0) := by
  have := body_sz h
  unfold bytesS
  rw [h, cond_true, encS_fit (body_formed c) (by have := body_depth c; omega) (by rw [bodyV_sz']; omega)]
theorem bytesS_no {c : api_Certificate} (h : certS c = false) : bytesS c = ([], 9) := by
  unfold bytesS
  rw [h]; rfl
end Go.Proofs.YtlcfdnjokgbccaaGreat
