/- Exceptions: what is signed, and its sum. No program is in sight here. -/
import Derived.Test.YtmihjbejflcgkaaS0
import Derived.Test.YtmihjbejflcgkaaD3
import Derived.Test.YtmihjbejflcgkaaM0
set_option linter.unusedVariables false
set_option linter.unusedSimpArgs false
set_option maxRecDepth 100000
namespace Go.Proofs.Ytmihjbejflcgkaa
open Go
theorem lenB_3le {n : Nat} (h : n < 65536) : (lenB n).length ≤ 3 := by
  by_cases h1 : n < 128
  · rw [lenB_1 h1]; simp
  · by_cases h2 : n < 256
    · rw [lenB_2 (by omega) h2]; simp
    · rw [lenB_3 (by omega) h]; simp
mutual
theorem put_le4 : ∀ v : api_Value, v.sz < 16000 → v.put.length ≤ 4 * v.sz
  | .mk t b n es, h => by
    rw [api_Value.sz] at h ⊢
    have h1 := putAll_le4 es (by omega)
    rw [api_Value.put]
    cases n
    · have h2 := lenB_3le (n := b.length) (by omega)
      simp; omega
    · have h2 := lenB_3le (n := (putAll es).length) (by omega)
      simp; omega
theorem putAll_le4 : ∀ es : List api_Value, szs es < 16000 → (putAll es).length ≤ 4 * szs es
  | [], _ => by simp [putAll]
  | v :: vs, h => by
    rw [szs] at h ⊢
    have h1 := put_le4 v (by omega)
    have h2 := putAll_le4 vs (by omega)
    rw [putAll, List.length_append]; omega
end
theorem int_formed (n : Int) : (intV n).formed = true := by rw [formed_eq]; rfl
theorem text_formed (s : ByteArray) : (textV s).formed = true := by rw [formed_eq]; rfl
theorem list_formed (l : List api_Value) : (listV l).formed = formedAll l := by rw [formed_eq]; rfl
theorem int_depth (n : Int) : (intV n).depth = 1 := by rw [depth_eq]; rfl
theorem text_depth (s : ByteArray) : (textV s).depth = 1 := by rw [depth_eq]; rfl
theorem list_depth (l : List api_Value) : (listV l).depth = depthAll l + 1 := by rw [depth_eq]; rfl
theorem encS_fit {v : api_Value} (h1 : v.formed = true) (h2 : v.depth ≤ 16) (h3 : v.sz ≤ 1024) : encS v = (v.put, 0) := by
  have := put_le4 v (by omega)
  unfold encS
  rw [if_pos h1, if_neg (by omega), if_neg (by omega)]
def excL (x : api_Exception) : List api_Value := [intV x.Use.Alg, intV x.Use.Bits, intV x.Purpose, textV x.Endpoint, intV x.Days.From, intV x.Days.To]
def excB (x : api_Exception) : List UInt8 := (listV (excL x)).put
theorem exc_szs {x : api_Exception} (h : x.Endpoint.size ≤ 32) : szs (excL x) ≤ 100 := by
  have h1 := intV_sz x.Use.Alg
  have h2 := intV_sz x.Use.Bits
  have h3 := intV_sz x.Purpose
  have h4 := text_sz x.Endpoint
  have h5 := intV_sz x.Days.From
  have h6 := intV_sz x.Days.To
  unfold excL
  simp only [szs]
  omega
theorem exc_enc {x : api_Exception} (h : x.Endpoint.size ≤ 32) : g_der_Encode (listV (excL x)) = some (excB x, 0) := by
  have hs := exc_szs h
  have hz := list_sz (excL x)
  rw [der_Encode _ (by omega), encS_fit ?_ ?_ (by omega)]
  · rfl
  · rw [list_formed]
    unfold excL
    simp only [formedAll, int_formed, text_formed, Bool.and_self]
  · rw [list_depth]
    unfold excL
    simp only [depthAll, int_depth, text_depth]
    omega
theorem exc_bytes {x : api_Exception} (hc : g_exception_Check x = some 0) (h : x.Endpoint.size ≤ 32) : g_exception_Bytes x = some (excB x, 0) := by
  have hs := exc_szs h
  unfold g_exception_Bytes
  rw [hc, Option.bind_some, decide_eq_true rfl, Bool.not_true, cond_false, der_Int, Option.bind_some, der_Int, Option.bind_some, der_Int, Option.bind_some, show g_der_Text x.Endpoint = some (textV x.Endpoint) from rfl, Option.bind_some, der_Int, Option.bind_some, der_Int, Option.bind_some]
  show ((g_der_Of (excL x)).bind _) = _
  rw [der_Of _ (by omega), Option.bind_some]
  show (g_der_Encode (listV (excL x))).bind _ = _
  rw [exc_enc h]
  rfl
theorem exc_len {x : api_Exception} (h : x.Endpoint.size ≤ 32) : (excB x).length ≤ 1000 := by
  have hs := exc_szs h
  have hz := list_sz (excL x)
  have := put_le4 (listV (excL x)) (by omega)
  unfold excB
  omega
end Go.Proofs.Ytmihjbejflcgkaa
