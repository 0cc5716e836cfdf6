/- Certificates that are made: small ones; the laws of made certificates and of bytes. No program is in sight here. -/
import Derived.Test.YtbeageaekgccgaaGreatQ1
import Derived.Test.YtbeageaekgccgaaGreatK8
set_option linter.unusedVariables false
set_option linter.unusedSimpArgs false
set_option maxRecDepth 100000
namespace Go.Proofs.YtbeageaekgccgaaGreat
open Go
structure SmC (c : api_Certificate) : Prop where
  i : c.Issuer.size ≤ 2000
  s : c.Subject.size ≤ 2000
  n : c.Names.length ≤ 10
  ns : ∀ s ∈ c.Names, s.size ≤ 2000
theorem texts_szs (l : List ByteArray) (h : ∀ s ∈ l, s.size ≤ 2000) : szs (l.map textV) ≤ 2001 * l.length := by
  induction l with
  | nil => exact Nat.zero_le _
  | cons s l ih =>
    have h1 := ih fun x hx => h x (List.mem_cons_of_mem _ hx)
    have h2 := h s (List.mem_cons_self ..)
    rw [List.map_cons, szs, text_sz, List.length_cons]; omega
theorem SmC.sz {c : api_Certificate} (h : SmC c) : szs (bodyL c) ≤ 1000000 := by
  have t := texts_szs c.Names h.ns
  have a1 := intV_sz c.Serial
  have a2 := use_sz c.Key
  have a3 := intV_sz c.KeyId
  have a4 := use_sz c.Hash
  have a5 := intV_sz c.From
  have a6 := intV_sz c.To
  have a7 := intV_sz c.Path
  have a8 : (boolV c.Authority).sz = 2 := by unfold boolV; rw [sz_eq]; simp [szs]
  have := h.i
  have := h.s
  have := h.n
  unfold bodyL
  simp only [szs, text_sz, list_sz, a8]
  omega
theorem FitC.lo {c : api_Certificate} (h : FitC c) : Lo c.Names := by
  have := h.names
  unfold Lo; omega
end Go.Proofs.YtbeageaekgccgaaGreat
