/- Certificates: valid as the reference says. No program is in sight here. -/
import Derived.Test.YtoekocjflclojaaGreatK2
set_option linter.unusedVariables false
set_option linter.unusedSimpArgs false
namespace Go.Proofs.YtoekocjflclojaaGreat
open Go
def useS (u : api_Use) (k : Int) : Bool := decide (0 < strS u) && decide (kindS u.Alg = k)
structure FitC (c : api_Certificate) : Prop where
  names : c.Names.length < 1000000000
  name : ∀ s ∈ c.Names, s.size ≤ 9223372036854775807
  issuer : c.Issuer.size ≤ 9223372036854775807
  subject : c.Subject.size ≤ 9223372036854775807
  ints : ∀ n ∈ [c.Serial, c.Key.Alg, c.Key.Bits, c.KeyId, c.Hash.Alg, c.Hash.Bits, c.From, c.To, c.Path, c.Seal.Key, c.Seal.Sum], -9223372036854775808 ≤ n ∧ n ≤ 9223372036854775807
structure FitW (c : api_Certificate) : Prop where
  names : c.Names.length ≤ 9223372036854775807
  name : ∀ s ∈ c.Names, s.size ≤ 9223372036854775807
  issuer : c.Issuer.size ≤ 9223372036854775807
  subject : c.Subject.size ≤ 9223372036854775807
theorem FitC.w {c : api_Certificate} (h : FitC c) : FitW c := ⟨by have := h.names; omega, h.name, h.issuer, h.subject⟩
theorem ref_Signature (u : api_Use) : g_ref03_Signature u = some (useS u 2) := by
  unfold g_ref03_Signature useS
  rw [ref_Valid, ref_Kind, Option.bind_some]
  cases decide (0 < strS u) <;> rfl
end Go.Proofs.YtoekocjflclojaaGreat
