/- Certificates: valid as the reference says. No program is in sight here. -/
import Derived.Test.YtbeageaekgccgaaK2
set_option linter.unusedVariables false
set_option linter.unusedSimpArgs false
namespace Go.Proofs.Ytbeageaekgccgaa
open Go
def useS (u : api_Use) (k : Int) : Bool := decide (0 < strS u) && decide (kindS u.Alg = k)
def certBad (c : api_Certificate) : List Bool := [decide (c.Serial < 0), decide (1099511627776 < c.Serial), !nameS c.Issuer, !nameS c.Subject, !namesS c.Names, decide (8 < (c.Names.length : Int)), !useS c.Key 2, decide (c.KeyId < 0), decide (2147483648 < c.KeyId), !useS c.Hash 1, decide (c.Seal.Key < 0), decide (2147483648 < c.Seal.Key), decide (c.Seal.Sum < 0), decide (4294967296 ≤ c.Seal.Sum), decide (c.From < 0), decide (c.To < c.From), decide (40000 < c.To), decide (c.Path < 0), decide (8 < c.Path), !c.Authority && !decide (c.Path = 0)]
def certS (c : api_Certificate) : Bool := !(certBad c).any id
structure FitC (c : api_Certificate) : Prop where
  names : c.Names.length < 1000000000
  name : ∀ s ∈ c.Names, s.size ≤ 9223372036854775807
  issuer : c.Issuer.size ≤ 9223372036854775807
  subject : c.Subject.size ≤ 9223372036854775807
  ints : ∀ n ∈ [c.Serial, c.Key.Alg, c.Key.Bits, c.KeyId, c.Hash.Alg, c.Hash.Bits, c.From, c.To, c.Path, c.Seal.Key, c.Seal.Sum], -9223372036854775808 ≤ n ∧ n ≤ 9223372036854775807
structure FitW (c : api_Certificate) : Prop where
  names : c.Names.length ≤ 9223372036854775807
  name : ∀ s ∈ c.Names, s.size ≤ 9223372036854775807
  issuer : c.Issuer.size ≤ 9223372036854775807
  subject : c.Subject.size ≤ 9223372036854775807
theorem FitC.w {c : api_Certificate} (h : FitC c) : FitW c := ⟨by have := h.names; omega, h.name, h.issuer, h.subject⟩
theorem cat_of (u : api_Use) (k : Int) : g_certificate_of u k = some (useS u k) := by
  unfold g_certificate_of useS
  rw [cat_Valid, cat_Kind, Option.bind_some]
  cases decide (0 < strS u) <;> rfl
theorem ref_Signature (u : api_Use) : g_ref03_Signature u = some (useS u 2) := by
  unfold g_ref03_Signature useS
  rw [ref_Valid, ref_Kind, Option.bind_some]
  cases decide (0 < strS u) <;> rfl
theorem cat_Key (n : Int) : g_certificate_Key n = some (!(decide (n < 0) || decide (2147483648 < n))) := by
  unfold g_certificate_Key
  by_cases a : n < 0
  · rw [decide_eq_true a, decide_eq_false (show ¬ 0 ≤ n by omega)]; rfl
  · rw [decide_eq_false a, decide_eq_true (show 0 ≤ n by omega)]
    by_cases b : n ≤ 2147483648
    · rw [decide_eq_true b, decide_eq_false (show ¬ 2147483648 < n by omega)]; rfl
    · rw [decide_eq_false b, decide_eq_true (show 2147483648 < n by omega)]; rfl
theorem cat_sum (n : Int) : g_certificate_sum n = some (!(decide (n < 0) || decide (4294967296 ≤ n))) := by
  unfold g_certificate_sum
  by_cases a : n < 0
  · rw [decide_eq_true a, decide_eq_false (show ¬ 0 ≤ n by omega)]; rfl
  · rw [decide_eq_false a, decide_eq_true (show 0 ≤ n by omega)]
    by_cases b : n < 4294967296
    · rw [decide_eq_true b, decide_eq_false (show ¬ 4294967296 ≤ n by omega)]; rfl
    · rw [decide_eq_false b, decide_eq_true (show 4294967296 ≤ n by omega)]; rfl
theorem len8 (n : Nat) : decide ((n : Int) ≤ 8) = !decide (8 < (n : Int)) := by
  by_cases h : (n : Int) ≤ 8
  · rw [decide_eq_true h, decide_eq_false (by omega)]; rfl
  · rw [decide_eq_false h, decide_eq_true (by omega)]; rfl
theorem path_j3 (c : api_Certificate) : g_certificate_valid.j3 c false = some (!(decide (c.Path < 0) || decide (8 < c.Path) || (!c.Authority && !decide (c.Path = 0)))) := by
  unfold g_certificate_valid.j3
  by_cases a : c.Path < 0
  · rw [decide_eq_true a, decide_eq_false (show ¬ 0 ≤ c.Path by omega)]; rfl
  · rw [decide_eq_false a, decide_eq_true (show 0 ≤ c.Path by omega)]
    by_cases b : c.Path ≤ 8
    · rw [decide_eq_true b, decide_eq_false (show ¬ 8 < c.Path by omega)]
      cases c.Authority <;> simp
    · rw [decide_eq_false b, decide_eq_true (show 8 < c.Path by omega)]; rfl
theorem path_j3' (c : api_Certificate) (x : Bool) : g_certificate_valid.j3 c x = some (!(x || decide (c.Path < 0) || decide (8 < c.Path) || (!c.Authority && !decide (c.Path = 0)))) := by
  cases x
  · rw [path_j3]; simp
  · simp [g_certificate_valid.j3]
theorem cat_validW (c : api_Certificate) (h : FitW c) : g_certificate_valid c = some (certS c) := by
  unfold g_certificate_valid g_certificate_valid.j1 g_certificate_valid.j2
  simp only [path_j3']
  rw [cat_Named _ h.issuer, cat_Named _ h.subject, cat_namedW _ h.names h.name, cat_of, cat_Key, cat_of, cat_Key, cat_sum, len8]
  simp only [Option.bind_some]
  unfold certS certBad
  simp only [List.any_cons, List.any_nil, id]
  generalize decide (c.Serial < 0) = b1
  cases b1
  case true => simp
  generalize decide (1099511627776 < c.Serial) = b2
  cases b2
  case true => simp
  generalize nameS c.Issuer = b3
  cases b3
  case false => simp
  generalize nameS c.Subject = b4
  cases b4
  case false => simp
  generalize namesS c.Names = b5
  cases b5
  case false => simp
  generalize decide (8 < (c.Names.length : Int)) = b6
  cases b6
  case true => simp
  generalize useS c.Key 2 = b7
  cases b7
  case false => simp
  generalize decide (c.KeyId < 0) = b8
  cases b8
  case true => simp
  generalize decide (2147483648 < c.KeyId) = b9
  cases b9
  case true => simp
  generalize useS c.Hash 1 = b10
  cases b10
  case false => simp
  generalize decide (c.Seal.Key < 0) = b11
  cases b11
  case true => simp
  generalize decide (2147483648 < c.Seal.Key) = b12
  cases b12
  case true => simp
  generalize decide (c.Seal.Sum < 0) = b13
  cases b13
  case true => simp
  generalize decide (4294967296 ≤ c.Seal.Sum) = b14
  cases b14
  case true => simp
  generalize decide (c.From < 0) = b15
  cases b15
  case true => simp
  generalize decide (c.To < c.From) = b16
  cases b16
  case true => simp
  generalize decide (40000 < c.To) = b17
  cases b17
  case true => simp
  generalize decide (c.Path < 0) = b18
  generalize decide (8 < c.Path) = b19
  generalize decide (c.Path = 0) = b20
  cases b18 <;> cases b19 <;> cases b20 <;> simp
end Go.Proofs.Ytbeageaekgccgaa
