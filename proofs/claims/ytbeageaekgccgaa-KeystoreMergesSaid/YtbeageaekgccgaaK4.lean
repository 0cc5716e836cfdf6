/- Certificates: what the reference says is valid. No program is in sight here. -/
import Derived.Test.YtbeageaekgccgaaK3
set_option linter.unusedVariables false
set_option linter.unusedSimpArgs false
namespace Go.Proofs.Ytbeageaekgccgaa
open Go
def sealBad (c : api_Certificate) : Bool := decide (c.Seal.Key < 0) || (decide (2147483648 < c.Seal.Key) || (decide (c.Seal.Sum < 0) || decide (4294967296 ≤ c.Seal.Sum)))
theorem ref_j3 (c : api_Certificate) (h : FitW c) (x : Bool) : g_ref03_Check.j3 c x = some (bif (x || !namesS c.Names || sealBad c) then 9 else 0) := by
  cases x
  · unfold g_ref03_Check.j3
    rw [cond_false]
    refine (loop_anyN (body := fun q' => g_ref03_Check.l4 c q') c.Names.length (fun i => (i : Int)) (badN c.Names) 9 (bif sealBad c then 9 else 0) (fun i hi => ?_) ?_).trans ?_
    · obtain ⟨s, hx⟩ : ∃ s, c.Names[i]? = some s := ⟨_, List.getElem?_eq_getElem hi⟩
      have hN := h.names
      show g_ref03_Check.l4 c (i : Int) = _
      unfold g_ref03_Check.l4 badN
      rw [for_in hx, ref_Name s (h.name s (at_mem hx)), Option.bind_some, getD_at hx]
      cases hn : nameS s with
      | false => rfl
      | true =>
        rw [Bool.not_true, cond_false, Bool.false_or]
        cases i with
        | zero => rfl
        | succ i =>
          obtain ⟨p, hp⟩ : ∃ p, c.Names[i]? = some p := ⟨_, List.getElem?_eq_getElem (by omega)⟩
          rw [decide_eq_true (by omega), cond_true, W_id (by omega), show ((i + 1 : Nat) : Int) - 1 = (i : Int) by omega, getI_nat, hp, Option.bind_some, show i + 1 - 1 = i from rfl, getD_at hp, decide_eq_true (by omega), Bool.true_and]
          unfold g_ref03_Check.j5
          rw [W_succ' (n := c.Names.length) (by omega) hN]
          cases ltT (toB p) (toB s) <;> rfl
    · show g_ref03_Check.l4 c (c.Names.length : Int) = _
      unfold g_ref03_Check.l4 g_ref03_Check.j6 sealBad
      rw [for_out]
      cases decide (c.Seal.Key < 0) <;> cases decide (2147483648 < c.Seal.Key) <;> cases decide (c.Seal.Sum < 0) <;> cases decide (4294967296 ≤ c.Seal.Sum) <;> rfl
    · unfold namesS
      cases (List.range c.Names.length).any (badN c.Names) <;> cases sealBad c <;> rfl
  · rfl
theorem ref_CheckW (c : api_Certificate) (h : FitW c) : g_ref03_Check c = some (bif certS c then 0 else 9) := by
  unfold g_ref03_Check g_ref03_Check.j1 g_ref03_Check.j2
  simp only [ref_j3 c h]
  rw [ref_Name _ h.issuer, ref_Name _ h.subject, ref_Signature, ref_Valid, ref_Kind]
  simp only [Option.bind_some]
  unfold certS certBad sealBad
  simp only [List.any_cons, List.any_nil, id]
  have hu : useS c.Hash 1 = (decide (0 < strS c.Hash) && decide (kindS c.Hash.Alg = 1)) := rfl
  rw [hu]
  generalize decide (c.Serial < 0) = b1
  cases b1
  case true => simp
  generalize decide (1099511627776 < c.Serial) = b2
  cases b2
  case true => simp
  generalize nameS c.Issuer = b3
  cases b3
  case false => simp
  generalize nameS c.Subject = b4
  cases b4
  case false => simp
  generalize useS c.Key 2 = b7
  cases b7
  case false => simp
  generalize decide (c.KeyId < 0) = b8
  cases b8
  case true => simp
  generalize decide (2147483648 < c.KeyId) = b9
  cases b9
  case true => simp
  generalize decide (0 < strS c.Hash) = b10
  cases b10
  case false => simp
  generalize decide (kindS c.Hash.Alg = 1) = b10'
  cases b10'
  case false => simp
  generalize decide (c.From < 0) = b15
  cases b15
  case true => simp
  generalize decide (c.To < c.From) = b16
  cases b16
  case true => simp
  generalize decide (40000 < c.To) = b17
  cases b17
  case true => simp
  generalize decide (c.Path < 0) = b18
  cases b18
  case true => simp
  generalize decide (8 < c.Path) = b19
  cases b19
  case true => simp
  generalize decide (c.Path = 0) = b20
  generalize c.Authority = b21
  generalize decide (8 < (c.Names.length : Int)) = b6
  generalize namesS c.Names = b5
  cases b20 <;> cases b21 <;> cases b6 <;> cases b5 <;> simp <;> generalize decide (c.Seal.Key < 0) = b11 <;> generalize decide (2147483648 < c.Seal.Key) = b12 <;> generalize decide (c.Seal.Sum < 0) = b13 <;> generalize decide (4294967296 ≤ c.Seal.Sum) = b14 <;> cases b11 <;> cases b12 <;> cases b13 <;> cases b14 <;> rfl
theorem ref_Check (c : api_Certificate) (h : FitC c) : g_ref03_Check c = some (bif certS c then 0 else 9) := ref_CheckW c h.w
end Go.Proofs.Ytbeageaekgccgaa
