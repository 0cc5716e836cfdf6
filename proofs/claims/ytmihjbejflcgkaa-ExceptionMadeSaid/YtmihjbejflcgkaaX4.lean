/- Exceptions: the law of seals, itself. No program is in sight here. -/
import Derived.Test.YtmihjbejflcgkaaX3
set_option linter.unusedVariables false
set_option linter.unusedSimpArgs false
namespace Go.Proofs.Ytmihjbejflcgkaa
open Go
def exX : api_Exception := ⟨⟨1, 0⟩, 1, web, ⟨3, 9⟩, []⟩
theorem exX_base (S : List api_Seal) : BaseX ⟨⟨1, 0⟩, 1, web, ⟨3, 9⟩, S⟩ := ⟨show decide (0 < strS ⟨1, 0⟩) = true by decide +kernel, rfl, rfl, ⟨rfl, by show (3 : Int) < 9; omega, by show (9 : Int) ≤ 1000; omega⟩⟩
theorem awake19 : g_law19_awake = some true := by
  unfold g_law19_awake
  have h0 : SealsOK (sumS (excB exX)) exX.Seals := seals_nil
  obtain ⟨⟨a, ea⟩, hs1, h1, S1, h2, h3, h4⟩ := sign_ok (x := exX) (exX_base []) h0 (k := 51) (by omega)
  dsimp only at h1 h2
  subst h1
  subst h2
  have h3' : SealsOK (sumS (excB ⟨exX.Use, exX.Purpose, exX.Endpoint, exX.Days, S1⟩)) S1 := h3
  obtain ⟨⟨b, eb⟩, hs2, k1, S2, k2, k3, k4⟩ := sign_ok (x := ⟨exX.Use, exX.Purpose, exX.Endpoint, exX.Days, S1⟩) (exX_base S1) h3' (k := 53) (by omega)
  dsimp only at k1 k2
  subst k1
  subst k2
  have g1 : Signed S1 (addG [] 51) := signed_add signed_nil h4
  have g2 : Signed S2 (addG (addG [] 51) 53) := signed_add g1 k4
  have v1 := signed_valid (x := ⟨exX.Use, exX.Purpose, exX.Endpoint, exX.Days, S1⟩) (n := 2) (exX_base S1) h3' g1 (by omega)
  have v2 := signed_valid (x := ⟨exX.Use, exX.Purpose, exX.Endpoint, exX.Days, S2⟩) (n := 2) (exX_base S2) k3 g2 (by omega)
  show (g_exception_Sign exX 51).bind _ = _
  rw [hs1, Option.bind_some]
  show (g_exception_Sign ⟨exX.Use, exX.Purpose, exX.Endpoint, exX.Days, S1⟩ 53).bind _ = _
  rw [hs2, Option.bind_some]
  show (g_exception_Valid ⟨exX.Use, exX.Purpose, exX.Endpoint, exX.Days, S1⟩ ⟨seK, 2⟩).bind _ = _
  rw [v1, Option.bind_some]
  show (g_exception_Valid ⟨exX.Use, exX.Purpose, exX.Endpoint, exX.Days, S2⟩ ⟨seK, 2⟩).bind _ = _
  rw [v2, Option.bind_some]
  rfl
theorem roll19 {t : List Int} (h : t.length ≤ 400) : Ok (g_make_Roll t) DOK := Ok.ret ⟨by unfold Lo; show t.length < _; omega, Int.le_refl _, by show (0 : Int) ≤ (t.length : Int); omega⟩
end Go.Proofs.Ytmihjbejflcgkaa
