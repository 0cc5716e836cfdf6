/- The library's sort of at most twelve, where the rest of it is left out. No program is in sight here. -/
import Derived.Test.YtmihjbejflcgkaaSG1
import Derived.Test.YtmihjbejflcgkaaSI1api_Seal
set_option linter.unusedVariables false
set_option linter.unusedSimpArgs false
namespace Go.Proofs.Ytmihjbejflcgkaa
open Go Go.Sort
section
variable {cmp : api_Seal → api_Seal → Option Int} {lt : api_Seal → api_Seal → Bool} {P : api_Seal → Prop}
def cap_api_Seal : Nat := 12
theorem sortC_api_Seal (hS : SWO lt) (hc : CmpOk_api_Seal cmp lt P) (l : List api_Seal) (hl : l.length ≤ cap_api_Seal) (hP : ∀ x ∈ l, P x) :
    Ok (g_slices_SortFunc_api_Seal l cmp) (fun r => r.Perm l ∧ r.Pairwise (fun x y => lt y x = false)) := by
  unfold cap_api_Seal at hl
  obtain ⟨L, _, _, _, h4⟩ := len_ok l.length (by omega)
  have hsz : l.toArray.size = l.length := by simp
  have hA : AllA_api_Seal P l.toArray := ⟨by omega, fun i hi => by
    rw [getElem!_pos l.toArray i hi]
    exact hP _ (by simp)⟩
  obtain ⟨k1, k2⟩ := insertionSort_holds hS l.toArray 0 l.toArray.size (Nat.zero_le _) (Nat.le_refl _)
  have hi := insertion_api_Seal hc (a := 0) (b := l.toArray.size) (Nat.zero_le _) (Nat.le_refl _) hA
  generalize insertionSort lt l.toArray 0 l.toArray.size = d' at k1 k2 hi
  have hz := k1.1
  have hp : g_slices_pdqsortCmpFunc_api_Seal l 0 (l.length : Int) (L : Int) cmp = some d'.toList := by
    unfold g_slices_pdqsortCmpFunc_api_Seal
    refine loop_up ?_
    unfold g_slices_pdqsortCmpFunc_api_Seal.l1
    rw [hsz] at hi
    have hi' : g_slices_insertionSortCmpFunc_api_Seal l 0 (l.length : Int) cmp = some d'.toList := hi
    rw [W_id (by omega), decide_eq_true (by omega), cond_true, hi']
    rfl
  unfold g_slices_SortFunc_api_Seal
  rw [wrap_pos (by omega), h4, Option.bind_some, hp, Option.bind_some]
  refine Ok.ret ⟨?_, ?_⟩
  · have := k1.2.2
    have e1 : d'.extract 0 l.toArray.size = d' := by
      rw [← hz]; exact Array.extract_size
    have e2 : l.toArray.extract 0 l.toArray.size = l.toArray := Array.extract_size
    rw [e1, e2] at this
    exact this
  · rw [List.pairwise_iff_getElem]
    intro i j hi hj hij
    have hi' : i < d'.size := by simpa using hi
    have hj' : j < d'.size := by simpa using hj
    have := k2 i j (Nat.zero_le _) hij (by omega)
    rw [getElem!_pos d' i hi', getElem!_pos d' j hj'] at this
    simpa using this
end
end Go.Proofs.Ytmihjbejflcgkaa
