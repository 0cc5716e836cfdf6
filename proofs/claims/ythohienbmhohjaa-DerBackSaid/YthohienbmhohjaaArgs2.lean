/- What numbers that came in read as, in this seat's words. -/
import Derived.Test.YthohienbmhohjaaArgs
import Derived.Test.YthohienbmhohjaaW35
namespace Go.Proofs.Ythohienbmhohjaa
open Go.RowKit

/-- Numbers that came in. -/
theorem row_ints {w : World} {a : Option Addr} {len cap : Nat} {zs : List Int} (h : (a = none ∧ len = 0 ∧ cap = 0 ∧ zs = []) ∨ ∃ x, a = some x ∧ len ≤ cap ∧ cap ≤ maxLen ∧ zs.length = cap ∧ (∀ i, i < zs.length → w.cell? (x.add i) = some (.int .i64 (zs.getD i 0))) ∧ ∀ n ∈ zs, (Lit.int .i64 n).wf = true) :
    ∃ l : List Int, Rd w (.sl 1 (intsC l)) (.slice a len cap) := by
  rcases h with ⟨rfl, rfl, rfl, -⟩ | ⟨x, rfl, h1, h2, h3, h4, h5⟩
  · exact ⟨[], RdC.nil_ 1⟩
  · refine ⟨zs.take len, RdC.mk_slice (by rw [intsC_length, List.length_take, h3]; omega) h1 h2 fun hn => ⟨x, rfl, ?_, fun j c hj => ?_⟩⟩
    · have := lt_of_cell (h4 0 (by omega))
      rwa [block_add] at this
    · simp only [intsC, List.getElem?_map, Option.map_eq_some_iff] at hj
      obtain ⟨z, hz, rfl⟩ := hj
      rw [List.getElem?_take] at hz
      split at hz
      · have hjl := (List.getElem?_eq_some_iff.1 hz).1
        refine ⟨_, h4 j hjl, ?_⟩
        have e1 : zs.getD j 0 = z := by simp [hz]
        rw [e1]
        unfold RdC
        exact ⟨rfl, i64_range (i64_wf (h5 z (List.mem_of_getElem? hz)))⟩
      · cases hz
theorem u8_wf {n : Int} (h : (Lit.int .u8 n).wf = true) : 0 ≤ n ∧ n ≤ 255 := by
  simp [Lit.wf, IntKind.min, IntKind.max, IntKind.signed, IntKind.bits] at h
  omega
end Go.Proofs.Ythohienbmhohjaa
