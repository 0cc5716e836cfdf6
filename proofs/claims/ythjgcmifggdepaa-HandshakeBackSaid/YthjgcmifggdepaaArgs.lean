/- What the arguments of a law read as, in this seat's words. -/
import Derived.Test.YthjgcmifggdepaaMem
import Derived.OpenShut
set_option linter.unusedSimpArgs false
set_option linter.unusedVariables false
namespace Go.Proofs.Ythjgcmifggdepaa
open Go.RowKit

theorem lt_of_cell {w : World} {p : Addr} {u : Value} (h : w.cell? p = some u) : p.block < w.heap.size := by
  rcases Nat.lt_or_ge p.block w.heap.size with h1 | h1
  · exact h1
  · rw [World.cell?, Array.getElem?_eq_none h1] at h
    simp at h

/-- Bytes that came in. -/
theorem row_bytes {w : World} {a : Option Addr} {len cap : Nat} {zs : List Int} (h : (a = none ∧ len = 0 ∧ cap = 0 ∧ zs = []) ∨ ∃ x, a = some x ∧ len ≤ cap ∧ cap ≤ maxLen ∧ zs.length = cap ∧ (∀ i, i < zs.length → w.cell? (x.add i) = some (.int .u8 (zs.getD i 0))) ∧ ∀ n ∈ zs, (Lit.int .u8 n).wf = true) :
    ∃ l : List UInt8, Rd w (.sl 1 (bytesC l)) (.slice a len cap) := by
  rcases h with ⟨rfl, rfl, rfl, -⟩ | ⟨x, rfl, h1, h2, h3, h4, h5⟩
  · exact ⟨[], RdC.nil_ 1⟩
  · refine ⟨(zs.take len).map fun z => UInt8.ofNat z.toNat, RdC.mk_slice (by simp [bytesC, h3]; omega) h1 h2 fun hn => ⟨x, rfl, ?_, fun j c hj => ?_⟩⟩
    · have := lt_of_cell (h4 0 (by omega))
      rwa [block_add] at this
    · simp only [bytesC, List.getElem?_map, Option.map_eq_some_iff] at hj
      obtain ⟨y, ⟨z, hz, rfl⟩, rfl⟩ := hj
      rw [List.getElem?_take] at hz
      split at hz
      · have hjl := (List.getElem?_eq_some_iff.1 hz).1
        have hr := bounds_u8 (h5 z (List.mem_of_getElem? hz))
        refine ⟨_, h4 j hjl, ?_⟩
        have e1 : zs.getD j 0 = z := by simp [hz]
        have e2 : ((UInt8.ofNat z.toNat).toNat : Int) = z := by rw [UInt8.toNat_ofNat', Nat.mod_eq_of_lt (by omega)]; omega
        rw [e1]
        unfold RdC
        rw [e2]
        exact ⟨rfl, u8_range hr⟩
      · cases hz
theorem i64_wf {n : Int} (h : (Lit.int .i64 n).wf = true) : -9223372036854775808 ≤ n ∧ n ≤ 9223372036854775807 := by
  simp [Lit.wf, IntKind.min, IntKind.max, IntKind.signed, IntKind.bits] at h
  omega

/-- Numbers that came in. -/
theorem row_ints {w : World} {a : Option Addr} {len cap : Nat} {zs : List Int} (h : (a = none ∧ len = 0 ∧ cap = 0 ∧ zs = []) ∨ ∃ x, a = some x ∧ len ≤ cap ∧ cap ≤ maxLen ∧ zs.length = cap ∧ (∀ i, i < zs.length → w.cell? (x.add i) = some (.int .i64 (zs.getD i 0))) ∧ ∀ n ∈ zs, (Lit.int .i64 n).wf = true) :
    ∃ l : List Int, Rd w (.sl 1 (intsC l)) (.slice a len cap) := by
  rcases h with ⟨rfl, rfl, rfl, -⟩ | ⟨x, rfl, h1, h2, h3, h4, h5⟩
  · exact ⟨[], RdC.nil_ 1⟩
  · refine ⟨zs.take len, RdC.mk_slice (by rw [intsC_length, List.length_take, h3]; omega) h1 h2 fun hn => ⟨x, rfl, ?_, fun j c hj => ?_⟩⟩
    · have := lt_of_cell (h4 0 (by omega))
      rwa [block_add] at this
    · simp only [intsC, List.getElem?_map, Option.map_eq_some_iff] at hj
      obtain ⟨z, hz, rfl⟩ := hj
      rw [List.getElem?_take] at hz
      split at hz
      · have hjl := (List.getElem?_eq_some_iff.1 hz).1
        refine ⟨_, h4 j hjl, ?_⟩
        have e1 : zs.getD j 0 = z := by simp [hz]
        rw [e1]
        unfold RdC
        exact ⟨rfl, i64_range (i64_wf (h5 z (List.mem_of_getElem? hz)))⟩
      · cases hz
theorem u8_wf {n : Int} (h : (Lit.int .u8 n).wf = true) : 0 ≤ n ∧ n ≤ 255 := by
  simp [Lit.wf, IntKind.min, IntKind.max, IntKind.signed, IntKind.bits] at h
  omega
end Go.Proofs.Ythjgcmifggdepaa
