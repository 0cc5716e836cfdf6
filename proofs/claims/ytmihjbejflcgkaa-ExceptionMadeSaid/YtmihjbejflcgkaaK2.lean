/- Names: the catalog's and the reference's. No program is in sight here. -/
import Derived.Test.YtmihjbejflcgkaaK1
set_option linter.unusedVariables false
set_option linter.unusedSimpArgs false
namespace Go.Proofs.Ytmihjbejflcgkaa
open Go
theorem W_succ' {i n : Nat} (h : i < n) (hn : n ≤ 9223372036854775807) : W ((i : Int) + 1) = ((i + 1 : Nat) : Int) := by
  rw [W_id (by omega)]; omega
theorem toB_len (s : ByteArray) : (toB s).length = s.size := by unfold toB; rw [Array.length_toList]; rfl
theorem idxT_at {s : ByteArray} {i : Nat} {c : UInt8} (h : (toB s)[i]? = some c) : idxT s (i : Int) = some c := by
  unfold idxT
  rw [if_neg (by omega), Int.toNat_natCast]
  unfold toB at h
  rw [← h]; simp
def chS (c : UInt8) : Bool := decide (33 ≤ (c.toNat : Int)) && decide ((c.toNat : Int) ≤ 126)
def nameS (s : ByteArray) : Bool := decide (1 ≤ (s.size : Int)) && decide ((s.size : Int) ≤ 32) && !(toB s).any (fun c => !chS c)
theorem cat_Named (s : ByteArray) (hs : s.size ≤ 9223372036854775807) : g_catalog_Named s = some (nameS s) := by
  unfold g_catalog_Named nameS
  refine (loop_any (body := fun q' => g_catalog_Named.l1 s q') (toB s) (fun i => (i : Int)) (fun c => !chS c) false (decide (1 ≤ (s.size : Int)) && decide ((s.size : Int) ≤ 32)) (fun i c hc => ?_) ?_).trans ?_
  · have h1 := at_lt hc
    rw [toB_len] at h1
    show g_catalog_Named.l1 s (i : Int) = _
    unfold g_catalog_Named.l1 g_catalog_Named.j2 chS
    rw [for_in hc, W_succ' h1 hs]
    by_cases a : (c.toNat : Int) ≤ 32
    · rw [decide_eq_true a, decide_eq_false (show ¬ (33 : Int) ≤ (c.toNat : Int) by omega)]; rfl
    · rw [decide_eq_false a, decide_eq_true (show (33 : Int) ≤ (c.toNat : Int) by omega)]
      by_cases b : 126 < (c.toNat : Int)
      · rw [decide_eq_true b, decide_eq_false (by omega)]; rfl
      · rw [decide_eq_false b, decide_eq_true (by omega)]; rfl
  · show g_catalog_Named.l1 s ((toB s).length : Int) = _
    unfold g_catalog_Named.l1
    rw [for_out]
    by_cases a : (1 : Int) ≤ (s.size : Int) <;> simp [a, up]
  · cases (toB s).any fun c => !chS c <;> simp
theorem ref_Name (s : ByteArray) (hs : s.size ≤ 9223372036854775807) : g_ref03_Name s = some (nameS s) := by
  unfold g_ref03_Name nameS
  have hl : g_ref03_Name.j1 s false = some (!(toB s).any fun c => !chS c) := by
    unfold g_ref03_Name.j1
    rw [cond_false]
    refine (loop_any (body := fun q' => g_ref03_Name.l2 s q') (toB s) (fun i => (i : Int)) (fun c => !chS c) false true (fun i c hc => ?_) ?_).trans ?_
    · have h1 := at_lt hc
      rw [toB_len] at h1
      show g_ref03_Name.l2 s (i : Int) = _
      unfold g_ref03_Name.l2 g_ref03_Name.j3 chS
      rw [decide_eq_true (by omega), cond_true, idxT_at hc, Option.bind_some, Option.bind_some, W_succ' h1 hs]
      by_cases a : (c.toNat : Int) < 33
      · rw [decide_eq_true a, decide_eq_false (show ¬ (33 : Int) ≤ (c.toNat : Int) by omega)]; rfl
      · rw [decide_eq_false a, decide_eq_true (show (33 : Int) ≤ (c.toNat : Int) by omega)]
        by_cases b : 126 < (c.toNat : Int)
        · rw [decide_eq_true b, decide_eq_false (by omega)]; rfl
        · rw [decide_eq_false b, decide_eq_true (by omega)]; rfl
    · show g_ref03_Name.l2 s ((toB s).length : Int) = _
      unfold g_ref03_Name.l2
      rw [toB_len, for_out]; rfl
    · cases (toB s).any fun c => !chS c <;> rfl
  by_cases a : (s.size : Int) < 1
  · rw [decide_eq_true a, decide_eq_false (show ¬ (1 : Int) ≤ (s.size : Int) by omega)]; rfl
  · rw [decide_eq_false a, decide_eq_true (show (1 : Int) ≤ (s.size : Int) by omega), cond_false]
    by_cases b : 32 < (s.size : Int)
    · rw [decide_eq_true b, decide_eq_false (by omega)]; rfl
    · rw [decide_eq_false b, decide_eq_true (by omega), hl]; simp
end Go.Proofs.Ytmihjbejflcgkaa
