/- Bounded forms of the plain functions. -/
import Derived.Test.YtbeageaekgccgaaPC
import Derived.Test.YtbeageaekgccgaaP1
set_option linter.unusedVariables false
set_option linter.unusedSimpArgs false
namespace Go.Proofs.Ytbeageaekgccgaa
theorem m_slices_IndexFunc_api_Entry.l1 {s : (List api_Entry)} {f : api_Entry → Option (Bool)} {x8_1 : Int} {f_p : api_Entry → Option (Bool)} (h_f : ∀ (x0 : api_Entry), OLe (f x0) (f_p x0)) : OLe (g_slices_IndexFunc_api_Entry.l1 s f x8_1) (g_slices_IndexFunc_api_Entry.l1 s f_p x8_1) := by
  unfold g_slices_IndexFunc_api_Entry.l1
  repeat' (with_reducible first | assumption | apply OLe.bind_ | apply OLe.cond_ | apply OLe.up_ | apply h_f | exact OLe.refl | intro _)
theorem m_slices_IndexFunc_api_Entry {s : (List api_Entry)} {f : api_Entry → Option (Bool)} {f_p : api_Entry → Option (Bool)} (h_f : ∀ (x0 : api_Entry), OLe (f x0) (f_p x0)) : OLe (g_slices_IndexFunc_api_Entry s f) (g_slices_IndexFunc_api_Entry s f_p) := by
  unfold g_slices_IndexFunc_api_Entry
  repeat' (with_reducible first | assumption | apply OLe.bind_ | apply OLe.cond_ | apply OLe.up_ | apply h_f | apply m_slices_IndexFunc_api_Entry.l1 | (refine OLe.lp (fun _ => ?_) _) | exact OLe.refl | intro _)
theorem m_slices_insertionSortCmpFunc_api_Entry.l2 {a : Int} {cmp : api_Entry → api_Entry → Option (Int)} {i_1 : Int} {j_2 : Int} {data_2 : List api_Entry} {cmp_p : api_Entry → api_Entry → Option (Int)} (h_cmp : ∀ (x0 : api_Entry) (x1 : api_Entry), OLe (cmp x0 x1) (cmp_p x0 x1)) : OLe (g_slices_insertionSortCmpFunc_api_Entry.l2 a cmp i_1 j_2 data_2) (g_slices_insertionSortCmpFunc_api_Entry.l2 a cmp_p i_1 j_2 data_2) := by
  unfold g_slices_insertionSortCmpFunc_api_Entry.l2
  repeat' (with_reducible first | assumption | apply OLe.bind_ | apply OLe.cond_ | apply OLe.up_ | apply h_cmp | exact OLe.refl | intro _)
theorem m_slices_insertionSortCmpFunc_api_Entry.l1 {a : Int} {b : Int} {cmp : api_Entry → api_Entry → Option (Int)} {i_1 : Int} {data_1 : List api_Entry} {cmp_p : api_Entry → api_Entry → Option (Int)} (h_cmp : ∀ (x0 : api_Entry) (x1 : api_Entry), OLe (cmp x0 x1) (cmp_p x0 x1)) : OLe (g_slices_insertionSortCmpFunc_api_Entry.l1 a b cmp i_1 data_1) (g_slices_insertionSortCmpFunc_api_Entry.l1 a b cmp_p i_1 data_1) := by
  unfold g_slices_insertionSortCmpFunc_api_Entry.l1
  repeat' (with_reducible first | assumption | apply OLe.bind_ | apply OLe.cond_ | apply OLe.up_ | apply h_cmp | apply m_slices_insertionSortCmpFunc_api_Entry.l2 | (refine OLe.lp (fun _ => ?_) _) | exact OLe.refl | intro _)
theorem m_slices_insertionSortCmpFunc_api_Entry {data : List api_Entry} {a : Int} {b : Int} {cmp : api_Entry → api_Entry → Option (Int)} {cmp_p : api_Entry → api_Entry → Option (Int)} (h_cmp : ∀ (x0 : api_Entry) (x1 : api_Entry), OLe (cmp x0 x1) (cmp_p x0 x1)) : OLe (g_slices_insertionSortCmpFunc_api_Entry data a b cmp) (g_slices_insertionSortCmpFunc_api_Entry data a b cmp_p) := by
  unfold g_slices_insertionSortCmpFunc_api_Entry
  repeat' (with_reducible first | assumption | apply OLe.bind_ | apply OLe.cond_ | apply OLe.up_ | apply h_cmp | apply m_slices_insertionSortCmpFunc_api_Entry.l1 | (refine OLe.lp (fun _ => ?_) _) | exact OLe.refl | intro _)
theorem m_slices_siftDownCmpFunc_api_Entry.j3 {first : Int} {cmp : api_Entry → api_Entry → Option (Int)} {root_1 : Int} {data_1 : List api_Entry} {child_3 : Int} {cmp_p : api_Entry → api_Entry → Option (Int)} (h_cmp : ∀ (x0 : api_Entry) (x1 : api_Entry), OLe (cmp x0 x1) (cmp_p x0 x1)) : OLe (g_slices_siftDownCmpFunc_api_Entry.j3 first cmp root_1 data_1 child_3) (g_slices_siftDownCmpFunc_api_Entry.j3 first cmp_p root_1 data_1 child_3) := by
  unfold g_slices_siftDownCmpFunc_api_Entry.j3
  repeat' (with_reducible first | assumption | apply OLe.bind_ | apply OLe.cond_ | apply OLe.up_ | apply h_cmp | exact OLe.refl | intro _)
theorem m_slices_siftDownCmpFunc_api_Entry.j2 {first : Int} {cmp : api_Entry → api_Entry → Option (Int)} {root_1 : Int} {data_1 : List api_Entry} {x40_2 : Bool} {cmp_p : api_Entry → api_Entry → Option (Int)} (h_cmp : ∀ (x0 : api_Entry) (x1 : api_Entry), OLe (cmp x0 x1) (cmp_p x0 x1)) : OLe (g_slices_siftDownCmpFunc_api_Entry.j2 first cmp root_1 data_1 x40_2) (g_slices_siftDownCmpFunc_api_Entry.j2 first cmp_p root_1 data_1 x40_2) := by
  unfold g_slices_siftDownCmpFunc_api_Entry.j2
  repeat' (with_reducible first | assumption | apply OLe.bind_ | apply OLe.cond_ | apply OLe.up_ | apply h_cmp | apply m_slices_siftDownCmpFunc_api_Entry.j3 | exact OLe.refl | intro _)
theorem m_slices_siftDownCmpFunc_api_Entry.l1 {hi : Int} {first : Int} {cmp : api_Entry → api_Entry → Option (Int)} {root_1 : Int} {data_1 : List api_Entry} {cmp_p : api_Entry → api_Entry → Option (Int)} (h_cmp : ∀ (x0 : api_Entry) (x1 : api_Entry), OLe (cmp x0 x1) (cmp_p x0 x1)) : OLe (g_slices_siftDownCmpFunc_api_Entry.l1 hi first cmp root_1 data_1) (g_slices_siftDownCmpFunc_api_Entry.l1 hi first cmp_p root_1 data_1) := by
  unfold g_slices_siftDownCmpFunc_api_Entry.l1
  repeat' (with_reducible first | assumption | apply OLe.bind_ | apply OLe.cond_ | apply OLe.up_ | apply h_cmp | apply m_slices_siftDownCmpFunc_api_Entry.j2 | exact OLe.refl | intro _)
theorem m_slices_siftDownCmpFunc_api_Entry {data : List api_Entry} {lo : Int} {hi : Int} {first : Int} {cmp : api_Entry → api_Entry → Option (Int)} {cmp_p : api_Entry → api_Entry → Option (Int)} (h_cmp : ∀ (x0 : api_Entry) (x1 : api_Entry), OLe (cmp x0 x1) (cmp_p x0 x1)) : OLe (g_slices_siftDownCmpFunc_api_Entry data lo hi first cmp) (g_slices_siftDownCmpFunc_api_Entry data lo hi first cmp_p) := by
  unfold g_slices_siftDownCmpFunc_api_Entry
  repeat' (with_reducible first | assumption | apply OLe.bind_ | apply OLe.cond_ | apply OLe.up_ | apply h_cmp | apply m_slices_siftDownCmpFunc_api_Entry.l1 | (refine OLe.lp (fun _ => ?_) _) | exact OLe.refl | intro _)
theorem m_slices_heapSortCmpFunc_api_Entry.l2 {a : Int} {cmp : api_Entry → api_Entry → Option (Int)} {i_2 : Int} {data_2 : List api_Entry} {cmp_p : api_Entry → api_Entry → Option (Int)} (h_cmp : ∀ (x0 : api_Entry) (x1 : api_Entry), OLe (cmp x0 x1) (cmp_p x0 x1)) : OLe (g_slices_heapSortCmpFunc_api_Entry.l2 a cmp i_2 data_2) (g_slices_heapSortCmpFunc_api_Entry.l2 a cmp_p i_2 data_2) := by
  unfold g_slices_heapSortCmpFunc_api_Entry.l2
  repeat' (with_reducible first | assumption | apply OLe.bind_ | apply OLe.cond_ | apply OLe.up_ | apply h_cmp | apply m_slices_siftDownCmpFunc_api_Entry | exact OLe.refl | intro _)
theorem m_slices_heapSortCmpFunc_api_Entry.l1 {a : Int} {b : Int} {cmp : api_Entry → api_Entry → Option (Int)} {i_1 : Int} {data_1 : List api_Entry} {cmp_p : api_Entry → api_Entry → Option (Int)} (h_cmp : ∀ (x0 : api_Entry) (x1 : api_Entry), OLe (cmp x0 x1) (cmp_p x0 x1)) : OLe (g_slices_heapSortCmpFunc_api_Entry.l1 a b cmp i_1 data_1) (g_slices_heapSortCmpFunc_api_Entry.l1 a b cmp_p i_1 data_1) := by
  unfold g_slices_heapSortCmpFunc_api_Entry.l1
  repeat' (with_reducible first | assumption | apply OLe.bind_ | apply OLe.cond_ | apply OLe.up_ | apply h_cmp | apply m_slices_siftDownCmpFunc_api_Entry | apply m_slices_heapSortCmpFunc_api_Entry.l2 | (refine OLe.lp (fun _ => ?_) _) | exact OLe.refl | intro _)
theorem m_slices_heapSortCmpFunc_api_Entry {data : List api_Entry} {a : Int} {b : Int} {cmp : api_Entry → api_Entry → Option (Int)} {cmp_p : api_Entry → api_Entry → Option (Int)} (h_cmp : ∀ (x0 : api_Entry) (x1 : api_Entry), OLe (cmp x0 x1) (cmp_p x0 x1)) : OLe (g_slices_heapSortCmpFunc_api_Entry data a b cmp) (g_slices_heapSortCmpFunc_api_Entry data a b cmp_p) := by
  unfold g_slices_heapSortCmpFunc_api_Entry
  repeat' (with_reducible first | assumption | apply OLe.bind_ | apply OLe.cond_ | apply OLe.up_ | apply h_cmp | apply m_slices_heapSortCmpFunc_api_Entry.l1 | (refine OLe.lp (fun _ => ?_) _) | exact OLe.refl | intro _)
theorem m_slices_breakPatternsCmpFunc_api_Entry {data : List api_Entry} {a : Int} {b : Int} {cmp : api_Entry → api_Entry → Option (Int)} {cmp_p : api_Entry → api_Entry → Option (Int)} (h_cmp : ∀ (x0 : api_Entry) (x1 : api_Entry), OLe (cmp x0 x1) (cmp_p x0 x1)) : OLe (g_slices_breakPatternsCmpFunc_api_Entry data a b cmp) (g_slices_breakPatternsCmpFunc_api_Entry data a b cmp_p) := by
  unfold g_slices_breakPatternsCmpFunc_api_Entry
  repeat' (with_reducible first | assumption | apply OLe.bind_ | apply OLe.cond_ | apply OLe.up_ | apply h_cmp | (refine OLe.lp (fun _ => ?_) _) | exact OLe.refl | intro _)
theorem m_slices_order2CmpFunc_api_Entry {data : (List api_Entry)} {a : Int} {b : Int} {swaps : Int} {cmp : api_Entry → api_Entry → Option (Int)} {cmp_p : api_Entry → api_Entry → Option (Int)} (h_cmp : ∀ (x0 : api_Entry) (x1 : api_Entry), OLe (cmp x0 x1) (cmp_p x0 x1)) : OLe (g_slices_order2CmpFunc_api_Entry data a b swaps cmp) (g_slices_order2CmpFunc_api_Entry data a b swaps cmp_p) := by
  unfold g_slices_order2CmpFunc_api_Entry
  repeat' (with_reducible first | assumption | apply OLe.bind_ | apply OLe.cond_ | apply OLe.up_ | apply h_cmp | exact OLe.refl | intro _)
theorem m_slices_medianCmpFunc_api_Entry {data : (List api_Entry)} {a : Int} {b : Int} {c : Int} {swaps : Int} {cmp : api_Entry → api_Entry → Option (Int)} {cmp_p : api_Entry → api_Entry → Option (Int)} (h_cmp : ∀ (x0 : api_Entry) (x1 : api_Entry), OLe (cmp x0 x1) (cmp_p x0 x1)) : OLe (g_slices_medianCmpFunc_api_Entry data a b c swaps cmp) (g_slices_medianCmpFunc_api_Entry data a b c swaps cmp_p) := by
  unfold g_slices_medianCmpFunc_api_Entry
  repeat' (with_reducible first | assumption | apply OLe.bind_ | apply OLe.cond_ | apply OLe.up_ | apply h_cmp | apply m_slices_order2CmpFunc_api_Entry | exact OLe.refl | intro _)
theorem m_slices_medianAdjacentCmpFunc_api_Entry {data : (List api_Entry)} {a : Int} {swaps : Int} {cmp : api_Entry → api_Entry → Option (Int)} {cmp_p : api_Entry → api_Entry → Option (Int)} (h_cmp : ∀ (x0 : api_Entry) (x1 : api_Entry), OLe (cmp x0 x1) (cmp_p x0 x1)) : OLe (g_slices_medianAdjacentCmpFunc_api_Entry data a swaps cmp) (g_slices_medianAdjacentCmpFunc_api_Entry data a swaps cmp_p) := by
  unfold g_slices_medianAdjacentCmpFunc_api_Entry
  repeat' (with_reducible first | assumption | apply OLe.bind_ | apply OLe.cond_ | apply OLe.up_ | apply h_cmp | apply m_slices_medianCmpFunc_api_Entry | exact OLe.refl | intro _)
theorem m_slices_choosePivotCmpFunc_api_Entry.j1 {data : (List api_Entry)} {cmp : api_Entry → api_Entry → Option (Int)} {i_1 : Int} {j_1 : Int} {k_1 : Int} {swaps_1 : Int} {cmp_p : api_Entry → api_Entry → Option (Int)} (h_cmp : ∀ (x0 : api_Entry) (x1 : api_Entry), OLe (cmp x0 x1) (cmp_p x0 x1)) : OLe (g_slices_choosePivotCmpFunc_api_Entry.j1 data cmp i_1 j_1 k_1 swaps_1) (g_slices_choosePivotCmpFunc_api_Entry.j1 data cmp_p i_1 j_1 k_1 swaps_1) := by
  unfold g_slices_choosePivotCmpFunc_api_Entry.j1
  repeat' (with_reducible first | assumption | apply OLe.bind_ | apply OLe.cond_ | apply OLe.up_ | apply h_cmp | apply m_slices_medianCmpFunc_api_Entry | exact OLe.refl | intro _)
theorem m_slices_choosePivotCmpFunc_api_Entry {data : (List api_Entry)} {a : Int} {b : Int} {cmp : api_Entry → api_Entry → Option (Int)} {cmp_p : api_Entry → api_Entry → Option (Int)} (h_cmp : ∀ (x0 : api_Entry) (x1 : api_Entry), OLe (cmp x0 x1) (cmp_p x0 x1)) : OLe (g_slices_choosePivotCmpFunc_api_Entry data a b cmp) (g_slices_choosePivotCmpFunc_api_Entry data a b cmp_p) := by
  unfold g_slices_choosePivotCmpFunc_api_Entry
  repeat' (with_reducible first | assumption | apply OLe.bind_ | apply OLe.cond_ | apply OLe.up_ | apply h_cmp | apply m_slices_medianAdjacentCmpFunc_api_Entry | apply m_slices_choosePivotCmpFunc_api_Entry.j1 | exact OLe.refl | intro _)
theorem m_slices_reverseRangeCmpFunc_api_Entry {data : List api_Entry} {a : Int} {b : Int} {cmp : api_Entry → api_Entry → Option (Int)} {cmp_p : api_Entry → api_Entry → Option (Int)} (h_cmp : ∀ (x0 : api_Entry) (x1 : api_Entry), OLe (cmp x0 x1) (cmp_p x0 x1)) : OLe (g_slices_reverseRangeCmpFunc_api_Entry data a b cmp) (g_slices_reverseRangeCmpFunc_api_Entry data a b cmp_p) := by
  unfold g_slices_reverseRangeCmpFunc_api_Entry
  repeat' (with_reducible first | assumption | apply OLe.bind_ | apply OLe.cond_ | apply OLe.up_ | apply h_cmp | (refine OLe.lp (fun _ => ?_) _) | exact OLe.refl | intro _)
theorem m_slices_partialInsertionSortCmpFunc_api_Entry.l6 {b : Int} {cmp : api_Entry → api_Entry → Option (Int)} {j_1 : Int} {i_2 : Int} {j_6 : Int} {data_6 : List api_Entry} {cmp_p : api_Entry → api_Entry → Option (Int)} (h_cmp : ∀ (x0 : api_Entry) (x1 : api_Entry), OLe (cmp x0 x1) (cmp_p x0 x1)) : OLe (g_slices_partialInsertionSortCmpFunc_api_Entry.l6 b cmp j_1 i_2 j_6 data_6) (g_slices_partialInsertionSortCmpFunc_api_Entry.l6 b cmp_p j_1 i_2 j_6 data_6) := by
  unfold g_slices_partialInsertionSortCmpFunc_api_Entry.l6
  repeat' (with_reducible first | assumption | apply OLe.bind_ | apply OLe.cond_ | apply OLe.up_ | apply h_cmp | exact OLe.refl | intro _)
theorem m_slices_partialInsertionSortCmpFunc_api_Entry.j5 {b : Int} {cmp : api_Entry → api_Entry → Option (Int)} {j_1 : Int} {i_2 : Int} {data_5 : List api_Entry} {cmp_p : api_Entry → api_Entry → Option (Int)} (h_cmp : ∀ (x0 : api_Entry) (x1 : api_Entry), OLe (cmp x0 x1) (cmp_p x0 x1)) : OLe (g_slices_partialInsertionSortCmpFunc_api_Entry.j5 b cmp j_1 i_2 data_5) (g_slices_partialInsertionSortCmpFunc_api_Entry.j5 b cmp_p j_1 i_2 data_5) := by
  unfold g_slices_partialInsertionSortCmpFunc_api_Entry.j5
  repeat' (with_reducible first | assumption | apply OLe.bind_ | apply OLe.cond_ | apply OLe.up_ | apply h_cmp | apply m_slices_partialInsertionSortCmpFunc_api_Entry.l6 | (refine OLe.lp (fun _ => ?_) _) | exact OLe.refl | intro _)
theorem m_slices_partialInsertionSortCmpFunc_api_Entry.l4 {b : Int} {cmp : api_Entry → api_Entry → Option (Int)} {j_1 : Int} {i_2 : Int} {j_4 : Int} {data_4 : List api_Entry} {cmp_p : api_Entry → api_Entry → Option (Int)} (h_cmp : ∀ (x0 : api_Entry) (x1 : api_Entry), OLe (cmp x0 x1) (cmp_p x0 x1)) : OLe (g_slices_partialInsertionSortCmpFunc_api_Entry.l4 b cmp j_1 i_2 j_4 data_4) (g_slices_partialInsertionSortCmpFunc_api_Entry.l4 b cmp_p j_1 i_2 j_4 data_4) := by
  unfold g_slices_partialInsertionSortCmpFunc_api_Entry.l4
  repeat' (with_reducible first | assumption | apply OLe.bind_ | apply OLe.cond_ | apply OLe.up_ | apply h_cmp | apply m_slices_partialInsertionSortCmpFunc_api_Entry.j5 | exact OLe.refl | intro _)
theorem m_slices_partialInsertionSortCmpFunc_api_Entry.j3 {a : Int} {b : Int} {cmp : api_Entry → api_Entry → Option (Int)} {j_1 : Int} {data_1 : List api_Entry} {i_2 : Int} {x36_3 : Bool} {cmp_p : api_Entry → api_Entry → Option (Int)} (h_cmp : ∀ (x0 : api_Entry) (x1 : api_Entry), OLe (cmp x0 x1) (cmp_p x0 x1)) : OLe (g_slices_partialInsertionSortCmpFunc_api_Entry.j3 a b cmp j_1 data_1 i_2 x36_3) (g_slices_partialInsertionSortCmpFunc_api_Entry.j3 a b cmp_p j_1 data_1 i_2 x36_3) := by
  unfold g_slices_partialInsertionSortCmpFunc_api_Entry.j3
  repeat' (with_reducible first | assumption | apply OLe.bind_ | apply OLe.cond_ | apply OLe.up_ | apply h_cmp | apply m_slices_partialInsertionSortCmpFunc_api_Entry.l4 | apply m_slices_partialInsertionSortCmpFunc_api_Entry.j5 | (refine OLe.lp (fun _ => ?_) _) | exact OLe.refl | intro _)
theorem m_slices_partialInsertionSortCmpFunc_api_Entry.l2 {a : Int} {b : Int} {cmp : api_Entry → api_Entry → Option (Int)} {j_1 : Int} {data_1 : List api_Entry} {i_2 : Int} {cmp_p : api_Entry → api_Entry → Option (Int)} (h_cmp : ∀ (x0 : api_Entry) (x1 : api_Entry), OLe (cmp x0 x1) (cmp_p x0 x1)) : OLe (g_slices_partialInsertionSortCmpFunc_api_Entry.l2 a b cmp j_1 data_1 i_2) (g_slices_partialInsertionSortCmpFunc_api_Entry.l2 a b cmp_p j_1 data_1 i_2) := by
  unfold g_slices_partialInsertionSortCmpFunc_api_Entry.l2
  repeat' (with_reducible first | assumption | apply OLe.bind_ | apply OLe.cond_ | apply OLe.up_ | apply h_cmp | apply m_slices_partialInsertionSortCmpFunc_api_Entry.j3 | exact OLe.refl | intro _)
theorem m_slices_partialInsertionSortCmpFunc_api_Entry.l1 {a : Int} {b : Int} {cmp : api_Entry → api_Entry → Option (Int)} {i_1 : Int} {j_1 : Int} {data_1 : List api_Entry} {cmp_p : api_Entry → api_Entry → Option (Int)} (h_cmp : ∀ (x0 : api_Entry) (x1 : api_Entry), OLe (cmp x0 x1) (cmp_p x0 x1)) : OLe (g_slices_partialInsertionSortCmpFunc_api_Entry.l1 a b cmp i_1 j_1 data_1) (g_slices_partialInsertionSortCmpFunc_api_Entry.l1 a b cmp_p i_1 j_1 data_1) := by
  unfold g_slices_partialInsertionSortCmpFunc_api_Entry.l1
  repeat' (with_reducible first | assumption | apply OLe.bind_ | apply OLe.cond_ | apply OLe.up_ | apply h_cmp | apply m_slices_partialInsertionSortCmpFunc_api_Entry.l2 | (refine OLe.lp (fun _ => ?_) _) | exact OLe.refl | intro _)
theorem m_slices_partialInsertionSortCmpFunc_api_Entry {data : List api_Entry} {a : Int} {b : Int} {cmp : api_Entry → api_Entry → Option (Int)} {cmp_p : api_Entry → api_Entry → Option (Int)} (h_cmp : ∀ (x0 : api_Entry) (x1 : api_Entry), OLe (cmp x0 x1) (cmp_p x0 x1)) : OLe (g_slices_partialInsertionSortCmpFunc_api_Entry data a b cmp) (g_slices_partialInsertionSortCmpFunc_api_Entry data a b cmp_p) := by
  unfold g_slices_partialInsertionSortCmpFunc_api_Entry
  repeat' (with_reducible first | assumption | apply OLe.bind_ | apply OLe.cond_ | apply OLe.up_ | apply h_cmp | apply m_slices_partialInsertionSortCmpFunc_api_Entry.l1 | (refine OLe.lp (fun _ => ?_) _) | exact OLe.refl | intro _)
theorem m_slices_partitionEqualCmpFunc_api_Entry.l4 {a : Int} {cmp : api_Entry → api_Entry → Option (Int)} {data_1 : List api_Entry} {i_2 : Int} {j_4 : Int} {cmp_p : api_Entry → api_Entry → Option (Int)} (h_cmp : ∀ (x0 : api_Entry) (x1 : api_Entry), OLe (cmp x0 x1) (cmp_p x0 x1)) : OLe (g_slices_partitionEqualCmpFunc_api_Entry.l4 a cmp data_1 i_2 j_4) (g_slices_partitionEqualCmpFunc_api_Entry.l4 a cmp_p data_1 i_2 j_4) := by
  unfold g_slices_partitionEqualCmpFunc_api_Entry.l4
  repeat' (with_reducible first | assumption | apply OLe.bind_ | apply OLe.cond_ | apply OLe.up_ | apply h_cmp | exact OLe.refl | intro _)
theorem m_slices_partitionEqualCmpFunc_api_Entry.j3 {a : Int} {cmp : api_Entry → api_Entry → Option (Int)} {j_1 : Int} {data_1 : List api_Entry} {i_2 : Int} {x47_3 : Bool} {cmp_p : api_Entry → api_Entry → Option (Int)} (h_cmp : ∀ (x0 : api_Entry) (x1 : api_Entry), OLe (cmp x0 x1) (cmp_p x0 x1)) : OLe (g_slices_partitionEqualCmpFunc_api_Entry.j3 a cmp j_1 data_1 i_2 x47_3) (g_slices_partitionEqualCmpFunc_api_Entry.j3 a cmp_p j_1 data_1 i_2 x47_3) := by
  unfold g_slices_partitionEqualCmpFunc_api_Entry.j3
  repeat' (with_reducible first | assumption | apply OLe.bind_ | apply OLe.cond_ | apply OLe.up_ | apply h_cmp | apply m_slices_partitionEqualCmpFunc_api_Entry.l4 | (refine OLe.lp (fun _ => ?_) _) | exact OLe.refl | intro _)
theorem m_slices_partitionEqualCmpFunc_api_Entry.l2 {a : Int} {cmp : api_Entry → api_Entry → Option (Int)} {j_1 : Int} {data_1 : List api_Entry} {i_2 : Int} {cmp_p : api_Entry → api_Entry → Option (Int)} (h_cmp : ∀ (x0 : api_Entry) (x1 : api_Entry), OLe (cmp x0 x1) (cmp_p x0 x1)) : OLe (g_slices_partitionEqualCmpFunc_api_Entry.l2 a cmp j_1 data_1 i_2) (g_slices_partitionEqualCmpFunc_api_Entry.l2 a cmp_p j_1 data_1 i_2) := by
  unfold g_slices_partitionEqualCmpFunc_api_Entry.l2
  repeat' (with_reducible first | assumption | apply OLe.bind_ | apply OLe.cond_ | apply OLe.up_ | apply h_cmp | apply m_slices_partitionEqualCmpFunc_api_Entry.j3 | exact OLe.refl | intro _)
theorem m_slices_partitionEqualCmpFunc_api_Entry.l1 {a : Int} {cmp : api_Entry → api_Entry → Option (Int)} {i_1 : Int} {j_1 : Int} {data_1 : List api_Entry} {cmp_p : api_Entry → api_Entry → Option (Int)} (h_cmp : ∀ (x0 : api_Entry) (x1 : api_Entry), OLe (cmp x0 x1) (cmp_p x0 x1)) : OLe (g_slices_partitionEqualCmpFunc_api_Entry.l1 a cmp i_1 j_1 data_1) (g_slices_partitionEqualCmpFunc_api_Entry.l1 a cmp_p i_1 j_1 data_1) := by
  unfold g_slices_partitionEqualCmpFunc_api_Entry.l1
  repeat' (with_reducible first | assumption | apply OLe.bind_ | apply OLe.cond_ | apply OLe.up_ | apply h_cmp | apply m_slices_partitionEqualCmpFunc_api_Entry.l2 | (refine OLe.lp (fun _ => ?_) _) | exact OLe.refl | intro _)
theorem m_slices_partitionEqualCmpFunc_api_Entry {data : List api_Entry} {a : Int} {b : Int} {pivot : Int} {cmp : api_Entry → api_Entry → Option (Int)} {cmp_p : api_Entry → api_Entry → Option (Int)} (h_cmp : ∀ (x0 : api_Entry) (x1 : api_Entry), OLe (cmp x0 x1) (cmp_p x0 x1)) : OLe (g_slices_partitionEqualCmpFunc_api_Entry data a b pivot cmp) (g_slices_partitionEqualCmpFunc_api_Entry data a b pivot cmp_p) := by
  unfold g_slices_partitionEqualCmpFunc_api_Entry
  repeat' (with_reducible first | assumption | apply OLe.bind_ | apply OLe.cond_ | apply OLe.up_ | apply h_cmp | apply m_slices_partitionEqualCmpFunc_api_Entry.l1 | (refine OLe.lp (fun _ => ?_) _) | exact OLe.refl | intro _)
theorem m_slices_partitionCmpFunc_api_Entry.l8 {a : Int} {cmp : api_Entry → api_Entry → Option (Int)} {data_5 : List api_Entry} {i_6 : Int} {j_8 : Int} {cmp_p : api_Entry → api_Entry → Option (Int)} (h_cmp : ∀ (x0 : api_Entry) (x1 : api_Entry), OLe (cmp x0 x1) (cmp_p x0 x1)) : OLe (g_slices_partitionCmpFunc_api_Entry.l8 a cmp data_5 i_6 j_8) (g_slices_partitionCmpFunc_api_Entry.l8 a cmp_p data_5 i_6 j_8) := by
  unfold g_slices_partitionCmpFunc_api_Entry.l8
  repeat' (with_reducible first | assumption | apply OLe.bind_ | apply OLe.cond_ | apply OLe.up_ | apply h_cmp | exact OLe.refl | intro _)
theorem m_slices_partitionCmpFunc_api_Entry.j7 {a : Int} {cmp : api_Entry → api_Entry → Option (Int)} {j_5 : Int} {data_5 : List api_Entry} {i_6 : Int} {x120_7 : Bool} {cmp_p : api_Entry → api_Entry → Option (Int)} (h_cmp : ∀ (x0 : api_Entry) (x1 : api_Entry), OLe (cmp x0 x1) (cmp_p x0 x1)) : OLe (g_slices_partitionCmpFunc_api_Entry.j7 a cmp j_5 data_5 i_6 x120_7) (g_slices_partitionCmpFunc_api_Entry.j7 a cmp_p j_5 data_5 i_6 x120_7) := by
  unfold g_slices_partitionCmpFunc_api_Entry.j7
  repeat' (with_reducible first | assumption | apply OLe.bind_ | apply OLe.cond_ | apply OLe.up_ | apply h_cmp | apply m_slices_partitionCmpFunc_api_Entry.l8 | (refine OLe.lp (fun _ => ?_) _) | exact OLe.refl | intro _)
theorem m_slices_partitionCmpFunc_api_Entry.l6 {a : Int} {cmp : api_Entry → api_Entry → Option (Int)} {j_5 : Int} {data_5 : List api_Entry} {i_6 : Int} {cmp_p : api_Entry → api_Entry → Option (Int)} (h_cmp : ∀ (x0 : api_Entry) (x1 : api_Entry), OLe (cmp x0 x1) (cmp_p x0 x1)) : OLe (g_slices_partitionCmpFunc_api_Entry.l6 a cmp j_5 data_5 i_6) (g_slices_partitionCmpFunc_api_Entry.l6 a cmp_p j_5 data_5 i_6) := by
  unfold g_slices_partitionCmpFunc_api_Entry.l6
  repeat' (with_reducible first | assumption | apply OLe.bind_ | apply OLe.cond_ | apply OLe.up_ | apply h_cmp | apply m_slices_partitionCmpFunc_api_Entry.j7 | exact OLe.refl | intro _)
theorem m_slices_partitionCmpFunc_api_Entry.l5 {a : Int} {cmp : api_Entry → api_Entry → Option (Int)} {i_5 : Int} {j_5 : Int} {data_5 : List api_Entry} {cmp_p : api_Entry → api_Entry → Option (Int)} (h_cmp : ∀ (x0 : api_Entry) (x1 : api_Entry), OLe (cmp x0 x1) (cmp_p x0 x1)) : OLe (g_slices_partitionCmpFunc_api_Entry.l5 a cmp i_5 j_5 data_5) (g_slices_partitionCmpFunc_api_Entry.l5 a cmp_p i_5 j_5 data_5) := by
  unfold g_slices_partitionCmpFunc_api_Entry.l5
  repeat' (with_reducible first | assumption | apply OLe.bind_ | apply OLe.cond_ | apply OLe.up_ | apply h_cmp | apply m_slices_partitionCmpFunc_api_Entry.l6 | (refine OLe.lp (fun _ => ?_) _) | exact OLe.refl | intro _)
theorem m_slices_partitionCmpFunc_api_Entry.j4 {data : List api_Entry} {a : Int} {pivot : Int} {cmp : api_Entry → api_Entry → Option (Int)} {e : api_Entry} {e_2 : api_Entry} {i_1 : Int} {j_3 : Int} {x66_4 : Bool} {cmp_p : api_Entry → api_Entry → Option (Int)} (h_cmp : ∀ (x0 : api_Entry) (x1 : api_Entry), OLe (cmp x0 x1) (cmp_p x0 x1)) : OLe (g_slices_partitionCmpFunc_api_Entry.j4 data a pivot cmp e e_2 i_1 j_3 x66_4) (g_slices_partitionCmpFunc_api_Entry.j4 data a pivot cmp_p e e_2 i_1 j_3 x66_4) := by
  unfold g_slices_partitionCmpFunc_api_Entry.j4
  repeat' (with_reducible first | assumption | apply OLe.bind_ | apply OLe.cond_ | apply OLe.up_ | apply h_cmp | apply m_slices_partitionCmpFunc_api_Entry.l5 | (refine OLe.lp (fun _ => ?_) _) | exact OLe.refl | intro _)
theorem m_slices_partitionCmpFunc_api_Entry.l3 {data : List api_Entry} {a : Int} {pivot : Int} {cmp : api_Entry → api_Entry → Option (Int)} {e : api_Entry} {e_2 : api_Entry} {i_1 : Int} {j_3 : Int} {cmp_p : api_Entry → api_Entry → Option (Int)} (h_cmp : ∀ (x0 : api_Entry) (x1 : api_Entry), OLe (cmp x0 x1) (cmp_p x0 x1)) : OLe (g_slices_partitionCmpFunc_api_Entry.l3 data a pivot cmp e e_2 i_1 j_3) (g_slices_partitionCmpFunc_api_Entry.l3 data a pivot cmp_p e e_2 i_1 j_3) := by
  unfold g_slices_partitionCmpFunc_api_Entry.l3
  repeat' (with_reducible first | assumption | apply OLe.bind_ | apply OLe.cond_ | apply OLe.up_ | apply h_cmp | apply m_slices_partitionCmpFunc_api_Entry.j4 | exact OLe.refl | intro _)
theorem m_slices_partitionCmpFunc_api_Entry.j2 {data : List api_Entry} {a : Int} {b : Int} {pivot : Int} {cmp : api_Entry → api_Entry → Option (Int)} {e : api_Entry} {e_2 : api_Entry} {i_1 : Int} {x47_2 : Bool} {cmp_p : api_Entry → api_Entry → Option (Int)} (h_cmp : ∀ (x0 : api_Entry) (x1 : api_Entry), OLe (cmp x0 x1) (cmp_p x0 x1)) : OLe (g_slices_partitionCmpFunc_api_Entry.j2 data a b pivot cmp e e_2 i_1 x47_2) (g_slices_partitionCmpFunc_api_Entry.j2 data a b pivot cmp_p e e_2 i_1 x47_2) := by
  unfold g_slices_partitionCmpFunc_api_Entry.j2
  repeat' (with_reducible first | assumption | apply OLe.bind_ | apply OLe.cond_ | apply OLe.up_ | apply h_cmp | apply m_slices_partitionCmpFunc_api_Entry.l3 | (refine OLe.lp (fun _ => ?_) _) | exact OLe.refl | intro _)
theorem m_slices_partitionCmpFunc_api_Entry.l1 {data : List api_Entry} {a : Int} {b : Int} {pivot : Int} {cmp : api_Entry → api_Entry → Option (Int)} {e : api_Entry} {e_2 : api_Entry} {i_1 : Int} {cmp_p : api_Entry → api_Entry → Option (Int)} (h_cmp : ∀ (x0 : api_Entry) (x1 : api_Entry), OLe (cmp x0 x1) (cmp_p x0 x1)) : OLe (g_slices_partitionCmpFunc_api_Entry.l1 data a b pivot cmp e e_2 i_1) (g_slices_partitionCmpFunc_api_Entry.l1 data a b pivot cmp_p e e_2 i_1) := by
  unfold g_slices_partitionCmpFunc_api_Entry.l1
  repeat' (with_reducible first | assumption | apply OLe.bind_ | apply OLe.cond_ | apply OLe.up_ | apply h_cmp | apply m_slices_partitionCmpFunc_api_Entry.j2 | exact OLe.refl | intro _)
theorem m_slices_partitionCmpFunc_api_Entry {data : List api_Entry} {a : Int} {b : Int} {pivot : Int} {cmp : api_Entry → api_Entry → Option (Int)} {cmp_p : api_Entry → api_Entry → Option (Int)} (h_cmp : ∀ (x0 : api_Entry) (x1 : api_Entry), OLe (cmp x0 x1) (cmp_p x0 x1)) : OLe (g_slices_partitionCmpFunc_api_Entry data a b pivot cmp) (g_slices_partitionCmpFunc_api_Entry data a b pivot cmp_p) := by
  unfold g_slices_partitionCmpFunc_api_Entry
  repeat' (with_reducible first | assumption | apply OLe.bind_ | apply OLe.cond_ | apply OLe.up_ | apply h_cmp | apply m_slices_partitionCmpFunc_api_Entry.l1 | (refine OLe.lp (fun _ => ?_) _) | exact OLe.refl | intro _)
theorem m_slices_pdqsortCmpFunc_api_Entry.j6 {rec : (List api_Entry) → Int → Int → Int → Option ((List api_Entry))} {cmp : api_Entry → api_Entry → Option (Int)} {a_1 : Int} {b_1 : Int} {wasBalanced_1 : Bool} {wasPartitioned_1 : Bool} {limit_2 : Int} {pivot_3 : Int} {data_5 : List api_Entry} {x97_6 : Bool} {rec_p : (List api_Entry) → Int → Int → Int → Option ((List api_Entry))} {cmp_p : api_Entry → api_Entry → Option (Int)} (h_rec : ∀ (x0 : (List api_Entry)) (x1 : Int) (x2 : Int) (x3 : Int), OLe (rec x0 x1 x2 x3) (rec_p x0 x1 x2 x3)) (h_cmp : ∀ (x0 : api_Entry) (x1 : api_Entry), OLe (cmp x0 x1) (cmp_p x0 x1)) : OLe (g_slices_pdqsortCmpFunc_api_Entry.j6 rec cmp a_1 b_1 wasBalanced_1 wasPartitioned_1 limit_2 pivot_3 data_5 x97_6) (g_slices_pdqsortCmpFunc_api_Entry.j6 rec_p cmp_p a_1 b_1 wasBalanced_1 wasPartitioned_1 limit_2 pivot_3 data_5 x97_6) := by
  unfold g_slices_pdqsortCmpFunc_api_Entry.j6
  repeat' (with_reducible first | assumption | apply OLe.bind_ | apply OLe.cond_ | apply OLe.up_ | apply h_rec | apply h_cmp | apply m_slices_partitionEqualCmpFunc_api_Entry | apply m_slices_partitionCmpFunc_api_Entry | exact OLe.refl | intro _)
theorem m_slices_pdqsortCmpFunc_api_Entry.j5 {rec : (List api_Entry) → Int → Int → Int → Option ((List api_Entry))} {cmp : api_Entry → api_Entry → Option (Int)} {a_1 : Int} {b_1 : Int} {wasBalanced_1 : Bool} {wasPartitioned_1 : Bool} {limit_2 : Int} {pivot_3 : Int} {data_5 : List api_Entry} {rec_p : (List api_Entry) → Int → Int → Int → Option ((List api_Entry))} {cmp_p : api_Entry → api_Entry → Option (Int)} (h_rec : ∀ (x0 : (List api_Entry)) (x1 : Int) (x2 : Int) (x3 : Int), OLe (rec x0 x1 x2 x3) (rec_p x0 x1 x2 x3)) (h_cmp : ∀ (x0 : api_Entry) (x1 : api_Entry), OLe (cmp x0 x1) (cmp_p x0 x1)) : OLe (g_slices_pdqsortCmpFunc_api_Entry.j5 rec cmp a_1 b_1 wasBalanced_1 wasPartitioned_1 limit_2 pivot_3 data_5) (g_slices_pdqsortCmpFunc_api_Entry.j5 rec_p cmp_p a_1 b_1 wasBalanced_1 wasPartitioned_1 limit_2 pivot_3 data_5) := by
  unfold g_slices_pdqsortCmpFunc_api_Entry.j5
  repeat' (with_reducible first | assumption | apply OLe.bind_ | apply OLe.cond_ | apply OLe.up_ | apply h_rec | apply h_cmp | apply m_slices_pdqsortCmpFunc_api_Entry.j6 | exact OLe.refl | intro _)
theorem m_slices_pdqsortCmpFunc_api_Entry.j4 {rec : (List api_Entry) → Int → Int → Int → Option ((List api_Entry))} {cmp : api_Entry → api_Entry → Option (Int)} {a_1 : Int} {b_1 : Int} {wasBalanced_1 : Bool} {wasPartitioned_1 : Bool} {limit_2 : Int} {pivot_3 : Int} {data_3 : List api_Entry} {x75_4 : Bool} {rec_p : (List api_Entry) → Int → Int → Int → Option ((List api_Entry))} {cmp_p : api_Entry → api_Entry → Option (Int)} (h_rec : ∀ (x0 : (List api_Entry)) (x1 : Int) (x2 : Int) (x3 : Int), OLe (rec x0 x1 x2 x3) (rec_p x0 x1 x2 x3)) (h_cmp : ∀ (x0 : api_Entry) (x1 : api_Entry), OLe (cmp x0 x1) (cmp_p x0 x1)) : OLe (g_slices_pdqsortCmpFunc_api_Entry.j4 rec cmp a_1 b_1 wasBalanced_1 wasPartitioned_1 limit_2 pivot_3 data_3 x75_4) (g_slices_pdqsortCmpFunc_api_Entry.j4 rec_p cmp_p a_1 b_1 wasBalanced_1 wasPartitioned_1 limit_2 pivot_3 data_3 x75_4) := by
  unfold g_slices_pdqsortCmpFunc_api_Entry.j4
  repeat' (with_reducible first | assumption | apply OLe.bind_ | apply OLe.cond_ | apply OLe.up_ | apply h_rec | apply h_cmp | apply m_slices_partialInsertionSortCmpFunc_api_Entry | apply m_slices_pdqsortCmpFunc_api_Entry.j5 | exact OLe.refl | intro _)
theorem m_slices_pdqsortCmpFunc_api_Entry.j3 {rec : (List api_Entry) → Int → Int → Int → Option ((List api_Entry))} {cmp : api_Entry → api_Entry → Option (Int)} {a_1 : Int} {b_1 : Int} {wasBalanced_1 : Bool} {wasPartitioned_1 : Bool} {limit_2 : Int} {pivot_3 : Int} {hint_3 : Int} {data_3 : List api_Entry} {rec_p : (List api_Entry) → Int → Int → Int → Option ((List api_Entry))} {cmp_p : api_Entry → api_Entry → Option (Int)} (h_rec : ∀ (x0 : (List api_Entry)) (x1 : Int) (x2 : Int) (x3 : Int), OLe (rec x0 x1 x2 x3) (rec_p x0 x1 x2 x3)) (h_cmp : ∀ (x0 : api_Entry) (x1 : api_Entry), OLe (cmp x0 x1) (cmp_p x0 x1)) : OLe (g_slices_pdqsortCmpFunc_api_Entry.j3 rec cmp a_1 b_1 wasBalanced_1 wasPartitioned_1 limit_2 pivot_3 hint_3 data_3) (g_slices_pdqsortCmpFunc_api_Entry.j3 rec_p cmp_p a_1 b_1 wasBalanced_1 wasPartitioned_1 limit_2 pivot_3 hint_3 data_3) := by
  unfold g_slices_pdqsortCmpFunc_api_Entry.j3
  repeat' (with_reducible first | assumption | apply OLe.bind_ | apply OLe.cond_ | apply OLe.up_ | apply h_rec | apply h_cmp | apply m_slices_pdqsortCmpFunc_api_Entry.j4 | exact OLe.refl | intro _)
theorem m_slices_pdqsortCmpFunc_api_Entry.j2 {rec : (List api_Entry) → Int → Int → Int → Option ((List api_Entry))} {cmp : api_Entry → api_Entry → Option (Int)} {a_1 : Int} {b_1 : Int} {wasBalanced_1 : Bool} {wasPartitioned_1 : Bool} {limit_2 : Int} {data_2 : List api_Entry} {rec_p : (List api_Entry) → Int → Int → Int → Option ((List api_Entry))} {cmp_p : api_Entry → api_Entry → Option (Int)} (h_rec : ∀ (x0 : (List api_Entry)) (x1 : Int) (x2 : Int) (x3 : Int), OLe (rec x0 x1 x2 x3) (rec_p x0 x1 x2 x3)) (h_cmp : ∀ (x0 : api_Entry) (x1 : api_Entry), OLe (cmp x0 x1) (cmp_p x0 x1)) : OLe (g_slices_pdqsortCmpFunc_api_Entry.j2 rec cmp a_1 b_1 wasBalanced_1 wasPartitioned_1 limit_2 data_2) (g_slices_pdqsortCmpFunc_api_Entry.j2 rec_p cmp_p a_1 b_1 wasBalanced_1 wasPartitioned_1 limit_2 data_2) := by
  unfold g_slices_pdqsortCmpFunc_api_Entry.j2
  repeat' (with_reducible first | assumption | apply OLe.bind_ | apply OLe.cond_ | apply OLe.up_ | apply h_rec | apply h_cmp | apply m_slices_choosePivotCmpFunc_api_Entry | apply m_slices_reverseRangeCmpFunc_api_Entry | apply m_slices_pdqsortCmpFunc_api_Entry.j3 | exact OLe.refl | intro _)
theorem m_slices_pdqsortCmpFunc_api_Entry.l1 {rec : (List api_Entry) → Int → Int → Int → Option ((List api_Entry))} {cmp : api_Entry → api_Entry → Option (Int)} {a_1 : Int} {b_1 : Int} {limit_1 : Int} {wasBalanced_1 : Bool} {wasPartitioned_1 : Bool} {data_1 : List api_Entry} {rec_p : (List api_Entry) → Int → Int → Int → Option ((List api_Entry))} {cmp_p : api_Entry → api_Entry → Option (Int)} (h_rec : ∀ (x0 : (List api_Entry)) (x1 : Int) (x2 : Int) (x3 : Int), OLe (rec x0 x1 x2 x3) (rec_p x0 x1 x2 x3)) (h_cmp : ∀ (x0 : api_Entry) (x1 : api_Entry), OLe (cmp x0 x1) (cmp_p x0 x1)) : OLe (g_slices_pdqsortCmpFunc_api_Entry.l1 rec cmp a_1 b_1 limit_1 wasBalanced_1 wasPartitioned_1 data_1) (g_slices_pdqsortCmpFunc_api_Entry.l1 rec_p cmp_p a_1 b_1 limit_1 wasBalanced_1 wasPartitioned_1 data_1) := by
  unfold g_slices_pdqsortCmpFunc_api_Entry.l1
  repeat' (with_reducible first | assumption | apply OLe.bind_ | apply OLe.cond_ | apply OLe.up_ | apply h_rec | apply h_cmp | apply m_slices_insertionSortCmpFunc_api_Entry | apply m_slices_heapSortCmpFunc_api_Entry | apply m_slices_breakPatternsCmpFunc_api_Entry | apply m_slices_pdqsortCmpFunc_api_Entry.j2 | exact OLe.refl | intro _)
theorem m_slices_pdqsortCmpFunc_api_Entry.F {rec : (List api_Entry) → Int → Int → Int → Option ((List api_Entry))} {data : List api_Entry} {a : Int} {b : Int} {limit : Int} {cmp : api_Entry → api_Entry → Option (Int)} {rec_p : (List api_Entry) → Int → Int → Int → Option ((List api_Entry))} {cmp_p : api_Entry → api_Entry → Option (Int)} (h_rec : ∀ (x0 : (List api_Entry)) (x1 : Int) (x2 : Int) (x3 : Int), OLe (rec x0 x1 x2 x3) (rec_p x0 x1 x2 x3)) (h_cmp : ∀ (x0 : api_Entry) (x1 : api_Entry), OLe (cmp x0 x1) (cmp_p x0 x1)) : OLe (g_slices_pdqsortCmpFunc_api_Entry.F rec data a b limit cmp) (g_slices_pdqsortCmpFunc_api_Entry.F rec_p data a b limit cmp_p) := by
  unfold g_slices_pdqsortCmpFunc_api_Entry.F
  repeat' (with_reducible first | assumption | apply OLe.bind_ | apply OLe.cond_ | apply OLe.up_ | apply h_rec | apply h_cmp | apply m_slices_pdqsortCmpFunc_api_Entry.l1 | (refine OLe.lp (fun _ => ?_) _) | exact OLe.refl | intro _)
theorem mono_slices_pdqsortCmpFunc_api_Entry {cmp : api_Entry → api_Entry → Option (Int)} : MonoF (fun rec (x : List api_Entry × Int × Int × Int) => g_slices_pdqsortCmpFunc_api_Entry.F (fun data a b limit => rec (data, a, b, limit)) x.1 x.2.1 x.2.2.1 x.2.2.2 cmp) := fun p q h a => by
  apply m_slices_pdqsortCmpFunc_api_Entry.F
  · intros
    apply h
  · intros; exact OLe.refl
theorem m_slices_pdqsortCmpFunc_api_Entry {data : List api_Entry} {a : Int} {b : Int} {limit : Int} {cmp : api_Entry → api_Entry → Option (Int)} {cmp_p : api_Entry → api_Entry → Option (Int)} (h_cmp : ∀ (x0 : api_Entry) (x1 : api_Entry), OLe (cmp x0 x1) (cmp_p x0 x1)) : OLe (g_slices_pdqsortCmpFunc_api_Entry data a b limit cmp) (g_slices_pdqsortCmpFunc_api_Entry data a b limit cmp_p) := by
  unfold g_slices_pdqsortCmpFunc_api_Entry
  refine fixT_mono (fun p q hpq a => ?_) mono_slices_pdqsortCmpFunc_api_Entry _
  apply m_slices_pdqsortCmpFunc_api_Entry.F
  · intros
    apply hpq
  · assumption
theorem m_ref01_copies.l1 {rec : (List api_Value) → Option ((List api_Value))} {l : (List api_Value)} {i_1 : Int} {out_1 : List api_Value} {rec_p : (List api_Value) → Option ((List api_Value))} (h_rec : ∀ (x0 : (List api_Value)), OLe (rec x0) (rec_p x0)) : OLe (g_ref01_copies.l1 rec l i_1 out_1) (g_ref01_copies.l1 rec_p l i_1 out_1) := by
  unfold g_ref01_copies.l1
  repeat' (with_reducible first | assumption | apply OLe.bind_ | apply OLe.cond_ | apply OLe.up_ | apply h_rec | exact OLe.refl | intro _)
theorem m_ref01_copies.F {rec : (List api_Value) → Option ((List api_Value))} {l : (List api_Value)} {rec_p : (List api_Value) → Option ((List api_Value))} (h_rec : ∀ (x0 : (List api_Value)), OLe (rec x0) (rec_p x0)) : OLe (g_ref01_copies.F rec l) (g_ref01_copies.F rec_p l) := by
  unfold g_ref01_copies.F
  repeat' (with_reducible first | assumption | apply OLe.bind_ | apply OLe.cond_ | apply OLe.up_ | apply h_rec | apply m_ref01_copies.l1 | (refine OLe.lp (fun _ => ?_) _) | exact OLe.refl | intro _)
theorem mono_ref01_copies : MonoF (fun rec (x : (List api_Value)) => g_ref01_copies.F (fun l => rec l) x) := fun p q h a => by
  apply m_ref01_copies.F
  intros
  apply h
theorem m_ref01_formed.l2 {rec : api_Value → Option (Bool)} {v : api_Value} {i_2 : Int} {rec_p : api_Value → Option (Bool)} (h_rec : ∀ (x0 : api_Value), OLe (rec x0) (rec_p x0)) : OLe (g_ref01_formed.l2 rec v i_2) (g_ref01_formed.l2 rec_p v i_2) := by
  unfold g_ref01_formed.l2
  repeat' (with_reducible first | assumption | apply OLe.bind_ | apply OLe.cond_ | apply OLe.up_ | apply h_rec | exact OLe.refl | intro _)
theorem m_ref01_formed.j1 {rec : api_Value → Option (Bool)} {v : api_Value} {x38_1 : Bool} {rec_p : api_Value → Option (Bool)} (h_rec : ∀ (x0 : api_Value), OLe (rec x0) (rec_p x0)) : OLe (g_ref01_formed.j1 rec v x38_1) (g_ref01_formed.j1 rec_p v x38_1) := by
  unfold g_ref01_formed.j1
  repeat' (with_reducible first | assumption | apply OLe.bind_ | apply OLe.cond_ | apply OLe.up_ | apply h_rec | apply m_ref01_formed.l2 | (refine OLe.lp (fun _ => ?_) _) | exact OLe.refl | intro _)
theorem m_ref01_formed.F {rec : api_Value → Option (Bool)} {v : api_Value} {rec_p : api_Value → Option (Bool)} (h_rec : ∀ (x0 : api_Value), OLe (rec x0) (rec_p x0)) : OLe (g_ref01_formed.F rec v) (g_ref01_formed.F rec_p v) := by
  unfold g_ref01_formed.F
  repeat' (with_reducible first | assumption | apply OLe.bind_ | apply OLe.cond_ | apply OLe.up_ | apply h_rec | apply m_ref01_formed.j1 | exact OLe.refl | intro _)
theorem mono_ref01_formed : MonoF (fun rec (x : api_Value) => g_ref01_formed.F (fun v => rec v) x) := fun p q h a => by
  apply m_ref01_formed.F
  intros
  apply h
theorem m_ref01_depth.l1 {rec : api_Value → Option (Int)} {v : api_Value} {d_1 : Int} {i_1 : Int} {rec_p : api_Value → Option (Int)} (h_rec : ∀ (x0 : api_Value), OLe (rec x0) (rec_p x0)) : OLe (g_ref01_depth.l1 rec v d_1 i_1) (g_ref01_depth.l1 rec_p v d_1 i_1) := by
  unfold g_ref01_depth.l1
  repeat' (with_reducible first | assumption | apply OLe.bind_ | apply OLe.cond_ | apply OLe.up_ | apply h_rec | exact OLe.refl | intro _)
theorem m_ref01_depth.F {rec : api_Value → Option (Int)} {v : api_Value} {rec_p : api_Value → Option (Int)} (h_rec : ∀ (x0 : api_Value), OLe (rec x0) (rec_p x0)) : OLe (g_ref01_depth.F rec v) (g_ref01_depth.F rec_p v) := by
  unfold g_ref01_depth.F
  repeat' (with_reducible first | assumption | apply OLe.bind_ | apply OLe.cond_ | apply OLe.up_ | apply h_rec | apply m_ref01_depth.l1 | (refine OLe.lp (fun _ => ?_) _) | exact OLe.refl | intro _)
theorem mono_ref01_depth : MonoF (fun rec (x : api_Value) => g_ref01_depth.F (fun v => rec v) x) := fun p q h a => by
  apply m_ref01_depth.F
  intros
  apply h
theorem m_ref01_put.l1 {rec : api_Value → Option ((List UInt8))} {v : api_Value} {i_1 : Int} {b_1 : List UInt8} {rec_p : api_Value → Option ((List UInt8))} (h_rec : ∀ (x0 : api_Value), OLe (rec x0) (rec_p x0)) : OLe (g_ref01_put.l1 rec v i_1 b_1) (g_ref01_put.l1 rec_p v i_1 b_1) := by
  unfold g_ref01_put.l1
  repeat' (with_reducible first | assumption | apply OLe.bind_ | apply OLe.cond_ | apply OLe.up_ | apply h_rec | exact OLe.refl | intro _)
theorem m_ref01_put.F {rec : api_Value → Option ((List UInt8))} {v : api_Value} {rec_p : api_Value → Option ((List UInt8))} (h_rec : ∀ (x0 : api_Value), OLe (rec x0) (rec_p x0)) : OLe (g_ref01_put.F rec v) (g_ref01_put.F rec_p v) := by
  unfold g_ref01_put.F
  repeat' (with_reducible first | assumption | apply OLe.bind_ | apply OLe.cond_ | apply OLe.up_ | apply h_rec | apply m_ref01_put.l1 | (refine OLe.lp (fun _ => ?_) _) | exact OLe.refl | intro _)
theorem mono_ref01_put : MonoF (fun rec (x : api_Value) => g_ref01_put.F (fun v => rec v) x) := fun p q h a => by
  apply m_ref01_put.F
  intros
  apply h
end Go.Proofs.Ytbeageaekgccgaa
