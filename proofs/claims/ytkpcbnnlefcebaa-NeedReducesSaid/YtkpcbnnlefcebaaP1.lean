/- Plain functions. -/
import Derived.Test.YtkpcbnnlefcebaaPU
set_option linter.unusedVariables false
set_option linter.unusedSimpArgs false
namespace Go.Proofs.Ytkpcbnnlefcebaa
structure cipherplanmake_Dice where
  L : (List Int)
  At : Int
  deriving DecidableEq, Inhabited
structure api_Required where
  First : Int
  Then : Int
  deriving DecidableEq, Inhabited
structure api_Use where
  Alg : Int
  Bits : Int
  deriving DecidableEq, Inhabited
structure api_Seal where
  Key : Int
  Sum : Int
  deriving DecidableEq, Inhabited
structure api_Certificate where
  Serial : Int
  Issuer : ByteArray
  Subject : ByteArray
  Key : api_Use
  KeyId : Int
  Hash : api_Use
  From : Int
  To : Int
  Authority : Bool
  Path : Int
  Names : (List ByteArray)
  Seal : api_Seal
  deriving DecidableEq, Inhabited
structure api_Identity where
  Key : api_Use
  KeyId : Int
  Chain : (List api_Certificate)
  deriving DecidableEq, Inhabited
structure api_Endpoint where
  Name : ByteArray
  Least : Int
  Most : Int
  Suites : (List Int)
  OwnOrder : Bool
  Identities : (List api_Identity)
  Anchors : (List Int)
  Hashes : (List Int)
  Fallback : Bool
  deriving DecidableEq, Inhabited
structure api_Change where
  Endpoint : Int
  Kind : Int
  Number : Int
  At : Int
  Identity : api_Identity
  deriving DecidableEq, Inhabited
structure need_required where
  First : Int
  Then : Int
  deriving DecidableEq, Inhabited
noncomputable def g_make_Light (l : (List Int)) : Option (Bool) :=
  some (decide ((l.length : Int) ≤ 400))
noncomputable def g_need_Rank.j3 (more_3 : Bool) : Option (Int) :=
  cond (more_3)
    (some 2)
    (some 3)
noncomputable def g_need_Rank.j2 (e : api_Endpoint) (c : api_Change) (x13_2 : Bool) : Option (Int) :=
  cond (x13_2)
    (g_need_Rank.j3 true)
    (cond (decide (c.Kind = 3))
      (g_need_Rank.j3 (decide (e.Most < c.Number)))
      (cond (decide (c.Kind = 4))
        (g_need_Rank.j3 (decide (c.Number < e.Least)))
        (cond (decide (c.Kind = 11))
          (g_need_Rank.j3 (decide (c.Number = 1)))
          (g_need_Rank.j3 false))))
noncomputable def g_need_Rank.j1 (e : api_Endpoint) (c : api_Change) (x8_1 : Bool) : Option (Int) :=
  cond (x8_1)
    (some 0)
    (cond (decide (c.Kind = 5))
      (some 1)
      (cond (decide (c.Kind = 1))
        (g_need_Rank.j2 e c (decide (c.Kind = 1)))
        (g_need_Rank.j2 e c (decide (c.Kind = 12)))))
noncomputable def g_need_Rank (e : api_Endpoint) (c : api_Change) : Option (Int) :=
  cond (decide (c.Kind = 7))
    (g_need_Rank.j1 e c (decide (c.Kind = 7)))
    (g_need_Rank.j1 e c (decide (c.Kind = 9)))
noncomputable def g_math_bits_Len64.j3 (x_3 : Int) (n_3 : Int) : Option (Int) :=
  (idxT (⟨#[0, 1, 2, 2, 3, 3, 3, 3, 4, 4, 4, 4, 4, 4, 4, 4, 5, 5, 5, 5, 5, 5, 5, 5, 5, 5, 5, 5, 5, 5, 5, 5, 6, 6, 6, 6, 6, 6, 6, 6, 6, 6, 6, 6, 6, 6, 6, 6, 6, 6, 6, 6, 6, 6, 6, 6, 6, 6, 6, 6, 6, 6, 6, 6, 7, 7, 7, 7, 7, 7, 7, 7, 7, 7, 7, 7, 7, 7, 7, 7, 7, 7, 7, 7, 7, 7, 7, 7, 7, 7, 7, 7, 7, 7, 7, 7, 7, 7, 7, 7, 7, 7, 7, 7, 7, 7, 7, 7, 7, 7, 7, 7, 7, 7, 7, 7, 7, 7, 7, 7, 7, 7, 7, 7, 7, 7, 7, 7, 8, 8, 8, 8, 8, 8, 8, 8, 8, 8, 8, 8, 8, 8, 8, 8, 8, 8, 8, 8, 8, 8, 8, 8, 8, 8, 8, 8, 8, 8, 8, 8, 8, 8, 8, 8, 8, 8, 8, 8, 8, 8, 8, 8, 8, 8, 8, 8, 8, 8, 8, 8, 8, 8, 8, 8, 8, 8, 8, 8, 8, 8, 8, 8, 8, 8, 8, 8, 8, 8, 8, 8, 8, 8, 8, 8, 8, 8, 8, 8, 8, 8, 8, 8, 8, 8, 8, 8, 8, 8, 8, 8, 8, 8, 8, 8, 8, 8, 8, 8, 8, 8, 8, 8, 8, 8, 8, 8, 8, 8, 8, 8, 8, 8, 8, 8, 8, 8, 8, 8, 8, 8, 8, 8, 8, 8, 8, 8]⟩ : ByteArray) ((u8 x_3).toNat : Int)).bind fun c =>
  some (W (n_3 + (c.toNat : Int)))
noncomputable def g_math_bits_Len64.j2 (x_2 : Int) (n_2 : Int) : Option (Int) :=
  cond (decide (256 ≤ x_2))
    ((shrK .u64 x_2 8).bind fun q_3 =>
    g_math_bits_Len64.j3 q_3 (W (n_2 + 8)))
    (g_math_bits_Len64.j3 x_2 n_2)
noncomputable def g_math_bits_Len64.j1 (x_1 : Int) (n_1 : Int) : Option (Int) :=
  cond (decide (65536 ≤ x_1))
    ((shrK .u64 x_1 16).bind fun q_2 =>
    g_math_bits_Len64.j2 q_2 (W (n_1 + 16)))
    (g_math_bits_Len64.j2 x_1 n_1)
noncomputable def g_math_bits_Len64 (x' : Int) : Option (Int) :=
  cond (decide (4294967296 ≤ x'))
    ((shrK .u64 x' 32).bind fun q =>
    g_math_bits_Len64.j1 q 32)
    (g_math_bits_Len64.j1 x' 0)
noncomputable def g_math_bits_Len (x' : Int) : Option (Int) :=
  (g_math_bits_Len64 x').bind fun y =>
  some y
noncomputable def g_cmp_isNaN_int (x' : Int) : Option (Bool) :=
  some (!decide (x' = x'))
noncomputable def g_cmp_Compare_int (x' : Int) (y : Int) : Option (Int) :=
  (g_cmp_isNaN_int x').bind fun y_2 =>
  (g_cmp_isNaN_int y).bind fun y_3 =>
  cond (y_2)
    (cond (y_3)
      (some 0)
      (some (-1)))
    (cond (y_3)
      (some 1)
      (cond (decide (x' < y))
        (some (-1))
        (cond (decide (y < x'))
          (some 1)
          (some 0))))
noncomputable def g_cmp_Or_int.l1 (vals : (List Int)) (x8_1 : Int) : Option (Lp (Int) (Int)) :=
  cond (decide (x8_1 < (vals.length : Int)))
    ((getI vals x8_1).bind fun e =>
    cond (!decide (e = 0))
      (up (some e))
      (some (.next (W (x8_1 + 1)))))
    (up (
      some 0))
noncomputable def g_cmp_Or_int (vals : (List Int)) : Option (Int) :=
  loop (fun q' => g_cmp_Or_int.l1 vals q') 0
noncomputable def g_need_required_compare (r' : need_required) (s : need_required) : Option (Int) :=
  (g_cmp_Compare_int r'.First s.First).bind fun y =>
  (g_cmp_Compare_int r'.Then s.Then).bind fun y_2 =>
  (g_cmp_Or_int ([y, y_2] : List Int)).bind fun y_3 =>
  some y_3
noncomputable def g_slices_insertionSortCmpFunc_need_required.j3 (i_1 : Int) (j_2 : Int) (data_2 : List need_required) (x34_3 : Bool) : Option (Lp (Int × List need_required) (Lp (Int × List need_required) ((List need_required)))) :=
  cond (x34_3)
    ((getI data_2 (W (j_2 - 1))).bind fun e_3 =>
    (getI data_2 j_2).bind fun e_4 =>
    (getI (setI data_2 ((j_2).toNat) e_3) (W (j_2 - 1))).bind fun e_5 =>
    some (.next (W (j_2 - 1), setI (setI data_2 ((j_2).toNat) e_3) ((W (j_2 - 1)).toNat) e_4)))
    (up (
      some (.next (W (i_1 + 1), data_2))))
noncomputable def g_slices_insertionSortCmpFunc_need_required.l2 (a : Int) (cmp : need_required → need_required → Option (Int)) (i_1 : Int) (j_2 : Int) (data_2 : List need_required) : Option (Lp (Int × List need_required) (Lp (Int × List need_required) ((List need_required)))) :=
  cond (decide (a < j_2))
    ((getI data_2 j_2).bind fun e =>
    (getI data_2 (W (j_2 - 1))).bind fun e_2 =>
    (cmp e e_2).bind fun y =>
    g_slices_insertionSortCmpFunc_need_required.j3 i_1 j_2 data_2 (decide (y < 0)))
    (g_slices_insertionSortCmpFunc_need_required.j3 i_1 j_2 data_2 false)
noncomputable def g_slices_insertionSortCmpFunc_need_required.l1 (a : Int) (b : Int) (cmp : need_required → need_required → Option (Int)) (i_1 : Int) (data_1 : List need_required) : Option (Lp (Int × List need_required) ((List need_required))) :=
  cond (decide (i_1 < b))
    (loop (fun q' => g_slices_insertionSortCmpFunc_need_required.l2 a cmp i_1 q'.1 q'.2) (i_1, data_1))
    (up (some data_1))
noncomputable def g_slices_insertionSortCmpFunc_need_required (data : List need_required) (a : Int) (b : Int) (cmp : need_required → need_required → Option (Int)) : Option ((List need_required)) :=
  loop (fun q' => g_slices_insertionSortCmpFunc_need_required.l1 a b cmp q'.1 q'.2) (W (a + 1), data)
noncomputable def g_slices_siftDownCmpFunc_need_required.j3 (first : Int) (cmp : need_required → need_required → Option (Int)) (root_1 : Int) (data_1 : List need_required) (child_3 : Int) : Option (Lp (Int × List need_required) ((List need_required))) :=
  (getI data_1 (W (first + root_1))).bind fun e_3 =>
  (getI data_1 (W (first + child_3))).bind fun e_4 =>
  (cmp e_3 e_4).bind fun y_2 =>
  cond (!(decide (y_2 < 0)))
    (up (some data_1))
    ((getI (setI data_1 ((W (first + root_1)).toNat) e_4) (W (first + child_3))).bind fun e_5 =>
    some (.next (child_3, setI (setI data_1 ((W (first + root_1)).toNat) e_4) ((W (first + child_3)).toNat) e_3)))
noncomputable def g_slices_siftDownCmpFunc_need_required.j2 (first : Int) (cmp : need_required → need_required → Option (Int)) (root_1 : Int) (data_1 : List need_required) (x40_2 : Bool) : Option (Lp (Int × List need_required) ((List need_required))) :=
  cond (x40_2)
    (g_slices_siftDownCmpFunc_need_required.j3 first cmp root_1 data_1 (W ((W ((W (2 * root_1)) + 1)) + 1)))
    (g_slices_siftDownCmpFunc_need_required.j3 first cmp root_1 data_1 (W ((W (2 * root_1)) + 1)))
noncomputable def g_slices_siftDownCmpFunc_need_required.l1 (hi : Int) (first : Int) (cmp : need_required → need_required → Option (Int)) (root_1 : Int) (data_1 : List need_required) : Option (Lp (Int × List need_required) ((List need_required))) :=
  cond (decide (hi ≤ (W ((W (2 * root_1)) + 1))))
    (up (some data_1))
    (cond (decide ((W ((W ((W (2 * root_1)) + 1)) + 1)) < hi))
      ((getI data_1 (W (first + (W ((W (2 * root_1)) + 1))))).bind fun e =>
      (getI data_1 (W ((W (first + (W ((W (2 * root_1)) + 1)))) + 1))).bind fun e_2 =>
      (cmp e e_2).bind fun y =>
      g_slices_siftDownCmpFunc_need_required.j2 first cmp root_1 data_1 (decide (y < 0)))
      (g_slices_siftDownCmpFunc_need_required.j2 first cmp root_1 data_1 false))
noncomputable def g_slices_siftDownCmpFunc_need_required (data : List need_required) (lo : Int) (hi : Int) (first : Int) (cmp : need_required → need_required → Option (Int)) : Option ((List need_required)) :=
  loop (fun q' => g_slices_siftDownCmpFunc_need_required.l1 hi first cmp q'.1 q'.2) (lo, data)
noncomputable def g_slices_heapSortCmpFunc_need_required.l2 (a : Int) (cmp : need_required → need_required → Option (Int)) (i_2 : Int) (data_2 : List need_required) : Option (Lp (Int × List need_required) ((List need_required))) :=
  cond (decide (0 ≤ i_2))
    ((getI data_2 (W (a + i_2))).bind fun e =>
    (getI data_2 a).bind fun e_2 =>
    (getI (setI data_2 ((a).toNat) e) (W (a + i_2))).bind fun e_3 =>
    (g_slices_siftDownCmpFunc_need_required (setI (setI data_2 ((a).toNat) e) ((W (a + i_2)).toNat) e_2) 0 i_2 a cmp).bind fun y_2 =>
    some (.next (W (i_2 - 1), y_2)))
    (up (some data_2))
noncomputable def g_slices_heapSortCmpFunc_need_required.l1 (a : Int) (b : Int) (cmp : need_required → need_required → Option (Int)) (i_1 : Int) (data_1 : List need_required) : Option (Lp (Int × List need_required) ((List need_required))) :=
  cond (decide (0 ≤ i_1))
    ((g_slices_siftDownCmpFunc_need_required data_1 i_1 (W (b - a)) a cmp).bind fun y =>
    some (.next (W (i_1 - 1), y)))
    (up (
      loop (fun q' => g_slices_heapSortCmpFunc_need_required.l2 a cmp q'.1 q'.2) (W ((W (b - a)) - 1), data_1)))
noncomputable def g_slices_heapSortCmpFunc_need_required (data : List need_required) (a : Int) (b : Int) (cmp : need_required → need_required → Option (Int)) : Option ((List need_required)) :=
  (quoI (W ((W (b - a)) - 1)) 2).bind fun q =>
  loop (fun q' => g_slices_heapSortCmpFunc_need_required.l1 a b cmp q'.1 q'.2) (q, data)
noncomputable def g_slices_nextPowerOfTwo (length : Int) : Option (Int) :=
  (g_math_bits_Len (IntKind.wrap .u64 length)).bind fun y =>
  (shlK .u64 1 y).bind fun q =>
  some q
noncomputable def g_slices_xorshift_Next (r' : Int) : Option (Int × Int) :=
  (shlK .u64 r' 13).bind fun q =>
  (shrK .u64 (xorK .u64 r' q) 7).bind fun q_2 =>
  (shlK .u64 (xorK .u64 (xorK .u64 r' q) q_2) 17).bind fun q_3 =>
  some (xorK .u64 (xorK .u64 (xorK .u64 r' q) q_2) q_3, xorK .u64 (xorK .u64 (xorK .u64 r' q) q_2) q_3)
noncomputable def g_slices_breakPatternsCmpFunc_need_required.j2 (a : Int) (idx_1 : Int) (data_1 : List need_required) (y_2 : Int × Int) (other_2 : Int) : Option (Lp (Int × List need_required × Int) ((List need_required))) :=
  (getI data_1 (W (a + other_2))).bind fun e =>
  (getI data_1 idx_1).bind fun e_2 =>
  (getI (setI data_1 ((idx_1).toNat) e) (W (a + other_2))).bind fun e_3 =>
  some (.next (W (idx_1 + 1), setI (setI data_1 ((idx_1).toNat) e) ((W (a + other_2)).toNat) e_2, y_2.2))
noncomputable def g_slices_breakPatternsCmpFunc_need_required.l1 (a : Int) (b : Int) (y : Int) (idx_1 : Int) (data_1 : List need_required) (random_1 : Int) : Option (Lp (Int × List need_required × Int) ((List need_required))) :=
  (quoI (W (b - a)) 4).bind fun q_2 =>
  cond (decide (idx_1 ≤ (W ((W (a + (W (q_2 * 2)))) + 1))))
    ((g_slices_xorshift_Next random_1).bind fun y_2 =>
    cond (decide ((W (b - a)) ≤ (W (andK .u64 y_2.1 (IntKind.wrap .u64 (y - 1))))))
      (g_slices_breakPatternsCmpFunc_need_required.j2 a idx_1 data_1 y_2 (W ((W (andK .u64 y_2.1 (IntKind.wrap .u64 (y - 1)))) - (W (b - a)))))
      (g_slices_breakPatternsCmpFunc_need_required.j2 a idx_1 data_1 y_2 (W (andK .u64 y_2.1 (IntKind.wrap .u64 (y - 1))))))
    (up (some data_1))
noncomputable def g_slices_breakPatternsCmpFunc_need_required (data : List need_required) (a : Int) (b : Int) (cmp : need_required → need_required → Option (Int)) : Option ((List need_required)) :=
  cond (decide (8 ≤ (W (b - a))))
    ((g_slices_nextPowerOfTwo (W (b - a))).bind fun y =>
    (quoI (W (b - a)) 4).bind fun q =>
    loop (fun q' => g_slices_breakPatternsCmpFunc_need_required.l1 a b y q'.1 q'.2.1 q'.2.2) (W ((W (a + (W (q * 2)))) - 1), data, IntKind.wrap .u64 (W (b - a))))
    (some data)
noncomputable def g_slices_order2CmpFunc_need_required (data : (List need_required)) (a : Int) (b : Int) (swaps : Int) (cmp : need_required → need_required → Option (Int)) : Option (Int × Int × Int) :=
  (getI data b).bind fun e =>
  (getI data a).bind fun e_2 =>
  (cmp e e_2).bind fun y =>
  cond (decide (y < 0))
    (some (b, a, W (swaps + 1)))
    (some (a, b, swaps))
noncomputable def g_slices_medianCmpFunc_need_required (data : (List need_required)) (a : Int) (b : Int) (c : Int) (swaps : Int) (cmp : need_required → need_required → Option (Int)) : Option (Int × Int) :=
  (g_slices_order2CmpFunc_need_required data a b swaps cmp).bind fun y =>
  (g_slices_order2CmpFunc_need_required data y.2.1 c y.2.2 cmp).bind fun y_2 =>
  (g_slices_order2CmpFunc_need_required data y.1 y_2.1 y_2.2.2 cmp).bind fun y_3 =>
  some (y_3.2.1, y_3.2.2)
noncomputable def g_slices_medianAdjacentCmpFunc_need_required (data : (List need_required)) (a : Int) (swaps : Int) (cmp : need_required → need_required → Option (Int)) : Option (Int × Int) :=
  (g_slices_medianCmpFunc_need_required data (W (a - 1)) a (W (a + 1)) swaps cmp).bind fun y =>
  some (y.1, y.2)
noncomputable def g_slices_choosePivotCmpFunc_need_required.j2 (j_2 : Int) (swaps_2 : Int) : Option (Int × Int) :=
  cond (decide (swaps_2 = 0))
    (some (j_2, 1))
    (cond (decide (swaps_2 = 12))
      (some (j_2, 2))
      (some (j_2, 0)))
noncomputable def g_slices_choosePivotCmpFunc_need_required.j1 (data : (List need_required)) (cmp : need_required → need_required → Option (Int)) (i_1 : Int) (j_1 : Int) (k_1 : Int) (swaps_1 : Int) : Option (Int × Int) :=
  (g_slices_medianCmpFunc_need_required data i_1 j_1 k_1 swaps_1 cmp).bind fun y_4 =>
  g_slices_choosePivotCmpFunc_need_required.j2 y_4.1 y_4.2
noncomputable def g_slices_choosePivotCmpFunc_need_required (data : (List need_required)) (a : Int) (b : Int) (cmp : need_required → need_required → Option (Int)) : Option (Int × Int) :=
  (quoI (W (b - a)) 4).bind fun q =>
  (quoI (W (b - a)) 4).bind fun q_2 =>
  (quoI (W (b - a)) 4).bind fun q_3 =>
  cond (decide (8 ≤ (W (b - a))))
    (cond (decide (50 ≤ (W (b - a))))
      ((g_slices_medianAdjacentCmpFunc_need_required data (W (a + (W (q * 1)))) 0 cmp).bind fun y =>
      (g_slices_medianAdjacentCmpFunc_need_required data (W (a + (W (q_2 * 2)))) y.2 cmp).bind fun y_2 =>
      (g_slices_medianAdjacentCmpFunc_need_required data (W (a + (W (q_3 * 3)))) y_2.2 cmp).bind fun y_3 =>
      g_slices_choosePivotCmpFunc_need_required.j1 data cmp y.1 y_2.1 y_3.1 y_3.2)
      (g_slices_choosePivotCmpFunc_need_required.j1 data cmp (W (a + (W (q * 1)))) (W (a + (W (q_2 * 2)))) (W (a + (W (q_3 * 3)))) 0))
    (g_slices_choosePivotCmpFunc_need_required.j2 (W (a + (W (q_2 * 2)))) 0)
noncomputable def g_slices_reverseRangeCmpFunc_need_required.l1 (i_1 : Int) (j_1 : Int) (data_1 : List need_required) : Option (Lp (Int × Int × List need_required) ((List need_required))) :=
  cond (decide (i_1 < j_1))
    ((getI data_1 j_1).bind fun e =>
    (getI data_1 i_1).bind fun e_2 =>
    (getI (setI data_1 ((i_1).toNat) e) j_1).bind fun e_3 =>
    some (.next (W (i_1 + 1), W (j_1 - 1), setI (setI data_1 ((i_1).toNat) e) ((j_1).toNat) e_2)))
    (up (some data_1))
noncomputable def g_slices_reverseRangeCmpFunc_need_required (data : List need_required) (a : Int) (b : Int) (cmp : need_required → need_required → Option (Int)) : Option ((List need_required)) :=
  loop (fun q' => g_slices_reverseRangeCmpFunc_need_required.l1 q'.1 q'.2.1 q'.2.2) (a, W (b - 1), data)
noncomputable def g_slices_partialInsertionSortCmpFunc_need_required.j7 (j_1 : Int) (i_7 : Int) (data_7 : List need_required) : Option (Lp (Int × Int × List need_required) (Bool × (List need_required))) :=
  some (.next (i_7, W (j_1 + 1), data_7))
noncomputable def g_slices_partialInsertionSortCmpFunc_need_required.l6 (b : Int) (cmp : need_required → need_required → Option (Int)) (j_1 : Int) (i_2 : Int) (j_6 : Int) (data_6 : List need_required) : Option (Lp (Int × List need_required) (Lp (Int × Int × List need_required) (Bool × (List need_required)))) :=
  cond (decide (j_6 < b))
    ((getI data_6 j_6).bind fun e_9 =>
    (getI data_6 (W (j_6 - 1))).bind fun e_10 =>
    (cmp e_9 e_10).bind fun y_3 =>
    cond (!(decide (y_3 < 0)))
      (up (
        g_slices_partialInsertionSortCmpFunc_need_required.j7 j_1 i_2 data_6))
      ((getI (setI data_6 ((j_6).toNat) e_10) (W (j_6 - 1))).bind fun e_11 =>
      some (.next (W (j_6 + 1), setI (setI data_6 ((j_6).toNat) e_10) ((W (j_6 - 1)).toNat) e_9))))
    (up (
      g_slices_partialInsertionSortCmpFunc_need_required.j7 j_1 i_2 data_6))
noncomputable def g_slices_partialInsertionSortCmpFunc_need_required.j5 (b : Int) (cmp : need_required → need_required → Option (Int)) (j_1 : Int) (i_2 : Int) (data_5 : List need_required) : Option (Lp (Int × Int × List need_required) (Bool × (List need_required))) :=
  cond (decide (2 ≤ (W (b - i_2))))
    (loop (fun q' => g_slices_partialInsertionSortCmpFunc_need_required.l6 b cmp j_1 i_2 q'.1 q'.2) (W (i_2 + 1), data_5))
    (g_slices_partialInsertionSortCmpFunc_need_required.j7 j_1 i_2 data_5)
noncomputable def g_slices_partialInsertionSortCmpFunc_need_required.l4 (b : Int) (cmp : need_required → need_required → Option (Int)) (j_1 : Int) (i_2 : Int) (j_4 : Int) (data_4 : List need_required) : Option (Lp (Int × List need_required) (Lp (Int × Int × List need_required) (Bool × (List need_required)))) :=
  cond (decide (1 ≤ j_4))
    ((getI data_4 j_4).bind fun e_6 =>
    (getI data_4 (W (j_4 - 1))).bind fun e_7 =>
    (cmp e_6 e_7).bind fun y_2 =>
    cond (!(decide (y_2 < 0)))
      (up (
        g_slices_partialInsertionSortCmpFunc_need_required.j5 b cmp j_1 i_2 data_4))
      ((getI (setI data_4 ((j_4).toNat) e_7) (W (j_4 - 1))).bind fun e_8 =>
      some (.next (W (j_4 - 1), setI (setI data_4 ((j_4).toNat) e_7) ((W (j_4 - 1)).toNat) e_6))))
    (up (
      g_slices_partialInsertionSortCmpFunc_need_required.j5 b cmp j_1 i_2 data_4))
noncomputable def g_slices_partialInsertionSortCmpFunc_need_required.j3 (a : Int) (b : Int) (cmp : need_required → need_required → Option (Int)) (j_1 : Int) (data_1 : List need_required) (i_2 : Int) (x36_3 : Bool) : Option (Lp (Int) (Lp (Int × Int × List need_required) (Bool × (List need_required)))) :=
  cond (x36_3)
    (some (.next (W (i_2 + 1))))
    (up (
      cond (decide (i_2 = b))
        (up (some (true, data_1)))
        (cond (decide ((W (b - a)) < 50))
          (up (some (false, data_1)))
          ((getI data_1 (W (i_2 - 1))).bind fun e_3 =>
          (getI data_1 i_2).bind fun e_4 =>
          (getI (setI data_1 ((i_2).toNat) e_3) (W (i_2 - 1))).bind fun e_5 =>
          cond (decide (2 ≤ (W (i_2 - a))))
            (loop (fun q' => g_slices_partialInsertionSortCmpFunc_need_required.l4 b cmp j_1 i_2 q'.1 q'.2) (W (i_2 - 1), setI (setI data_1 ((i_2).toNat) e_3) ((W (i_2 - 1)).toNat) e_4))
            (g_slices_partialInsertionSortCmpFunc_need_required.j5 b cmp j_1 i_2 (setI (setI data_1 ((i_2).toNat) e_3) ((W (i_2 - 1)).toNat) e_4))))))
noncomputable def g_slices_partialInsertionSortCmpFunc_need_required.l2 (a : Int) (b : Int) (cmp : need_required → need_required → Option (Int)) (j_1 : Int) (data_1 : List need_required) (i_2 : Int) : Option (Lp (Int) (Lp (Int × Int × List need_required) (Bool × (List need_required)))) :=
  cond (decide (i_2 < b))
    ((getI data_1 i_2).bind fun e =>
    (getI data_1 (W (i_2 - 1))).bind fun e_2 =>
    (cmp e e_2).bind fun y =>
    g_slices_partialInsertionSortCmpFunc_need_required.j3 a b cmp j_1 data_1 i_2 (!(decide (y < 0))))
    (g_slices_partialInsertionSortCmpFunc_need_required.j3 a b cmp j_1 data_1 i_2 false)
noncomputable def g_slices_partialInsertionSortCmpFunc_need_required.l1 (a : Int) (b : Int) (cmp : need_required → need_required → Option (Int)) (i_1 : Int) (j_1 : Int) (data_1 : List need_required) : Option (Lp (Int × Int × List need_required) (Bool × (List need_required))) :=
  cond (decide (j_1 < 5))
    (loop (fun q' => g_slices_partialInsertionSortCmpFunc_need_required.l2 a b cmp j_1 data_1 q') i_1)
    (up (
      some (false, data_1)))
noncomputable def g_slices_partialInsertionSortCmpFunc_need_required (data : List need_required) (a : Int) (b : Int) (cmp : need_required → need_required → Option (Int)) : Option (Bool × (List need_required)) :=
  loop (fun q' => g_slices_partialInsertionSortCmpFunc_need_required.l1 a b cmp q'.1 q'.2.1 q'.2.2) (W (a + 1), 0, data)
noncomputable def g_slices_partitionEqualCmpFunc_need_required.j5 (data_1 : List need_required) (i_2 : Int) (j_4 : Int) (x65_5 : Bool) : Option (Lp (Int) (Lp (Int × Int × List need_required) (Int × (List need_required)))) :=
  cond (x65_5)
    (some (.next (W (j_4 - 1))))
    (up (
      cond (decide (j_4 < i_2))
        (up (
          some (i_2, data_1)))
        ((getI data_1 j_4).bind fun e_8 =>
        (getI data_1 i_2).bind fun e_9 =>
        (getI (setI data_1 ((i_2).toNat) e_8) j_4).bind fun e_10 =>
        some (.next (W (i_2 + 1), W (j_4 - 1), setI (setI data_1 ((i_2).toNat) e_8) ((j_4).toNat) e_9)))))
noncomputable def g_slices_partitionEqualCmpFunc_need_required.l4 (a : Int) (cmp : need_required → need_required → Option (Int)) (data_1 : List need_required) (i_2 : Int) (j_4 : Int) : Option (Lp (Int) (Lp (Int × Int × List need_required) (Int × (List need_required)))) :=
  cond (decide (i_2 ≤ j_4))
    ((getI data_1 a).bind fun e_6 =>
    (getI data_1 j_4).bind fun e_7 =>
    (cmp e_6 e_7).bind fun y_2 =>
    g_slices_partitionEqualCmpFunc_need_required.j5 data_1 i_2 j_4 (decide (y_2 < 0)))
    (g_slices_partitionEqualCmpFunc_need_required.j5 data_1 i_2 j_4 false)
noncomputable def g_slices_partitionEqualCmpFunc_need_required.j3 (a : Int) (cmp : need_required → need_required → Option (Int)) (j_1 : Int) (data_1 : List need_required) (i_2 : Int) (x47_3 : Bool) : Option (Lp (Int) (Lp (Int × Int × List need_required) (Int × (List need_required)))) :=
  cond (x47_3)
    (some (.next (W (i_2 + 1))))
    (up (
      loop (fun q' => g_slices_partitionEqualCmpFunc_need_required.l4 a cmp data_1 i_2 q') j_1))
noncomputable def g_slices_partitionEqualCmpFunc_need_required.l2 (a : Int) (cmp : need_required → need_required → Option (Int)) (j_1 : Int) (data_1 : List need_required) (i_2 : Int) : Option (Lp (Int) (Lp (Int × Int × List need_required) (Int × (List need_required)))) :=
  cond (decide (i_2 ≤ j_1))
    ((getI data_1 a).bind fun e_4 =>
    (getI data_1 i_2).bind fun e_5 =>
    (cmp e_4 e_5).bind fun y =>
    g_slices_partitionEqualCmpFunc_need_required.j3 a cmp j_1 data_1 i_2 (!(decide (y < 0))))
    (g_slices_partitionEqualCmpFunc_need_required.j3 a cmp j_1 data_1 i_2 false)
noncomputable def g_slices_partitionEqualCmpFunc_need_required.l1 (a : Int) (cmp : need_required → need_required → Option (Int)) (i_1 : Int) (j_1 : Int) (data_1 : List need_required) : Option (Lp (Int × Int × List need_required) (Int × (List need_required))) :=
  loop (fun q' => g_slices_partitionEqualCmpFunc_need_required.l2 a cmp j_1 data_1 q') i_1
noncomputable def g_slices_partitionEqualCmpFunc_need_required (data : List need_required) (a : Int) (b : Int) (pivot : Int) (cmp : need_required → need_required → Option (Int)) : Option (Int × (List need_required)) :=
  (getI data pivot).bind fun e =>
  (getI data a).bind fun e_2 =>
  (getI (setI data ((a).toNat) e) pivot).bind fun e_3 =>
  loop (fun q' => g_slices_partitionEqualCmpFunc_need_required.l1 a cmp q'.1 q'.2.1 q'.2.2) (W (a + 1), W (b - 1), setI (setI data ((a).toNat) e) ((pivot).toNat) e_2)
noncomputable def g_slices_partitionCmpFunc_need_required.j9 (a : Int) (data_5 : List need_required) (i_6 : Int) (j_8 : Int) (x139_9 : Bool) : Option (Lp (Int) (Lp (Int × Int × List need_required) (Int × Bool × (List need_required)))) :=
  cond (x139_9)
    (some (.next (W (j_8 - 1))))
    (up (
      cond (decide (j_8 < i_6))
        (up (
          (getI data_5 a).bind fun e_21 =>
          (getI data_5 j_8).bind fun e_22 =>
          (getI (setI data_5 ((j_8).toNat) e_21) a).bind fun e_23 =>
          some (j_8, false, setI (setI data_5 ((j_8).toNat) e_21) ((a).toNat) e_22)))
        ((getI data_5 j_8).bind fun e_18 =>
        (getI data_5 i_6).bind fun e_19 =>
        (getI (setI data_5 ((i_6).toNat) e_18) j_8).bind fun e_20 =>
        some (.next (W (i_6 + 1), W (j_8 - 1), setI (setI data_5 ((i_6).toNat) e_18) ((j_8).toNat) e_19)))))
noncomputable def g_slices_partitionCmpFunc_need_required.l8 (a : Int) (cmp : need_required → need_required → Option (Int)) (data_5 : List need_required) (i_6 : Int) (j_8 : Int) : Option (Lp (Int) (Lp (Int × Int × List need_required) (Int × Bool × (List need_required)))) :=
  cond (decide (i_6 ≤ j_8))
    ((getI data_5 j_8).bind fun e_16 =>
    (getI data_5 a).bind fun e_17 =>
    (cmp e_16 e_17).bind fun y_4 =>
    g_slices_partitionCmpFunc_need_required.j9 a data_5 i_6 j_8 (!(decide (y_4 < 0))))
    (g_slices_partitionCmpFunc_need_required.j9 a data_5 i_6 j_8 false)
noncomputable def g_slices_partitionCmpFunc_need_required.j7 (a : Int) (cmp : need_required → need_required → Option (Int)) (j_5 : Int) (data_5 : List need_required) (i_6 : Int) (x120_7 : Bool) : Option (Lp (Int) (Lp (Int × Int × List need_required) (Int × Bool × (List need_required)))) :=
  cond (x120_7)
    (some (.next (W (i_6 + 1))))
    (up (
      loop (fun q' => g_slices_partitionCmpFunc_need_required.l8 a cmp data_5 i_6 q') j_5))
noncomputable def g_slices_partitionCmpFunc_need_required.l6 (a : Int) (cmp : need_required → need_required → Option (Int)) (j_5 : Int) (data_5 : List need_required) (i_6 : Int) : Option (Lp (Int) (Lp (Int × Int × List need_required) (Int × Bool × (List need_required)))) :=
  cond (decide (i_6 ≤ j_5))
    ((getI data_5 i_6).bind fun e_14 =>
    (getI data_5 a).bind fun e_15 =>
    (cmp e_14 e_15).bind fun y_3 =>
    g_slices_partitionCmpFunc_need_required.j7 a cmp j_5 data_5 i_6 (decide (y_3 < 0)))
    (g_slices_partitionCmpFunc_need_required.j7 a cmp j_5 data_5 i_6 false)
noncomputable def g_slices_partitionCmpFunc_need_required.l5 (a : Int) (cmp : need_required → need_required → Option (Int)) (i_5 : Int) (j_5 : Int) (data_5 : List need_required) : Option (Lp (Int × Int × List need_required) (Int × Bool × (List need_required))) :=
  loop (fun q' => g_slices_partitionCmpFunc_need_required.l6 a cmp j_5 data_5 q') i_5
noncomputable def g_slices_partitionCmpFunc_need_required.j4 (data : List need_required) (a : Int) (pivot : Int) (cmp : need_required → need_required → Option (Int)) (e : need_required) (e_2 : need_required) (i_1 : Int) (j_3 : Int) (x66_4 : Bool) : Option (Lp (Int) (Int × Bool × (List need_required))) :=
  cond (x66_4)
    (some (.next (W (j_3 - 1))))
    (up (
      cond (decide (j_3 < i_1))
        ((getI (setI (setI data ((a).toNat) e) ((pivot).toNat) e_2) a).bind fun e_8 =>
        (getI (setI (setI data ((a).toNat) e) ((pivot).toNat) e_2) j_3).bind fun e_9 =>
        (getI (setI (setI (setI data ((a).toNat) e) ((pivot).toNat) e_2) ((j_3).toNat) e_8) a).bind fun e_10 =>
        some (j_3, true, setI (setI (setI (setI data ((a).toNat) e) ((pivot).toNat) e_2) ((j_3).toNat) e_8) ((a).toNat) e_9))
        ((getI (setI (setI data ((a).toNat) e) ((pivot).toNat) e_2) j_3).bind fun e_11 =>
        (getI (setI (setI data ((a).toNat) e) ((pivot).toNat) e_2) i_1).bind fun e_12 =>
        (getI (setI (setI (setI data ((a).toNat) e) ((pivot).toNat) e_2) ((i_1).toNat) e_11) j_3).bind fun e_13 =>
        loop (fun q' => g_slices_partitionCmpFunc_need_required.l5 a cmp q'.1 q'.2.1 q'.2.2) (W (i_1 + 1), W (j_3 - 1), setI (setI (setI (setI data ((a).toNat) e) ((pivot).toNat) e_2) ((i_1).toNat) e_11) ((j_3).toNat) e_12))))
noncomputable def g_slices_partitionCmpFunc_need_required.l3 (data : List need_required) (a : Int) (pivot : Int) (cmp : need_required → need_required → Option (Int)) (e : need_required) (e_2 : need_required) (i_1 : Int) (j_3 : Int) : Option (Lp (Int) (Int × Bool × (List need_required))) :=
  cond (decide (i_1 ≤ j_3))
    ((getI (setI (setI data ((a).toNat) e) ((pivot).toNat) e_2) j_3).bind fun e_6 =>
    (getI (setI (setI data ((a).toNat) e) ((pivot).toNat) e_2) a).bind fun e_7 =>
    (cmp e_6 e_7).bind fun y_2 =>
    g_slices_partitionCmpFunc_need_required.j4 data a pivot cmp e e_2 i_1 j_3 (!(decide (y_2 < 0))))
    (g_slices_partitionCmpFunc_need_required.j4 data a pivot cmp e e_2 i_1 j_3 false)
noncomputable def g_slices_partitionCmpFunc_need_required.j2 (data : List need_required) (a : Int) (b : Int) (pivot : Int) (cmp : need_required → need_required → Option (Int)) (e : need_required) (e_2 : need_required) (i_1 : Int) (x47_2 : Bool) : Option (Lp (Int) (Int × Bool × (List need_required))) :=
  cond (x47_2)
    (some (.next (W (i_1 + 1))))
    (up (
      loop (fun q' => g_slices_partitionCmpFunc_need_required.l3 data a pivot cmp e e_2 i_1 q') (W (b - 1))))
noncomputable def g_slices_partitionCmpFunc_need_required.l1 (data : List need_required) (a : Int) (b : Int) (pivot : Int) (cmp : need_required → need_required → Option (Int)) (e : need_required) (e_2 : need_required) (i_1 : Int) : Option (Lp (Int) (Int × Bool × (List need_required))) :=
  cond (decide (i_1 ≤ (W (b - 1))))
    ((getI (setI (setI data ((a).toNat) e) ((pivot).toNat) e_2) i_1).bind fun e_4 =>
    (getI (setI (setI data ((a).toNat) e) ((pivot).toNat) e_2) a).bind fun e_5 =>
    (cmp e_4 e_5).bind fun y =>
    g_slices_partitionCmpFunc_need_required.j2 data a b pivot cmp e e_2 i_1 (decide (y < 0)))
    (g_slices_partitionCmpFunc_need_required.j2 data a b pivot cmp e e_2 i_1 false)
noncomputable def g_slices_partitionCmpFunc_need_required (data : List need_required) (a : Int) (b : Int) (pivot : Int) (cmp : need_required → need_required → Option (Int)) : Option (Int × Bool × (List need_required)) :=
  (getI data pivot).bind fun e =>
  (getI data a).bind fun e_2 =>
  (getI (setI data ((a).toNat) e) pivot).bind fun e_3 =>
  loop (fun q' => g_slices_partitionCmpFunc_need_required.l1 data a b pivot cmp e e_2 q') (W (a + 1))
noncomputable def g_slices_pdqsortCmpFunc_need_required.j6 (rec : (List need_required) → Int → Int → Int → Option ((List need_required))) (cmp : need_required → need_required → Option (Int)) (a_1 : Int) (b_1 : Int) (wasBalanced_1 : Bool) (wasPartitioned_1 : Bool) (limit_2 : Int) (pivot_3 : Int) (data_5 : List need_required) (x97_6 : Bool) : Option (Lp (Int × Int × Int × Bool × Bool × List need_required) ((List need_required))) :=
  cond (x97_6)
    ((g_slices_partitionEqualCmpFunc_need_required data_5 a_1 b_1 pivot_3 cmp).bind fun y_8 =>
    some (.next (y_8.1, b_1, limit_2, wasBalanced_1, wasPartitioned_1, y_8.2)))
    ((g_slices_partitionCmpFunc_need_required data_5 a_1 b_1 pivot_3 cmp).bind fun y_9 =>
    (quoI (W (b_1 - a_1)) 8).bind fun q =>
    cond (decide ((W (y_9.1 - a_1)) < (W (b_1 - y_9.1))))
      ((rec y_9.2.2 a_1 y_9.1 limit_2).bind fun y_10 =>
      some (.next (W (y_9.1 + 1), b_1, limit_2, decide (q ≤ (W (y_9.1 - a_1))), y_9.2.1, y_10)))
      ((rec y_9.2.2 (W (y_9.1 + 1)) b_1 limit_2).bind fun y_11 =>
      some (.next (a_1, y_9.1, limit_2, decide (q ≤ (W (b_1 - y_9.1))), y_9.2.1, y_11))))
noncomputable def g_slices_pdqsortCmpFunc_need_required.j5 (rec : (List need_required) → Int → Int → Int → Option ((List need_required))) (cmp : need_required → need_required → Option (Int)) (a_1 : Int) (b_1 : Int) (wasBalanced_1 : Bool) (wasPartitioned_1 : Bool) (limit_2 : Int) (pivot_3 : Int) (data_5 : List need_required) : Option (Lp (Int × Int × Int × Bool × Bool × List need_required) ((List need_required))) :=
  cond (decide (0 < a_1))
    ((getI data_5 (W (a_1 - 1))).bind fun e =>
    (getI data_5 pivot_3).bind fun e_2 =>
    (cmp e e_2).bind fun y_7 =>
    g_slices_pdqsortCmpFunc_need_required.j6 rec cmp a_1 b_1 wasBalanced_1 wasPartitioned_1 limit_2 pivot_3 data_5 (!(decide (y_7 < 0))))
    (g_slices_pdqsortCmpFunc_need_required.j6 rec cmp a_1 b_1 wasBalanced_1 wasPartitioned_1 limit_2 pivot_3 data_5 false)
noncomputable def g_slices_pdqsortCmpFunc_need_required.j4 (rec : (List need_required) → Int → Int → Int → Option ((List need_required))) (cmp : need_required → need_required → Option (Int)) (a_1 : Int) (b_1 : Int) (wasBalanced_1 : Bool) (wasPartitioned_1 : Bool) (limit_2 : Int) (pivot_3 : Int) (data_3 : List need_required) (x75_4 : Bool) : Option (Lp (Int × Int × Int × Bool × Bool × List need_required) ((List need_required))) :=
  cond (x75_4)
    ((g_slices_partialInsertionSortCmpFunc_need_required data_3 a_1 b_1 cmp).bind fun y_6 =>
    cond (y_6.1)
      (up (some y_6.2))
      (g_slices_pdqsortCmpFunc_need_required.j5 rec cmp a_1 b_1 wasBalanced_1 wasPartitioned_1 limit_2 pivot_3 y_6.2))
    (g_slices_pdqsortCmpFunc_need_required.j5 rec cmp a_1 b_1 wasBalanced_1 wasPartitioned_1 limit_2 pivot_3 data_3)
noncomputable def g_slices_pdqsortCmpFunc_need_required.j3 (rec : (List need_required) → Int → Int → Int → Option ((List need_required))) (cmp : need_required → need_required → Option (Int)) (a_1 : Int) (b_1 : Int) (wasBalanced_1 : Bool) (wasPartitioned_1 : Bool) (limit_2 : Int) (pivot_3 : Int) (hint_3 : Int) (data_3 : List need_required) : Option (Lp (Int × Int × Int × Bool × Bool × List need_required) ((List need_required))) :=
  cond (wasBalanced_1)
    (cond (wasPartitioned_1)
      (g_slices_pdqsortCmpFunc_need_required.j4 rec cmp a_1 b_1 wasBalanced_1 wasPartitioned_1 limit_2 pivot_3 data_3 (decide (hint_3 = 1)))
      (g_slices_pdqsortCmpFunc_need_required.j4 rec cmp a_1 b_1 wasBalanced_1 wasPartitioned_1 limit_2 pivot_3 data_3 false))
    (g_slices_pdqsortCmpFunc_need_required.j4 rec cmp a_1 b_1 wasBalanced_1 wasPartitioned_1 limit_2 pivot_3 data_3 false)
noncomputable def g_slices_pdqsortCmpFunc_need_required.j2 (rec : (List need_required) → Int → Int → Int → Option ((List need_required))) (cmp : need_required → need_required → Option (Int)) (a_1 : Int) (b_1 : Int) (wasBalanced_1 : Bool) (wasPartitioned_1 : Bool) (limit_2 : Int) (data_2 : List need_required) : Option (Lp (Int × Int × Int × Bool × Bool × List need_required) ((List need_required))) :=
  (g_slices_choosePivotCmpFunc_need_required data_2 a_1 b_1 cmp).bind fun y_4 =>
  cond (decide (y_4.2 = 2))
    ((g_slices_reverseRangeCmpFunc_need_required data_2 a_1 b_1 cmp).bind fun y_5 =>
    g_slices_pdqsortCmpFunc_need_required.j3 rec cmp a_1 b_1 wasBalanced_1 wasPartitioned_1 limit_2 (W ((W (b_1 - 1)) - (W (y_4.1 - a_1)))) 1 y_5)
    (g_slices_pdqsortCmpFunc_need_required.j3 rec cmp a_1 b_1 wasBalanced_1 wasPartitioned_1 limit_2 y_4.1 y_4.2 data_2)
noncomputable def g_slices_pdqsortCmpFunc_need_required.l1 (rec : (List need_required) → Int → Int → Int → Option ((List need_required))) (cmp : need_required → need_required → Option (Int)) (a_1 : Int) (b_1 : Int) (limit_1 : Int) (wasBalanced_1 : Bool) (wasPartitioned_1 : Bool) (data_1 : List need_required) : Option (Lp (Int × Int × Int × Bool × Bool × List need_required) ((List need_required))) :=
  cond (decide ((W (b_1 - a_1)) ≤ 12))
    ((g_slices_insertionSortCmpFunc_need_required data_1 a_1 b_1 cmp).bind fun y =>
    up (some y))
    (cond (decide (limit_1 = 0))
      ((g_slices_heapSortCmpFunc_need_required data_1 a_1 b_1 cmp).bind fun y_2 =>
      up (some y_2))
      (cond (!wasBalanced_1)
        ((g_slices_breakPatternsCmpFunc_need_required data_1 a_1 b_1 cmp).bind fun y_3 =>
        g_slices_pdqsortCmpFunc_need_required.j2 rec cmp a_1 b_1 wasBalanced_1 wasPartitioned_1 (W (limit_1 - 1)) y_3)
        (g_slices_pdqsortCmpFunc_need_required.j2 rec cmp a_1 b_1 wasBalanced_1 wasPartitioned_1 limit_1 data_1)))
noncomputable def g_slices_pdqsortCmpFunc_need_required.F (rec : (List need_required) → Int → Int → Int → Option ((List need_required))) (data : List need_required) (a : Int) (b : Int) (limit : Int) (cmp : need_required → need_required → Option (Int)) : Option ((List need_required)) :=
  loop (fun q' => g_slices_pdqsortCmpFunc_need_required.l1 rec cmp q'.1 q'.2.1 q'.2.2.1 q'.2.2.2.1 q'.2.2.2.2.1 q'.2.2.2.2.2) (a, b, limit, true, true, data)
noncomputable def g_slices_pdqsortCmpFunc_need_required (data : List need_required) (a : Int) (b : Int) (limit : Int) (cmp : need_required → need_required → Option (Int)) : Option ((List need_required)) := fixT (fun rec (x : List need_required × Int × Int × Int) => g_slices_pdqsortCmpFunc_need_required.F (fun data a b limit => rec (data, a, b, limit)) x.1 x.2.1 x.2.2.1 x.2.2.2 cmp) (data, a, b, limit)
noncomputable def g_slices_SortFunc_need_required (x' : List need_required) (cmp : need_required → need_required → Option (Int)) : Option ((List need_required)) :=
  (g_math_bits_Len (IntKind.wrap .u64 (x'.length : Int))).bind fun y =>
  (g_slices_pdqsortCmpFunc_need_required x' 0 (x'.length : Int) y cmp).bind fun y_2 =>
  some y_2
noncomputable def g_slices_Compact_need_required.j3 (k2_2 : Int) (k_3 : Int) (s_3 : List need_required) : Option (Lp (Int × Int × List need_required) (Lp (Int) ((List need_required)))) :=
  some (.next (k_3, W (k2_2 + 1), s_3))
noncomputable def g_slices_Compact_need_required.l2 (s : List need_required) (k_1 : Int) (k_2 : Int) (k2_2 : Int) (s_2 : List need_required) : Option (Lp (Int × Int × List need_required) (Lp (Int) ((List need_required)))) :=
  cond (decide (k2_2 < (((((s.length : Int) : Int).toNat - (k_1 : Int).toNat) : Nat) : Int)))
    ((getI ((s_2.drop ((k_1 : Int).toNat)).take (((s.length : Int) : Int).toNat - (k_1 : Int).toNat)) k2_2).bind fun e_3 =>
    (getI ((s_2.drop ((k_1 : Int).toNat)).take (((s.length : Int) : Int).toNat - (k_1 : Int).toNat)) (W (k2_2 - 1))).bind fun e_4 =>
    cond (!decide (e_3 = e_4))
      ((getI s_2 k_2).bind fun e_5 =>
      g_slices_Compact_need_required.j3 k2_2 (W (k_2 + 1)) (setI s_2 ((k_2).toNat) e_3))
      (g_slices_Compact_need_required.j3 k2_2 k_2 s_2))
    (up (
      (slI s_2 k_2 (s_2.length : Int)).bind fun l_2 =>
      (clrI s_2 ((k_2 : Int).toNat) (((s_2.length : Int) : Int).toNat - (k_2 : Int).toNat) ((need_required.mk 0 0) : need_required)).bind fun l_3 =>
      (slI l_3 0 k_2).bind fun l_4 =>
      up (some (l_3.take ((k_2 : Int).toNat - (0 : Int).toNat)))))
noncomputable def g_slices_Compact_need_required.l1 (s : List need_required) (k_1 : Int) : Option (Lp (Int) ((List need_required))) :=
  cond (decide (k_1 < (s.length : Int)))
    ((getI s k_1).bind fun e =>
    (getI s (W (k_1 - 1))).bind fun e_2 =>
    cond (decide (e = e_2))
      ((slI s k_1 (s.length : Int)).bind fun l =>
      loop (fun q' => g_slices_Compact_need_required.l2 s k_1 q'.1 q'.2.1 q'.2.2) (k_1, 1, s))
      (some (.next (W (k_1 + 1)))))
    (up (
      some s))
noncomputable def g_slices_Compact_need_required (s : List need_required) : Option ((List need_required)) :=
  cond (decide ((s.length : Int) < 2))
    (some s)
    (loop (fun q' => g_slices_Compact_need_required.l1 s q') 1)
noncomputable def g_need_sorted.l2 (y_2 : (List need_required)) (x25_2 : Int) (out_2 : List api_Required) : Option (Lp (Int × List api_Required) ((List api_Required))) :=
  cond (decide (x25_2 < (y_2.length : Int)))
    ((getI y_2 x25_2).bind fun e_2 =>
    (appI 32 out_2 ([(api_Required.mk e_2.First e_2.Then)] : List api_Required)).bind fun l_3 =>
    some (.next (W (x25_2 + 1), l_3)))
    (up (
      some out_2))
noncomputable def g_need_sorted.l1 (l : (List api_Required)) (x11_1 : Int) (rows_1 : List need_required) : Option (Lp (Int × List need_required) ((List api_Required))) :=
  cond (decide (x11_1 < (l.length : Int)))
    ((getI l x11_1).bind fun e =>
    (appI 32 rows_1 ([(need_required.mk e.First e.Then)] : List need_required)).bind fun l_2 =>
    some (.next (W (x11_1 + 1), l_2)))
    (up (
      (g_slices_SortFunc_need_required rows_1 (fun x0 x1 => g_need_required_compare x0 x1)).bind fun y =>
      (g_slices_Compact_need_required y).bind fun y_2 =>
      loop (fun q' => g_need_sorted.l2 y_2 q'.1 q'.2) (0, ([] : List api_Required))))
noncomputable def g_need_sorted (l : (List api_Required)) : Option ((List api_Required)) :=
  loop (fun q' => g_need_sorted.l1 l q'.1 q'.2) (0, ([] : List need_required))
noncomputable def g_need_Chain.l1 (l : (List Int)) (i_1 : Int) (out_1 : List api_Required) : Option (Lp (Int × List api_Required) ((List api_Required))) :=
  cond (decide (i_1 < (l.length : Int)))
    ((getI l (W (i_1 - 1))).bind fun e =>
    (getI l i_1).bind fun e_2 =>
    (appI 32 out_1 ([(api_Required.mk e e_2)] : List api_Required)).bind fun l_2 =>
    some (.next (W (i_1 + 1), l_2)))
    (up (
      (g_need_sorted out_1).bind fun y =>
      some y))
noncomputable def g_need_Chain (l : (List Int)) : Option ((List api_Required)) :=
  loop (fun q' => g_need_Chain.l1 l q'.1 q'.2) (1, ([] : List api_Required))
noncomputable def g_law28_awake : Option (Bool) :=
  (g_need_Rank (api_Endpoint.mk (⟨#[]⟩ : ByteArray) 0 0 ([] : (List Int)) false ([] : (List api_Identity)) ([] : (List Int)) ([] : (List Int)) false) (api_Change.mk 0 5 0 0 (api_Identity.mk (api_Use.mk 0 0) 0 ([] : (List api_Certificate))))).bind fun y =>
  cond (decide (y = 1))
    ((g_need_Rank (api_Endpoint.mk (⟨#[]⟩ : ByteArray) 0 0 ([] : (List Int)) false ([] : (List api_Identity)) ([] : (List Int)) ([] : (List Int)) false) (api_Change.mk 0 2 0 0 (api_Identity.mk (api_Use.mk 0 0) 0 ([] : (List api_Certificate))))).bind fun y_2 =>
    cond (decide (y_2 = 3))
      ((g_need_Chain ([2, 0, 1] : List Int)).bind fun y_3 =>
      some (decide ((y_3.length : Int) = 2)))
      (some false))
    (some false)
noncomputable def g_make_Roll (l : (List Int)) : Option (cipherplanmake_Dice) :=
  some (cipherplanmake_Dice.mk l 0)
noncomputable def g_make_Mod (n : Int) (k : Int) : Option (Int) :=
  cond (decide (k < 1))
    (some 0)
    ((remI n k).bind fun q =>
    (remI (W (q + k)) k).bind fun q_2 =>
    some q_2)
noncomputable def g_make_Dice_Next (d : cipherplanmake_Dice) (n : Int) : Option (Int × cipherplanmake_Dice) :=
  cond (decide ((d.L.length : Int) ≤ d.At))
    (some (0, d))
    ((getI d.L (W ((W (d.At + 1)) - 1))).bind fun e =>
    (g_make_Mod e n).bind fun y =>
    some (y, (cipherplanmake_Dice.mk d.L (W (d.At + 1)))))
noncomputable def g_ref28_less (a : api_Required) (b : api_Required) : Option (Bool) :=
  cond (!decide (a.First = b.First))
    (some (decide (a.First < b.First)))
    (some (decide (a.Then < b.Then)))
noncomputable def g_ref28_put.j3 (l : (List api_Required)) (r' : api_Required) (at_1 : Int) (x32_3 : Bool) : Option ((List api_Required)) :=
  cond (x32_3)
    (some l)
    ((slI l 0 at_1).bind fun l_2 =>
    (appI 32 ([] : List api_Required) l_2).bind fun l_3 =>
    (appI 32 l_3 ([r'] : List api_Required)).bind fun l_4 =>
    (slI l at_1 (l.length : Int)).bind fun l_5 =>
    (appI 32 l_4 l_5).bind fun l_6 =>
    some l_6)
noncomputable def g_ref28_put.j2 (l : (List api_Required)) (r' : api_Required) (at_1 : Int) (x18_2 : Bool) : Option (Lp (Int) ((List api_Required))) :=
  cond (x18_2)
    (some (.next (W (at_1 + 1))))
    (up (
      cond (decide (at_1 < (l.length : Int)))
        ((getI l at_1).bind fun e_2 =>
        g_ref28_put.j3 l r' at_1 (decide (e_2 = r')))
        (g_ref28_put.j3 l r' at_1 false)))
noncomputable def g_ref28_put.l1 (l : (List api_Required)) (r' : api_Required) (at_1 : Int) : Option (Lp (Int) ((List api_Required))) :=
  cond (decide (at_1 < (l.length : Int)))
    ((getI l at_1).bind fun e =>
    (g_ref28_less e r').bind fun y =>
    g_ref28_put.j2 l r' at_1 y)
    (g_ref28_put.j2 l r' at_1 false)
noncomputable def g_ref28_put (l : (List api_Required)) (r' : api_Required) : Option ((List api_Required)) :=
  loop (fun q' => g_ref28_put.l1 l r' q') 0
noncomputable def g_ref28_Union.l2 (b : (List api_Required)) (out_2 : List api_Required) (x22_2 : Int) : Option (Lp (List api_Required × Int) ((List api_Required))) :=
  cond (decide (x22_2 < (b.length : Int)))
    ((getI b x22_2).bind fun e_2 =>
    (g_ref28_put out_2 e_2).bind fun y_2 =>
    some (.next (y_2, W (x22_2 + 1))))
    (up (
      some out_2))
noncomputable def g_ref28_Union.l1 (a : (List api_Required)) (b : (List api_Required)) (out_1 : List api_Required) (x12_1 : Int) : Option (Lp (List api_Required × Int) ((List api_Required))) :=
  cond (decide (x12_1 < (a.length : Int)))
    ((getI a x12_1).bind fun e =>
    (g_ref28_put out_1 e).bind fun y =>
    some (.next (y, W (x12_1 + 1))))
    (up (
      loop (fun q' => g_ref28_Union.l2 b q'.1 q'.2) (out_1, 0)))
noncomputable def g_ref28_Union (a : (List api_Required)) (b : (List api_Required)) : Option ((List api_Required)) :=
  loop (fun q' => g_ref28_Union.l1 a b q'.1 q'.2) (([] : List api_Required), 0)
noncomputable def g_move_Needs.j3 (k_1 : Int) (l_3 : List api_Required) (d_3 : cipherplanmake_Dice) : Option (Lp (List api_Required × Int × cipherplanmake_Dice) ((List api_Required) × cipherplanmake_Dice)) :=
  some (.next (l_3, W (k_1 - 1), d_3))
noncomputable def g_move_Needs.j2 (n : Int) (l_1 : List api_Required) (k_1 : Int) (d_1 : cipherplanmake_Dice) (x19_2 : Bool) : Option (Lp (List api_Required × Int × cipherplanmake_Dice) ((List api_Required) × cipherplanmake_Dice)) :=
  cond (x19_2)
    ((g_make_Dice_Next d_1 n).bind fun y_2 =>
    (g_make_Dice_Next y_2.2 n).bind fun y_3 =>
    cond (decide (y_2.1 < y_3.1))
      ((g_ref28_Union l_1 ([(api_Required.mk y_2.1 y_3.1)] : List api_Required)).bind fun y_4 =>
      g_move_Needs.j3 k_1 y_4 y_3.2)
      (g_move_Needs.j3 k_1 l_1 y_3.2))
    (up (
      some (l_1, d_1)))
noncomputable def g_move_Needs.l1 (n : Int) (l_1 : List api_Required) (k_1 : Int) (d_1 : cipherplanmake_Dice) : Option (Lp (List api_Required × Int × cipherplanmake_Dice) ((List api_Required) × cipherplanmake_Dice)) :=
  cond (decide (0 < k_1))
    (g_move_Needs.j2 n l_1 k_1 d_1 (decide (1 < n)))
    (g_move_Needs.j2 n l_1 k_1 d_1 false)
noncomputable def g_move_Needs (d : cipherplanmake_Dice) (n : Int) : Option ((List api_Required) × cipherplanmake_Dice) :=
  (g_make_Dice_Next d (W ((W (2 * n)) + 1))).bind fun y =>
  loop (fun q' => g_move_Needs.l1 n q'.1 q'.2.1 q'.2.2) (([] : List api_Required), y.1, y.2)
noncomputable def g_slices_Clone_api_Required.j1 (s : (List api_Required)) (x4_1 : Bool) : Option ((List api_Required)) :=
  cond (x4_1)
    (some ([] : (List api_Required)))
    ((appI 32 ([] : List api_Required) s).bind fun l =>
    some l)
noncomputable def g_slices_Clone_api_Required (s : (List api_Required)) : Option ((List api_Required)) :=
  nilC (s)
    (g_slices_Clone_api_Required.j1 s true)
    (g_slices_Clone_api_Required.j1 s false)
noncomputable def g_ref28_Ways.j8 (x44_6 : Int) (out_8 : List (List Bool)) : Option (Lp (Int × List (List Bool)) (Lp (Int × List (List Bool)) (Lp (Int × List (List Bool)) ((List (List Bool)))))) :=
  some (.next (W (x44_6 + 1), out_8))
noncomputable def g_ref28_Ways.j7 (x40_5 : Int) (x44_6 : Int) (out_6 : List (List Bool)) (x62_7 : Bool) : Option (Lp (Int × List (List Bool)) (Lp (Int × List (List Bool)) (Lp (Int × List (List Bool)) ((List (List Bool)))))) :=
  cond (x62_7)
    ((getI out_6 x40_5).bind fun e_8 =>
    (getI e_8 x44_6).bind fun e_9 =>
    g_ref28_Ways.j8 x44_6 (setI out_6 ((x40_5).toNat) (setI e_8 ((x44_6).toNat) true)))
    (g_ref28_Ways.j8 x44_6 out_6)
noncomputable def g_ref28_Ways.l6 (n : Int) (x36_4 : Int) (x40_5 : Int) (x44_6 : Int) (out_6 : List (List Bool)) : Option (Lp (Int × List (List Bool)) (Lp (Int × List (List Bool)) (Lp (Int × List (List Bool)) ((List (List Bool)))))) :=
  cond (decide (x44_6 < n))
    ((getI out_6 x40_5).bind fun e_4 =>
    (getI e_4 x36_4).bind fun e_5 =>
    cond (e_5)
      ((getI out_6 x36_4).bind fun e_6 =>
      (getI e_6 x44_6).bind fun e_7 =>
      g_ref28_Ways.j7 x40_5 x44_6 out_6 e_7)
      (g_ref28_Ways.j7 x40_5 x44_6 out_6 false))
    (up (
      some (.next (W (x40_5 + 1), out_6))))
noncomputable def g_ref28_Ways.l5 (n : Int) (x36_4 : Int) (x40_5 : Int) (out_5 : List (List Bool)) : Option (Lp (Int × List (List Bool)) (Lp (Int × List (List Bool)) ((List (List Bool))))) :=
  cond (decide (x40_5 < n))
    (loop (fun q' => g_ref28_Ways.l6 n x36_4 x40_5 q'.1 q'.2) (0, out_5))
    (up (
      some (.next (W (x36_4 + 1), out_5))))
noncomputable def g_ref28_Ways.l4 (n : Int) (x36_4 : Int) (out_4 : List (List Bool)) : Option (Lp (Int × List (List Bool)) ((List (List Bool)))) :=
  cond (decide (x36_4 < n))
    (loop (fun q' => g_ref28_Ways.l5 n x36_4 q'.1 q'.2) (0, out_4))
    (up (
      some out_4))
noncomputable def g_ref28_Ways.l3 (n : Int) (l : (List api_Required)) (x22_3 : Int) (out_3 : List (List Bool)) : Option (Lp (Int × List (List Bool)) ((List (List Bool)))) :=
  cond (decide (x22_3 < (l.length : Int)))
    ((getI l x22_3).bind fun e =>
    (getI out_3 e.First).bind fun e_2 =>
    (getI e_2 e.Then).bind fun e_3 =>
    some (.next (W (x22_3 + 1), setI out_3 ((e.First).toNat) (setI e_2 ((e.Then).toNat) true))))
    (up (
      loop (fun q' => g_ref28_Ways.l4 n q'.1 q'.2) (0, out_3)))
noncomputable def g_ref28_Ways.l2 (n : Int) (l : (List api_Required)) (x12_2 : Int) (out_2 : List (List Bool)) : Option (Lp (Int × List (List Bool)) ((List (List Bool)))) :=
  cond (decide (x12_2 < n))
    ((makI 1 n (false : Bool)).bind fun m =>
    (appI 24 out_2 ([m] : List (List Bool))).bind fun l_2 =>
    some (.next (W (x12_2 + 1), l_2)))
    (up (
      loop (fun q' => g_ref28_Ways.l3 n l q'.1 q'.2) (0, out_2)))
noncomputable def g_ref28_Ways (n : Int) (l : (List api_Required)) : Option ((List (List Bool))) :=
  loop (fun q' => g_ref28_Ways.l2 n l q'.1 q'.2) (0, ([] : List (List Bool)))
noncomputable def g_ref28_Same.l1 (a : (List api_Required)) (b : (List api_Required)) (x13_1 : Int) : Option (Lp (Int) (Bool)) :=
  cond (decide (x13_1 < (a.length : Int)))
    ((getI a x13_1).bind fun e =>
    (getI b x13_1).bind fun e_2 =>
    cond (!decide (e = e_2))
      (up (some false))
      (some (.next (W (x13_1 + 1)))))
    (up (
      some true))
noncomputable def g_ref28_Same (a : (List api_Required)) (b : (List api_Required)) : Option (Bool) :=
  cond (!decide ((a.length : Int) = (b.length : Int)))
    (some false)
    (loop (fun q' => g_ref28_Same.l1 a b q') 0)
noncomputable def g_need_Reduce_c1 (r' : api_Required) (c0 : Int) : Option (Bool) :=
  cond (decide (r'.First < 0))
    (some true)
    (cond (decide (c0 ≤ r'.First))
      (some true)
      (cond (decide (r'.Then < 0))
        (some true)
        (cond (decide (c0 ≤ r'.Then))
          (some true)
          (some (decide (r'.First = r'.Then))))))
noncomputable def g_slices_IndexFunc_api_Required.l1 (s : (List api_Required)) (f : api_Required → Option (Bool)) (x8_1 : Int) : Option (Lp (Int) (Int)) :=
  cond (decide (x8_1 < (s.length : Int)))
    ((getI s x8_1).bind fun e =>
    (f e).bind fun y =>
    cond (y)
      (up (some x8_1))
      (some (.next (W (x8_1 + 1)))))
    (up (
      some (-1)))
noncomputable def g_slices_IndexFunc_api_Required (s : (List api_Required)) (f : api_Required → Option (Bool)) : Option (Int) :=
  loop (fun q' => g_slices_IndexFunc_api_Required.l1 s f q') 0
noncomputable def g_slices_ContainsFunc_api_Required (s : (List api_Required)) (f : api_Required → Option (Bool)) : Option (Bool) :=
  (g_slices_IndexFunc_api_Required s f).bind fun y =>
  some (decide (0 ≤ y))
noncomputable def g_slices_Equal_api_Required.l1 (s1 : (List api_Required)) (s2 : (List api_Required)) (x13_1 : Int) : Option (Lp (Int) (Bool)) :=
  cond (decide (x13_1 < (s1.length : Int)))
    ((getI s1 x13_1).bind fun e =>
    (getI s2 x13_1).bind fun e_2 =>
    cond (!decide (e = e_2))
      (up (some false))
      (some (.next (W (x13_1 + 1)))))
    (up (
      some true))
noncomputable def g_slices_Equal_api_Required (s1 : (List api_Required)) (s2 : (List api_Required)) : Option (Bool) :=
  cond (!decide ((s1.length : Int) = (s2.length : Int)))
    (some false)
    (loop (fun q' => g_slices_Equal_api_Required.l1 s1 s2 q') 0)
noncomputable def g_need_reach.j6 (x30_4 : Int) (ways_6 : (List (api_Required × Bool))) : Option (Lp (Int × (List (api_Required × Bool))) (Lp (Int × (List (api_Required × Bool))) (Lp (Int × (List (api_Required × Bool))) ((List (api_Required × Bool)))))) :=
  some (.next (W (x30_4 + 1), ways_6))
noncomputable def g_need_reach.j5 (x26_3 : Int) (x30_4 : Int) (ways_4 : (List (api_Required × Bool))) (x44_5 : Bool) : Option (Lp (Int × (List (api_Required × Bool))) (Lp (Int × (List (api_Required × Bool))) (Lp (Int × (List (api_Required × Bool))) ((List (api_Required × Bool)))))) :=
  cond (x44_5)
    (g_need_reach.j6 x30_4 (mapPut ways_4 (api_Required.mk x26_3 x30_4) true))
    (g_need_reach.j6 x30_4 ways_4)
noncomputable def g_need_reach.l4 (n : Int) (x22_2 : Int) (x26_3 : Int) (x30_4 : Int) (ways_4 : (List (api_Required × Bool))) : Option (Lp (Int × (List (api_Required × Bool))) (Lp (Int × (List (api_Required × Bool))) (Lp (Int × (List (api_Required × Bool))) ((List (api_Required × Bool)))))) :=
  cond (decide (x30_4 < n))
    (cond ((mapGet ways_4 (api_Required.mk x26_3 x22_2) false))
      (g_need_reach.j5 x26_3 x30_4 ways_4 (mapGet ways_4 (api_Required.mk x22_2 x30_4) false))
      (g_need_reach.j5 x26_3 x30_4 ways_4 false))
    (up (
      some (.next (W (x26_3 + 1), ways_4))))
noncomputable def g_need_reach.l3 (n : Int) (x22_2 : Int) (x26_3 : Int) (ways_3 : (List (api_Required × Bool))) : Option (Lp (Int × (List (api_Required × Bool))) (Lp (Int × (List (api_Required × Bool))) ((List (api_Required × Bool))))) :=
  cond (decide (x26_3 < n))
    (loop (fun q' => g_need_reach.l4 n x22_2 x26_3 q'.1 q'.2) (0, ways_3))
    (up (
      some (.next (W (x22_2 + 1), ways_3))))
noncomputable def g_need_reach.l2 (n : Int) (x22_2 : Int) (ways_2 : (List (api_Required × Bool))) : Option (Lp (Int × (List (api_Required × Bool))) ((List (api_Required × Bool)))) :=
  cond (decide (x22_2 < n))
    (loop (fun q' => g_need_reach.l3 n x22_2 q'.1 q'.2) (0, ways_2))
    (up (
      some ways_2))
noncomputable def g_need_reach.l1 (n : Int) (l : (List api_Required)) (x14_1 : Int) (ways_1 : (List (api_Required × Bool))) : Option (Lp (Int × (List (api_Required × Bool))) ((List (api_Required × Bool)))) :=
  cond (decide (x14_1 < (l.length : Int)))
    ((getI l x14_1).bind fun e =>
    some (.next (W (x14_1 + 1), mapPut ways_1 e true)))
    (up (
      loop (fun q' => g_need_reach.l2 n q'.1 q'.2) (0, ways_1)))
noncomputable def g_need_reach (n : Int) (l : (List api_Required)) : Option ((List (api_Required × Bool))) :=
  loop (fun q' => g_need_reach.l1 n l q'.1 q'.2) (0, ([] : (List (api_Required × Bool))))
noncomputable def g_need_Reduce.j7 (x47_4 : Int) (out_7 : List api_Required) : Option (Lp (Int × List api_Required) ((List api_Required) × Int)) :=
  some (.next (W (x47_4 + 1), out_7))
noncomputable def g_need_Reduce.j6 (x52_5 : Int) (longer_6 : Bool) : Option (Lp (Bool × Int) (Lp (Int × List api_Required) ((List api_Required) × Int))) :=
  some (.next (longer_6, W (x52_5 + 1)))
noncomputable def g_need_Reduce.l5 (n : Int) (y_4 : (List (api_Required × Bool))) (x47_4 : Int) (out_4 : List api_Required) (e : api_Required) (longer_5 : Bool) (x52_5 : Int) : Option (Lp (Bool × Int) (Lp (Int × List api_Required) ((List api_Required) × Int))) :=
  cond (decide (x52_5 < n))
    (cond (longer_5)
      (g_need_Reduce.j6 x52_5 true)
      (cond ((mapGet y_4 (api_Required.mk e.First x52_5) false))
        (g_need_Reduce.j6 x52_5 (mapGet y_4 (api_Required.mk x52_5 e.Then) false))
        (g_need_Reduce.j6 x52_5 false)))
    (up (
      cond (!longer_5)
        ((appI 32 out_4 ([e] : List api_Required)).bind fun l_2 =>
        g_need_Reduce.j7 x47_4 l_2)
        (g_need_Reduce.j7 x47_4 out_4)))
noncomputable def g_need_Reduce.l4 (n : Int) (l : (List api_Required)) (y_4 : (List (api_Required × Bool))) (x47_4 : Int) (out_4 : List api_Required) : Option (Lp (Int × List api_Required) ((List api_Required) × Int)) :=
  cond (decide (x47_4 < (l.length : Int)))
    ((getI l x47_4).bind fun e =>
    loop (fun q' => g_need_Reduce.l5 n y_4 x47_4 out_4 e q'.1 q'.2) (false, 0))
    (up (
      some (out_4, 0)))
noncomputable def g_need_Reduce.l3 (n : Int) (l : (List api_Required)) (y_4 : (List (api_Required × Bool))) (x36_3 : Int) : Option (Lp (Int) ((List api_Required) × Int)) :=
  cond (decide (x36_3 < n))
    (cond ((mapGet y_4 (api_Required.mk x36_3 x36_3) false))
      (up (some (([] : (List api_Required)), 45)))
      (some (.next (W (x36_3 + 1)))))
    (up (
      loop (fun q' => g_need_Reduce.l4 n l y_4 q'.1 q'.2) (0, ([] : List api_Required))))
noncomputable def g_need_Reduce.j2 (n : Int) (l : (List api_Required)) (x15_2 : Bool) : Option ((List api_Required) × Int) :=
  cond (x15_2)
    (some (([] : (List api_Required)), 2))
    ((g_slices_ContainsFunc_api_Required l (fun x0 => g_need_Reduce_c1 x0 n)).bind fun y =>
    cond (y)
      (some (([] : (List api_Required)), 44))
      ((g_need_sorted l).bind fun y_2 =>
      (g_slices_Equal_api_Required y_2 l).bind fun y_3 =>
      cond (!y_3)
        (some (([] : (List api_Required)), 6))
        ((g_need_reach n l).bind fun y_4 =>
        loop (fun q' => g_need_Reduce.l3 n l y_4 q') 0)))
noncomputable def g_need_Reduce (n : Int) (l : (List api_Required)) : Option ((List api_Required) × Int) :=
  cond (decide (n < 0))
    (g_need_Reduce.j2 n l true)
    (g_need_Reduce.j2 n l (decide (24 < n)))
noncomputable def g_law28_same.l2 (b : (List (List Bool))) (x9_1 : Int) (e : (List Bool)) (x17_2 : Int) : Option (Lp (Int) (Lp (Int) (Bool))) :=
  cond (decide (x17_2 < (e.length : Int)))
    ((getI e x17_2).bind fun e_2 =>
    (getI b x9_1).bind fun e_3 =>
    (getI e_3 x17_2).bind fun e_4 =>
    cond (!decide (e_2 = e_4))
      (up (up (some false)))
      (some (.next (W (x17_2 + 1)))))
    (up (
      some (.next (W (x9_1 + 1)))))
noncomputable def g_law28_same.l1 (a : (List (List Bool))) (b : (List (List Bool))) (x9_1 : Int) : Option (Lp (Int) (Bool)) :=
  cond (decide (x9_1 < (a.length : Int)))
    ((getI a x9_1).bind fun e =>
    loop (fun q' => g_law28_same.l2 b x9_1 e q') 0)
    (up (
      some true))
noncomputable def g_law28_same (a : (List (List Bool))) (b : (List (List Bool))) : Option (Bool) :=
  loop (fun q' => g_law28_same.l1 a b q') 0
noncomputable def g_law28_NeedReduces.l2 (y_4 : (List api_Required) × cipherplanmake_Dice) (y_5 : (List api_Required) × Int) (x49_2 : Int) : Option (Lp (Int) (Bool)) :=
  cond (decide (x49_2 < (y_5.1.length : Int)))
    ((slI y_5.1 0 x49_2).bind fun l =>
    (appI 32 ([] : List api_Required) l).bind fun l_2 =>
    (slI y_5.1 (W (x49_2 + 1)) (y_5.1.length : Int)).bind fun l_3 =>
    (appI 32 l_2 l_3).bind fun l_4 =>
    (g_ref28_Ways 8 y_4.1).bind fun y_12 =>
    (g_ref28_Ways 8 l_4).bind fun y_13 =>
    (g_law28_same y_12 y_13).bind fun y_14 =>
    cond (y_14)
      (up (some false))
      (some (.next (W (x49_2 + 1)))))
    (up (
      (g_law28_awake).bind fun y_15 =>
      some y_15))
noncomputable def g_law28_NeedReduces.j1 (y_4 : (List api_Required) × cipherplanmake_Dice) (y_5 : (List api_Required) × Int) (x46_1 : Bool) : Option (Bool) :=
  cond (x46_1)
    (some false)
    (loop (fun q' => g_law28_NeedReduces.l2 y_4 y_5 q') 0)
noncomputable def g_law28_NeedReduces (t : (List Int)) : Option (Bool) :=
  (g_make_Light t).bind fun y =>
  cond (!y)
    ((g_law28_awake).bind fun y_2 =>
    some y_2)
    ((g_make_Roll t).bind fun y_3 =>
    (g_move_Needs y_3 8).bind fun y_4 =>
    (g_need_Reduce 8 y_4.1).bind fun y_5 =>
    (g_need_Reduce 8 y_5.1).bind fun y_6 =>
    cond (!decide (y_5.2 = 0))
      (g_law28_NeedReduces.j1 y_4 y_5 true)
      (cond (!decide (y_6.2 = 0))
        (g_law28_NeedReduces.j1 y_4 y_5 true)
        ((g_ref28_Same y_5.1 y_6.1).bind fun y_7 =>
        cond (!y_7)
          (g_law28_NeedReduces.j1 y_4 y_5 true)
          ((g_ref28_Ways 8 y_4.1).bind fun y_8 =>
          (g_ref28_Ways 8 y_5.1).bind fun y_9 =>
          (g_law28_same y_8 y_9).bind fun y_10 =>
          g_law28_NeedReduces.j1 y_4 y_5 (!y_10)))))
end Go.Proofs.Ytkpcbnnlefcebaa
