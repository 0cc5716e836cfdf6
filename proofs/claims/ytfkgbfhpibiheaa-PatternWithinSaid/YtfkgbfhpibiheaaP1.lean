/- Plain functions. -/
import Derived.Test.YtfkgbfhpibiheaaPU
set_option linter.unusedVariables false
set_option linter.unusedSimpArgs false
namespace Go.Proofs.Ytfkgbfhpibiheaa
structure cipherplanmake_Dice where
  L : (List Int)
  At : Int
  deriving DecidableEq, Inhabited
structure api_Use where
  Alg : Int
  Bits : Int
  deriving DecidableEq, Inhabited
structure api_Pattern where
  Use : api_Use
  Bytes : (List UInt8)
  deriving DecidableEq, Inhabited
structure api_Hit where
  Pattern : Int
  At : Int
  deriving DecidableEq, Inhabited
structure catalog_row where
  name : ByteArray
  kind : Int
  way : Int
  sizes : (List Int)
  strengths : (List Int)
  deriving DecidableEq, Inhabited
structure pattern_state where
  next : (List Int)
  back : Int
  ends : (List Int)
  deriving DecidableEq, Inhabited
noncomputable def g_make_Light (l : (List Int)) : Option (Bool) :=
  some (decide ((l.length : Int) ≤ 400))
noncomputable def g_catalog_rows : Option ((List catalog_row)) :=
  some ([(catalog_row.mk (⟨#[]⟩ : ByteArray) 0 0 ([] : (List Int)) ([] : (List Int))), (catalog_row.mk (⟨#[109, 100, 53]⟩ : ByteArray) 1 0 ([] : (List Int)) ([18] : List Int)), (catalog_row.mk (⟨#[115, 104, 97, 49]⟩ : ByteArray) 1 0 ([] : (List Int)) ([60] : List Int)), (catalog_row.mk (⟨#[115, 104, 97, 50, 53, 54]⟩ : ByteArray) 1 0 ([] : (List Int)) ([128] : List Int)), (catalog_row.mk (⟨#[115, 104, 97, 51, 56, 52]⟩ : ByteArray) 1 0 ([] : (List Int)) ([192] : List Int)), (catalog_row.mk (⟨#[114, 115, 97]⟩ : ByteArray) 2 1 ([] : (List Int)) ([] : (List Int))), (catalog_row.mk (⟨#[100, 115, 97]⟩ : ByteArray) 2 1 ([] : (List Int)) ([] : (List Int))), (catalog_row.mk (⟨#[101, 99, 100, 115, 97]⟩ : ByteArray) 2 2 ([] : (List Int)) ([] : (List Int))), (catalog_row.mk (⟨#[101, 100, 50, 53, 53, 49, 57]⟩ : ByteArray) 2 0 ([] : (List Int)) ([128] : List Int)), (catalog_row.mk (⟨#[109, 108, 100, 115, 97]⟩ : ByteArray) 2 3 ([44, 65, 87] : List Int) ([128, 192, 256] : List Int)), (catalog_row.mk (⟨#[114, 115, 97, 107, 120]⟩ : ByteArray) 3 1 ([] : (List Int)) ([] : (List Int))), (catalog_row.mk (⟨#[100, 104, 101]⟩ : ByteArray) 3 1 ([] : (List Int)) ([] : (List Int))), (catalog_row.mk (⟨#[101, 99, 100, 104, 101]⟩ : ByteArray) 3 2 ([] : (List Int)) ([] : (List Int))), (catalog_row.mk (⟨#[109, 108, 107, 101, 109]⟩ : ByteArray) 3 3 ([512, 768, 1024] : List Int) ([128, 192, 256] : List Int)), (catalog_row.mk (⟨#[114, 99, 52]⟩ : ByteArray) 4 3 ([40, 128] : List Int) ([40, 60] : List Int)), (catalog_row.mk (⟨#[100, 101, 115, 51]⟩ : ByteArray) 4 3 ([112, 168] : List Int) ([80, 112] : List Int)), (catalog_row.mk (⟨#[97, 101, 115, 99, 98, 99]⟩ : ByteArray) 4 3 ([128, 256] : List Int) ([128, 256] : List Int)), (catalog_row.mk (⟨#[97, 101, 115, 103, 99, 109]⟩ : ByteArray) 4 3 ([128, 256] : List Int) ([128, 256] : List Int)), (catalog_row.mk (⟨#[99, 104, 97, 99, 104, 97]⟩ : ByteArray) 4 0 ([] : (List Int)) ([256] : List Int)), (catalog_row.mk (⟨#[104, 109, 97, 99, 109, 100, 53]⟩ : ByteArray) 5 0 ([] : (List Int)) ([64] : List Int)), (catalog_row.mk (⟨#[104, 109, 97, 99, 115, 104, 97, 49]⟩ : ByteArray) 5 0 ([] : (List Int)) ([80] : List Int)), (catalog_row.mk (⟨#[104, 109, 97, 99, 115, 104, 97, 50, 53, 54]⟩ : ByteArray) 5 0 ([] : (List Int)) ([128] : List Int)), (catalog_row.mk (⟨#[97, 101, 97, 100]⟩ : ByteArray) 5 0 ([] : (List Int)) ([256] : List Int))] : List catalog_row)
noncomputable def g_catalog_of.j1 (alg : Int) (x9_1 : Bool) : Option (catalog_row × Bool) :=
  cond (x9_1)
    (some ((catalog_row.mk (⟨#[]⟩ : ByteArray) 0 0 ([] : (List Int)) ([] : (List Int))), false))
    ((g_catalog_rows).bind fun y =>
    (getI (arrL 23 y) alg).bind fun e =>
    some (e, true))
noncomputable def g_catalog_of (alg : Int) : Option (catalog_row × Bool) :=
  cond (decide (alg < 1))
    (g_catalog_of.j1 alg true)
    (g_catalog_of.j1 alg (decide (22 < alg)))
noncomputable def g_catalog_modulus.l1 (bits : Int) (x11_1 : Int) : Option (Lp (Int) (Int)) :=
  cond (decide (x11_1 < 5))
    ((getI ([([1024, 56] : List Int), ([2048, 80] : List Int), ([3072, 112] : List Int), ([7680, 128] : List Int), ([15360, 192] : List Int)] : List (List Int)) x11_1).bind fun e =>
    cond (decide (bits < (e[0]!)))
      (up (some (e[1]!)))
      (some (.next (W (x11_1 + 1)))))
    (up (
      some 256))
noncomputable def g_catalog_modulus (bits : Int) : Option (Int) :=
  loop (fun q' => g_catalog_modulus.l1 bits q') 0
noncomputable def g_slices_Index_int.l1 (s : (List Int)) (v : Int) (x8_1 : Int) : Option (Lp (Int) (Int)) :=
  cond (decide (x8_1 < (s.length : Int)))
    ((getI s x8_1).bind fun e =>
    cond (decide (v = e))
      (up (some x8_1))
      (some (.next (W (x8_1 + 1)))))
    (up (
      some (-1)))
noncomputable def g_slices_Index_int (s : (List Int)) (v : Int) : Option (Int) :=
  loop (fun q' => g_slices_Index_int.l1 s v q') 0
noncomputable def g_slices_Contains_int (s : (List Int)) (v : Int) : Option (Bool) :=
  (g_slices_Index_int s v).bind fun y =>
  some (decide (0 ≤ y))
noncomputable def g_catalog_Strength.j1 (u : api_Use) (x34_1 : Bool) : Option (Int) :=
  cond (x34_1)
    ((g_catalog_modulus u.Bits).bind fun y_2 =>
    some y_2)
    (some 0)
noncomputable def g_catalog_Strength (u : api_Use) : Option (Int) :=
  (g_catalog_of u.Alg).bind fun y =>
  cond (!y.2)
    (some 0)
    (cond (decide (y.1.way = 0))
      (cond (decide (u.Bits = 0))
        ((getI y.1.strengths 0).bind fun e =>
        some e)
        (some 0))
      (cond (decide (y.1.way = 1))
        (cond (decide (512 ≤ u.Bits))
          (g_catalog_Strength.j1 u (decide (u.Bits ≤ 16384)))
          (g_catalog_Strength.j1 u false))
        (cond (decide (y.1.way = 2))
          ((g_slices_Contains_int ([160, 224, 256, 384, 521] : List Int) u.Bits).bind fun y_3 =>
          cond (y_3)
            ((quoI u.Bits 2).bind fun q =>
            some q)
            (some 0))
          (cond (decide (y.1.way = 3))
            ((g_slices_Index_int y.1.sizes u.Bits).bind fun y_4 =>
            cond (decide (0 ≤ y_4))
              ((getI y.1.strengths y_4).bind fun e_2 =>
              some e_2)
              (some 0))
            (some 0)))))
noncomputable def g_catalog_Valid (u : api_Use) : Option (Bool) :=
  (g_catalog_Strength u).bind fun y =>
  some (decide (0 < y))
noncomputable def g_pattern_Check.j2 (x7_1 : Int) (x26_2 : Bool) : Option (Lp (Int) (Int)) :=
  cond (x26_2)
    (up (some 21))
    (some (.next (W (x7_1 + 1))))
noncomputable def g_pattern_Check.l1 (p : (List api_Pattern)) (x7_1 : Int) : Option (Lp (Int) (Int)) :=
  cond (decide (x7_1 < (p.length : Int)))
    ((getI p x7_1).bind fun e =>
    cond (decide ((e.Bytes.length : Int) < 1))
      (g_pattern_Check.j2 x7_1 true)
      (cond (decide (64 < (e.Bytes.length : Int)))
        (g_pattern_Check.j2 x7_1 true)
        ((g_catalog_Valid e.Use).bind fun y =>
        g_pattern_Check.j2 x7_1 (!y))))
    (up (
      cond (decide (32 < (p.length : Int)))
        (some 21)
        (some 0)))
noncomputable def g_pattern_Check (p : (List api_Pattern)) : Option (Int) :=
  loop (fun q' => g_pattern_Check.l1 p q') 0
noncomputable def g_pattern_early (p : (List api_Pattern)) (b : (List UInt8)) : Option (Int) :=
  (g_pattern_Check p).bind fun y =>
  cond (!decide (y = 0))
    (some y)
    (cond (decide (4096 < (b.length : Int)))
      (some 3)
      (some 0))
noncomputable def g_pattern_tree_c1.l1 (x3_1 : Int) (s_1 : List Int) : Option (Lp (Int × List Int) (pattern_state)) :=
  cond (decide (x3_1 < 256))
    ((getI (arrL 256 s_1) x3_1).bind fun e =>
    some (.next (W (x3_1 + 1), setI (arrL 256 s_1) ((x3_1).toNat) (-1))))
    (up (
      some (pattern_state.mk s_1 0 ([] : (List Int)))))
noncomputable def g_pattern_tree_c1 : Option (pattern_state) :=
  loop (fun q' => g_pattern_tree_c1.l1 q'.1 q'.2) (0, (List.replicate 256 (0 : Int)))
noncomputable def g_pattern_tree.j3 (at_2 : Int) (x23_2 : Int) (e_2 : UInt8) (states_3 : List pattern_state) : Option (Lp (Int × Int × List pattern_state) (Lp (Int × List pattern_state) ((List pattern_state)))) :=
  (getI states_3 at_2).bind fun e_5 =>
  (getI (arrL 256 e_5.next) (e_2.toNat : Int)).bind fun e_6 =>
  some (.next (e_6, W (x23_2 + 1), states_3))
noncomputable def g_pattern_tree.l2 (x15_1 : Int) (e : api_Pattern) (at_2 : Int) (x23_2 : Int) (states_2 : List pattern_state) : Option (Lp (Int × Int × List pattern_state) (Lp (Int × List pattern_state) ((List pattern_state)))) :=
  cond (decide (x23_2 < (e.Bytes.length : Int)))
    ((getI e.Bytes x23_2).bind fun e_2 =>
    (getI states_2 at_2).bind fun e_3 =>
    (getI (arrL 256 e_3.next) (e_2.toNat : Int)).bind fun e_4 =>
    cond (decide (e_4 < 0))
      ((g_pattern_tree_c1).bind fun y_2 =>
      (appI 140352 (setI states_2 ((at_2).toNat) (pattern_state.mk (setI (arrL 256 e_3.next) (((e_2.toNat : Int)).toNat) (IntKind.wrap .i16 (states_2.length : Int))) e_3.back e_3.ends)) ([y_2] : List pattern_state)).bind fun l =>
      g_pattern_tree.j3 at_2 x23_2 e_2 l)
      (g_pattern_tree.j3 at_2 x23_2 e_2 states_2))
    (up (
      (getI states_2 at_2).bind fun e_7 =>
      (appI 8 e_7.ends ([x15_1] : List Int)).bind fun l_2 =>
      some (.next (W (x15_1 + 1), setI states_2 ((at_2).toNat) (pattern_state.mk e_7.next e_7.back l_2)))))
noncomputable def g_pattern_tree.l1 (p : (List api_Pattern)) (x15_1 : Int) (states_1 : List pattern_state) : Option (Lp (Int × List pattern_state) ((List pattern_state))) :=
  cond (decide (x15_1 < (p.length : Int)))
    ((getI p x15_1).bind fun e =>
    loop (fun q' => g_pattern_tree.l2 x15_1 e q'.1 q'.2.1 q'.2.2) (0, 0, states_1))
    (up (
      some states_1))
noncomputable def g_pattern_tree (p : (List api_Pattern)) : Option ((List pattern_state)) :=
  (g_pattern_tree_c1).bind fun y =>
  loop (fun q' => g_pattern_tree.l1 p q'.1 q'.2) (0, ([y] : List pattern_state))
noncomputable def g_pattern_machine.j5 (x43_3 : Int) (states_5 : List pattern_state) (queue_5 : List Int) : Option (Lp (Int × List pattern_state × List Int) (Lp (List pattern_state × List Int) ((List pattern_state)))) :=
  some (.next (W (x43_3 + 1), states_5, queue_5))
noncomputable def g_pattern_machine.j4 (e : Int) (x43_3 : Int) (states_3 : List pattern_state) (queue_3 : List Int) (e_4 : pattern_state) (e_5 : Int) (other_4 : Int) : Option (Lp (Int × List pattern_state × List Int) (Lp (List pattern_state × List Int) ((List pattern_state)))) :=
  cond (decide (e_5 < 0))
    (g_pattern_machine.j5 x43_3 (setI states_3 ((e).toNat) (pattern_state.mk (setI (arrL 256 e_4.next) ((x43_3).toNat) other_4) e_4.back e_4.ends)) queue_3)
    ((getI states_3 e_5).bind fun e_8 =>
    (appI 2 queue_3 ([e_5] : List Int)).bind fun l_3 =>
    g_pattern_machine.j5 x43_3 (setI states_3 ((e_5).toNat) (pattern_state.mk e_8.next other_4 e_8.ends)) l_3)
noncomputable def g_pattern_machine.l3 (e : Int) (e_2 : pattern_state) (x43_3 : Int) (states_3 : List pattern_state) (queue_3 : List Int) : Option (Lp (Int × List pattern_state × List Int) (Lp (List pattern_state × List Int) ((List pattern_state)))) :=
  cond (decide (x43_3 < 256))
    ((getI states_3 e).bind fun e_4 =>
    (getI (arrL 256 e_4.next) x43_3).bind fun e_5 =>
    cond (!decide (e = 0))
      ((getI states_3 e_2.back).bind fun e_6 =>
      (getI (arrL 256 e_6.next) x43_3).bind fun e_7 =>
      g_pattern_machine.j4 e x43_3 states_3 queue_3 e_4 e_5 e_7)
      (g_pattern_machine.j4 e x43_3 states_3 queue_3 e_4 e_5 0))
    (up (
      some (.next (states_3, queue_3))))
noncomputable def g_pattern_machine.j2 (e : Int) (l : List Int) (e_2 : pattern_state) (states_2 : List pattern_state) : Option (Lp (List pattern_state × List Int) ((List pattern_state))) :=
  loop (fun q' => g_pattern_machine.l3 e e_2 q'.1 q'.2.1 q'.2.2) (0, states_2, l)
noncomputable def g_pattern_machine.l1 (states_1 : List pattern_state) (queue_1 : List Int) : Option (Lp (List pattern_state × List Int) ((List pattern_state))) :=
  cond (decide (0 < (queue_1.length : Int)))
    ((getI queue_1 0).bind fun e =>
    (slI queue_1 1 (queue_1.length : Int)).bind fun l =>
    (getI states_1 e).bind fun e_2 =>
    cond (!decide (e = 0))
      ((getI states_1 e_2.back).bind fun e_3 =>
      (appI 8 e_2.ends e_3.ends).bind fun l_2 =>
      g_pattern_machine.j2 e l e_2 (setI states_1 ((e).toNat) (pattern_state.mk e_2.next e_2.back l_2)))
      (g_pattern_machine.j2 e l e_2 states_1))
    (up (
      some states_1))
noncomputable def g_pattern_machine (p : (List api_Pattern)) : Option ((List pattern_state)) :=
  (g_pattern_tree p).bind fun y =>
  loop (fun q' => g_pattern_machine.l1 q'.1 q'.2) (y, ([0] : List Int))
noncomputable def g_pattern_Find_c1 (h' : api_Hit) (c0 : (List api_Hit)) : Option (Bool × (List api_Hit)) :=
  (appI 32 c0 ([h'] : List api_Hit)).bind fun l =>
  some (decide ((l.length : Int) ≤ 1000), l)
noncomputable def g_pattern_hits_List_api_Hit.l2 (p : (List api_Pattern)) (yield : api_Hit → (List api_Hit) → Option (Bool × (List api_Hit))) (x16_1 : Int) (e_3 : Int) (e_4 : pattern_state) (x34_2 : Int) (l_2 : List api_Hit) : Option (Lp (Int × List api_Hit) (Lp (Int × Int × List api_Hit) ((List api_Hit)))) :=
  cond (decide (x34_2 < (e_4.ends.length : Int)))
    ((getI e_4.ends x34_2).bind fun e_5 =>
    (getI p e_5).bind fun e_6 =>
    (yield (api_Hit.mk e_5 (W ((W (x16_1 + 1)) - (e_6.Bytes.length : Int)))) l_2).bind fun y_2 =>
    cond (!y_2.1)
      (up (up (some y_2.2)))
      (some (.next (W (x34_2 + 1), y_2.2))))
    (up (
      some (.next (e_3, W (x16_1 + 1), l_2))))
noncomputable def g_pattern_hits_List_api_Hit.l1 (p : (List api_Pattern)) (b : (List UInt8)) (yield : api_Hit → (List api_Hit) → Option (Bool × (List api_Hit))) (y : (List pattern_state)) (at_1 : Int) (x16_1 : Int) (l_1 : List api_Hit) : Option (Lp (Int × Int × List api_Hit) ((List api_Hit))) :=
  cond (decide (x16_1 < (b.length : Int)))
    ((getI b x16_1).bind fun e =>
    (getI y at_1).bind fun e_2 =>
    (getI (arrL 256 e_2.next) (e.toNat : Int)).bind fun e_3 =>
    (getI y e_3).bind fun e_4 =>
    loop (fun q' => g_pattern_hits_List_api_Hit.l2 p yield x16_1 e_3 e_4 q'.1 q'.2) (0, l_1))
    (up (some l_1))
noncomputable def g_pattern_hits_List_api_Hit (p : (List api_Pattern)) (b : (List UInt8)) (yield : api_Hit → (List api_Hit) → Option (Bool × (List api_Hit))) (yield_b0 : (List api_Hit)) : Option ((List api_Hit)) :=
  (g_pattern_machine p).bind fun y =>
  loop (fun q' => g_pattern_hits_List_api_Hit.l1 p b yield y q'.1 q'.2.1 q'.2.2) (0, 0, yield_b0)
noncomputable def g_math_bits_Len64.j3 (x_3 : Int) (n_3 : Int) : Option (Int) :=
  (idxT (⟨#[0, 1, 2, 2, 3, 3, 3, 3, 4, 4, 4, 4, 4, 4, 4, 4, 5, 5, 5, 5, 5, 5, 5, 5, 5, 5, 5, 5, 5, 5, 5, 5, 6, 6, 6, 6, 6, 6, 6, 6, 6, 6, 6, 6, 6, 6, 6, 6, 6, 6, 6, 6, 6, 6, 6, 6, 6, 6, 6, 6, 6, 6, 6, 6, 7, 7, 7, 7, 7, 7, 7, 7, 7, 7, 7, 7, 7, 7, 7, 7, 7, 7, 7, 7, 7, 7, 7, 7, 7, 7, 7, 7, 7, 7, 7, 7, 7, 7, 7, 7, 7, 7, 7, 7, 7, 7, 7, 7, 7, 7, 7, 7, 7, 7, 7, 7, 7, 7, 7, 7, 7, 7, 7, 7, 7, 7, 7, 7, 8, 8, 8, 8, 8, 8, 8, 8, 8, 8, 8, 8, 8, 8, 8, 8, 8, 8, 8, 8, 8, 8, 8, 8, 8, 8, 8, 8, 8, 8, 8, 8, 8, 8, 8, 8, 8, 8, 8, 8, 8, 8, 8, 8, 8, 8, 8, 8, 8, 8, 8, 8, 8, 8, 8, 8, 8, 8, 8, 8, 8, 8, 8, 8, 8, 8, 8, 8, 8, 8, 8, 8, 8, 8, 8, 8, 8, 8, 8, 8, 8, 8, 8, 8, 8, 8, 8, 8, 8, 8, 8, 8, 8, 8, 8, 8, 8, 8, 8, 8, 8, 8, 8, 8, 8, 8, 8, 8, 8, 8, 8, 8, 8, 8, 8, 8, 8, 8, 8, 8, 8, 8, 8, 8, 8, 8, 8, 8]⟩ : ByteArray) ((u8 x_3).toNat : Int)).bind fun c =>
  some (W (n_3 + (c.toNat : Int)))
noncomputable def g_math_bits_Len64.j2 (x_2 : Int) (n_2 : Int) : Option (Int) :=
  cond (decide (256 ≤ x_2))
    ((shrK .u64 x_2 8).bind fun q_3 =>
    g_math_bits_Len64.j3 q_3 (W (n_2 + 8)))
    (g_math_bits_Len64.j3 x_2 n_2)
noncomputable def g_math_bits_Len64.j1 (x_1 : Int) (n_1 : Int) : Option (Int) :=
  cond (decide (65536 ≤ x_1))
    ((shrK .u64 x_1 16).bind fun q_2 =>
    g_math_bits_Len64.j2 q_2 (W (n_1 + 16)))
    (g_math_bits_Len64.j2 x_1 n_1)
noncomputable def g_math_bits_Len64 (x' : Int) : Option (Int) :=
  cond (decide (4294967296 ≤ x'))
    ((shrK .u64 x' 32).bind fun q =>
    g_math_bits_Len64.j1 q 32)
    (g_math_bits_Len64.j1 x' 0)
noncomputable def g_math_bits_Len (x' : Int) : Option (Int) :=
  (g_math_bits_Len64 x').bind fun y =>
  some y
noncomputable def g_cmp_isNaN_int (x' : Int) : Option (Bool) :=
  some (!decide (x' = x'))
noncomputable def g_cmp_Compare_int (x' : Int) (y : Int) : Option (Int) :=
  (g_cmp_isNaN_int x').bind fun y_2 =>
  (g_cmp_isNaN_int y).bind fun y_3 =>
  cond (y_2)
    (cond (y_3)
      (some 0)
      (some (-1)))
    (cond (y_3)
      (some 1)
      (cond (decide (x' < y))
        (some (-1))
        (cond (decide (y < x'))
          (some 1)
          (some 0))))
noncomputable def g_cmp_Or_int.l1 (vals : (List Int)) (x8_1 : Int) : Option (Lp (Int) (Int)) :=
  cond (decide (x8_1 < (vals.length : Int)))
    ((getI vals x8_1).bind fun e =>
    cond (!decide (e = 0))
      (up (some e))
      (some (.next (W (x8_1 + 1)))))
    (up (
      some 0))
noncomputable def g_cmp_Or_int (vals : (List Int)) : Option (Int) :=
  loop (fun q' => g_cmp_Or_int.l1 vals q') 0
noncomputable def g_pattern_Find_c2 (a : api_Hit) (b : api_Hit) : Option (Int) :=
  (g_cmp_Compare_int a.At b.At).bind fun y =>
  (g_cmp_Compare_int a.Pattern b.Pattern).bind fun y_2 =>
  (g_cmp_Or_int ([y, y_2] : List Int)).bind fun y_3 =>
  some y_3
noncomputable def g_slices_insertionSortCmpFunc_api_Hit.j3 (i_1 : Int) (j_2 : Int) (data_2 : List api_Hit) (x34_3 : Bool) : Option (Lp (Int × List api_Hit) (Lp (Int × List api_Hit) ((List api_Hit)))) :=
  cond (x34_3)
    ((getI data_2 (W (j_2 - 1))).bind fun e_3 =>
    (getI data_2 j_2).bind fun e_4 =>
    (getI (setI data_2 ((j_2).toNat) e_3) (W (j_2 - 1))).bind fun e_5 =>
    some (.next (W (j_2 - 1), setI (setI data_2 ((j_2).toNat) e_3) ((W (j_2 - 1)).toNat) e_4)))
    (up (
      some (.next (W (i_1 + 1), data_2))))
noncomputable def g_slices_insertionSortCmpFunc_api_Hit.l2 (a : Int) (cmp : api_Hit → api_Hit → Option (Int)) (i_1 : Int) (j_2 : Int) (data_2 : List api_Hit) : Option (Lp (Int × List api_Hit) (Lp (Int × List api_Hit) ((List api_Hit)))) :=
  cond (decide (a < j_2))
    ((getI data_2 j_2).bind fun e =>
    (getI data_2 (W (j_2 - 1))).bind fun e_2 =>
    (cmp e e_2).bind fun y =>
    g_slices_insertionSortCmpFunc_api_Hit.j3 i_1 j_2 data_2 (decide (y < 0)))
    (g_slices_insertionSortCmpFunc_api_Hit.j3 i_1 j_2 data_2 false)
noncomputable def g_slices_insertionSortCmpFunc_api_Hit.l1 (a : Int) (b : Int) (cmp : api_Hit → api_Hit → Option (Int)) (i_1 : Int) (data_1 : List api_Hit) : Option (Lp (Int × List api_Hit) ((List api_Hit))) :=
  cond (decide (i_1 < b))
    (loop (fun q' => g_slices_insertionSortCmpFunc_api_Hit.l2 a cmp i_1 q'.1 q'.2) (i_1, data_1))
    (up (some data_1))
noncomputable def g_slices_insertionSortCmpFunc_api_Hit (data : List api_Hit) (a : Int) (b : Int) (cmp : api_Hit → api_Hit → Option (Int)) : Option ((List api_Hit)) :=
  loop (fun q' => g_slices_insertionSortCmpFunc_api_Hit.l1 a b cmp q'.1 q'.2) (W (a + 1), data)
noncomputable def g_slices_siftDownCmpFunc_api_Hit.j3 (first : Int) (cmp : api_Hit → api_Hit → Option (Int)) (root_1 : Int) (data_1 : List api_Hit) (child_3 : Int) : Option (Lp (Int × List api_Hit) ((List api_Hit))) :=
  (getI data_1 (W (first + root_1))).bind fun e_3 =>
  (getI data_1 (W (first + child_3))).bind fun e_4 =>
  (cmp e_3 e_4).bind fun y_2 =>
  cond (!(decide (y_2 < 0)))
    (up (some data_1))
    ((getI (setI data_1 ((W (first + root_1)).toNat) e_4) (W (first + child_3))).bind fun e_5 =>
    some (.next (child_3, setI (setI data_1 ((W (first + root_1)).toNat) e_4) ((W (first + child_3)).toNat) e_3)))
noncomputable def g_slices_siftDownCmpFunc_api_Hit.j2 (first : Int) (cmp : api_Hit → api_Hit → Option (Int)) (root_1 : Int) (data_1 : List api_Hit) (x40_2 : Bool) : Option (Lp (Int × List api_Hit) ((List api_Hit))) :=
  cond (x40_2)
    (g_slices_siftDownCmpFunc_api_Hit.j3 first cmp root_1 data_1 (W ((W ((W (2 * root_1)) + 1)) + 1)))
    (g_slices_siftDownCmpFunc_api_Hit.j3 first cmp root_1 data_1 (W ((W (2 * root_1)) + 1)))
noncomputable def g_slices_siftDownCmpFunc_api_Hit.l1 (hi : Int) (first : Int) (cmp : api_Hit → api_Hit → Option (Int)) (root_1 : Int) (data_1 : List api_Hit) : Option (Lp (Int × List api_Hit) ((List api_Hit))) :=
  cond (decide (hi ≤ (W ((W (2 * root_1)) + 1))))
    (up (some data_1))
    (cond (decide ((W ((W ((W (2 * root_1)) + 1)) + 1)) < hi))
      ((getI data_1 (W (first + (W ((W (2 * root_1)) + 1))))).bind fun e =>
      (getI data_1 (W ((W (first + (W ((W (2 * root_1)) + 1)))) + 1))).bind fun e_2 =>
      (cmp e e_2).bind fun y =>
      g_slices_siftDownCmpFunc_api_Hit.j2 first cmp root_1 data_1 (decide (y < 0)))
      (g_slices_siftDownCmpFunc_api_Hit.j2 first cmp root_1 data_1 false))
noncomputable def g_slices_siftDownCmpFunc_api_Hit (data : List api_Hit) (lo : Int) (hi : Int) (first : Int) (cmp : api_Hit → api_Hit → Option (Int)) : Option ((List api_Hit)) :=
  loop (fun q' => g_slices_siftDownCmpFunc_api_Hit.l1 hi first cmp q'.1 q'.2) (lo, data)
noncomputable def g_slices_heapSortCmpFunc_api_Hit.l2 (a : Int) (cmp : api_Hit → api_Hit → Option (Int)) (i_2 : Int) (data_2 : List api_Hit) : Option (Lp (Int × List api_Hit) ((List api_Hit))) :=
  cond (decide (0 ≤ i_2))
    ((getI data_2 (W (a + i_2))).bind fun e =>
    (getI data_2 a).bind fun e_2 =>
    (getI (setI data_2 ((a).toNat) e) (W (a + i_2))).bind fun e_3 =>
    (g_slices_siftDownCmpFunc_api_Hit (setI (setI data_2 ((a).toNat) e) ((W (a + i_2)).toNat) e_2) 0 i_2 a cmp).bind fun y_2 =>
    some (.next (W (i_2 - 1), y_2)))
    (up (some data_2))
noncomputable def g_slices_heapSortCmpFunc_api_Hit.l1 (a : Int) (b : Int) (cmp : api_Hit → api_Hit → Option (Int)) (i_1 : Int) (data_1 : List api_Hit) : Option (Lp (Int × List api_Hit) ((List api_Hit))) :=
  cond (decide (0 ≤ i_1))
    ((g_slices_siftDownCmpFunc_api_Hit data_1 i_1 (W (b - a)) a cmp).bind fun y =>
    some (.next (W (i_1 - 1), y)))
    (up (
      loop (fun q' => g_slices_heapSortCmpFunc_api_Hit.l2 a cmp q'.1 q'.2) (W ((W (b - a)) - 1), data_1)))
noncomputable def g_slices_heapSortCmpFunc_api_Hit (data : List api_Hit) (a : Int) (b : Int) (cmp : api_Hit → api_Hit → Option (Int)) : Option ((List api_Hit)) :=
  (quoI (W ((W (b - a)) - 1)) 2).bind fun q =>
  loop (fun q' => g_slices_heapSortCmpFunc_api_Hit.l1 a b cmp q'.1 q'.2) (q, data)
noncomputable def g_slices_nextPowerOfTwo (length : Int) : Option (Int) :=
  (g_math_bits_Len (IntKind.wrap .u64 length)).bind fun y =>
  (shlK .u64 1 y).bind fun q =>
  some q
noncomputable def g_slices_xorshift_Next (r' : Int) : Option (Int × Int) :=
  (shlK .u64 r' 13).bind fun q =>
  (shrK .u64 (xorK .u64 r' q) 7).bind fun q_2 =>
  (shlK .u64 (xorK .u64 (xorK .u64 r' q) q_2) 17).bind fun q_3 =>
  some (xorK .u64 (xorK .u64 (xorK .u64 r' q) q_2) q_3, xorK .u64 (xorK .u64 (xorK .u64 r' q) q_2) q_3)
noncomputable def g_slices_breakPatternsCmpFunc_api_Hit.j2 (a : Int) (idx_1 : Int) (data_1 : List api_Hit) (y_2 : Int × Int) (other_2 : Int) : Option (Lp (Int × List api_Hit × Int) ((List api_Hit))) :=
  (getI data_1 (W (a + other_2))).bind fun e =>
  (getI data_1 idx_1).bind fun e_2 =>
  (getI (setI data_1 ((idx_1).toNat) e) (W (a + other_2))).bind fun e_3 =>
  some (.next (W (idx_1 + 1), setI (setI data_1 ((idx_1).toNat) e) ((W (a + other_2)).toNat) e_2, y_2.2))
noncomputable def g_slices_breakPatternsCmpFunc_api_Hit.l1 (a : Int) (b : Int) (y : Int) (idx_1 : Int) (data_1 : List api_Hit) (random_1 : Int) : Option (Lp (Int × List api_Hit × Int) ((List api_Hit))) :=
  (quoI (W (b - a)) 4).bind fun q_2 =>
  cond (decide (idx_1 ≤ (W ((W (a + (W (q_2 * 2)))) + 1))))
    ((g_slices_xorshift_Next random_1).bind fun y_2 =>
    cond (decide ((W (b - a)) ≤ (W (andK .u64 y_2.1 (IntKind.wrap .u64 (y - 1))))))
      (g_slices_breakPatternsCmpFunc_api_Hit.j2 a idx_1 data_1 y_2 (W ((W (andK .u64 y_2.1 (IntKind.wrap .u64 (y - 1)))) - (W (b - a)))))
      (g_slices_breakPatternsCmpFunc_api_Hit.j2 a idx_1 data_1 y_2 (W (andK .u64 y_2.1 (IntKind.wrap .u64 (y - 1))))))
    (up (some data_1))
noncomputable def g_slices_breakPatternsCmpFunc_api_Hit (data : List api_Hit) (a : Int) (b : Int) (cmp : api_Hit → api_Hit → Option (Int)) : Option ((List api_Hit)) :=
  cond (decide (8 ≤ (W (b - a))))
    ((g_slices_nextPowerOfTwo (W (b - a))).bind fun y =>
    (quoI (W (b - a)) 4).bind fun q =>
    loop (fun q' => g_slices_breakPatternsCmpFunc_api_Hit.l1 a b y q'.1 q'.2.1 q'.2.2) (W ((W (a + (W (q * 2)))) - 1), data, IntKind.wrap .u64 (W (b - a))))
    (some data)
noncomputable def g_slices_order2CmpFunc_api_Hit (data : (List api_Hit)) (a : Int) (b : Int) (swaps : Int) (cmp : api_Hit → api_Hit → Option (Int)) : Option (Int × Int × Int) :=
  (getI data b).bind fun e =>
  (getI data a).bind fun e_2 =>
  (cmp e e_2).bind fun y =>
  cond (decide (y < 0))
    (some (b, a, W (swaps + 1)))
    (some (a, b, swaps))
noncomputable def g_slices_medianCmpFunc_api_Hit (data : (List api_Hit)) (a : Int) (b : Int) (c : Int) (swaps : Int) (cmp : api_Hit → api_Hit → Option (Int)) : Option (Int × Int) :=
  (g_slices_order2CmpFunc_api_Hit data a b swaps cmp).bind fun y =>
  (g_slices_order2CmpFunc_api_Hit data y.2.1 c y.2.2 cmp).bind fun y_2 =>
  (g_slices_order2CmpFunc_api_Hit data y.1 y_2.1 y_2.2.2 cmp).bind fun y_3 =>
  some (y_3.2.1, y_3.2.2)
noncomputable def g_slices_medianAdjacentCmpFunc_api_Hit (data : (List api_Hit)) (a : Int) (swaps : Int) (cmp : api_Hit → api_Hit → Option (Int)) : Option (Int × Int) :=
  (g_slices_medianCmpFunc_api_Hit data (W (a - 1)) a (W (a + 1)) swaps cmp).bind fun y =>
  some (y.1, y.2)
noncomputable def g_slices_choosePivotCmpFunc_api_Hit.j2 (j_2 : Int) (swaps_2 : Int) : Option (Int × Int) :=
  cond (decide (swaps_2 = 0))
    (some (j_2, 1))
    (cond (decide (swaps_2 = 12))
      (some (j_2, 2))
      (some (j_2, 0)))
noncomputable def g_slices_choosePivotCmpFunc_api_Hit.j1 (data : (List api_Hit)) (cmp : api_Hit → api_Hit → Option (Int)) (i_1 : Int) (j_1 : Int) (k_1 : Int) (swaps_1 : Int) : Option (Int × Int) :=
  (g_slices_medianCmpFunc_api_Hit data i_1 j_1 k_1 swaps_1 cmp).bind fun y_4 =>
  g_slices_choosePivotCmpFunc_api_Hit.j2 y_4.1 y_4.2
noncomputable def g_slices_choosePivotCmpFunc_api_Hit (data : (List api_Hit)) (a : Int) (b : Int) (cmp : api_Hit → api_Hit → Option (Int)) : Option (Int × Int) :=
  (quoI (W (b - a)) 4).bind fun q =>
  (quoI (W (b - a)) 4).bind fun q_2 =>
  (quoI (W (b - a)) 4).bind fun q_3 =>
  cond (decide (8 ≤ (W (b - a))))
    (cond (decide (50 ≤ (W (b - a))))
      ((g_slices_medianAdjacentCmpFunc_api_Hit data (W (a + (W (q * 1)))) 0 cmp).bind fun y =>
      (g_slices_medianAdjacentCmpFunc_api_Hit data (W (a + (W (q_2 * 2)))) y.2 cmp).bind fun y_2 =>
      (g_slices_medianAdjacentCmpFunc_api_Hit data (W (a + (W (q_3 * 3)))) y_2.2 cmp).bind fun y_3 =>
      g_slices_choosePivotCmpFunc_api_Hit.j1 data cmp y.1 y_2.1 y_3.1 y_3.2)
      (g_slices_choosePivotCmpFunc_api_Hit.j1 data cmp (W (a + (W (q * 1)))) (W (a + (W (q_2 * 2)))) (W (a + (W (q_3 * 3)))) 0))
    (g_slices_choosePivotCmpFunc_api_Hit.j2 (W (a + (W (q_2 * 2)))) 0)
noncomputable def g_slices_reverseRangeCmpFunc_api_Hit.l1 (i_1 : Int) (j_1 : Int) (data_1 : List api_Hit) : Option (Lp (Int × Int × List api_Hit) ((List api_Hit))) :=
  cond (decide (i_1 < j_1))
    ((getI data_1 j_1).bind fun e =>
    (getI data_1 i_1).bind fun e_2 =>
    (getI (setI data_1 ((i_1).toNat) e) j_1).bind fun e_3 =>
    some (.next (W (i_1 + 1), W (j_1 - 1), setI (setI data_1 ((i_1).toNat) e) ((j_1).toNat) e_2)))
    (up (some data_1))
noncomputable def g_slices_reverseRangeCmpFunc_api_Hit (data : List api_Hit) (a : Int) (b : Int) (cmp : api_Hit → api_Hit → Option (Int)) : Option ((List api_Hit)) :=
  loop (fun q' => g_slices_reverseRangeCmpFunc_api_Hit.l1 q'.1 q'.2.1 q'.2.2) (a, W (b - 1), data)
noncomputable def g_slices_partialInsertionSortCmpFunc_api_Hit.j7 (j_1 : Int) (i_7 : Int) (data_7 : List api_Hit) : Option (Lp (Int × Int × List api_Hit) (Bool × (List api_Hit))) :=
  some (.next (i_7, W (j_1 + 1), data_7))
noncomputable def g_slices_partialInsertionSortCmpFunc_api_Hit.l6 (b : Int) (cmp : api_Hit → api_Hit → Option (Int)) (j_1 : Int) (i_2 : Int) (j_6 : Int) (data_6 : List api_Hit) : Option (Lp (Int × List api_Hit) (Lp (Int × Int × List api_Hit) (Bool × (List api_Hit)))) :=
  cond (decide (j_6 < b))
    ((getI data_6 j_6).bind fun e_9 =>
    (getI data_6 (W (j_6 - 1))).bind fun e_10 =>
    (cmp e_9 e_10).bind fun y_3 =>
    cond (!(decide (y_3 < 0)))
      (up (
        g_slices_partialInsertionSortCmpFunc_api_Hit.j7 j_1 i_2 data_6))
      ((getI (setI data_6 ((j_6).toNat) e_10) (W (j_6 - 1))).bind fun e_11 =>
      some (.next (W (j_6 + 1), setI (setI data_6 ((j_6).toNat) e_10) ((W (j_6 - 1)).toNat) e_9))))
    (up (
      g_slices_partialInsertionSortCmpFunc_api_Hit.j7 j_1 i_2 data_6))
noncomputable def g_slices_partialInsertionSortCmpFunc_api_Hit.j5 (b : Int) (cmp : api_Hit → api_Hit → Option (Int)) (j_1 : Int) (i_2 : Int) (data_5 : List api_Hit) : Option (Lp (Int × Int × List api_Hit) (Bool × (List api_Hit))) :=
  cond (decide (2 ≤ (W (b - i_2))))
    (loop (fun q' => g_slices_partialInsertionSortCmpFunc_api_Hit.l6 b cmp j_1 i_2 q'.1 q'.2) (W (i_2 + 1), data_5))
    (g_slices_partialInsertionSortCmpFunc_api_Hit.j7 j_1 i_2 data_5)
noncomputable def g_slices_partialInsertionSortCmpFunc_api_Hit.l4 (b : Int) (cmp : api_Hit → api_Hit → Option (Int)) (j_1 : Int) (i_2 : Int) (j_4 : Int) (data_4 : List api_Hit) : Option (Lp (Int × List api_Hit) (Lp (Int × Int × List api_Hit) (Bool × (List api_Hit)))) :=
  cond (decide (1 ≤ j_4))
    ((getI data_4 j_4).bind fun e_6 =>
    (getI data_4 (W (j_4 - 1))).bind fun e_7 =>
    (cmp e_6 e_7).bind fun y_2 =>
    cond (!(decide (y_2 < 0)))
      (up (
        g_slices_partialInsertionSortCmpFunc_api_Hit.j5 b cmp j_1 i_2 data_4))
      ((getI (setI data_4 ((j_4).toNat) e_7) (W (j_4 - 1))).bind fun e_8 =>
      some (.next (W (j_4 - 1), setI (setI data_4 ((j_4).toNat) e_7) ((W (j_4 - 1)).toNat) e_6))))
    (up (
      g_slices_partialInsertionSortCmpFunc_api_Hit.j5 b cmp j_1 i_2 data_4))
noncomputable def g_slices_partialInsertionSortCmpFunc_api_Hit.j3 (a : Int) (b : Int) (cmp : api_Hit → api_Hit → Option (Int)) (j_1 : Int) (data_1 : List api_Hit) (i_2 : Int) (x36_3 : Bool) : Option (Lp (Int) (Lp (Int × Int × List api_Hit) (Bool × (List api_Hit)))) :=
  cond (x36_3)
    (some (.next (W (i_2 + 1))))
    (up (
      cond (decide (i_2 = b))
        (up (some (true, data_1)))
        (cond (decide ((W (b - a)) < 50))
          (up (some (false, data_1)))
          ((getI data_1 (W (i_2 - 1))).bind fun e_3 =>
          (getI data_1 i_2).bind fun e_4 =>
          (getI (setI data_1 ((i_2).toNat) e_3) (W (i_2 - 1))).bind fun e_5 =>
          cond (decide (2 ≤ (W (i_2 - a))))
            (loop (fun q' => g_slices_partialInsertionSortCmpFunc_api_Hit.l4 b cmp j_1 i_2 q'.1 q'.2) (W (i_2 - 1), setI (setI data_1 ((i_2).toNat) e_3) ((W (i_2 - 1)).toNat) e_4))
            (g_slices_partialInsertionSortCmpFunc_api_Hit.j5 b cmp j_1 i_2 (setI (setI data_1 ((i_2).toNat) e_3) ((W (i_2 - 1)).toNat) e_4))))))
noncomputable def g_slices_partialInsertionSortCmpFunc_api_Hit.l2 (a : Int) (b : Int) (cmp : api_Hit → api_Hit → Option (Int)) (j_1 : Int) (data_1 : List api_Hit) (i_2 : Int) : Option (Lp (Int) (Lp (Int × Int × List api_Hit) (Bool × (List api_Hit)))) :=
  cond (decide (i_2 < b))
    ((getI data_1 i_2).bind fun e =>
    (getI data_1 (W (i_2 - 1))).bind fun e_2 =>
    (cmp e e_2).bind fun y =>
    g_slices_partialInsertionSortCmpFunc_api_Hit.j3 a b cmp j_1 data_1 i_2 (!(decide (y < 0))))
    (g_slices_partialInsertionSortCmpFunc_api_Hit.j3 a b cmp j_1 data_1 i_2 false)
noncomputable def g_slices_partialInsertionSortCmpFunc_api_Hit.l1 (a : Int) (b : Int) (cmp : api_Hit → api_Hit → Option (Int)) (i_1 : Int) (j_1 : Int) (data_1 : List api_Hit) : Option (Lp (Int × Int × List api_Hit) (Bool × (List api_Hit))) :=
  cond (decide (j_1 < 5))
    (loop (fun q' => g_slices_partialInsertionSortCmpFunc_api_Hit.l2 a b cmp j_1 data_1 q') i_1)
    (up (
      some (false, data_1)))
noncomputable def g_slices_partialInsertionSortCmpFunc_api_Hit (data : List api_Hit) (a : Int) (b : Int) (cmp : api_Hit → api_Hit → Option (Int)) : Option (Bool × (List api_Hit)) :=
  loop (fun q' => g_slices_partialInsertionSortCmpFunc_api_Hit.l1 a b cmp q'.1 q'.2.1 q'.2.2) (W (a + 1), 0, data)
noncomputable def g_slices_partitionEqualCmpFunc_api_Hit.j5 (data_1 : List api_Hit) (i_2 : Int) (j_4 : Int) (x65_5 : Bool) : Option (Lp (Int) (Lp (Int × Int × List api_Hit) (Int × (List api_Hit)))) :=
  cond (x65_5)
    (some (.next (W (j_4 - 1))))
    (up (
      cond (decide (j_4 < i_2))
        (up (
          some (i_2, data_1)))
        ((getI data_1 j_4).bind fun e_8 =>
        (getI data_1 i_2).bind fun e_9 =>
        (getI (setI data_1 ((i_2).toNat) e_8) j_4).bind fun e_10 =>
        some (.next (W (i_2 + 1), W (j_4 - 1), setI (setI data_1 ((i_2).toNat) e_8) ((j_4).toNat) e_9)))))
noncomputable def g_slices_partitionEqualCmpFunc_api_Hit.l4 (a : Int) (cmp : api_Hit → api_Hit → Option (Int)) (data_1 : List api_Hit) (i_2 : Int) (j_4 : Int) : Option (Lp (Int) (Lp (Int × Int × List api_Hit) (Int × (List api_Hit)))) :=
  cond (decide (i_2 ≤ j_4))
    ((getI data_1 a).bind fun e_6 =>
    (getI data_1 j_4).bind fun e_7 =>
    (cmp e_6 e_7).bind fun y_2 =>
    g_slices_partitionEqualCmpFunc_api_Hit.j5 data_1 i_2 j_4 (decide (y_2 < 0)))
    (g_slices_partitionEqualCmpFunc_api_Hit.j5 data_1 i_2 j_4 false)
noncomputable def g_slices_partitionEqualCmpFunc_api_Hit.j3 (a : Int) (cmp : api_Hit → api_Hit → Option (Int)) (j_1 : Int) (data_1 : List api_Hit) (i_2 : Int) (x47_3 : Bool) : Option (Lp (Int) (Lp (Int × Int × List api_Hit) (Int × (List api_Hit)))) :=
  cond (x47_3)
    (some (.next (W (i_2 + 1))))
    (up (
      loop (fun q' => g_slices_partitionEqualCmpFunc_api_Hit.l4 a cmp data_1 i_2 q') j_1))
noncomputable def g_slices_partitionEqualCmpFunc_api_Hit.l2 (a : Int) (cmp : api_Hit → api_Hit → Option (Int)) (j_1 : Int) (data_1 : List api_Hit) (i_2 : Int) : Option (Lp (Int) (Lp (Int × Int × List api_Hit) (Int × (List api_Hit)))) :=
  cond (decide (i_2 ≤ j_1))
    ((getI data_1 a).bind fun e_4 =>
    (getI data_1 i_2).bind fun e_5 =>
    (cmp e_4 e_5).bind fun y =>
    g_slices_partitionEqualCmpFunc_api_Hit.j3 a cmp j_1 data_1 i_2 (!(decide (y < 0))))
    (g_slices_partitionEqualCmpFunc_api_Hit.j3 a cmp j_1 data_1 i_2 false)
noncomputable def g_slices_partitionEqualCmpFunc_api_Hit.l1 (a : Int) (cmp : api_Hit → api_Hit → Option (Int)) (i_1 : Int) (j_1 : Int) (data_1 : List api_Hit) : Option (Lp (Int × Int × List api_Hit) (Int × (List api_Hit))) :=
  loop (fun q' => g_slices_partitionEqualCmpFunc_api_Hit.l2 a cmp j_1 data_1 q') i_1
noncomputable def g_slices_partitionEqualCmpFunc_api_Hit (data : List api_Hit) (a : Int) (b : Int) (pivot : Int) (cmp : api_Hit → api_Hit → Option (Int)) : Option (Int × (List api_Hit)) :=
  (getI data pivot).bind fun e =>
  (getI data a).bind fun e_2 =>
  (getI (setI data ((a).toNat) e) pivot).bind fun e_3 =>
  loop (fun q' => g_slices_partitionEqualCmpFunc_api_Hit.l1 a cmp q'.1 q'.2.1 q'.2.2) (W (a + 1), W (b - 1), setI (setI data ((a).toNat) e) ((pivot).toNat) e_2)
noncomputable def g_slices_partitionCmpFunc_api_Hit.j9 (a : Int) (data_5 : List api_Hit) (i_6 : Int) (j_8 : Int) (x139_9 : Bool) : Option (Lp (Int) (Lp (Int × Int × List api_Hit) (Int × Bool × (List api_Hit)))) :=
  cond (x139_9)
    (some (.next (W (j_8 - 1))))
    (up (
      cond (decide (j_8 < i_6))
        (up (
          (getI data_5 a).bind fun e_21 =>
          (getI data_5 j_8).bind fun e_22 =>
          (getI (setI data_5 ((j_8).toNat) e_21) a).bind fun e_23 =>
          some (j_8, false, setI (setI data_5 ((j_8).toNat) e_21) ((a).toNat) e_22)))
        ((getI data_5 j_8).bind fun e_18 =>
        (getI data_5 i_6).bind fun e_19 =>
        (getI (setI data_5 ((i_6).toNat) e_18) j_8).bind fun e_20 =>
        some (.next (W (i_6 + 1), W (j_8 - 1), setI (setI data_5 ((i_6).toNat) e_18) ((j_8).toNat) e_19)))))
noncomputable def g_slices_partitionCmpFunc_api_Hit.l8 (a : Int) (cmp : api_Hit → api_Hit → Option (Int)) (data_5 : List api_Hit) (i_6 : Int) (j_8 : Int) : Option (Lp (Int) (Lp (Int × Int × List api_Hit) (Int × Bool × (List api_Hit)))) :=
  cond (decide (i_6 ≤ j_8))
    ((getI data_5 j_8).bind fun e_16 =>
    (getI data_5 a).bind fun e_17 =>
    (cmp e_16 e_17).bind fun y_4 =>
    g_slices_partitionCmpFunc_api_Hit.j9 a data_5 i_6 j_8 (!(decide (y_4 < 0))))
    (g_slices_partitionCmpFunc_api_Hit.j9 a data_5 i_6 j_8 false)
noncomputable def g_slices_partitionCmpFunc_api_Hit.j7 (a : Int) (cmp : api_Hit → api_Hit → Option (Int)) (j_5 : Int) (data_5 : List api_Hit) (i_6 : Int) (x120_7 : Bool) : Option (Lp (Int) (Lp (Int × Int × List api_Hit) (Int × Bool × (List api_Hit)))) :=
  cond (x120_7)
    (some (.next (W (i_6 + 1))))
    (up (
      loop (fun q' => g_slices_partitionCmpFunc_api_Hit.l8 a cmp data_5 i_6 q') j_5))
noncomputable def g_slices_partitionCmpFunc_api_Hit.l6 (a : Int) (cmp : api_Hit → api_Hit → Option (Int)) (j_5 : Int) (data_5 : List api_Hit) (i_6 : Int) : Option (Lp (Int) (Lp (Int × Int × List api_Hit) (Int × Bool × (List api_Hit)))) :=
  cond (decide (i_6 ≤ j_5))
    ((getI data_5 i_6).bind fun e_14 =>
    (getI data_5 a).bind fun e_15 =>
    (cmp e_14 e_15).bind fun y_3 =>
    g_slices_partitionCmpFunc_api_Hit.j7 a cmp j_5 data_5 i_6 (decide (y_3 < 0)))
    (g_slices_partitionCmpFunc_api_Hit.j7 a cmp j_5 data_5 i_6 false)
noncomputable def g_slices_partitionCmpFunc_api_Hit.l5 (a : Int) (cmp : api_Hit → api_Hit → Option (Int)) (i_5 : Int) (j_5 : Int) (data_5 : List api_Hit) : Option (Lp (Int × Int × List api_Hit) (Int × Bool × (List api_Hit))) :=
  loop (fun q' => g_slices_partitionCmpFunc_api_Hit.l6 a cmp j_5 data_5 q') i_5
noncomputable def g_slices_partitionCmpFunc_api_Hit.j4 (data : List api_Hit) (a : Int) (pivot : Int) (cmp : api_Hit → api_Hit → Option (Int)) (e : api_Hit) (e_2 : api_Hit) (i_1 : Int) (j_3 : Int) (x66_4 : Bool) : Option (Lp (Int) (Int × Bool × (List api_Hit))) :=
  cond (x66_4)
    (some (.next (W (j_3 - 1))))
    (up (
      cond (decide (j_3 < i_1))
        ((getI (setI (setI data ((a).toNat) e) ((pivot).toNat) e_2) a).bind fun e_8 =>
        (getI (setI (setI data ((a).toNat) e) ((pivot).toNat) e_2) j_3).bind fun e_9 =>
        (getI (setI (setI (setI data ((a).toNat) e) ((pivot).toNat) e_2) ((j_3).toNat) e_8) a).bind fun e_10 =>
        some (j_3, true, setI (setI (setI (setI data ((a).toNat) e) ((pivot).toNat) e_2) ((j_3).toNat) e_8) ((a).toNat) e_9))
        ((getI (setI (setI data ((a).toNat) e) ((pivot).toNat) e_2) j_3).bind fun e_11 =>
        (getI (setI (setI data ((a).toNat) e) ((pivot).toNat) e_2) i_1).bind fun e_12 =>
        (getI (setI (setI (setI data ((a).toNat) e) ((pivot).toNat) e_2) ((i_1).toNat) e_11) j_3).bind fun e_13 =>
        loop (fun q' => g_slices_partitionCmpFunc_api_Hit.l5 a cmp q'.1 q'.2.1 q'.2.2) (W (i_1 + 1), W (j_3 - 1), setI (setI (setI (setI data ((a).toNat) e) ((pivot).toNat) e_2) ((i_1).toNat) e_11) ((j_3).toNat) e_12))))
noncomputable def g_slices_partitionCmpFunc_api_Hit.l3 (data : List api_Hit) (a : Int) (pivot : Int) (cmp : api_Hit → api_Hit → Option (Int)) (e : api_Hit) (e_2 : api_Hit) (i_1 : Int) (j_3 : Int) : Option (Lp (Int) (Int × Bool × (List api_Hit))) :=
  cond (decide (i_1 ≤ j_3))
    ((getI (setI (setI data ((a).toNat) e) ((pivot).toNat) e_2) j_3).bind fun e_6 =>
    (getI (setI (setI data ((a).toNat) e) ((pivot).toNat) e_2) a).bind fun e_7 =>
    (cmp e_6 e_7).bind fun y_2 =>
    g_slices_partitionCmpFunc_api_Hit.j4 data a pivot cmp e e_2 i_1 j_3 (!(decide (y_2 < 0))))
    (g_slices_partitionCmpFunc_api_Hit.j4 data a pivot cmp e e_2 i_1 j_3 false)
noncomputable def g_slices_partitionCmpFunc_api_Hit.j2 (data : List api_Hit) (a : Int) (b : Int) (pivot : Int) (cmp : api_Hit → api_Hit → Option (Int)) (e : api_Hit) (e_2 : api_Hit) (i_1 : Int) (x47_2 : Bool) : Option (Lp (Int) (Int × Bool × (List api_Hit))) :=
  cond (x47_2)
    (some (.next (W (i_1 + 1))))
    (up (
      loop (fun q' => g_slices_partitionCmpFunc_api_Hit.l3 data a pivot cmp e e_2 i_1 q') (W (b - 1))))
noncomputable def g_slices_partitionCmpFunc_api_Hit.l1 (data : List api_Hit) (a : Int) (b : Int) (pivot : Int) (cmp : api_Hit → api_Hit → Option (Int)) (e : api_Hit) (e_2 : api_Hit) (i_1 : Int) : Option (Lp (Int) (Int × Bool × (List api_Hit))) :=
  cond (decide (i_1 ≤ (W (b - 1))))
    ((getI (setI (setI data ((a).toNat) e) ((pivot).toNat) e_2) i_1).bind fun e_4 =>
    (getI (setI (setI data ((a).toNat) e) ((pivot).toNat) e_2) a).bind fun e_5 =>
    (cmp e_4 e_5).bind fun y =>
    g_slices_partitionCmpFunc_api_Hit.j2 data a b pivot cmp e e_2 i_1 (decide (y < 0)))
    (g_slices_partitionCmpFunc_api_Hit.j2 data a b pivot cmp e e_2 i_1 false)
noncomputable def g_slices_partitionCmpFunc_api_Hit (data : List api_Hit) (a : Int) (b : Int) (pivot : Int) (cmp : api_Hit → api_Hit → Option (Int)) : Option (Int × Bool × (List api_Hit)) :=
  (getI data pivot).bind fun e =>
  (getI data a).bind fun e_2 =>
  (getI (setI data ((a).toNat) e) pivot).bind fun e_3 =>
  loop (fun q' => g_slices_partitionCmpFunc_api_Hit.l1 data a b pivot cmp e e_2 q') (W (a + 1))
noncomputable def g_slices_pdqsortCmpFunc_api_Hit.j6 (rec : (List api_Hit) → Int → Int → Int → Option ((List api_Hit))) (cmp : api_Hit → api_Hit → Option (Int)) (a_1 : Int) (b_1 : Int) (wasBalanced_1 : Bool) (wasPartitioned_1 : Bool) (limit_2 : Int) (pivot_3 : Int) (data_5 : List api_Hit) (x97_6 : Bool) : Option (Lp (Int × Int × Int × Bool × Bool × List api_Hit) ((List api_Hit))) :=
  cond (x97_6)
    ((g_slices_partitionEqualCmpFunc_api_Hit data_5 a_1 b_1 pivot_3 cmp).bind fun y_8 =>
    some (.next (y_8.1, b_1, limit_2, wasBalanced_1, wasPartitioned_1, y_8.2)))
    ((g_slices_partitionCmpFunc_api_Hit data_5 a_1 b_1 pivot_3 cmp).bind fun y_9 =>
    (quoI (W (b_1 - a_1)) 8).bind fun q =>
    cond (decide ((W (y_9.1 - a_1)) < (W (b_1 - y_9.1))))
      ((rec y_9.2.2 a_1 y_9.1 limit_2).bind fun y_10 =>
      some (.next (W (y_9.1 + 1), b_1, limit_2, decide (q ≤ (W (y_9.1 - a_1))), y_9.2.1, y_10)))
      ((rec y_9.2.2 (W (y_9.1 + 1)) b_1 limit_2).bind fun y_11 =>
      some (.next (a_1, y_9.1, limit_2, decide (q ≤ (W (b_1 - y_9.1))), y_9.2.1, y_11))))
noncomputable def g_slices_pdqsortCmpFunc_api_Hit.j5 (rec : (List api_Hit) → Int → Int → Int → Option ((List api_Hit))) (cmp : api_Hit → api_Hit → Option (Int)) (a_1 : Int) (b_1 : Int) (wasBalanced_1 : Bool) (wasPartitioned_1 : Bool) (limit_2 : Int) (pivot_3 : Int) (data_5 : List api_Hit) : Option (Lp (Int × Int × Int × Bool × Bool × List api_Hit) ((List api_Hit))) :=
  cond (decide (0 < a_1))
    ((getI data_5 (W (a_1 - 1))).bind fun e =>
    (getI data_5 pivot_3).bind fun e_2 =>
    (cmp e e_2).bind fun y_7 =>
    g_slices_pdqsortCmpFunc_api_Hit.j6 rec cmp a_1 b_1 wasBalanced_1 wasPartitioned_1 limit_2 pivot_3 data_5 (!(decide (y_7 < 0))))
    (g_slices_pdqsortCmpFunc_api_Hit.j6 rec cmp a_1 b_1 wasBalanced_1 wasPartitioned_1 limit_2 pivot_3 data_5 false)
noncomputable def g_slices_pdqsortCmpFunc_api_Hit.j4 (rec : (List api_Hit) → Int → Int → Int → Option ((List api_Hit))) (cmp : api_Hit → api_Hit → Option (Int)) (a_1 : Int) (b_1 : Int) (wasBalanced_1 : Bool) (wasPartitioned_1 : Bool) (limit_2 : Int) (pivot_3 : Int) (data_3 : List api_Hit) (x75_4 : Bool) : Option (Lp (Int × Int × Int × Bool × Bool × List api_Hit) ((List api_Hit))) :=
  cond (x75_4)
    ((g_slices_partialInsertionSortCmpFunc_api_Hit data_3 a_1 b_1 cmp).bind fun y_6 =>
    cond (y_6.1)
      (up (some y_6.2))
      (g_slices_pdqsortCmpFunc_api_Hit.j5 rec cmp a_1 b_1 wasBalanced_1 wasPartitioned_1 limit_2 pivot_3 y_6.2))
    (g_slices_pdqsortCmpFunc_api_Hit.j5 rec cmp a_1 b_1 wasBalanced_1 wasPartitioned_1 limit_2 pivot_3 data_3)
noncomputable def g_slices_pdqsortCmpFunc_api_Hit.j3 (rec : (List api_Hit) → Int → Int → Int → Option ((List api_Hit))) (cmp : api_Hit → api_Hit → Option (Int)) (a_1 : Int) (b_1 : Int) (wasBalanced_1 : Bool) (wasPartitioned_1 : Bool) (limit_2 : Int) (pivot_3 : Int) (hint_3 : Int) (data_3 : List api_Hit) : Option (Lp (Int × Int × Int × Bool × Bool × List api_Hit) ((List api_Hit))) :=
  cond (wasBalanced_1)
    (cond (wasPartitioned_1)
      (g_slices_pdqsortCmpFunc_api_Hit.j4 rec cmp a_1 b_1 wasBalanced_1 wasPartitioned_1 limit_2 pivot_3 data_3 (decide (hint_3 = 1)))
      (g_slices_pdqsortCmpFunc_api_Hit.j4 rec cmp a_1 b_1 wasBalanced_1 wasPartitioned_1 limit_2 pivot_3 data_3 false))
    (g_slices_pdqsortCmpFunc_api_Hit.j4 rec cmp a_1 b_1 wasBalanced_1 wasPartitioned_1 limit_2 pivot_3 data_3 false)
noncomputable def g_slices_pdqsortCmpFunc_api_Hit.j2 (rec : (List api_Hit) → Int → Int → Int → Option ((List api_Hit))) (cmp : api_Hit → api_Hit → Option (Int)) (a_1 : Int) (b_1 : Int) (wasBalanced_1 : Bool) (wasPartitioned_1 : Bool) (limit_2 : Int) (data_2 : List api_Hit) : Option (Lp (Int × Int × Int × Bool × Bool × List api_Hit) ((List api_Hit))) :=
  (g_slices_choosePivotCmpFunc_api_Hit data_2 a_1 b_1 cmp).bind fun y_4 =>
  cond (decide (y_4.2 = 2))
    ((g_slices_reverseRangeCmpFunc_api_Hit data_2 a_1 b_1 cmp).bind fun y_5 =>
    g_slices_pdqsortCmpFunc_api_Hit.j3 rec cmp a_1 b_1 wasBalanced_1 wasPartitioned_1 limit_2 (W ((W (b_1 - 1)) - (W (y_4.1 - a_1)))) 1 y_5)
    (g_slices_pdqsortCmpFunc_api_Hit.j3 rec cmp a_1 b_1 wasBalanced_1 wasPartitioned_1 limit_2 y_4.1 y_4.2 data_2)
noncomputable def g_slices_pdqsortCmpFunc_api_Hit.l1 (rec : (List api_Hit) → Int → Int → Int → Option ((List api_Hit))) (cmp : api_Hit → api_Hit → Option (Int)) (a_1 : Int) (b_1 : Int) (limit_1 : Int) (wasBalanced_1 : Bool) (wasPartitioned_1 : Bool) (data_1 : List api_Hit) : Option (Lp (Int × Int × Int × Bool × Bool × List api_Hit) ((List api_Hit))) :=
  cond (decide ((W (b_1 - a_1)) ≤ 12))
    ((g_slices_insertionSortCmpFunc_api_Hit data_1 a_1 b_1 cmp).bind fun y =>
    up (some y))
    (cond (decide (limit_1 = 0))
      ((g_slices_heapSortCmpFunc_api_Hit data_1 a_1 b_1 cmp).bind fun y_2 =>
      up (some y_2))
      (cond (!wasBalanced_1)
        ((g_slices_breakPatternsCmpFunc_api_Hit data_1 a_1 b_1 cmp).bind fun y_3 =>
        g_slices_pdqsortCmpFunc_api_Hit.j2 rec cmp a_1 b_1 wasBalanced_1 wasPartitioned_1 (W (limit_1 - 1)) y_3)
        (g_slices_pdqsortCmpFunc_api_Hit.j2 rec cmp a_1 b_1 wasBalanced_1 wasPartitioned_1 limit_1 data_1)))
noncomputable def g_slices_pdqsortCmpFunc_api_Hit.F (rec : (List api_Hit) → Int → Int → Int → Option ((List api_Hit))) (data : List api_Hit) (a : Int) (b : Int) (limit : Int) (cmp : api_Hit → api_Hit → Option (Int)) : Option ((List api_Hit)) :=
  loop (fun q' => g_slices_pdqsortCmpFunc_api_Hit.l1 rec cmp q'.1 q'.2.1 q'.2.2.1 q'.2.2.2.1 q'.2.2.2.2.1 q'.2.2.2.2.2) (a, b, limit, true, true, data)
noncomputable def g_slices_pdqsortCmpFunc_api_Hit (data : List api_Hit) (a : Int) (b : Int) (limit : Int) (cmp : api_Hit → api_Hit → Option (Int)) : Option ((List api_Hit)) := fixT (fun rec (x : List api_Hit × Int × Int × Int) => g_slices_pdqsortCmpFunc_api_Hit.F (fun data a b limit => rec (data, a, b, limit)) x.1 x.2.1 x.2.2.1 x.2.2.2 cmp) (data, a, b, limit)
noncomputable def g_slices_SortFunc_api_Hit (x' : List api_Hit) (cmp : api_Hit → api_Hit → Option (Int)) : Option ((List api_Hit)) :=
  (g_math_bits_Len (IntKind.wrap .u64 (x'.length : Int))).bind fun y =>
  (g_slices_pdqsortCmpFunc_api_Hit x' 0 (x'.length : Int) y cmp).bind fun y_2 =>
  some y_2
noncomputable def g_pattern_Find (p : (List api_Pattern)) (b : (List UInt8)) : Option ((List api_Hit) × Int) :=
  (g_pattern_early p b).bind fun y =>
  cond (!decide (y = 0))
    (some (([] : (List api_Hit)), y))
    ((g_pattern_hits_List_api_Hit p b (fun x0 b0 => g_pattern_Find_c1 x0 b0) ([] : List api_Hit)).bind fun y_2 =>
    cond (decide (1000 < (y_2.length : Int)))
      (some (([] : (List api_Hit)), 3))
      ((g_slices_SortFunc_api_Hit y_2 (fun x0 x1 => g_pattern_Find_c2 x0 x1)).bind fun y_3 =>
      some (y_3, 0)))
noncomputable def g_pattern_Prefix.j4 (i_1 : Int) (out_1 : List Int) (n_4 : Int) : Option (Lp (Int × List Int) ((List Int))) :=
  (getI out_1 i_1).bind fun e_7 =>
  some (.next (W (i_1 + 1), setI out_1 ((i_1).toNat) n_4))
noncomputable def g_pattern_Prefix.j3 (b : (List UInt8)) (i_1 : Int) (out_1 : List Int) (n_2 : Int) (x32_3 : Bool) : Option (Lp (Int) (Lp (Int × List Int) ((List Int)))) :=
  cond (x32_3)
    ((getI out_1 (W (n_2 - 1))).bind fun e_4 =>
    some (.next e_4))
    (up (
      (getI b n_2).bind fun e_5 =>
      (getI b i_1).bind fun e_6 =>
      cond (decide ((e_5.toNat : Int) = (e_6.toNat : Int)))
        (g_pattern_Prefix.j4 i_1 out_1 (W (n_2 + 1)))
        (g_pattern_Prefix.j4 i_1 out_1 n_2)))
noncomputable def g_pattern_Prefix.l2 (b : (List UInt8)) (i_1 : Int) (out_1 : List Int) (n_2 : Int) : Option (Lp (Int) (Lp (Int × List Int) ((List Int)))) :=
  cond (decide (0 < n_2))
    ((getI b n_2).bind fun e_2 =>
    (getI b i_1).bind fun e_3 =>
    g_pattern_Prefix.j3 b i_1 out_1 n_2 (!decide ((e_2.toNat : Int) = (e_3.toNat : Int))))
    (g_pattern_Prefix.j3 b i_1 out_1 n_2 false)
noncomputable def g_pattern_Prefix.l1 (b : (List UInt8)) (i_1 : Int) (out_1 : List Int) : Option (Lp (Int × List Int) ((List Int))) :=
  cond (decide (i_1 < (b.length : Int)))
    ((getI out_1 (W (i_1 - 1))).bind fun e =>
    loop (fun q' => g_pattern_Prefix.l2 b i_1 out_1 q') e)
    (up (
      some out_1))
noncomputable def g_pattern_Prefix (b : (List UInt8)) : Option ((List Int)) :=
  (makI 8 (b.length : Int) (0 : Int)).bind fun m =>
  loop (fun q' => g_pattern_Prefix.l1 b q'.1 q'.2) (1, m)
noncomputable def g_ref02_SameInts.l1 (a : (List Int)) (b : (List Int)) (i_1 : Int) : Option (Lp (Int) (Bool)) :=
  cond (decide (i_1 < (a.length : Int)))
    ((getI a i_1).bind fun e =>
    (getI b i_1).bind fun e_2 =>
    cond (!decide (e = e_2))
      (up (some false))
      (some (.next (W (i_1 + 1)))))
    (up (
      some true))
noncomputable def g_ref02_SameInts (a : (List Int)) (b : (List Int)) : Option (Bool) :=
  cond (!decide ((a.length : Int) = (b.length : Int)))
    (some false)
    (loop (fun q' => g_ref02_SameInts.l1 a b q') 0)
noncomputable def g_law11_awake : Option (Bool) :=
  (g_pattern_Find ([(api_Pattern.mk (api_Use.mk 1 0) ([(97 : UInt8), (98 : UInt8), (97 : UInt8)] : List UInt8)), (api_Pattern.mk (api_Use.mk 1 0) ([(98 : UInt8)] : List UInt8))] : List api_Pattern) ([(97 : UInt8), (98 : UInt8), (97 : UInt8), (98 : UInt8), (97 : UInt8)] : List UInt8)).bind fun y =>
  cond (decide (y.2 = 0))
    (cond (decide ((y.1.length : Int) = 4))
      ((getI y.1 0).bind fun e =>
      cond (decide (e = (api_Hit.mk 0 0)))
        ((getI y.1 1).bind fun e_2 =>
        cond (decide (e_2 = (api_Hit.mk 1 1)))
          ((g_pattern_Prefix ([(97 : UInt8), (98 : UInt8), (97 : UInt8), (98 : UInt8)] : List UInt8)).bind fun y_2 =>
          (g_ref02_SameInts y_2 ([0, 0, 1, 2] : List Int)).bind fun y_3 =>
          some y_3)
          (some false))
        (some false))
      (some false))
    (some false)
noncomputable def g_make_Roll (l : (List Int)) : Option (cipherplanmake_Dice) :=
  some (cipherplanmake_Dice.mk l 0)
noncomputable def g_make_Mod (n : Int) (k : Int) : Option (Int) :=
  cond (decide (k < 1))
    (some 0)
    ((remI n k).bind fun q =>
    (remI (W (q + k)) k).bind fun q_2 =>
    some q_2)
noncomputable def g_make_Dice_Next (d : cipherplanmake_Dice) (n : Int) : Option (Int × cipherplanmake_Dice) :=
  cond (decide ((d.L.length : Int) ≤ d.At))
    (some (0, d))
    ((getI d.L (W ((W (d.At + 1)) - 1))).bind fun e =>
    (g_make_Mod e n).bind fun y =>
    some (y, (cipherplanmake_Dice.mk d.L (W (d.At + 1)))))
noncomputable def g_make_Dice_Of (d : cipherplanmake_Dice) (l : (List Int)) : Option (Int × cipherplanmake_Dice) :=
  (g_make_Dice_Next d (l.length : Int)).bind fun y =>
  (getI l y.1).bind fun e =>
  some (e, y.2)
noncomputable def g_law11_text.l1 (n_1 : Int) (d_1 : cipherplanmake_Dice) (b_1 : List UInt8) : Option (Lp (Int × cipherplanmake_Dice × List UInt8) ((List UInt8) × cipherplanmake_Dice)) :=
  cond (decide (0 < n_1))
    ((g_make_Dice_Of d_1 ([0, 1, 2, 103] : List Int)).bind fun y_2 =>
    (appI 1 b_1 ([(u8 y_2.1)] : List UInt8)).bind fun l =>
    some (.next (W (n_1 - 1), y_2.2, l)))
    (up (
      some (b_1, d_1)))
noncomputable def g_law11_text (d : cipherplanmake_Dice) (most : Int) : Option ((List UInt8) × cipherplanmake_Dice) :=
  (g_make_Dice_Next d (W (most + 1))).bind fun y =>
  loop (fun q' => g_law11_text.l1 q'.1 q'.2.1 q'.2.2) (y.1, y.2, ([] : List UInt8))
noncomputable def g_law11_PatternPrefix.l4 (y_4 : (List UInt8) × cipherplanmake_Dice) (n_2 : Int) (m_4 : Int) : Option (Lp (Int) (Lp (Int) (Bool))) :=
  cond (decide (m_4 < n_2))
    ((slI y_4.1 0 m_4).bind fun l_4 =>
    (slI y_4.1 (W (n_2 - m_4)) n_2).bind fun l_5 =>
    cond (decide ((ofB l_4) = (ofB l_5)))
      (up (up (some false)))
      (some (.next (W (m_4 + 1)))))
    (up (
      some (.next (W (n_2 + 1)))))
noncomputable def g_law11_PatternPrefix.j3 (y_4 : (List UInt8) × cipherplanmake_Dice) (n_2 : Int) (e : Int) (x55_3 : Bool) : Option (Lp (Int) (Bool)) :=
  cond (x55_3)
    (up (some false))
    (loop (fun q' => g_law11_PatternPrefix.l4 y_4 n_2 q') (W (e + 1)))
noncomputable def g_law11_PatternPrefix.l2 (y_4 : (List UInt8) × cipherplanmake_Dice) (y_5 : (List Int)) (n_2 : Int) : Option (Lp (Int) (Bool)) :=
  cond (decide (n_2 ≤ (y_4.1.length : Int)))
    ((getI y_5 (W (n_2 - 1))).bind fun e =>
    cond (decide (e < 0))
      (g_law11_PatternPrefix.j3 y_4 n_2 e true)
      (cond (decide (n_2 ≤ e))
        (g_law11_PatternPrefix.j3 y_4 n_2 e true)
        ((slI y_4.1 0 e).bind fun l_2 =>
        (slI y_4.1 (W (n_2 - e)) n_2).bind fun l_3 =>
        g_law11_PatternPrefix.j3 y_4 n_2 e (!decide ((ofB l_2) = (ofB l_3))))))
    (up (
      (g_law11_awake).bind fun y_6 =>
      some y_6))
noncomputable def g_law11_PatternPrefix (l : (List Int)) : Option (Bool) :=
  (g_make_Light l).bind fun y =>
  cond (!y)
    ((g_law11_awake).bind fun y_2 =>
    some y_2)
    ((g_make_Roll l).bind fun y_3 =>
    (g_law11_text y_3 40).bind fun y_4 =>
    (g_pattern_Prefix y_4.1).bind fun y_5 =>
    cond (!decide ((y_5.length : Int) = (y_4.1.length : Int)))
      (some false)
      (loop (fun q' => g_law11_PatternPrefix.l2 y_4 y_5 q') 1))
noncomputable def g_ref02_modulus.j1 (b : Int) (x3_1 : Bool) : Option (Int) :=
  cond (x3_1)
    (some 0)
    (cond (decide (b < 1024))
      (some 56)
      (cond (decide (b < 2048))
        (some 80)
        (cond (decide (b < 3072))
          (some 112)
          (cond (decide (b < 7680))
            (some 128)
            (cond (decide (b < 15360))
              (some 192)
              (some 256))))))
noncomputable def g_ref02_modulus (b : Int) : Option (Int) :=
  cond (decide (b < 512))
    (g_ref02_modulus.j1 b true)
    (g_ref02_modulus.j1 b (decide (16384 < b)))
noncomputable def g_ref02_among.l1 (b : Int) (sizes : (List Int)) (strengths : (List Int)) (i_1 : Int) : Option (Lp (Int) (Int)) :=
  cond (decide (i_1 < (sizes.length : Int)))
    ((getI sizes i_1).bind fun e =>
    cond (decide (e = b))
      ((getI strengths i_1).bind fun e_2 =>
      up (some e_2))
      (some (.next (W (i_1 + 1)))))
    (up (
      some 0))
noncomputable def g_ref02_among (b : Int) (sizes : (List Int)) (strengths : (List Int)) : Option (Int) :=
  loop (fun q' => g_ref02_among.l1 b sizes strengths q') 0
noncomputable def g_ref02_single.j2 (alg : Int) (x14_2 : Bool) : Option (Int) :=
  cond (x14_2)
    (some 256)
    (cond (decide (alg = 19))
      (some 64)
      (cond (decide (alg = 20))
        (some 80)
        (some 0)))
noncomputable def g_ref02_single.j1 (alg : Int) (x8_1 : Bool) : Option (Int) :=
  cond (x8_1)
    (some 128)
    (cond (decide (alg = 4))
      (some 192)
      (cond (decide (alg = 18))
        (g_ref02_single.j2 alg (decide (alg = 18)))
        (g_ref02_single.j2 alg (decide (alg = 22)))))
noncomputable def g_ref02_single (alg : Int) : Option (Int) :=
  cond (decide (alg = 1))
    (some 18)
    (cond (decide (alg = 2))
      (some 60)
      (cond (decide (alg = 3))
        (g_ref02_single.j1 alg (decide (alg = 3)))
        (cond (decide (alg = 8))
          (g_ref02_single.j1 alg (decide (alg = 8)))
          (g_ref02_single.j1 alg (decide (alg = 21))))))
noncomputable def g_ref02_Strength.j3 (u : api_Use) (x35_3 : Bool) : Option (Int) :=
  cond (x35_3)
    ((quoI u.Bits 2).bind fun q =>
    some q)
    (some 0)
noncomputable def g_ref02_Strength.j4 (u : api_Use) (x62_4 : Bool) : Option (Int) :=
  cond (x62_4)
    ((g_ref02_among u.Bits ([128, 256] : List Int) ([128, 256] : List Int)).bind fun y_6 =>
    some y_6)
    ((g_ref02_single u.Alg).bind fun y_7 =>
    (g_ref02_among u.Bits ([0] : List Int) ([y_7] : List Int)).bind fun y_8 =>
    some y_8)
noncomputable def g_ref02_Strength.j2 (u : api_Use) (x15_2 : Bool) : Option (Int) :=
  cond (x15_2)
    (cond (decide (u.Bits = 160))
      (g_ref02_Strength.j3 u true)
      (cond (decide (u.Bits = 224))
        (g_ref02_Strength.j3 u true)
        (cond (decide (u.Bits = 256))
          (g_ref02_Strength.j3 u true)
          (cond (decide (u.Bits = 384))
            (g_ref02_Strength.j3 u true)
            (g_ref02_Strength.j3 u (decide (u.Bits = 521)))))))
    (cond (decide (u.Alg = 9))
      ((g_ref02_among u.Bits ([44, 65, 87] : List Int) ([128, 192, 256] : List Int)).bind fun y_2 =>
      some y_2)
      (cond (decide (u.Alg = 13))
        ((g_ref02_among u.Bits ([512, 768, 1024] : List Int) ([128, 192, 256] : List Int)).bind fun y_3 =>
        some y_3)
        (cond (decide (u.Alg = 14))
          ((g_ref02_among u.Bits ([40, 128] : List Int) ([40, 60] : List Int)).bind fun y_4 =>
          some y_4)
          (cond (decide (u.Alg = 15))
            ((g_ref02_among u.Bits ([112, 168] : List Int) ([80, 112] : List Int)).bind fun y_5 =>
            some y_5)
            (cond (decide (u.Alg = 16))
              (g_ref02_Strength.j4 u (decide (u.Alg = 16)))
              (g_ref02_Strength.j4 u (decide (u.Alg = 17))))))))
noncomputable def g_ref02_Strength.j1 (u : api_Use) (x8_1 : Bool) : Option (Int) :=
  cond (x8_1)
    ((g_ref02_modulus u.Bits).bind fun y =>
    some y)
    (cond (decide (u.Alg = 7))
      (g_ref02_Strength.j2 u (decide (u.Alg = 7)))
      (g_ref02_Strength.j2 u (decide (u.Alg = 12))))
noncomputable def g_ref02_Strength (u : api_Use) : Option (Int) :=
  cond (decide (u.Alg = 5))
    (g_ref02_Strength.j1 u (decide (u.Alg = 5)))
    (cond (decide (u.Alg = 6))
      (g_ref02_Strength.j1 u (decide (u.Alg = 6)))
      (cond (decide (u.Alg = 10))
        (g_ref02_Strength.j1 u (decide (u.Alg = 10)))
        (g_ref02_Strength.j1 u (decide (u.Alg = 11)))))
noncomputable def g_ref02_Valid (u : api_Use) : Option (Bool) :=
  (g_ref02_Strength u).bind fun y =>
  some (decide (0 < y))
noncomputable def g_ref11_Check.j2 (i_1 : Int) (x37_2 : Bool) : Option (Lp (Int) (Int)) :=
  cond (x37_2)
    (up (some 21))
    (some (.next (W (i_1 + 1))))
noncomputable def g_ref11_Check.l1 (p : (List api_Pattern)) (i_1 : Int) : Option (Lp (Int) (Int)) :=
  cond (decide (i_1 < (p.length : Int)))
    ((getI p i_1).bind fun e =>
    cond (decide ((e.Bytes.length : Int) < 1))
      (g_ref11_Check.j2 i_1 true)
      (cond (decide (64 < (e.Bytes.length : Int)))
        (g_ref11_Check.j2 i_1 true)
        ((g_ref02_Valid e.Use).bind fun y =>
        g_ref11_Check.j2 i_1 (!y))))
    (up (
      some 0))
noncomputable def g_ref11_Check (p : (List api_Pattern)) : Option (Int) :=
  cond (decide (32 < (p.length : Int)))
    (some 21)
    (loop (fun q' => g_ref11_Check.l1 p q') 0)
noncomputable def g_ref11_at (p : (List UInt8)) (b : (List UInt8)) (i : Int) : Option (Bool) :=
  cond (decide ((p.length : Int) ≤ (W ((b.length : Int) - i))))
    ((slI b i (W (i + (p.length : Int)))).bind fun l =>
    some (decide ((ofB l) = (ofB p))))
    (some false)
noncomputable def g_ref11_Find.j3 (k_2 : Int) (out_3 : List api_Hit) : Option (Lp (Int × List api_Hit) (Lp (Int × List api_Hit) ((List api_Hit) × Int))) :=
  some (.next (W (k_2 + 1), out_3))
noncomputable def g_ref11_Find.l2 (p : (List api_Pattern)) (b : (List UInt8)) (i_1 : Int) (k_2 : Int) (out_2 : List api_Hit) : Option (Lp (Int × List api_Hit) (Lp (Int × List api_Hit) ((List api_Hit) × Int))) :=
  cond (decide (k_2 < (p.length : Int)))
    ((getI p k_2).bind fun e =>
    (g_ref11_at e.Bytes b i_1).bind fun y_2 =>
    cond (y_2)
      ((appI 32 out_2 ([(api_Hit.mk k_2 i_1)] : List api_Hit)).bind fun l =>
      g_ref11_Find.j3 k_2 l)
      (g_ref11_Find.j3 k_2 out_2))
    (up (
      cond (decide (1000 < (out_2.length : Int)))
        (up (some (([] : (List api_Hit)), 3)))
        (some (.next (W (i_1 + 1), out_2)))))
noncomputable def g_ref11_Find.l1 (p : (List api_Pattern)) (b : (List UInt8)) (i_1 : Int) (out_1 : List api_Hit) : Option (Lp (Int × List api_Hit) ((List api_Hit) × Int)) :=
  cond (decide (i_1 < (b.length : Int)))
    (loop (fun q' => g_ref11_Find.l2 p b i_1 q'.1 q'.2) (0, out_1))
    (up (
      some (out_1, 0)))
noncomputable def g_ref11_Find (p : (List api_Pattern)) (b : (List UInt8)) : Option ((List api_Hit) × Int) :=
  (g_ref11_Check p).bind fun y =>
  cond (!decide (y = 0))
    (some (([] : (List api_Hit)), y))
    (cond (decide (4096 < (b.length : Int)))
      (some (([] : (List api_Hit)), 3))
      (loop (fun q' => g_ref11_Find.l1 p b q'.1 q'.2) (0, ([] : List api_Hit))))
noncomputable def g_pattern_first_c1 (h' : api_Hit) (c0 : (List Int)) : Option (Bool × (List Int)) :=
  (getI c0 h'.Pattern).bind fun e =>
  cond (decide (e < 0))
    (some (true, setI c0 ((h'.Pattern).toNat) h'.At))
    (some (true, c0))
noncomputable def g_pattern_hits_List_Int.l2 (p : (List api_Pattern)) (yield : api_Hit → (List Int) → Option (Bool × (List Int))) (x16_1 : Int) (e_3 : Int) (e_4 : pattern_state) (x34_2 : Int) (l_2 : List Int) : Option (Lp (Int × List Int) (Lp (Int × Int × List Int) ((List Int)))) :=
  cond (decide (x34_2 < (e_4.ends.length : Int)))
    ((getI e_4.ends x34_2).bind fun e_5 =>
    (getI p e_5).bind fun e_6 =>
    (yield (api_Hit.mk e_5 (W ((W (x16_1 + 1)) - (e_6.Bytes.length : Int)))) l_2).bind fun y_2 =>
    cond (!y_2.1)
      (up (up (some y_2.2)))
      (some (.next (W (x34_2 + 1), y_2.2))))
    (up (
      some (.next (e_3, W (x16_1 + 1), l_2))))
noncomputable def g_pattern_hits_List_Int.l1 (p : (List api_Pattern)) (b : (List UInt8)) (yield : api_Hit → (List Int) → Option (Bool × (List Int))) (y : (List pattern_state)) (at_1 : Int) (x16_1 : Int) (l_1 : List Int) : Option (Lp (Int × Int × List Int) ((List Int))) :=
  cond (decide (x16_1 < (b.length : Int)))
    ((getI b x16_1).bind fun e =>
    (getI y at_1).bind fun e_2 =>
    (getI (arrL 256 e_2.next) (e.toNat : Int)).bind fun e_3 =>
    (getI y e_3).bind fun e_4 =>
    loop (fun q' => g_pattern_hits_List_Int.l2 p yield x16_1 e_3 e_4 q'.1 q'.2) (0, l_1))
    (up (some l_1))
noncomputable def g_pattern_hits_List_Int (p : (List api_Pattern)) (b : (List UInt8)) (yield : api_Hit → (List Int) → Option (Bool × (List Int))) (yield_b0 : (List Int)) : Option ((List Int)) :=
  (g_pattern_machine p).bind fun y =>
  loop (fun q' => g_pattern_hits_List_Int.l1 p b yield y q'.1 q'.2.1 q'.2.2) (0, 0, yield_b0)
noncomputable def g_pattern_first.l1 (p : (List api_Pattern)) (b : (List UInt8)) (m : List Int) (x12_1 : Int) (l_1 : List Int) : Option (Lp (Int × List Int) ((List Int))) :=
  cond (decide (x12_1 < (m.length : Int)))
    ((getI l_1 x12_1).bind fun e =>
    some (.next (W (x12_1 + 1), setI l_1 ((x12_1).toNat) (-1))))
    (up (
      (g_pattern_hits_List_Int p b (fun x0 b0 => g_pattern_first_c1 x0 b0) l_1).bind fun y =>
      some y))
noncomputable def g_pattern_first (p : (List api_Pattern)) (b : (List UInt8)) : Option ((List Int)) :=
  (makI 8 (p.length : Int) (0 : Int)).bind fun m =>
  loop (fun q' => g_pattern_first.l1 p b m q'.1 q'.2) (0, m)
noncomputable def g_pattern_First (p : (List api_Pattern)) (b : (List UInt8)) : Option ((List Int) × Int) :=
  (g_pattern_early p b).bind fun y =>
  cond (!decide (y = 0))
    (some (([] : (List Int)), y))
    ((g_pattern_first p b).bind fun y_2 =>
    some (y_2, 0))
noncomputable def g_ref11_First.j3 (i_2 : Int) (x_3 : Int) : Option (Lp (Int × Int) (Lp (Int × List Int) ((List Int) × Int))) :=
  some (.next (x_3, W (i_2 - 1)))
noncomputable def g_ref11_First.l2 (p : (List api_Pattern)) (b : (List UInt8)) (k_1 : Int) (out_1 : List Int) (x_2 : Int) (i_2 : Int) : Option (Lp (Int × Int) (Lp (Int × List Int) ((List Int) × Int))) :=
  cond (decide (0 ≤ i_2))
    ((getI p k_1).bind fun e =>
    (g_ref11_at e.Bytes b i_2).bind fun y_2 =>
    cond (y_2)
      (g_ref11_First.j3 i_2 i_2)
      (g_ref11_First.j3 i_2 x_2))
    (up (
      (appI 8 out_1 ([x_2] : List Int)).bind fun l =>
      some (.next (W (k_1 + 1), l))))
noncomputable def g_ref11_First.l1 (p : (List api_Pattern)) (b : (List UInt8)) (k_1 : Int) (out_1 : List Int) : Option (Lp (Int × List Int) ((List Int) × Int)) :=
  cond (decide (k_1 < (p.length : Int)))
    (loop (fun q' => g_ref11_First.l2 p b k_1 out_1 q'.1 q'.2) (-1, W ((b.length : Int) - 1)))
    (up (
      some (out_1, 0)))
noncomputable def g_ref11_First (p : (List api_Pattern)) (b : (List UInt8)) : Option ((List Int) × Int) :=
  (g_ref11_Check p).bind fun y =>
  cond (!decide (y = 0))
    (some (([] : (List Int)), y))
    (cond (decide (4096 < (b.length : Int)))
      (some (([] : (List Int)), 3))
      (loop (fun q' => g_ref11_First.l1 p b q'.1 q'.2) (0, ([] : List Int))))
noncomputable def g_law11_sameHits.l1 (a : (List api_Hit)) (b : (List api_Hit)) (i_1 : Int) : Option (Lp (Int) (Bool)) :=
  cond (decide (i_1 < (a.length : Int)))
    ((getI a i_1).bind fun e =>
    (getI b i_1).bind fun e_2 =>
    cond (!decide (e = e_2))
      (up (some false))
      (some (.next (W (i_1 + 1)))))
    (up (
      some true))
noncomputable def g_law11_sameHits (a : (List api_Hit)) (b : (List api_Hit)) : Option (Bool) :=
  cond (!decide ((a.length : Int) = (b.length : Int)))
    (some false)
    (loop (fun q' => g_law11_sameHits.l1 a b q') 0)
noncomputable def g_ref11_Prefix.j4 (n_1 : Int) (out_1 : List Int) (k_3 : Int) (x41_4 : Bool) : Option (Lp (Int) (Lp (Int × List Int) ((List Int)))) :=
  cond (x41_4)
    (some (.next (W (k_3 - 1))))
    (up (
      (appI 8 out_1 ([k_3] : List Int)).bind fun l_3 =>
      some (.next (W (n_1 + 1), l_3))))
noncomputable def g_ref11_Prefix.l3 (b : (List UInt8)) (n_1 : Int) (out_1 : List Int) (k_3 : Int) : Option (Lp (Int) (Lp (Int × List Int) ((List Int)))) :=
  cond (decide (0 < k_3))
    (cond (decide (k_3 < n_1))
      ((slI b 0 k_3).bind fun l =>
      (slI b (W (n_1 - k_3)) n_1).bind fun l_2 =>
      g_ref11_Prefix.j4 n_1 out_1 k_3 (!(decide ((ofB l) = (ofB l_2)))))
      (g_ref11_Prefix.j4 n_1 out_1 k_3 true))
    (g_ref11_Prefix.j4 n_1 out_1 k_3 false)
noncomputable def g_ref11_Prefix.j2 (b : (List UInt8)) (n_1 : Int) (out_1 : List Int) (k_2 : Int) : Option (Lp (Int × List Int) ((List Int))) :=
  loop (fun q' => g_ref11_Prefix.l3 b n_1 out_1 q') k_2
noncomputable def g_ref11_Prefix.l1 (b : (List UInt8)) (n_1 : Int) (out_1 : List Int) : Option (Lp (Int × List Int) ((List Int))) :=
  cond (decide (n_1 ≤ (b.length : Int)))
    (cond (decide (1 < n_1))
      ((getI out_1 (W (n_1 - 2))).bind fun e =>
      g_ref11_Prefix.j2 b n_1 out_1 (W (e + 1)))
      (g_ref11_Prefix.j2 b n_1 out_1 0))
    (up (
      some out_1))
noncomputable def g_ref11_Prefix (b : (List UInt8)) : Option ((List Int)) :=
  loop (fun q' => g_ref11_Prefix.l1 b q'.1 q'.2) (1, ([] : List Int))
noncomputable def g_law11_PatternRaw.j1 (p : (List api_Pattern)) (b : (List UInt8)) (x20_1 : Bool) : Option (Bool) :=
  cond (x20_1)
    ((g_law11_awake).bind fun y =>
    some y)
    ((g_pattern_Find p b).bind fun y_2 =>
    (g_ref11_Find p b).bind fun y_3 =>
    (g_pattern_First p b).bind fun y_4 =>
    (g_ref11_First p b).bind fun y_5 =>
    (g_pattern_Check p).bind fun y_6 =>
    (g_ref11_Check p).bind fun y_7 =>
    cond (decide (y_6 = y_7))
      (cond (decide (y_2.2 = y_3.2))
        ((g_law11_sameHits y_2.1 y_3.1).bind fun y_8 =>
        cond (y_8)
          (cond (decide (y_4.2 = y_5.2))
            ((g_ref02_SameInts y_4.1 y_5.1).bind fun y_9 =>
            cond (y_9)
              ((g_pattern_Prefix b).bind fun y_10 =>
              (g_ref11_Prefix b).bind fun y_11 =>
              (g_ref02_SameInts y_10 y_11).bind fun y_12 =>
              cond (y_12)
                ((g_law11_awake).bind fun y_13 =>
                some y_13)
                (some false))
              (some false))
            (some false))
          (some false))
        (some false))
      (some false))
noncomputable def g_law11_PatternRaw (p : (List api_Pattern)) (b : (List UInt8)) : Option (Bool) :=
  cond (decide (40 < (p.length : Int)))
    (g_law11_PatternRaw.j1 p b true)
    (g_law11_PatternRaw.j1 p b (decide (300 < (b.length : Int))))
noncomputable def g_make_size.j3 (d : cipherplanmake_Dice) (x40_3 : Bool) : Option (Int × cipherplanmake_Dice) :=
  cond (x40_3)
    ((g_make_Dice_Of d ([128, 256] : List Int)).bind fun y_7 =>
    some (y_7.1, y_7.2))
    (some (0, d))
noncomputable def g_make_size.j2 (d : cipherplanmake_Dice) (a : Int) (x14_2 : Bool) : Option (Int × cipherplanmake_Dice) :=
  cond (x14_2)
    ((g_make_Dice_Of d ([256, 160, 224, 384, 521] : List Int)).bind fun y_2 =>
    some (y_2.1, y_2.2))
    (cond (decide (a = 9))
      ((g_make_Dice_Of d ([65, 44, 87] : List Int)).bind fun y_3 =>
      some (y_3.1, y_3.2))
      (cond (decide (a = 13))
        ((g_make_Dice_Of d ([768, 512, 1024] : List Int)).bind fun y_4 =>
        some (y_4.1, y_4.2))
        (cond (decide (a = 14))
          ((g_make_Dice_Of d ([128, 40] : List Int)).bind fun y_5 =>
          some (y_5.1, y_5.2))
          (cond (decide (a = 15))
            ((g_make_Dice_Of d ([168, 112] : List Int)).bind fun y_6 =>
            some (y_6.1, y_6.2))
            (cond (decide (a = 16))
              (g_make_size.j3 d (decide (a = 16)))
              (g_make_size.j3 d (decide (a = 17))))))))
noncomputable def g_make_size.j1 (d : cipherplanmake_Dice) (a : Int) (x6_1 : Bool) : Option (Int × cipherplanmake_Dice) :=
  cond (x6_1)
    ((g_make_Dice_Of d ([2048, 1024, 512, 3072, 1023, 4096, 16384] : List Int)).bind fun y =>
    some (y.1, y.2))
    (cond (decide (a = 7))
      (g_make_size.j2 d a (decide (a = 7)))
      (g_make_size.j2 d a (decide (a = 12))))
noncomputable def g_make_size (d : cipherplanmake_Dice) (a : Int) : Option (Int × cipherplanmake_Dice) :=
  cond (decide (a = 5))
    (g_make_size.j1 d a (decide (a = 5)))
    (cond (decide (a = 6))
      (g_make_size.j1 d a (decide (a = 6)))
      (cond (decide (a = 10))
        (g_make_size.j1 d a (decide (a = 10)))
        (g_make_size.j1 d a (decide (a = 11)))))
noncomputable def g_make_Use (d : cipherplanmake_Dice) : Option (api_Use × cipherplanmake_Dice) :=
  (g_make_Dice_Next d 22).bind fun y =>
  (g_make_size y.2 (W (1 + y.1))).bind fun y_2 =>
  some ((api_Use.mk (W (1 + y.1)) y_2.1), y_2.2)
noncomputable def g_make_Patterns.l2 (i_1 : Int) (p_1 : List api_Pattern) (n_2 : Int) (d_2 : cipherplanmake_Dice) (b_2 : List UInt8) : Option (Lp (Int × cipherplanmake_Dice × List UInt8) (Lp (Int × cipherplanmake_Dice × List api_Pattern) ((List api_Pattern) × cipherplanmake_Dice))) :=
  cond (decide (0 < n_2))
    ((g_make_Dice_Of d_2 ([0, 1, 2, 103] : List Int)).bind fun y_3 =>
    (appI 1 b_2 ([(u8 y_3.1)] : List UInt8)).bind fun l =>
    some (.next (W (n_2 - 1), y_3.2, l)))
    (up (
      (g_make_Use d_2).bind fun y_5 =>
      (appI 120 p_1 ([(api_Pattern.mk y_5.1 b_2)] : List api_Pattern)).bind fun l_2 =>
      some (.next (W (i_1 - 1), y_5.2, l_2))))
noncomputable def g_make_Patterns.l1 (i_1 : Int) (d_1 : cipherplanmake_Dice) (p_1 : List api_Pattern) : Option (Lp (Int × cipherplanmake_Dice × List api_Pattern) ((List api_Pattern) × cipherplanmake_Dice)) :=
  cond (decide (0 < i_1))
    ((g_make_Dice_Next d_1 5).bind fun y_2 =>
    loop (fun q' => g_make_Patterns.l2 i_1 p_1 q'.1 q'.2.1 q'.2.2) (W (1 + y_2.1), y_2.2, ([] : List UInt8)))
    (up (
      some (p_1, d_1)))
noncomputable def g_make_Patterns (d : cipherplanmake_Dice) : Option ((List api_Pattern) × cipherplanmake_Dice) :=
  (g_make_Dice_Next d 5).bind fun y =>
  loop (fun q' => g_make_Patterns.l1 q'.1 q'.2.1 q'.2.2) (W (1 + y.1), y.2, ([] : List api_Pattern))
noncomputable def g_law11_PatternPlaces.j8 (k_5 : Int) (n_8 : Int) : Option (Lp (Int × Int) (Lp (Int × Int) (Bool))) :=
  some (.next (n_8, W (k_5 + 1)))
noncomputable def g_law11_PatternPlaces.j7 (n_5 : Int) (k_5 : Int) (x115_7 : Bool) : Option (Lp (Int × Int) (Lp (Int × Int) (Bool))) :=
  cond (x115_7)
    (up (up (some false)))
    (g_law11_PatternPlaces.j8 k_5 (W (n_5 + 1)))
noncomputable def g_law11_PatternPlaces.j6 (y_6 : (List api_Hit) × Int) (y_7 : (List Int) × Int) (i_4 : Int) (n_5 : Int) (k_5 : Int) (x86_6 : Bool) : Option (Lp (Int × Int) (Lp (Int × Int) (Bool))) :=
  cond (x86_6)
    (g_law11_PatternPlaces.j8 k_5 n_5)
    (cond (decide ((y_6.1.length : Int) ≤ n_5))
      (g_law11_PatternPlaces.j7 n_5 k_5 true)
      ((getI y_6.1 n_5).bind fun e_2 =>
      cond (!decide (e_2 = (api_Hit.mk k_5 i_4)))
        (g_law11_PatternPlaces.j7 n_5 k_5 true)
        ((getI y_7.1 k_5).bind fun e_3 =>
        cond (decide (i_4 < e_3))
          (g_law11_PatternPlaces.j7 n_5 k_5 true)
          (g_law11_PatternPlaces.j7 n_5 k_5 (decide (e_3 < 0))))))
noncomputable def g_law11_PatternPlaces.l5 (y_4 : (List api_Pattern) × cipherplanmake_Dice) (y_5 : (List UInt8) × cipherplanmake_Dice) (y_6 : (List api_Hit) × Int) (y_7 : (List Int) × Int) (i_4 : Int) (n_5 : Int) (k_5 : Int) : Option (Lp (Int × Int) (Lp (Int × Int) (Bool))) :=
  cond (decide (k_5 < (y_4.1.length : Int)))
    ((getI y_4.1 k_5).bind fun e =>
    cond (decide ((y_5.1.length : Int) < (W (i_4 + (e.Bytes.length : Int)))))
      (g_law11_PatternPlaces.j6 y_6 y_7 i_4 n_5 k_5 true)
      ((slI y_5.1 i_4 (W (i_4 + (e.Bytes.length : Int)))).bind fun l_2 =>
      g_law11_PatternPlaces.j6 y_6 y_7 i_4 n_5 k_5 (!decide ((ofB l_2) = (ofB e.Bytes)))))
    (up (
      some (.next (n_5, W (i_4 + 1)))))
noncomputable def g_law11_PatternPlaces.j10 (k_9 : Int) (x171_10 : Bool) : Option (Lp (Int) (Bool)) :=
  cond (x171_10)
    (up (some false))
    (some (.next (W (k_9 + 1))))
noncomputable def g_law11_PatternPlaces.l9 (y_4 : (List api_Pattern) × cipherplanmake_Dice) (y_5 : (List UInt8) × cipherplanmake_Dice) (y_6 : (List api_Hit) × Int) (y_7 : (List Int) × Int) (n_4 : Int) (k_9 : Int) : Option (Lp (Int) (Bool)) :=
  cond (decide (k_9 < (y_7.1.length : Int)))
    ((getI y_7.1 k_9).bind fun e_4 =>
    cond (decide (0 ≤ e_4))
      ((getI y_4.1 k_9).bind fun e_5 =>
      cond (decide ((y_5.1.length : Int) < (W (e_4 + (e_5.Bytes.length : Int)))))
        (g_law11_PatternPlaces.j10 k_9 true)
        ((slI y_5.1 e_4 (W (e_4 + (e_5.Bytes.length : Int)))).bind fun l_3 =>
        g_law11_PatternPlaces.j10 k_9 (!decide ((ofB l_3) = (ofB e_5.Bytes)))))
      (g_law11_PatternPlaces.j10 k_9 false))
    (up (
      cond (decide (n_4 = (y_6.1.length : Int)))
        ((g_law11_awake).bind fun y_8 =>
        some y_8)
        (some false)))
noncomputable def g_law11_PatternPlaces.l4 (y_4 : (List api_Pattern) × cipherplanmake_Dice) (y_5 : (List UInt8) × cipherplanmake_Dice) (y_6 : (List api_Hit) × Int) (y_7 : (List Int) × Int) (n_4 : Int) (i_4 : Int) : Option (Lp (Int × Int) (Bool)) :=
  cond (decide (i_4 < (y_5.1.length : Int)))
    (loop (fun q' => g_law11_PatternPlaces.l5 y_4 y_5 y_6 y_7 i_4 q'.1 q'.2) (n_4, 0))
    (up (
      loop (fun q' => g_law11_PatternPlaces.l9 y_4 y_5 y_6 y_7 n_4 q') 0))
noncomputable def g_law11_PatternPlaces.j3 (y_4 : (List api_Pattern) × cipherplanmake_Dice) (y_5 : (List UInt8) × cipherplanmake_Dice) (y_6 : (List api_Hit) × Int) (y_7 : (List Int) × Int) (x49_3 : Bool) : Option (Bool) :=
  cond (x49_3)
    (some false)
    (loop (fun q' => g_law11_PatternPlaces.l4 y_4 y_5 y_6 y_7 q'.1 q'.2) (0, 0))
noncomputable def g_law11_PatternPlaces (l : (List Int)) : Option (Bool) :=
  (g_make_Light l).bind fun y =>
  cond (!y)
    ((g_law11_awake).bind fun y_2 =>
    some y_2)
    ((g_make_Roll l).bind fun y_3 =>
    (g_make_Patterns y_3).bind fun y_4 =>
    (g_law11_text y_4.2 60).bind fun y_5 =>
    (g_pattern_Find y_4.1 y_5.1).bind fun y_6 =>
    (g_pattern_First y_4.1 y_5.1).bind fun y_7 =>
    cond (!decide (y_6.2 = 0))
      (g_law11_PatternPlaces.j3 y_4 y_5 y_6 y_7 true)
      (cond (!decide (y_7.2 = 0))
        (g_law11_PatternPlaces.j3 y_4 y_5 y_6 y_7 true)
        (g_law11_PatternPlaces.j3 y_4 y_5 y_6 y_7 (!decide ((y_7.1.length : Int) = (y_4.1.length : Int))))))
noncomputable def g_make_Dice_One (d : cipherplanmake_Dice) (n : Int) : Option (Bool × cipherplanmake_Dice) :=
  (g_make_Dice_Next d n).bind fun y =>
  some (decide (y.1 = (W (n - 1))), y.2)
noncomputable def g_law11_PatternWithin.j7 (i_6 : Int) (x140_7 : Bool) : Option (Lp (Int) (Bool)) :=
  cond (x140_7)
    (up (some false))
    (some (.next (W (i_6 + 1))))
noncomputable def g_law11_PatternWithin.l6 (l_4 : List api_Pattern) (y_12 : (List Int) × Int) (y_13 : (List Int) × Int) (i_6 : Int) : Option (Lp (Int) (Bool)) :=
  cond (decide (i_6 < (l_4.length : Int)))
    ((getI y_13.1 i_6).bind fun e_4 =>
    cond (decide (0 ≤ e_4))
      ((getI y_12.1 i_6).bind fun e_5 =>
      g_law11_PatternWithin.j7 i_6 (!decide (e_5 = e_4)))
      (g_law11_PatternWithin.j7 i_6 false))
    (up (
      (g_law11_awake).bind fun y_14 =>
      some y_14))
noncomputable def g_law11_PatternWithin.j5 (l_4 : List api_Pattern) (y_12 : (List Int) × Int) (y_13 : (List Int) × Int) (x118_5 : Bool) : Option (Bool) :=
  cond (x118_5)
    (some false)
    (loop (fun q' => g_law11_PatternWithin.l6 l_4 y_12 y_13 q') 0)
noncomputable def g_law11_PatternWithin.j2 (l_4 : List api_Pattern) (d_2 : cipherplanmake_Dice) (x_2 : List UInt8) : Option (Bool) :=
  (g_make_Dice_Next d_2 (W ((x_2.length : Int) + 1))).bind fun y_11 =>
  (g_pattern_First l_4 x_2).bind fun y_12 =>
  (slI x_2 0 y_11.1).bind fun l_7 =>
  (g_pattern_First l_4 l_7).bind fun y_13 =>
  cond (!decide (y_12.2 = 0))
    (g_law11_PatternWithin.j5 l_4 y_12 y_13 true)
    (cond (!decide (y_13.2 = 0))
      (g_law11_PatternWithin.j5 l_4 y_12 y_13 true)
      (cond (!decide ((y_12.1.length : Int) = (l_4.length : Int)))
        (g_law11_PatternWithin.j5 l_4 y_12 y_13 true)
        (cond (!decide ((y_13.1.length : Int) = (l_4.length : Int)))
          (g_law11_PatternWithin.j5 l_4 y_12 y_13 true)
          ((getI y_12.1 (W ((l_4.length : Int) - 1))).bind fun e_2 =>
          cond (decide (0 ≤ e_2))
            ((getI y_12.1 0).bind fun e_3 =>
            cond (decide (e_3 < 0))
              (g_law11_PatternWithin.j5 l_4 y_12 y_13 true)
              (g_law11_PatternWithin.j5 l_4 y_12 y_13 (decide ((W (e_2 + 3)) < e_3))))
            (g_law11_PatternWithin.j5 l_4 y_12 y_13 false)))))
noncomputable def g_law11_PatternWithin (l : (List Int)) : Option (Bool) :=
  (g_make_Light l).bind fun y =>
  cond (!y)
    ((g_law11_awake).bind fun y_2 =>
    some y_2)
    ((g_make_Roll l).bind fun y_3 =>
    (g_make_Patterns y_3).bind fun y_4 =>
    (getI y_4.1 0).bind fun e =>
    (g_law11_text y_4.2 3).bind fun y_5 =>
    (appI 1 y_5.1 e.Bytes).bind fun l_2 =>
    (g_law11_text y_5.2 3).bind fun y_6 =>
    (appI 1 l_2 y_6.1).bind fun l_3 =>
    (appI 120 y_4.1 ([(api_Pattern.mk e.Use l_3)] : List api_Pattern)).bind fun l_4 =>
    (g_law11_text y_6.2 40).bind fun y_7 =>
    (appI 1 y_7.1 l_3).bind fun l_5 =>
    (g_law11_text y_7.2 20).bind fun y_8 =>
    (appI 1 l_5 y_8.1).bind fun l_6 =>
    (g_make_Dice_One y_8.2 2).bind fun y_9 =>
    cond (y_9.1)
      ((g_law11_text y_9.2 80).bind fun y_10 =>
      g_law11_PatternWithin.j2 l_4 y_10.2 y_10.1)
      (g_law11_PatternWithin.j2 l_4 y_9.2 l_6))
end Go.Proofs.Ytfkgbfhpibiheaa
