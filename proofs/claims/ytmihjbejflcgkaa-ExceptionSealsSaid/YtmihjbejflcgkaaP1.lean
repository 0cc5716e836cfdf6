/- Plain functions. -/
import Derived.Test.YtmihjbejflcgkaaPM
set_option linter.unusedVariables false
set_option linter.unusedSimpArgs false
namespace Go.Proofs.Ytmihjbejflcgkaa
structure cipherplanmake_Dice where
  L : (List Int)
  At : Int
  deriving DecidableEq, Inhabited
structure api_Owners where
  Keys : (List Int)
  Need : Int
  deriving DecidableEq, Inhabited
structure api_Use where
  Alg : Int
  Bits : Int
  deriving DecidableEq, Inhabited
structure api_Span where
  From : Int
  To : Int
  deriving DecidableEq, Inhabited
structure api_Seal where
  Key : Int
  Sum : Int
  deriving DecidableEq, Inhabited
structure api_Exception where
  Use : api_Use
  Purpose : Int
  Endpoint : ByteArray
  Days : api_Span
  Seals : (List api_Seal)
  deriving DecidableEq, Inhabited
structure api_Value where
  Tag : Int
  Bytes : (List UInt8)
  Nested : Bool
  Elements : (List api_Value)
structure catalog_row where
  name : ByteArray
  kind : Int
  way : Int
  sizes : (List Int)
  strengths : (List Int)
  deriving DecidableEq, Inhabited
noncomputable def g_make_Light (l : (List Int)) : Option (Bool) :=
  some (decide ((l.length : Int) ≤ 400))
noncomputable def g_catalog_rows : Option ((List catalog_row)) :=
  some ([(catalog_row.mk (⟨#[]⟩ : ByteArray) 0 0 ([] : (List Int)) ([] : (List Int))), (catalog_row.mk (⟨#[109, 100, 53]⟩ : ByteArray) 1 0 ([] : (List Int)) ([18] : List Int)), (catalog_row.mk (⟨#[115, 104, 97, 49]⟩ : ByteArray) 1 0 ([] : (List Int)) ([60] : List Int)), (catalog_row.mk (⟨#[115, 104, 97, 50, 53, 54]⟩ : ByteArray) 1 0 ([] : (List Int)) ([128] : List Int)), (catalog_row.mk (⟨#[115, 104, 97, 51, 56, 52]⟩ : ByteArray) 1 0 ([] : (List Int)) ([192] : List Int)), (catalog_row.mk (⟨#[114, 115, 97]⟩ : ByteArray) 2 1 ([] : (List Int)) ([] : (List Int))), (catalog_row.mk (⟨#[100, 115, 97]⟩ : ByteArray) 2 1 ([] : (List Int)) ([] : (List Int))), (catalog_row.mk (⟨#[101, 99, 100, 115, 97]⟩ : ByteArray) 2 2 ([] : (List Int)) ([] : (List Int))), (catalog_row.mk (⟨#[101, 100, 50, 53, 53, 49, 57]⟩ : ByteArray) 2 0 ([] : (List Int)) ([128] : List Int)), (catalog_row.mk (⟨#[109, 108, 100, 115, 97]⟩ : ByteArray) 2 3 ([44, 65, 87] : List Int) ([128, 192, 256] : List Int)), (catalog_row.mk (⟨#[114, 115, 97, 107, 120]⟩ : ByteArray) 3 1 ([] : (List Int)) ([] : (List Int))), (catalog_row.mk (⟨#[100, 104, 101]⟩ : ByteArray) 3 1 ([] : (List Int)) ([] : (List Int))), (catalog_row.mk (⟨#[101, 99, 100, 104, 101]⟩ : ByteArray) 3 2 ([] : (List Int)) ([] : (List Int))), (catalog_row.mk (⟨#[109, 108, 107, 101, 109]⟩ : ByteArray) 3 3 ([512, 768, 1024] : List Int) ([128, 192, 256] : List Int)), (catalog_row.mk (⟨#[114, 99, 52]⟩ : ByteArray) 4 3 ([40, 128] : List Int) ([40, 60] : List Int)), (catalog_row.mk (⟨#[100, 101, 115, 51]⟩ : ByteArray) 4 3 ([112, 168] : List Int) ([80, 112] : List Int)), (catalog_row.mk (⟨#[97, 101, 115, 99, 98, 99]⟩ : ByteArray) 4 3 ([128, 256] : List Int) ([128, 256] : List Int)), (catalog_row.mk (⟨#[97, 101, 115, 103, 99, 109]⟩ : ByteArray) 4 3 ([128, 256] : List Int) ([128, 256] : List Int)), (catalog_row.mk (⟨#[99, 104, 97, 99, 104, 97]⟩ : ByteArray) 4 0 ([] : (List Int)) ([256] : List Int)), (catalog_row.mk (⟨#[104, 109, 97, 99, 109, 100, 53]⟩ : ByteArray) 5 0 ([] : (List Int)) ([64] : List Int)), (catalog_row.mk (⟨#[104, 109, 97, 99, 115, 104, 97, 49]⟩ : ByteArray) 5 0 ([] : (List Int)) ([80] : List Int)), (catalog_row.mk (⟨#[104, 109, 97, 99, 115, 104, 97, 50, 53, 54]⟩ : ByteArray) 5 0 ([] : (List Int)) ([128] : List Int)), (catalog_row.mk (⟨#[97, 101, 97, 100]⟩ : ByteArray) 5 0 ([] : (List Int)) ([256] : List Int))] : List catalog_row)
noncomputable def g_catalog_of.j1 (alg : Int) (x9_1 : Bool) : Option (catalog_row × Bool) :=
  cond (x9_1)
    (some ((catalog_row.mk (⟨#[]⟩ : ByteArray) 0 0 ([] : (List Int)) ([] : (List Int))), false))
    ((g_catalog_rows).bind fun y =>
    (getI (arrL 23 y) alg).bind fun e =>
    some (e, true))
noncomputable def g_catalog_of (alg : Int) : Option (catalog_row × Bool) :=
  cond (decide (alg < 1))
    (g_catalog_of.j1 alg true)
    (g_catalog_of.j1 alg (decide (22 < alg)))
noncomputable def g_catalog_modulus.l1 (bits : Int) (x11_1 : Int) : Option (Lp (Int) (Int)) :=
  cond (decide (x11_1 < 5))
    ((getI ([([1024, 56] : List Int), ([2048, 80] : List Int), ([3072, 112] : List Int), ([7680, 128] : List Int), ([15360, 192] : List Int)] : List (List Int)) x11_1).bind fun e =>
    cond (decide (bits < (e[0]!)))
      (up (some (e[1]!)))
      (some (.next (W (x11_1 + 1)))))
    (up (
      some 256))
noncomputable def g_catalog_modulus (bits : Int) : Option (Int) :=
  loop (fun q' => g_catalog_modulus.l1 bits q') 0
noncomputable def g_slices_Index_int.l1 (s : (List Int)) (v : Int) (x8_1 : Int) : Option (Lp (Int) (Int)) :=
  cond (decide (x8_1 < (s.length : Int)))
    ((getI s x8_1).bind fun e =>
    cond (decide (v = e))
      (up (some x8_1))
      (some (.next (W (x8_1 + 1)))))
    (up (
      some (-1)))
noncomputable def g_slices_Index_int (s : (List Int)) (v : Int) : Option (Int) :=
  loop (fun q' => g_slices_Index_int.l1 s v q') 0
noncomputable def g_slices_Contains_int (s : (List Int)) (v : Int) : Option (Bool) :=
  (g_slices_Index_int s v).bind fun y =>
  some (decide (0 ≤ y))
noncomputable def g_catalog_Strength.j1 (u : api_Use) (x34_1 : Bool) : Option (Int) :=
  cond (x34_1)
    ((g_catalog_modulus u.Bits).bind fun y_2 =>
    some y_2)
    (some 0)
noncomputable def g_catalog_Strength (u : api_Use) : Option (Int) :=
  (g_catalog_of u.Alg).bind fun y =>
  cond (!y.2)
    (some 0)
    (cond (decide (y.1.way = 0))
      (cond (decide (u.Bits = 0))
        ((getI y.1.strengths 0).bind fun e =>
        some e)
        (some 0))
      (cond (decide (y.1.way = 1))
        (cond (decide (512 ≤ u.Bits))
          (g_catalog_Strength.j1 u (decide (u.Bits ≤ 16384)))
          (g_catalog_Strength.j1 u false))
        (cond (decide (y.1.way = 2))
          ((g_slices_Contains_int ([160, 224, 256, 384, 521] : List Int) u.Bits).bind fun y_3 =>
          cond (y_3)
            ((quoI u.Bits 2).bind fun q =>
            some q)
            (some 0))
          (cond (decide (y.1.way = 3))
            ((g_slices_Index_int y.1.sizes u.Bits).bind fun y_4 =>
            cond (decide (0 ≤ y_4))
              ((getI y.1.strengths y_4).bind fun e_2 =>
              some e_2)
              (some 0))
            (some 0)))))
noncomputable def g_catalog_Valid (u : api_Use) : Option (Bool) :=
  (g_catalog_Strength u).bind fun y =>
  some (decide (0 < y))
noncomputable def g_catalog_Named.j2 (x8_1 : Int) (x17_2 : Bool) : Option (Lp (Int) (Bool)) :=
  cond (x17_2)
    (up (some false))
    (some (.next (W (x8_1 + 1))))
noncomputable def g_catalog_Named.l1 (s : ByteArray) (x8_1 : Int) : Option (Lp (Int) (Bool)) :=
  cond (decide (x8_1 < ((toB s).length : Int)))
    ((getI (toB s) x8_1).bind fun e =>
    cond (decide ((e.toNat : Int) ≤ 32))
      (g_catalog_Named.j2 x8_1 true)
      (g_catalog_Named.j2 x8_1 (decide (126 < (e.toNat : Int)))))
    (up (
      cond (decide (1 ≤ (s.size : Int)))
        (some (decide ((s.size : Int) ≤ 32)))
        (some false)))
noncomputable def g_catalog_Named (s : ByteArray) : Option (Bool) :=
  loop (fun q' => g_catalog_Named.l1 s q') 0
noncomputable def g_certificate_Key (n : Int) : Option (Bool) :=
  cond (decide (0 ≤ n))
    (some (decide (n ≤ 2147483648)))
    (some false)
noncomputable def g_exception_Check.j4 (x53_3 : Int) (x87_4 : Bool) : Option (Lp (Int) (Int)) :=
  cond (x87_4)
    (up (some 26))
    (some (.next (W (x53_3 + 1))))
noncomputable def g_exception_Check.l3 (x' : api_Exception) (x53_3 : Int) : Option (Lp (Int) (Int)) :=
  cond (decide (x53_3 < (x'.Seals.length : Int)))
    ((getI x'.Seals x53_3).bind fun e =>
    (g_certificate_Key e.Key).bind fun y_3 =>
    cond (!y_3)
      (g_exception_Check.j4 x53_3 true)
      (cond (decide (e.Sum < 0))
        (g_exception_Check.j4 x53_3 true)
        (cond (decide (4294967296 ≤ e.Sum))
          (g_exception_Check.j4 x53_3 true)
          (cond (decide (0 < x53_3))
            ((getI x'.Seals (W (x53_3 - 1))).bind fun e_2 =>
            g_exception_Check.j4 x53_3 (decide (e.Key ≤ e_2.Key)))
            (g_exception_Check.j4 x53_3 false)))))
    (up (
      some 0))
noncomputable def g_exception_Check.j2 (x' : api_Exception) (x49_2 : Bool) : Option (Int) :=
  cond (x49_2)
    (some 26)
    (loop (fun q' => g_exception_Check.l3 x' q') 0)
noncomputable def g_exception_Check.j1 (x' : api_Exception) (x24_1 : Bool) : Option (Int) :=
  cond (x24_1)
    (some 26)
    (cond (decide (x'.Days.From < 0))
      (g_exception_Check.j2 x' true)
      (cond (decide (x'.Days.To ≤ x'.Days.From))
        (g_exception_Check.j2 x' true)
        (cond (decide (40001 < x'.Days.To))
          (g_exception_Check.j2 x' true)
          (g_exception_Check.j2 x' (decide (8 < (x'.Seals.length : Int)))))))
noncomputable def g_exception_Check (x' : api_Exception) : Option (Int) :=
  (g_catalog_Valid x'.Use).bind fun y =>
  cond (!y)
    (g_exception_Check.j1 x' true)
    (cond (decide (x'.Purpose < 1))
      (g_exception_Check.j1 x' true)
      (cond (decide (4 < x'.Purpose))
        (g_exception_Check.j1 x' true)
        ((g_catalog_Named x'.Endpoint).bind fun y_2 =>
        g_exception_Check.j1 x' (!y_2))))
noncomputable def g_der_Int.j3 (b_2 : List UInt8) (x43_3 : Bool) : Option (Lp (List UInt8) (api_Value)) :=
  cond (x43_3)
    ((slI b_2 1 (b_2.length : Int)).bind fun l_2 =>
    some (.next l_2))
    (up (
      some (api_Value.mk 2 b_2 false ([] : (List api_Value)))))
noncomputable def g_der_Int.l2 (b_2 : List UInt8) : Option (Lp (List UInt8) (api_Value)) :=
  cond (decide (1 < (b_2.length : Int)))
    ((getI b_2 0).bind fun e =>
    cond (decide ((e.toNat : Int) = 0))
      ((getI b_2 1).bind fun e_2 =>
      cond (decide ((e_2.toNat : Int) < 128))
        (g_der_Int.j3 b_2 true)
        (cond (decide ((e.toNat : Int) = 255))
          (g_der_Int.j3 b_2 (decide (128 ≤ (e_2.toNat : Int))))
          (g_der_Int.j3 b_2 false)))
      (cond (decide ((e.toNat : Int) = 255))
        ((getI b_2 1).bind fun e_3 =>
        g_der_Int.j3 b_2 (decide (128 ≤ (e_3.toNat : Int))))
        (g_der_Int.j3 b_2 false)))
    (g_der_Int.j3 b_2 false)
noncomputable def g_der_Int.l1 (n : Int) (i_1 : Int) (b_1 : List UInt8) : Option (Lp (Int × List UInt8) (api_Value)) :=
  cond (decide (0 ≤ i_1))
    ((shrK .u64 (IntKind.wrap .u64 n) i_1).bind fun q =>
    (appI 1 b_1 ([(u8 q)] : List UInt8)).bind fun l =>
    some (.next (W (i_1 - 8), l)))
    (up (
      loop (fun q' => g_der_Int.l2 q') b_1))
noncomputable def g_der_Int (n : Int) : Option (api_Value) :=
  loop (fun q' => g_der_Int.l1 n q'.1 q'.2) (56, ([] : List UInt8))
noncomputable def g_der_Text (s : ByteArray) : Option (api_Value) :=
  some (api_Value.mk 12 (toB s) false ([] : (List api_Value)))
noncomputable def g_bytes_Clone.j1 (b : (List UInt8)) (x4_1 : Bool) : Option ((List UInt8)) :=
  cond (x4_1)
    (some ([] : (List UInt8)))
    ((appI 1 ([] : List UInt8) b).bind fun l =>
    some l)
noncomputable def g_bytes_Clone (b : (List UInt8)) : Option ((List UInt8)) :=
  nilC (b)
    (g_bytes_Clone.j1 b true)
    (g_bytes_Clone.j1 b false)
noncomputable def g_der_copied.l1 (rec : (List api_Value) → Option ((List api_Value))) (l : (List api_Value)) (x8_1 : Int) (out_1 : List api_Value) : Option (Lp (Int × List api_Value) ((List api_Value))) :=
  cond (decide (x8_1 < (l.length : Int)))
    ((getI l x8_1).bind fun e =>
    (g_bytes_Clone e.Bytes).bind fun y =>
    (rec e.Elements).bind fun y_2 =>
    (appI 256 out_1 ([(api_Value.mk e.Tag y e.Nested y_2)] : List api_Value)).bind fun l_2 =>
    some (.next (W (x8_1 + 1), l_2)))
    (up (
      some out_1))
noncomputable def g_der_copied.F (rec : (List api_Value) → Option ((List api_Value))) (l : (List api_Value)) : Option ((List api_Value)) :=
  loop (fun q' => g_der_copied.l1 rec l q'.1 q'.2) (0, ([] : List api_Value))
noncomputable def g_der_copied (l : (List api_Value)) : Option ((List api_Value)) := fixT (fun rec (x : (List api_Value)) => g_der_copied.F (fun l => rec l) x) l
noncomputable def g_der_Of (l : (List api_Value)) : Option (api_Value) :=
  (g_der_copied l).bind fun y =>
  some (api_Value.mk 48 ([] : (List UInt8)) true y)
noncomputable def g_der_tag (n : Int) : Option (Bool) :=
  cond (decide (1 ≤ n))
    (cond (decide (n ≤ 255))
      (some (!decide ((andK .i64 n 31) = 31)))
      (some false))
    (some false)
noncomputable def g_der_formed_c1 (rec : api_Value → Option (Bool)) (x' : api_Value) : Option (Bool) :=
  (rec x').bind fun y =>
  some (!y)
noncomputable def g_slices_IndexFunc_api_Value.l1 (s : (List api_Value)) (f : api_Value → Option (Bool)) (x8_1 : Int) : Option (Lp (Int) (Int)) :=
  cond (decide (x8_1 < (s.length : Int)))
    ((getI s x8_1).bind fun e =>
    (f e).bind fun y =>
    cond (y)
      (up (some x8_1))
      (some (.next (W (x8_1 + 1)))))
    (up (
      some (-1)))
noncomputable def g_slices_IndexFunc_api_Value (rec : api_Value → Option (Bool)) (s : (List api_Value)) (f : api_Value → Option (Bool)) : Option (Int) :=
  loop (fun q' => g_slices_IndexFunc_api_Value.l1 s f q') 0
noncomputable def g_slices_ContainsFunc_api_Value (rec : api_Value → Option (Bool)) (s : (List api_Value)) (f : api_Value → Option (Bool)) : Option (Bool) :=
  (g_slices_IndexFunc_api_Value rec s f).bind fun y =>
  some (decide (0 ≤ y))
noncomputable def g_der_formed.j1 (rec : api_Value → Option (Bool)) (v : api_Value) (x36_1 : Bool) : Option (Bool) :=
  cond (x36_1)
    (some false)
    ((g_slices_ContainsFunc_api_Value rec v.Elements (fun x0 => g_der_formed_c1 rec x0)).bind fun y_2 =>
    some (!y_2))
noncomputable def g_der_formed.F (rec : api_Value → Option (Bool)) (v : api_Value) : Option (Bool) :=
  (g_der_tag v.Tag).bind fun y =>
  cond (!y)
    (g_der_formed.j1 rec v true)
    (cond (!decide (v.Nested = (!decide ((andK .i64 v.Tag 32) = 0))))
      (g_der_formed.j1 rec v true)
      (cond (v.Nested)
        (cond (decide (0 < (v.Bytes.length : Int)))
          (g_der_formed.j1 rec v true)
          (g_der_formed.j1 rec v false))
        (g_der_formed.j1 rec v (decide (0 < (v.Elements.length : Int))))))
noncomputable def g_der_formed (v : api_Value) : Option (Bool) := fixT (fun rec (x : api_Value) => g_der_formed.F (fun v => rec v) x) v
noncomputable def g_der_depth.l1 (rec : api_Value → Option (Int)) (v : api_Value) (most_1 : Int) (x9_1 : Int) : Option (Lp (Int × Int) (Int)) :=
  cond (decide (x9_1 < (v.Elements.length : Int)))
    ((getI v.Elements x9_1).bind fun e =>
    (rec e).bind fun y =>
    some (.next (max most_1 y, W (x9_1 + 1))))
    (up (
      some (W (most_1 + 1))))
noncomputable def g_der_depth.F (rec : api_Value → Option (Int)) (v : api_Value) : Option (Int) :=
  loop (fun q' => g_der_depth.l1 rec v q'.1 q'.2) (0, 0)
noncomputable def g_der_depth (v : api_Value) : Option (Int) := fixT (fun rec (x : api_Value) => g_der_depth.F (fun v => rec v) x) v
noncomputable def g_der_length.l2 (n : Int) (i_2 : Int) (b_2 : List UInt8) : Option (Lp (Int × List UInt8) ((List UInt8))) :=
  cond (decide (0 ≤ i_2))
    ((shrK .i64 n (W (8 * i_2))).bind fun q_2 =>
    (appI 1 b_2 ([(u8 q_2)] : List UInt8)).bind fun l_3 =>
    some (.next (W (i_2 - 1), l_3)))
    (up (
      some b_2))
noncomputable def g_der_length.l1 (b : List UInt8) (n : Int) (count_1 : Int) (m_1 : Int) : Option (Lp (Int × Int) ((List UInt8))) :=
  cond (decide (0 < m_1))
    ((shrK .i64 m_1 8).bind fun q =>
    some (.next (W (count_1 + 1), q)))
    (up (
      (appI 1 b ([(u8 (W (128 + count_1)))] : List UInt8)).bind fun l_2 =>
      loop (fun q' => g_der_length.l2 n q'.1 q'.2) (W (count_1 - 1), l_2)))
noncomputable def g_der_length (b : List UInt8) (n : Int) : Option ((List UInt8)) :=
  cond (decide (n < 128))
    ((appI 1 b ([(u8 n)] : List UInt8)).bind fun l =>
    some l)
    (loop (fun q' => g_der_length.l1 b n q'.1 q'.2) (0, n))
noncomputable def g_der_element (rec : api_Value → Option ((List UInt8))) (b : List UInt8) (v : api_Value) : Option ((List UInt8)) :=
  (rec v).bind fun y =>
  (appI 1 b ([(u8 v.Tag)] : List UInt8)).bind fun l =>
  (g_der_length l (y.length : Int)).bind fun y_2 =>
  (appI 1 y_2 y).bind fun l_2 =>
  some l_2
noncomputable def g_der_contents.l1 (rec : api_Value → Option ((List UInt8))) (v : api_Value) (x14_1 : Int) (out_1 : List UInt8) : Option (Lp (Int × List UInt8) ((List UInt8))) :=
  cond (decide (x14_1 < (v.Elements.length : Int)))
    ((getI v.Elements x14_1).bind fun e =>
    (g_der_element rec out_1 e).bind fun y =>
    some (.next (W (x14_1 + 1), y)))
    (up (
      some out_1))
noncomputable def g_der_contents.F (rec : api_Value → Option ((List UInt8))) (v : api_Value) : Option ((List UInt8)) :=
  cond (!v.Nested)
    (some v.Bytes)
    (loop (fun q' => g_der_contents.l1 rec v q'.1 q'.2) (0, ([] : List UInt8)))
noncomputable def g_der_contents (v : api_Value) : Option ((List UInt8)) := fixT (fun rec (x : api_Value) => g_der_contents.F (fun v => rec v) x) v
noncomputable def g_der_element_nil (v : api_Value) : Option ((List UInt8)) :=
  (g_der_contents v).bind fun y =>
  (appI 1 ([] : List UInt8) ([(u8 v.Tag)] : List UInt8)).bind fun l =>
  (g_der_length l (y.length : Int)).bind fun y_2 =>
  (appI 1 y_2 y).bind fun l_2 =>
  some l_2
noncomputable def g_der_Encode (v : api_Value) : Option ((List UInt8) × Int) :=
  (g_der_formed v).bind fun y =>
  cond (!y)
    (some (([] : (List UInt8)), 1))
    ((g_der_depth v).bind fun y_2 =>
    cond (decide (16 < y_2))
      (some (([] : (List UInt8)), 3))
      ((g_der_element_nil v).bind fun y_3 =>
      cond (decide (4096 < (y_3.length : Int)))
        (some (([] : (List UInt8)), 3))
        (some (y_3, 0))))
noncomputable def g_exception_Bytes (x' : api_Exception) : Option ((List UInt8) × Int) :=
  (g_exception_Check x').bind fun y =>
  cond (!decide (y = 0))
    (some (([] : (List UInt8)), y))
    ((g_der_Int x'.Use.Alg).bind fun y_2 =>
    (g_der_Int x'.Use.Bits).bind fun y_3 =>
    (g_der_Int x'.Purpose).bind fun y_4 =>
    (g_der_Text x'.Endpoint).bind fun y_5 =>
    (g_der_Int x'.Days.From).bind fun y_6 =>
    (g_der_Int x'.Days.To).bind fun y_7 =>
    (g_der_Of ([y_2, y_3, y_4, y_5, y_6, y_7] : List api_Value)).bind fun y_8 =>
    (g_der_Encode y_8).bind fun y_9 =>
    some (y_9.1, y_9.2))
noncomputable def g_slices_Clone_api_Seal.j1 (s : (List api_Seal)) (x4_1 : Bool) : Option ((List api_Seal)) :=
  cond (x4_1)
    (some ([] : (List api_Seal)))
    ((appI 32 ([] : List api_Seal) s).bind fun l =>
    some l)
noncomputable def g_slices_Clone_api_Seal (s : (List api_Seal)) : Option ((List api_Seal)) :=
  nilC (s)
    (g_slices_Clone_api_Seal.j1 s true)
    (g_slices_Clone_api_Seal.j1 s false)
noncomputable def g_exception_Sign_c1 (s : api_Seal) (c0 : Int) : Option (Bool) :=
  some (decide (s.Key = c0))
noncomputable def g_slices_IndexFunc_api_Seal.l1 (s : (List api_Seal)) (f : api_Seal → Option (Bool)) (x8_1 : Int) : Option (Lp (Int) (Int)) :=
  cond (decide (x8_1 < (s.length : Int)))
    ((getI s x8_1).bind fun e =>
    (f e).bind fun y =>
    cond (y)
      (up (some x8_1))
      (some (.next (W (x8_1 + 1)))))
    (up (
      some (-1)))
noncomputable def g_slices_IndexFunc_api_Seal (s : (List api_Seal)) (f : api_Seal → Option (Bool)) : Option (Int) :=
  loop (fun q' => g_slices_IndexFunc_api_Seal.l1 s f q') 0
noncomputable def g_slices_DeleteFunc_api_Seal.j2 (j_1 : Int) (i_2 : Int) (s_2 : List api_Seal) : Option (Lp (Int × Int × List api_Seal) ((List api_Seal))) :=
  some (.next (i_2, W (j_1 + 1), s_2))
noncomputable def g_slices_DeleteFunc_api_Seal.l1 (del : api_Seal → Option (Bool)) (i_1 : Int) (j_1 : Int) (s_1 : List api_Seal) : Option (Lp (Int × Int × List api_Seal) ((List api_Seal))) :=
  cond (decide (j_1 < (s_1.length : Int)))
    ((getI s_1 j_1).bind fun e =>
    (del e).bind fun y_2 =>
    cond (!y_2)
      ((getI s_1 i_1).bind fun e_2 =>
      g_slices_DeleteFunc_api_Seal.j2 j_1 (W (i_1 + 1)) (setI s_1 ((i_1).toNat) e))
      (g_slices_DeleteFunc_api_Seal.j2 j_1 i_1 s_1))
    (up (
      (slI s_1 i_1 (s_1.length : Int)).bind fun l =>
      (clrI s_1 ((i_1 : Int).toNat) (((s_1.length : Int) : Int).toNat - (i_1 : Int).toNat) ((api_Seal.mk 0 0) : api_Seal)).bind fun l_2 =>
      (slI l_2 0 i_1).bind fun l_3 =>
      some (l_2.take ((i_1 : Int).toNat - (0 : Int).toNat))))
noncomputable def g_slices_DeleteFunc_api_Seal (s : List api_Seal) (del : api_Seal → Option (Bool)) : Option ((List api_Seal)) :=
  (g_slices_IndexFunc_api_Seal s del).bind fun y =>
  cond (decide (y = (-1)))
    (some s)
    (loop (fun q' => g_slices_DeleteFunc_api_Seal.l1 del q'.1 q'.2.1 q'.2.2) (y, W (y + 1), s))
noncomputable def g_certificate_Sum.l1 (b : (List UInt8)) (s_1 : Int) (x8_1 : Int) : Option (Lp (Int × Int) (Int)) :=
  cond (decide (x8_1 < (b.length : Int)))
    ((getI b x8_1).bind fun e =>
    some (.next (IntKind.wrap .u32 ((xorK .u32 s_1 (IntKind.wrap .u32 (e.toNat : Int))) * 16777619), W (x8_1 + 1))))
    (up (
      some (W s_1)))
noncomputable def g_certificate_Sum (b : (List UInt8)) : Option (Int) :=
  loop (fun q' => g_certificate_Sum.l1 b q'.1 q'.2) (2166136261, 0)
noncomputable def g_math_bits_Len64.j3 (x_3 : Int) (n_3 : Int) : Option (Int) :=
  (idxT (⟨#[0, 1, 2, 2, 3, 3, 3, 3, 4, 4, 4, 4, 4, 4, 4, 4, 5, 5, 5, 5, 5, 5, 5, 5, 5, 5, 5, 5, 5, 5, 5, 5, 6, 6, 6, 6, 6, 6, 6, 6, 6, 6, 6, 6, 6, 6, 6, 6, 6, 6, 6, 6, 6, 6, 6, 6, 6, 6, 6, 6, 6, 6, 6, 6, 7, 7, 7, 7, 7, 7, 7, 7, 7, 7, 7, 7, 7, 7, 7, 7, 7, 7, 7, 7, 7, 7, 7, 7, 7, 7, 7, 7, 7, 7, 7, 7, 7, 7, 7, 7, 7, 7, 7, 7, 7, 7, 7, 7, 7, 7, 7, 7, 7, 7, 7, 7, 7, 7, 7, 7, 7, 7, 7, 7, 7, 7, 7, 7, 8, 8, 8, 8, 8, 8, 8, 8, 8, 8, 8, 8, 8, 8, 8, 8, 8, 8, 8, 8, 8, 8, 8, 8, 8, 8, 8, 8, 8, 8, 8, 8, 8, 8, 8, 8, 8, 8, 8, 8, 8, 8, 8, 8, 8, 8, 8, 8, 8, 8, 8, 8, 8, 8, 8, 8, 8, 8, 8, 8, 8, 8, 8, 8, 8, 8, 8, 8, 8, 8, 8, 8, 8, 8, 8, 8, 8, 8, 8, 8, 8, 8, 8, 8, 8, 8, 8, 8, 8, 8, 8, 8, 8, 8, 8, 8, 8, 8, 8, 8, 8, 8, 8, 8, 8, 8, 8, 8, 8, 8, 8, 8, 8, 8, 8, 8, 8, 8, 8, 8, 8, 8, 8, 8, 8, 8, 8, 8]⟩ : ByteArray) ((u8 x_3).toNat : Int)).bind fun c =>
  some (W (n_3 + (c.toNat : Int)))
noncomputable def g_math_bits_Len64.j2 (x_2 : Int) (n_2 : Int) : Option (Int) :=
  cond (decide (256 ≤ x_2))
    ((shrK .u64 x_2 8).bind fun q_3 =>
    g_math_bits_Len64.j3 q_3 (W (n_2 + 8)))
    (g_math_bits_Len64.j3 x_2 n_2)
noncomputable def g_math_bits_Len64.j1 (x_1 : Int) (n_1 : Int) : Option (Int) :=
  cond (decide (65536 ≤ x_1))
    ((shrK .u64 x_1 16).bind fun q_2 =>
    g_math_bits_Len64.j2 q_2 (W (n_1 + 16)))
    (g_math_bits_Len64.j2 x_1 n_1)
noncomputable def g_math_bits_Len64 (x' : Int) : Option (Int) :=
  cond (decide (4294967296 ≤ x'))
    ((shrK .u64 x' 32).bind fun q =>
    g_math_bits_Len64.j1 q 32)
    (g_math_bits_Len64.j1 x' 0)
noncomputable def g_math_bits_Len (x' : Int) : Option (Int) :=
  (g_math_bits_Len64 x').bind fun y =>
  some y
noncomputable def g_exception_Sign_c2 (a : api_Seal) (b : api_Seal) : Option (Int) :=
  some (W (a.Key - b.Key))
noncomputable def g_slices_insertionSortCmpFunc_api_Seal.j3 (i_1 : Int) (j_2 : Int) (data_2 : List api_Seal) (x34_3 : Bool) : Option (Lp (Int × List api_Seal) (Lp (Int × List api_Seal) ((List api_Seal)))) :=
  cond (x34_3)
    ((getI data_2 (W (j_2 - 1))).bind fun e_3 =>
    (getI data_2 j_2).bind fun e_4 =>
    (getI (setI data_2 ((j_2).toNat) e_3) (W (j_2 - 1))).bind fun e_5 =>
    some (.next (W (j_2 - 1), setI (setI data_2 ((j_2).toNat) e_3) ((W (j_2 - 1)).toNat) e_4)))
    (up (
      some (.next (W (i_1 + 1), data_2))))
noncomputable def g_slices_insertionSortCmpFunc_api_Seal.l2 (a : Int) (cmp : api_Seal → api_Seal → Option (Int)) (i_1 : Int) (j_2 : Int) (data_2 : List api_Seal) : Option (Lp (Int × List api_Seal) (Lp (Int × List api_Seal) ((List api_Seal)))) :=
  cond (decide (a < j_2))
    ((getI data_2 j_2).bind fun e =>
    (getI data_2 (W (j_2 - 1))).bind fun e_2 =>
    (cmp e e_2).bind fun y =>
    g_slices_insertionSortCmpFunc_api_Seal.j3 i_1 j_2 data_2 (decide (y < 0)))
    (g_slices_insertionSortCmpFunc_api_Seal.j3 i_1 j_2 data_2 false)
noncomputable def g_slices_insertionSortCmpFunc_api_Seal.l1 (a : Int) (b : Int) (cmp : api_Seal → api_Seal → Option (Int)) (i_1 : Int) (data_1 : List api_Seal) : Option (Lp (Int × List api_Seal) ((List api_Seal))) :=
  cond (decide (i_1 < b))
    (loop (fun q' => g_slices_insertionSortCmpFunc_api_Seal.l2 a cmp i_1 q'.1 q'.2) (i_1, data_1))
    (up (some data_1))
noncomputable def g_slices_insertionSortCmpFunc_api_Seal (data : List api_Seal) (a : Int) (b : Int) (cmp : api_Seal → api_Seal → Option (Int)) : Option ((List api_Seal)) :=
  loop (fun q' => g_slices_insertionSortCmpFunc_api_Seal.l1 a b cmp q'.1 q'.2) (W (a + 1), data)
noncomputable def g_slices_pdqsortCmpFunc_api_Seal.l1 (data : List api_Seal) (a : Int) (b : Int) (limit : Int) (cmp : api_Seal → api_Seal → Option (Int)) : Option (Lp (Unit) ((List api_Seal))) :=
  cond (decide ((W (b - a)) ≤ 12))
    ((g_slices_insertionSortCmpFunc_api_Seal data a b cmp).bind fun y =>
    up (some y))
    (cond (decide (limit = 0))
      (none)
      (none))
noncomputable def g_slices_pdqsortCmpFunc_api_Seal (data : List api_Seal) (a : Int) (b : Int) (limit : Int) (cmp : api_Seal → api_Seal → Option (Int)) : Option ((List api_Seal)) :=
  loop (fun _ => g_slices_pdqsortCmpFunc_api_Seal.l1 data a b limit cmp) ()
noncomputable def g_slices_SortFunc_api_Seal (x' : List api_Seal) (cmp : api_Seal → api_Seal → Option (Int)) : Option ((List api_Seal)) :=
  (g_math_bits_Len (IntKind.wrap .u64 (x'.length : Int))).bind fun y =>
  (g_slices_pdqsortCmpFunc_api_Seal x' 0 (x'.length : Int) y cmp).bind fun y_2 =>
  some y_2
noncomputable def g_exception_Sign (x' : api_Exception) (key : Int) : Option (api_Exception × Int) :=
  (g_exception_Bytes x').bind fun y =>
  cond (!decide (y.2 = 0))
    (some ((api_Exception.mk (api_Use.mk 0 0) 0 (⟨#[]⟩ : ByteArray) (api_Span.mk 0 0) ([] : (List api_Seal))), y.2))
    ((g_certificate_Key key).bind fun y_2 =>
    cond (!y_2)
      (some ((api_Exception.mk (api_Use.mk 0 0) 0 (⟨#[]⟩ : ByteArray) (api_Span.mk 0 0) ([] : (List api_Seal))), 2))
      ((g_slices_Clone_api_Seal x'.Seals).bind fun y_3 =>
      (g_slices_DeleteFunc_api_Seal y_3 (fun x0 => g_exception_Sign_c1 x0 key)).bind fun y_4 =>
      cond (decide ((y_4.length : Int) = 8))
        (some ((api_Exception.mk (api_Use.mk 0 0) 0 (⟨#[]⟩ : ByteArray) (api_Span.mk 0 0) ([] : (List api_Seal))), 3))
        ((g_certificate_Sum y.1).bind fun y_5 =>
        (appI 32 y_4 ([(api_Seal.mk key y_5)] : List api_Seal)).bind fun l =>
        (g_slices_SortFunc_api_Seal l (fun x0 x1 => g_exception_Sign_c2 x0 x1)).bind fun y_6 =>
        some ((api_Exception.mk x'.Use x'.Purpose x'.Endpoint x'.Days y_6), 0))))
noncomputable def g_exception_Valid.e3 (o : api_Owners) (count_3 : Int) : Option (Lp (Int) (Bool)) :=
  up (
    some (decide (o.Need ≤ count_3)))
noncomputable def g_exception_Valid.j4 (count_3 : Int) (x55_4 : Bool) : Option (Lp (Int) (Bool)) :=
  cond (x55_4)
    (some (.next (W (count_3 + 1))))
    (some (.next count_3))
noncomputable def g_exception_Valid.l3 (o : api_Owners) (y : (List UInt8) × Int) (kv : Int × Int) (count_3 : Int) : Option (Lp (Int) (Bool)) :=
  (g_certificate_Sum y.1).bind fun y_2 =>
  cond (decide (kv.2 = y_2))
    ((g_slices_Contains_int o.Keys kv.1).bind fun y_3 =>
    g_exception_Valid.j4 count_3 y_3)
    (g_exception_Valid.j4 count_3 false)
noncomputable def g_exception_Valid.l2 (x' : api_Exception) (o : api_Owners) (y : (List UInt8) × Int) (x29_2 : Int) (sums_2 : (List (Int × Int))) : Option (Lp (Int × (List (Int × Int))) (Bool)) :=
  cond (decide (x29_2 < (x'.Seals.length : Int)))
    ((getI x'.Seals x29_2).bind fun e =>
    some (.next (W (x29_2 + 1), mapPut sums_2 e.Key e.Sum)))
    (up (
      mloop (fun p' q' => g_exception_Valid.l3 o y p' q') (fun q' => g_exception_Valid.e3 o q') sums_2 0))
noncomputable def g_exception_Valid.j1 (x' : api_Exception) (o : api_Owners) (y : (List UInt8) × Int) (x24_1 : Bool) : Option (Bool) :=
  cond (x24_1)
    (some false)
    (loop (fun q' => g_exception_Valid.l2 x' o y q'.1 q'.2) (0, ([] : (List (Int × Int)))))
noncomputable def g_exception_Valid (x' : api_Exception) (o : api_Owners) : Option (Bool) :=
  (g_exception_Bytes x').bind fun y =>
  cond (!decide (y.2 = 0))
    (g_exception_Valid.j1 x' o y true)
    (g_exception_Valid.j1 x' o y (decide (o.Need < 1)))
noncomputable def g_exception_Covers (x' : api_Exception) (u : api_Use) (purpose : Int) (endpoint : ByteArray) (day : Int) : Option (Bool) :=
  cond (decide (x'.Use = u))
    (cond (decide (x'.Purpose = purpose))
      (cond (decide (x'.Endpoint = endpoint))
        (cond (decide (x'.Days.From ≤ day))
          (some (decide (day < x'.Days.To)))
          (some false))
        (some false))
      (some false))
    (some false)
noncomputable def g_law19_awake : Option (Bool) :=
  (g_exception_Sign (api_Exception.mk (api_Use.mk 1 0) 1 (⟨#[119, 101, 98]⟩ : ByteArray) (api_Span.mk 3 9) ([] : (List api_Seal))) 51).bind fun y =>
  (g_exception_Sign y.1 53).bind fun y_2 =>
  cond (decide (y.2 = 0))
    (cond (decide (y_2.2 = 0))
      ((g_exception_Valid y.1 (api_Owners.mk ([51, 52, 53] : List Int) 2)).bind fun y_3 =>
      cond (!y_3)
        ((g_exception_Valid y_2.1 (api_Owners.mk ([51, 52, 53] : List Int) 2)).bind fun y_4 =>
        cond (y_4)
          ((g_exception_Covers y_2.1 (api_Use.mk 1 0) 1 (⟨#[119, 101, 98]⟩ : ByteArray) 8).bind fun y_5 =>
          cond (y_5)
            ((g_exception_Covers y_2.1 (api_Use.mk 1 0) 1 (⟨#[119, 101, 98]⟩ : ByteArray) 9).bind fun y_6 =>
            some (!y_6))
            (some false))
          (some false))
        (some false))
      (some false))
    (some false)
noncomputable def g_make_Roll (l : (List Int)) : Option (cipherplanmake_Dice) :=
  some (cipherplanmake_Dice.mk l 0)
noncomputable def g_make_Mod (n : Int) (k : Int) : Option (Int) :=
  cond (decide (k < 1))
    (some 0)
    ((remI n k).bind fun q =>
    (remI (W (q + k)) k).bind fun q_2 =>
    some q_2)
noncomputable def g_make_Dice_Next (d : cipherplanmake_Dice) (n : Int) : Option (Int × cipherplanmake_Dice) :=
  cond (decide ((d.L.length : Int) ≤ d.At))
    (some (0, d))
    ((getI d.L (W ((W (d.At + 1)) - 1))).bind fun e =>
    (g_make_Mod e n).bind fun y =>
    some (y, (cipherplanmake_Dice.mk d.L (W (d.At + 1)))))
noncomputable def g_make_Owners (d : cipherplanmake_Dice) : Option (api_Owners × cipherplanmake_Dice) :=
  (g_make_Dice_Next d 3).bind fun y =>
  some ((api_Owners.mk ([51, 52, 53] : List Int) (W (1 + y.1))), y.2)
noncomputable def g_make_Dice_Of (d : cipherplanmake_Dice) (l : (List Int)) : Option (Int × cipherplanmake_Dice) :=
  (g_make_Dice_Next d (l.length : Int)).bind fun y =>
  (getI l y.1).bind fun e =>
  some (e, y.2)
noncomputable def g_make_size.j3 (d : cipherplanmake_Dice) (x40_3 : Bool) : Option (Int × cipherplanmake_Dice) :=
  cond (x40_3)
    ((g_make_Dice_Of d ([128, 256] : List Int)).bind fun y_7 =>
    some (y_7.1, y_7.2))
    (some (0, d))
noncomputable def g_make_size.j2 (d : cipherplanmake_Dice) (a : Int) (x14_2 : Bool) : Option (Int × cipherplanmake_Dice) :=
  cond (x14_2)
    ((g_make_Dice_Of d ([256, 160, 224, 384, 521] : List Int)).bind fun y_2 =>
    some (y_2.1, y_2.2))
    (cond (decide (a = 9))
      ((g_make_Dice_Of d ([65, 44, 87] : List Int)).bind fun y_3 =>
      some (y_3.1, y_3.2))
      (cond (decide (a = 13))
        ((g_make_Dice_Of d ([768, 512, 1024] : List Int)).bind fun y_4 =>
        some (y_4.1, y_4.2))
        (cond (decide (a = 14))
          ((g_make_Dice_Of d ([128, 40] : List Int)).bind fun y_5 =>
          some (y_5.1, y_5.2))
          (cond (decide (a = 15))
            ((g_make_Dice_Of d ([168, 112] : List Int)).bind fun y_6 =>
            some (y_6.1, y_6.2))
            (cond (decide (a = 16))
              (g_make_size.j3 d (decide (a = 16)))
              (g_make_size.j3 d (decide (a = 17))))))))
noncomputable def g_make_size.j1 (d : cipherplanmake_Dice) (a : Int) (x6_1 : Bool) : Option (Int × cipherplanmake_Dice) :=
  cond (x6_1)
    ((g_make_Dice_Of d ([2048, 1024, 512, 3072, 1023, 4096, 16384] : List Int)).bind fun y =>
    some (y.1, y.2))
    (cond (decide (a = 7))
      (g_make_size.j2 d a (decide (a = 7)))
      (g_make_size.j2 d a (decide (a = 12))))
noncomputable def g_make_size (d : cipherplanmake_Dice) (a : Int) : Option (Int × cipherplanmake_Dice) :=
  cond (decide (a = 5))
    (g_make_size.j1 d a (decide (a = 5)))
    (cond (decide (a = 6))
      (g_make_size.j1 d a (decide (a = 6)))
      (cond (decide (a = 10))
        (g_make_size.j1 d a (decide (a = 10)))
        (g_make_size.j1 d a (decide (a = 11)))))
noncomputable def g_make_Use (d : cipherplanmake_Dice) : Option (api_Use × cipherplanmake_Dice) :=
  (g_make_Dice_Next d 22).bind fun y =>
  (g_make_size y.2 (W (1 + y.1))).bind fun y_2 =>
  some ((api_Use.mk (W (1 + y.1)) y_2.1), y_2.2)
noncomputable def g_ref03_Name.j3 (i_2 : Int) (x27_3 : Bool) : Option (Lp (Int) (Bool)) :=
  cond (x27_3)
    (up (some false))
    (some (.next (W (i_2 + 1))))
noncomputable def g_ref03_Name.l2 (s : ByteArray) (i_2 : Int) : Option (Lp (Int) (Bool)) :=
  cond (decide (i_2 < (s.size : Int)))
    ((idxT s i_2).bind fun c =>
    cond (decide ((c.toNat : Int) < 33))
      (g_ref03_Name.j3 i_2 true)
      ((idxT s i_2).bind fun c_2 =>
      g_ref03_Name.j3 i_2 (decide (126 < (c_2.toNat : Int)))))
    (up (
      some true))
noncomputable def g_ref03_Name.j1 (s : ByteArray) (x11_1 : Bool) : Option (Bool) :=
  cond (x11_1)
    (some false)
    (loop (fun q' => g_ref03_Name.l2 s q') 0)
noncomputable def g_ref03_Name (s : ByteArray) : Option (Bool) :=
  cond (decide ((s.size : Int) < 1))
    (g_ref03_Name.j1 s true)
    (g_ref03_Name.j1 s (decide (32 < (s.size : Int))))
noncomputable def g_law19_ExceptionSeals.j7 (i_2 : Int) (y_7 : api_Exception × Int) (signed_6 : List Int) (y_8 : Bool) (x110_7 : Bool) : Option (Lp (Bool × Int × api_Exception × List Int) (Bool)) :=
  cond (x110_7)
    (up (some false))
    (some (.next (y_8, W (i_2 + 1), y_7.1, signed_6)))
noncomputable def g_law19_ExceptionSeals.j6 (y_4 : api_Owners × cipherplanmake_Dice) (was_2 : Bool) (i_2 : Int) (y_7 : api_Exception × Int) (signed_6 : List Int) : Option (Lp (Bool × Int × api_Exception × List Int) (Bool)) :=
  (g_exception_Valid y_7.1 y_4.1).bind fun y_8 =>
  cond (was_2)
    (cond (!y_8)
      (g_law19_ExceptionSeals.j7 i_2 y_7 signed_6 y_8 true)
      (g_law19_ExceptionSeals.j7 i_2 y_7 signed_6 y_8 (!decide (y_8 = (decide (y_4.1.Need ≤ (signed_6.length : Int)))))))
    (g_law19_ExceptionSeals.j7 i_2 y_7 signed_6 y_8 (!decide (y_8 = (decide (y_4.1.Need ≤ (signed_6.length : Int))))))
noncomputable def g_law19_ExceptionSeals.j5 (m_4 : Int) (old_5 : Bool) : Option (Lp (Bool × Int) (Lp (Bool × Int × api_Exception × List Int) (Bool))) :=
  some (.next (old_5, W (m_4 + 1)))
noncomputable def g_law19_ExceptionSeals.l4 (y_4 : api_Owners × cipherplanmake_Dice) (was_2 : Bool) (i_2 : Int) (signed_2 : List Int) (q : Int) (y_7 : api_Exception × Int) (old_4 : Bool) (m_4 : Int) : Option (Lp (Bool × Int) (Lp (Bool × Int × api_Exception × List Int) (Bool))) :=
  cond (decide (m_4 < (signed_2.length : Int)))
    (cond (old_4)
      (g_law19_ExceptionSeals.j5 m_4 true)
      ((getI signed_2 m_4).bind fun e_2 =>
      g_law19_ExceptionSeals.j5 m_4 (decide (e_2 = (W (50 + q))))))
    (up (
      cond (!old_4)
        ((appI 8 signed_2 ([W (50 + q)] : List Int)).bind fun l_2 =>
        g_law19_ExceptionSeals.j6 y_4 was_2 i_2 y_7 l_2)
        (g_law19_ExceptionSeals.j6 y_4 was_2 i_2 y_7 signed_2)))
noncomputable def g_law19_ExceptionSeals.j3 (y_4 : api_Owners × cipherplanmake_Dice) (was_2 : Bool) (i_2 : Int) (signed_2 : List Int) (q : Int) (y_7 : api_Exception × Int) (x72_3 : Bool) : Option (Lp (Bool × Int × api_Exception × List Int) (Bool)) :=
  cond (x72_3)
    (loop (fun q' => g_law19_ExceptionSeals.l4 y_4 was_2 i_2 signed_2 q y_7 q'.1 q'.2) (false, 0))
    (g_law19_ExceptionSeals.j6 y_4 was_2 i_2 y_7 signed_2)
noncomputable def g_law19_ExceptionSeals.l2 (keys : (List UInt8)) (y_4 : api_Owners × cipherplanmake_Dice) (y_5 : api_Use × cipherplanmake_Dice) (y_6 : Int × cipherplanmake_Dice) (was_2 : Bool) (i_2 : Int) (x_2 : api_Exception) (signed_2 : List Int) : Option (Lp (Bool × Int × api_Exception × List Int) (Bool)) :=
  cond (decide (i_2 < (keys.length : Int)))
    ((getI keys i_2).bind fun e =>
    (remI (e.toNat : Int) 5).bind fun q =>
    (g_exception_Sign x_2 (W (50 + q))).bind fun y_7 =>
    cond (!decide (y_7.2 = 0))
      (up (some false))
      (cond (decide (51 ≤ (W (50 + q))))
        (g_law19_ExceptionSeals.j3 y_4 was_2 i_2 signed_2 q y_7 (decide ((W (50 + q)) ≤ 53)))
        (g_law19_ExceptionSeals.j3 y_4 was_2 i_2 signed_2 q y_7 false)))
    (up (
      (g_exception_Check x_2).bind fun y_9 =>
      cond (decide (y_9 = 0))
        ((g_exception_Check (api_Exception.mk y_5.1 1 (⟨#[119, 101, 98]⟩ : ByteArray) (api_Span.mk 3 (xorK .i64 (W (10 + y_6.1)) 1)) x_2.Seals)).bind fun y_10 =>
        cond (decide (y_10 = 0))
          ((g_exception_Valid (api_Exception.mk y_5.1 1 (⟨#[119, 101, 98]⟩ : ByteArray) (api_Span.mk 3 (xorK .i64 (W (10 + y_6.1)) 1)) x_2.Seals) y_4.1).bind fun y_11 =>
          cond (!y_11)
            ((g_ref03_Name x_2.Endpoint).bind fun y_12 =>
            cond (y_12)
              ((g_law19_awake).bind fun y_13 =>
              some y_13)
              (some false))
            (some false))
          (some false))
        (some false)))
noncomputable def g_law19_ExceptionSeals.j1 (l : (List Int)) (keys : (List UInt8)) (x25_1 : Bool) : Option (Bool) :=
  cond (x25_1)
    ((g_law19_awake).bind fun y_2 =>
    some y_2)
    ((g_make_Roll l).bind fun y_3 =>
    (g_make_Owners y_3).bind fun y_4 =>
    (g_make_Use y_4.2).bind fun y_5 =>
    (g_make_Dice_Next y_5.2 100).bind fun y_6 =>
    loop (fun q' => g_law19_ExceptionSeals.l2 keys y_4 y_5 y_6 q'.1 q'.2.1 q'.2.2.1 q'.2.2.2) (false, 0, (api_Exception.mk y_5.1 1 (⟨#[119, 101, 98]⟩ : ByteArray) (api_Span.mk 3 (W (10 + y_6.1))) ([] : (List api_Seal))), ([] : List Int)))
noncomputable def g_law19_ExceptionSeals (l : (List Int)) (keys : (List UInt8)) : Option (Bool) :=
  (g_make_Light l).bind fun y =>
  cond (!y)
    (g_law19_ExceptionSeals.j1 l keys true)
    (g_law19_ExceptionSeals.j1 l keys (decide (8 < (keys.length : Int))))
end Go.Proofs.Ytmihjbejflcgkaa
