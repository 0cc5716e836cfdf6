/- Plain functions. -/
import Derived.Test.YtmbhoimeiahbaaaGreatPF
set_option linter.unusedVariables false
set_option linter.unusedSimpArgs false
namespace Go.Proofs.YtmbhoimeiahbaaaGreat
structure cipherplanmake_Dice where
  L : (List Int)
  At : Int
  deriving DecidableEq, Inhabited
structure api_Rule where
  Allow : Bool
  Alg : Int
  Below : Int
  Purpose : Int
  From : Int
  To : Int
  deriving DecidableEq, Inhabited
structure api_Keep where
  Purpose : Int
  Days : Int
  deriving DecidableEq, Inhabited
structure api_Policy where
  Rules : (List api_Rule)
  Keeps : (List api_Keep)
  deriving DecidableEq, Inhabited
structure api_Owners where
  Keys : (List Int)
  Need : Int
  deriving DecidableEq, Inhabited
structure api_Use where
  Alg : Int
  Bits : Int
  deriving DecidableEq, Inhabited
structure api_Span where
  From : Int
  To : Int
  deriving DecidableEq, Inhabited
structure api_Seal where
  Key : Int
  Sum : Int
  deriving DecidableEq, Inhabited
structure api_Exception where
  Use : api_Use
  Purpose : Int
  Endpoint : ByteArray
  Days : api_Span
  Seals : (List api_Seal)
  deriving DecidableEq, Inhabited
structure api_Value where
  Tag : Int
  Bytes : (List UInt8)
  Nested : Bool
  Elements : (List api_Value)
structure catalog_row where
  name : ByteArray
  kind : Int
  way : Int
  sizes : (List Int)
  strengths : (List Int)
  deriving DecidableEq, Inhabited
noncomputable def g_make_Light (l : (List Int)) : Option (Bool) :=
  some (decide ((l.length : Int) ≤ 400))
noncomputable def g_catalog_rows : Option ((List catalog_row)) :=
  some ([(catalog_row.mk (⟨#[]⟩ : ByteArray) 0 0 ([] : (List Int)) ([] : (List Int))), (catalog_row.mk (⟨#[109, 100, 53]⟩ : ByteArray) 1 0 ([] : (List Int)) ([18] : List Int)), (catalog_row.mk (⟨#[115, 104, 97, 49]⟩ : ByteArray) 1 0 ([] : (List Int)) ([60] : List Int)), (catalog_row.mk (⟨#[115, 104, 97, 50, 53, 54]⟩ : ByteArray) 1 0 ([] : (List Int)) ([128] : List Int)), (catalog_row.mk (⟨#[115, 104, 97, 51, 56, 52]⟩ : ByteArray) 1 0 ([] : (List Int)) ([192] : List Int)), (catalog_row.mk (⟨#[114, 115, 97]⟩ : ByteArray) 2 1 ([] : (List Int)) ([] : (List Int))), (catalog_row.mk (⟨#[100, 115, 97]⟩ : ByteArray) 2 1 ([] : (List Int)) ([] : (List Int))), (catalog_row.mk (⟨#[101, 99, 100, 115, 97]⟩ : ByteArray) 2 2 ([] : (List Int)) ([] : (List Int))), (catalog_row.mk (⟨#[101, 100, 50, 53, 53, 49, 57]⟩ : ByteArray) 2 0 ([] : (List Int)) ([128] : List Int)), (catalog_row.mk (⟨#[109, 108, 100, 115, 97]⟩ : ByteArray) 2 3 ([44, 65, 87] : List Int) ([128, 192, 256] : List Int)), (catalog_row.mk (⟨#[114, 115, 97, 107, 120]⟩ : ByteArray) 3 1 ([] : (List Int)) ([] : (List Int))), (catalog_row.mk (⟨#[100, 104, 101]⟩ : ByteArray) 3 1 ([] : (List Int)) ([] : (List Int))), (catalog_row.mk (⟨#[101, 99, 100, 104, 101]⟩ : ByteArray) 3 2 ([] : (List Int)) ([] : (List Int))), (catalog_row.mk (⟨#[109, 108, 107, 101, 109]⟩ : ByteArray) 3 3 ([512, 768, 1024] : List Int) ([128, 192, 256] : List Int)), (catalog_row.mk (⟨#[114, 99, 52]⟩ : ByteArray) 4 3 ([40, 128] : List Int) ([40, 60] : List Int)), (catalog_row.mk (⟨#[100, 101, 115, 51]⟩ : ByteArray) 4 3 ([112, 168] : List Int) ([80, 112] : List Int)), (catalog_row.mk (⟨#[97, 101, 115, 99, 98, 99]⟩ : ByteArray) 4 3 ([128, 256] : List Int) ([128, 256] : List Int)), (catalog_row.mk (⟨#[97, 101, 115, 103, 99, 109]⟩ : ByteArray) 4 3 ([128, 256] : List Int) ([128, 256] : List Int)), (catalog_row.mk (⟨#[99, 104, 97, 99, 104, 97]⟩ : ByteArray) 4 0 ([] : (List Int)) ([256] : List Int)), (catalog_row.mk (⟨#[104, 109, 97, 99, 109, 100, 53]⟩ : ByteArray) 5 0 ([] : (List Int)) ([64] : List Int)), (catalog_row.mk (⟨#[104, 109, 97, 99, 115, 104, 97, 49]⟩ : ByteArray) 5 0 ([] : (List Int)) ([80] : List Int)), (catalog_row.mk (⟨#[104, 109, 97, 99, 115, 104, 97, 50, 53, 54]⟩ : ByteArray) 5 0 ([] : (List Int)) ([128] : List Int)), (catalog_row.mk (⟨#[97, 101, 97, 100]⟩ : ByteArray) 5 0 ([] : (List Int)) ([256] : List Int))] : List catalog_row)
noncomputable def g_catalog_of.j1 (alg : Int) (x9_1 : Bool) : Option (catalog_row × Bool) :=
  cond (x9_1)
    (some ((catalog_row.mk (⟨#[]⟩ : ByteArray) 0 0 ([] : (List Int)) ([] : (List Int))), false))
    ((g_catalog_rows).bind fun y =>
    (getI (arrL 23 y) alg).bind fun e =>
    some (e, true))
noncomputable def g_catalog_of (alg : Int) : Option (catalog_row × Bool) :=
  cond (decide (alg < 1))
    (g_catalog_of.j1 alg true)
    (g_catalog_of.j1 alg (decide (22 < alg)))
noncomputable def g_catalog_modulus.l1 (bits : Int) (x11_1 : Int) : Option (Lp (Int) (Int)) :=
  cond (decide (x11_1 < 5))
    ((getI ([([1024, 56] : List Int), ([2048, 80] : List Int), ([3072, 112] : List Int), ([7680, 128] : List Int), ([15360, 192] : List Int)] : List (List Int)) x11_1).bind fun e =>
    cond (decide (bits < (e[0]!)))
      (up (some (e[1]!)))
      (some (.next (W (x11_1 + 1)))))
    (up (
      some 256))
noncomputable def g_catalog_modulus (bits : Int) : Option (Int) :=
  loop (fun q' => g_catalog_modulus.l1 bits q') 0
noncomputable def g_slices_Index_int.l1 (s : (List Int)) (v : Int) (x8_1 : Int) : Option (Lp (Int) (Int)) :=
  cond (decide (x8_1 < (s.length : Int)))
    ((getI s x8_1).bind fun e =>
    cond (decide (v = e))
      (up (some x8_1))
      (some (.next (W (x8_1 + 1)))))
    (up (
      some (-1)))
noncomputable def g_slices_Index_int (s : (List Int)) (v : Int) : Option (Int) :=
  loop (fun q' => g_slices_Index_int.l1 s v q') 0
noncomputable def g_slices_Contains_int (s : (List Int)) (v : Int) : Option (Bool) :=
  (g_slices_Index_int s v).bind fun y =>
  some (decide (0 ≤ y))
noncomputable def g_catalog_Strength.j1 (u : api_Use) (x34_1 : Bool) : Option (Int) :=
  cond (x34_1)
    ((g_catalog_modulus u.Bits).bind fun y_2 =>
    some y_2)
    (some 0)
noncomputable def g_catalog_Strength (u : api_Use) : Option (Int) :=
  (g_catalog_of u.Alg).bind fun y =>
  cond (!y.2)
    (some 0)
    (cond (decide (y.1.way = 0))
      (cond (decide (u.Bits = 0))
        ((getI y.1.strengths 0).bind fun e =>
        some e)
        (some 0))
      (cond (decide (y.1.way = 1))
        (cond (decide (512 ≤ u.Bits))
          (g_catalog_Strength.j1 u (decide (u.Bits ≤ 16384)))
          (g_catalog_Strength.j1 u false))
        (cond (decide (y.1.way = 2))
          ((g_slices_Contains_int ([160, 224, 256, 384, 521] : List Int) u.Bits).bind fun y_3 =>
          cond (y_3)
            ((quoI u.Bits 2).bind fun q =>
            some q)
            (some 0))
          (cond (decide (y.1.way = 3))
            ((g_slices_Index_int y.1.sizes u.Bits).bind fun y_4 =>
            cond (decide (0 ≤ y_4))
              ((getI y.1.strengths y_4).bind fun e_2 =>
              some e_2)
              (some 0))
            (some 0)))))
noncomputable def g_catalog_Valid (u : api_Use) : Option (Bool) :=
  (g_catalog_Strength u).bind fun y =>
  some (decide (0 < y))
noncomputable def g_catalog_Named.j2 (x8_1 : Int) (x17_2 : Bool) : Option (Lp (Int) (Bool)) :=
  cond (x17_2)
    (up (some false))
    (some (.next (W (x8_1 + 1))))
noncomputable def g_catalog_Named.l1 (s : ByteArray) (x8_1 : Int) : Option (Lp (Int) (Bool)) :=
  cond (decide (x8_1 < ((toB s).length : Int)))
    ((getI (toB s) x8_1).bind fun e =>
    cond (decide ((e.toNat : Int) ≤ 32))
      (g_catalog_Named.j2 x8_1 true)
      (g_catalog_Named.j2 x8_1 (decide (126 < (e.toNat : Int)))))
    (up (
      cond (decide (1 ≤ (s.size : Int)))
        (some (decide ((s.size : Int) ≤ 32)))
        (some false)))
noncomputable def g_catalog_Named (s : ByteArray) : Option (Bool) :=
  loop (fun q' => g_catalog_Named.l1 s q') 0
noncomputable def g_certificate_Key (n : Int) : Option (Bool) :=
  cond (decide (0 ≤ n))
    (some (decide (n ≤ 2147483648)))
    (some false)
noncomputable def g_exception_Check.j4 (x53_3 : Int) (x87_4 : Bool) : Option (Lp (Int) (Int)) :=
  cond (x87_4)
    (up (some 26))
    (some (.next (W (x53_3 + 1))))
noncomputable def g_exception_Check.l3 (x' : api_Exception) (x53_3 : Int) : Option (Lp (Int) (Int)) :=
  cond (decide (x53_3 < (x'.Seals.length : Int)))
    ((getI x'.Seals x53_3).bind fun e =>
    (g_certificate_Key e.Key).bind fun y_3 =>
    cond (!y_3)
      (g_exception_Check.j4 x53_3 true)
      (cond (decide (e.Sum < 0))
        (g_exception_Check.j4 x53_3 true)
        (cond (decide (4294967296 ≤ e.Sum))
          (g_exception_Check.j4 x53_3 true)
          (cond (decide (0 < x53_3))
            ((getI x'.Seals (W (x53_3 - 1))).bind fun e_2 =>
            g_exception_Check.j4 x53_3 (decide (e.Key ≤ e_2.Key)))
            (g_exception_Check.j4 x53_3 false)))))
    (up (
      some 0))
noncomputable def g_exception_Check.j2 (x' : api_Exception) (x49_2 : Bool) : Option (Int) :=
  cond (x49_2)
    (some 26)
    (loop (fun q' => g_exception_Check.l3 x' q') 0)
noncomputable def g_exception_Check.j1 (x' : api_Exception) (x24_1 : Bool) : Option (Int) :=
  cond (x24_1)
    (some 26)
    (cond (decide (x'.Days.From < 0))
      (g_exception_Check.j2 x' true)
      (cond (decide (x'.Days.To ≤ x'.Days.From))
        (g_exception_Check.j2 x' true)
        (cond (decide (40001 < x'.Days.To))
          (g_exception_Check.j2 x' true)
          (g_exception_Check.j2 x' (decide (8 < (x'.Seals.length : Int)))))))
noncomputable def g_exception_Check (x' : api_Exception) : Option (Int) :=
  (g_catalog_Valid x'.Use).bind fun y =>
  cond (!y)
    (g_exception_Check.j1 x' true)
    (cond (decide (x'.Purpose < 1))
      (g_exception_Check.j1 x' true)
      (cond (decide (4 < x'.Purpose))
        (g_exception_Check.j1 x' true)
        ((g_catalog_Named x'.Endpoint).bind fun y_2 =>
        g_exception_Check.j1 x' (!y_2))))
noncomputable def g_der_Int.j3 (b_2 : List UInt8) (x43_3 : Bool) : Option (Lp (List UInt8) (api_Value)) :=
  cond (x43_3)
    ((slI b_2 1 (b_2.length : Int)).bind fun l_2 =>
    some (.next l_2))
    (up (
      some (api_Value.mk 2 b_2 false ([] : (List api_Value)))))
noncomputable def g_der_Int.l2 (b_2 : List UInt8) : Option (Lp (List UInt8) (api_Value)) :=
  cond (decide (1 < (b_2.length : Int)))
    ((getI b_2 0).bind fun e =>
    cond (decide ((e.toNat : Int) = 0))
      ((getI b_2 1).bind fun e_2 =>
      cond (decide ((e_2.toNat : Int) < 128))
        (g_der_Int.j3 b_2 true)
        (cond (decide ((e.toNat : Int) = 255))
          (g_der_Int.j3 b_2 (decide (128 ≤ (e_2.toNat : Int))))
          (g_der_Int.j3 b_2 false)))
      (cond (decide ((e.toNat : Int) = 255))
        ((getI b_2 1).bind fun e_3 =>
        g_der_Int.j3 b_2 (decide (128 ≤ (e_3.toNat : Int))))
        (g_der_Int.j3 b_2 false)))
    (g_der_Int.j3 b_2 false)
noncomputable def g_der_Int.l1 (n : Int) (i_1 : Int) (b_1 : List UInt8) : Option (Lp (Int × List UInt8) (api_Value)) :=
  cond (decide (0 ≤ i_1))
    ((shrK .u64 (IntKind.wrap .u64 n) i_1).bind fun q =>
    (appI 1 b_1 ([(u8 q)] : List UInt8)).bind fun l =>
    some (.next (W (i_1 - 8), l)))
    (up (
      loop (fun q' => g_der_Int.l2 q') b_1))
noncomputable def g_der_Int (n : Int) : Option (api_Value) :=
  loop (fun q' => g_der_Int.l1 n q'.1 q'.2) (56, ([] : List UInt8))
noncomputable def g_der_Text (s : ByteArray) : Option (api_Value) :=
  some (api_Value.mk 12 (toB s) false ([] : (List api_Value)))
noncomputable def g_bytes_Clone.j1 (b : (List UInt8)) (x4_1 : Bool) : Option ((List UInt8)) :=
  cond (x4_1)
    (some ([] : (List UInt8)))
    ((appI 1 ([] : List UInt8) b).bind fun l =>
    some l)
noncomputable def g_bytes_Clone (b : (List UInt8)) : Option ((List UInt8)) :=
  nilC (b)
    (g_bytes_Clone.j1 b true)
    (g_bytes_Clone.j1 b false)
noncomputable def g_der_copied.l1 (rec : (List api_Value) → Option ((List api_Value))) (l : (List api_Value)) (x8_1 : Int) (out_1 : List api_Value) : Option (Lp (Int × List api_Value) ((List api_Value))) :=
  cond (decide (x8_1 < (l.length : Int)))
    ((getI l x8_1).bind fun e =>
    (g_bytes_Clone e.Bytes).bind fun y =>
    (rec e.Elements).bind fun y_2 =>
    (appI 256 out_1 ([(api_Value.mk e.Tag y e.Nested y_2)] : List api_Value)).bind fun l_2 =>
    some (.next (W (x8_1 + 1), l_2)))
    (up (
      some out_1))
noncomputable def g_der_copied.F (rec : (List api_Value) → Option ((List api_Value))) (l : (List api_Value)) : Option ((List api_Value)) :=
  loop (fun q' => g_der_copied.l1 rec l q'.1 q'.2) (0, ([] : List api_Value))
noncomputable def g_der_copied (l : (List api_Value)) : Option ((List api_Value)) := fixT (fun rec (x : (List api_Value)) => g_der_copied.F (fun l => rec l) x) l
noncomputable def g_der_Of (l : (List api_Value)) : Option (api_Value) :=
  (g_der_copied l).bind fun y =>
  some (api_Value.mk 48 ([] : (List UInt8)) true y)
noncomputable def g_der_tag (n : Int) : Option (Bool) :=
  cond (decide (1 ≤ n))
    (cond (decide (n ≤ 255))
      (some (!decide ((andK .i64 n 31) = 31)))
      (some false))
    (some false)
noncomputable def g_der_formed_c1 (rec : api_Value → Option (Bool)) (x' : api_Value) : Option (Bool) :=
  (rec x').bind fun y =>
  some (!y)
noncomputable def g_slices_IndexFunc_api_Value.l1 (s : (List api_Value)) (f : api_Value → Option (Bool)) (x8_1 : Int) : Option (Lp (Int) (Int)) :=
  cond (decide (x8_1 < (s.length : Int)))
    ((getI s x8_1).bind fun e =>
    (f e).bind fun y =>
    cond (y)
      (up (some x8_1))
      (some (.next (W (x8_1 + 1)))))
    (up (
      some (-1)))
noncomputable def g_slices_IndexFunc_api_Value (rec : api_Value → Option (Bool)) (s : (List api_Value)) (f : api_Value → Option (Bool)) : Option (Int) :=
  loop (fun q' => g_slices_IndexFunc_api_Value.l1 s f q') 0
noncomputable def g_slices_ContainsFunc_api_Value (rec : api_Value → Option (Bool)) (s : (List api_Value)) (f : api_Value → Option (Bool)) : Option (Bool) :=
  (g_slices_IndexFunc_api_Value rec s f).bind fun y =>
  some (decide (0 ≤ y))
noncomputable def g_der_formed.j1 (rec : api_Value → Option (Bool)) (v : api_Value) (x36_1 : Bool) : Option (Bool) :=
  cond (x36_1)
    (some false)
    ((g_slices_ContainsFunc_api_Value rec v.Elements (fun x0 => g_der_formed_c1 rec x0)).bind fun y_2 =>
    some (!y_2))
noncomputable def g_der_formed.F (rec : api_Value → Option (Bool)) (v : api_Value) : Option (Bool) :=
  (g_der_tag v.Tag).bind fun y =>
  cond (!y)
    (g_der_formed.j1 rec v true)
    (cond (!decide (v.Nested = (!decide ((andK .i64 v.Tag 32) = 0))))
      (g_der_formed.j1 rec v true)
      (cond (v.Nested)
        (cond (decide (0 < (v.Bytes.length : Int)))
          (g_der_formed.j1 rec v true)
          (g_der_formed.j1 rec v false))
        (g_der_formed.j1 rec v (decide (0 < (v.Elements.length : Int))))))
noncomputable def g_der_formed (v : api_Value) : Option (Bool) := fixT (fun rec (x : api_Value) => g_der_formed.F (fun v => rec v) x) v
noncomputable def g_der_depth.l1 (rec : api_Value → Option (Int)) (v : api_Value) (most_1 : Int) (x9_1 : Int) : Option (Lp (Int × Int) (Int)) :=
  cond (decide (x9_1 < (v.Elements.length : Int)))
    ((getI v.Elements x9_1).bind fun e =>
    (rec e).bind fun y =>
    some (.next (max most_1 y, W (x9_1 + 1))))
    (up (
      some (W (most_1 + 1))))
noncomputable def g_der_depth.F (rec : api_Value → Option (Int)) (v : api_Value) : Option (Int) :=
  loop (fun q' => g_der_depth.l1 rec v q'.1 q'.2) (0, 0)
noncomputable def g_der_depth (v : api_Value) : Option (Int) := fixT (fun rec (x : api_Value) => g_der_depth.F (fun v => rec v) x) v
noncomputable def g_der_length.l2 (n : Int) (i_2 : Int) (b_2 : List UInt8) : Option (Lp (Int × List UInt8) ((List UInt8))) :=
  cond (decide (0 ≤ i_2))
    ((shrK .i64 n (W (8 * i_2))).bind fun q_2 =>
    (appI 1 b_2 ([(u8 q_2)] : List UInt8)).bind fun l_3 =>
    some (.next (W (i_2 - 1), l_3)))
    (up (
      some b_2))
noncomputable def g_der_length.l1 (b : List UInt8) (n : Int) (count_1 : Int) (m_1 : Int) : Option (Lp (Int × Int) ((List UInt8))) :=
  cond (decide (0 < m_1))
    ((shrK .i64 m_1 8).bind fun q =>
    some (.next (W (count_1 + 1), q)))
    (up (
      (appI 1 b ([(u8 (W (128 + count_1)))] : List UInt8)).bind fun l_2 =>
      loop (fun q' => g_der_length.l2 n q'.1 q'.2) (W (count_1 - 1), l_2)))
noncomputable def g_der_length (b : List UInt8) (n : Int) : Option ((List UInt8)) :=
  cond (decide (n < 128))
    ((appI 1 b ([(u8 n)] : List UInt8)).bind fun l =>
    some l)
    (loop (fun q' => g_der_length.l1 b n q'.1 q'.2) (0, n))
noncomputable def g_der_element (rec : api_Value → Option ((List UInt8))) (b : List UInt8) (v : api_Value) : Option ((List UInt8)) :=
  (rec v).bind fun y =>
  (appI 1 b ([(u8 v.Tag)] : List UInt8)).bind fun l =>
  (g_der_length l (y.length : Int)).bind fun y_2 =>
  (appI 1 y_2 y).bind fun l_2 =>
  some l_2
noncomputable def g_der_contents.l1 (rec : api_Value → Option ((List UInt8))) (v : api_Value) (x14_1 : Int) (out_1 : List UInt8) : Option (Lp (Int × List UInt8) ((List UInt8))) :=
  cond (decide (x14_1 < (v.Elements.length : Int)))
    ((getI v.Elements x14_1).bind fun e =>
    (g_der_element rec out_1 e).bind fun y =>
    some (.next (W (x14_1 + 1), y)))
    (up (
      some out_1))
noncomputable def g_der_contents.F (rec : api_Value → Option ((List UInt8))) (v : api_Value) : Option ((List UInt8)) :=
  cond (!v.Nested)
    (some v.Bytes)
    (loop (fun q' => g_der_contents.l1 rec v q'.1 q'.2) (0, ([] : List UInt8)))
noncomputable def g_der_contents (v : api_Value) : Option ((List UInt8)) := fixT (fun rec (x : api_Value) => g_der_contents.F (fun v => rec v) x) v
noncomputable def g_der_element_nil (v : api_Value) : Option ((List UInt8)) :=
  (g_der_contents v).bind fun y =>
  (appI 1 ([] : List UInt8) ([(u8 v.Tag)] : List UInt8)).bind fun l =>
  (g_der_length l (y.length : Int)).bind fun y_2 =>
  (appI 1 y_2 y).bind fun l_2 =>
  some l_2
noncomputable def g_der_Encode (v : api_Value) : Option ((List UInt8) × Int) :=
  (g_der_formed v).bind fun y =>
  cond (!y)
    (some (([] : (List UInt8)), 1))
    ((g_der_depth v).bind fun y_2 =>
    cond (decide (16 < y_2))
      (some (([] : (List UInt8)), 3))
      ((g_der_element_nil v).bind fun y_3 =>
      cond (decide (4096 < (y_3.length : Int)))
        (some (([] : (List UInt8)), 3))
        (some (y_3, 0))))
noncomputable def g_exception_Bytes (x' : api_Exception) : Option ((List UInt8) × Int) :=
  (g_exception_Check x').bind fun y =>
  cond (!decide (y = 0))
    (some (([] : (List UInt8)), y))
    ((g_der_Int x'.Use.Alg).bind fun y_2 =>
    (g_der_Int x'.Use.Bits).bind fun y_3 =>
    (g_der_Int x'.Purpose).bind fun y_4 =>
    (g_der_Text x'.Endpoint).bind fun y_5 =>
    (g_der_Int x'.Days.From).bind fun y_6 =>
    (g_der_Int x'.Days.To).bind fun y_7 =>
    (g_der_Of ([y_2, y_3, y_4, y_5, y_6, y_7] : List api_Value)).bind fun y_8 =>
    (g_der_Encode y_8).bind fun y_9 =>
    some (y_9.1, y_9.2))
noncomputable def g_slices_Clone_api_Seal.j1 (s : (List api_Seal)) (x4_1 : Bool) : Option ((List api_Seal)) :=
  cond (x4_1)
    (some ([] : (List api_Seal)))
    ((appI 32 ([] : List api_Seal) s).bind fun l =>
    some l)
noncomputable def g_slices_Clone_api_Seal (s : (List api_Seal)) : Option ((List api_Seal)) :=
  nilC (s)
    (g_slices_Clone_api_Seal.j1 s true)
    (g_slices_Clone_api_Seal.j1 s false)
noncomputable def g_exception_Sign_c1 (s : api_Seal) (c0 : Int) : Option (Bool) :=
  some (decide (s.Key = c0))
noncomputable def g_slices_IndexFunc_api_Seal.l1 (s : (List api_Seal)) (f : api_Seal → Option (Bool)) (x8_1 : Int) : Option (Lp (Int) (Int)) :=
  cond (decide (x8_1 < (s.length : Int)))
    ((getI s x8_1).bind fun e =>
    (f e).bind fun y =>
    cond (y)
      (up (some x8_1))
      (some (.next (W (x8_1 + 1)))))
    (up (
      some (-1)))
noncomputable def g_slices_IndexFunc_api_Seal (s : (List api_Seal)) (f : api_Seal → Option (Bool)) : Option (Int) :=
  loop (fun q' => g_slices_IndexFunc_api_Seal.l1 s f q') 0
noncomputable def g_slices_DeleteFunc_api_Seal.j2 (j_1 : Int) (i_2 : Int) (s_2 : List api_Seal) : Option (Lp (Int × Int × List api_Seal) ((List api_Seal))) :=
  some (.next (i_2, W (j_1 + 1), s_2))
noncomputable def g_slices_DeleteFunc_api_Seal.l1 (del : api_Seal → Option (Bool)) (i_1 : Int) (j_1 : Int) (s_1 : List api_Seal) : Option (Lp (Int × Int × List api_Seal) ((List api_Seal))) :=
  cond (decide (j_1 < (s_1.length : Int)))
    ((getI s_1 j_1).bind fun e =>
    (del e).bind fun y_2 =>
    cond (!y_2)
      ((getI s_1 i_1).bind fun e_2 =>
      g_slices_DeleteFunc_api_Seal.j2 j_1 (W (i_1 + 1)) (setI s_1 ((i_1).toNat) e))
      (g_slices_DeleteFunc_api_Seal.j2 j_1 i_1 s_1))
    (up (
      (slI s_1 i_1 (s_1.length : Int)).bind fun l =>
      (clrI s_1 ((i_1 : Int).toNat) (((s_1.length : Int) : Int).toNat - (i_1 : Int).toNat) ((api_Seal.mk 0 0) : api_Seal)).bind fun l_2 =>
      (slI l_2 0 i_1).bind fun l_3 =>
      some (l_2.take ((i_1 : Int).toNat - (0 : Int).toNat))))
noncomputable def g_slices_DeleteFunc_api_Seal (s : List api_Seal) (del : api_Seal → Option (Bool)) : Option ((List api_Seal)) :=
  (g_slices_IndexFunc_api_Seal s del).bind fun y =>
  cond (decide (y = (-1)))
    (some s)
    (loop (fun q' => g_slices_DeleteFunc_api_Seal.l1 del q'.1 q'.2.1 q'.2.2) (y, W (y + 1), s))
noncomputable def g_certificate_Sum.l1 (b : (List UInt8)) (s_1 : Int) (x8_1 : Int) : Option (Lp (Int × Int) (Int)) :=
  cond (decide (x8_1 < (b.length : Int)))
    ((getI b x8_1).bind fun e =>
    some (.next (IntKind.wrap .u32 ((xorK .u32 s_1 (IntKind.wrap .u32 (e.toNat : Int))) * 16777619), W (x8_1 + 1))))
    (up (
      some (W s_1)))
noncomputable def g_certificate_Sum (b : (List UInt8)) : Option (Int) :=
  loop (fun q' => g_certificate_Sum.l1 b q'.1 q'.2) (2166136261, 0)
noncomputable def g_math_bits_Len64.j3 (x_3 : Int) (n_3 : Int) : Option (Int) :=
  (idxT (⟨#[0, 1, 2, 2, 3, 3, 3, 3, 4, 4, 4, 4, 4, 4, 4, 4, 5, 5, 5, 5, 5, 5, 5, 5, 5, 5, 5, 5, 5, 5, 5, 5, 6, 6, 6, 6, 6, 6, 6, 6, 6, 6, 6, 6, 6, 6, 6, 6, 6, 6, 6, 6, 6, 6, 6, 6, 6, 6, 6, 6, 6, 6, 6, 6, 7, 7, 7, 7, 7, 7, 7, 7, 7, 7, 7, 7, 7, 7, 7, 7, 7, 7, 7, 7, 7, 7, 7, 7, 7, 7, 7, 7, 7, 7, 7, 7, 7, 7, 7, 7, 7, 7, 7, 7, 7, 7, 7, 7, 7, 7, 7, 7, 7, 7, 7, 7, 7, 7, 7, 7, 7, 7, 7, 7, 7, 7, 7, 7, 8, 8, 8, 8, 8, 8, 8, 8, 8, 8, 8, 8, 8, 8, 8, 8, 8, 8, 8, 8, 8, 8, 8, 8, 8, 8, 8, 8, 8, 8, 8, 8, 8, 8, 8, 8, 8, 8, 8, 8, 8, 8, 8, 8, 8, 8, 8, 8, 8, 8, 8, 8, 8, 8, 8, 8, 8, 8, 8, 8, 8, 8, 8, 8, 8, 8, 8, 8, 8, 8, 8, 8, 8, 8, 8, 8, 8, 8, 8, 8, 8, 8, 8, 8, 8, 8, 8, 8, 8, 8, 8, 8, 8, 8, 8, 8, 8, 8, 8, 8, 8, 8, 8, 8, 8, 8, 8, 8, 8, 8, 8, 8, 8, 8, 8, 8, 8, 8, 8, 8, 8, 8, 8, 8, 8, 8, 8, 8]⟩ : ByteArray) ((u8 x_3).toNat : Int)).bind fun c =>
  some (W (n_3 + (c.toNat : Int)))
noncomputable def g_math_bits_Len64.j2 (x_2 : Int) (n_2 : Int) : Option (Int) :=
  cond (decide (256 ≤ x_2))
    ((shrK .u64 x_2 8).bind fun q_3 =>
    g_math_bits_Len64.j3 q_3 (W (n_2 + 8)))
    (g_math_bits_Len64.j3 x_2 n_2)
noncomputable def g_math_bits_Len64.j1 (x_1 : Int) (n_1 : Int) : Option (Int) :=
  cond (decide (65536 ≤ x_1))
    ((shrK .u64 x_1 16).bind fun q_2 =>
    g_math_bits_Len64.j2 q_2 (W (n_1 + 16)))
    (g_math_bits_Len64.j2 x_1 n_1)
noncomputable def g_math_bits_Len64 (x' : Int) : Option (Int) :=
  cond (decide (4294967296 ≤ x'))
    ((shrK .u64 x' 32).bind fun q =>
    g_math_bits_Len64.j1 q 32)
    (g_math_bits_Len64.j1 x' 0)
noncomputable def g_math_bits_Len (x' : Int) : Option (Int) :=
  (g_math_bits_Len64 x').bind fun y =>
  some y
noncomputable def g_exception_Sign_c2 (a : api_Seal) (b : api_Seal) : Option (Int) :=
  some (W (a.Key - b.Key))
noncomputable def g_slices_insertionSortCmpFunc_api_Seal.j3 (i_1 : Int) (j_2 : Int) (data_2 : List api_Seal) (x34_3 : Bool) : Option (Lp (Int × List api_Seal) (Lp (Int × List api_Seal) ((List api_Seal)))) :=
  cond (x34_3)
    ((getI data_2 (W (j_2 - 1))).bind fun e_3 =>
    (getI data_2 j_2).bind fun e_4 =>
    (getI (setI data_2 ((j_2).toNat) e_3) (W (j_2 - 1))).bind fun e_5 =>
    some (.next (W (j_2 - 1), setI (setI data_2 ((j_2).toNat) e_3) ((W (j_2 - 1)).toNat) e_4)))
    (up (
      some (.next (W (i_1 + 1), data_2))))
noncomputable def g_slices_insertionSortCmpFunc_api_Seal.l2 (a : Int) (cmp : api_Seal → api_Seal → Option (Int)) (i_1 : Int) (j_2 : Int) (data_2 : List api_Seal) : Option (Lp (Int × List api_Seal) (Lp (Int × List api_Seal) ((List api_Seal)))) :=
  cond (decide (a < j_2))
    ((getI data_2 j_2).bind fun e =>
    (getI data_2 (W (j_2 - 1))).bind fun e_2 =>
    (cmp e e_2).bind fun y =>
    g_slices_insertionSortCmpFunc_api_Seal.j3 i_1 j_2 data_2 (decide (y < 0)))
    (g_slices_insertionSortCmpFunc_api_Seal.j3 i_1 j_2 data_2 false)
noncomputable def g_slices_insertionSortCmpFunc_api_Seal.l1 (a : Int) (b : Int) (cmp : api_Seal → api_Seal → Option (Int)) (i_1 : Int) (data_1 : List api_Seal) : Option (Lp (Int × List api_Seal) ((List api_Seal))) :=
  cond (decide (i_1 < b))
    (loop (fun q' => g_slices_insertionSortCmpFunc_api_Seal.l2 a cmp i_1 q'.1 q'.2) (i_1, data_1))
    (up (some data_1))
noncomputable def g_slices_insertionSortCmpFunc_api_Seal (data : List api_Seal) (a : Int) (b : Int) (cmp : api_Seal → api_Seal → Option (Int)) : Option ((List api_Seal)) :=
  loop (fun q' => g_slices_insertionSortCmpFunc_api_Seal.l1 a b cmp q'.1 q'.2) (W (a + 1), data)
noncomputable def g_slices_pdqsortCmpFunc_api_Seal.l1 (data : List api_Seal) (a : Int) (b : Int) (limit : Int) (cmp : api_Seal → api_Seal → Option (Int)) : Option (Lp (Unit) ((List api_Seal))) :=
  cond (decide ((W (b - a)) ≤ 12))
    ((g_slices_insertionSortCmpFunc_api_Seal data a b cmp).bind fun y =>
    up (some y))
    (cond (decide (limit = 0))
      (none)
      (none))
noncomputable def g_slices_pdqsortCmpFunc_api_Seal (data : List api_Seal) (a : Int) (b : Int) (limit : Int) (cmp : api_Seal → api_Seal → Option (Int)) : Option ((List api_Seal)) :=
  loop (fun _ => g_slices_pdqsortCmpFunc_api_Seal.l1 data a b limit cmp) ()
noncomputable def g_slices_SortFunc_api_Seal (x' : List api_Seal) (cmp : api_Seal → api_Seal → Option (Int)) : Option ((List api_Seal)) :=
  (g_math_bits_Len (IntKind.wrap .u64 (x'.length : Int))).bind fun y =>
  (g_slices_pdqsortCmpFunc_api_Seal x' 0 (x'.length : Int) y cmp).bind fun y_2 =>
  some y_2
noncomputable def g_exception_Sign (x' : api_Exception) (key : Int) : Option (api_Exception × Int) :=
  (g_exception_Bytes x').bind fun y =>
  cond (!decide (y.2 = 0))
    (some ((api_Exception.mk (api_Use.mk 0 0) 0 (⟨#[]⟩ : ByteArray) (api_Span.mk 0 0) ([] : (List api_Seal))), y.2))
    ((g_certificate_Key key).bind fun y_2 =>
    cond (!y_2)
      (some ((api_Exception.mk (api_Use.mk 0 0) 0 (⟨#[]⟩ : ByteArray) (api_Span.mk 0 0) ([] : (List api_Seal))), 2))
      ((g_slices_Clone_api_Seal x'.Seals).bind fun y_3 =>
      (g_slices_DeleteFunc_api_Seal y_3 (fun x0 => g_exception_Sign_c1 x0 key)).bind fun y_4 =>
      cond (decide ((y_4.length : Int) = 8))
        (some ((api_Exception.mk (api_Use.mk 0 0) 0 (⟨#[]⟩ : ByteArray) (api_Span.mk 0 0) ([] : (List api_Seal))), 3))
        ((g_certificate_Sum y.1).bind fun y_5 =>
        (appI 32 y_4 ([(api_Seal.mk key y_5)] : List api_Seal)).bind fun l =>
        (g_slices_SortFunc_api_Seal l (fun x0 x1 => g_exception_Sign_c2 x0 x1)).bind fun y_6 =>
        some ((api_Exception.mk x'.Use x'.Purpose x'.Endpoint x'.Days y_6), 0))))
noncomputable def g_exception_Valid.e3 (o : api_Owners) (count_3 : Int) : Option (Lp (Int) (Bool)) :=
  up (
    some (decide (o.Need ≤ count_3)))
noncomputable def g_exception_Valid.j4 (count_3 : Int) (x55_4 : Bool) : Option (Lp (Int) (Bool)) :=
  cond (x55_4)
    (some (.next (W (count_3 + 1))))
    (some (.next count_3))
noncomputable def g_exception_Valid.l3 (o : api_Owners) (y : (List UInt8) × Int) (kv : Int × Int) (count_3 : Int) : Option (Lp (Int) (Bool)) :=
  (g_certificate_Sum y.1).bind fun y_2 =>
  cond (decide (kv.2 = y_2))
    ((g_slices_Contains_int o.Keys kv.1).bind fun y_3 =>
    g_exception_Valid.j4 count_3 y_3)
    (g_exception_Valid.j4 count_3 false)
noncomputable def g_exception_Valid.l2 (x' : api_Exception) (o : api_Owners) (y : (List UInt8) × Int) (x29_2 : Int) (sums_2 : (List (Int × Int))) : Option (Lp (Int × (List (Int × Int))) (Bool)) :=
  cond (decide (x29_2 < (x'.Seals.length : Int)))
    ((getI x'.Seals x29_2).bind fun e =>
    some (.next (W (x29_2 + 1), mapPut sums_2 e.Key e.Sum)))
    (up (
      mloop (fun p' q' => g_exception_Valid.l3 o y p' q') (fun q' => g_exception_Valid.e3 o q') sums_2 0))
noncomputable def g_exception_Valid.j1 (x' : api_Exception) (o : api_Owners) (y : (List UInt8) × Int) (x24_1 : Bool) : Option (Bool) :=
  cond (x24_1)
    (some false)
    (loop (fun q' => g_exception_Valid.l2 x' o y q'.1 q'.2) (0, ([] : (List (Int × Int)))))
noncomputable def g_exception_Valid (x' : api_Exception) (o : api_Owners) : Option (Bool) :=
  (g_exception_Bytes x').bind fun y =>
  cond (!decide (y.2 = 0))
    (g_exception_Valid.j1 x' o y true)
    (g_exception_Valid.j1 x' o y (decide (o.Need < 1)))
noncomputable def g_exception_Covers (x' : api_Exception) (u : api_Use) (purpose : Int) (endpoint : ByteArray) (day : Int) : Option (Bool) :=
  cond (decide (x'.Use = u))
    (cond (decide (x'.Purpose = purpose))
      (cond (decide (x'.Endpoint = endpoint))
        (cond (decide (x'.Days.From ≤ day))
          (some (decide (day < x'.Days.To)))
          (some false))
        (some false))
      (some false))
    (some false)
noncomputable def g_law19_awake : Option (Bool) :=
  (g_exception_Sign (api_Exception.mk (api_Use.mk 1 0) 1 (⟨#[119, 101, 98]⟩ : ByteArray) (api_Span.mk 3 9) ([] : (List api_Seal))) 51).bind fun y =>
  (g_exception_Sign y.1 53).bind fun y_2 =>
  cond (decide (y.2 = 0))
    (cond (decide (y_2.2 = 0))
      ((g_exception_Valid y.1 (api_Owners.mk ([51, 52, 53] : List Int) 2)).bind fun y_3 =>
      cond (!y_3)
        ((g_exception_Valid y_2.1 (api_Owners.mk ([51, 52, 53] : List Int) 2)).bind fun y_4 =>
        cond (y_4)
          ((g_exception_Covers y_2.1 (api_Use.mk 1 0) 1 (⟨#[119, 101, 98]⟩ : ByteArray) 8).bind fun y_5 =>
          cond (y_5)
            ((g_exception_Covers y_2.1 (api_Use.mk 1 0) 1 (⟨#[119, 101, 98]⟩ : ByteArray) 9).bind fun y_6 =>
            some (!y_6))
            (some false))
          (some false))
        (some false))
      (some false))
    (some false)
noncomputable def g_make_Roll (l : (List Int)) : Option (cipherplanmake_Dice) :=
  some (cipherplanmake_Dice.mk l 0)
noncomputable def g_make_Mod (n : Int) (k : Int) : Option (Int) :=
  cond (decide (k < 1))
    (some 0)
    ((remI n k).bind fun q =>
    (remI (W (q + k)) k).bind fun q_2 =>
    some q_2)
noncomputable def g_make_Dice_Next (d : cipherplanmake_Dice) (n : Int) : Option (Int × cipherplanmake_Dice) :=
  cond (decide ((d.L.length : Int) ≤ d.At))
    (some (0, d))
    ((getI d.L (W ((W (d.At + 1)) - 1))).bind fun e =>
    (g_make_Mod e n).bind fun y =>
    some (y, (cipherplanmake_Dice.mk d.L (W (d.At + 1)))))
noncomputable def g_make_Dice_One (d : cipherplanmake_Dice) (n : Int) : Option (Bool × cipherplanmake_Dice) :=
  (g_make_Dice_Next d n).bind fun y =>
  some (decide (y.1 = (W (n - 1))), y.2)
noncomputable def g_make_Dice_Of (d : cipherplanmake_Dice) (l : (List Int)) : Option (Int × cipherplanmake_Dice) :=
  (g_make_Dice_Next d (l.length : Int)).bind fun y =>
  (getI l y.1).bind fun e =>
  some (e, y.2)
noncomputable def g_make_Policy.j5 (i_1 : Int) (l_1 : List api_Rule) (y_2 : Bool × cipherplanmake_Dice) (y_3 : Int × cipherplanmake_Dice) (r_2 : Int) (r_3 : Int) (r_4 : Int) (d_5 : cipherplanmake_Dice) (r_5 : Int) : Option (Lp (Int × cipherplanmake_Dice × List api_Rule) (api_Policy × cipherplanmake_Dice)) :=
  (appI 288 l_1 ([(api_Rule.mk y_2.1 y_3.1 r_2 r_3 r_4 r_5)] : List api_Rule)).bind fun l =>
  some (.next (W (i_1 - 1), d_5, l))
noncomputable def g_make_Policy.j4 (i_1 : Int) (l_1 : List api_Rule) (y_2 : Bool × cipherplanmake_Dice) (y_3 : Int × cipherplanmake_Dice) (r_2 : Int) (r_3 : Int) (d_4 : cipherplanmake_Dice) (r_4 : Int) : Option (Lp (Int × cipherplanmake_Dice × List api_Rule) (api_Policy × cipherplanmake_Dice)) :=
  (g_make_Dice_One d_4 3).bind fun y_10 =>
  cond (y_10.1)
    ((g_make_Dice_Of y_10.2 ([20, 1, 200] : List Int)).bind fun y_11 =>
    g_make_Policy.j5 i_1 l_1 y_2 y_3 r_2 r_3 r_4 y_11.2 (W (r_4 + y_11.1)))
    (g_make_Policy.j5 i_1 l_1 y_2 y_3 r_2 r_3 r_4 y_10.2 40001)
noncomputable def g_make_Policy.j3 (i_1 : Int) (l_1 : List api_Rule) (y_2 : Bool × cipherplanmake_Dice) (y_3 : Int × cipherplanmake_Dice) (r_2 : Int) (d_3 : cipherplanmake_Dice) (r_3 : Int) : Option (Lp (Int × cipherplanmake_Dice × List api_Rule) (api_Policy × cipherplanmake_Dice)) :=
  (g_make_Dice_One d_3 2).bind fun y_8 =>
  cond (y_8.1)
    ((g_make_Dice_Of y_8.2 ([10, 30, 100, 7] : List Int)).bind fun y_9 =>
    g_make_Policy.j4 i_1 l_1 y_2 y_3 r_2 r_3 y_9.2 y_9.1)
    (g_make_Policy.j4 i_1 l_1 y_2 y_3 r_2 r_3 y_8.2 0)
noncomputable def g_make_Policy.j2 (i_1 : Int) (l_1 : List api_Rule) (y_2 : Bool × cipherplanmake_Dice) (y_3 : Int × cipherplanmake_Dice) (d_2 : cipherplanmake_Dice) (r_2 : Int) : Option (Lp (Int × cipherplanmake_Dice × List api_Rule) (api_Policy × cipherplanmake_Dice)) :=
  (g_make_Dice_One d_2 3).bind fun y_6 =>
  cond (y_6.1)
    ((g_make_Dice_Next y_6.2 4).bind fun y_7 =>
    g_make_Policy.j3 i_1 l_1 y_2 y_3 r_2 y_7.2 (W (1 + y_7.1)))
    (g_make_Policy.j3 i_1 l_1 y_2 y_3 r_2 y_6.2 0)
noncomputable def g_make_Policy.l6 (l_1 : List api_Rule) (i_6 : Int) (d_6 : cipherplanmake_Dice) (l_6 : List api_Keep) : Option (Lp (Int × cipherplanmake_Dice × List api_Keep) (api_Policy × cipherplanmake_Dice)) :=
  cond (decide (0 < i_6))
    ((g_make_Dice_Next d_6 4).bind fun y_13 =>
    (g_make_Dice_Of y_13.2 ([10, 100, 3000] : List Int)).bind fun y_14 =>
    (appI 32 l_6 ([(api_Keep.mk (W (1 + y_13.1)) y_14.1)] : List api_Keep)).bind fun l_2 =>
    some (.next (W (i_6 - 1), y_14.2, l_2)))
    (up (
      some ((api_Policy.mk l_1 l_6), d_6)))
noncomputable def g_make_Policy.l1 (i_1 : Int) (d_1 : cipherplanmake_Dice) (l_1 : List api_Rule) : Option (Lp (Int × cipherplanmake_Dice × List api_Rule) (api_Policy × cipherplanmake_Dice)) :=
  cond (decide (0 < i_1))
    ((g_make_Dice_One d_1 3).bind fun y_2 =>
    (g_make_Dice_Of y_2.2 ([14, 1, 2, 5, 15, 0, 16, 10, 20, 7] : List Int)).bind fun y_3 =>
    (g_make_Dice_One y_3.2 2).bind fun y_4 =>
    cond (y_4.1)
      ((g_make_Dice_Of y_4.2 ([2048, 256, 1024, 3072, 129] : List Int)).bind fun y_5 =>
      g_make_Policy.j2 i_1 l_1 y_2 y_3 y_5.2 y_5.1)
      (g_make_Policy.j2 i_1 l_1 y_2 y_3 y_4.2 0))
    (up (
      (g_make_Dice_Next d_1 3).bind fun y_12 =>
      loop (fun q' => g_make_Policy.l6 l_1 q'.1 q'.2.1 q'.2.2) (y_12.1, y_12.2, ([] : List api_Keep))))
noncomputable def g_make_Policy (d : cipherplanmake_Dice) : Option (api_Policy × cipherplanmake_Dice) :=
  (g_make_Dice_Next d 7).bind fun y =>
  loop (fun q' => g_make_Policy.l1 q'.1 q'.2.1 q'.2.2) (y.1, y.2, ([] : List api_Rule))
noncomputable def g_make_Owners (d : cipherplanmake_Dice) : Option (api_Owners × cipherplanmake_Dice) :=
  (g_make_Dice_Next d 3).bind fun y =>
  some ((api_Owners.mk ([51, 52, 53] : List Int) (W (1 + y.1))), y.2)
noncomputable def g_make_size.j3 (d : cipherplanmake_Dice) (x40_3 : Bool) : Option (Int × cipherplanmake_Dice) :=
  cond (x40_3)
    ((g_make_Dice_Of d ([128, 256] : List Int)).bind fun y_7 =>
    some (y_7.1, y_7.2))
    (some (0, d))
noncomputable def g_make_size.j2 (d : cipherplanmake_Dice) (a : Int) (x14_2 : Bool) : Option (Int × cipherplanmake_Dice) :=
  cond (x14_2)
    ((g_make_Dice_Of d ([256, 160, 224, 384, 521] : List Int)).bind fun y_2 =>
    some (y_2.1, y_2.2))
    (cond (decide (a = 9))
      ((g_make_Dice_Of d ([65, 44, 87] : List Int)).bind fun y_3 =>
      some (y_3.1, y_3.2))
      (cond (decide (a = 13))
        ((g_make_Dice_Of d ([768, 512, 1024] : List Int)).bind fun y_4 =>
        some (y_4.1, y_4.2))
        (cond (decide (a = 14))
          ((g_make_Dice_Of d ([128, 40] : List Int)).bind fun y_5 =>
          some (y_5.1, y_5.2))
          (cond (decide (a = 15))
            ((g_make_Dice_Of d ([168, 112] : List Int)).bind fun y_6 =>
            some (y_6.1, y_6.2))
            (cond (decide (a = 16))
              (g_make_size.j3 d (decide (a = 16)))
              (g_make_size.j3 d (decide (a = 17))))))))
noncomputable def g_make_size.j1 (d : cipherplanmake_Dice) (a : Int) (x6_1 : Bool) : Option (Int × cipherplanmake_Dice) :=
  cond (x6_1)
    ((g_make_Dice_Of d ([2048, 1024, 512, 3072, 1023, 4096, 16384] : List Int)).bind fun y =>
    some (y.1, y.2))
    (cond (decide (a = 7))
      (g_make_size.j2 d a (decide (a = 7)))
      (g_make_size.j2 d a (decide (a = 12))))
noncomputable def g_make_size (d : cipherplanmake_Dice) (a : Int) : Option (Int × cipherplanmake_Dice) :=
  cond (decide (a = 5))
    (g_make_size.j1 d a (decide (a = 5)))
    (cond (decide (a = 6))
      (g_make_size.j1 d a (decide (a = 6)))
      (cond (decide (a = 10))
        (g_make_size.j1 d a (decide (a = 10)))
        (g_make_size.j1 d a (decide (a = 11)))))
noncomputable def g_make_Use (d : cipherplanmake_Dice) : Option (api_Use × cipherplanmake_Dice) :=
  (g_make_Dice_Next d 22).bind fun y =>
  (g_make_size y.2 (W (1 + y.1))).bind fun y_2 =>
  some ((api_Use.mk (W (1 + y.1)) y_2.1), y_2.2)
noncomputable def g_make_Dice_Word (d : cipherplanmake_Dice) (l : (List ByteArray)) : Option (ByteArray × cipherplanmake_Dice) :=
  (g_make_Dice_Next d (l.length : Int)).bind fun y =>
  (getI l y.1).bind fun e =>
  some (e, y.2)
noncomputable def g_ref02_modulus.j1 (b : Int) (x3_1 : Bool) : Option (Int) :=
  cond (x3_1)
    (some 0)
    (cond (decide (b < 1024))
      (some 56)
      (cond (decide (b < 2048))
        (some 80)
        (cond (decide (b < 3072))
          (some 112)
          (cond (decide (b < 7680))
            (some 128)
            (cond (decide (b < 15360))
              (some 192)
              (some 256))))))
noncomputable def g_ref02_modulus (b : Int) : Option (Int) :=
  cond (decide (b < 512))
    (g_ref02_modulus.j1 b true)
    (g_ref02_modulus.j1 b (decide (16384 < b)))
noncomputable def g_ref02_among.l1 (b : Int) (sizes : (List Int)) (strengths : (List Int)) (i_1 : Int) : Option (Lp (Int) (Int)) :=
  cond (decide (i_1 < (sizes.length : Int)))
    ((getI sizes i_1).bind fun e =>
    cond (decide (e = b))
      ((getI strengths i_1).bind fun e_2 =>
      up (some e_2))
      (some (.next (W (i_1 + 1)))))
    (up (
      some 0))
noncomputable def g_ref02_among (b : Int) (sizes : (List Int)) (strengths : (List Int)) : Option (Int) :=
  loop (fun q' => g_ref02_among.l1 b sizes strengths q') 0
noncomputable def g_ref02_single.j2 (alg : Int) (x14_2 : Bool) : Option (Int) :=
  cond (x14_2)
    (some 256)
    (cond (decide (alg = 19))
      (some 64)
      (cond (decide (alg = 20))
        (some 80)
        (some 0)))
noncomputable def g_ref02_single.j1 (alg : Int) (x8_1 : Bool) : Option (Int) :=
  cond (x8_1)
    (some 128)
    (cond (decide (alg = 4))
      (some 192)
      (cond (decide (alg = 18))
        (g_ref02_single.j2 alg (decide (alg = 18)))
        (g_ref02_single.j2 alg (decide (alg = 22)))))
noncomputable def g_ref02_single (alg : Int) : Option (Int) :=
  cond (decide (alg = 1))
    (some 18)
    (cond (decide (alg = 2))
      (some 60)
      (cond (decide (alg = 3))
        (g_ref02_single.j1 alg (decide (alg = 3)))
        (cond (decide (alg = 8))
          (g_ref02_single.j1 alg (decide (alg = 8)))
          (g_ref02_single.j1 alg (decide (alg = 21))))))
noncomputable def g_ref02_Strength.j3 (u : api_Use) (x35_3 : Bool) : Option (Int) :=
  cond (x35_3)
    ((quoI u.Bits 2).bind fun q =>
    some q)
    (some 0)
noncomputable def g_ref02_Strength.j4 (u : api_Use) (x62_4 : Bool) : Option (Int) :=
  cond (x62_4)
    ((g_ref02_among u.Bits ([128, 256] : List Int) ([128, 256] : List Int)).bind fun y_6 =>
    some y_6)
    ((g_ref02_single u.Alg).bind fun y_7 =>
    (g_ref02_among u.Bits ([0] : List Int) ([y_7] : List Int)).bind fun y_8 =>
    some y_8)
noncomputable def g_ref02_Strength.j2 (u : api_Use) (x15_2 : Bool) : Option (Int) :=
  cond (x15_2)
    (cond (decide (u.Bits = 160))
      (g_ref02_Strength.j3 u true)
      (cond (decide (u.Bits = 224))
        (g_ref02_Strength.j3 u true)
        (cond (decide (u.Bits = 256))
          (g_ref02_Strength.j3 u true)
          (cond (decide (u.Bits = 384))
            (g_ref02_Strength.j3 u true)
            (g_ref02_Strength.j3 u (decide (u.Bits = 521)))))))
    (cond (decide (u.Alg = 9))
      ((g_ref02_among u.Bits ([44, 65, 87] : List Int) ([128, 192, 256] : List Int)).bind fun y_2 =>
      some y_2)
      (cond (decide (u.Alg = 13))
        ((g_ref02_among u.Bits ([512, 768, 1024] : List Int) ([128, 192, 256] : List Int)).bind fun y_3 =>
        some y_3)
        (cond (decide (u.Alg = 14))
          ((g_ref02_among u.Bits ([40, 128] : List Int) ([40, 60] : List Int)).bind fun y_4 =>
          some y_4)
          (cond (decide (u.Alg = 15))
            ((g_ref02_among u.Bits ([112, 168] : List Int) ([80, 112] : List Int)).bind fun y_5 =>
            some y_5)
            (cond (decide (u.Alg = 16))
              (g_ref02_Strength.j4 u (decide (u.Alg = 16)))
              (g_ref02_Strength.j4 u (decide (u.Alg = 17))))))))
noncomputable def g_ref02_Strength.j1 (u : api_Use) (x8_1 : Bool) : Option (Int) :=
  cond (x8_1)
    ((g_ref02_modulus u.Bits).bind fun y =>
    some y)
    (cond (decide (u.Alg = 7))
      (g_ref02_Strength.j2 u (decide (u.Alg = 7)))
      (g_ref02_Strength.j2 u (decide (u.Alg = 12))))
noncomputable def g_ref02_Strength (u : api_Use) : Option (Int) :=
  cond (decide (u.Alg = 5))
    (g_ref02_Strength.j1 u (decide (u.Alg = 5)))
    (cond (decide (u.Alg = 6))
      (g_ref02_Strength.j1 u (decide (u.Alg = 6)))
      (cond (decide (u.Alg = 10))
        (g_ref02_Strength.j1 u (decide (u.Alg = 10)))
        (g_ref02_Strength.j1 u (decide (u.Alg = 11)))))
noncomputable def g_ref02_Valid (u : api_Use) : Option (Bool) :=
  (g_ref02_Strength u).bind fun y =>
  some (decide (0 < y))
noncomputable def g_ref03_Name.j3 (i_2 : Int) (x27_3 : Bool) : Option (Lp (Int) (Bool)) :=
  cond (x27_3)
    (up (some false))
    (some (.next (W (i_2 + 1))))
noncomputable def g_ref03_Name.l2 (s : ByteArray) (i_2 : Int) : Option (Lp (Int) (Bool)) :=
  cond (decide (i_2 < (s.size : Int)))
    ((idxT s i_2).bind fun c =>
    cond (decide ((c.toNat : Int) < 33))
      (g_ref03_Name.j3 i_2 true)
      ((idxT s i_2).bind fun c_2 =>
      g_ref03_Name.j3 i_2 (decide (126 < (c_2.toNat : Int)))))
    (up (
      some true))
noncomputable def g_ref03_Name.j1 (s : ByteArray) (x11_1 : Bool) : Option (Bool) :=
  cond (x11_1)
    (some false)
    (loop (fun q' => g_ref03_Name.l2 s q') 0)
noncomputable def g_ref03_Name (s : ByteArray) : Option (Bool) :=
  cond (decide ((s.size : Int) < 1))
    (g_ref03_Name.j1 s true)
    (g_ref03_Name.j1 s (decide (32 < (s.size : Int))))
noncomputable def g_ref19_Check.j3 (i_2 : Int) (x97_3 : Bool) : Option (Lp (Int) (Int)) :=
  cond (x97_3)
    (up (some 26))
    (some (.next (W (i_2 + 1))))
noncomputable def g_ref19_Check.l2 (x' : api_Exception) (i_2 : Int) : Option (Lp (Int) (Int)) :=
  cond (decide (i_2 < (x'.Seals.length : Int)))
    ((getI x'.Seals i_2).bind fun e =>
    cond (decide (e.Key < 0))
      (g_ref19_Check.j3 i_2 true)
      (cond (decide (2147483648 < e.Key))
        (g_ref19_Check.j3 i_2 true)
        (cond (decide (e.Sum < 0))
          (g_ref19_Check.j3 i_2 true)
          (cond (decide (4294967296 ≤ e.Sum))
            (g_ref19_Check.j3 i_2 true)
            (cond (decide (0 < i_2))
              ((getI x'.Seals (W (i_2 - 1))).bind fun e_2 =>
              g_ref19_Check.j3 i_2 (decide (e.Key ≤ e_2.Key)))
              (g_ref19_Check.j3 i_2 false))))))
    (up (
      some 0))
noncomputable def g_ref19_Check.j1 (x' : api_Exception) (x51_1 : Bool) : Option (Int) :=
  cond (x51_1)
    (some 26)
    (loop (fun q' => g_ref19_Check.l2 x' q') 0)
noncomputable def g_ref19_Check (x' : api_Exception) : Option (Int) :=
  (g_ref02_Valid x'.Use).bind fun y =>
  cond (!y)
    (g_ref19_Check.j1 x' true)
    (cond (decide (x'.Purpose < 1))
      (g_ref19_Check.j1 x' true)
      (cond (decide (4 < x'.Purpose))
        (g_ref19_Check.j1 x' true)
        ((g_ref03_Name x'.Endpoint).bind fun y_2 =>
        cond (!y_2)
          (g_ref19_Check.j1 x' true)
          (cond (decide (x'.Days.From < 0))
            (g_ref19_Check.j1 x' true)
            (cond (decide (x'.Days.To ≤ x'.Days.From))
              (g_ref19_Check.j1 x' true)
              (cond (decide (40001 < x'.Days.To))
                (g_ref19_Check.j1 x' true)
                (g_ref19_Check.j1 x' (decide (8 < (x'.Seals.length : Int))))))))))
noncomputable def g_ref01_Int.j2 (x_1 : Int) (b_1 : List UInt8) (x35_2 : Bool) : Option (Lp (Int × List UInt8) (api_Value)) :=
  cond (x35_2)
    ((appI 1 ([(u8 x_1)] : List UInt8) b_1).bind fun l =>
    (shrK .i64 x_1 8).bind fun q_2 =>
    some (.next (q_2, l)))
    (up (
      some (api_Value.mk 2 b_1 false ([] : (List api_Value)))))
noncomputable def g_ref01_Int.l1 (x_1 : Int) (b_1 : List UInt8) : Option (Lp (Int × List UInt8) (api_Value)) :=
  cond (!decide (x_1 = 0))
    (cond (!decide (x_1 = (-1)))
      (g_ref01_Int.j2 x_1 b_1 true)
      (cond (decide (x_1 = 0))
        ((getI b_1 0).bind fun e =>
        cond (decide (128 ≤ (e.toNat : Int)))
          (g_ref01_Int.j2 x_1 b_1 true)
          (cond (decide (x_1 = (-1)))
            (g_ref01_Int.j2 x_1 b_1 (decide ((e.toNat : Int) < 128)))
            (g_ref01_Int.j2 x_1 b_1 false)))
        (cond (decide (x_1 = (-1)))
          ((getI b_1 0).bind fun e_2 =>
          g_ref01_Int.j2 x_1 b_1 (decide ((e_2.toNat : Int) < 128)))
          (g_ref01_Int.j2 x_1 b_1 false))))
    (cond (decide (x_1 = 0))
      ((getI b_1 0).bind fun e_3 =>
      cond (decide (128 ≤ (e_3.toNat : Int)))
        (g_ref01_Int.j2 x_1 b_1 true)
        (cond (decide (x_1 = (-1)))
          (g_ref01_Int.j2 x_1 b_1 (decide ((e_3.toNat : Int) < 128)))
          (g_ref01_Int.j2 x_1 b_1 false)))
      (cond (decide (x_1 = (-1)))
        ((getI b_1 0).bind fun e_4 =>
        g_ref01_Int.j2 x_1 b_1 (decide ((e_4.toNat : Int) < 128)))
        (g_ref01_Int.j2 x_1 b_1 false)))
noncomputable def g_ref01_Int (n : Int) : Option (api_Value) :=
  (shrK .i64 n 8).bind fun q =>
  loop (fun q' => g_ref01_Int.l1 q'.1 q'.2) (q, ([(u8 n)] : List UInt8))
noncomputable def g_ref01_Text (s : ByteArray) : Option (api_Value) :=
  some (api_Value.mk 12 (toB s) false ([] : (List api_Value)))
noncomputable def g_ref01_copies.l1 (rec : (List api_Value) → Option ((List api_Value))) (l : (List api_Value)) (i_1 : Int) (out_1 : List api_Value) : Option (Lp (Int × List api_Value) ((List api_Value))) :=
  cond (decide (i_1 < (l.length : Int)))
    ((getI l i_1).bind fun e =>
    (appI 1 ([] : List UInt8) e.Bytes).bind fun l_2 =>
    (rec e.Elements).bind fun y =>
    (appI 256 out_1 ([(api_Value.mk e.Tag l_2 e.Nested y)] : List api_Value)).bind fun l_3 =>
    some (.next (W (i_1 + 1), l_3)))
    (up (
      some out_1))
noncomputable def g_ref01_copies.F (rec : (List api_Value) → Option ((List api_Value))) (l : (List api_Value)) : Option ((List api_Value)) :=
  loop (fun q' => g_ref01_copies.l1 rec l q'.1 q'.2) (0, ([] : List api_Value))
noncomputable def g_ref01_copies (l : (List api_Value)) : Option ((List api_Value)) := fixT (fun rec (x : (List api_Value)) => g_ref01_copies.F (fun l => rec l) x) l
noncomputable def g_ref01_List (l : (List api_Value)) : Option (api_Value) :=
  (g_ref01_copies l).bind fun y =>
  some (api_Value.mk 48 ([] : (List UInt8)) true y)
noncomputable def g_ref01_tag (n : Int) : Option (Bool) :=
  cond (decide (1 ≤ n))
    (cond (decide (n ≤ 255))
      ((remI n 32).bind fun q =>
      some (!decide (q = 31)))
      (some false))
    (some false)
noncomputable def g_ref01_formed.l2 (rec : api_Value → Option (Bool)) (v : api_Value) (i_2 : Int) : Option (Lp (Int) (Bool)) :=
  cond (decide (i_2 < (v.Elements.length : Int)))
    ((getI v.Elements i_2).bind fun e =>
    (rec e).bind fun y_2 =>
    cond (!y_2)
      (up (some false))
      (some (.next (W (i_2 + 1)))))
    (up (
      some true))
noncomputable def g_ref01_formed.j1 (rec : api_Value → Option (Bool)) (v : api_Value) (x38_1 : Bool) : Option (Bool) :=
  cond (x38_1)
    (some false)
    (loop (fun q' => g_ref01_formed.l2 rec v q') 0)
noncomputable def g_ref01_formed.F (rec : api_Value → Option (Bool)) (v : api_Value) : Option (Bool) :=
  (g_ref01_tag v.Tag).bind fun y =>
  cond (!y)
    (g_ref01_formed.j1 rec v true)
    ((quoI v.Tag 32).bind fun q =>
    (remI q 2).bind fun q_2 =>
    cond (!decide (v.Nested = (decide (q_2 = 1))))
      (g_ref01_formed.j1 rec v true)
      (cond (v.Nested)
        (cond (decide (0 < (v.Bytes.length : Int)))
          (g_ref01_formed.j1 rec v true)
          (g_ref01_formed.j1 rec v false))
        (g_ref01_formed.j1 rec v (decide (0 < (v.Elements.length : Int))))))
noncomputable def g_ref01_formed (v : api_Value) : Option (Bool) := fixT (fun rec (x : api_Value) => g_ref01_formed.F (fun v => rec v) x) v
noncomputable def g_ref01_depth.l1 (rec : api_Value → Option (Int)) (v : api_Value) (d_1 : Int) (i_1 : Int) : Option (Lp (Int × Int) (Int)) :=
  cond (decide (i_1 < (v.Elements.length : Int)))
    ((getI v.Elements i_1).bind fun e =>
    (rec e).bind fun y =>
    some (.next (max d_1 y, W (i_1 + 1))))
    (up (
      some (W (d_1 + 1))))
noncomputable def g_ref01_depth.F (rec : api_Value → Option (Int)) (v : api_Value) : Option (Int) :=
  loop (fun q' => g_ref01_depth.l1 rec v q'.1 q'.2) (0, 0)
noncomputable def g_ref01_depth (v : api_Value) : Option (Int) := fixT (fun rec (x : api_Value) => g_ref01_depth.F (fun v => rec v) x) v
noncomputable def g_ref01_length.l1 (n_1 : Int) (b_1 : List UInt8) : Option (Lp (Int × List UInt8) ((List UInt8))) :=
  cond (decide (0 < n_1))
    ((remI n_1 256).bind fun q =>
    (appI 1 ([(u8 q)] : List UInt8) b_1).bind fun l =>
    (quoI n_1 256).bind fun q_2 =>
    some (.next (q_2, l)))
    (up (
      (appI 1 ([(u8 (W (128 + (b_1.length : Int))))] : List UInt8) b_1).bind fun l_2 =>
      some l_2))
noncomputable def g_ref01_length (n : Int) : Option ((List UInt8)) :=
  cond (decide (n < 128))
    (some ([(u8 n)] : List UInt8))
    (loop (fun q' => g_ref01_length.l1 q'.1 q'.2) (n, ([] : List UInt8)))
noncomputable def g_ref01_put.l1 (rec : api_Value → Option ((List UInt8))) (v : api_Value) (i_1 : Int) (b_1 : List UInt8) : Option (Lp (Int × List UInt8) ((List UInt8))) :=
  cond (decide (i_1 < (v.Elements.length : Int)))
    ((getI v.Elements i_1).bind fun e =>
    (rec e).bind fun y =>
    (appI 1 b_1 y).bind fun l_2 =>
    some (.next (W (i_1 + 1), l_2)))
    (up (
      (g_ref01_length (b_1.length : Int)).bind fun y_2 =>
      (appI 1 ([(u8 v.Tag)] : List UInt8) y_2).bind fun l_3 =>
      (appI 1 l_3 b_1).bind fun l_4 =>
      some l_4))
noncomputable def g_ref01_put.F (rec : api_Value → Option ((List UInt8))) (v : api_Value) : Option ((List UInt8)) :=
  (appI 1 ([] : List UInt8) v.Bytes).bind fun l =>
  loop (fun q' => g_ref01_put.l1 rec v q'.1 q'.2) (0, l)
noncomputable def g_ref01_put (v : api_Value) : Option ((List UInt8)) := fixT (fun rec (x : api_Value) => g_ref01_put.F (fun v => rec v) x) v
noncomputable def g_ref01_Encode (v : api_Value) : Option ((List UInt8) × Int) :=
  (g_ref01_formed v).bind fun y =>
  cond (!y)
    (some (([] : (List UInt8)), 1))
    ((g_ref01_depth v).bind fun y_2 =>
    cond (decide (16 < y_2))
      (some (([] : (List UInt8)), 3))
      ((g_ref01_put v).bind fun y_3 =>
      cond (decide (4096 < (y_3.length : Int)))
        (some (([] : (List UInt8)), 3))
        (some (y_3, 0))))
noncomputable def g_ref19_Bytes (x' : api_Exception) : Option ((List UInt8) × Int) :=
  (g_ref19_Check x').bind fun y =>
  cond (!decide (y = 0))
    (some (([] : (List UInt8)), y))
    ((g_ref01_Int x'.Use.Alg).bind fun y_2 =>
    (g_ref01_Int x'.Use.Bits).bind fun y_3 =>
    (g_ref01_Int x'.Purpose).bind fun y_4 =>
    (g_ref01_Text x'.Endpoint).bind fun y_5 =>
    (g_ref01_Int x'.Days.From).bind fun y_6 =>
    (g_ref01_Int x'.Days.To).bind fun y_7 =>
    (g_ref01_List ([y_2, y_3, y_4, y_5, y_6, y_7] : List api_Value)).bind fun y_8 =>
    (g_ref01_Encode y_8).bind fun y_9 =>
    some (y_9.1, y_9.2))
noncomputable def g_ref03_Sum.l1 (b : (List UInt8)) (h_1 : Int) (i_1 : Int) : Option (Lp (Int × Int) (Int)) :=
  cond (decide (i_1 < (b.length : Int)))
    ((getI b i_1).bind fun e =>
    some (.next (IntKind.wrap .u32 ((xorK .u32 h_1 (IntKind.wrap .u32 (e.toNat : Int))) * 16777619), W (i_1 + 1))))
    (up (
      some (W h_1)))
noncomputable def g_ref03_Sum (b : (List UInt8)) : Option (Int) :=
  loop (fun q' => g_ref03_Sum.l1 b q'.1 q'.2) (2166136261, 0)
noncomputable def g_ref19_Sign.j5 (x' : api_Exception) (key : Int) (y_2 : Int) (k_2 : Int) (rest_5 : List api_Seal) : Option (api_Exception × Int) :=
  (slI x'.Seals 0 k_2).bind fun l_3 =>
  (appI 32 ([] : List api_Seal) l_3).bind fun l_4 =>
  (appI 32 l_4 ([(api_Seal.mk key y_2)] : List api_Seal)).bind fun l_5 =>
  (appI 32 l_5 rest_5).bind fun l_6 =>
  cond (decide (8 < (l_6.length : Int)))
    (some ((api_Exception.mk (api_Use.mk 0 0) 0 (⟨#[]⟩ : ByteArray) (api_Span.mk 0 0) ([] : (List api_Seal))), 3))
    (some ((api_Exception.mk x'.Use x'.Purpose x'.Endpoint x'.Days l_6), 0))
noncomputable def g_ref19_Sign.j4 (x' : api_Exception) (key : Int) (y_2 : Int) (k_2 : Int) (l : List api_Seal) (x63_4 : Bool) : Option (api_Exception × Int) :=
  cond (x63_4)
    ((slI l 1 (l.length : Int)).bind fun l_2 =>
    g_ref19_Sign.j5 x' key y_2 k_2 l_2)
    (g_ref19_Sign.j5 x' key y_2 k_2 l)
noncomputable def g_ref19_Sign.j3 (x' : api_Exception) (key : Int) (y_2 : Int) (k_2 : Int) (x46_3 : Bool) : Option (Lp (Int) (api_Exception × Int)) :=
  cond (x46_3)
    (some (.next (W (k_2 + 1))))
    (up (
      (slI x'.Seals k_2 (x'.Seals.length : Int)).bind fun l =>
      cond (decide (0 < (l.length : Int)))
        ((getI l 0).bind fun e_2 =>
        g_ref19_Sign.j4 x' key y_2 k_2 l (decide (e_2.Key = key)))
        (g_ref19_Sign.j4 x' key y_2 k_2 l false)))
noncomputable def g_ref19_Sign.l2 (x' : api_Exception) (key : Int) (y_2 : Int) (k_2 : Int) : Option (Lp (Int) (api_Exception × Int)) :=
  cond (decide (k_2 < (x'.Seals.length : Int)))
    ((getI x'.Seals k_2).bind fun e =>
    g_ref19_Sign.j3 x' key y_2 k_2 (decide (e.Key < key)))
    (g_ref19_Sign.j3 x' key y_2 k_2 false)
noncomputable def g_ref19_Sign.j1 (x' : api_Exception) (key : Int) (y : (List UInt8) × Int) (x26_1 : Bool) : Option (api_Exception × Int) :=
  cond (x26_1)
    (some ((api_Exception.mk (api_Use.mk 0 0) 0 (⟨#[]⟩ : ByteArray) (api_Span.mk 0 0) ([] : (List api_Seal))), 2))
    ((g_ref03_Sum y.1).bind fun y_2 =>
    loop (fun q' => g_ref19_Sign.l2 x' key y_2 q') 0)
noncomputable def g_ref19_Sign (x' : api_Exception) (key : Int) : Option (api_Exception × Int) :=
  (g_ref19_Bytes x').bind fun y =>
  cond (!decide (y.2 = 0))
    (some ((api_Exception.mk (api_Use.mk 0 0) 0 (⟨#[]⟩ : ByteArray) (api_Span.mk 0 0) ([] : (List api_Seal))), y.2))
    (cond (decide (key < 0))
      (g_ref19_Sign.j1 x' key y true)
      (g_ref19_Sign.j1 x' key y (decide (2147483648 < key))))
noncomputable def g_make_Exception.j4 (x_1 : Int) (x_1_2 : Int) (x_1_3 : Int) (x_1_4 : ByteArray) (x_1_5 : Int) (x_1_6 : Int) (b_4 : List Int) (b_4_2 : Int) (l_4 : List api_Seal) : Option (api_Exception × cipherplanmake_Dice) :=
  some ((api_Exception.mk (api_Use.mk x_1 x_1_2) x_1_3 x_1_4 (api_Span.mk x_1_5 x_1_6) l_4), (cipherplanmake_Dice.mk b_4 b_4_2))
noncomputable def g_make_Exception.j3 (x_1 : Int) (x_1_2 : Int) (x_1_3 : Int) (x_1_4 : ByteArray) (x_1_5 : Int) (x_1_6 : Int) (l_1 : List api_Seal) (x49_3 : Bool) (b_3 : List Int) (b_3_2 : Int) : Option (api_Exception × cipherplanmake_Dice) :=
  cond (x49_3)
    ((getI l_1 0).bind fun e =>
    g_make_Exception.j4 x_1 x_1_2 x_1_3 x_1_4 x_1_5 x_1_6 b_3 b_3_2 (setI l_1 ((0 : Int).toNat) (api_Seal.mk e.Key 7)))
    (g_make_Exception.j4 x_1 x_1_2 x_1_3 x_1_4 x_1_5 x_1_6 b_3 b_3_2 l_1)
noncomputable def g_make_Exception.l1 (y_4 : Int × cipherplanmake_Dice) (i_1 : Int) (x_1 : Int) (x_1_2 : Int) (x_1_3 : Int) (x_1_4 : ByteArray) (x_1_5 : Int) (x_1_6 : Int) (l_1 : List api_Seal) : Option (Lp (Int × Int × Int × Int × ByteArray × Int × Int × List api_Seal) (api_Exception × cipherplanmake_Dice)) :=
  cond (decide (0 < i_1))
    ((g_ref19_Sign (api_Exception.mk (api_Use.mk x_1 x_1_2) x_1_3 x_1_4 (api_Span.mk x_1_5 x_1_6) l_1) (W (50 + i_1))).bind fun y_5 =>
    some (.next (W (i_1 - 1), y_5.1.Use.Alg, y_5.1.Use.Bits, y_5.1.Purpose, y_5.1.Endpoint, y_5.1.Days.From, y_5.1.Days.To, y_5.1.Seals)))
    (up (
      cond (decide (0 < (l_1.length : Int)))
        ((g_make_Dice_One y_4.2 6).bind fun y_6 =>
        g_make_Exception.j3 x_1 x_1_2 x_1_3 x_1_4 x_1_5 x_1_6 l_1 y_6.1 y_6.2.L y_6.2.At)
        (g_make_Exception.j3 x_1 x_1_2 x_1_3 x_1_4 x_1_5 x_1_6 l_1 false y_4.2.L y_4.2.At)))
noncomputable def g_make_Exception (d : cipherplanmake_Dice) (u : api_Use) (endpoint : ByteArray) : Option (api_Exception × cipherplanmake_Dice) :=
  (g_make_Dice_Of d ([1, 1, 1, 2, 3] : List Int)).bind fun y =>
  (g_make_Dice_Of y.2 ([0, 10, 30] : List Int)).bind fun y_2 =>
  (g_make_Dice_Of y_2.2 ([40, 5, 200] : List Int)).bind fun y_3 =>
  (g_make_Dice_Next y_3.2 4).bind fun y_4 =>
  loop (fun q' => g_make_Exception.l1 y_4 q'.1 q'.2.1 q'.2.2.1 q'.2.2.2.1 q'.2.2.2.2.1 q'.2.2.2.2.2.1 q'.2.2.2.2.2.2.1 q'.2.2.2.2.2.2.2) (y_4.1, u.Alg, u.Bits, y.1, endpoint, y_2.1, W (y_2.1 + y_3.1), ([] : List api_Seal))
noncomputable def g_law19_made.j2 (b_2 : List Int) (b_2_2 : Int) (x_2 : Int) (x_2_2 : Int) (x_2_3 : Int) (x_2_4 : ByteArray) (x_2_5 : Int) (x_2_6 : Int) (l_2_2 : List api_Seal) : Option (api_Exception × cipherplanmake_Dice) :=
  some ((api_Exception.mk (api_Use.mk x_2 x_2_2) x_2_3 x_2_4 (api_Span.mk x_2_5 x_2_6) l_2_2), (cipherplanmake_Dice.mk b_2 b_2_2))
noncomputable def g_law19_made.l1 (y_3 : api_Exception × cipherplanmake_Dice) (i_1 : Int) (d_1 : List Int) (d_1_2 : Int) (l_1 : List api_Seal) : Option (Lp (Int × List Int × Int × List api_Seal) (api_Exception × cipherplanmake_Dice)) :=
  (g_make_Dice_Next (cipherplanmake_Dice.mk d_1 d_1_2) 3).bind fun y_11 =>
  cond (decide (i_1 < (W (6 + y_11.1))))
    ((appI 32 l_1 ([(api_Seal.mk (W (100 + i_1)) 0)] : List api_Seal)).bind fun l_2 =>
    some (.next (W (i_1 + 1), y_11.2.L, y_11.2.At, l_2)))
    (up (
      g_law19_made.j2 y_11.2.L y_11.2.At y_3.1.Use.Alg y_3.1.Use.Bits y_3.1.Purpose y_3.1.Endpoint y_3.1.Days.From y_3.1.Days.To l_1))
noncomputable def g_law19_made (d : cipherplanmake_Dice) : Option (api_Exception × cipherplanmake_Dice) :=
  (g_make_Use d).bind fun y =>
  (g_make_Dice_Word y.2 ([(⟨#[119, 101, 98]⟩ : ByteArray), (⟨#[100, 98]⟩ : ByteArray)] : List ByteArray)).bind fun y_2 =>
  (g_make_Exception y_2.2 y.1 y_2.1).bind fun y_3 =>
  (g_make_Dice_Next y_3.2 14).bind fun y_4 =>
  cond (decide (y_4.1 = 0))
    (g_law19_made.j2 y_4.2.L y_4.2.At 99 0 y_3.1.Purpose y_3.1.Endpoint y_3.1.Days.From y_3.1.Days.To y_3.1.Seals)
    (cond (decide (y_4.1 = 1))
      ((g_make_Dice_Of y_4.2 ([0, 5] : List Int)).bind fun y_5 =>
      g_law19_made.j2 y_5.2.L y_5.2.At y_3.1.Use.Alg y_3.1.Use.Bits y_5.1 y_3.1.Endpoint y_3.1.Days.From y_3.1.Days.To y_3.1.Seals)
      (cond (decide (y_4.1 = 2))
        ((g_make_Dice_Word y_4.2 ([(⟨#[]⟩ : ByteArray), (⟨#[97, 32, 98]⟩ : ByteArray)] : List ByteArray)).bind fun y_6 =>
        g_law19_made.j2 y_6.2.L y_6.2.At y_3.1.Use.Alg y_3.1.Use.Bits y_3.1.Purpose y_6.1 y_3.1.Days.From y_3.1.Days.To y_3.1.Seals)
        (cond (decide (y_4.1 = 3))
          ((g_make_Dice_Of y_4.2 ([9, -1, 0] : List Int)).bind fun y_7 =>
          (g_make_Dice_Of y_7.2 ([9, 40001, 40002] : List Int)).bind fun y_8 =>
          g_law19_made.j2 y_8.2.L y_8.2.At y_3.1.Use.Alg y_3.1.Use.Bits y_3.1.Purpose y_3.1.Endpoint y_7.1 y_8.1 y_3.1.Seals)
          (cond (decide (y_4.1 = 4))
            ((g_make_Dice_Of y_4.2 ([0, 2147483648, 2147483649] : List Int)).bind fun y_9 =>
            (g_make_Dice_Of y_9.2 ([4294967296, 5] : List Int)).bind fun y_10 =>
            (appI 32 y_3.1.Seals ([(api_Seal.mk y_9.1 y_10.1)] : List api_Seal)).bind fun l =>
            g_law19_made.j2 y_10.2.L y_10.2.At y_3.1.Use.Alg y_3.1.Use.Bits y_3.1.Purpose y_3.1.Endpoint y_3.1.Days.From y_3.1.Days.To l)
            (cond (decide (y_4.1 = 5))
              (loop (fun q' => g_law19_made.l1 y_3 q'.1 q'.2.1 q'.2.2.1 q'.2.2.2) (0, y_4.2.L, y_4.2.At, y_3.1.Seals))
              (g_law19_made.j2 y_4.2.L y_4.2.At y_3.1.Use.Alg y_3.1.Use.Bits y_3.1.Purpose y_3.1.Endpoint y_3.1.Days.From y_3.1.Days.To y_3.1.Seals))))))
noncomputable def g_law19_list.j3 (i_1 : Int) (l_1 : List api_Exception) (d_3 : cipherplanmake_Dice) (x_3 : Int) (x_3_2 : Int) (x_3_3 : Int) (x_3_4 : ByteArray) (x_3_5 : Int) (x_3_6 : Int) (l_3 : List api_Seal) : Option (Lp (Int × cipherplanmake_Dice × List api_Exception) ((List api_Exception) × cipherplanmake_Dice)) :=
  (appI 560 l_1 ([(api_Exception.mk (api_Use.mk x_3 x_3_2) x_3_3 x_3_4 (api_Span.mk x_3_5 x_3_6) l_3)] : List api_Exception)).bind fun l =>
  some (.next (W (i_1 - 1), d_3, l))
noncomputable def g_law19_list.j2 (i_1 : Int) (l_1 : List api_Exception) (y_3 : api_Exception × cipherplanmake_Dice) (x26_2 : Bool) (d_2 : cipherplanmake_Dice) : Option (Lp (Int × cipherplanmake_Dice × List api_Exception) ((List api_Exception) × cipherplanmake_Dice)) :=
  cond (x26_2)
    ((g_law19_made d_2).bind fun y_5 =>
    g_law19_list.j3 i_1 l_1 y_5.2 y_5.1.Use.Alg y_5.1.Use.Bits y_5.1.Purpose y_5.1.Endpoint y_5.1.Days.From y_5.1.Days.To y_5.1.Seals)
    (g_law19_list.j3 i_1 l_1 d_2 y_3.1.Use.Alg y_3.1.Use.Bits y_3.1.Purpose y_3.1.Endpoint y_3.1.Days.From y_3.1.Days.To y_3.1.Seals)
noncomputable def g_law19_list.l1 (u : api_Use) (odd : Bool) (i_1 : Int) (d_1 : cipherplanmake_Dice) (l_1 : List api_Exception) : Option (Lp (Int × cipherplanmake_Dice × List api_Exception) ((List api_Exception) × cipherplanmake_Dice)) :=
  cond (decide (0 < i_1))
    ((g_make_Dice_Word d_1 ([(⟨#[119, 101, 98]⟩ : ByteArray), (⟨#[119, 101, 98]⟩ : ByteArray), (⟨#[100, 98]⟩ : ByteArray)] : List ByteArray)).bind fun y_2 =>
    (g_make_Exception y_2.2 u y_2.1).bind fun y_3 =>
    cond (odd)
      ((g_make_Dice_One y_3.2 8).bind fun y_4 =>
      g_law19_list.j2 i_1 l_1 y_3 y_4.1 y_4.2)
      (g_law19_list.j2 i_1 l_1 y_3 false y_3.2))
    (up (
      some (l_1, d_1)))
noncomputable def g_law19_list (d : cipherplanmake_Dice) (u : api_Use) (odd : Bool) : Option ((List api_Exception) × cipherplanmake_Dice) :=
  (g_make_Dice_Next d 5).bind fun y =>
  loop (fun q' => g_law19_list.l1 u odd q'.1 q'.2.1 q'.2.2) (y.1, y.2, ([] : List api_Exception))
noncomputable def g_ref17_Ruled (r' : api_Rule) : Option (Bool) :=
  cond (decide (0 ≤ r'.Alg))
    (cond (decide (r'.Alg ≤ 22))
      (cond (decide (0 ≤ r'.Below))
        (cond (decide (r'.Below ≤ 16384))
          (cond (decide (0 ≤ r'.Purpose))
            (cond (decide (r'.Purpose ≤ 4))
              (cond (decide (0 ≤ r'.From))
                (cond (decide (r'.From < r'.To))
                  (some (decide (r'.To ≤ 40001)))
                  (some false))
                (some false))
              (some false))
            (some false))
          (some false))
        (some false))
      (some false))
    (some false)
noncomputable def g_ref17_kept (k : api_Keep) : Option (Bool) :=
  cond (decide (1 ≤ k.Purpose))
    (cond (decide (k.Purpose ≤ 4))
      (cond (decide (0 ≤ k.Days))
        (some (decide (k.Days ≤ 40000)))
        (some false))
      (some false))
    (some false)
noncomputable def g_ref17_Check.l3 (p : api_Policy) (i_3 : Int) : Option (Lp (Int) (Int)) :=
  cond (decide (i_3 < (p.Keeps.length : Int)))
    ((getI p.Keeps i_3).bind fun e_2 =>
    (g_ref17_kept e_2).bind fun y_2 =>
    cond (!y_2)
      (up (some 25))
      (some (.next (W (i_3 + 1)))))
    (up (
      some 0))
noncomputable def g_ref17_Check.l2 (p : api_Policy) (i_2 : Int) : Option (Lp (Int) (Int)) :=
  cond (decide (i_2 < (p.Rules.length : Int)))
    ((getI p.Rules i_2).bind fun e =>
    (g_ref17_Ruled e).bind fun y =>
    cond (!y)
      (up (some 25))
      (some (.next (W (i_2 + 1)))))
    (up (
      loop (fun q' => g_ref17_Check.l3 p q') 0))
noncomputable def g_ref17_Check.j1 (p : api_Policy) (x14_1 : Bool) : Option (Int) :=
  cond (x14_1)
    (some 25)
    (loop (fun q' => g_ref17_Check.l2 p q') 0)
noncomputable def g_ref17_Check (p : api_Policy) : Option (Int) :=
  cond (decide (60 < (p.Rules.length : Int)))
    (g_ref17_Check.j1 p true)
    (g_ref17_Check.j1 p (decide (60 < (p.Keeps.length : Int))))
noncomputable def g_ref18_check.j1 (x21_1 : Bool) : Option (Int) :=
  cond (x21_1)
    (some 2)
    (some 0)
noncomputable def g_ref18_check (p : api_Policy) (u : api_Use) (purpose : Int) : Option (Int) :=
  (g_ref17_Check p).bind fun y =>
  cond (!decide (y = 0))
    (some y)
    ((g_ref02_Valid u).bind fun y_2 =>
    cond (!y_2)
      (some 7)
      (cond (decide (purpose < 1))
        (g_ref18_check.j1 true)
        (g_ref18_check.j1 (decide (4 < purpose)))))
noncomputable def g_ref18_matches (r' : api_Rule) (u : api_Use) (purpose : Int) (day : Int) : Option (Bool) :=
  cond (decide (r'.Alg = 0))
    (cond (decide (r'.Below = 0))
      (cond (decide (r'.Purpose = 0))
        (cond (decide (r'.From ≤ day))
          (some (decide (day < r'.To)))
          (some false))
        (cond (decide (r'.Purpose = purpose))
          (cond (decide (r'.From ≤ day))
            (some (decide (day < r'.To)))
            (some false))
          (some false)))
      (cond (decide (0 < u.Bits))
        (cond (decide (u.Bits < r'.Below))
          (cond (decide (r'.Purpose = 0))
            (cond (decide (r'.From ≤ day))
              (some (decide (day < r'.To)))
              (some false))
            (cond (decide (r'.Purpose = purpose))
              (cond (decide (r'.From ≤ day))
                (some (decide (day < r'.To)))
                (some false))
              (some false)))
          (some false))
        (some false)))
    (cond (decide (r'.Alg = u.Alg))
      (cond (decide (r'.Below = 0))
        (cond (decide (r'.Purpose = 0))
          (cond (decide (r'.From ≤ day))
            (some (decide (day < r'.To)))
            (some false))
          (cond (decide (r'.Purpose = purpose))
            (cond (decide (r'.From ≤ day))
              (some (decide (day < r'.To)))
              (some false))
            (some false)))
        (cond (decide (0 < u.Bits))
          (cond (decide (u.Bits < r'.Below))
            (cond (decide (r'.Purpose = 0))
              (cond (decide (r'.From ≤ day))
                (some (decide (day < r'.To)))
                (some false))
              (cond (decide (r'.Purpose = purpose))
                (cond (decide (r'.From ≤ day))
                  (some (decide (day < r'.To)))
                  (some false))
                (some false)))
            (some false))
          (some false)))
      (some false))
noncomputable def g_ref18_decides.l1 (p : api_Policy) (u : api_Use) (purpose : Int) (day : Int) (i_1 : Int) : Option (Lp (Int) (Int)) :=
  cond (decide (0 ≤ i_1))
    ((getI p.Rules i_1).bind fun e =>
    (g_ref18_matches e u purpose day).bind fun y =>
    cond (y)
      (up (some i_1))
      (some (.next (W (i_1 - 1)))))
    (up (
      some (-1)))
noncomputable def g_ref18_decides (p : api_Policy) (u : api_Use) (purpose : Int) (day : Int) : Option (Int) :=
  loop (fun q' => g_ref18_decides.l1 p u purpose day q') (W ((p.Rules.length : Int) - 1))
noncomputable def g_ref18_allowed (p : api_Policy) (u : api_Use) (purpose : Int) (day : Int) : Option (Bool) :=
  (g_ref18_decides p u purpose day).bind fun y =>
  cond (decide (y < 0))
    (some true)
    ((getI p.Rules y).bind fun e =>
    some e.Allow)
noncomputable def g_ref18_Allowed.j1 (p : api_Policy) (u : api_Use) (purpose : Int) (day : Int) (x24_1 : Bool) : Option (Bool × Int × Int) :=
  cond (x24_1)
    (some (false, 0, 2))
    ((g_ref18_allowed p u purpose day).bind fun y_2 =>
    (g_ref18_decides p u purpose day).bind fun y_3 =>
    some (y_2, y_3, 0))
noncomputable def g_ref18_Allowed (p : api_Policy) (u : api_Use) (purpose : Int) (day : Int) : Option (Bool × Int × Int) :=
  (g_ref18_check p u purpose).bind fun y =>
  cond (!decide (y = 0))
    (some (false, 0, y))
    (cond (decide (day < 0))
      (g_ref18_Allowed.j1 p u purpose day true)
      (g_ref18_Allowed.j1 p u purpose day (decide (40000 < day))))
noncomputable def g_rule_ruled (r' : api_Rule) : Option (Bool) :=
  cond (decide (0 ≤ r'.Alg))
    (cond (decide (r'.Alg ≤ 22))
      (cond (decide (0 ≤ r'.Below))
        (cond (decide (r'.Below ≤ 16384))
          (cond (decide (0 ≤ r'.Purpose))
            (cond (decide (r'.Purpose ≤ 4))
              (cond (decide (0 ≤ r'.From))
                (cond (decide (r'.From < r'.To))
                  (some (decide (r'.To ≤ 40001)))
                  (some false))
                (some false))
              (some false))
            (some false))
          (some false))
        (some false))
      (some false))
    (some false)
noncomputable def g_rule_Check_c1 (r' : api_Rule) : Option (Bool) :=
  (g_rule_ruled r').bind fun y =>
  some (!y)
noncomputable def g_slices_IndexFunc_api_Rule.l1 (s : (List api_Rule)) (f : api_Rule → Option (Bool)) (x8_1 : Int) : Option (Lp (Int) (Int)) :=
  cond (decide (x8_1 < (s.length : Int)))
    ((getI s x8_1).bind fun e =>
    (f e).bind fun y =>
    cond (y)
      (up (some x8_1))
      (some (.next (W (x8_1 + 1)))))
    (up (
      some (-1)))
noncomputable def g_slices_IndexFunc_api_Rule (s : (List api_Rule)) (f : api_Rule → Option (Bool)) : Option (Int) :=
  loop (fun q' => g_slices_IndexFunc_api_Rule.l1 s f q') 0
noncomputable def g_slices_ContainsFunc_api_Rule (s : (List api_Rule)) (f : api_Rule → Option (Bool)) : Option (Bool) :=
  (g_slices_IndexFunc_api_Rule s f).bind fun y =>
  some (decide (0 ≤ y))
noncomputable def g_rule_kept (k : api_Keep) : Option (Bool) :=
  cond (decide (1 ≤ k.Purpose))
    (cond (decide (k.Purpose ≤ 4))
      (cond (decide (0 ≤ k.Days))
        (some (decide (k.Days ≤ 40000)))
        (some false))
      (some false))
    (some false)
noncomputable def g_rule_Check_c2 (k : api_Keep) : Option (Bool) :=
  (g_rule_kept k).bind fun y =>
  some (!y)
noncomputable def g_slices_IndexFunc_api_Keep.l1 (s : (List api_Keep)) (f : api_Keep → Option (Bool)) (x8_1 : Int) : Option (Lp (Int) (Int)) :=
  cond (decide (x8_1 < (s.length : Int)))
    ((getI s x8_1).bind fun e =>
    (f e).bind fun y =>
    cond (y)
      (up (some x8_1))
      (some (.next (W (x8_1 + 1)))))
    (up (
      some (-1)))
noncomputable def g_slices_IndexFunc_api_Keep (s : (List api_Keep)) (f : api_Keep → Option (Bool)) : Option (Int) :=
  loop (fun q' => g_slices_IndexFunc_api_Keep.l1 s f q') 0
noncomputable def g_slices_ContainsFunc_api_Keep (s : (List api_Keep)) (f : api_Keep → Option (Bool)) : Option (Bool) :=
  (g_slices_IndexFunc_api_Keep s f).bind fun y =>
  some (decide (0 ≤ y))
noncomputable def g_rule_Check.j2 (x24_2 : Bool) : Option (Int) :=
  cond (x24_2)
    (some 25)
    (some 0)
noncomputable def g_rule_Check.j1 (p : api_Policy) (wrong_1 : Bool) : Option (Int) :=
  cond (wrong_1)
    (g_rule_Check.j2 true)
    (cond (decide (60 < (p.Rules.length : Int)))
      (g_rule_Check.j2 true)
      (g_rule_Check.j2 (decide (60 < (p.Keeps.length : Int)))))
noncomputable def g_rule_Check (p : api_Policy) : Option (Int) :=
  (g_slices_ContainsFunc_api_Rule p.Rules (fun x0 => g_rule_Check_c1 x0)).bind fun y =>
  cond (y)
    (g_rule_Check.j1 p true)
    ((g_slices_ContainsFunc_api_Keep p.Keeps (fun x0 => g_rule_Check_c2 x0)).bind fun y_2 =>
    g_rule_Check.j1 p y_2)
noncomputable def g_verdict_early.j1 (x19_1 : Bool) : Option (Int) :=
  cond (x19_1)
    (some 2)
    (some 0)
noncomputable def g_verdict_early (p : api_Policy) (u : api_Use) (purpose : Int) (day : Int) : Option (Int) :=
  (g_rule_Check p).bind fun y =>
  cond (!decide (y = 0))
    (some y)
    ((g_catalog_Valid u).bind fun y_2 =>
    cond (!y_2)
      (some 7)
      (cond (decide (purpose < 1))
        (g_verdict_early.j1 true)
        (cond (decide (4 < purpose))
          (g_verdict_early.j1 true)
          (cond (decide (day < 0))
            (g_verdict_early.j1 true)
            (g_verdict_early.j1 (decide (40000 < day)))))))
noncomputable def g_slices_Backward_api_Rule (s : (List api_Rule)) : Option ((List api_Rule)) :=
  some s
noncomputable def g_verdict_concerns.j1 (r' : api_Rule) (u : api_Use) (x27_1 : Bool) : Option (Bool) :=
  cond (x27_1)
    (some false)
    (cond (decide (r'.Below = 0))
      (some true)
      (cond (decide (0 < u.Bits))
        (some (decide (u.Bits < r'.Below)))
        (some false)))
noncomputable def g_verdict_concerns (r' : api_Rule) (u : api_Use) (purpose : Int) : Option (Bool) :=
  cond (!decide (r'.Alg = 0))
    (cond (!decide (r'.Alg = u.Alg))
      (g_verdict_concerns.j1 r' u true)
      (cond (!decide (r'.Purpose = 0))
        (g_verdict_concerns.j1 r' u (!decide (r'.Purpose = purpose)))
        (g_verdict_concerns.j1 r' u false)))
    (cond (!decide (r'.Purpose = 0))
      (g_verdict_concerns.j1 r' u (!decide (r'.Purpose = purpose)))
      (g_verdict_concerns.j1 r' u false))
noncomputable def g_slices_Backward_api_Rule_api_Rule_c1.l1 {S : Type} (yield' : Int → api_Rule → (Nat × S) → Option (Bool × (Nat × S))) (c0 : (List api_Rule)) (i_1 : Int) (q_1 : (Nat × S)) : Option (Lp (Int × (Nat × S)) ((Nat × S))) :=
  cond (decide (0 ≤ i_1))
    ((getI c0 i_1).bind fun e =>
    (yield' i_1 e q_1).bind fun y =>
    cond (!y.1)
      (up (some y.2))
      (some (.next (W (i_1 - 1), y.2))))
    (up (some q_1))
noncomputable def g_slices_Backward_api_Rule_api_Rule_c1 {S : Type} (yield' : Int → api_Rule → (Nat × S) → Option (Bool × (Nat × S))) (c0 : (List api_Rule)) (q : (Nat × S)) : Option ((Nat × S)) :=
  loop (fun q' => g_slices_Backward_api_Rule_api_Rule_c1.l1 yield' c0 q'.1 q'.2) (W ((c0.length : Int) - 1), q)
noncomputable def g_verdict_decides.j2 (b_1 : Int) (a : Int) (x31_2 : Bool) : Option (Nat × (Int)) :=
  cond (x31_2)
    (some (1, a))
    (some (0, b_1))
noncomputable def g_verdict_decides.r1 (u : api_Use) (purpose : Int) (day : Int) (a : Int) (a_2 : api_Rule) (b_1 : Int) : Option (Nat × (Int)) :=
  (g_verdict_concerns a_2 u purpose).bind fun y_2 =>
  cond (y_2)
    (cond (decide (a_2.From ≤ day))
      (g_verdict_decides.j2 b_1 a (decide (day < a_2.To)))
      (g_verdict_decides.j2 b_1 a false))
    (g_verdict_decides.j2 b_1 a false)
noncomputable def g_verdict_decides (p : api_Policy) (u : api_Use) (purpose : Int) (day : Int) : Option (Int) :=
  (g_slices_Backward_api_Rule p.Rules).bind fun y =>
  (g_slices_Backward_api_Rule_api_Rule_c1 (fun a0' a1' q' => yld (fun s' => g_verdict_decides.r1 u purpose day a0' a1' s') q') y (0, 0)).bind fun y_3 =>
  cond (Nat.beq y_3.1 0)
    (some (-1))
    (cond (Nat.beq y_3.1 1)
      (some y_3.2)
      (none))
noncomputable def g_verdict_allowed (p : api_Policy) (u : api_Use) (purpose : Int) (day : Int) : Option (Bool) :=
  (g_verdict_decides p u purpose day).bind fun y =>
  cond (decide (y < 0))
    (some true)
    ((getI p.Rules y).bind fun e =>
    some e.Allow)
noncomputable def g_verdict_Allowed (p : api_Policy) (u : api_Use) (purpose : Int) (day : Int) : Option (Bool × Int × Int) :=
  (g_verdict_early p u purpose day).bind fun y =>
  cond (!decide (y = 0))
    (some (false, 0, y))
    ((g_verdict_allowed p u purpose day).bind fun y_2 =>
    (g_verdict_decides p u purpose day).bind fun y_3 =>
    some (y_2, y_3, 0))
noncomputable def g_exception_Allowed_c1 (x' : api_Exception) : Option (Bool) :=
  (g_exception_Check x').bind fun y =>
  some (!decide (y = 0))
noncomputable def g_slices_IndexFunc_api_Exception.l1 (s : (List api_Exception)) (f : api_Exception → Option (Bool)) (x8_1 : Int) : Option (Lp (Int) (Int)) :=
  cond (decide (x8_1 < (s.length : Int)))
    ((getI s x8_1).bind fun e =>
    (f e).bind fun y =>
    cond (y)
      (up (some x8_1))
      (some (.next (W (x8_1 + 1)))))
    (up (
      some (-1)))
noncomputable def g_slices_IndexFunc_api_Exception (s : (List api_Exception)) (f : api_Exception → Option (Bool)) : Option (Int) :=
  loop (fun q' => g_slices_IndexFunc_api_Exception.l1 s f q') 0
noncomputable def g_slices_ContainsFunc_api_Exception (s : (List api_Exception)) (f : api_Exception → Option (Bool)) : Option (Bool) :=
  (g_slices_IndexFunc_api_Exception s f).bind fun y =>
  some (decide (0 ≤ y))
noncomputable def g_exception_ends.j3 (x20_1 : Int) (most_3 : Int) (some_3 : Bool) : Option (Lp (Int × Bool × Int) (Int × Bool)) :=
  some (.next (most_3, some_3, W (x20_1 + 1)))
noncomputable def g_exception_ends.j2 (most_1 : Int) (some_1 : Bool) (x20_1 : Int) (e : api_Exception) (x34_2 : Bool) : Option (Lp (Int × Bool × Int) (Int × Bool)) :=
  cond (x34_2)
    (g_exception_ends.j3 x20_1 (max most_1 e.Days.To) true)
    (g_exception_ends.j3 x20_1 most_1 some_1)
noncomputable def g_exception_ends.l1 (l : (List api_Exception)) (o : api_Owners) (u : api_Use) (purpose : Int) (endpoint : ByteArray) (day : Int) (most_1 : Int) (some_1 : Bool) (x20_1 : Int) : Option (Lp (Int × Bool × Int) (Int × Bool)) :=
  cond (decide (x20_1 < (l.length : Int)))
    ((getI l x20_1).bind fun e =>
    (g_exception_Covers e u purpose endpoint day).bind fun y =>
    cond (y)
      ((g_exception_Valid e o).bind fun y_2 =>
      g_exception_ends.j2 most_1 some_1 x20_1 e y_2)
      (g_exception_ends.j2 most_1 some_1 x20_1 e false))
    (up (
      some (most_1, some_1)))
noncomputable def g_exception_ends (l : (List api_Exception)) (o : api_Owners) (u : api_Use) (purpose : Int) (endpoint : ByteArray) (day : Int) : Option (Int × Bool) :=
  loop (fun q' => g_exception_ends.l1 l o u purpose endpoint day q'.1 q'.2.1 q'.2.2) (0, false, 0)
noncomputable def g_exception_Allowed (p : api_Policy) (l : (List api_Exception)) (o : api_Owners) (u : api_Use) (purpose : Int) (endpoint : ByteArray) (day : Int) : Option (Bool × Int) :=
  (g_verdict_Allowed p u purpose day).bind fun y =>
  cond (!decide (y.2.2 = 0))
    (some (false, y.2.2))
    ((g_slices_ContainsFunc_api_Exception l (fun x0 => g_exception_Allowed_c1 x0)).bind fun y_2 =>
    cond (y_2)
      (some (false, 26))
      ((g_exception_ends l o u purpose endpoint day).bind fun y_3 =>
      cond (y.1)
        (some (true, 0))
        (some (y_3.2, 0))))
noncomputable def g_law19_ExceptionOnly.j4 (m_3 : Int) (meant_4 : Bool) : Option (Lp (Bool × Int) (Lp (Int) (Lp (Int) (Bool)))) :=
  some (.next (meant_4, W (m_3 + 1)))
noncomputable def g_law19_ExceptionOnly.j5 (k_2 : Int) (x174_5 : Bool) : Option (Lp (Int) (Lp (Int) (Bool))) :=
  cond (x174_5)
    (up (up (some false)))
    (some (.next (W (k_2 + 1))))
noncomputable def g_law19_ExceptionOnly.l3 (day : UInt8) (y_7 : (List api_Exception) × cipherplanmake_Dice) (y_9 : Int × cipherplanmake_Dice) (k_2 : Int) (e : api_Use) (y_10 : Bool × Int × Int) (e_2 : ByteArray) (y_11 : Bool × Int) (meant_3 : Bool) (m_3 : Int) : Option (Lp (Bool × Int) (Lp (Int) (Lp (Int) (Bool)))) :=
  cond (decide (m_3 < (y_7.1.length : Int)))
    (cond (meant_3)
      (g_law19_ExceptionOnly.j4 m_3 true)
      ((getI y_7.1 m_3).bind fun e_3 =>
      cond (decide (e_3.Use = e))
        (cond (decide (e_3.Purpose = (W (1 + y_9.1))))
          (cond (decide (e_3.Endpoint = e_2))
            (cond (decide (e_3.Days.From ≤ (day.toNat : Int)))
              (g_law19_ExceptionOnly.j4 m_3 (decide ((day.toNat : Int) < e_3.Days.To)))
              (g_law19_ExceptionOnly.j4 m_3 false))
            (g_law19_ExceptionOnly.j4 m_3 false))
          (g_law19_ExceptionOnly.j4 m_3 false))
        (g_law19_ExceptionOnly.j4 m_3 false)))
    (up (
      cond (!decide (y_10.2.2 = 0))
        (g_law19_ExceptionOnly.j5 k_2 true)
        (cond (!decide (y_11.2 = 0))
          (g_law19_ExceptionOnly.j5 k_2 true)
          (cond (y_10.1)
            (cond (!y_11.1)
              (g_law19_ExceptionOnly.j5 k_2 true)
              (g_law19_ExceptionOnly.j5 k_2 false))
            (cond (y_11.1)
              (g_law19_ExceptionOnly.j5 k_2 (!meant_3))
              (g_law19_ExceptionOnly.j5 k_2 false))))))
noncomputable def g_law19_ExceptionOnly.l2 (day : UInt8) (y_4 : api_Policy × cipherplanmake_Dice) (y_5 : api_Owners × cipherplanmake_Dice) (y_6 : api_Use × cipherplanmake_Dice) (y_7 : (List api_Exception) × cipherplanmake_Dice) (y_8 : api_Use × cipherplanmake_Dice) (y_9 : Int × cipherplanmake_Dice) (i_1 : Int) (k_2 : Int) : Option (Lp (Int) (Lp (Int) (Bool))) :=
  cond (decide (k_2 < (([(⟨#[119, 101, 98]⟩ : ByteArray), (⟨#[100, 98]⟩ : ByteArray), (⟨#[109, 97, 105, 108]⟩ : ByteArray)] : List ByteArray).length : Int)))
    ((getI ([y_6.1, y_8.1] : List api_Use) i_1).bind fun e =>
    (g_ref18_Allowed y_4.1 e (W (1 + y_9.1)) (day.toNat : Int)).bind fun y_10 =>
    (getI ([(⟨#[119, 101, 98]⟩ : ByteArray), (⟨#[100, 98]⟩ : ByteArray), (⟨#[109, 97, 105, 108]⟩ : ByteArray)] : List ByteArray) k_2).bind fun e_2 =>
    (g_exception_Allowed y_4.1 y_7.1 y_5.1 e (W (1 + y_9.1)) e_2 (day.toNat : Int)).bind fun y_11 =>
    loop (fun q' => g_law19_ExceptionOnly.l3 day y_7 y_9 k_2 e y_10 e_2 y_11 q'.1 q'.2) (false, 0))
    (up (
      some (.next (W (i_1 + 1)))))
noncomputable def g_law19_ExceptionOnly.l1 (day : UInt8) (y_4 : api_Policy × cipherplanmake_Dice) (y_5 : api_Owners × cipherplanmake_Dice) (y_6 : api_Use × cipherplanmake_Dice) (y_7 : (List api_Exception) × cipherplanmake_Dice) (y_8 : api_Use × cipherplanmake_Dice) (y_9 : Int × cipherplanmake_Dice) (i_1 : Int) : Option (Lp (Int) (Bool)) :=
  cond (decide (i_1 < (([y_6.1, y_8.1] : List api_Use).length : Int)))
    (loop (fun q' => g_law19_ExceptionOnly.l2 day y_4 y_5 y_6 y_7 y_8 y_9 i_1 q') 0)
    (up (
      (g_law19_awake).bind fun y_12 =>
      some y_12))
noncomputable def g_law19_ExceptionOnly (l : (List Int)) (day : UInt8) : Option (Bool) :=
  (g_make_Light l).bind fun y =>
  cond (!y)
    ((g_law19_awake).bind fun y_2 =>
    some y_2)
    ((g_make_Roll l).bind fun y_3 =>
    (g_make_Policy y_3).bind fun y_4 =>
    (g_make_Owners y_4.2).bind fun y_5 =>
    (g_make_Use y_5.2).bind fun y_6 =>
    (g_law19_list y_6.2 y_6.1 false).bind fun y_7 =>
    (g_make_Use y_7.2).bind fun y_8 =>
    (g_make_Dice_Next y_8.2 4).bind fun y_9 =>
    loop (fun q' => g_law19_ExceptionOnly.l1 day y_4 y_5 y_6 y_7 y_8 y_9 q') 0)
noncomputable def g_ref19_All.l1 (l : (List api_Exception)) (i_1 : Int) : Option (Lp (Int) (Int)) :=
  cond (decide (i_1 < (l.length : Int)))
    ((getI l i_1).bind fun e =>
    (g_ref19_Check e).bind fun y =>
    cond (!decide (y = 0))
      (up (some y))
      (some (.next (W (i_1 + 1)))))
    (up (
      some 0))
noncomputable def g_ref19_All (l : (List api_Exception)) : Option (Int) :=
  loop (fun q' => g_ref19_All.l1 l q') 0
noncomputable def g_ref02_Has.l1 (l : (List Int)) (n : Int) (i_1 : Int) : Option (Lp (Int) (Bool)) :=
  cond (decide (i_1 < (l.length : Int)))
    ((getI l i_1).bind fun e =>
    cond (decide (e = n))
      (up (some true))
      (some (.next (W (i_1 + 1)))))
    (up (
      some false))
noncomputable def g_ref02_Has (l : (List Int)) (n : Int) : Option (Bool) :=
  loop (fun q' => g_ref02_Has.l1 l n q') 0
noncomputable def g_ref19_Valid.j4 (i_2 : Int) (n_4 : Int) : Option (Lp (Int × Int) (Bool)) :=
  some (.next (n_4, W (i_2 + 1)))
noncomputable def g_ref19_Valid.j3 (n_2 : Int) (i_2 : Int) (x47_3 : Bool) : Option (Lp (Int × Int) (Bool)) :=
  cond (x47_3)
    (g_ref19_Valid.j4 i_2 (W (n_2 + 1)))
    (g_ref19_Valid.j4 i_2 n_2)
noncomputable def g_ref19_Valid.l2 (x' : api_Exception) (o : api_Owners) (y : (List UInt8) × Int) (n_2 : Int) (i_2 : Int) : Option (Lp (Int × Int) (Bool)) :=
  cond (decide (i_2 < (x'.Seals.length : Int)))
    ((getI x'.Seals i_2).bind fun e =>
    (g_ref03_Sum y.1).bind fun y_2 =>
    cond (decide (e.Sum = y_2))
      ((g_ref02_Has o.Keys e.Key).bind fun y_3 =>
      g_ref19_Valid.j3 n_2 i_2 y_3)
      (g_ref19_Valid.j3 n_2 i_2 false))
    (up (
      some (decide (o.Need ≤ n_2))))
noncomputable def g_ref19_Valid.j1 (x' : api_Exception) (o : api_Owners) (y : (List UInt8) × Int) (x20_1 : Bool) : Option (Bool) :=
  cond (x20_1)
    (some false)
    (loop (fun q' => g_ref19_Valid.l2 x' o y q'.1 q'.2) (0, 0))
noncomputable def g_ref19_Valid (x' : api_Exception) (o : api_Owners) : Option (Bool) :=
  (g_ref19_Bytes x').bind fun y =>
  cond (!decide (y.2 = 0))
    (g_ref19_Valid.j1 x' o y true)
    (g_ref19_Valid.j1 x' o y (decide (o.Need < 1)))
noncomputable def g_ref19_Covers (x' : api_Exception) (u : api_Use) (purpose : Int) (endpoint : ByteArray) (day : Int) : Option (Bool) :=
  cond (decide (x'.Use = u))
    (cond (decide (x'.Purpose = purpose))
      (cond (decide (x'.Endpoint = endpoint))
        (cond (decide (x'.Days.From ≤ day))
          (some (decide (day < x'.Days.To)))
          (some false))
        (some false))
      (some false))
    (some false)
noncomputable def g_ref19_covered.j2 (i_1 : Int) (x36_2 : Bool) : Option (Lp (Int) (Bool)) :=
  cond (x36_2)
    (up (some true))
    (some (.next (W (i_1 + 1))))
noncomputable def g_ref19_covered.l1 (l : (List api_Exception)) (o : api_Owners) (u : api_Use) (purpose : Int) (endpoint : ByteArray) (day : Int) (i_1 : Int) : Option (Lp (Int) (Bool)) :=
  cond (decide (i_1 < (l.length : Int)))
    ((getI l i_1).bind fun e =>
    (g_ref19_Valid e o).bind fun y =>
    cond (y)
      ((g_ref19_Covers e u purpose endpoint day).bind fun y_2 =>
      g_ref19_covered.j2 i_1 y_2)
      (g_ref19_covered.j2 i_1 false))
    (up (
      some false))
noncomputable def g_ref19_covered (l : (List api_Exception)) (o : api_Owners) (u : api_Use) (purpose : Int) (endpoint : ByteArray) (day : Int) : Option (Bool) :=
  loop (fun q' => g_ref19_covered.l1 l o u purpose endpoint day q') 0
noncomputable def g_ref19_Allowed (p : api_Policy) (l : (List api_Exception)) (o : api_Owners) (u : api_Use) (purpose : Int) (endpoint : ByteArray) (day : Int) : Option (Bool × Int) :=
  (g_ref18_Allowed p u purpose day).bind fun y =>
  cond (!decide (y.2.2 = 0))
    (some (false, y.2.2))
    ((g_ref19_All l).bind fun y_2 =>
    cond (!decide (y_2 = 0))
      (some (false, y_2))
      (cond (y.1)
        (some (true, 0))
        ((g_ref19_covered l o u purpose endpoint day).bind fun y_3 =>
        some (y_3, 0))))
noncomputable def g_exception_Ends.l1 (l : (List api_Exception)) (o : api_Owners) (u : api_Use) (purpose : Int) (endpoint : ByteArray) (day_1 : Int) (most_1 : Int) (some_1 : Bool) : Option (Lp (Int × Int × Bool) (Int × Bool)) :=
  cond (some_1)
    ((g_exception_ends l o u purpose endpoint most_1).bind fun y_2 =>
    some (.next (most_1, y_2.1, y_2.2)))
    (up (
      some (day_1, true)))
noncomputable def g_exception_Ends (l : (List api_Exception)) (o : api_Owners) (u : api_Use) (purpose : Int) (endpoint : ByteArray) (day : Int) : Option (Int × Bool) :=
  (g_exception_ends l o u purpose endpoint day).bind fun y =>
  cond (!y.2)
    (some (0, false))
    (loop (fun q' => g_exception_Ends.l1 l o u purpose endpoint q'.1 q'.2.1 q'.2.2) (day, y.1, y.2))
noncomputable def g_ref19_Ends.j4 (i_2 : Int) (next_4 : Int) : Option (Lp (Int × Int) (Lp (Int) (Int × Bool))) :=
  some (.next (next_4, W (i_2 + 1)))
noncomputable def g_ref19_Ends.j3 (l : (List api_Exception)) (next_2 : Int) (i_2 : Int) (x54_3 : Bool) : Option (Lp (Int × Int) (Lp (Int) (Int × Bool))) :=
  cond (x54_3)
    ((getI l i_2).bind fun e_2 =>
    g_ref19_Ends.j4 i_2 (max next_2 e_2.Days.To))
    (g_ref19_Ends.j4 i_2 next_2)
noncomputable def g_ref19_Ends.l2 (l : (List api_Exception)) (o : api_Owners) (u : api_Use) (purpose : Int) (endpoint : ByteArray) (day_1 : Int) (next_2 : Int) (i_2 : Int) : Option (Lp (Int × Int) (Lp (Int) (Int × Bool))) :=
  cond (decide (i_2 < (l.length : Int)))
    ((getI l i_2).bind fun e =>
    (g_ref19_Valid e o).bind fun y_3 =>
    cond (y_3)
      ((g_ref19_Covers e u purpose endpoint day_1).bind fun y_4 =>
      g_ref19_Ends.j3 l next_2 i_2 y_4)
      (g_ref19_Ends.j3 l next_2 i_2 false))
    (up (
      some (.next next_2)))
noncomputable def g_ref19_Ends.l1 (l : (List api_Exception)) (o : api_Owners) (u : api_Use) (purpose : Int) (endpoint : ByteArray) (day_1 : Int) : Option (Lp (Int) (Int × Bool)) :=
  (g_ref19_covered l o u purpose endpoint day_1).bind fun y_2 =>
  cond (y_2)
    (loop (fun q' => g_ref19_Ends.l2 l o u purpose endpoint day_1 q'.1 q'.2) (day_1, 0))
    (up (
      some (day_1, true)))
noncomputable def g_ref19_Ends (l : (List api_Exception)) (o : api_Owners) (u : api_Use) (purpose : Int) (endpoint : ByteArray) (day : Int) : Option (Int × Bool) :=
  (g_ref19_covered l o u purpose endpoint day).bind fun y =>
  cond (!y)
    (some (0, false))
    (loop (fun q' => g_ref19_Ends.l1 l o u purpose endpoint q') day)
noncomputable def g_law19_ExceptionAllows.j1 (y_4 : api_Policy × cipherplanmake_Dice) (y_5 : api_Owners × cipherplanmake_Dice) (e : api_Use) (y_7 : (List api_Exception) × cipherplanmake_Dice) (y_10 : ByteArray × cipherplanmake_Dice) (t_1 : Int) (purpose_1 : Int) (l_1 : List api_Rule) : Option (Bool) :=
  (g_exception_Allowed (api_Policy.mk l_1 y_4.1.Keeps) y_7.1 y_5.1 e purpose_1 y_10.1 t_1).bind fun y_12 =>
  (g_ref19_Allowed (api_Policy.mk l_1 y_4.1.Keeps) y_7.1 y_5.1 e purpose_1 y_10.1 t_1).bind fun y_13 =>
  (g_exception_Ends y_7.1 y_5.1 e purpose_1 y_10.1 t_1).bind fun y_14 =>
  (g_ref19_Ends y_7.1 y_5.1 e purpose_1 y_10.1 t_1).bind fun y_15 =>
  cond (decide (y_12.1 = y_13.1))
    (cond (decide (y_12.2 = y_13.2))
      (cond (decide (y_14.1 = y_15.1))
        (cond (decide (y_14.2 = y_15.2))
          ((g_law19_awake).bind fun y_16 =>
          some y_16)
          (some false))
        (some false))
      (some false))
    (some false)
noncomputable def g_law19_ExceptionAllows (l : (List Int)) (day : Int) : Option (Bool) :=
  (g_make_Light l).bind fun y =>
  cond (!y)
    ((g_law19_awake).bind fun y_2 =>
    some y_2)
    ((g_make_Roll l).bind fun y_3 =>
    (g_make_Policy y_3).bind fun y_4 =>
    (g_make_Owners y_4.2).bind fun y_5 =>
    (g_make_Dice_Next y_5.2 3).bind fun y_6 =>
    (getI ([(api_Use.mk 1 0), (api_Use.mk 5 1024), (api_Use.mk 14 128)] : List api_Use) y_6.1).bind fun e =>
    (g_law19_list y_6.2 e true).bind fun y_7 =>
    (g_make_Dice_Of y_7.2 ([10, 35, 0, 12, 100] : List Int)).bind fun y_8 =>
    (g_make_Dice_Of y_8.2 ([1, 1, 2, 3] : List Int)).bind fun y_9 =>
    (g_make_Dice_Word y_9.2 ([(⟨#[119, 101, 98]⟩ : ByteArray), (⟨#[100, 98]⟩ : ByteArray)] : List ByteArray)).bind fun y_10 =>
    (g_make_Dice_Next y_10.2 9).bind fun y_11 =>
    cond (decide (y_11.1 = 0))
      (g_law19_ExceptionAllows.j1 y_4 y_5 e y_7 y_10 day y_9.1 y_4.1.Rules)
      (cond (decide (y_11.1 = 1))
        (g_law19_ExceptionAllows.j1 y_4 y_5 e y_7 y_10 y_8.1 0 y_4.1.Rules)
        (cond (decide (y_11.1 = 2))
          ((appI 288 y_4.1.Rules ([(api_Rule.mk false 77 0 0 0 0)] : List api_Rule)).bind fun l_2 =>
          g_law19_ExceptionAllows.j1 y_4 y_5 e y_7 y_10 y_8.1 y_9.1 l_2)
          (g_law19_ExceptionAllows.j1 y_4 y_5 e y_7 y_10 y_8.1 y_9.1 y_4.1.Rules))))
end Go.Proofs.YtmbhoimeiahbaaaGreat
