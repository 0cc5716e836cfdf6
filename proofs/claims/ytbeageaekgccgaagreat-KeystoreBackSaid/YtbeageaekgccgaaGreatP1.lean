/- Plain functions. -/
import Derived.Test.YtbeageaekgccgaaGreatPU
set_option linter.unusedVariables false
set_option linter.unusedSimpArgs false
namespace Go.Proofs.YtbeageaekgccgaaGreat
structure cipherplanmake_Dice where
  L : (List Int)
  At : Int
  deriving DecidableEq, Inhabited
structure api_Use where
  Alg : Int
  Bits : Int
  deriving DecidableEq, Inhabited
structure api_Seal where
  Key : Int
  Sum : Int
  deriving DecidableEq, Inhabited
structure api_Certificate where
  Serial : Int
  Issuer : ByteArray
  Subject : ByteArray
  Key : api_Use
  KeyId : Int
  Hash : api_Use
  From : Int
  To : Int
  Authority : Bool
  Path : Int
  Names : (List ByteArray)
  Seal : api_Seal
  deriving DecidableEq, Inhabited
structure api_Entry where
  Alias : ByteArray
  Key : api_Use
  KeyId : Int
  Secret : Bool
  Chain : (List api_Certificate)
  deriving DecidableEq, Inhabited
structure catalog_row where
  name : ByteArray
  kind : Int
  way : Int
  sizes : (List Int)
  strengths : (List Int)
  deriving DecidableEq, Inhabited
structure cipherplanref02_row where
  name : ByteArray
  kind : Int
  deriving DecidableEq, Inhabited
structure api_Value where
  Tag : Int
  Bytes : (List UInt8)
  Nested : Bool
  Elements : (List api_Value)
structure certificate_Reader where
  l : (List api_Value)
  Failed : Bool
noncomputable def g_make_Light (l : (List Int)) : Option (Bool) :=
  some (decide ((l.length : Int) ≤ 400))
noncomputable def g_catalog_Named.j2 (x8_1 : Int) (x17_2 : Bool) : Option (Lp (Int) (Bool)) :=
  cond (x17_2)
    (up (some false))
    (some (.next (W (x8_1 + 1))))
noncomputable def g_catalog_Named.l1 (s : ByteArray) (x8_1 : Int) : Option (Lp (Int) (Bool)) :=
  cond (decide (x8_1 < ((toB s).length : Int)))
    ((getI (toB s) x8_1).bind fun e =>
    cond (decide ((e.toNat : Int) ≤ 32))
      (g_catalog_Named.j2 x8_1 true)
      (g_catalog_Named.j2 x8_1 (decide (126 < (e.toNat : Int)))))
    (up (
      cond (decide (1 ≤ (s.size : Int)))
        (some (decide ((s.size : Int) ≤ 32)))
        (some false)))
noncomputable def g_catalog_Named (s : ByteArray) : Option (Bool) :=
  loop (fun q' => g_catalog_Named.l1 s q') 0
noncomputable def g_catalog_rows : Option ((List catalog_row)) :=
  some ([(catalog_row.mk (⟨#[]⟩ : ByteArray) 0 0 ([] : (List Int)) ([] : (List Int))), (catalog_row.mk (⟨#[109, 100, 53]⟩ : ByteArray) 1 0 ([] : (List Int)) ([18] : List Int)), (catalog_row.mk (⟨#[115, 104, 97, 49]⟩ : ByteArray) 1 0 ([] : (List Int)) ([60] : List Int)), (catalog_row.mk (⟨#[115, 104, 97, 50, 53, 54]⟩ : ByteArray) 1 0 ([] : (List Int)) ([128] : List Int)), (catalog_row.mk (⟨#[115, 104, 97, 51, 56, 52]⟩ : ByteArray) 1 0 ([] : (List Int)) ([192] : List Int)), (catalog_row.mk (⟨#[114, 115, 97]⟩ : ByteArray) 2 1 ([] : (List Int)) ([] : (List Int))), (catalog_row.mk (⟨#[100, 115, 97]⟩ : ByteArray) 2 1 ([] : (List Int)) ([] : (List Int))), (catalog_row.mk (⟨#[101, 99, 100, 115, 97]⟩ : ByteArray) 2 2 ([] : (List Int)) ([] : (List Int))), (catalog_row.mk (⟨#[101, 100, 50, 53, 53, 49, 57]⟩ : ByteArray) 2 0 ([] : (List Int)) ([128] : List Int)), (catalog_row.mk (⟨#[109, 108, 100, 115, 97]⟩ : ByteArray) 2 3 ([44, 65, 87] : List Int) ([128, 192, 256] : List Int)), (catalog_row.mk (⟨#[114, 115, 97, 107, 120]⟩ : ByteArray) 3 1 ([] : (List Int)) ([] : (List Int))), (catalog_row.mk (⟨#[100, 104, 101]⟩ : ByteArray) 3 1 ([] : (List Int)) ([] : (List Int))), (catalog_row.mk (⟨#[101, 99, 100, 104, 101]⟩ : ByteArray) 3 2 ([] : (List Int)) ([] : (List Int))), (catalog_row.mk (⟨#[109, 108, 107, 101, 109]⟩ : ByteArray) 3 3 ([512, 768, 1024] : List Int) ([128, 192, 256] : List Int)), (catalog_row.mk (⟨#[114, 99, 52]⟩ : ByteArray) 4 3 ([40, 128] : List Int) ([40, 60] : List Int)), (catalog_row.mk (⟨#[100, 101, 115, 51]⟩ : ByteArray) 4 3 ([112, 168] : List Int) ([80, 112] : List Int)), (catalog_row.mk (⟨#[97, 101, 115, 99, 98, 99]⟩ : ByteArray) 4 3 ([128, 256] : List Int) ([128, 256] : List Int)), (catalog_row.mk (⟨#[97, 101, 115, 103, 99, 109]⟩ : ByteArray) 4 3 ([128, 256] : List Int) ([128, 256] : List Int)), (catalog_row.mk (⟨#[99, 104, 97, 99, 104, 97]⟩ : ByteArray) 4 0 ([] : (List Int)) ([256] : List Int)), (catalog_row.mk (⟨#[104, 109, 97, 99, 109, 100, 53]⟩ : ByteArray) 5 0 ([] : (List Int)) ([64] : List Int)), (catalog_row.mk (⟨#[104, 109, 97, 99, 115, 104, 97, 49]⟩ : ByteArray) 5 0 ([] : (List Int)) ([80] : List Int)), (catalog_row.mk (⟨#[104, 109, 97, 99, 115, 104, 97, 50, 53, 54]⟩ : ByteArray) 5 0 ([] : (List Int)) ([128] : List Int)), (catalog_row.mk (⟨#[97, 101, 97, 100]⟩ : ByteArray) 5 0 ([] : (List Int)) ([256] : List Int))] : List catalog_row)
noncomputable def g_catalog_of.j1 (alg : Int) (x9_1 : Bool) : Option (catalog_row × Bool) :=
  cond (x9_1)
    (some ((catalog_row.mk (⟨#[]⟩ : ByteArray) 0 0 ([] : (List Int)) ([] : (List Int))), false))
    ((g_catalog_rows).bind fun y =>
    (getI (arrL 23 y) alg).bind fun e =>
    some (e, true))
noncomputable def g_catalog_of (alg : Int) : Option (catalog_row × Bool) :=
  cond (decide (alg < 1))
    (g_catalog_of.j1 alg true)
    (g_catalog_of.j1 alg (decide (22 < alg)))
noncomputable def g_catalog_modulus.l1 (bits : Int) (x11_1 : Int) : Option (Lp (Int) (Int)) :=
  cond (decide (x11_1 < 5))
    ((getI ([([1024, 56] : List Int), ([2048, 80] : List Int), ([3072, 112] : List Int), ([7680, 128] : List Int), ([15360, 192] : List Int)] : List (List Int)) x11_1).bind fun e =>
    cond (decide (bits < (e[0]!)))
      (up (some (e[1]!)))
      (some (.next (W (x11_1 + 1)))))
    (up (
      some 256))
noncomputable def g_catalog_modulus (bits : Int) : Option (Int) :=
  loop (fun q' => g_catalog_modulus.l1 bits q') 0
noncomputable def g_slices_Index_int.l1 (s : (List Int)) (v : Int) (x8_1 : Int) : Option (Lp (Int) (Int)) :=
  cond (decide (x8_1 < (s.length : Int)))
    ((getI s x8_1).bind fun e =>
    cond (decide (v = e))
      (up (some x8_1))
      (some (.next (W (x8_1 + 1)))))
    (up (
      some (-1)))
noncomputable def g_slices_Index_int (s : (List Int)) (v : Int) : Option (Int) :=
  loop (fun q' => g_slices_Index_int.l1 s v q') 0
noncomputable def g_slices_Contains_int (s : (List Int)) (v : Int) : Option (Bool) :=
  (g_slices_Index_int s v).bind fun y =>
  some (decide (0 ≤ y))
noncomputable def g_catalog_Strength.j1 (u : api_Use) (x34_1 : Bool) : Option (Int) :=
  cond (x34_1)
    ((g_catalog_modulus u.Bits).bind fun y_2 =>
    some y_2)
    (some 0)
noncomputable def g_catalog_Strength (u : api_Use) : Option (Int) :=
  (g_catalog_of u.Alg).bind fun y =>
  cond (!y.2)
    (some 0)
    (cond (decide (y.1.way = 0))
      (cond (decide (u.Bits = 0))
        ((getI y.1.strengths 0).bind fun e =>
        some e)
        (some 0))
      (cond (decide (y.1.way = 1))
        (cond (decide (512 ≤ u.Bits))
          (g_catalog_Strength.j1 u (decide (u.Bits ≤ 16384)))
          (g_catalog_Strength.j1 u false))
        (cond (decide (y.1.way = 2))
          ((g_slices_Contains_int ([160, 224, 256, 384, 521] : List Int) u.Bits).bind fun y_3 =>
          cond (y_3)
            ((quoI u.Bits 2).bind fun q =>
            some q)
            (some 0))
          (cond (decide (y.1.way = 3))
            ((g_slices_Index_int y.1.sizes u.Bits).bind fun y_4 =>
            cond (decide (0 ≤ y_4))
              ((getI y.1.strengths y_4).bind fun e_2 =>
              some e_2)
              (some 0))
            (some 0)))))
noncomputable def g_catalog_Valid (u : api_Use) : Option (Bool) :=
  (g_catalog_Strength u).bind fun y =>
  some (decide (0 < y))
noncomputable def g_catalog_Kind (alg : Int) : Option (Int) :=
  (g_catalog_of alg).bind fun y =>
  some y.1.kind
noncomputable def g_certificate_Key (n : Int) : Option (Bool) :=
  cond (decide (0 ≤ n))
    (some (decide (n ≤ 2147483648)))
    (some false)
noncomputable def g_certificate_named.j2 (x7_1 : Int) (x27_2 : Bool) : Option (Lp (Int) (Bool)) :=
  cond (x27_2)
    (up (some false))
    (some (.next (W (x7_1 + 1))))
noncomputable def g_certificate_named.l1 (l : (List ByteArray)) (x7_1 : Int) : Option (Lp (Int) (Bool)) :=
  cond (decide (x7_1 < (l.length : Int)))
    ((getI l x7_1).bind fun e =>
    (g_catalog_Named e).bind fun y =>
    cond (!y)
      (g_certificate_named.j2 x7_1 true)
      (cond (decide (0 < x7_1))
        ((getI l (W (x7_1 - 1))).bind fun e_2 =>
        g_certificate_named.j2 x7_1 (!ltT (toB e_2) (toB e)))
        (g_certificate_named.j2 x7_1 false)))
    (up (
      some (decide ((l.length : Int) ≤ 8))))
noncomputable def g_certificate_named (l : (List ByteArray)) : Option (Bool) :=
  loop (fun q' => g_certificate_named.l1 l q') 0
noncomputable def g_certificate_of (u : api_Use) (kind : Int) : Option (Bool) :=
  (g_catalog_Valid u).bind fun y =>
  cond (y)
    ((g_catalog_Kind u.Alg).bind fun y_2 =>
    some (decide (y_2 = kind)))
    (some false)
noncomputable def g_certificate_sum (n : Int) : Option (Bool) :=
  cond (decide (0 ≤ n))
    (some (decide (n < 4294967296)))
    (some false)
noncomputable def g_certificate_valid.j3 (c : api_Certificate) (x73_3 : Bool) : Option (Bool) :=
  cond (x73_3)
    (some false)
    (cond (decide (0 ≤ c.Path))
      (cond (decide (c.Path ≤ 8))
        (cond (c.Authority)
          (some true)
          (some (decide (c.Path = 0))))
        (some false))
      (some false))
noncomputable def g_certificate_valid.j2 (c : api_Certificate) (x58_2 : Bool) : Option (Bool) :=
  cond (x58_2)
    (some false)
    (cond (decide (c.From < 0))
      (g_certificate_valid.j3 c true)
      (cond (decide (c.To < c.From))
        (g_certificate_valid.j3 c true)
        (g_certificate_valid.j3 c (decide (40000 < c.To)))))
noncomputable def g_certificate_valid.j1 (c : api_Certificate) (x28_1 : Bool) : Option (Bool) :=
  cond (x28_1)
    (some false)
    ((g_certificate_of c.Key 2).bind fun y_4 =>
    cond (!y_4)
      (g_certificate_valid.j2 c true)
      ((g_certificate_Key c.KeyId).bind fun y_5 =>
      cond (!y_5)
        (g_certificate_valid.j2 c true)
        ((g_certificate_of c.Hash 1).bind fun y_6 =>
        cond (!y_6)
          (g_certificate_valid.j2 c true)
          ((g_certificate_Key c.Seal.Key).bind fun y_7 =>
          cond (!y_7)
            (g_certificate_valid.j2 c true)
            ((g_certificate_sum c.Seal.Sum).bind fun y_8 =>
            g_certificate_valid.j2 c (!y_8))))))
noncomputable def g_certificate_valid (c : api_Certificate) : Option (Bool) :=
  cond (decide (c.Serial < 0))
    (g_certificate_valid.j1 c true)
    (cond (decide (1099511627776 < c.Serial))
      (g_certificate_valid.j1 c true)
      ((g_catalog_Named c.Issuer).bind fun y =>
      cond (!y)
        (g_certificate_valid.j1 c true)
        ((g_catalog_Named c.Subject).bind fun y_2 =>
        cond (!y_2)
          (g_certificate_valid.j1 c true)
          ((g_certificate_named c.Names).bind fun y_3 =>
          g_certificate_valid.j1 c (!y_3)))))
noncomputable def g_certificate_Check (c : api_Certificate) : Option (Int) :=
  (g_certificate_valid c).bind fun y =>
  cond (!y)
    (some 9)
    (some 0)
noncomputable def g_keystore_Shows.l2 (key : api_Use) (id : Int) (l : (List api_Certificate)) (x30_2 : Int) : Option (Lp (Int) (Bool)) :=
  cond (decide (x30_2 < (l.length : Int)))
    ((getI l x30_2).bind fun e =>
    (g_certificate_Check e).bind fun y_4 =>
    cond (!decide (y_4 = 0))
      (up (some false))
      (some (.next (W (x30_2 + 1)))))
    (up (
      cond (decide ((l.length : Int) = 0))
        (some true)
        ((getI l 0).bind fun e_2 =>
        cond (decide (e_2.Key = key))
          (some (decide (e_2.KeyId = id)))
          (some false))))
noncomputable def g_keystore_Shows.j1 (key : api_Use) (id : Int) (l : (List api_Certificate)) (x27_1 : Bool) : Option (Bool) :=
  cond (x27_1)
    (some false)
    (loop (fun q' => g_keystore_Shows.l2 key id l q') 0)
noncomputable def g_keystore_Shows (key : api_Use) (id : Int) (l : (List api_Certificate)) : Option (Bool) :=
  (g_catalog_Valid key).bind fun y =>
  cond (!y)
    (g_keystore_Shows.j1 key id l true)
    ((g_catalog_Kind key.Alg).bind fun y_2 =>
    cond (!decide (y_2 = 2))
      (g_keystore_Shows.j1 key id l true)
      ((g_certificate_Key id).bind fun y_3 =>
      cond (!y_3)
        (g_keystore_Shows.j1 key id l true)
        (g_keystore_Shows.j1 key id l (decide (8 < (l.length : Int))))))
noncomputable def g_keystore_Check.j2 (x7_1 : Int) (x40_2 : Bool) : Option (Lp (Int) (Int)) :=
  cond (x40_2)
    (up (some 16))
    (some (.next (W (x7_1 + 1))))
noncomputable def g_keystore_Check.l1 (l : (List api_Entry)) (x7_1 : Int) : Option (Lp (Int) (Int)) :=
  cond (decide (x7_1 < (l.length : Int)))
    ((getI l x7_1).bind fun e =>
    (g_catalog_Named e.Alias).bind fun y =>
    cond (!y)
      (g_keystore_Check.j2 x7_1 true)
      (cond (decide (0 < x7_1))
        ((getI l (W (x7_1 - 1))).bind fun e_2 =>
        cond (!ltT (toB e_2.Alias) (toB e.Alias))
          (g_keystore_Check.j2 x7_1 true)
          ((g_keystore_Shows e.Key e.KeyId e.Chain).bind fun y_2 =>
          g_keystore_Check.j2 x7_1 (!y_2)))
        ((g_keystore_Shows e.Key e.KeyId e.Chain).bind fun y_3 =>
        g_keystore_Check.j2 x7_1 (!y_3))))
    (up (
      cond (decide (64 < (l.length : Int)))
        (some 16)
        (some 0)))
noncomputable def g_keystore_Check (l : (List api_Entry)) : Option (Int) :=
  loop (fun q' => g_keystore_Check.l1 l q') 0
noncomputable def g_keystore_Find_c1 (x' : api_Entry) (c0 : ByteArray) : Option (Bool) :=
  some (decide (x'.Alias = c0))
noncomputable def g_slices_IndexFunc_api_Entry.l1 (s : (List api_Entry)) (f : api_Entry → Option (Bool)) (x8_1 : Int) : Option (Lp (Int) (Int)) :=
  cond (decide (x8_1 < (s.length : Int)))
    ((getI s x8_1).bind fun e =>
    (f e).bind fun y =>
    cond (y)
      (up (some x8_1))
      (some (.next (W (x8_1 + 1)))))
    (up (
      some (-1)))
noncomputable def g_slices_IndexFunc_api_Entry (s : (List api_Entry)) (f : api_Entry → Option (Bool)) : Option (Int) :=
  loop (fun q' => g_slices_IndexFunc_api_Entry.l1 s f q') 0
noncomputable def g_slices_Clone_string.j1 (s : (List ByteArray)) (x4_1 : Bool) : Option ((List ByteArray)) :=
  cond (x4_1)
    (some ([] : (List ByteArray)))
    ((appI 16 ([] : List ByteArray) s).bind fun l =>
    some l)
noncomputable def g_slices_Clone_string (s : (List ByteArray)) : Option ((List ByteArray)) :=
  nilC (s)
    (g_slices_Clone_string.j1 s true)
    (g_slices_Clone_string.j1 s false)
noncomputable def g_certificate_Copy.l1 (l : (List api_Certificate)) (x8_1 : Int) (out_1 : List api_Certificate) : Option (Lp (Int × List api_Certificate) ((List api_Certificate))) :=
  cond (decide (x8_1 < (l.length : Int)))
    ((getI l x8_1).bind fun e =>
    (g_slices_Clone_string e.Names).bind fun y =>
    (appI 2280 out_1 ([(api_Certificate.mk e.Serial e.Issuer e.Subject e.Key e.KeyId e.Hash e.From e.To e.Authority e.Path y e.Seal)] : List api_Certificate)).bind fun l_2 =>
    some (.next (W (x8_1 + 1), l_2)))
    (up (
      some out_1))
noncomputable def g_certificate_Copy (l : (List api_Certificate)) : Option ((List api_Certificate)) :=
  loop (fun q' => g_certificate_Copy.l1 l q'.1 q'.2) (0, ([] : List api_Certificate))
noncomputable def g_keystore_own (x' : api_Entry) : Option (api_Entry) :=
  (g_certificate_Copy x'.Chain).bind fun y =>
  some (api_Entry.mk x'.Alias x'.Key x'.KeyId x'.Secret y)
noncomputable def g_keystore_Find (l : (List api_Entry)) (alias : ByteArray) : Option (api_Entry × Bool) :=
  (g_slices_IndexFunc_api_Entry l (fun x0 => g_keystore_Find_c1 x0 alias)).bind fun y =>
  cond (decide (y < 0))
    (some ((api_Entry.mk (⟨#[]⟩ : ByteArray) (api_Use.mk 0 0) 0 false ([] : (List api_Certificate))), false))
    ((getI l y).bind fun e =>
    (g_keystore_own e).bind fun y_2 =>
    some (y_2, true))
noncomputable def g_math_bits_Len64.j3 (x_3 : Int) (n_3 : Int) : Option (Int) :=
  (idxT (⟨#[0, 1, 2, 2, 3, 3, 3, 3, 4, 4, 4, 4, 4, 4, 4, 4, 5, 5, 5, 5, 5, 5, 5, 5, 5, 5, 5, 5, 5, 5, 5, 5, 6, 6, 6, 6, 6, 6, 6, 6, 6, 6, 6, 6, 6, 6, 6, 6, 6, 6, 6, 6, 6, 6, 6, 6, 6, 6, 6, 6, 6, 6, 6, 6, 7, 7, 7, 7, 7, 7, 7, 7, 7, 7, 7, 7, 7, 7, 7, 7, 7, 7, 7, 7, 7, 7, 7, 7, 7, 7, 7, 7, 7, 7, 7, 7, 7, 7, 7, 7, 7, 7, 7, 7, 7, 7, 7, 7, 7, 7, 7, 7, 7, 7, 7, 7, 7, 7, 7, 7, 7, 7, 7, 7, 7, 7, 7, 7, 8, 8, 8, 8, 8, 8, 8, 8, 8, 8, 8, 8, 8, 8, 8, 8, 8, 8, 8, 8, 8, 8, 8, 8, 8, 8, 8, 8, 8, 8, 8, 8, 8, 8, 8, 8, 8, 8, 8, 8, 8, 8, 8, 8, 8, 8, 8, 8, 8, 8, 8, 8, 8, 8, 8, 8, 8, 8, 8, 8, 8, 8, 8, 8, 8, 8, 8, 8, 8, 8, 8, 8, 8, 8, 8, 8, 8, 8, 8, 8, 8, 8, 8, 8, 8, 8, 8, 8, 8, 8, 8, 8, 8, 8, 8, 8, 8, 8, 8, 8, 8, 8, 8, 8, 8, 8, 8, 8, 8, 8, 8, 8, 8, 8, 8, 8, 8, 8, 8, 8, 8, 8, 8, 8, 8, 8, 8, 8]⟩ : ByteArray) ((u8 x_3).toNat : Int)).bind fun c =>
  some (W (n_3 + (c.toNat : Int)))
noncomputable def g_math_bits_Len64.j2 (x_2 : Int) (n_2 : Int) : Option (Int) :=
  cond (decide (256 ≤ x_2))
    ((shrK .u64 x_2 8).bind fun q_3 =>
    g_math_bits_Len64.j3 q_3 (W (n_2 + 8)))
    (g_math_bits_Len64.j3 x_2 n_2)
noncomputable def g_math_bits_Len64.j1 (x_1 : Int) (n_1 : Int) : Option (Int) :=
  cond (decide (65536 ≤ x_1))
    ((shrK .u64 x_1 16).bind fun q_2 =>
    g_math_bits_Len64.j2 q_2 (W (n_1 + 16)))
    (g_math_bits_Len64.j2 x_1 n_1)
noncomputable def g_math_bits_Len64 (x' : Int) : Option (Int) :=
  cond (decide (4294967296 ≤ x'))
    ((shrK .u64 x' 32).bind fun q =>
    g_math_bits_Len64.j1 q 32)
    (g_math_bits_Len64.j1 x' 0)
noncomputable def g_math_bits_Len (x' : Int) : Option (Int) :=
  (g_math_bits_Len64 x').bind fun y =>
  some y
noncomputable def g_keystore_Merge_c1 (x' : api_Entry) (y : api_Entry) : Option (Int) :=
  cond (ltT (toB x'.Alias) (toB y.Alias))
    (some (-1))
    (some 1)
noncomputable def g_slices_insertionSortCmpFunc_api_Entry.j3 (i_1 : Int) (j_2 : Int) (data_2 : List api_Entry) (x34_3 : Bool) : Option (Lp (Int × List api_Entry) (Lp (Int × List api_Entry) ((List api_Entry)))) :=
  cond (x34_3)
    ((getI data_2 (W (j_2 - 1))).bind fun e_3 =>
    (getI data_2 j_2).bind fun e_4 =>
    (getI (setI data_2 ((j_2).toNat) e_3) (W (j_2 - 1))).bind fun e_5 =>
    some (.next (W (j_2 - 1), setI (setI data_2 ((j_2).toNat) e_3) ((W (j_2 - 1)).toNat) e_4)))
    (up (
      some (.next (W (i_1 + 1), data_2))))
noncomputable def g_slices_insertionSortCmpFunc_api_Entry.l2 (a : Int) (cmp : api_Entry → api_Entry → Option (Int)) (i_1 : Int) (j_2 : Int) (data_2 : List api_Entry) : Option (Lp (Int × List api_Entry) (Lp (Int × List api_Entry) ((List api_Entry)))) :=
  cond (decide (a < j_2))
    ((getI data_2 j_2).bind fun e =>
    (getI data_2 (W (j_2 - 1))).bind fun e_2 =>
    (cmp e e_2).bind fun y =>
    g_slices_insertionSortCmpFunc_api_Entry.j3 i_1 j_2 data_2 (decide (y < 0)))
    (g_slices_insertionSortCmpFunc_api_Entry.j3 i_1 j_2 data_2 false)
noncomputable def g_slices_insertionSortCmpFunc_api_Entry.l1 (a : Int) (b : Int) (cmp : api_Entry → api_Entry → Option (Int)) (i_1 : Int) (data_1 : List api_Entry) : Option (Lp (Int × List api_Entry) ((List api_Entry))) :=
  cond (decide (i_1 < b))
    (loop (fun q' => g_slices_insertionSortCmpFunc_api_Entry.l2 a cmp i_1 q'.1 q'.2) (i_1, data_1))
    (up (some data_1))
noncomputable def g_slices_insertionSortCmpFunc_api_Entry (data : List api_Entry) (a : Int) (b : Int) (cmp : api_Entry → api_Entry → Option (Int)) : Option ((List api_Entry)) :=
  loop (fun q' => g_slices_insertionSortCmpFunc_api_Entry.l1 a b cmp q'.1 q'.2) (W (a + 1), data)
noncomputable def g_slices_pdqsortCmpFunc_api_Entry.l1 (data : List api_Entry) (a : Int) (b : Int) (limit : Int) (cmp : api_Entry → api_Entry → Option (Int)) : Option (Lp (Unit) ((List api_Entry))) :=
  cond (decide ((W (b - a)) ≤ 12))
    ((g_slices_insertionSortCmpFunc_api_Entry data a b cmp).bind fun y =>
    up (some y))
    (cond (decide (limit = 0))
      (none)
      (none))
noncomputable def g_slices_pdqsortCmpFunc_api_Entry (data : List api_Entry) (a : Int) (b : Int) (limit : Int) (cmp : api_Entry → api_Entry → Option (Int)) : Option ((List api_Entry)) :=
  loop (fun _ => g_slices_pdqsortCmpFunc_api_Entry.l1 data a b limit cmp) ()
noncomputable def g_slices_SortFunc_api_Entry (x' : List api_Entry) (cmp : api_Entry → api_Entry → Option (Int)) : Option ((List api_Entry)) :=
  (g_math_bits_Len (IntKind.wrap .u64 (x'.length : Int))).bind fun y =>
  (g_slices_pdqsortCmpFunc_api_Entry x' 0 (x'.length : Int) y cmp).bind fun y_2 =>
  some y_2
noncomputable def g_keystore_Merge.j3 (x35_2 : Int) (l_3_2 : List api_Entry) : Option (Lp (Int × List api_Entry) ((List api_Entry) × Int)) :=
  some (.next (W (x35_2 + 1), l_3_2))
noncomputable def g_keystore_Merge.l4 (y_4 : (List api_Entry)) (x60_4 : Int) (out_4 : List api_Entry) : Option (Lp (Int × List api_Entry) ((List api_Entry) × Int)) :=
  cond (decide (x60_4 < (y_4.length : Int)))
    ((getI y_4 x60_4).bind fun e_2 =>
    (g_keystore_own e_2).bind fun y_5 =>
    (appI 432 out_4 ([y_5] : List api_Entry)).bind fun l_4 =>
    some (.next (W (x60_4 + 1), l_4)))
    (up (
      some (out_4, 0)))
noncomputable def g_keystore_Merge.l2 (a : (List api_Entry)) (b : (List api_Entry)) (x35_2 : Int) (l_2 : List api_Entry) : Option (Lp (Int × List api_Entry) ((List api_Entry) × Int)) :=
  cond (decide (x35_2 < (a.length : Int)))
    ((getI a x35_2).bind fun e =>
    (g_keystore_Find b e.Alias).bind fun y_3 =>
    cond (!y_3.2)
      ((appI 432 l_2 ([e] : List api_Entry)).bind fun l_3 =>
      g_keystore_Merge.j3 x35_2 l_3)
      (g_keystore_Merge.j3 x35_2 l_2))
    (up (
      cond (decide (64 < (l_2.length : Int)))
        (some (([] : (List api_Entry)), 3))
        ((g_slices_SortFunc_api_Entry l_2 (fun x0 x1 => g_keystore_Merge_c1 x0 x1)).bind fun y_4 =>
        loop (fun q' => g_keystore_Merge.l4 y_4 q'.1 q'.2) (0, ([] : List api_Entry)))))
noncomputable def g_keystore_Merge.j1 (a : (List api_Entry)) (b : (List api_Entry)) (x21_1 : Bool) : Option ((List api_Entry) × Int) :=
  cond (x21_1)
    (some (([] : (List api_Entry)), 16))
    ((makC 72 (b.length : Int) (W ((a.length : Int) + (b.length : Int))) ((api_Entry.mk (⟨#[]⟩ : ByteArray) (api_Use.mk 0 0) 0 false ([] : (List api_Certificate))) : api_Entry)).bind fun m =>
    (cpyI m b).bind fun l =>
    loop (fun q' => g_keystore_Merge.l2 a b q'.1 q'.2) (0, l))
noncomputable def g_keystore_Merge (a : (List api_Entry)) (b : (List api_Entry)) : Option ((List api_Entry) × Int) :=
  (g_keystore_Check a).bind fun y =>
  cond (!decide (y = 0))
    (g_keystore_Merge.j1 a b true)
    ((g_keystore_Check b).bind fun y_2 =>
    g_keystore_Merge.j1 a b (!decide (y_2 = 0)))
noncomputable def g_law05_awake : Option (Bool) :=
  (g_keystore_Merge ([(api_Entry.mk (⟨#[97]⟩ : ByteArray) (api_Use.mk 5 2048) 0 false ([] : (List api_Certificate))), (api_Entry.mk (⟨#[98]⟩ : ByteArray) (api_Use.mk 5 2048) 1 false ([] : (List api_Certificate)))] : List api_Entry) ([(api_Entry.mk (⟨#[98]⟩ : ByteArray) (api_Use.mk 5 2048) 2 false ([] : (List api_Certificate))), (api_Entry.mk (⟨#[99]⟩ : ByteArray) (api_Use.mk 5 2048) 0 false ([] : (List api_Certificate)))] : List api_Entry)).bind fun y =>
  (g_keystore_Find y.1 (⟨#[98]⟩ : ByteArray)).bind fun y_2 =>
  cond (decide (y.2 = 0))
    (cond (decide ((y.1.length : Int) = 3))
      (cond (y_2.2)
        (cond (decide (y_2.1.KeyId = 2))
          ((g_keystore_Check y.1).bind fun y_3 =>
          some (decide (y_3 = 0)))
          (some false))
        (some false))
      (some false))
    (some false)
noncomputable def g_make_Roll (l : (List Int)) : Option (cipherplanmake_Dice) :=
  some (cipherplanmake_Dice.mk l 0)
noncomputable def g_make_Mod (n : Int) (k : Int) : Option (Int) :=
  cond (decide (k < 1))
    (some 0)
    ((remI n k).bind fun q =>
    (remI (W (q + k)) k).bind fun q_2 =>
    some q_2)
noncomputable def g_make_Dice_Next (d : cipherplanmake_Dice) (n : Int) : Option (Int × cipherplanmake_Dice) :=
  cond (decide ((d.L.length : Int) ≤ d.At))
    (some (0, d))
    ((getI d.L (W ((W (d.At + 1)) - 1))).bind fun e =>
    (g_make_Mod e n).bind fun y =>
    some (y, (cipherplanmake_Dice.mk d.L (W (d.At + 1)))))
noncomputable def g_make_Dice_Of (d : cipherplanmake_Dice) (l : (List Int)) : Option (Int × cipherplanmake_Dice) :=
  (g_make_Dice_Next d (l.length : Int)).bind fun y =>
  (getI l y.1).bind fun e =>
  some (e, y.2)
noncomputable def g_make_size.j3 (d : cipherplanmake_Dice) (x40_3 : Bool) : Option (Int × cipherplanmake_Dice) :=
  cond (x40_3)
    ((g_make_Dice_Of d ([128, 256] : List Int)).bind fun y_7 =>
    some (y_7.1, y_7.2))
    (some (0, d))
noncomputable def g_make_size.j2 (d : cipherplanmake_Dice) (a : Int) (x14_2 : Bool) : Option (Int × cipherplanmake_Dice) :=
  cond (x14_2)
    ((g_make_Dice_Of d ([256, 160, 224, 384, 521] : List Int)).bind fun y_2 =>
    some (y_2.1, y_2.2))
    (cond (decide (a = 9))
      ((g_make_Dice_Of d ([65, 44, 87] : List Int)).bind fun y_3 =>
      some (y_3.1, y_3.2))
      (cond (decide (a = 13))
        ((g_make_Dice_Of d ([768, 512, 1024] : List Int)).bind fun y_4 =>
        some (y_4.1, y_4.2))
        (cond (decide (a = 14))
          ((g_make_Dice_Of d ([128, 40] : List Int)).bind fun y_5 =>
          some (y_5.1, y_5.2))
          (cond (decide (a = 15))
            ((g_make_Dice_Of d ([168, 112] : List Int)).bind fun y_6 =>
            some (y_6.1, y_6.2))
            (cond (decide (a = 16))
              (g_make_size.j3 d (decide (a = 16)))
              (g_make_size.j3 d (decide (a = 17))))))))
noncomputable def g_make_size.j1 (d : cipherplanmake_Dice) (a : Int) (x6_1 : Bool) : Option (Int × cipherplanmake_Dice) :=
  cond (x6_1)
    ((g_make_Dice_Of d ([2048, 1024, 512, 3072, 1023, 4096, 16384] : List Int)).bind fun y =>
    some (y.1, y.2))
    (cond (decide (a = 7))
      (g_make_size.j2 d a (decide (a = 7)))
      (g_make_size.j2 d a (decide (a = 12))))
noncomputable def g_make_size (d : cipherplanmake_Dice) (a : Int) : Option (Int × cipherplanmake_Dice) :=
  cond (decide (a = 5))
    (g_make_size.j1 d a (decide (a = 5)))
    (cond (decide (a = 6))
      (g_make_size.j1 d a (decide (a = 6)))
      (cond (decide (a = 10))
        (g_make_size.j1 d a (decide (a = 10)))
        (g_make_size.j1 d a (decide (a = 11)))))
noncomputable def g_make_Key (d : cipherplanmake_Dice) : Option (api_Use × cipherplanmake_Dice) :=
  (g_make_Dice_Of d ([5, 7, 5, 6, 8, 9] : List Int)).bind fun y =>
  (g_make_size y.2 y.1).bind fun y_2 =>
  some ((api_Use.mk y.1 y_2.1), y_2.2)
noncomputable def g_make_Dice_One (d : cipherplanmake_Dice) (n : Int) : Option (Bool × cipherplanmake_Dice) :=
  (g_make_Dice_Next d n).bind fun y =>
  some (decide (y.1 = (W (n - 1))), y.2)
noncomputable def g_ref03_Copy (c : api_Certificate) : Option (api_Certificate) :=
  (appI 16 ([] : List ByteArray) c.Names).bind fun l =>
  some (api_Certificate.mk c.Serial c.Issuer c.Subject c.Key c.KeyId c.Hash c.From c.To c.Authority c.Path l c.Seal)
noncomputable def g_ref03_Name.j3 (i_2 : Int) (x27_3 : Bool) : Option (Lp (Int) (Bool)) :=
  cond (x27_3)
    (up (some false))
    (some (.next (W (i_2 + 1))))
noncomputable def g_ref03_Name.l2 (s : ByteArray) (i_2 : Int) : Option (Lp (Int) (Bool)) :=
  cond (decide (i_2 < (s.size : Int)))
    ((idxT s i_2).bind fun c =>
    cond (decide ((c.toNat : Int) < 33))
      (g_ref03_Name.j3 i_2 true)
      ((idxT s i_2).bind fun c_2 =>
      g_ref03_Name.j3 i_2 (decide (126 < (c_2.toNat : Int)))))
    (up (
      some true))
noncomputable def g_ref03_Name.j1 (s : ByteArray) (x11_1 : Bool) : Option (Bool) :=
  cond (x11_1)
    (some false)
    (loop (fun q' => g_ref03_Name.l2 s q') 0)
noncomputable def g_ref03_Name (s : ByteArray) : Option (Bool) :=
  cond (decide ((s.size : Int) < 1))
    (g_ref03_Name.j1 s true)
    (g_ref03_Name.j1 s (decide (32 < (s.size : Int))))
noncomputable def g_ref02_modulus.j1 (b : Int) (x3_1 : Bool) : Option (Int) :=
  cond (x3_1)
    (some 0)
    (cond (decide (b < 1024))
      (some 56)
      (cond (decide (b < 2048))
        (some 80)
        (cond (decide (b < 3072))
          (some 112)
          (cond (decide (b < 7680))
            (some 128)
            (cond (decide (b < 15360))
              (some 192)
              (some 256))))))
noncomputable def g_ref02_modulus (b : Int) : Option (Int) :=
  cond (decide (b < 512))
    (g_ref02_modulus.j1 b true)
    (g_ref02_modulus.j1 b (decide (16384 < b)))
noncomputable def g_ref02_among.l1 (b : Int) (sizes : (List Int)) (strengths : (List Int)) (i_1 : Int) : Option (Lp (Int) (Int)) :=
  cond (decide (i_1 < (sizes.length : Int)))
    ((getI sizes i_1).bind fun e =>
    cond (decide (e = b))
      ((getI strengths i_1).bind fun e_2 =>
      up (some e_2))
      (some (.next (W (i_1 + 1)))))
    (up (
      some 0))
noncomputable def g_ref02_among (b : Int) (sizes : (List Int)) (strengths : (List Int)) : Option (Int) :=
  loop (fun q' => g_ref02_among.l1 b sizes strengths q') 0
noncomputable def g_ref02_single.j2 (alg : Int) (x14_2 : Bool) : Option (Int) :=
  cond (x14_2)
    (some 256)
    (cond (decide (alg = 19))
      (some 64)
      (cond (decide (alg = 20))
        (some 80)
        (some 0)))
noncomputable def g_ref02_single.j1 (alg : Int) (x8_1 : Bool) : Option (Int) :=
  cond (x8_1)
    (some 128)
    (cond (decide (alg = 4))
      (some 192)
      (cond (decide (alg = 18))
        (g_ref02_single.j2 alg (decide (alg = 18)))
        (g_ref02_single.j2 alg (decide (alg = 22)))))
noncomputable def g_ref02_single (alg : Int) : Option (Int) :=
  cond (decide (alg = 1))
    (some 18)
    (cond (decide (alg = 2))
      (some 60)
      (cond (decide (alg = 3))
        (g_ref02_single.j1 alg (decide (alg = 3)))
        (cond (decide (alg = 8))
          (g_ref02_single.j1 alg (decide (alg = 8)))
          (g_ref02_single.j1 alg (decide (alg = 21))))))
noncomputable def g_ref02_Strength.j3 (u : api_Use) (x35_3 : Bool) : Option (Int) :=
  cond (x35_3)
    ((quoI u.Bits 2).bind fun q =>
    some q)
    (some 0)
noncomputable def g_ref02_Strength.j4 (u : api_Use) (x62_4 : Bool) : Option (Int) :=
  cond (x62_4)
    ((g_ref02_among u.Bits ([128, 256] : List Int) ([128, 256] : List Int)).bind fun y_6 =>
    some y_6)
    ((g_ref02_single u.Alg).bind fun y_7 =>
    (g_ref02_among u.Bits ([0] : List Int) ([y_7] : List Int)).bind fun y_8 =>
    some y_8)
noncomputable def g_ref02_Strength.j2 (u : api_Use) (x15_2 : Bool) : Option (Int) :=
  cond (x15_2)
    (cond (decide (u.Bits = 160))
      (g_ref02_Strength.j3 u true)
      (cond (decide (u.Bits = 224))
        (g_ref02_Strength.j3 u true)
        (cond (decide (u.Bits = 256))
          (g_ref02_Strength.j3 u true)
          (cond (decide (u.Bits = 384))
            (g_ref02_Strength.j3 u true)
            (g_ref02_Strength.j3 u (decide (u.Bits = 521)))))))
    (cond (decide (u.Alg = 9))
      ((g_ref02_among u.Bits ([44, 65, 87] : List Int) ([128, 192, 256] : List Int)).bind fun y_2 =>
      some y_2)
      (cond (decide (u.Alg = 13))
        ((g_ref02_among u.Bits ([512, 768, 1024] : List Int) ([128, 192, 256] : List Int)).bind fun y_3 =>
        some y_3)
        (cond (decide (u.Alg = 14))
          ((g_ref02_among u.Bits ([40, 128] : List Int) ([40, 60] : List Int)).bind fun y_4 =>
          some y_4)
          (cond (decide (u.Alg = 15))
            ((g_ref02_among u.Bits ([112, 168] : List Int) ([80, 112] : List Int)).bind fun y_5 =>
            some y_5)
            (cond (decide (u.Alg = 16))
              (g_ref02_Strength.j4 u (decide (u.Alg = 16)))
              (g_ref02_Strength.j4 u (decide (u.Alg = 17))))))))
noncomputable def g_ref02_Strength.j1 (u : api_Use) (x8_1 : Bool) : Option (Int) :=
  cond (x8_1)
    ((g_ref02_modulus u.Bits).bind fun y =>
    some y)
    (cond (decide (u.Alg = 7))
      (g_ref02_Strength.j2 u (decide (u.Alg = 7)))
      (g_ref02_Strength.j2 u (decide (u.Alg = 12))))
noncomputable def g_ref02_Strength (u : api_Use) : Option (Int) :=
  cond (decide (u.Alg = 5))
    (g_ref02_Strength.j1 u (decide (u.Alg = 5)))
    (cond (decide (u.Alg = 6))
      (g_ref02_Strength.j1 u (decide (u.Alg = 6)))
      (cond (decide (u.Alg = 10))
        (g_ref02_Strength.j1 u (decide (u.Alg = 10)))
        (g_ref02_Strength.j1 u (decide (u.Alg = 11)))))
noncomputable def g_ref02_Valid (u : api_Use) : Option (Bool) :=
  (g_ref02_Strength u).bind fun y =>
  some (decide (0 < y))
noncomputable def g_ref02_rows : Option ((List cipherplanref02_row)) :=
  some ([(cipherplanref02_row.mk (⟨#[]⟩ : ByteArray) 0), (cipherplanref02_row.mk (⟨#[109, 100, 53]⟩ : ByteArray) 1), (cipherplanref02_row.mk (⟨#[115, 104, 97, 49]⟩ : ByteArray) 1), (cipherplanref02_row.mk (⟨#[115, 104, 97, 50, 53, 54]⟩ : ByteArray) 1), (cipherplanref02_row.mk (⟨#[115, 104, 97, 51, 56, 52]⟩ : ByteArray) 1), (cipherplanref02_row.mk (⟨#[114, 115, 97]⟩ : ByteArray) 2), (cipherplanref02_row.mk (⟨#[100, 115, 97]⟩ : ByteArray) 2), (cipherplanref02_row.mk (⟨#[101, 99, 100, 115, 97]⟩ : ByteArray) 2), (cipherplanref02_row.mk (⟨#[101, 100, 50, 53, 53, 49, 57]⟩ : ByteArray) 2), (cipherplanref02_row.mk (⟨#[109, 108, 100, 115, 97]⟩ : ByteArray) 2), (cipherplanref02_row.mk (⟨#[114, 115, 97, 107, 120]⟩ : ByteArray) 3), (cipherplanref02_row.mk (⟨#[100, 104, 101]⟩ : ByteArray) 3), (cipherplanref02_row.mk (⟨#[101, 99, 100, 104, 101]⟩ : ByteArray) 3), (cipherplanref02_row.mk (⟨#[109, 108, 107, 101, 109]⟩ : ByteArray) 3), (cipherplanref02_row.mk (⟨#[114, 99, 52]⟩ : ByteArray) 4), (cipherplanref02_row.mk (⟨#[100, 101, 115, 51]⟩ : ByteArray) 4), (cipherplanref02_row.mk (⟨#[97, 101, 115, 99, 98, 99]⟩ : ByteArray) 4), (cipherplanref02_row.mk (⟨#[97, 101, 115, 103, 99, 109]⟩ : ByteArray) 4), (cipherplanref02_row.mk (⟨#[99, 104, 97, 99, 104, 97]⟩ : ByteArray) 4), (cipherplanref02_row.mk (⟨#[104, 109, 97, 99, 109, 100, 53]⟩ : ByteArray) 5), (cipherplanref02_row.mk (⟨#[104, 109, 97, 99, 115, 104, 97, 49]⟩ : ByteArray) 5), (cipherplanref02_row.mk (⟨#[104, 109, 97, 99, 115, 104, 97, 50, 53, 54]⟩ : ByteArray) 5), (cipherplanref02_row.mk (⟨#[97, 101, 97, 100]⟩ : ByteArray) 5)] : List cipherplanref02_row)
noncomputable def g_ref02_Kind.j1 (alg : Int) (x8_1 : Bool) : Option (Int) :=
  cond (x8_1)
    (some 0)
    ((g_ref02_rows).bind fun y =>
    (getI y alg).bind fun e =>
    some e.kind)
noncomputable def g_ref02_Kind (alg : Int) : Option (Int) :=
  cond (decide (alg < 1))
    (g_ref02_Kind.j1 alg true)
    (g_ref02_Kind.j1 alg (decide (22 < alg)))
noncomputable def g_ref03_Signature (u : api_Use) : Option (Bool) :=
  (g_ref02_Valid u).bind fun y =>
  cond (y)
    ((g_ref02_Kind u.Alg).bind fun y_2 =>
    some (decide (y_2 = 2)))
    (some false)
noncomputable def g_ref03_Check.j5 (i_4 : Int) (x123_5 : Bool) : Option (Lp (Int) (Int)) :=
  cond (x123_5)
    (up (some 9))
    (some (.next (W (i_4 + 1))))
noncomputable def g_ref03_Check.j6 (x145_6 : Bool) : Option (Int) :=
  cond (x145_6)
    (some 9)
    (some 0)
noncomputable def g_ref03_Check.l4 (c : api_Certificate) (i_4 : Int) : Option (Lp (Int) (Int)) :=
  cond (decide (i_4 < (c.Names.length : Int)))
    ((getI c.Names i_4).bind fun e =>
    (g_ref03_Name e).bind fun y_6 =>
    cond (!y_6)
      (g_ref03_Check.j5 i_4 true)
      (cond (decide (0 < i_4))
        ((getI c.Names (W (i_4 - 1))).bind fun e_2 =>
        g_ref03_Check.j5 i_4 (!ltT (toB e_2) (toB e)))
        (g_ref03_Check.j5 i_4 false)))
    (up (
      cond (decide (c.Seal.Key < 0))
        (g_ref03_Check.j6 true)
        (cond (decide (2147483648 < c.Seal.Key))
          (g_ref03_Check.j6 true)
          (cond (decide (c.Seal.Sum < 0))
            (g_ref03_Check.j6 true)
            (g_ref03_Check.j6 (decide (4294967296 ≤ c.Seal.Sum)))))))
noncomputable def g_ref03_Check.j3 (c : api_Certificate) (x91_3 : Bool) : Option (Int) :=
  cond (x91_3)
    (some 9)
    (loop (fun q' => g_ref03_Check.l4 c q') 0)
noncomputable def g_ref03_Check.j2 (c : api_Certificate) (x67_2 : Bool) : Option (Int) :=
  cond (x67_2)
    (some 9)
    (cond (decide (c.Path < 0))
      (g_ref03_Check.j3 c true)
      (cond (decide (8 < c.Path))
        (g_ref03_Check.j3 c true)
        (cond (!c.Authority)
          (cond (!decide (c.Path = 0))
            (g_ref03_Check.j3 c true)
            (g_ref03_Check.j3 c (decide (8 < (c.Names.length : Int)))))
          (g_ref03_Check.j3 c (decide (8 < (c.Names.length : Int)))))))
noncomputable def g_ref03_Check.j1 (c : api_Certificate) (x39_1 : Bool) : Option (Int) :=
  cond (x39_1)
    (some 9)
    ((g_ref02_Valid c.Hash).bind fun y_4 =>
    cond (!y_4)
      (g_ref03_Check.j2 c true)
      ((g_ref02_Kind c.Hash.Alg).bind fun y_5 =>
      cond (!decide (y_5 = 1))
        (g_ref03_Check.j2 c true)
        (cond (decide (c.From < 0))
          (g_ref03_Check.j2 c true)
          (cond (decide (c.To < c.From))
            (g_ref03_Check.j2 c true)
            (g_ref03_Check.j2 c (decide (40000 < c.To)))))))
noncomputable def g_ref03_Check (c : api_Certificate) : Option (Int) :=
  cond (decide (c.Serial < 0))
    (g_ref03_Check.j1 c true)
    (cond (decide (1099511627776 < c.Serial))
      (g_ref03_Check.j1 c true)
      ((g_ref03_Name c.Issuer).bind fun y =>
      cond (!y)
        (g_ref03_Check.j1 c true)
        ((g_ref03_Name c.Subject).bind fun y_2 =>
        cond (!y_2)
          (g_ref03_Check.j1 c true)
          ((g_ref03_Signature c.Key).bind fun y_3 =>
          cond (!y_3)
            (g_ref03_Check.j1 c true)
            (cond (decide (c.KeyId < 0))
              (g_ref03_Check.j1 c true)
              (g_ref03_Check.j1 c (decide (2147483648 < c.KeyId))))))))
noncomputable def g_ref01_Text (s : ByteArray) : Option (api_Value) :=
  some (api_Value.mk 12 (toB s) false ([] : (List api_Value)))
noncomputable def g_ref01_Int.j2 (x_1 : Int) (b_1 : List UInt8) (x35_2 : Bool) : Option (Lp (Int × List UInt8) (api_Value)) :=
  cond (x35_2)
    ((appI 1 ([(u8 x_1)] : List UInt8) b_1).bind fun l =>
    (shrK .i64 x_1 8).bind fun q_2 =>
    some (.next (q_2, l)))
    (up (
      some (api_Value.mk 2 b_1 false ([] : (List api_Value)))))
noncomputable def g_ref01_Int.l1 (x_1 : Int) (b_1 : List UInt8) : Option (Lp (Int × List UInt8) (api_Value)) :=
  cond (!decide (x_1 = 0))
    (cond (!decide (x_1 = (-1)))
      (g_ref01_Int.j2 x_1 b_1 true)
      (cond (decide (x_1 = 0))
        ((getI b_1 0).bind fun e =>
        cond (decide (128 ≤ (e.toNat : Int)))
          (g_ref01_Int.j2 x_1 b_1 true)
          (cond (decide (x_1 = (-1)))
            (g_ref01_Int.j2 x_1 b_1 (decide ((e.toNat : Int) < 128)))
            (g_ref01_Int.j2 x_1 b_1 false)))
        (cond (decide (x_1 = (-1)))
          ((getI b_1 0).bind fun e_2 =>
          g_ref01_Int.j2 x_1 b_1 (decide ((e_2.toNat : Int) < 128)))
          (g_ref01_Int.j2 x_1 b_1 false))))
    (cond (decide (x_1 = 0))
      ((getI b_1 0).bind fun e_3 =>
      cond (decide (128 ≤ (e_3.toNat : Int)))
        (g_ref01_Int.j2 x_1 b_1 true)
        (cond (decide (x_1 = (-1)))
          (g_ref01_Int.j2 x_1 b_1 (decide ((e_3.toNat : Int) < 128)))
          (g_ref01_Int.j2 x_1 b_1 false)))
      (cond (decide (x_1 = (-1)))
        ((getI b_1 0).bind fun e_4 =>
        g_ref01_Int.j2 x_1 b_1 (decide ((e_4.toNat : Int) < 128)))
        (g_ref01_Int.j2 x_1 b_1 false)))
noncomputable def g_ref01_Int (n : Int) : Option (api_Value) :=
  (shrK .i64 n 8).bind fun q =>
  loop (fun q' => g_ref01_Int.l1 q'.1 q'.2) (q, ([(u8 n)] : List UInt8))
noncomputable def g_ref01_copies.l1 (rec : (List api_Value) → Option ((List api_Value))) (l : (List api_Value)) (i_1 : Int) (out_1 : List api_Value) : Option (Lp (Int × List api_Value) ((List api_Value))) :=
  cond (decide (i_1 < (l.length : Int)))
    ((getI l i_1).bind fun e =>
    (appI 1 ([] : List UInt8) e.Bytes).bind fun l_2 =>
    (rec e.Elements).bind fun y =>
    (appI 256 out_1 ([(api_Value.mk e.Tag l_2 e.Nested y)] : List api_Value)).bind fun l_3 =>
    some (.next (W (i_1 + 1), l_3)))
    (up (
      some out_1))
noncomputable def g_ref01_copies.F (rec : (List api_Value) → Option ((List api_Value))) (l : (List api_Value)) : Option ((List api_Value)) :=
  loop (fun q' => g_ref01_copies.l1 rec l q'.1 q'.2) (0, ([] : List api_Value))
noncomputable def g_ref01_copies (l : (List api_Value)) : Option ((List api_Value)) := fixT (fun rec (x : (List api_Value)) => g_ref01_copies.F (fun l => rec l) x) l
noncomputable def g_ref01_List (l : (List api_Value)) : Option (api_Value) :=
  (g_ref01_copies l).bind fun y =>
  some (api_Value.mk 48 ([] : (List UInt8)) true y)
noncomputable def g_ref03_use (u : api_Use) : Option (api_Value) :=
  (g_ref01_Int u.Alg).bind fun y =>
  (g_ref01_Int u.Bits).bind fun y_2 =>
  (g_ref01_List ([y, y_2] : List api_Value)).bind fun y_3 =>
  some y_3
noncomputable def g_ref01_Bool (b : Bool) : Option (api_Value) :=
  cond (b)
    (some (api_Value.mk 1 ([(255 : UInt8)] : List UInt8) false ([] : (List api_Value))))
    (some (api_Value.mk 1 ([(0 : UInt8)] : List UInt8) false ([] : (List api_Value))))
noncomputable def g_ref03_body.l1 (c : api_Certificate) (i_1 : Int) (names_1 : List api_Value) : Option (Lp (Int × List api_Value) (api_Value)) :=
  cond (decide (i_1 < (c.Names.length : Int)))
    ((getI c.Names i_1).bind fun e =>
    (g_ref01_Text e).bind fun y =>
    (appI 256 names_1 ([y] : List api_Value)).bind fun l =>
    some (.next (W (i_1 + 1), l)))
    (up (
      (g_ref01_Int c.Serial).bind fun y_12 =>
      (g_ref01_Text c.Issuer).bind fun y_13 =>
      (g_ref01_Text c.Subject).bind fun y_14 =>
      (g_ref03_use c.Key).bind fun y_15 =>
      (g_ref01_Int c.KeyId).bind fun y_16 =>
      (g_ref03_use c.Hash).bind fun y_17 =>
      (g_ref01_Int c.From).bind fun y_18 =>
      (g_ref01_Int c.To).bind fun y_19 =>
      (g_ref01_Bool c.Authority).bind fun y_20 =>
      (g_ref01_Int c.Path).bind fun y_21 =>
      (g_ref01_List names_1).bind fun y_22 =>
      (g_ref01_List ([y_12, y_13, y_14, y_15, y_16, y_17, y_18, y_19, y_20, y_21, y_22] : List api_Value)).bind fun y_23 =>
      some y_23))
noncomputable def g_ref03_body (c : api_Certificate) : Option (api_Value) :=
  loop (fun q' => g_ref03_body.l1 c q'.1 q'.2) (0, ([] : List api_Value))
noncomputable def g_ref01_tag (n : Int) : Option (Bool) :=
  cond (decide (1 ≤ n))
    (cond (decide (n ≤ 255))
      ((remI n 32).bind fun q =>
      some (!decide (q = 31)))
      (some false))
    (some false)
noncomputable def g_ref01_formed.l2 (rec : api_Value → Option (Bool)) (v : api_Value) (i_2 : Int) : Option (Lp (Int) (Bool)) :=
  cond (decide (i_2 < (v.Elements.length : Int)))
    ((getI v.Elements i_2).bind fun e =>
    (rec e).bind fun y_2 =>
    cond (!y_2)
      (up (some false))
      (some (.next (W (i_2 + 1)))))
    (up (
      some true))
noncomputable def g_ref01_formed.j1 (rec : api_Value → Option (Bool)) (v : api_Value) (x38_1 : Bool) : Option (Bool) :=
  cond (x38_1)
    (some false)
    (loop (fun q' => g_ref01_formed.l2 rec v q') 0)
noncomputable def g_ref01_formed.F (rec : api_Value → Option (Bool)) (v : api_Value) : Option (Bool) :=
  (g_ref01_tag v.Tag).bind fun y =>
  cond (!y)
    (g_ref01_formed.j1 rec v true)
    ((quoI v.Tag 32).bind fun q =>
    (remI q 2).bind fun q_2 =>
    cond (!decide (v.Nested = (decide (q_2 = 1))))
      (g_ref01_formed.j1 rec v true)
      (cond (v.Nested)
        (cond (decide (0 < (v.Bytes.length : Int)))
          (g_ref01_formed.j1 rec v true)
          (g_ref01_formed.j1 rec v false))
        (g_ref01_formed.j1 rec v (decide (0 < (v.Elements.length : Int))))))
noncomputable def g_ref01_formed (v : api_Value) : Option (Bool) := fixT (fun rec (x : api_Value) => g_ref01_formed.F (fun v => rec v) x) v
noncomputable def g_ref01_depth.l1 (rec : api_Value → Option (Int)) (v : api_Value) (d_1 : Int) (i_1 : Int) : Option (Lp (Int × Int) (Int)) :=
  cond (decide (i_1 < (v.Elements.length : Int)))
    ((getI v.Elements i_1).bind fun e =>
    (rec e).bind fun y =>
    some (.next (max d_1 y, W (i_1 + 1))))
    (up (
      some (W (d_1 + 1))))
noncomputable def g_ref01_depth.F (rec : api_Value → Option (Int)) (v : api_Value) : Option (Int) :=
  loop (fun q' => g_ref01_depth.l1 rec v q'.1 q'.2) (0, 0)
noncomputable def g_ref01_depth (v : api_Value) : Option (Int) := fixT (fun rec (x : api_Value) => g_ref01_depth.F (fun v => rec v) x) v
noncomputable def g_ref01_length.l1 (n_1 : Int) (b_1 : List UInt8) : Option (Lp (Int × List UInt8) ((List UInt8))) :=
  cond (decide (0 < n_1))
    ((remI n_1 256).bind fun q =>
    (appI 1 ([(u8 q)] : List UInt8) b_1).bind fun l =>
    (quoI n_1 256).bind fun q_2 =>
    some (.next (q_2, l)))
    (up (
      (appI 1 ([(u8 (W (128 + (b_1.length : Int))))] : List UInt8) b_1).bind fun l_2 =>
      some l_2))
noncomputable def g_ref01_length (n : Int) : Option ((List UInt8)) :=
  cond (decide (n < 128))
    (some ([(u8 n)] : List UInt8))
    (loop (fun q' => g_ref01_length.l1 q'.1 q'.2) (n, ([] : List UInt8)))
noncomputable def g_ref01_put.l1 (rec : api_Value → Option ((List UInt8))) (v : api_Value) (i_1 : Int) (b_1 : List UInt8) : Option (Lp (Int × List UInt8) ((List UInt8))) :=
  cond (decide (i_1 < (v.Elements.length : Int)))
    ((getI v.Elements i_1).bind fun e =>
    (rec e).bind fun y =>
    (appI 1 b_1 y).bind fun l_2 =>
    some (.next (W (i_1 + 1), l_2)))
    (up (
      (g_ref01_length (b_1.length : Int)).bind fun y_2 =>
      (appI 1 ([(u8 v.Tag)] : List UInt8) y_2).bind fun l_3 =>
      (appI 1 l_3 b_1).bind fun l_4 =>
      some l_4))
noncomputable def g_ref01_put.F (rec : api_Value → Option ((List UInt8))) (v : api_Value) : Option ((List UInt8)) :=
  (appI 1 ([] : List UInt8) v.Bytes).bind fun l =>
  loop (fun q' => g_ref01_put.l1 rec v q'.1 q'.2) (0, l)
noncomputable def g_ref01_put (v : api_Value) : Option ((List UInt8)) := fixT (fun rec (x : api_Value) => g_ref01_put.F (fun v => rec v) x) v
noncomputable def g_ref01_Encode (v : api_Value) : Option ((List UInt8) × Int) :=
  (g_ref01_formed v).bind fun y =>
  cond (!y)
    (some (([] : (List UInt8)), 1))
    ((g_ref01_depth v).bind fun y_2 =>
    cond (decide (16 < y_2))
      (some (([] : (List UInt8)), 3))
      ((g_ref01_put v).bind fun y_3 =>
      cond (decide (4096 < (y_3.length : Int)))
        (some (([] : (List UInt8)), 3))
        (some (y_3, 0))))
noncomputable def g_ref03_Bytes (c : api_Certificate) : Option ((List UInt8) × Int) :=
  (g_ref03_Check c).bind fun y =>
  cond (!decide (y = 0))
    (some (([] : (List UInt8)), 9))
    ((g_ref03_body c).bind fun y_2 =>
    (g_ref01_Encode y_2).bind fun y_3 =>
    some (y_3.1, y_3.2))
noncomputable def g_ref03_Sum.l1 (b : (List UInt8)) (h_1 : Int) (i_1 : Int) : Option (Lp (Int × Int) (Int)) :=
  cond (decide (i_1 < (b.length : Int)))
    ((getI b i_1).bind fun e =>
    some (.next (IntKind.wrap .u32 ((xorK .u32 h_1 (IntKind.wrap .u32 (e.toNat : Int))) * 16777619), W (i_1 + 1))))
    (up (
      some (W h_1)))
noncomputable def g_ref03_Sum (b : (List UInt8)) : Option (Int) :=
  loop (fun q' => g_ref03_Sum.l1 b q'.1 q'.2) (2166136261, 0)
noncomputable def g_ref03_Sign.j1 (key : Int) (y : api_Certificate) (x22_1 : Bool) : Option (api_Certificate × Int) :=
  cond (x22_1)
    (some ((api_Certificate.mk 0 (⟨#[]⟩ : ByteArray) (⟨#[]⟩ : ByteArray) (api_Use.mk 0 0) 0 (api_Use.mk 0 0) 0 0 false 0 ([] : (List ByteArray)) (api_Seal.mk 0 0)), 9))
    ((g_ref03_Bytes (api_Certificate.mk y.Serial y.Issuer y.Subject y.Key y.KeyId y.Hash y.From y.To y.Authority y.Path y.Names (api_Seal.mk 0 0))).bind fun y_3 =>
    (g_ref03_Sum y_3.1).bind fun y_4 =>
    some ((api_Certificate.mk y.Serial y.Issuer y.Subject y.Key y.KeyId y.Hash y.From y.To y.Authority y.Path y.Names (api_Seal.mk key y_4)), 0))
noncomputable def g_ref03_Sign (c : api_Certificate) (key : Int) : Option (api_Certificate × Int) :=
  (g_ref03_Copy c).bind fun y =>
  (g_ref03_Check (api_Certificate.mk y.Serial y.Issuer y.Subject y.Key y.KeyId y.Hash y.From y.To y.Authority y.Path y.Names (api_Seal.mk 0 0))).bind fun y_2 =>
  cond (!decide (y_2 = 0))
    (g_ref03_Sign.j1 key y true)
    (cond (decide (key < 0))
      (g_ref03_Sign.j1 key y true)
      (g_ref03_Sign.j1 key y (decide (2147483648 < key))))
noncomputable def g_make_Certificate.j2 (issuer : ByteArray) (subject : ByteArray) (key : api_Use) (id : Int) (signer : Int) (authority : Bool) (y : Int × cipherplanmake_Dice) (y_2 : Int × cipherplanmake_Dice) (y_3 : Int × cipherplanmake_Dice) (y_4 : Int × cipherplanmake_Dice) (c_1 : Int) (b_2 : cipherplanmake_Dice) (l_2 : List ByteArray) : Option (api_Certificate × cipherplanmake_Dice) :=
  (g_ref03_Sign (api_Certificate.mk y.1 issuer subject key id (api_Use.mk y_2.1 0) y_3.1 y_4.1 authority c_1 l_2 (api_Seal.mk 0 0)) signer).bind fun y_7 =>
  some (y_7.1, b_2)
noncomputable def g_make_Certificate.j1 (issuer : ByteArray) (subject : ByteArray) (key : api_Use) (id : Int) (signer : Int) (authority : Bool) (y : Int × cipherplanmake_Dice) (y_2 : Int × cipherplanmake_Dice) (y_3 : Int × cipherplanmake_Dice) (y_4 : Int × cipherplanmake_Dice) (d_1 : cipherplanmake_Dice) (c_1 : Int) : Option (api_Certificate × cipherplanmake_Dice) :=
  (g_make_Dice_One d_1 3).bind fun y_6 =>
  cond (y_6.1)
    ((catI subject (⟨#[120]⟩ : ByteArray)).bind fun s =>
    (appI 16 ([subject] : List ByteArray) ([s] : List ByteArray)).bind fun l =>
    g_make_Certificate.j2 issuer subject key id signer authority y y_2 y_3 y_4 c_1 y_6.2 l)
    (g_make_Certificate.j2 issuer subject key id signer authority y y_2 y_3 y_4 c_1 y_6.2 ([subject] : List ByteArray))
noncomputable def g_make_Certificate (d : cipherplanmake_Dice) (issuer : ByteArray) (subject : ByteArray) (key : api_Use) (id : Int) (signer : Int) (authority : Bool) : Option (api_Certificate × cipherplanmake_Dice) :=
  (g_make_Dice_Next d 1000).bind fun y =>
  (g_make_Dice_Of y.2 ([3, 2, 4, 1] : List Int)).bind fun y_2 =>
  (g_make_Dice_Of y_2.2 ([0, 5, 10] : List Int)).bind fun y_3 =>
  (g_make_Dice_Of y_3.2 ([1000, 100, 50, 20] : List Int)).bind fun y_4 =>
  cond (authority)
    ((g_make_Dice_Of y_4.2 ([3, 0, 1] : List Int)).bind fun y_5 =>
    g_make_Certificate.j1 issuer subject key id signer authority y y_2 y_3 y_4 y_5.2 y_5.1)
    (g_make_Certificate.j1 issuer subject key id signer authority y y_2 y_3 y_4 y_4.2 0)
noncomputable def g_make_Chain.l1 (name : ByteArray) (key : api_Use) (id : Int) (y : Int × cipherplanmake_Dice) (signer_1 : Int) (issuer_1 : ByteArray) (i_1 : Int) (d_1 : cipherplanmake_Dice) (above_1 : List api_Certificate) : Option (Lp (Int × ByteArray × Int × cipherplanmake_Dice × List api_Certificate) ((List api_Certificate) × cipherplanmake_Dice)) :=
  cond (decide (i_1 < y.1))
    ((getI ([(⟨#[99, 97]⟩ : ByteArray), (⟨#[99, 98]⟩ : ByteArray), (⟨#[99, 99]⟩ : ByteArray)] : List ByteArray) i_1).bind fun e =>
    (g_make_Certificate d_1 issuer_1 e (api_Use.mk 5 2048) (W (11 + i_1)) signer_1 true).bind fun y_3 =>
    (appI 2280 ([y_3.1] : List api_Certificate) above_1).bind fun l =>
    some (.next (W (11 + i_1), e, W (i_1 + 1), y_3.2, l)))
    (up (
      (g_make_Certificate d_1 issuer_1 name key id signer_1 false).bind fun y_4 =>
      (appI 2280 ([y_4.1] : List api_Certificate) above_1).bind fun l_2 =>
      some (l_2, y_4.2)))
noncomputable def g_make_Chain (d : cipherplanmake_Dice) (name : ByteArray) (key : api_Use) (id : Int) : Option ((List api_Certificate) × cipherplanmake_Dice) :=
  (g_make_Dice_Of d ([1, 0, 2] : List Int)).bind fun y =>
  (g_make_Dice_Next y.2 2).bind fun y_2 =>
  loop (fun q' => g_make_Chain.l1 name key id y q'.1 q'.2.1 q'.2.2.1 q'.2.2.2.1 q'.2.2.2.2) (W (1 + y_2.1), (⟨#[114, 111, 111, 116]⟩ : ByteArray), 0, y_2.2, ([] : List api_Certificate))
noncomputable def g_make_Entry.j1 (alias : ByteArray) (id : Int) (y : api_Use × cipherplanmake_Dice) (y_2 : Bool × cipherplanmake_Dice) (b_1 : cipherplanmake_Dice) (l_1 : List api_Certificate) : Option (api_Entry × cipherplanmake_Dice) :=
  some ((api_Entry.mk alias y.1 id y_2.1 l_1), b_1)
noncomputable def g_make_Entry (d : cipherplanmake_Dice) (alias : ByteArray) (name : ByteArray) (id : Int) : Option (api_Entry × cipherplanmake_Dice) :=
  (g_make_Key d).bind fun y =>
  (g_make_Dice_One y.2 2).bind fun y_2 =>
  (g_make_Dice_One y_2.2 5).bind fun y_3 =>
  cond (!y_3.1)
    ((g_make_Chain y_3.2 name y.1 id).bind fun y_4 =>
    g_make_Entry.j1 alias id y y_2 y_4.2 y_4.1)
    (g_make_Entry.j1 alias id y y_2 y_3.2 ([] : List api_Certificate))
noncomputable def g_make_Store.l1 (name : ByteArray) (i_1 : Int) (d_1 : cipherplanmake_Dice) (l_1 : List api_Entry) : Option (Lp (Int × cipherplanmake_Dice × List api_Entry) ((List api_Entry) × cipherplanmake_Dice)) :=
  cond (decide (0 < i_1))
    ((getI ([(⟨#[107, 49]⟩ : ByteArray), (⟨#[107, 50]⟩ : ByteArray), (⟨#[107, 51]⟩ : ByteArray), (⟨#[107, 52]⟩ : ByteArray)] : List ByteArray) (l_1.length : Int)).bind fun e =>
    (g_make_Dice_Next d_1 3).bind fun y_2 =>
    (g_make_Entry y_2.2 e name (W ((W (100 + (l_1.length : Int))) + (W (y_2.1 * 10))))).bind fun y_3 =>
    (appI 432 l_1 ([y_3.1] : List api_Entry)).bind fun l =>
    some (.next (W (i_1 - 1), y_3.2, l)))
    (up (
      some (l_1, d_1)))
noncomputable def g_make_Store (d : cipherplanmake_Dice) (name : ByteArray) : Option ((List api_Entry) × cipherplanmake_Dice) :=
  (g_make_Dice_Next d 4).bind fun y =>
  loop (fun q' => g_make_Store.l1 name q'.1 q'.2.1 q'.2.2) (W (1 + y.1), y.2, ([] : List api_Entry))
noncomputable def g_der_Text (s : ByteArray) : Option (api_Value) :=
  some (api_Value.mk 12 (toB s) false ([] : (List api_Value)))
noncomputable def g_der_Int.j3 (b_2 : List UInt8) (x43_3 : Bool) : Option (Lp (List UInt8) (api_Value)) :=
  cond (x43_3)
    ((slI b_2 1 (b_2.length : Int)).bind fun l_2 =>
    some (.next l_2))
    (up (
      some (api_Value.mk 2 b_2 false ([] : (List api_Value)))))
noncomputable def g_der_Int.l2 (b_2 : List UInt8) : Option (Lp (List UInt8) (api_Value)) :=
  cond (decide (1 < (b_2.length : Int)))
    ((getI b_2 0).bind fun e =>
    cond (decide ((e.toNat : Int) = 0))
      ((getI b_2 1).bind fun e_2 =>
      cond (decide ((e_2.toNat : Int) < 128))
        (g_der_Int.j3 b_2 true)
        (cond (decide ((e.toNat : Int) = 255))
          (g_der_Int.j3 b_2 (decide (128 ≤ (e_2.toNat : Int))))
          (g_der_Int.j3 b_2 false)))
      (cond (decide ((e.toNat : Int) = 255))
        ((getI b_2 1).bind fun e_3 =>
        g_der_Int.j3 b_2 (decide (128 ≤ (e_3.toNat : Int))))
        (g_der_Int.j3 b_2 false)))
    (g_der_Int.j3 b_2 false)
noncomputable def g_der_Int.l1 (n : Int) (i_1 : Int) (b_1 : List UInt8) : Option (Lp (Int × List UInt8) (api_Value)) :=
  cond (decide (0 ≤ i_1))
    ((shrK .u64 (IntKind.wrap .u64 n) i_1).bind fun q =>
    (appI 1 b_1 ([(u8 q)] : List UInt8)).bind fun l =>
    some (.next (W (i_1 - 8), l)))
    (up (
      loop (fun q' => g_der_Int.l2 q') b_1))
noncomputable def g_der_Int (n : Int) : Option (api_Value) :=
  loop (fun q' => g_der_Int.l1 n q'.1 q'.2) (56, ([] : List UInt8))
noncomputable def g_bytes_Clone.j1 (b : (List UInt8)) (x4_1 : Bool) : Option ((List UInt8)) :=
  cond (x4_1)
    (some ([] : (List UInt8)))
    ((appI 1 ([] : List UInt8) b).bind fun l =>
    some l)
noncomputable def g_bytes_Clone (b : (List UInt8)) : Option ((List UInt8)) :=
  nilC (b)
    (g_bytes_Clone.j1 b true)
    (g_bytes_Clone.j1 b false)
noncomputable def g_der_copied.l1 (rec : (List api_Value) → Option ((List api_Value))) (l : (List api_Value)) (x8_1 : Int) (out_1 : List api_Value) : Option (Lp (Int × List api_Value) ((List api_Value))) :=
  cond (decide (x8_1 < (l.length : Int)))
    ((getI l x8_1).bind fun e =>
    (g_bytes_Clone e.Bytes).bind fun y =>
    (rec e.Elements).bind fun y_2 =>
    (appI 256 out_1 ([(api_Value.mk e.Tag y e.Nested y_2)] : List api_Value)).bind fun l_2 =>
    some (.next (W (x8_1 + 1), l_2)))
    (up (
      some out_1))
noncomputable def g_der_copied.F (rec : (List api_Value) → Option ((List api_Value))) (l : (List api_Value)) : Option ((List api_Value)) :=
  loop (fun q' => g_der_copied.l1 rec l q'.1 q'.2) (0, ([] : List api_Value))
noncomputable def g_der_copied (l : (List api_Value)) : Option ((List api_Value)) := fixT (fun rec (x : (List api_Value)) => g_der_copied.F (fun l => rec l) x) l
noncomputable def g_der_Of (l : (List api_Value)) : Option (api_Value) :=
  (g_der_copied l).bind fun y =>
  some (api_Value.mk 48 ([] : (List UInt8)) true y)
noncomputable def g_certificate_Use (u : api_Use) : Option (api_Value) :=
  (g_der_Int u.Alg).bind fun y =>
  (g_der_Int u.Bits).bind fun y_2 =>
  (g_der_Of ([y, y_2] : List api_Value)).bind fun y_3 =>
  some y_3
noncomputable def g_der_Bool (b : Bool) : Option (api_Value) :=
  cond (b)
    (some (api_Value.mk 1 ([(255 : UInt8)] : List UInt8) false ([] : (List api_Value))))
    (some (api_Value.mk 1 ([(0 : UInt8)] : List UInt8) false ([] : (List api_Value))))
noncomputable def g_der_List (l : (List api_Value)) : Option (api_Value) :=
  (g_der_Of l).bind fun y =>
  some y
noncomputable def g_certificate_body.l1 (c : api_Certificate) (x9_1 : Int) (names_1 : List api_Value) : Option (Lp (Int × List api_Value) (api_Value)) :=
  cond (decide (x9_1 < (c.Names.length : Int)))
    ((getI c.Names x9_1).bind fun e =>
    (g_der_Text e).bind fun y =>
    (appI 256 names_1 ([y] : List api_Value)).bind fun l =>
    some (.next (W (x9_1 + 1), l)))
    (up (
      (g_der_Int c.Serial).bind fun y_12 =>
      (g_der_Text c.Issuer).bind fun y_13 =>
      (g_der_Text c.Subject).bind fun y_14 =>
      (g_certificate_Use c.Key).bind fun y_15 =>
      (g_der_Int c.KeyId).bind fun y_16 =>
      (g_certificate_Use c.Hash).bind fun y_17 =>
      (g_der_Int c.From).bind fun y_18 =>
      (g_der_Int c.To).bind fun y_19 =>
      (g_der_Bool c.Authority).bind fun y_20 =>
      (g_der_Int c.Path).bind fun y_21 =>
      (g_der_List names_1).bind fun y_22 =>
      (g_der_Of ([y_12, y_13, y_14, y_15, y_16, y_17, y_18, y_19, y_20, y_21, y_22] : List api_Value)).bind fun y_23 =>
      some y_23))
noncomputable def g_certificate_body (c : api_Certificate) : Option (api_Value) :=
  loop (fun q' => g_certificate_body.l1 c q'.1 q'.2) (0, ([] : List api_Value))
noncomputable def g_certificate_Element (c : api_Certificate) : Option (api_Value) :=
  (g_certificate_body c).bind fun y =>
  (g_der_Int c.Seal.Key).bind fun y_2 =>
  (g_der_Int c.Seal.Sum).bind fun y_3 =>
  (g_der_Of ([y_2, y_3] : List api_Value)).bind fun y_4 =>
  (g_der_Of ([y, y_4] : List api_Value)).bind fun y_5 =>
  some y_5
noncomputable def g_keystore_element.l1 (x' : api_Entry) (x9_1 : Int) (chain_1 : List api_Value) : Option (Lp (Int × List api_Value) (api_Value)) :=
  cond (decide (x9_1 < (x'.Chain.length : Int)))
    ((getI x'.Chain x9_1).bind fun e =>
    (g_certificate_Element e).bind fun y =>
    (appI 256 chain_1 ([y] : List api_Value)).bind fun l =>
    some (.next (W (x9_1 + 1), l)))
    (up (
      (g_der_Text x'.Alias).bind fun y_6 =>
      (g_certificate_Use x'.Key).bind fun y_7 =>
      (g_der_Int x'.KeyId).bind fun y_8 =>
      (g_der_Bool x'.Secret).bind fun y_9 =>
      (g_der_List chain_1).bind fun y_10 =>
      (g_der_Of ([y_6, y_7, y_8, y_9, y_10] : List api_Value)).bind fun y_11 =>
      some y_11))
noncomputable def g_keystore_element (x' : api_Entry) : Option (api_Value) :=
  loop (fun q' => g_keystore_element.l1 x' q'.1 q'.2) (0, ([] : List api_Value))
noncomputable def g_der_tag (n : Int) : Option (Bool) :=
  cond (decide (1 ≤ n))
    (cond (decide (n ≤ 255))
      (some (!decide ((andK .i64 n 31) = 31)))
      (some false))
    (some false)
noncomputable def g_der_formed_c1 (rec : api_Value → Option (Bool)) (x' : api_Value) : Option (Bool) :=
  (rec x').bind fun y =>
  some (!y)
noncomputable def g_slices_IndexFunc_api_Value.l1 (s : (List api_Value)) (f : api_Value → Option (Bool)) (x8_1 : Int) : Option (Lp (Int) (Int)) :=
  cond (decide (x8_1 < (s.length : Int)))
    ((getI s x8_1).bind fun e =>
    (f e).bind fun y =>
    cond (y)
      (up (some x8_1))
      (some (.next (W (x8_1 + 1)))))
    (up (
      some (-1)))
noncomputable def g_slices_IndexFunc_api_Value (rec : api_Value → Option (Bool)) (s : (List api_Value)) (f : api_Value → Option (Bool)) : Option (Int) :=
  loop (fun q' => g_slices_IndexFunc_api_Value.l1 s f q') 0
noncomputable def g_slices_ContainsFunc_api_Value (rec : api_Value → Option (Bool)) (s : (List api_Value)) (f : api_Value → Option (Bool)) : Option (Bool) :=
  (g_slices_IndexFunc_api_Value rec s f).bind fun y =>
  some (decide (0 ≤ y))
noncomputable def g_der_formed.j1 (rec : api_Value → Option (Bool)) (v : api_Value) (x36_1 : Bool) : Option (Bool) :=
  cond (x36_1)
    (some false)
    ((g_slices_ContainsFunc_api_Value rec v.Elements (fun x0 => g_der_formed_c1 rec x0)).bind fun y_2 =>
    some (!y_2))
noncomputable def g_der_formed.F (rec : api_Value → Option (Bool)) (v : api_Value) : Option (Bool) :=
  (g_der_tag v.Tag).bind fun y =>
  cond (!y)
    (g_der_formed.j1 rec v true)
    (cond (!decide (v.Nested = (!decide ((andK .i64 v.Tag 32) = 0))))
      (g_der_formed.j1 rec v true)
      (cond (v.Nested)
        (cond (decide (0 < (v.Bytes.length : Int)))
          (g_der_formed.j1 rec v true)
          (g_der_formed.j1 rec v false))
        (g_der_formed.j1 rec v (decide (0 < (v.Elements.length : Int))))))
noncomputable def g_der_formed (v : api_Value) : Option (Bool) := fixT (fun rec (x : api_Value) => g_der_formed.F (fun v => rec v) x) v
noncomputable def g_der_depth.l1 (rec : api_Value → Option (Int)) (v : api_Value) (most_1 : Int) (x9_1 : Int) : Option (Lp (Int × Int) (Int)) :=
  cond (decide (x9_1 < (v.Elements.length : Int)))
    ((getI v.Elements x9_1).bind fun e =>
    (rec e).bind fun y =>
    some (.next (max most_1 y, W (x9_1 + 1))))
    (up (
      some (W (most_1 + 1))))
noncomputable def g_der_depth.F (rec : api_Value → Option (Int)) (v : api_Value) : Option (Int) :=
  loop (fun q' => g_der_depth.l1 rec v q'.1 q'.2) (0, 0)
noncomputable def g_der_depth (v : api_Value) : Option (Int) := fixT (fun rec (x : api_Value) => g_der_depth.F (fun v => rec v) x) v
noncomputable def g_der_length.l2 (n : Int) (i_2 : Int) (b_2 : List UInt8) : Option (Lp (Int × List UInt8) ((List UInt8))) :=
  cond (decide (0 ≤ i_2))
    ((shrK .i64 n (W (8 * i_2))).bind fun q_2 =>
    (appI 1 b_2 ([(u8 q_2)] : List UInt8)).bind fun l_3 =>
    some (.next (W (i_2 - 1), l_3)))
    (up (
      some b_2))
noncomputable def g_der_length.l1 (b : List UInt8) (n : Int) (count_1 : Int) (m_1 : Int) : Option (Lp (Int × Int) ((List UInt8))) :=
  cond (decide (0 < m_1))
    ((shrK .i64 m_1 8).bind fun q =>
    some (.next (W (count_1 + 1), q)))
    (up (
      (appI 1 b ([(u8 (W (128 + count_1)))] : List UInt8)).bind fun l_2 =>
      loop (fun q' => g_der_length.l2 n q'.1 q'.2) (W (count_1 - 1), l_2)))
noncomputable def g_der_length (b : List UInt8) (n : Int) : Option ((List UInt8)) :=
  cond (decide (n < 128))
    ((appI 1 b ([(u8 n)] : List UInt8)).bind fun l =>
    some l)
    (loop (fun q' => g_der_length.l1 b n q'.1 q'.2) (0, n))
noncomputable def g_der_element (rec : api_Value → Option ((List UInt8))) (b : List UInt8) (v : api_Value) : Option ((List UInt8)) :=
  (rec v).bind fun y =>
  (appI 1 b ([(u8 v.Tag)] : List UInt8)).bind fun l =>
  (g_der_length l (y.length : Int)).bind fun y_2 =>
  (appI 1 y_2 y).bind fun l_2 =>
  some l_2
noncomputable def g_der_contents.l1 (rec : api_Value → Option ((List UInt8))) (v : api_Value) (x14_1 : Int) (out_1 : List UInt8) : Option (Lp (Int × List UInt8) ((List UInt8))) :=
  cond (decide (x14_1 < (v.Elements.length : Int)))
    ((getI v.Elements x14_1).bind fun e =>
    (g_der_element rec out_1 e).bind fun y =>
    some (.next (W (x14_1 + 1), y)))
    (up (
      some out_1))
noncomputable def g_der_contents.F (rec : api_Value → Option ((List UInt8))) (v : api_Value) : Option ((List UInt8)) :=
  cond (!v.Nested)
    (some v.Bytes)
    (loop (fun q' => g_der_contents.l1 rec v q'.1 q'.2) (0, ([] : List UInt8)))
noncomputable def g_der_contents (v : api_Value) : Option ((List UInt8)) := fixT (fun rec (x : api_Value) => g_der_contents.F (fun v => rec v) x) v
noncomputable def g_der_element_nil (v : api_Value) : Option ((List UInt8)) :=
  (g_der_contents v).bind fun y =>
  (appI 1 ([] : List UInt8) ([(u8 v.Tag)] : List UInt8)).bind fun l =>
  (g_der_length l (y.length : Int)).bind fun y_2 =>
  (appI 1 y_2 y).bind fun l_2 =>
  some l_2
noncomputable def g_der_Encode (v : api_Value) : Option ((List UInt8) × Int) :=
  (g_der_formed v).bind fun y =>
  cond (!y)
    (some (([] : (List UInt8)), 1))
    ((g_der_depth v).bind fun y_2 =>
    cond (decide (16 < y_2))
      (some (([] : (List UInt8)), 3))
      ((g_der_element_nil v).bind fun y_3 =>
      cond (decide (4096 < (y_3.length : Int)))
        (some (([] : (List UInt8)), 3))
        (some (y_3, 0))))
noncomputable def g_keystore_Encode.l1 (l : (List api_Entry)) (x12_1 : Int) (entries_1 : List api_Value) : Option (Lp (Int × List api_Value) ((List UInt8) × Int)) :=
  cond (decide (x12_1 < (l.length : Int)))
    ((getI l x12_1).bind fun e =>
    (g_keystore_element e).bind fun y_2 =>
    (appI 256 entries_1 ([y_2] : List api_Value)).bind fun l_2 =>
    some (.next (W (x12_1 + 1), l_2)))
    (up (
      (g_der_List entries_1).bind fun y_3 =>
      (g_der_Encode y_3).bind fun y_4 =>
      some (y_4.1, y_4.2)))
noncomputable def g_keystore_Encode (l : (List api_Entry)) : Option ((List UInt8) × Int) :=
  (g_keystore_Check l).bind fun y =>
  cond (!decide (y = 0))
    (some (([] : (List UInt8)), 16))
    (loop (fun q' => g_keystore_Encode.l1 l q'.1 q'.2) (0, ([] : List api_Value)))
noncomputable def g_der_size.l2 (e : UInt8) (l : List UInt8) (n_2 : Int) (x46_2 : Int) : Option (Lp (Int × Int) (Int × Int × Bool)) :=
  cond (decide (x46_2 < (l.length : Int)))
    ((getI l x46_2).bind fun e_3 =>
    (shlK .i64 n_2 8).bind fun q =>
    some (.next (orK .i64 q (e_3.toNat : Int), W (x46_2 + 1))))
    (up (
      some (n_2, W (1 + (W ((e.toNat : Int) - 128))), decide (128 ≤ n_2))))
noncomputable def g_der_size.j1 (b : (List UInt8)) (e : UInt8) (x40_1 : Bool) : Option (Int × Int × Bool) :=
  cond (x40_1)
    (some (0, 0, false))
    ((slI b 1 (W (1 + (W ((e.toNat : Int) - 128))))).bind fun l =>
    loop (fun q' => g_der_size.l2 e l q'.1 q'.2) (0, 0))
noncomputable def g_der_size (b : (List UInt8)) : Option (Int × Int × Bool) :=
  cond (decide ((b.length : Int) = 0))
    (some (0, 0, false))
    ((getI b 0).bind fun e =>
    cond (decide ((W ((e.toNat : Int) - 128)) < 0))
      (some ((e.toNat : Int), 1, true))
      (cond (decide ((W ((e.toNat : Int) - 128)) < 1))
        (g_der_size.j1 b e true)
        (cond (decide (2 < (W ((e.toNat : Int) - 128))))
          (g_der_size.j1 b e true)
          (cond (decide ((b.length : Int) ≤ (W ((e.toNat : Int) - 128))))
            (g_der_size.j1 b e true)
            ((getI b 1).bind fun e_2 =>
            g_der_size.j1 b e (decide ((e_2.toNat : Int) = 0)))))))
noncomputable def g_der_all.l1 (rec : (List UInt8) → Option (api_Value × Int × Bool)) (b : (List UInt8)) (at_1 : Int) (out_1 : List api_Value) : Option (Lp (Int × List api_Value) ((List api_Value) × Bool)) :=
  cond (decide (at_1 < (b.length : Int)))
    ((slI b at_1 (b.length : Int)).bind fun l =>
    (rec l).bind fun y =>
    cond (!y.2.2)
      (up (some (([] : (List api_Value)), false)))
      ((appI 256 out_1 ([y.1] : List api_Value)).bind fun l_2 =>
      some (.next (W (at_1 + y.2.1), l_2))))
    (up (
      some (out_1, true)))
noncomputable def g_der_all (rec : (List UInt8) → Option (api_Value × Int × Bool)) (b : (List UInt8)) : Option ((List api_Value) × Bool) :=
  loop (fun q' => g_der_all.l1 rec b q'.1 q'.2) (0, ([] : List api_Value))
noncomputable def g_der_next.j2 (rec : (List UInt8) → Option (api_Value × Int × Bool)) (b : (List UInt8)) (y_2 : Int × Int × Bool) (x40_2 : Bool) : Option (api_Value × Int × Bool) :=
  cond (x40_2)
    (some ((api_Value.mk 0 ([] : (List UInt8)) false ([] : (List api_Value))), 0, false))
    ((getI b 0).bind fun e_2 =>
    cond (!decide ((andK .i64 (e_2.toNat : Int) 32) = 0))
      ((slI b (W (1 + y_2.2.1)) (W ((W (1 + y_2.2.1)) + y_2.1))).bind fun l_2 =>
      (g_der_all rec l_2).bind fun y_3 =>
      some ((api_Value.mk (e_2.toNat : Int) ([] : (List UInt8)) (!decide ((andK .i64 (e_2.toNat : Int) 32) = 0)) y_3.1), W ((W (1 + y_2.2.1)) + y_2.1), y_3.2))
      ((slI b (W (1 + y_2.2.1)) (W ((W (1 + y_2.2.1)) + y_2.1))).bind fun l_3 =>
      (g_bytes_Clone l_3).bind fun y_4 =>
      some ((api_Value.mk (e_2.toNat : Int) y_4 (!decide ((andK .i64 (e_2.toNat : Int) 32) = 0)) ([] : (List api_Value))), W ((W (1 + y_2.2.1)) + y_2.1), true)))
noncomputable def g_der_next.j1 (rec : (List UInt8) → Option (api_Value × Int × Bool)) (b : (List UInt8)) (x20_1 : Bool) : Option (api_Value × Int × Bool) :=
  cond (x20_1)
    (some ((api_Value.mk 0 ([] : (List UInt8)) false ([] : (List api_Value))), 0, false))
    ((slI b 1 (b.length : Int)).bind fun l =>
    (g_der_size l).bind fun y_2 =>
    cond (!y_2.2.2)
      (g_der_next.j2 rec b y_2 true)
      (g_der_next.j2 rec b y_2 (decide ((W ((b.length : Int) - (W (1 + y_2.2.1)))) < y_2.1))))
noncomputable def g_der_next.F (rec : (List UInt8) → Option (api_Value × Int × Bool)) (b : (List UInt8)) : Option (api_Value × Int × Bool) :=
  cond (decide ((b.length : Int) = 0))
    (g_der_next.j1 rec b true)
    ((getI b 0).bind fun e =>
    (g_der_tag (e.toNat : Int)).bind fun y =>
    g_der_next.j1 rec b (!y))
noncomputable def g_der_next (b : (List UInt8)) : Option (api_Value × Int × Bool) := fixT (fun rec (x : (List UInt8)) => g_der_next.F (fun b => rec b) x) b
noncomputable def g_der_Decode.j1 (y : api_Value × Int × Bool) (x24_1 : Bool) : Option (api_Value × Int) :=
  cond (x24_1)
    (some ((api_Value.mk 0 ([] : (List UInt8)) false ([] : (List api_Value))), 1))
    ((g_der_depth y.1).bind fun y_2 =>
    cond (decide (16 < y_2))
      (some ((api_Value.mk 0 ([] : (List UInt8)) false ([] : (List api_Value))), 3))
      (some (y.1, 0)))
noncomputable def g_der_Decode (b : (List UInt8)) : Option (api_Value × Int) :=
  cond (decide (4096 < (b.length : Int)))
    (some ((api_Value.mk 0 ([] : (List UInt8)) false ([] : (List api_Value))), 3))
    ((g_der_next b).bind fun y =>
    cond (!y.2.2)
      (g_der_Decode.j1 y true)
      (g_der_Decode.j1 y (!decide (y.2.1 = (b.length : Int)))))
noncomputable def g_der_AsList.j1 (v : api_Value) (x11_1 : Bool) : Option ((List api_Value) × Int) :=
  cond (x11_1)
    (some (([] : (List api_Value)), 1))
    ((g_der_copied v.Elements).bind fun y_2 =>
    some (y_2, 0))
noncomputable def g_der_AsList (v : api_Value) : Option ((List api_Value) × Int) :=
  cond (!decide (v.Tag = 48))
    (g_der_AsList.j1 v true)
    ((g_der_formed v).bind fun y =>
    g_der_AsList.j1 v (!y))
noncomputable def g_certificate_Read (v : api_Value) (count : Int) : Option (certificate_Reader) :=
  (g_der_AsList v).bind fun y =>
  cond (!decide (y.2 = 0))
    (some (certificate_Reader.mk y.1 true))
    (some (certificate_Reader.mk y.1 (!decide ((y.1.length : Int) = count))))
noncomputable def g_certificate_Reader_Next.j1 (r' : certificate_Reader) (x15_1 : Bool) : Option (api_Value × certificate_Reader) :=
  cond (x15_1)
    (some ((api_Value.mk 0 ([] : (List UInt8)) false ([] : (List api_Value))), (certificate_Reader.mk r'.l true)))
    ((getI r'.l 0).bind fun e =>
    (slI r'.l 1 (r'.l.length : Int)).bind fun l =>
    some (e, (certificate_Reader.mk l r'.Failed)))
noncomputable def g_certificate_Reader_Next (r' : certificate_Reader) : Option (api_Value × certificate_Reader) :=
  cond (r'.Failed)
    (g_certificate_Reader_Next.j1 r' true)
    (g_certificate_Reader_Next.j1 r' (decide ((r'.l.length : Int) = 0)))
noncomputable def g_der_plain (v : api_Value) (tag : Int) : Option (Bool) :=
  cond (decide (v.Tag = tag))
    (cond (!v.Nested)
      (some (decide ((v.Elements.length : Int) = 0)))
      (some false))
    (some false)
noncomputable def g_der_AsText_c1 (x' : UInt8) : Option (Bool) :=
  cond (decide ((x'.toNat : Int) < 32))
    (some true)
    (some (decide (126 < (x'.toNat : Int))))
noncomputable def g_slices_IndexFunc_byte.l1 (s : (List UInt8)) (f : UInt8 → Option (Bool)) (x8_1 : Int) : Option (Lp (Int) (Int)) :=
  cond (decide (x8_1 < (s.length : Int)))
    ((getI s x8_1).bind fun e =>
    (f e).bind fun y =>
    cond (y)
      (up (some x8_1))
      (some (.next (W (x8_1 + 1)))))
    (up (
      some (-1)))
noncomputable def g_slices_IndexFunc_byte (s : (List UInt8)) (f : UInt8 → Option (Bool)) : Option (Int) :=
  loop (fun q' => g_slices_IndexFunc_byte.l1 s f q') 0
noncomputable def g_slices_ContainsFunc_byte (s : (List UInt8)) (f : UInt8 → Option (Bool)) : Option (Bool) :=
  (g_slices_IndexFunc_byte s f).bind fun y =>
  some (decide (0 ≤ y))
noncomputable def g_der_AsText.j1 (v : api_Value) (x11_1 : Bool) : Option (ByteArray × Int) :=
  cond (x11_1)
    (some ((⟨#[]⟩ : ByteArray), 1))
    (some (ofB v.Bytes, 0))
noncomputable def g_der_AsText (v : api_Value) : Option (ByteArray × Int) :=
  (g_der_plain v 12).bind fun y =>
  cond (!y)
    (g_der_AsText.j1 v true)
    ((g_slices_ContainsFunc_byte v.Bytes (fun x0 => g_der_AsText_c1 x0)).bind fun y_2 =>
    g_der_AsText.j1 v y_2)
noncomputable def g_certificate_Reader_Text (r' : certificate_Reader) : Option (ByteArray × certificate_Reader) :=
  (g_certificate_Reader_Next r').bind fun y =>
  (g_der_AsText y.1).bind fun y_2 =>
  cond (y.2.Failed)
    (some (y_2.1, (certificate_Reader.mk y.2.l true)))
    (some (y_2.1, (certificate_Reader.mk y.2.l (!decide (y_2.2 = 0)))))
noncomputable def g_bytes_Equal (a : (List UInt8)) (b : (List UInt8)) : Option (Bool) :=
  some (decide ((ofB a) = (ofB b)))
noncomputable def g_der_AsInt.l3 (v : api_Value) (n_3 : Int) (x32_3 : Int) : Option (Lp (Int × Int) (Int × Int)) :=
  cond (decide (x32_3 < (v.Bytes.length : Int)))
    ((getI v.Bytes x32_3).bind fun e_2 =>
    (shlK .u64 n_3 8).bind fun q =>
    some (.next (orK .u64 q (IntKind.wrap .u64 (e_2.toNat : Int)), W (x32_3 + 1))))
    (up (
      (g_der_Int (W n_3)).bind fun y_2 =>
      (g_bytes_Equal y_2.Bytes v.Bytes).bind fun y_3 =>
      cond (!y_3)
        (some (0, 1))
        (some (W n_3, 0))))
noncomputable def g_der_AsInt.j2 (v : api_Value) (n_2 : Int) : Option (Int × Int) :=
  loop (fun q' => g_der_AsInt.l3 v q'.1 q'.2) (n_2, 0)
noncomputable def g_der_AsInt.j1 (v : api_Value) (x21_1 : Bool) : Option (Int × Int) :=
  cond (x21_1)
    (some (0, 1))
    ((getI v.Bytes 0).bind fun e =>
    cond (decide (128 ≤ (e.toNat : Int)))
      (g_der_AsInt.j2 v (notK .u64 0))
      (g_der_AsInt.j2 v 0))
noncomputable def g_der_AsInt (v : api_Value) : Option (Int × Int) :=
  (g_der_plain v 2).bind fun y =>
  cond (!y)
    (g_der_AsInt.j1 v true)
    (cond (decide ((v.Bytes.length : Int) < 1))
      (g_der_AsInt.j1 v true)
      (g_der_AsInt.j1 v (decide (8 < (v.Bytes.length : Int)))))
noncomputable def g_certificate_Reader_Int (r' : certificate_Reader) : Option (Int × certificate_Reader) :=
  (g_certificate_Reader_Next r').bind fun y =>
  (g_der_AsInt y.1).bind fun y_2 =>
  cond (y.2.Failed)
    (some (y_2.1, (certificate_Reader.mk y.2.l true)))
    (some (y_2.1, (certificate_Reader.mk y.2.l (!decide (y_2.2 = 0)))))
noncomputable def g_certificate_Reader_Use.j1 (y : api_Value × certificate_Reader) (y_3 : Int × certificate_Reader) (y_4 : Int × certificate_Reader) (b_1 : Bool) : Option (api_Use × certificate_Reader) :=
  some ((api_Use.mk y_3.1 y_4.1), (certificate_Reader.mk y.2.l b_1))
noncomputable def g_certificate_Reader_Use (r' : certificate_Reader) : Option (api_Use × certificate_Reader) :=
  (g_certificate_Reader_Next r').bind fun y =>
  (g_certificate_Read y.1 2).bind fun y_2 =>
  (g_certificate_Reader_Int y_2).bind fun y_3 =>
  (g_certificate_Reader_Int y_3.2).bind fun y_4 =>
  cond (y.2.Failed)
    (g_certificate_Reader_Use.j1 y y_3 y_4 true)
    (g_certificate_Reader_Use.j1 y y_3 y_4 y_4.2.Failed)
noncomputable def g_der_AsBool.j1 (v : api_Value) (x26_1 : Bool) : Option (Bool × Int) :=
  cond (x26_1)
    (some (false, 1))
    ((getI v.Bytes 0).bind fun e_2 =>
    some (decide ((e_2.toNat : Int) = 255), 0))
noncomputable def g_der_AsBool (v : api_Value) : Option (Bool × Int) :=
  (g_der_plain v 1).bind fun y =>
  cond (!y)
    (g_der_AsBool.j1 v true)
    (cond (!decide ((v.Bytes.length : Int) = 1))
      (g_der_AsBool.j1 v true)
      ((getI v.Bytes 0).bind fun e =>
      cond (!decide ((e.toNat : Int) = 0))
        (g_der_AsBool.j1 v (!decide ((e.toNat : Int) = 255)))
        (g_der_AsBool.j1 v false)))
noncomputable def g_certificate_Reader_Bool (r' : certificate_Reader) : Option (Bool × certificate_Reader) :=
  (g_certificate_Reader_Next r').bind fun y =>
  (g_der_AsBool y.1).bind fun y_2 =>
  cond (y.2.Failed)
    (some (y_2.1, (certificate_Reader.mk y.2.l true)))
    (some (y_2.1, (certificate_Reader.mk y.2.l (!decide (y_2.2 = 0)))))
noncomputable def g_certificate_Reader_List (r' : certificate_Reader) : Option ((List api_Value) × certificate_Reader) :=
  (g_certificate_Reader_Next r').bind fun y =>
  (g_der_AsList y.1).bind fun y_2 =>
  cond (y.2.Failed)
    (some (y_2.1, (certificate_Reader.mk y.2.l true)))
    (some (y_2.1, (certificate_Reader.mk y.2.l (!decide (y_2.2 = 0)))))
noncomputable def g_certificate_Parse_c1 (c0 : certificate_Reader) (c1 : api_Certificate) : Option (certificate_Reader × api_Certificate) :=
  (g_certificate_Reader_Int c0).bind fun y =>
  some (y.2, (api_Certificate.mk y.1 c1.Issuer c1.Subject c1.Key c1.KeyId c1.Hash c1.From c1.To c1.Authority c1.Path c1.Names c1.Seal))
noncomputable def g_certificate_Parse_c2 (c0 : certificate_Reader) (c1 : api_Certificate) : Option (certificate_Reader × api_Certificate) :=
  (g_certificate_Reader_Text c0).bind fun y =>
  (g_certificate_Reader_Text y.2).bind fun y_2 =>
  some (y_2.2, (api_Certificate.mk c1.Serial y.1 y_2.1 c1.Key c1.KeyId c1.Hash c1.From c1.To c1.Authority c1.Path c1.Names c1.Seal))
noncomputable def g_certificate_Parse_c3 (c0 : certificate_Reader) (c1 : api_Certificate) : Option (certificate_Reader × api_Certificate) :=
  (g_certificate_Reader_Use c0).bind fun y =>
  (g_certificate_Reader_Int y.2).bind fun y_2 =>
  some (y_2.2, (api_Certificate.mk c1.Serial c1.Issuer c1.Subject y.1 y_2.1 c1.Hash c1.From c1.To c1.Authority c1.Path c1.Names c1.Seal))
noncomputable def g_certificate_Parse_c4 (c0 : certificate_Reader) (c1 : api_Certificate) : Option (certificate_Reader × api_Certificate) :=
  (g_certificate_Reader_Use c0).bind fun y =>
  some (y.2, (api_Certificate.mk c1.Serial c1.Issuer c1.Subject c1.Key c1.KeyId y.1 c1.From c1.To c1.Authority c1.Path c1.Names c1.Seal))
noncomputable def g_certificate_Parse_c5 (c0 : certificate_Reader) (c1 : api_Certificate) : Option (certificate_Reader × api_Certificate) :=
  (g_certificate_Reader_Int c0).bind fun y =>
  (g_certificate_Reader_Int y.2).bind fun y_2 =>
  some (y_2.2, (api_Certificate.mk c1.Serial c1.Issuer c1.Subject c1.Key c1.KeyId c1.Hash y.1 y_2.1 c1.Authority c1.Path c1.Names c1.Seal))
noncomputable def g_certificate_Parse_c6 (c0 : certificate_Reader) (c1 : api_Certificate) : Option (certificate_Reader × api_Certificate) :=
  (g_certificate_Reader_Bool c0).bind fun y =>
  (g_certificate_Reader_Int y.2).bind fun y_2 =>
  some (y_2.2, (api_Certificate.mk c1.Serial c1.Issuer c1.Subject c1.Key c1.KeyId c1.Hash c1.From c1.To y.1 y_2.1 c1.Names c1.Seal))
noncomputable def g_certificate_Reader_names.j2 (x11_1 : Int) (out_1 : List ByteArray) (y_2 : ByteArray × Int) (r_2 : Bool) : Option (Lp (Int × Bool × List ByteArray) ((List ByteArray) × certificate_Reader)) :=
  (appI 16 out_1 ([y_2.1] : List ByteArray)).bind fun l =>
  some (.next (W (x11_1 + 1), r_2, l))
noncomputable def g_certificate_Reader_names.l1 (y : (List api_Value) × certificate_Reader) (x11_1 : Int) (r_1 : Bool) (out_1 : List ByteArray) : Option (Lp (Int × Bool × List ByteArray) ((List ByteArray) × certificate_Reader)) :=
  cond (decide (x11_1 < (y.1.length : Int)))
    ((getI y.1 x11_1).bind fun e =>
    (g_der_AsText e).bind fun y_2 =>
    cond (r_1)
      (g_certificate_Reader_names.j2 x11_1 out_1 y_2 true)
      (g_certificate_Reader_names.j2 x11_1 out_1 y_2 (!decide (y_2.2 = 0))))
    (up (
      some (out_1, (certificate_Reader.mk y.2.l r_1))))
noncomputable def g_certificate_Reader_names (r' : certificate_Reader) : Option ((List ByteArray) × certificate_Reader) :=
  (g_certificate_Reader_List r').bind fun y =>
  loop (fun q' => g_certificate_Reader_names.l1 y q'.1 q'.2.1 q'.2.2) (0, y.2.Failed, ([] : List ByteArray))
noncomputable def g_certificate_Parse_c7 (c0 : certificate_Reader) (c1 : api_Certificate) : Option (certificate_Reader × api_Certificate) :=
  (g_certificate_Reader_names c0).bind fun y =>
  some (y.2, (api_Certificate.mk c1.Serial c1.Issuer c1.Subject c1.Key c1.KeyId c1.Hash c1.From c1.To c1.Authority c1.Path y.1 c1.Seal))
noncomputable def g_certificate_Parse_c8 (c0 : certificate_Reader) (c1 : api_Certificate) : Option (certificate_Reader × api_Certificate) :=
  (g_certificate_Reader_Int c0).bind fun y =>
  (g_certificate_Reader_Int y.2).bind fun y_2 =>
  some (y_2.2, (api_Certificate.mk c1.Serial c1.Issuer c1.Subject c1.Key c1.KeyId c1.Hash c1.From c1.To c1.Authority c1.Path c1.Names (api_Seal.mk y.1 y_2.1)))
noncomputable def g_certificate_Parse.j1 (y_13 : certificate_Reader × api_Certificate) (x48_1 : Bool) : Option (api_Certificate × Bool) :=
  cond (x48_1)
    (some ((api_Certificate.mk 0 (⟨#[]⟩ : ByteArray) (⟨#[]⟩ : ByteArray) (api_Use.mk 0 0) 0 (api_Use.mk 0 0) 0 0 false 0 ([] : (List ByteArray)) (api_Seal.mk 0 0)), false))
    (some (y_13.2, true))
noncomputable def g_certificate_Parse (v : api_Value) : Option (api_Certificate × Bool) :=
  (g_certificate_Read v 2).bind fun y =>
  (g_certificate_Reader_Next y).bind fun y_2 =>
  (g_certificate_Read y_2.1 11).bind fun y_3 =>
  (g_certificate_Reader_Next y_2.2).bind fun y_4 =>
  (g_certificate_Read y_4.1 2).bind fun y_5 =>
  (g_certificate_Parse_c1 y_3 (api_Certificate.mk 0 (⟨#[]⟩ : ByteArray) (⟨#[]⟩ : ByteArray) (api_Use.mk 0 0) 0 (api_Use.mk 0 0) 0 0 false 0 ([] : (List ByteArray)) (api_Seal.mk 0 0))).bind fun y_6 =>
  (g_certificate_Parse_c2 y_6.1 y_6.2).bind fun y_7 =>
  (g_certificate_Parse_c3 y_7.1 y_7.2).bind fun y_8 =>
  (g_certificate_Parse_c4 y_8.1 y_8.2).bind fun y_9 =>
  (g_certificate_Parse_c5 y_9.1 y_9.2).bind fun y_10 =>
  (g_certificate_Parse_c6 y_10.1 y_10.2).bind fun y_11 =>
  (g_certificate_Parse_c7 y_11.1 y_11.2).bind fun y_12 =>
  (g_certificate_Parse_c8 y_5 y_12.2).bind fun y_13 =>
  cond (y_4.2.Failed)
    (g_certificate_Parse.j1 y_13 true)
    (cond (y_12.1.Failed)
      (g_certificate_Parse.j1 y_13 true)
      (g_certificate_Parse.j1 y_13 y_13.1.Failed))
noncomputable def g_keystore_entry.l1 (y_2 : ByteArray × certificate_Reader) (y_3 : api_Use × certificate_Reader) (y_4 : Int × certificate_Reader) (y_5 : Bool × certificate_Reader) (y_6 : (List api_Value) × certificate_Reader) (x24_1 : Int) (l_1 : List api_Certificate) : Option (Lp (Int × List api_Certificate) (api_Entry × Bool)) :=
  cond (decide (x24_1 < (y_6.1.length : Int)))
    ((getI y_6.1 x24_1).bind fun e =>
    (g_certificate_Parse e).bind fun y_7 =>
    cond (!y_7.2)
      (up (some ((api_Entry.mk (⟨#[]⟩ : ByteArray) (api_Use.mk 0 0) 0 false ([] : (List api_Certificate))), false)))
      ((appI 2280 l_1 ([y_7.1] : List api_Certificate)).bind fun l =>
      some (.next (W (x24_1 + 1), l))))
    (up (
      some ((api_Entry.mk y_2.1 y_3.1 y_4.1 y_5.1 l_1), !y_6.2.Failed)))
noncomputable def g_keystore_entry (v : api_Value) : Option (api_Entry × Bool) :=
  (g_certificate_Read v 5).bind fun y =>
  (g_certificate_Reader_Text y).bind fun y_2 =>
  (g_certificate_Reader_Use y_2.2).bind fun y_3 =>
  (g_certificate_Reader_Int y_3.2).bind fun y_4 =>
  (g_certificate_Reader_Bool y_4.2).bind fun y_5 =>
  (g_certificate_Reader_List y_5.2).bind fun y_6 =>
  loop (fun q' => g_keystore_entry.l1 y_2 y_3 y_4 y_5 y_6 q'.1 q'.2) (0, ([] : List api_Certificate))
noncomputable def g_keystore_Decode.l1 (y_2 : (List api_Value) × Int) (x29_1 : Int) (out_1 : List api_Entry) : Option (Lp (Int × List api_Entry) ((List api_Entry) × Int)) :=
  cond (decide (x29_1 < (y_2.1.length : Int)))
    ((getI y_2.1 x29_1).bind fun e =>
    (g_keystore_entry e).bind fun y_3 =>
    cond (!y_3.2)
      (up (some (([] : (List api_Entry)), 1)))
      ((appI 432 out_1 ([y_3.1] : List api_Entry)).bind fun l =>
      some (.next (W (x29_1 + 1), l))))
    (up (
      (g_keystore_Check out_1).bind fun y_4 =>
      cond (!decide (y_4 = 0))
        (some (([] : (List api_Entry)), 16))
        (some (out_1, 0))))
noncomputable def g_keystore_Decode (b : (List UInt8)) : Option ((List api_Entry) × Int) :=
  (g_der_Decode b).bind fun y =>
  cond (!decide (y.2 = 0))
    (some (([] : (List api_Entry)), y.2))
    ((g_der_AsList y.1).bind fun y_2 =>
    cond (!decide (y_2.2 = 0))
      (some (([] : (List api_Entry)), 1))
      (loop (fun q' => g_keystore_Decode.l1 y_2 q'.1 q'.2) (0, ([] : List api_Entry))))
noncomputable def g_ref02_SameTexts.l1 (a : (List ByteArray)) (b : (List ByteArray)) (i_1 : Int) : Option (Lp (Int) (Bool)) :=
  cond (decide (i_1 < (a.length : Int)))
    ((getI a i_1).bind fun e =>
    (getI b i_1).bind fun e_2 =>
    cond (!decide (e = e_2))
      (up (some false))
      (some (.next (W (i_1 + 1)))))
    (up (
      some true))
noncomputable def g_ref02_SameTexts (a : (List ByteArray)) (b : (List ByteArray)) : Option (Bool) :=
  cond (!decide ((a.length : Int) = (b.length : Int)))
    (some false)
    (loop (fun q' => g_ref02_SameTexts.l1 a b q') 0)
noncomputable def g_ref03_Same (a : api_Certificate) (b : api_Certificate) : Option (Bool) :=
  cond (decide (a.Serial = b.Serial))
    (cond (decide (a.Issuer = b.Issuer))
      (cond (decide (a.Subject = b.Subject))
        (cond (decide (a.Key = b.Key))
          (cond (decide (a.KeyId = b.KeyId))
            (cond (decide (a.Hash = b.Hash))
              (cond (decide (a.From = b.From))
                (cond (decide (a.To = b.To))
                  (cond (decide (a.Authority = b.Authority))
                    (cond (decide (a.Path = b.Path))
                      ((g_ref02_SameTexts a.Names b.Names).bind fun y =>
                      cond (y)
                        (some (decide (a.Seal = b.Seal)))
                        (some false))
                      (some false))
                    (some false))
                  (some false))
                (some false))
              (some false))
            (some false))
          (some false))
        (some false))
      (some false))
    (some false)
noncomputable def g_ref03_SameChain.l1 (a : (List api_Certificate)) (b : (List api_Certificate)) (i_1 : Int) : Option (Lp (Int) (Bool)) :=
  cond (decide (i_1 < (a.length : Int)))
    ((getI a i_1).bind fun e =>
    (getI b i_1).bind fun e_2 =>
    (g_ref03_Same e e_2).bind fun y =>
    cond (!y)
      (up (some false))
      (some (.next (W (i_1 + 1)))))
    (up (
      some true))
noncomputable def g_ref03_SameChain (a : (List api_Certificate)) (b : (List api_Certificate)) : Option (Bool) :=
  cond (!decide ((a.length : Int) = (b.length : Int)))
    (some false)
    (loop (fun q' => g_ref03_SameChain.l1 a b q') 0)
noncomputable def g_slices_Equal_string.l1 (s1 : (List ByteArray)) (s2 : (List ByteArray)) (x13_1 : Int) : Option (Lp (Int) (Bool)) :=
  cond (decide (x13_1 < (s1.length : Int)))
    ((getI s1 x13_1).bind fun e =>
    (getI s2 x13_1).bind fun e_2 =>
    cond (!decide (e = e_2))
      (up (some false))
      (some (.next (W (x13_1 + 1)))))
    (up (
      some true))
noncomputable def g_slices_Equal_string (s1 : (List ByteArray)) (s2 : (List ByteArray)) : Option (Bool) :=
  cond (!decide ((s1.length : Int) = (s2.length : Int)))
    (some false)
    (loop (fun q' => g_slices_Equal_string.l1 s1 s2 q') 0)
noncomputable def g_certificate_Same.j2 (a : api_Certificate) (b : api_Certificate) (named_1 : Bool) (keys_2 : Bool) : Option (Bool) :=
  cond (named_1)
    (cond (keys_2)
      (cond (decide (a.From = b.From))
        (cond (decide (a.To = b.To))
          (cond (decide (a.Authority = b.Authority))
            (some (decide (a.Path = b.Path)))
            (some false))
          (some false))
        (some false))
      (some false))
    (some false)
noncomputable def g_certificate_Same.j1 (a : api_Certificate) (b : api_Certificate) (named_1 : Bool) : Option (Bool) :=
  cond (decide (a.Key = b.Key))
    (cond (decide (a.KeyId = b.KeyId))
      (cond (decide (a.Hash = b.Hash))
        (g_certificate_Same.j2 a b named_1 (decide (a.Seal = b.Seal)))
        (g_certificate_Same.j2 a b named_1 false))
      (g_certificate_Same.j2 a b named_1 false))
    (g_certificate_Same.j2 a b named_1 false)
noncomputable def g_certificate_Same (a : api_Certificate) (b : api_Certificate) : Option (Bool) :=
  cond (decide (a.Serial = b.Serial))
    (cond (decide (a.Issuer = b.Issuer))
      (cond (decide (a.Subject = b.Subject))
        ((g_slices_Equal_string a.Names b.Names).bind fun y =>
        g_certificate_Same.j1 a b y)
        (g_certificate_Same.j1 a b false))
      (g_certificate_Same.j1 a b false))
    (g_certificate_Same.j1 a b false)
noncomputable def g_slices_EqualFunc_api_Certificate.l1 (s1 : (List api_Certificate)) (s2 : (List api_Certificate)) (eq : api_Certificate → api_Certificate → Option (Bool)) (x17_1 : Int) : Option (Lp (Int) (Bool)) :=
  cond (decide (x17_1 < (s1.length : Int)))
    ((getI s1 x17_1).bind fun e =>
    (getI s2 x17_1).bind fun e_2 =>
    (eq e e_2).bind fun y =>
    cond (!y)
      (up (some false))
      (some (.next (W (x17_1 + 1)))))
    (up (
      some true))
noncomputable def g_slices_EqualFunc_api_Certificate (s1 : (List api_Certificate)) (s2 : (List api_Certificate)) (eq : api_Certificate → api_Certificate → Option (Bool)) : Option (Bool) :=
  cond (!decide ((s1.length : Int) = (s2.length : Int)))
    (some false)
    (loop (fun q' => g_slices_EqualFunc_api_Certificate.l1 s1 s2 eq q') 0)
noncomputable def g_keystore_Same_c1 (x' : api_Entry) (y : api_Entry) : Option (Bool) :=
  cond (decide (x'.Alias = y.Alias))
    (cond (decide (x'.Key = y.Key))
      (cond (decide (x'.KeyId = y.KeyId))
        (cond (decide (x'.Secret = y.Secret))
          ((g_slices_EqualFunc_api_Certificate x'.Chain y.Chain (fun x0 x1 => g_certificate_Same x0 x1)).bind fun y_2 =>
          some y_2)
          (some false))
        (some false))
      (some false))
    (some false)
noncomputable def g_slices_EqualFunc_api_Entry.l1 (s1 : (List api_Entry)) (s2 : (List api_Entry)) (eq : api_Entry → api_Entry → Option (Bool)) (x17_1 : Int) : Option (Lp (Int) (Bool)) :=
  cond (decide (x17_1 < (s1.length : Int)))
    ((getI s1 x17_1).bind fun e =>
    (getI s2 x17_1).bind fun e_2 =>
    (eq e e_2).bind fun y =>
    cond (!y)
      (up (some false))
      (some (.next (W (x17_1 + 1)))))
    (up (
      some true))
noncomputable def g_slices_EqualFunc_api_Entry (s1 : (List api_Entry)) (s2 : (List api_Entry)) (eq : api_Entry → api_Entry → Option (Bool)) : Option (Bool) :=
  cond (!decide ((s1.length : Int) = (s2.length : Int)))
    (some false)
    (loop (fun q' => g_slices_EqualFunc_api_Entry.l1 s1 s2 eq q') 0)
noncomputable def g_keystore_Same (a : (List api_Entry)) (b : (List api_Entry)) : Option (Bool) :=
  (g_slices_EqualFunc_api_Entry a b (fun x0 x1 => g_keystore_Same_c1 x0 x1)).bind fun y =>
  some y
noncomputable def g_law05_KeystoreBack.j3 (i_2 : Int) (x71_3 : Bool) : Option (Lp (Int) (Bool)) :=
  cond (x71_3)
    (up (some false))
    (some (.next (W (i_2 + 1))))
noncomputable def g_law05_KeystoreBack.l2 (y_4 : (List api_Entry) × cipherplanmake_Dice) (y_5 : (List UInt8) × Int) (y_6 : (List api_Entry) × Int) (i_2 : Int) : Option (Lp (Int) (Bool)) :=
  cond (decide (i_2 < (y_4.1.length : Int)))
    ((getI y_4.1 i_2).bind fun e =>
    (g_keystore_Find y_6.1 e.Alias).bind fun y_8 =>
    cond (!y_8.2)
      (g_law05_KeystoreBack.j3 i_2 true)
      (cond (!decide (y_8.1.KeyId = e.KeyId))
        (g_law05_KeystoreBack.j3 i_2 true)
        ((g_ref03_SameChain y_8.1.Chain e.Chain).bind fun y_9 =>
        g_law05_KeystoreBack.j3 i_2 (!y_9))))
    (up (
      cond (decide (y_5.2 = 0))
        (cond (decide (y_6.2 = 0))
          ((g_keystore_Same y_4.1 y_6.1).bind fun y_10 =>
          cond (y_10)
            ((g_law05_awake).bind fun y_11 =>
            some y_11)
            (some false))
          (some false))
        (some false)))
noncomputable def g_law05_KeystoreBack (l : (List Int)) : Option (Bool) :=
  (g_make_Light l).bind fun y =>
  cond (!y)
    ((g_law05_awake).bind fun y_2 =>
    some y_2)
    ((g_make_Roll l).bind fun y_3 =>
    (g_make_Store y_3 (⟨#[119, 101, 98]⟩ : ByteArray)).bind fun y_4 =>
    (g_keystore_Encode y_4.1).bind fun y_5 =>
    (g_keystore_Decode y_5.1).bind fun y_6 =>
    cond (decide (y_5.2 = 3))
      ((g_law05_awake).bind fun y_7 =>
      some y_7)
      (loop (fun q' => g_law05_KeystoreBack.l2 y_4 y_5 y_6 q') 0))
end Go.Proofs.YtbeageaekgccgaaGreat
