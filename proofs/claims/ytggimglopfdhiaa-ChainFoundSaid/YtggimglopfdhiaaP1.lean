/- Plain functions. -/
import Derived.Test.YtggimglopfdhiaaPU
set_option linter.unusedVariables false
set_option linter.unusedSimpArgs false
namespace Go.Proofs.Ytggimglopfdhiaa
structure cipherplanmake_Dice where
  L : (List Int)
  At : Int
  deriving DecidableEq, Inhabited
structure api_Use where
  Alg : Int
  Bits : Int
  deriving DecidableEq, Inhabited
structure api_Seal where
  Key : Int
  Sum : Int
  deriving DecidableEq, Inhabited
structure api_Certificate where
  Serial : Int
  Issuer : ByteArray
  Subject : ByteArray
  Key : api_Use
  KeyId : Int
  Hash : api_Use
  From : Int
  To : Int
  Authority : Bool
  Path : Int
  Names : (List ByteArray)
  Seal : api_Seal
  deriving DecidableEq, Inhabited
structure cipherplanref02_row where
  name : ByteArray
  kind : Int
  deriving DecidableEq, Inhabited
structure api_Value where
  Tag : Int
  Bytes : (List UInt8)
  Nested : Bool
  Elements : (List api_Value)
structure catalog_row where
  name : ByteArray
  kind : Int
  way : Int
  sizes : (List Int)
  strengths : (List Int)
  deriving DecidableEq, Inhabited
structure chain_search where
  pool : (List api_Certificate)
  anchors : (List Int)
  hashes : (List Int)
  day : Int
  name : ByteArray
  deriving DecidableEq, Inhabited
noncomputable def g_make_Light (l : (List Int)) : Option (Bool) :=
  some (decide ((l.length : Int) ≤ 400))
noncomputable def g_ref03_Copy (c : api_Certificate) : Option (api_Certificate) :=
  (appI 16 ([] : List ByteArray) c.Names).bind fun l =>
  some (api_Certificate.mk c.Serial c.Issuer c.Subject c.Key c.KeyId c.Hash c.From c.To c.Authority c.Path l c.Seal)
noncomputable def g_ref03_Name.j3 (i_2 : Int) (x27_3 : Bool) : Option (Lp (Int) (Bool)) :=
  cond (x27_3)
    (up (some false))
    (some (.next (W (i_2 + 1))))
noncomputable def g_ref03_Name.l2 (s : ByteArray) (i_2 : Int) : Option (Lp (Int) (Bool)) :=
  cond (decide (i_2 < (s.size : Int)))
    ((idxT s i_2).bind fun c =>
    cond (decide ((c.toNat : Int) < 33))
      (g_ref03_Name.j3 i_2 true)
      ((idxT s i_2).bind fun c_2 =>
      g_ref03_Name.j3 i_2 (decide (126 < (c_2.toNat : Int)))))
    (up (
      some true))
noncomputable def g_ref03_Name.j1 (s : ByteArray) (x11_1 : Bool) : Option (Bool) :=
  cond (x11_1)
    (some false)
    (loop (fun q' => g_ref03_Name.l2 s q') 0)
noncomputable def g_ref03_Name (s : ByteArray) : Option (Bool) :=
  cond (decide ((s.size : Int) < 1))
    (g_ref03_Name.j1 s true)
    (g_ref03_Name.j1 s (decide (32 < (s.size : Int))))
noncomputable def g_ref02_modulus.j1 (b : Int) (x3_1 : Bool) : Option (Int) :=
  cond (x3_1)
    (some 0)
    (cond (decide (b < 1024))
      (some 56)
      (cond (decide (b < 2048))
        (some 80)
        (cond (decide (b < 3072))
          (some 112)
          (cond (decide (b < 7680))
            (some 128)
            (cond (decide (b < 15360))
              (some 192)
              (some 256))))))
noncomputable def g_ref02_modulus (b : Int) : Option (Int) :=
  cond (decide (b < 512))
    (g_ref02_modulus.j1 b true)
    (g_ref02_modulus.j1 b (decide (16384 < b)))
noncomputable def g_ref02_among.l1 (b : Int) (sizes : (List Int)) (strengths : (List Int)) (i_1 : Int) : Option (Lp (Int) (Int)) :=
  cond (decide (i_1 < (sizes.length : Int)))
    ((getI sizes i_1).bind fun e =>
    cond (decide (e = b))
      ((getI strengths i_1).bind fun e_2 =>
      up (some e_2))
      (some (.next (W (i_1 + 1)))))
    (up (
      some 0))
noncomputable def g_ref02_among (b : Int) (sizes : (List Int)) (strengths : (List Int)) : Option (Int) :=
  loop (fun q' => g_ref02_among.l1 b sizes strengths q') 0
noncomputable def g_ref02_single.j2 (alg : Int) (x14_2 : Bool) : Option (Int) :=
  cond (x14_2)
    (some 256)
    (cond (decide (alg = 19))
      (some 64)
      (cond (decide (alg = 20))
        (some 80)
        (some 0)))
noncomputable def g_ref02_single.j1 (alg : Int) (x8_1 : Bool) : Option (Int) :=
  cond (x8_1)
    (some 128)
    (cond (decide (alg = 4))
      (some 192)
      (cond (decide (alg = 18))
        (g_ref02_single.j2 alg (decide (alg = 18)))
        (g_ref02_single.j2 alg (decide (alg = 22)))))
noncomputable def g_ref02_single (alg : Int) : Option (Int) :=
  cond (decide (alg = 1))
    (some 18)
    (cond (decide (alg = 2))
      (some 60)
      (cond (decide (alg = 3))
        (g_ref02_single.j1 alg (decide (alg = 3)))
        (cond (decide (alg = 8))
          (g_ref02_single.j1 alg (decide (alg = 8)))
          (g_ref02_single.j1 alg (decide (alg = 21))))))
noncomputable def g_ref02_Strength.j3 (u : api_Use) (x35_3 : Bool) : Option (Int) :=
  cond (x35_3)
    ((quoI u.Bits 2).bind fun q =>
    some q)
    (some 0)
noncomputable def g_ref02_Strength.j4 (u : api_Use) (x62_4 : Bool) : Option (Int) :=
  cond (x62_4)
    ((g_ref02_among u.Bits ([128, 256] : List Int) ([128, 256] : List Int)).bind fun y_6 =>
    some y_6)
    ((g_ref02_single u.Alg).bind fun y_7 =>
    (g_ref02_among u.Bits ([0] : List Int) ([y_7] : List Int)).bind fun y_8 =>
    some y_8)
noncomputable def g_ref02_Strength.j2 (u : api_Use) (x15_2 : Bool) : Option (Int) :=
  cond (x15_2)
    (cond (decide (u.Bits = 160))
      (g_ref02_Strength.j3 u true)
      (cond (decide (u.Bits = 224))
        (g_ref02_Strength.j3 u true)
        (cond (decide (u.Bits = 256))
          (g_ref02_Strength.j3 u true)
          (cond (decide (u.Bits = 384))
            (g_ref02_Strength.j3 u true)
            (g_ref02_Strength.j3 u (decide (u.Bits = 521)))))))
    (cond (decide (u.Alg = 9))
      ((g_ref02_among u.Bits ([44, 65, 87] : List Int) ([128, 192, 256] : List Int)).bind fun y_2 =>
      some y_2)
      (cond (decide (u.Alg = 13))
        ((g_ref02_among u.Bits ([512, 768, 1024] : List Int) ([128, 192, 256] : List Int)).bind fun y_3 =>
        some y_3)
        (cond (decide (u.Alg = 14))
          ((g_ref02_among u.Bits ([40, 128] : List Int) ([40, 60] : List Int)).bind fun y_4 =>
          some y_4)
          (cond (decide (u.Alg = 15))
            ((g_ref02_among u.Bits ([112, 168] : List Int) ([80, 112] : List Int)).bind fun y_5 =>
            some y_5)
            (cond (decide (u.Alg = 16))
              (g_ref02_Strength.j4 u (decide (u.Alg = 16)))
              (g_ref02_Strength.j4 u (decide (u.Alg = 17))))))))
noncomputable def g_ref02_Strength.j1 (u : api_Use) (x8_1 : Bool) : Option (Int) :=
  cond (x8_1)
    ((g_ref02_modulus u.Bits).bind fun y =>
    some y)
    (cond (decide (u.Alg = 7))
      (g_ref02_Strength.j2 u (decide (u.Alg = 7)))
      (g_ref02_Strength.j2 u (decide (u.Alg = 12))))
noncomputable def g_ref02_Strength (u : api_Use) : Option (Int) :=
  cond (decide (u.Alg = 5))
    (g_ref02_Strength.j1 u (decide (u.Alg = 5)))
    (cond (decide (u.Alg = 6))
      (g_ref02_Strength.j1 u (decide (u.Alg = 6)))
      (cond (decide (u.Alg = 10))
        (g_ref02_Strength.j1 u (decide (u.Alg = 10)))
        (g_ref02_Strength.j1 u (decide (u.Alg = 11)))))
noncomputable def g_ref02_Valid (u : api_Use) : Option (Bool) :=
  (g_ref02_Strength u).bind fun y =>
  some (decide (0 < y))
noncomputable def g_ref02_rows : Option ((List cipherplanref02_row)) :=
  some ([(cipherplanref02_row.mk (⟨#[]⟩ : ByteArray) 0), (cipherplanref02_row.mk (⟨#[109, 100, 53]⟩ : ByteArray) 1), (cipherplanref02_row.mk (⟨#[115, 104, 97, 49]⟩ : ByteArray) 1), (cipherplanref02_row.mk (⟨#[115, 104, 97, 50, 53, 54]⟩ : ByteArray) 1), (cipherplanref02_row.mk (⟨#[115, 104, 97, 51, 56, 52]⟩ : ByteArray) 1), (cipherplanref02_row.mk (⟨#[114, 115, 97]⟩ : ByteArray) 2), (cipherplanref02_row.mk (⟨#[100, 115, 97]⟩ : ByteArray) 2), (cipherplanref02_row.mk (⟨#[101, 99, 100, 115, 97]⟩ : ByteArray) 2), (cipherplanref02_row.mk (⟨#[101, 100, 50, 53, 53, 49, 57]⟩ : ByteArray) 2), (cipherplanref02_row.mk (⟨#[109, 108, 100, 115, 97]⟩ : ByteArray) 2), (cipherplanref02_row.mk (⟨#[114, 115, 97, 107, 120]⟩ : ByteArray) 3), (cipherplanref02_row.mk (⟨#[100, 104, 101]⟩ : ByteArray) 3), (cipherplanref02_row.mk (⟨#[101, 99, 100, 104, 101]⟩ : ByteArray) 3), (cipherplanref02_row.mk (⟨#[109, 108, 107, 101, 109]⟩ : ByteArray) 3), (cipherplanref02_row.mk (⟨#[114, 99, 52]⟩ : ByteArray) 4), (cipherplanref02_row.mk (⟨#[100, 101, 115, 51]⟩ : ByteArray) 4), (cipherplanref02_row.mk (⟨#[97, 101, 115, 99, 98, 99]⟩ : ByteArray) 4), (cipherplanref02_row.mk (⟨#[97, 101, 115, 103, 99, 109]⟩ : ByteArray) 4), (cipherplanref02_row.mk (⟨#[99, 104, 97, 99, 104, 97]⟩ : ByteArray) 4), (cipherplanref02_row.mk (⟨#[104, 109, 97, 99, 109, 100, 53]⟩ : ByteArray) 5), (cipherplanref02_row.mk (⟨#[104, 109, 97, 99, 115, 104, 97, 49]⟩ : ByteArray) 5), (cipherplanref02_row.mk (⟨#[104, 109, 97, 99, 115, 104, 97, 50, 53, 54]⟩ : ByteArray) 5), (cipherplanref02_row.mk (⟨#[97, 101, 97, 100]⟩ : ByteArray) 5)] : List cipherplanref02_row)
noncomputable def g_ref02_Kind.j1 (alg : Int) (x8_1 : Bool) : Option (Int) :=
  cond (x8_1)
    (some 0)
    ((g_ref02_rows).bind fun y =>
    (getI y alg).bind fun e =>
    some e.kind)
noncomputable def g_ref02_Kind (alg : Int) : Option (Int) :=
  cond (decide (alg < 1))
    (g_ref02_Kind.j1 alg true)
    (g_ref02_Kind.j1 alg (decide (22 < alg)))
noncomputable def g_ref03_Signature (u : api_Use) : Option (Bool) :=
  (g_ref02_Valid u).bind fun y =>
  cond (y)
    ((g_ref02_Kind u.Alg).bind fun y_2 =>
    some (decide (y_2 = 2)))
    (some false)
noncomputable def g_ref03_Check.j5 (i_4 : Int) (x123_5 : Bool) : Option (Lp (Int) (Int)) :=
  cond (x123_5)
    (up (some 9))
    (some (.next (W (i_4 + 1))))
noncomputable def g_ref03_Check.j6 (x145_6 : Bool) : Option (Int) :=
  cond (x145_6)
    (some 9)
    (some 0)
noncomputable def g_ref03_Check.l4 (c : api_Certificate) (i_4 : Int) : Option (Lp (Int) (Int)) :=
  cond (decide (i_4 < (c.Names.length : Int)))
    ((getI c.Names i_4).bind fun e =>
    (g_ref03_Name e).bind fun y_6 =>
    cond (!y_6)
      (g_ref03_Check.j5 i_4 true)
      (cond (decide (0 < i_4))
        ((getI c.Names (W (i_4 - 1))).bind fun e_2 =>
        g_ref03_Check.j5 i_4 (!ltT (toB e_2) (toB e)))
        (g_ref03_Check.j5 i_4 false)))
    (up (
      cond (decide (c.Seal.Key < 0))
        (g_ref03_Check.j6 true)
        (cond (decide (2147483648 < c.Seal.Key))
          (g_ref03_Check.j6 true)
          (cond (decide (c.Seal.Sum < 0))
            (g_ref03_Check.j6 true)
            (g_ref03_Check.j6 (decide (4294967296 ≤ c.Seal.Sum)))))))
noncomputable def g_ref03_Check.j3 (c : api_Certificate) (x91_3 : Bool) : Option (Int) :=
  cond (x91_3)
    (some 9)
    (loop (fun q' => g_ref03_Check.l4 c q') 0)
noncomputable def g_ref03_Check.j2 (c : api_Certificate) (x67_2 : Bool) : Option (Int) :=
  cond (x67_2)
    (some 9)
    (cond (decide (c.Path < 0))
      (g_ref03_Check.j3 c true)
      (cond (decide (8 < c.Path))
        (g_ref03_Check.j3 c true)
        (cond (!c.Authority)
          (cond (!decide (c.Path = 0))
            (g_ref03_Check.j3 c true)
            (g_ref03_Check.j3 c (decide (8 < (c.Names.length : Int)))))
          (g_ref03_Check.j3 c (decide (8 < (c.Names.length : Int)))))))
noncomputable def g_ref03_Check.j1 (c : api_Certificate) (x39_1 : Bool) : Option (Int) :=
  cond (x39_1)
    (some 9)
    ((g_ref02_Valid c.Hash).bind fun y_4 =>
    cond (!y_4)
      (g_ref03_Check.j2 c true)
      ((g_ref02_Kind c.Hash.Alg).bind fun y_5 =>
      cond (!decide (y_5 = 1))
        (g_ref03_Check.j2 c true)
        (cond (decide (c.From < 0))
          (g_ref03_Check.j2 c true)
          (cond (decide (c.To < c.From))
            (g_ref03_Check.j2 c true)
            (g_ref03_Check.j2 c (decide (40000 < c.To)))))))
noncomputable def g_ref03_Check (c : api_Certificate) : Option (Int) :=
  cond (decide (c.Serial < 0))
    (g_ref03_Check.j1 c true)
    (cond (decide (1099511627776 < c.Serial))
      (g_ref03_Check.j1 c true)
      ((g_ref03_Name c.Issuer).bind fun y =>
      cond (!y)
        (g_ref03_Check.j1 c true)
        ((g_ref03_Name c.Subject).bind fun y_2 =>
        cond (!y_2)
          (g_ref03_Check.j1 c true)
          ((g_ref03_Signature c.Key).bind fun y_3 =>
          cond (!y_3)
            (g_ref03_Check.j1 c true)
            (cond (decide (c.KeyId < 0))
              (g_ref03_Check.j1 c true)
              (g_ref03_Check.j1 c (decide (2147483648 < c.KeyId))))))))
noncomputable def g_ref01_Text (s : ByteArray) : Option (api_Value) :=
  some (api_Value.mk 12 (toB s) false ([] : (List api_Value)))
noncomputable def g_ref01_Int.j2 (x_1 : Int) (b_1 : List UInt8) (x35_2 : Bool) : Option (Lp (Int × List UInt8) (api_Value)) :=
  cond (x35_2)
    ((appI 1 ([(u8 x_1)] : List UInt8) b_1).bind fun l =>
    (shrK .i64 x_1 8).bind fun q_2 =>
    some (.next (q_2, l)))
    (up (
      some (api_Value.mk 2 b_1 false ([] : (List api_Value)))))
noncomputable def g_ref01_Int.l1 (x_1 : Int) (b_1 : List UInt8) : Option (Lp (Int × List UInt8) (api_Value)) :=
  cond (!decide (x_1 = 0))
    (cond (!decide (x_1 = (-1)))
      (g_ref01_Int.j2 x_1 b_1 true)
      (cond (decide (x_1 = 0))
        ((getI b_1 0).bind fun e =>
        cond (decide (128 ≤ (e.toNat : Int)))
          (g_ref01_Int.j2 x_1 b_1 true)
          (cond (decide (x_1 = (-1)))
            (g_ref01_Int.j2 x_1 b_1 (decide ((e.toNat : Int) < 128)))
            (g_ref01_Int.j2 x_1 b_1 false)))
        (cond (decide (x_1 = (-1)))
          ((getI b_1 0).bind fun e_2 =>
          g_ref01_Int.j2 x_1 b_1 (decide ((e_2.toNat : Int) < 128)))
          (g_ref01_Int.j2 x_1 b_1 false))))
    (cond (decide (x_1 = 0))
      ((getI b_1 0).bind fun e_3 =>
      cond (decide (128 ≤ (e_3.toNat : Int)))
        (g_ref01_Int.j2 x_1 b_1 true)
        (cond (decide (x_1 = (-1)))
          (g_ref01_Int.j2 x_1 b_1 (decide ((e_3.toNat : Int) < 128)))
          (g_ref01_Int.j2 x_1 b_1 false)))
      (cond (decide (x_1 = (-1)))
        ((getI b_1 0).bind fun e_4 =>
        g_ref01_Int.j2 x_1 b_1 (decide ((e_4.toNat : Int) < 128)))
        (g_ref01_Int.j2 x_1 b_1 false)))
noncomputable def g_ref01_Int (n : Int) : Option (api_Value) :=
  (shrK .i64 n 8).bind fun q =>
  loop (fun q' => g_ref01_Int.l1 q'.1 q'.2) (q, ([(u8 n)] : List UInt8))
noncomputable def g_ref01_copies.l1 (rec : (List api_Value) → Option ((List api_Value))) (l : (List api_Value)) (i_1 : Int) (out_1 : List api_Value) : Option (Lp (Int × List api_Value) ((List api_Value))) :=
  cond (decide (i_1 < (l.length : Int)))
    ((getI l i_1).bind fun e =>
    (appI 1 ([] : List UInt8) e.Bytes).bind fun l_2 =>
    (rec e.Elements).bind fun y =>
    (appI 256 out_1 ([(api_Value.mk e.Tag l_2 e.Nested y)] : List api_Value)).bind fun l_3 =>
    some (.next (W (i_1 + 1), l_3)))
    (up (
      some out_1))
noncomputable def g_ref01_copies.F (rec : (List api_Value) → Option ((List api_Value))) (l : (List api_Value)) : Option ((List api_Value)) :=
  loop (fun q' => g_ref01_copies.l1 rec l q'.1 q'.2) (0, ([] : List api_Value))
noncomputable def g_ref01_copies (l : (List api_Value)) : Option ((List api_Value)) := fixT (fun rec (x : (List api_Value)) => g_ref01_copies.F (fun l => rec l) x) l
noncomputable def g_ref01_List (l : (List api_Value)) : Option (api_Value) :=
  (g_ref01_copies l).bind fun y =>
  some (api_Value.mk 48 ([] : (List UInt8)) true y)
noncomputable def g_ref03_use (u : api_Use) : Option (api_Value) :=
  (g_ref01_Int u.Alg).bind fun y =>
  (g_ref01_Int u.Bits).bind fun y_2 =>
  (g_ref01_List ([y, y_2] : List api_Value)).bind fun y_3 =>
  some y_3
noncomputable def g_ref01_Bool (b : Bool) : Option (api_Value) :=
  cond (b)
    (some (api_Value.mk 1 ([(255 : UInt8)] : List UInt8) false ([] : (List api_Value))))
    (some (api_Value.mk 1 ([(0 : UInt8)] : List UInt8) false ([] : (List api_Value))))
noncomputable def g_ref03_body.l1 (c : api_Certificate) (i_1 : Int) (names_1 : List api_Value) : Option (Lp (Int × List api_Value) (api_Value)) :=
  cond (decide (i_1 < (c.Names.length : Int)))
    ((getI c.Names i_1).bind fun e =>
    (g_ref01_Text e).bind fun y =>
    (appI 256 names_1 ([y] : List api_Value)).bind fun l =>
    some (.next (W (i_1 + 1), l)))
    (up (
      (g_ref01_Int c.Serial).bind fun y_12 =>
      (g_ref01_Text c.Issuer).bind fun y_13 =>
      (g_ref01_Text c.Subject).bind fun y_14 =>
      (g_ref03_use c.Key).bind fun y_15 =>
      (g_ref01_Int c.KeyId).bind fun y_16 =>
      (g_ref03_use c.Hash).bind fun y_17 =>
      (g_ref01_Int c.From).bind fun y_18 =>
      (g_ref01_Int c.To).bind fun y_19 =>
      (g_ref01_Bool c.Authority).bind fun y_20 =>
      (g_ref01_Int c.Path).bind fun y_21 =>
      (g_ref01_List names_1).bind fun y_22 =>
      (g_ref01_List ([y_12, y_13, y_14, y_15, y_16, y_17, y_18, y_19, y_20, y_21, y_22] : List api_Value)).bind fun y_23 =>
      some y_23))
noncomputable def g_ref03_body (c : api_Certificate) : Option (api_Value) :=
  loop (fun q' => g_ref03_body.l1 c q'.1 q'.2) (0, ([] : List api_Value))
noncomputable def g_ref01_tag (n : Int) : Option (Bool) :=
  cond (decide (1 ≤ n))
    (cond (decide (n ≤ 255))
      ((remI n 32).bind fun q =>
      some (!decide (q = 31)))
      (some false))
    (some false)
noncomputable def g_ref01_formed.l2 (rec : api_Value → Option (Bool)) (v : api_Value) (i_2 : Int) : Option (Lp (Int) (Bool)) :=
  cond (decide (i_2 < (v.Elements.length : Int)))
    ((getI v.Elements i_2).bind fun e =>
    (rec e).bind fun y_2 =>
    cond (!y_2)
      (up (some false))
      (some (.next (W (i_2 + 1)))))
    (up (
      some true))
noncomputable def g_ref01_formed.j1 (rec : api_Value → Option (Bool)) (v : api_Value) (x38_1 : Bool) : Option (Bool) :=
  cond (x38_1)
    (some false)
    (loop (fun q' => g_ref01_formed.l2 rec v q') 0)
noncomputable def g_ref01_formed.F (rec : api_Value → Option (Bool)) (v : api_Value) : Option (Bool) :=
  (g_ref01_tag v.Tag).bind fun y =>
  cond (!y)
    (g_ref01_formed.j1 rec v true)
    ((quoI v.Tag 32).bind fun q =>
    (remI q 2).bind fun q_2 =>
    cond (!decide (v.Nested = (decide (q_2 = 1))))
      (g_ref01_formed.j1 rec v true)
      (cond (v.Nested)
        (cond (decide (0 < (v.Bytes.length : Int)))
          (g_ref01_formed.j1 rec v true)
          (g_ref01_formed.j1 rec v false))
        (g_ref01_formed.j1 rec v (decide (0 < (v.Elements.length : Int))))))
noncomputable def g_ref01_formed (v : api_Value) : Option (Bool) := fixT (fun rec (x : api_Value) => g_ref01_formed.F (fun v => rec v) x) v
noncomputable def g_ref01_depth.l1 (rec : api_Value → Option (Int)) (v : api_Value) (d_1 : Int) (i_1 : Int) : Option (Lp (Int × Int) (Int)) :=
  cond (decide (i_1 < (v.Elements.length : Int)))
    ((getI v.Elements i_1).bind fun e =>
    (rec e).bind fun y =>
    some (.next (max d_1 y, W (i_1 + 1))))
    (up (
      some (W (d_1 + 1))))
noncomputable def g_ref01_depth.F (rec : api_Value → Option (Int)) (v : api_Value) : Option (Int) :=
  loop (fun q' => g_ref01_depth.l1 rec v q'.1 q'.2) (0, 0)
noncomputable def g_ref01_depth (v : api_Value) : Option (Int) := fixT (fun rec (x : api_Value) => g_ref01_depth.F (fun v => rec v) x) v
noncomputable def g_ref01_length.l1 (n_1 : Int) (b_1 : List UInt8) : Option (Lp (Int × List UInt8) ((List UInt8))) :=
  cond (decide (0 < n_1))
    ((remI n_1 256).bind fun q =>
    (appI 1 ([(u8 q)] : List UInt8) b_1).bind fun l =>
    (quoI n_1 256).bind fun q_2 =>
    some (.next (q_2, l)))
    (up (
      (appI 1 ([(u8 (W (128 + (b_1.length : Int))))] : List UInt8) b_1).bind fun l_2 =>
      some l_2))
noncomputable def g_ref01_length (n : Int) : Option ((List UInt8)) :=
  cond (decide (n < 128))
    (some ([(u8 n)] : List UInt8))
    (loop (fun q' => g_ref01_length.l1 q'.1 q'.2) (n, ([] : List UInt8)))
noncomputable def g_ref01_put.l1 (rec : api_Value → Option ((List UInt8))) (v : api_Value) (i_1 : Int) (b_1 : List UInt8) : Option (Lp (Int × List UInt8) ((List UInt8))) :=
  cond (decide (i_1 < (v.Elements.length : Int)))
    ((getI v.Elements i_1).bind fun e =>
    (rec e).bind fun y =>
    (appI 1 b_1 y).bind fun l_2 =>
    some (.next (W (i_1 + 1), l_2)))
    (up (
      (g_ref01_length (b_1.length : Int)).bind fun y_2 =>
      (appI 1 ([(u8 v.Tag)] : List UInt8) y_2).bind fun l_3 =>
      (appI 1 l_3 b_1).bind fun l_4 =>
      some l_4))
noncomputable def g_ref01_put.F (rec : api_Value → Option ((List UInt8))) (v : api_Value) : Option ((List UInt8)) :=
  (appI 1 ([] : List UInt8) v.Bytes).bind fun l =>
  loop (fun q' => g_ref01_put.l1 rec v q'.1 q'.2) (0, l)
noncomputable def g_ref01_put (v : api_Value) : Option ((List UInt8)) := fixT (fun rec (x : api_Value) => g_ref01_put.F (fun v => rec v) x) v
noncomputable def g_ref01_Encode (v : api_Value) : Option ((List UInt8) × Int) :=
  (g_ref01_formed v).bind fun y =>
  cond (!y)
    (some (([] : (List UInt8)), 1))
    ((g_ref01_depth v).bind fun y_2 =>
    cond (decide (16 < y_2))
      (some (([] : (List UInt8)), 3))
      ((g_ref01_put v).bind fun y_3 =>
      cond (decide (4096 < (y_3.length : Int)))
        (some (([] : (List UInt8)), 3))
        (some (y_3, 0))))
noncomputable def g_ref03_Bytes (c : api_Certificate) : Option ((List UInt8) × Int) :=
  (g_ref03_Check c).bind fun y =>
  cond (!decide (y = 0))
    (some (([] : (List UInt8)), 9))
    ((g_ref03_body c).bind fun y_2 =>
    (g_ref01_Encode y_2).bind fun y_3 =>
    some (y_3.1, y_3.2))
noncomputable def g_ref03_Sum.l1 (b : (List UInt8)) (h_1 : Int) (i_1 : Int) : Option (Lp (Int × Int) (Int)) :=
  cond (decide (i_1 < (b.length : Int)))
    ((getI b i_1).bind fun e =>
    some (.next (IntKind.wrap .u32 ((xorK .u32 h_1 (IntKind.wrap .u32 (e.toNat : Int))) * 16777619), W (i_1 + 1))))
    (up (
      some (W h_1)))
noncomputable def g_ref03_Sum (b : (List UInt8)) : Option (Int) :=
  loop (fun q' => g_ref03_Sum.l1 b q'.1 q'.2) (2166136261, 0)
noncomputable def g_ref03_Sign.j1 (key : Int) (y : api_Certificate) (x22_1 : Bool) : Option (api_Certificate × Int) :=
  cond (x22_1)
    (some ((api_Certificate.mk 0 (⟨#[]⟩ : ByteArray) (⟨#[]⟩ : ByteArray) (api_Use.mk 0 0) 0 (api_Use.mk 0 0) 0 0 false 0 ([] : (List ByteArray)) (api_Seal.mk 0 0)), 9))
    ((g_ref03_Bytes (api_Certificate.mk y.Serial y.Issuer y.Subject y.Key y.KeyId y.Hash y.From y.To y.Authority y.Path y.Names (api_Seal.mk 0 0))).bind fun y_3 =>
    (g_ref03_Sum y_3.1).bind fun y_4 =>
    some ((api_Certificate.mk y.Serial y.Issuer y.Subject y.Key y.KeyId y.Hash y.From y.To y.Authority y.Path y.Names (api_Seal.mk key y_4)), 0))
noncomputable def g_ref03_Sign (c : api_Certificate) (key : Int) : Option (api_Certificate × Int) :=
  (g_ref03_Copy c).bind fun y =>
  (g_ref03_Check (api_Certificate.mk y.Serial y.Issuer y.Subject y.Key y.KeyId y.Hash y.From y.To y.Authority y.Path y.Names (api_Seal.mk 0 0))).bind fun y_2 =>
  cond (!decide (y_2 = 0))
    (g_ref03_Sign.j1 key y true)
    (cond (decide (key < 0))
      (g_ref03_Sign.j1 key y true)
      (g_ref03_Sign.j1 key y (decide (2147483648 < key))))
noncomputable def g_catalog_Named.j2 (x8_1 : Int) (x17_2 : Bool) : Option (Lp (Int) (Bool)) :=
  cond (x17_2)
    (up (some false))
    (some (.next (W (x8_1 + 1))))
noncomputable def g_catalog_Named.l1 (s : ByteArray) (x8_1 : Int) : Option (Lp (Int) (Bool)) :=
  cond (decide (x8_1 < ((toB s).length : Int)))
    ((getI (toB s) x8_1).bind fun e =>
    cond (decide ((e.toNat : Int) ≤ 32))
      (g_catalog_Named.j2 x8_1 true)
      (g_catalog_Named.j2 x8_1 (decide (126 < (e.toNat : Int)))))
    (up (
      cond (decide (1 ≤ (s.size : Int)))
        (some (decide ((s.size : Int) ≤ 32)))
        (some false)))
noncomputable def g_catalog_Named (s : ByteArray) : Option (Bool) :=
  loop (fun q' => g_catalog_Named.l1 s q') 0
noncomputable def g_certificate_named.j2 (x7_1 : Int) (x27_2 : Bool) : Option (Lp (Int) (Bool)) :=
  cond (x27_2)
    (up (some false))
    (some (.next (W (x7_1 + 1))))
noncomputable def g_certificate_named.l1 (l : (List ByteArray)) (x7_1 : Int) : Option (Lp (Int) (Bool)) :=
  cond (decide (x7_1 < (l.length : Int)))
    ((getI l x7_1).bind fun e =>
    (g_catalog_Named e).bind fun y =>
    cond (!y)
      (g_certificate_named.j2 x7_1 true)
      (cond (decide (0 < x7_1))
        ((getI l (W (x7_1 - 1))).bind fun e_2 =>
        g_certificate_named.j2 x7_1 (!ltT (toB e_2) (toB e)))
        (g_certificate_named.j2 x7_1 false)))
    (up (
      some (decide ((l.length : Int) ≤ 8))))
noncomputable def g_certificate_named (l : (List ByteArray)) : Option (Bool) :=
  loop (fun q' => g_certificate_named.l1 l q') 0
noncomputable def g_catalog_rows : Option ((List catalog_row)) :=
  some ([(catalog_row.mk (⟨#[]⟩ : ByteArray) 0 0 ([] : (List Int)) ([] : (List Int))), (catalog_row.mk (⟨#[109, 100, 53]⟩ : ByteArray) 1 0 ([] : (List Int)) ([18] : List Int)), (catalog_row.mk (⟨#[115, 104, 97, 49]⟩ : ByteArray) 1 0 ([] : (List Int)) ([60] : List Int)), (catalog_row.mk (⟨#[115, 104, 97, 50, 53, 54]⟩ : ByteArray) 1 0 ([] : (List Int)) ([128] : List Int)), (catalog_row.mk (⟨#[115, 104, 97, 51, 56, 52]⟩ : ByteArray) 1 0 ([] : (List Int)) ([192] : List Int)), (catalog_row.mk (⟨#[114, 115, 97]⟩ : ByteArray) 2 1 ([] : (List Int)) ([] : (List Int))), (catalog_row.mk (⟨#[100, 115, 97]⟩ : ByteArray) 2 1 ([] : (List Int)) ([] : (List Int))), (catalog_row.mk (⟨#[101, 99, 100, 115, 97]⟩ : ByteArray) 2 2 ([] : (List Int)) ([] : (List Int))), (catalog_row.mk (⟨#[101, 100, 50, 53, 53, 49, 57]⟩ : ByteArray) 2 0 ([] : (List Int)) ([128] : List Int)), (catalog_row.mk (⟨#[109, 108, 100, 115, 97]⟩ : ByteArray) 2 3 ([44, 65, 87] : List Int) ([128, 192, 256] : List Int)), (catalog_row.mk (⟨#[114, 115, 97, 107, 120]⟩ : ByteArray) 3 1 ([] : (List Int)) ([] : (List Int))), (catalog_row.mk (⟨#[100, 104, 101]⟩ : ByteArray) 3 1 ([] : (List Int)) ([] : (List Int))), (catalog_row.mk (⟨#[101, 99, 100, 104, 101]⟩ : ByteArray) 3 2 ([] : (List Int)) ([] : (List Int))), (catalog_row.mk (⟨#[109, 108, 107, 101, 109]⟩ : ByteArray) 3 3 ([512, 768, 1024] : List Int) ([128, 192, 256] : List Int)), (catalog_row.mk (⟨#[114, 99, 52]⟩ : ByteArray) 4 3 ([40, 128] : List Int) ([40, 60] : List Int)), (catalog_row.mk (⟨#[100, 101, 115, 51]⟩ : ByteArray) 4 3 ([112, 168] : List Int) ([80, 112] : List Int)), (catalog_row.mk (⟨#[97, 101, 115, 99, 98, 99]⟩ : ByteArray) 4 3 ([128, 256] : List Int) ([128, 256] : List Int)), (catalog_row.mk (⟨#[97, 101, 115, 103, 99, 109]⟩ : ByteArray) 4 3 ([128, 256] : List Int) ([128, 256] : List Int)), (catalog_row.mk (⟨#[99, 104, 97, 99, 104, 97]⟩ : ByteArray) 4 0 ([] : (List Int)) ([256] : List Int)), (catalog_row.mk (⟨#[104, 109, 97, 99, 109, 100, 53]⟩ : ByteArray) 5 0 ([] : (List Int)) ([64] : List Int)), (catalog_row.mk (⟨#[104, 109, 97, 99, 115, 104, 97, 49]⟩ : ByteArray) 5 0 ([] : (List Int)) ([80] : List Int)), (catalog_row.mk (⟨#[104, 109, 97, 99, 115, 104, 97, 50, 53, 54]⟩ : ByteArray) 5 0 ([] : (List Int)) ([128] : List Int)), (catalog_row.mk (⟨#[97, 101, 97, 100]⟩ : ByteArray) 5 0 ([] : (List Int)) ([256] : List Int))] : List catalog_row)
noncomputable def g_catalog_of.j1 (alg : Int) (x9_1 : Bool) : Option (catalog_row × Bool) :=
  cond (x9_1)
    (some ((catalog_row.mk (⟨#[]⟩ : ByteArray) 0 0 ([] : (List Int)) ([] : (List Int))), false))
    ((g_catalog_rows).bind fun y =>
    (getI (arrL 23 y) alg).bind fun e =>
    some (e, true))
noncomputable def g_catalog_of (alg : Int) : Option (catalog_row × Bool) :=
  cond (decide (alg < 1))
    (g_catalog_of.j1 alg true)
    (g_catalog_of.j1 alg (decide (22 < alg)))
noncomputable def g_catalog_modulus.l1 (bits : Int) (x11_1 : Int) : Option (Lp (Int) (Int)) :=
  cond (decide (x11_1 < 5))
    ((getI ([([1024, 56] : List Int), ([2048, 80] : List Int), ([3072, 112] : List Int), ([7680, 128] : List Int), ([15360, 192] : List Int)] : List (List Int)) x11_1).bind fun e =>
    cond (decide (bits < (e[0]!)))
      (up (some (e[1]!)))
      (some (.next (W (x11_1 + 1)))))
    (up (
      some 256))
noncomputable def g_catalog_modulus (bits : Int) : Option (Int) :=
  loop (fun q' => g_catalog_modulus.l1 bits q') 0
noncomputable def g_slices_Index_int.l1 (s : (List Int)) (v : Int) (x8_1 : Int) : Option (Lp (Int) (Int)) :=
  cond (decide (x8_1 < (s.length : Int)))
    ((getI s x8_1).bind fun e =>
    cond (decide (v = e))
      (up (some x8_1))
      (some (.next (W (x8_1 + 1)))))
    (up (
      some (-1)))
noncomputable def g_slices_Index_int (s : (List Int)) (v : Int) : Option (Int) :=
  loop (fun q' => g_slices_Index_int.l1 s v q') 0
noncomputable def g_slices_Contains_int (s : (List Int)) (v : Int) : Option (Bool) :=
  (g_slices_Index_int s v).bind fun y =>
  some (decide (0 ≤ y))
noncomputable def g_catalog_Strength.j1 (u : api_Use) (x34_1 : Bool) : Option (Int) :=
  cond (x34_1)
    ((g_catalog_modulus u.Bits).bind fun y_2 =>
    some y_2)
    (some 0)
noncomputable def g_catalog_Strength (u : api_Use) : Option (Int) :=
  (g_catalog_of u.Alg).bind fun y =>
  cond (!y.2)
    (some 0)
    (cond (decide (y.1.way = 0))
      (cond (decide (u.Bits = 0))
        ((getI y.1.strengths 0).bind fun e =>
        some e)
        (some 0))
      (cond (decide (y.1.way = 1))
        (cond (decide (512 ≤ u.Bits))
          (g_catalog_Strength.j1 u (decide (u.Bits ≤ 16384)))
          (g_catalog_Strength.j1 u false))
        (cond (decide (y.1.way = 2))
          ((g_slices_Contains_int ([160, 224, 256, 384, 521] : List Int) u.Bits).bind fun y_3 =>
          cond (y_3)
            ((quoI u.Bits 2).bind fun q =>
            some q)
            (some 0))
          (cond (decide (y.1.way = 3))
            ((g_slices_Index_int y.1.sizes u.Bits).bind fun y_4 =>
            cond (decide (0 ≤ y_4))
              ((getI y.1.strengths y_4).bind fun e_2 =>
              some e_2)
              (some 0))
            (some 0)))))
noncomputable def g_catalog_Valid (u : api_Use) : Option (Bool) :=
  (g_catalog_Strength u).bind fun y =>
  some (decide (0 < y))
noncomputable def g_catalog_Kind (alg : Int) : Option (Int) :=
  (g_catalog_of alg).bind fun y =>
  some y.1.kind
noncomputable def g_certificate_of (u : api_Use) (kind : Int) : Option (Bool) :=
  (g_catalog_Valid u).bind fun y =>
  cond (y)
    ((g_catalog_Kind u.Alg).bind fun y_2 =>
    some (decide (y_2 = kind)))
    (some false)
noncomputable def g_certificate_Key (n : Int) : Option (Bool) :=
  cond (decide (0 ≤ n))
    (some (decide (n ≤ 2147483648)))
    (some false)
noncomputable def g_certificate_sum (n : Int) : Option (Bool) :=
  cond (decide (0 ≤ n))
    (some (decide (n < 4294967296)))
    (some false)
noncomputable def g_certificate_valid.j3 (c : api_Certificate) (x73_3 : Bool) : Option (Bool) :=
  cond (x73_3)
    (some false)
    (cond (decide (0 ≤ c.Path))
      (cond (decide (c.Path ≤ 8))
        (cond (c.Authority)
          (some true)
          (some (decide (c.Path = 0))))
        (some false))
      (some false))
noncomputable def g_certificate_valid.j2 (c : api_Certificate) (x58_2 : Bool) : Option (Bool) :=
  cond (x58_2)
    (some false)
    (cond (decide (c.From < 0))
      (g_certificate_valid.j3 c true)
      (cond (decide (c.To < c.From))
        (g_certificate_valid.j3 c true)
        (g_certificate_valid.j3 c (decide (40000 < c.To)))))
noncomputable def g_certificate_valid.j1 (c : api_Certificate) (x28_1 : Bool) : Option (Bool) :=
  cond (x28_1)
    (some false)
    ((g_certificate_of c.Key 2).bind fun y_4 =>
    cond (!y_4)
      (g_certificate_valid.j2 c true)
      ((g_certificate_Key c.KeyId).bind fun y_5 =>
      cond (!y_5)
        (g_certificate_valid.j2 c true)
        ((g_certificate_of c.Hash 1).bind fun y_6 =>
        cond (!y_6)
          (g_certificate_valid.j2 c true)
          ((g_certificate_Key c.Seal.Key).bind fun y_7 =>
          cond (!y_7)
            (g_certificate_valid.j2 c true)
            ((g_certificate_sum c.Seal.Sum).bind fun y_8 =>
            g_certificate_valid.j2 c (!y_8))))))
noncomputable def g_certificate_valid (c : api_Certificate) : Option (Bool) :=
  cond (decide (c.Serial < 0))
    (g_certificate_valid.j1 c true)
    (cond (decide (1099511627776 < c.Serial))
      (g_certificate_valid.j1 c true)
      ((g_catalog_Named c.Issuer).bind fun y =>
      cond (!y)
        (g_certificate_valid.j1 c true)
        ((g_catalog_Named c.Subject).bind fun y_2 =>
        cond (!y_2)
          (g_certificate_valid.j1 c true)
          ((g_certificate_named c.Names).bind fun y_3 =>
          g_certificate_valid.j1 c (!y_3)))))
noncomputable def g_certificate_Check (c : api_Certificate) : Option (Int) :=
  (g_certificate_valid c).bind fun y =>
  cond (!y)
    (some 9)
    (some 0)
noncomputable def g_chain_Check_c1 (c : api_Certificate) : Option (Bool) :=
  (g_certificate_Check c).bind fun y =>
  some (!decide (y = 0))
noncomputable def g_slices_IndexFunc_api_Certificate.l1 (s : (List api_Certificate)) (f : api_Certificate → Option (Bool)) (x8_1 : Int) : Option (Lp (Int) (Int)) :=
  cond (decide (x8_1 < (s.length : Int)))
    ((getI s x8_1).bind fun e =>
    (f e).bind fun y =>
    cond (y)
      (up (some x8_1))
      (some (.next (W (x8_1 + 1)))))
    (up (
      some (-1)))
noncomputable def g_slices_IndexFunc_api_Certificate (s : (List api_Certificate)) (f : api_Certificate → Option (Bool)) : Option (Int) :=
  loop (fun q' => g_slices_IndexFunc_api_Certificate.l1 s f q') 0
noncomputable def g_slices_ContainsFunc_api_Certificate (s : (List api_Certificate)) (f : api_Certificate → Option (Bool)) : Option (Bool) :=
  (g_slices_IndexFunc_api_Certificate s f).bind fun y =>
  some (decide (0 ≤ y))
noncomputable def g_slices_Index_string.l1 (s : (List ByteArray)) (v : ByteArray) (x8_1 : Int) : Option (Lp (Int) (Int)) :=
  cond (decide (x8_1 < (s.length : Int)))
    ((getI s x8_1).bind fun e =>
    cond (decide (v = e))
      (up (some x8_1))
      (some (.next (W (x8_1 + 1)))))
    (up (
      some (-1)))
noncomputable def g_slices_Index_string (s : (List ByteArray)) (v : ByteArray) : Option (Int) :=
  loop (fun q' => g_slices_Index_string.l1 s v q') 0
noncomputable def g_slices_Contains_string (s : (List ByteArray)) (v : ByteArray) : Option (Bool) :=
  (g_slices_Index_string s v).bind fun y =>
  some (decide (0 ≤ y))
noncomputable def g_chain_held (c : api_Certificate) (hashes : (List Int)) (day : Int) (e : Int) : Option (Bool) :=
  cond (decide (e = 13))
    (cond (decide (day < c.From))
      (some true)
      (some (decide (c.To ≤ day))))
    ((g_slices_Contains_int hashes c.Hash.Alg).bind fun y =>
    some (!y))
noncomputable def g_chain_Check_c2 (c : api_Certificate) (c0 : (List Int)) (c1 : Int) (c2 : Int) : Option (Bool) :=
  (g_chain_held c c0 c1 c2).bind fun y =>
  some y
noncomputable def g_chain_Path.j1 (l : (List api_Certificate)) (at' : Int) (x12_1 : Bool) : Option (Bool) :=
  cond (x12_1)
    (some false)
    (cond (decide (at' = 0))
      (some true)
      ((getI l at').bind fun e =>
      cond (e.Authority)
        (some (decide ((W (at' - 1)) ≤ e.Path)))
        (some false)))
noncomputable def g_chain_Path (l : (List api_Certificate)) (at' : Int) : Option (Bool) :=
  cond (decide (at' < 0))
    (g_chain_Path.j1 l at' true)
    (g_chain_Path.j1 l at' (decide ((l.length : Int) ≤ at')))
noncomputable def g_chain_sealer (l : (List api_Certificate)) (at' : Int) : Option (Int) :=
  cond (decide ((W (at' + 1)) < (l.length : Int)))
    ((getI l (W (at' + 1))).bind fun e =>
    some e.KeyId)
    ((getI l at').bind fun e_2 =>
    some e_2.Seal.Key)
noncomputable def g_der_Text (s : ByteArray) : Option (api_Value) :=
  some (api_Value.mk 12 (toB s) false ([] : (List api_Value)))
noncomputable def g_der_Int.j3 (b_2 : List UInt8) (x43_3 : Bool) : Option (Lp (List UInt8) (api_Value)) :=
  cond (x43_3)
    ((slI b_2 1 (b_2.length : Int)).bind fun l_2 =>
    some (.next l_2))
    (up (
      some (api_Value.mk 2 b_2 false ([] : (List api_Value)))))
noncomputable def g_der_Int.l2 (b_2 : List UInt8) : Option (Lp (List UInt8) (api_Value)) :=
  cond (decide (1 < (b_2.length : Int)))
    ((getI b_2 0).bind fun e =>
    cond (decide ((e.toNat : Int) = 0))
      ((getI b_2 1).bind fun e_2 =>
      cond (decide ((e_2.toNat : Int) < 128))
        (g_der_Int.j3 b_2 true)
        (cond (decide ((e.toNat : Int) = 255))
          (g_der_Int.j3 b_2 (decide (128 ≤ (e_2.toNat : Int))))
          (g_der_Int.j3 b_2 false)))
      (cond (decide ((e.toNat : Int) = 255))
        ((getI b_2 1).bind fun e_3 =>
        g_der_Int.j3 b_2 (decide (128 ≤ (e_3.toNat : Int))))
        (g_der_Int.j3 b_2 false)))
    (g_der_Int.j3 b_2 false)
noncomputable def g_der_Int.l1 (n : Int) (i_1 : Int) (b_1 : List UInt8) : Option (Lp (Int × List UInt8) (api_Value)) :=
  cond (decide (0 ≤ i_1))
    ((shrK .u64 (IntKind.wrap .u64 n) i_1).bind fun q =>
    (appI 1 b_1 ([(u8 q)] : List UInt8)).bind fun l =>
    some (.next (W (i_1 - 8), l)))
    (up (
      loop (fun q' => g_der_Int.l2 q') b_1))
noncomputable def g_der_Int (n : Int) : Option (api_Value) :=
  loop (fun q' => g_der_Int.l1 n q'.1 q'.2) (56, ([] : List UInt8))
noncomputable def g_bytes_Clone.j1 (b : (List UInt8)) (x4_1 : Bool) : Option ((List UInt8)) :=
  cond (x4_1)
    (some ([] : (List UInt8)))
    ((appI 1 ([] : List UInt8) b).bind fun l =>
    some l)
noncomputable def g_bytes_Clone (b : (List UInt8)) : Option ((List UInt8)) :=
  nilC (b)
    (g_bytes_Clone.j1 b true)
    (g_bytes_Clone.j1 b false)
noncomputable def g_der_copied.l1 (rec : (List api_Value) → Option ((List api_Value))) (l : (List api_Value)) (x8_1 : Int) (out_1 : List api_Value) : Option (Lp (Int × List api_Value) ((List api_Value))) :=
  cond (decide (x8_1 < (l.length : Int)))
    ((getI l x8_1).bind fun e =>
    (g_bytes_Clone e.Bytes).bind fun y =>
    (rec e.Elements).bind fun y_2 =>
    (appI 256 out_1 ([(api_Value.mk e.Tag y e.Nested y_2)] : List api_Value)).bind fun l_2 =>
    some (.next (W (x8_1 + 1), l_2)))
    (up (
      some out_1))
noncomputable def g_der_copied.F (rec : (List api_Value) → Option ((List api_Value))) (l : (List api_Value)) : Option ((List api_Value)) :=
  loop (fun q' => g_der_copied.l1 rec l q'.1 q'.2) (0, ([] : List api_Value))
noncomputable def g_der_copied (l : (List api_Value)) : Option ((List api_Value)) := fixT (fun rec (x : (List api_Value)) => g_der_copied.F (fun l => rec l) x) l
noncomputable def g_der_Of (l : (List api_Value)) : Option (api_Value) :=
  (g_der_copied l).bind fun y =>
  some (api_Value.mk 48 ([] : (List UInt8)) true y)
noncomputable def g_certificate_Use (u : api_Use) : Option (api_Value) :=
  (g_der_Int u.Alg).bind fun y =>
  (g_der_Int u.Bits).bind fun y_2 =>
  (g_der_Of ([y, y_2] : List api_Value)).bind fun y_3 =>
  some y_3
noncomputable def g_der_Bool (b : Bool) : Option (api_Value) :=
  cond (b)
    (some (api_Value.mk 1 ([(255 : UInt8)] : List UInt8) false ([] : (List api_Value))))
    (some (api_Value.mk 1 ([(0 : UInt8)] : List UInt8) false ([] : (List api_Value))))
noncomputable def g_der_List (l : (List api_Value)) : Option (api_Value) :=
  (g_der_Of l).bind fun y =>
  some y
noncomputable def g_certificate_body.l1 (c : api_Certificate) (x9_1 : Int) (names_1 : List api_Value) : Option (Lp (Int × List api_Value) (api_Value)) :=
  cond (decide (x9_1 < (c.Names.length : Int)))
    ((getI c.Names x9_1).bind fun e =>
    (g_der_Text e).bind fun y =>
    (appI 256 names_1 ([y] : List api_Value)).bind fun l =>
    some (.next (W (x9_1 + 1), l)))
    (up (
      (g_der_Int c.Serial).bind fun y_12 =>
      (g_der_Text c.Issuer).bind fun y_13 =>
      (g_der_Text c.Subject).bind fun y_14 =>
      (g_certificate_Use c.Key).bind fun y_15 =>
      (g_der_Int c.KeyId).bind fun y_16 =>
      (g_certificate_Use c.Hash).bind fun y_17 =>
      (g_der_Int c.From).bind fun y_18 =>
      (g_der_Int c.To).bind fun y_19 =>
      (g_der_Bool c.Authority).bind fun y_20 =>
      (g_der_Int c.Path).bind fun y_21 =>
      (g_der_List names_1).bind fun y_22 =>
      (g_der_Of ([y_12, y_13, y_14, y_15, y_16, y_17, y_18, y_19, y_20, y_21, y_22] : List api_Value)).bind fun y_23 =>
      some y_23))
noncomputable def g_certificate_body (c : api_Certificate) : Option (api_Value) :=
  loop (fun q' => g_certificate_body.l1 c q'.1 q'.2) (0, ([] : List api_Value))
noncomputable def g_der_tag (n : Int) : Option (Bool) :=
  cond (decide (1 ≤ n))
    (cond (decide (n ≤ 255))
      (some (!decide ((andK .i64 n 31) = 31)))
      (some false))
    (some false)
noncomputable def g_der_formed_c1 (rec : api_Value → Option (Bool)) (x' : api_Value) : Option (Bool) :=
  (rec x').bind fun y =>
  some (!y)
noncomputable def g_slices_IndexFunc_api_Value.l1 (s : (List api_Value)) (f : api_Value → Option (Bool)) (x8_1 : Int) : Option (Lp (Int) (Int)) :=
  cond (decide (x8_1 < (s.length : Int)))
    ((getI s x8_1).bind fun e =>
    (f e).bind fun y =>
    cond (y)
      (up (some x8_1))
      (some (.next (W (x8_1 + 1)))))
    (up (
      some (-1)))
noncomputable def g_slices_IndexFunc_api_Value (rec : api_Value → Option (Bool)) (s : (List api_Value)) (f : api_Value → Option (Bool)) : Option (Int) :=
  loop (fun q' => g_slices_IndexFunc_api_Value.l1 s f q') 0
noncomputable def g_slices_ContainsFunc_api_Value (rec : api_Value → Option (Bool)) (s : (List api_Value)) (f : api_Value → Option (Bool)) : Option (Bool) :=
  (g_slices_IndexFunc_api_Value rec s f).bind fun y =>
  some (decide (0 ≤ y))
noncomputable def g_der_formed.j1 (rec : api_Value → Option (Bool)) (v : api_Value) (x36_1 : Bool) : Option (Bool) :=
  cond (x36_1)
    (some false)
    ((g_slices_ContainsFunc_api_Value rec v.Elements (fun x0 => g_der_formed_c1 rec x0)).bind fun y_2 =>
    some (!y_2))
noncomputable def g_der_formed.F (rec : api_Value → Option (Bool)) (v : api_Value) : Option (Bool) :=
  (g_der_tag v.Tag).bind fun y =>
  cond (!y)
    (g_der_formed.j1 rec v true)
    (cond (!decide (v.Nested = (!decide ((andK .i64 v.Tag 32) = 0))))
      (g_der_formed.j1 rec v true)
      (cond (v.Nested)
        (cond (decide (0 < (v.Bytes.length : Int)))
          (g_der_formed.j1 rec v true)
          (g_der_formed.j1 rec v false))
        (g_der_formed.j1 rec v (decide (0 < (v.Elements.length : Int))))))
noncomputable def g_der_formed (v : api_Value) : Option (Bool) := fixT (fun rec (x : api_Value) => g_der_formed.F (fun v => rec v) x) v
noncomputable def g_der_depth.l1 (rec : api_Value → Option (Int)) (v : api_Value) (most_1 : Int) (x9_1 : Int) : Option (Lp (Int × Int) (Int)) :=
  cond (decide (x9_1 < (v.Elements.length : Int)))
    ((getI v.Elements x9_1).bind fun e =>
    (rec e).bind fun y =>
    some (.next (max most_1 y, W (x9_1 + 1))))
    (up (
      some (W (most_1 + 1))))
noncomputable def g_der_depth.F (rec : api_Value → Option (Int)) (v : api_Value) : Option (Int) :=
  loop (fun q' => g_der_depth.l1 rec v q'.1 q'.2) (0, 0)
noncomputable def g_der_depth (v : api_Value) : Option (Int) := fixT (fun rec (x : api_Value) => g_der_depth.F (fun v => rec v) x) v
noncomputable def g_der_length.l2 (n : Int) (i_2 : Int) (b_2 : List UInt8) : Option (Lp (Int × List UInt8) ((List UInt8))) :=
  cond (decide (0 ≤ i_2))
    ((shrK .i64 n (W (8 * i_2))).bind fun q_2 =>
    (appI 1 b_2 ([(u8 q_2)] : List UInt8)).bind fun l_3 =>
    some (.next (W (i_2 - 1), l_3)))
    (up (
      some b_2))
noncomputable def g_der_length.l1 (b : List UInt8) (n : Int) (count_1 : Int) (m_1 : Int) : Option (Lp (Int × Int) ((List UInt8))) :=
  cond (decide (0 < m_1))
    ((shrK .i64 m_1 8).bind fun q =>
    some (.next (W (count_1 + 1), q)))
    (up (
      (appI 1 b ([(u8 (W (128 + count_1)))] : List UInt8)).bind fun l_2 =>
      loop (fun q' => g_der_length.l2 n q'.1 q'.2) (W (count_1 - 1), l_2)))
noncomputable def g_der_length (b : List UInt8) (n : Int) : Option ((List UInt8)) :=
  cond (decide (n < 128))
    ((appI 1 b ([(u8 n)] : List UInt8)).bind fun l =>
    some l)
    (loop (fun q' => g_der_length.l1 b n q'.1 q'.2) (0, n))
noncomputable def g_der_element (rec : api_Value → Option ((List UInt8))) (b : List UInt8) (v : api_Value) : Option ((List UInt8)) :=
  (rec v).bind fun y =>
  (appI 1 b ([(u8 v.Tag)] : List UInt8)).bind fun l =>
  (g_der_length l (y.length : Int)).bind fun y_2 =>
  (appI 1 y_2 y).bind fun l_2 =>
  some l_2
noncomputable def g_der_contents.l1 (rec : api_Value → Option ((List UInt8))) (v : api_Value) (x14_1 : Int) (out_1 : List UInt8) : Option (Lp (Int × List UInt8) ((List UInt8))) :=
  cond (decide (x14_1 < (v.Elements.length : Int)))
    ((getI v.Elements x14_1).bind fun e =>
    (g_der_element rec out_1 e).bind fun y =>
    some (.next (W (x14_1 + 1), y)))
    (up (
      some out_1))
noncomputable def g_der_contents.F (rec : api_Value → Option ((List UInt8))) (v : api_Value) : Option ((List UInt8)) :=
  cond (!v.Nested)
    (some v.Bytes)
    (loop (fun q' => g_der_contents.l1 rec v q'.1 q'.2) (0, ([] : List UInt8)))
noncomputable def g_der_contents (v : api_Value) : Option ((List UInt8)) := fixT (fun rec (x : api_Value) => g_der_contents.F (fun v => rec v) x) v
noncomputable def g_der_element_nil (v : api_Value) : Option ((List UInt8)) :=
  (g_der_contents v).bind fun y =>
  (appI 1 ([] : List UInt8) ([(u8 v.Tag)] : List UInt8)).bind fun l =>
  (g_der_length l (y.length : Int)).bind fun y_2 =>
  (appI 1 y_2 y).bind fun l_2 =>
  some l_2
noncomputable def g_der_Encode (v : api_Value) : Option ((List UInt8) × Int) :=
  (g_der_formed v).bind fun y =>
  cond (!y)
    (some (([] : (List UInt8)), 1))
    ((g_der_depth v).bind fun y_2 =>
    cond (decide (16 < y_2))
      (some (([] : (List UInt8)), 3))
      ((g_der_element_nil v).bind fun y_3 =>
      cond (decide (4096 < (y_3.length : Int)))
        (some (([] : (List UInt8)), 3))
        (some (y_3, 0))))
noncomputable def g_certificate_Bytes (c : api_Certificate) : Option ((List UInt8) × Int) :=
  (g_certificate_valid c).bind fun y =>
  cond (!y)
    (some (([] : (List UInt8)), 9))
    ((g_certificate_body c).bind fun y_2 =>
    (g_der_Encode y_2).bind fun y_3 =>
    some (y_3.1, y_3.2))
noncomputable def g_certificate_Sum.l1 (b : (List UInt8)) (s_1 : Int) (x8_1 : Int) : Option (Lp (Int × Int) (Int)) :=
  cond (decide (x8_1 < (b.length : Int)))
    ((getI b x8_1).bind fun e =>
    some (.next (IntKind.wrap .u32 ((xorK .u32 s_1 (IntKind.wrap .u32 (e.toNat : Int))) * 16777619), W (x8_1 + 1))))
    (up (
      some (W s_1)))
noncomputable def g_certificate_Sum (b : (List UInt8)) : Option (Int) :=
  loop (fun q' => g_certificate_Sum.l1 b q'.1 q'.2) (2166136261, 0)
noncomputable def g_certificate_Sealed (c : api_Certificate) (key : Int) : Option (Bool) :=
  (g_certificate_Bytes c).bind fun y =>
  cond (decide (y.2 = 0))
    ((g_certificate_Sum y.1).bind fun y_2 =>
    some (decide (c.Seal = (api_Seal.mk key y_2))))
    (some false)
noncomputable def g_chain_fails.j2 (x9_1 : Int) (wrong_2 : Bool) : Option (Lp (Int) (Bool)) :=
  cond (wrong_2)
    (up (some true))
    (some (.next (W (x9_1 + 1))))
noncomputable def g_chain_fails.l1 (l : (List api_Certificate)) (e : Int) (x9_1 : Int) : Option (Lp (Int) (Bool)) :=
  cond (decide (x9_1 < (l.length : Int)))
    (cond (decide (e = 11))
      (cond (decide ((W (x9_1 + 1)) < (l.length : Int)))
        ((getI l x9_1).bind fun e_2 =>
        (getI l (W (x9_1 + 1))).bind fun e_3 =>
        g_chain_fails.j2 x9_1 (!decide (e_2.Issuer = e_3.Subject)))
        (g_chain_fails.j2 x9_1 false))
      (cond (decide (e = 15))
        ((g_chain_Path l x9_1).bind fun y =>
        g_chain_fails.j2 x9_1 (!y))
        ((getI l x9_1).bind fun e_4 =>
        (g_chain_sealer l x9_1).bind fun y_2 =>
        (g_certificate_Sealed e_4 y_2).bind fun y_3 =>
        g_chain_fails.j2 x9_1 (!y_3))))
    (up (
      some false))
noncomputable def g_chain_fails (l : (List api_Certificate)) (e : Int) : Option (Bool) :=
  loop (fun q' => g_chain_fails.l1 l e q') 0
noncomputable def g_chain_Check.l3 (l : (List api_Certificate)) (anchors : (List Int)) (x44_3 : Int) : Option (Lp (Int) (Int)) :=
  cond (decide (x44_3 < 3))
    ((getI ([11, 15, 10] : List Int) x44_3).bind fun e_3 =>
    (g_chain_fails l e_3).bind fun y_4 =>
    cond (y_4)
      (up (some e_3))
      (some (.next (W (x44_3 + 1)))))
    (up (
      (getI l (W ((l.length : Int) - 1))).bind fun e_4 =>
      (g_slices_Contains_int anchors e_4.Seal.Key).bind fun y_5 =>
      cond (!y_5)
        (some 12)
        (some 0)))
noncomputable def g_chain_Check.l1 (l : (List api_Certificate)) (anchors : (List Int)) (hashes : (List Int)) (day : Int) (x35_1 : Int) : Option (Lp (Int) (Int)) :=
  cond (decide (x35_1 < 2))
    ((getI ([13, 7] : List Int) x35_1).bind fun e_2 =>
    (g_slices_ContainsFunc_api_Certificate l (fun x0 => g_chain_Check_c2 x0 hashes day e_2)).bind fun y_3 =>
    cond (y_3)
      (up (some e_2))
      (some (.next (W (x35_1 + 1)))))
    (up (
      loop (fun q' => g_chain_Check.l3 l anchors q') 0))
noncomputable def g_chain_Check (l : (List api_Certificate)) (anchors : (List Int)) (hashes : (List Int)) (day : Int) (name : ByteArray) : Option (Int) :=
  cond (decide ((l.length : Int) = 0))
    (some 4)
    (cond (decide (8 < (l.length : Int)))
      (some 3)
      ((g_slices_ContainsFunc_api_Certificate l (fun x0 => g_chain_Check_c1 x0)).bind fun y =>
      cond (y)
        (some 9)
        ((getI l 0).bind fun e =>
        (g_slices_Contains_string e.Names name).bind fun y_2 =>
        cond (!y_2)
          (some 14)
          (loop (fun q' => g_chain_Check.l1 l anchors hashes day q') 0))))
noncomputable def g_chain_Until.l1 (l : (List api_Certificate)) (least_1 : Int) (x15_1 : Int) : Option (Lp (Int × Int) (Int)) :=
  cond (decide (x15_1 < (l.length : Int)))
    ((getI l x15_1).bind fun e_2 =>
    some (.next (min least_1 e_2.To, W (x15_1 + 1))))
    (up (
      some least_1))
noncomputable def g_chain_Until (l : (List api_Certificate)) : Option (Int) :=
  cond (decide ((l.length : Int) = 0))
    (some 0)
    ((getI l 0).bind fun e =>
    loop (fun q' => g_chain_Until.l1 l q'.1 q'.2) (e.To, 0))
noncomputable def g_law04_awake : Option (Bool) :=
  (g_ref03_Sign (api_Certificate.mk 0 (⟨#[99, 97]⟩ : ByteArray) (⟨#[119, 101, 98]⟩ : ByteArray) (api_Use.mk 5 2048) 7 (api_Use.mk 3 0) 0 9 false 0 ([(⟨#[119, 101, 98]⟩ : ByteArray)] : List ByteArray) (api_Seal.mk 0 0)) 3).bind fun y =>
  (g_chain_Check ([y.1] : List api_Certificate) ([3] : List Int) ([3] : List Int) 5 (⟨#[119, 101, 98]⟩ : ByteArray)).bind fun y_2 =>
  cond (decide (y_2 = 0))
    ((g_chain_Check ([y.1] : List api_Certificate) ([4] : List Int) ([3] : List Int) 5 (⟨#[119, 101, 98]⟩ : ByteArray)).bind fun y_3 =>
    cond (decide (y_3 = 12))
      ((g_chain_Until ([y.1] : List api_Certificate)).bind fun y_4 =>
      cond (decide (y_4 = 9))
        ((g_chain_Path ([y.1] : List api_Certificate) 0).bind fun y_5 =>
        some y_5)
        (some false))
      (some false))
    (some false)
noncomputable def g_make_Roll (l : (List Int)) : Option (cipherplanmake_Dice) :=
  some (cipherplanmake_Dice.mk l 0)
noncomputable def g_make_Mod (n : Int) (k : Int) : Option (Int) :=
  cond (decide (k < 1))
    (some 0)
    ((remI n k).bind fun q =>
    (remI (W (q + k)) k).bind fun q_2 =>
    some q_2)
noncomputable def g_make_Dice_Next (d : cipherplanmake_Dice) (n : Int) : Option (Int × cipherplanmake_Dice) :=
  cond (decide ((d.L.length : Int) ≤ d.At))
    (some (0, d))
    ((getI d.L (W ((W (d.At + 1)) - 1))).bind fun e =>
    (g_make_Mod e n).bind fun y =>
    some (y, (cipherplanmake_Dice.mk d.L (W (d.At + 1)))))
noncomputable def g_make_Dice_Of (d : cipherplanmake_Dice) (l : (List Int)) : Option (Int × cipherplanmake_Dice) :=
  (g_make_Dice_Next d (l.length : Int)).bind fun y =>
  (getI l y.1).bind fun e =>
  some (e, y.2)
noncomputable def g_make_size.j3 (d : cipherplanmake_Dice) (x40_3 : Bool) : Option (Int × cipherplanmake_Dice) :=
  cond (x40_3)
    ((g_make_Dice_Of d ([128, 256] : List Int)).bind fun y_7 =>
    some (y_7.1, y_7.2))
    (some (0, d))
noncomputable def g_make_size.j2 (d : cipherplanmake_Dice) (a : Int) (x14_2 : Bool) : Option (Int × cipherplanmake_Dice) :=
  cond (x14_2)
    ((g_make_Dice_Of d ([256, 160, 224, 384, 521] : List Int)).bind fun y_2 =>
    some (y_2.1, y_2.2))
    (cond (decide (a = 9))
      ((g_make_Dice_Of d ([65, 44, 87] : List Int)).bind fun y_3 =>
      some (y_3.1, y_3.2))
      (cond (decide (a = 13))
        ((g_make_Dice_Of d ([768, 512, 1024] : List Int)).bind fun y_4 =>
        some (y_4.1, y_4.2))
        (cond (decide (a = 14))
          ((g_make_Dice_Of d ([128, 40] : List Int)).bind fun y_5 =>
          some (y_5.1, y_5.2))
          (cond (decide (a = 15))
            ((g_make_Dice_Of d ([168, 112] : List Int)).bind fun y_6 =>
            some (y_6.1, y_6.2))
            (cond (decide (a = 16))
              (g_make_size.j3 d (decide (a = 16)))
              (g_make_size.j3 d (decide (a = 17))))))))
noncomputable def g_make_size.j1 (d : cipherplanmake_Dice) (a : Int) (x6_1 : Bool) : Option (Int × cipherplanmake_Dice) :=
  cond (x6_1)
    ((g_make_Dice_Of d ([2048, 1024, 512, 3072, 1023, 4096, 16384] : List Int)).bind fun y =>
    some (y.1, y.2))
    (cond (decide (a = 7))
      (g_make_size.j2 d a (decide (a = 7)))
      (g_make_size.j2 d a (decide (a = 12))))
noncomputable def g_make_size (d : cipherplanmake_Dice) (a : Int) : Option (Int × cipherplanmake_Dice) :=
  cond (decide (a = 5))
    (g_make_size.j1 d a (decide (a = 5)))
    (cond (decide (a = 6))
      (g_make_size.j1 d a (decide (a = 6)))
      (cond (decide (a = 10))
        (g_make_size.j1 d a (decide (a = 10)))
        (g_make_size.j1 d a (decide (a = 11)))))
noncomputable def g_make_Key (d : cipherplanmake_Dice) : Option (api_Use × cipherplanmake_Dice) :=
  (g_make_Dice_Of d ([5, 7, 5, 6, 8, 9] : List Int)).bind fun y =>
  (g_make_size y.2 y.1).bind fun y_2 =>
  some ((api_Use.mk y.1 y_2.1), y_2.2)
noncomputable def g_make_Dice_One (d : cipherplanmake_Dice) (n : Int) : Option (Bool × cipherplanmake_Dice) :=
  (g_make_Dice_Next d n).bind fun y =>
  some (decide (y.1 = (W (n - 1))), y.2)
noncomputable def g_make_Certificate.j2 (issuer : ByteArray) (subject : ByteArray) (key : api_Use) (id : Int) (signer : Int) (authority : Bool) (y : Int × cipherplanmake_Dice) (y_2 : Int × cipherplanmake_Dice) (y_3 : Int × cipherplanmake_Dice) (y_4 : Int × cipherplanmake_Dice) (c_1 : Int) (b_2 : cipherplanmake_Dice) (l_2 : List ByteArray) : Option (api_Certificate × cipherplanmake_Dice) :=
  (g_ref03_Sign (api_Certificate.mk y.1 issuer subject key id (api_Use.mk y_2.1 0) y_3.1 y_4.1 authority c_1 l_2 (api_Seal.mk 0 0)) signer).bind fun y_7 =>
  some (y_7.1, b_2)
noncomputable def g_make_Certificate.j1 (issuer : ByteArray) (subject : ByteArray) (key : api_Use) (id : Int) (signer : Int) (authority : Bool) (y : Int × cipherplanmake_Dice) (y_2 : Int × cipherplanmake_Dice) (y_3 : Int × cipherplanmake_Dice) (y_4 : Int × cipherplanmake_Dice) (d_1 : cipherplanmake_Dice) (c_1 : Int) : Option (api_Certificate × cipherplanmake_Dice) :=
  (g_make_Dice_One d_1 3).bind fun y_6 =>
  cond (y_6.1)
    ((catI subject (⟨#[120]⟩ : ByteArray)).bind fun s =>
    (appI 16 ([subject] : List ByteArray) ([s] : List ByteArray)).bind fun l =>
    g_make_Certificate.j2 issuer subject key id signer authority y y_2 y_3 y_4 c_1 y_6.2 l)
    (g_make_Certificate.j2 issuer subject key id signer authority y y_2 y_3 y_4 c_1 y_6.2 ([subject] : List ByteArray))
noncomputable def g_make_Certificate (d : cipherplanmake_Dice) (issuer : ByteArray) (subject : ByteArray) (key : api_Use) (id : Int) (signer : Int) (authority : Bool) : Option (api_Certificate × cipherplanmake_Dice) :=
  (g_make_Dice_Next d 1000).bind fun y =>
  (g_make_Dice_Of y.2 ([3, 2, 4, 1] : List Int)).bind fun y_2 =>
  (g_make_Dice_Of y_2.2 ([0, 5, 10] : List Int)).bind fun y_3 =>
  (g_make_Dice_Of y_3.2 ([1000, 100, 50, 20] : List Int)).bind fun y_4 =>
  cond (authority)
    ((g_make_Dice_Of y_4.2 ([3, 0, 1] : List Int)).bind fun y_5 =>
    g_make_Certificate.j1 issuer subject key id signer authority y y_2 y_3 y_4 y_5.2 y_5.1)
    (g_make_Certificate.j1 issuer subject key id signer authority y y_2 y_3 y_4 y_4.2 0)
noncomputable def g_make_Chain.l1 (name : ByteArray) (key : api_Use) (id : Int) (y : Int × cipherplanmake_Dice) (signer_1 : Int) (issuer_1 : ByteArray) (i_1 : Int) (d_1 : cipherplanmake_Dice) (above_1 : List api_Certificate) : Option (Lp (Int × ByteArray × Int × cipherplanmake_Dice × List api_Certificate) ((List api_Certificate) × cipherplanmake_Dice)) :=
  cond (decide (i_1 < y.1))
    ((getI ([(⟨#[99, 97]⟩ : ByteArray), (⟨#[99, 98]⟩ : ByteArray), (⟨#[99, 99]⟩ : ByteArray)] : List ByteArray) i_1).bind fun e =>
    (g_make_Certificate d_1 issuer_1 e (api_Use.mk 5 2048) (W (11 + i_1)) signer_1 true).bind fun y_3 =>
    (appI 2280 ([y_3.1] : List api_Certificate) above_1).bind fun l =>
    some (.next (W (11 + i_1), e, W (i_1 + 1), y_3.2, l)))
    (up (
      (g_make_Certificate d_1 issuer_1 name key id signer_1 false).bind fun y_4 =>
      (appI 2280 ([y_4.1] : List api_Certificate) above_1).bind fun l_2 =>
      some (l_2, y_4.2)))
noncomputable def g_make_Chain (d : cipherplanmake_Dice) (name : ByteArray) (key : api_Use) (id : Int) : Option ((List api_Certificate) × cipherplanmake_Dice) :=
  (g_make_Dice_Of d ([1, 0, 2] : List Int)).bind fun y =>
  (g_make_Dice_Next y.2 2).bind fun y_2 =>
  loop (fun q' => g_make_Chain.l1 name key id y q'.1 q'.2.1 q'.2.2.1 q'.2.2.2.1 q'.2.2.2.2) (W (1 + y_2.1), (⟨#[114, 111, 111, 116]⟩ : ByteArray), 0, y_2.2, ([] : List api_Certificate))
noncomputable def g_law04_hashes : Option ((List Int)) :=
  some ([1, 2, 3, 4] : List Int)
noncomputable def g_chain_search_find.j4 (x36_1 : Int) (used_4 : List Bool) : Option (Lp (Int × List Bool) ((List api_Certificate) × Bool × (List Bool))) :=
  some (.next (W (x36_1 + 1), used_4))
noncomputable def g_chain_search_find.l2 (rec : chain_search → (List api_Certificate) → (List Bool) → Int → Option ((List api_Certificate) × Bool × (List Bool))) (s : chain_search) (l : (List api_Certificate)) (length : Int) (x36_1 : Int) (used_1 : List Bool) (e : api_Certificate) (l_2 : List api_Certificate) (x55_2 : Int) : Option (Lp (Int) (Lp (Int × List Bool) ((List api_Certificate) × Bool × (List Bool)))) :=
  cond (decide (x55_2 < 2))
    ((getI ([11, 15] : List Int) x55_2).bind fun e_3 =>
    (g_chain_fails l_2 e_3).bind fun y_2 =>
    cond (y_2)
      (up (
        g_chain_search_find.j4 x36_1 used_1))
      (some (.next (W (x55_2 + 1)))))
    (up (
      (getI l (W ((l.length : Int) - 1))).bind fun e_4 =>
      (g_certificate_Sealed e_4 e.KeyId).bind fun y_3 =>
      cond (!y_3)
        (g_chain_search_find.j4 x36_1 used_1)
        ((rec s l_2 (setI used_1 ((x36_1).toNat) true) length).bind fun y_4 =>
        (getI y_4.2.2 x36_1).bind fun e_5 =>
        cond (y_4.2.1)
          (up (some (y_4.1, true, setI y_4.2.2 ((x36_1).toNat) false)))
          (g_chain_search_find.j4 x36_1 (setI y_4.2.2 ((x36_1).toNat) false)))))
noncomputable def g_chain_search_find.l1 (rec : chain_search → (List api_Certificate) → (List Bool) → Int → Option ((List api_Certificate) × Bool × (List Bool))) (s : chain_search) (l : (List api_Certificate)) (length : Int) (x36_1 : Int) (used_1 : List Bool) : Option (Lp (Int × List Bool) ((List api_Certificate) × Bool × (List Bool))) :=
  cond (decide (x36_1 < (s.pool.length : Int)))
    ((getI s.pool x36_1).bind fun e =>
    (getI used_1 x36_1).bind fun e_2 =>
    cond (e_2)
      (g_chain_search_find.j4 x36_1 used_1)
      ((appI 2280 l ([e] : List api_Certificate)).bind fun l_2 =>
      loop (fun q' => g_chain_search_find.l2 rec s l length x36_1 used_1 e l_2 q') 0))
    (up (
      some (([] : (List api_Certificate)), false, used_1)))
noncomputable def g_chain_search_find.F (rec : chain_search → (List api_Certificate) → (List Bool) → Int → Option ((List api_Certificate) × Bool × (List Bool))) (s : chain_search) (l : (List api_Certificate)) (used : List Bool) (length : Int) : Option ((List api_Certificate) × Bool × (List Bool)) :=
  cond (decide ((l.length : Int) = length))
    ((g_chain_Check l s.anchors s.hashes s.day s.name).bind fun y =>
    some (l, decide (y = 0), used))
    (loop (fun q' => g_chain_search_find.l1 rec s l length q'.1 q'.2) (0, used))
noncomputable def g_chain_search_find (s : chain_search) (l : (List api_Certificate)) (used : List Bool) (length : Int) : Option ((List api_Certificate) × Bool × (List Bool)) := fixT (fun rec (x : chain_search × (List api_Certificate) × List Bool × Int) => g_chain_search_find.F (fun s l used length => rec (s, l, used, length)) x.1 x.2.1 x.2.2.1 x.2.2.2) (s, l, used, length)
noncomputable def g_slices_Clone_string.j1 (s : (List ByteArray)) (x4_1 : Bool) : Option ((List ByteArray)) :=
  cond (x4_1)
    (some ([] : (List ByteArray)))
    ((appI 16 ([] : List ByteArray) s).bind fun l =>
    some l)
noncomputable def g_slices_Clone_string (s : (List ByteArray)) : Option ((List ByteArray)) :=
  nilC (s)
    (g_slices_Clone_string.j1 s true)
    (g_slices_Clone_string.j1 s false)
noncomputable def g_certificate_Copy.l1 (l : (List api_Certificate)) (x8_1 : Int) (out_1 : List api_Certificate) : Option (Lp (Int × List api_Certificate) ((List api_Certificate))) :=
  cond (decide (x8_1 < (l.length : Int)))
    ((getI l x8_1).bind fun e =>
    (g_slices_Clone_string e.Names).bind fun y =>
    (appI 2280 out_1 ([(api_Certificate.mk e.Serial e.Issuer e.Subject e.Key e.KeyId e.Hash e.From e.To e.Authority e.Path y e.Seal)] : List api_Certificate)).bind fun l_2 =>
    some (.next (W (x8_1 + 1), l_2)))
    (up (
      some out_1))
noncomputable def g_certificate_Copy (l : (List api_Certificate)) : Option ((List api_Certificate)) :=
  loop (fun q' => g_certificate_Copy.l1 l q'.1 q'.2) (0, ([] : List api_Certificate))
noncomputable def g_chain_Build.l1 (leaf : api_Certificate) (pool : (List api_Certificate)) (anchors : (List Int)) (hashes : (List Int)) (day : Int) (name : ByteArray) (length_1 : Int) : Option (Lp (Int) ((List api_Certificate) × Int)) :=
  cond (decide (length_1 ≤ (min (W ((pool.length : Int) + 1)) 8)))
    ((makI 1 (pool.length : Int) (false : Bool)).bind fun m =>
    (g_chain_search_find (chain_search.mk pool anchors hashes day name) ([leaf] : List api_Certificate) m length_1).bind fun y =>
    cond (y.2.1)
      ((g_certificate_Copy y.1).bind fun y_2 =>
      up (some (y_2, 0)))
      (some (.next (W (length_1 + 1)))))
    (up (
      some (([] : (List api_Certificate)), 4)))
noncomputable def g_chain_Build (leaf : api_Certificate) (pool : (List api_Certificate)) (anchors : (List Int)) (hashes : (List Int)) (day : Int) (name : ByteArray) : Option ((List api_Certificate) × Int) :=
  cond (decide (8 < (pool.length : Int)))
    (some (([] : (List api_Certificate)), 3))
    (loop (fun q' => g_chain_Build.l1 leaf pool anchors hashes day name q') 1)
noncomputable def g_ref02_SameTexts.l1 (a : (List ByteArray)) (b : (List ByteArray)) (i_1 : Int) : Option (Lp (Int) (Bool)) :=
  cond (decide (i_1 < (a.length : Int)))
    ((getI a i_1).bind fun e =>
    (getI b i_1).bind fun e_2 =>
    cond (!decide (e = e_2))
      (up (some false))
      (some (.next (W (i_1 + 1)))))
    (up (
      some true))
noncomputable def g_ref02_SameTexts (a : (List ByteArray)) (b : (List ByteArray)) : Option (Bool) :=
  cond (!decide ((a.length : Int) = (b.length : Int)))
    (some false)
    (loop (fun q' => g_ref02_SameTexts.l1 a b q') 0)
noncomputable def g_ref03_Same (a : api_Certificate) (b : api_Certificate) : Option (Bool) :=
  cond (decide (a.Serial = b.Serial))
    (cond (decide (a.Issuer = b.Issuer))
      (cond (decide (a.Subject = b.Subject))
        (cond (decide (a.Key = b.Key))
          (cond (decide (a.KeyId = b.KeyId))
            (cond (decide (a.Hash = b.Hash))
              (cond (decide (a.From = b.From))
                (cond (decide (a.To = b.To))
                  (cond (decide (a.Authority = b.Authority))
                    (cond (decide (a.Path = b.Path))
                      ((g_ref02_SameTexts a.Names b.Names).bind fun y =>
                      cond (y)
                        (some (decide (a.Seal = b.Seal)))
                        (some false))
                      (some false))
                    (some false))
                  (some false))
                (some false))
              (some false))
            (some false))
          (some false))
        (some false))
      (some false))
    (some false)
noncomputable def g_law04_ChainFound.j5 (k_4 : Int) (found_5 : Bool) : Option (Lp (Bool × Int) (Lp (Int) (Bool))) :=
  some (.next (found_5, W (k_4 + 1)))
noncomputable def g_law04_ChainFound.l4 (l_6 : List api_Certificate) (y_11 : (List api_Certificate) × Int) (i_3 : Int) (found_4 : Bool) (k_4 : Int) : Option (Lp (Bool × Int) (Lp (Int) (Bool))) :=
  cond (decide (k_4 < (l_6.length : Int)))
    (cond (found_4)
      (g_law04_ChainFound.j5 k_4 true)
      ((getI l_6 k_4).bind fun e_4 =>
      (getI y_11.1 i_3).bind fun e_5 =>
      (g_ref03_Same e_4 e_5).bind fun y_18 =>
      g_law04_ChainFound.j5 k_4 y_18))
    (up (
      cond (!found_4)
        (up (some false))
        (some (.next (W (i_3 + 1))))))
noncomputable def g_law04_ChainFound.l3 (l_6 : List api_Certificate) (y_11 : (List api_Certificate) × Int) (i_3 : Int) : Option (Lp (Int) (Bool)) :=
  cond (decide (i_3 < (y_11.1.length : Int)))
    (loop (fun q' => g_law04_ChainFound.l4 l_6 y_11 i_3 q'.1 q'.2) (false, 0))
    (up (
      (g_law04_awake).bind fun y_19 =>
      some y_19))
noncomputable def g_law04_ChainFound.j2 (l_6 : List api_Certificate) (y_11 : (List api_Certificate) × Int) (x97_2 : Bool) : Option (Bool) :=
  cond (x97_2)
    (some false)
    (loop (fun q' => g_law04_ChainFound.l3 l_6 y_11 q') 1)
noncomputable def g_law04_ChainFound (l : (List Int)) : Option (Bool) :=
  (g_make_Light l).bind fun y =>
  cond (!y)
    ((g_law04_awake).bind fun y_2 =>
    some y_2)
    ((g_make_Roll l).bind fun y_3 =>
    (g_make_Key y_3).bind fun y_4 =>
    (g_make_Chain y_4.2 (⟨#[119, 101, 98]⟩ : ByteArray) y_4.1 100).bind fun y_5 =>
    (g_make_Key y_5.2).bind fun y_6 =>
    (g_make_Chain y_6.2 (⟨#[119, 101, 98]⟩ : ByteArray) y_6.1 101).bind fun y_7 =>
    (slI y_7.1 1 (y_7.1.length : Int)).bind fun l_2 =>
    (appI 2280 ([] : List api_Certificate) ((y_7.1.drop ((1 : Int).toNat)).take (((y_7.1.length : Int) : Int).toNat - (1 : Int).toNat))).bind fun l_3 =>
    (appI 2280 ([] : List api_Certificate) l_3).bind fun l_4 =>
    (slI y_5.1 1 (y_5.1.length : Int)).bind fun l_5 =>
    (appI 2280 l_4 ((y_5.1.drop ((1 : Int).toNat)).take (((y_5.1.length : Int) : Int).toNat - (1 : Int).toNat))).bind fun l_6 =>
    (g_make_Dice_Of y_7.2 ([15, 30, 5] : List Int)).bind fun y_8 =>
    (getI y_5.1 0).bind fun e_2 =>
    (g_law04_hashes).bind fun y_10 =>
    (g_chain_Build e_2 l_6 ([1, 2] : List Int) y_10 y_8.1 (⟨#[119, 101, 98]⟩ : ByteArray)).bind fun y_11 =>
    (g_law04_hashes).bind fun y_12 =>
    (g_chain_Check y_5.1 ([1, 2] : List Int) y_12 y_8.1 (⟨#[119, 101, 98]⟩ : ByteArray)).bind fun y_13 =>
    cond (!decide (y_11.2 = 0))
      (cond (decide (y_11.2 = 4))
        (cond (!(decide (y_13 = 0)))
          ((g_law04_awake).bind fun y_14 =>
          some y_14)
          (some false))
        (some false))
      (cond (decide ((y_11.1.length : Int) = 0))
        (g_law04_ChainFound.j2 l_6 y_11 true)
        ((getI y_11.1 0).bind fun e_3 =>
        (g_ref03_Same e_3 e_2).bind fun y_15 =>
        cond (!y_15)
          (g_law04_ChainFound.j2 l_6 y_11 true)
          ((g_law04_hashes).bind fun y_16 =>
          (g_chain_Check y_11.1 ([1, 2] : List Int) y_16 y_8.1 (⟨#[119, 101, 98]⟩ : ByteArray)).bind fun y_17 =>
          cond (!decide (y_17 = 0))
            (g_law04_ChainFound.j2 l_6 y_11 true)
            (cond (decide (y_13 = 0))
              (g_law04_ChainFound.j2 l_6 y_11 (decide ((y_5.1.length : Int) < (y_11.1.length : Int))))
              (g_law04_ChainFound.j2 l_6 y_11 false))))))
end Go.Proofs.Ytggimglopfdhiaa
