/- Plain functions. -/
import Derived.Test.YtkpcbnnlefcebaaGreatPU
set_option linter.unusedVariables false
set_option linter.unusedSimpArgs false
namespace Go.Proofs.YtkpcbnnlefcebaaGreat
structure cipherplanmake_Dice where
  L : (List Int)
  At : Int
  deriving DecidableEq, Inhabited
structure api_Use where
  Alg : Int
  Bits : Int
  deriving DecidableEq, Inhabited
structure api_Seal where
  Key : Int
  Sum : Int
  deriving DecidableEq, Inhabited
structure api_Certificate where
  Serial : Int
  Issuer : ByteArray
  Subject : ByteArray
  Key : api_Use
  KeyId : Int
  Hash : api_Use
  From : Int
  To : Int
  Authority : Bool
  Path : Int
  Names : (List ByteArray)
  Seal : api_Seal
  deriving DecidableEq, Inhabited
structure api_Identity where
  Key : api_Use
  KeyId : Int
  Chain : (List api_Certificate)
  deriving DecidableEq, Inhabited
structure api_Endpoint where
  Name : ByteArray
  Least : Int
  Most : Int
  Suites : (List Int)
  OwnOrder : Bool
  Identities : (List api_Identity)
  Anchors : (List Int)
  Hashes : (List Int)
  Fallback : Bool
  deriving DecidableEq, Inhabited
structure api_Edge where
  Client : Int
  Server : Int
  deriving DecidableEq, Inhabited
structure api_Link where
  Use : api_Use
  Day : Int
  deriving DecidableEq, Inhabited
structure api_Item where
  Name : ByteArray
  Kind : Int
  Purpose : Int
  Links : (List api_Link)
  Until : Int
  deriving DecidableEq, Inhabited
structure api_Estate where
  Endpoints : (List api_Endpoint)
  Edges : (List api_Edge)
  Items : (List api_Item)
  deriving DecidableEq, Inhabited
structure api_Change where
  Endpoint : Int
  Kind : Int
  Number : Int
  At : Int
  Identity : api_Identity
  deriving DecidableEq, Inhabited
structure api_Required where
  First : Int
  Then : Int
  deriving DecidableEq, Inhabited
structure need_required where
  First : Int
  Then : Int
  deriving DecidableEq, Inhabited
structure cipherplanref02_row where
  name : ByteArray
  kind : Int
  deriving DecidableEq, Inhabited
structure api_Value where
  Tag : Int
  Bytes : (List UInt8)
  Nested : Bool
  Elements : (List api_Value)
structure api_Suite where
  Code : Int
  Name : ByteArray
  Exchange : api_Use
  Sign : api_Use
  Cipher : api_Use
  Mac : api_Use
  Least : Int
  Most : Int
  deriving DecidableEq, Inhabited
structure catalog_row where
  name : ByteArray
  kind : Int
  way : Int
  sizes : (List Int)
  strengths : (List Int)
  deriving DecidableEq, Inhabited
noncomputable def g_make_Light (l : (List Int)) : Option (Bool) :=
  some (decide ((l.length : Int) ≤ 400))
noncomputable def g_need_Rank.j3 (more_3 : Bool) : Option (Int) :=
  cond (more_3)
    (some 2)
    (some 3)
noncomputable def g_need_Rank.j2 (e : api_Endpoint) (c : api_Change) (x13_2 : Bool) : Option (Int) :=
  cond (x13_2)
    (g_need_Rank.j3 true)
    (cond (decide (c.Kind = 3))
      (g_need_Rank.j3 (decide (e.Most < c.Number)))
      (cond (decide (c.Kind = 4))
        (g_need_Rank.j3 (decide (c.Number < e.Least)))
        (cond (decide (c.Kind = 11))
          (g_need_Rank.j3 (decide (c.Number = 1)))
          (g_need_Rank.j3 false))))
noncomputable def g_need_Rank.j1 (e : api_Endpoint) (c : api_Change) (x8_1 : Bool) : Option (Int) :=
  cond (x8_1)
    (some 0)
    (cond (decide (c.Kind = 5))
      (some 1)
      (cond (decide (c.Kind = 1))
        (g_need_Rank.j2 e c (decide (c.Kind = 1)))
        (g_need_Rank.j2 e c (decide (c.Kind = 12)))))
noncomputable def g_need_Rank (e : api_Endpoint) (c : api_Change) : Option (Int) :=
  cond (decide (c.Kind = 7))
    (g_need_Rank.j1 e c (decide (c.Kind = 7)))
    (g_need_Rank.j1 e c (decide (c.Kind = 9)))
noncomputable def g_math_bits_Len64.j3 (x_3 : Int) (n_3 : Int) : Option (Int) :=
  (idxT (⟨#[0, 1, 2, 2, 3, 3, 3, 3, 4, 4, 4, 4, 4, 4, 4, 4, 5, 5, 5, 5, 5, 5, 5, 5, 5, 5, 5, 5, 5, 5, 5, 5, 6, 6, 6, 6, 6, 6, 6, 6, 6, 6, 6, 6, 6, 6, 6, 6, 6, 6, 6, 6, 6, 6, 6, 6, 6, 6, 6, 6, 6, 6, 6, 6, 7, 7, 7, 7, 7, 7, 7, 7, 7, 7, 7, 7, 7, 7, 7, 7, 7, 7, 7, 7, 7, 7, 7, 7, 7, 7, 7, 7, 7, 7, 7, 7, 7, 7, 7, 7, 7, 7, 7, 7, 7, 7, 7, 7, 7, 7, 7, 7, 7, 7, 7, 7, 7, 7, 7, 7, 7, 7, 7, 7, 7, 7, 7, 7, 8, 8, 8, 8, 8, 8, 8, 8, 8, 8, 8, 8, 8, 8, 8, 8, 8, 8, 8, 8, 8, 8, 8, 8, 8, 8, 8, 8, 8, 8, 8, 8, 8, 8, 8, 8, 8, 8, 8, 8, 8, 8, 8, 8, 8, 8, 8, 8, 8, 8, 8, 8, 8, 8, 8, 8, 8, 8, 8, 8, 8, 8, 8, 8, 8, 8, 8, 8, 8, 8, 8, 8, 8, 8, 8, 8, 8, 8, 8, 8, 8, 8, 8, 8, 8, 8, 8, 8, 8, 8, 8, 8, 8, 8, 8, 8, 8, 8, 8, 8, 8, 8, 8, 8, 8, 8, 8, 8, 8, 8, 8, 8, 8, 8, 8, 8, 8, 8, 8, 8, 8, 8, 8, 8, 8, 8, 8, 8]⟩ : ByteArray) ((u8 x_3).toNat : Int)).bind fun c =>
  some (W (n_3 + (c.toNat : Int)))
noncomputable def g_math_bits_Len64.j2 (x_2 : Int) (n_2 : Int) : Option (Int) :=
  cond (decide (256 ≤ x_2))
    ((shrK .u64 x_2 8).bind fun q_3 =>
    g_math_bits_Len64.j3 q_3 (W (n_2 + 8)))
    (g_math_bits_Len64.j3 x_2 n_2)
noncomputable def g_math_bits_Len64.j1 (x_1 : Int) (n_1 : Int) : Option (Int) :=
  cond (decide (65536 ≤ x_1))
    ((shrK .u64 x_1 16).bind fun q_2 =>
    g_math_bits_Len64.j2 q_2 (W (n_1 + 16)))
    (g_math_bits_Len64.j2 x_1 n_1)
noncomputable def g_math_bits_Len64 (x' : Int) : Option (Int) :=
  cond (decide (4294967296 ≤ x'))
    ((shrK .u64 x' 32).bind fun q =>
    g_math_bits_Len64.j1 q 32)
    (g_math_bits_Len64.j1 x' 0)
noncomputable def g_math_bits_Len (x' : Int) : Option (Int) :=
  (g_math_bits_Len64 x').bind fun y =>
  some y
noncomputable def g_cmp_isNaN_int (x' : Int) : Option (Bool) :=
  some (!decide (x' = x'))
noncomputable def g_cmp_Compare_int (x' : Int) (y : Int) : Option (Int) :=
  (g_cmp_isNaN_int x').bind fun y_2 =>
  (g_cmp_isNaN_int y).bind fun y_3 =>
  cond (y_2)
    (cond (y_3)
      (some 0)
      (some (-1)))
    (cond (y_3)
      (some 1)
      (cond (decide (x' < y))
        (some (-1))
        (cond (decide (y < x'))
          (some 1)
          (some 0))))
noncomputable def g_cmp_Or_int.l1 (vals : (List Int)) (x8_1 : Int) : Option (Lp (Int) (Int)) :=
  cond (decide (x8_1 < (vals.length : Int)))
    ((getI vals x8_1).bind fun e =>
    cond (!decide (e = 0))
      (up (some e))
      (some (.next (W (x8_1 + 1)))))
    (up (
      some 0))
noncomputable def g_cmp_Or_int (vals : (List Int)) : Option (Int) :=
  loop (fun q' => g_cmp_Or_int.l1 vals q') 0
noncomputable def g_need_required_compare (r' : need_required) (s : need_required) : Option (Int) :=
  (g_cmp_Compare_int r'.First s.First).bind fun y =>
  (g_cmp_Compare_int r'.Then s.Then).bind fun y_2 =>
  (g_cmp_Or_int ([y, y_2] : List Int)).bind fun y_3 =>
  some y_3
noncomputable def g_slices_insertionSortCmpFunc_need_required.j3 (i_1 : Int) (j_2 : Int) (data_2 : List need_required) (x34_3 : Bool) : Option (Lp (Int × List need_required) (Lp (Int × List need_required) ((List need_required)))) :=
  cond (x34_3)
    ((getI data_2 (W (j_2 - 1))).bind fun e_3 =>
    (getI data_2 j_2).bind fun e_4 =>
    (getI (setI data_2 ((j_2).toNat) e_3) (W (j_2 - 1))).bind fun e_5 =>
    some (.next (W (j_2 - 1), setI (setI data_2 ((j_2).toNat) e_3) ((W (j_2 - 1)).toNat) e_4)))
    (up (
      some (.next (W (i_1 + 1), data_2))))
noncomputable def g_slices_insertionSortCmpFunc_need_required.l2 (a : Int) (cmp : need_required → need_required → Option (Int)) (i_1 : Int) (j_2 : Int) (data_2 : List need_required) : Option (Lp (Int × List need_required) (Lp (Int × List need_required) ((List need_required)))) :=
  cond (decide (a < j_2))
    ((getI data_2 j_2).bind fun e =>
    (getI data_2 (W (j_2 - 1))).bind fun e_2 =>
    (cmp e e_2).bind fun y =>
    g_slices_insertionSortCmpFunc_need_required.j3 i_1 j_2 data_2 (decide (y < 0)))
    (g_slices_insertionSortCmpFunc_need_required.j3 i_1 j_2 data_2 false)
noncomputable def g_slices_insertionSortCmpFunc_need_required.l1 (a : Int) (b : Int) (cmp : need_required → need_required → Option (Int)) (i_1 : Int) (data_1 : List need_required) : Option (Lp (Int × List need_required) ((List need_required))) :=
  cond (decide (i_1 < b))
    (loop (fun q' => g_slices_insertionSortCmpFunc_need_required.l2 a cmp i_1 q'.1 q'.2) (i_1, data_1))
    (up (some data_1))
noncomputable def g_slices_insertionSortCmpFunc_need_required (data : List need_required) (a : Int) (b : Int) (cmp : need_required → need_required → Option (Int)) : Option ((List need_required)) :=
  loop (fun q' => g_slices_insertionSortCmpFunc_need_required.l1 a b cmp q'.1 q'.2) (W (a + 1), data)
noncomputable def g_slices_pdqsortCmpFunc_need_required.l1 (data : List need_required) (a : Int) (b : Int) (limit : Int) (cmp : need_required → need_required → Option (Int)) : Option (Lp (Unit) ((List need_required))) :=
  cond (decide ((W (b - a)) ≤ 12))
    ((g_slices_insertionSortCmpFunc_need_required data a b cmp).bind fun y =>
    up (some y))
    (cond (decide (limit = 0))
      (none)
      (none))
noncomputable def g_slices_pdqsortCmpFunc_need_required (data : List need_required) (a : Int) (b : Int) (limit : Int) (cmp : need_required → need_required → Option (Int)) : Option ((List need_required)) :=
  loop (fun _ => g_slices_pdqsortCmpFunc_need_required.l1 data a b limit cmp) ()
noncomputable def g_slices_SortFunc_need_required (x' : List need_required) (cmp : need_required → need_required → Option (Int)) : Option ((List need_required)) :=
  (g_math_bits_Len (IntKind.wrap .u64 (x'.length : Int))).bind fun y =>
  (g_slices_pdqsortCmpFunc_need_required x' 0 (x'.length : Int) y cmp).bind fun y_2 =>
  some y_2
noncomputable def g_slices_Compact_need_required.j3 (k2_2 : Int) (k_3 : Int) (s_3 : List need_required) : Option (Lp (Int × Int × List need_required) (Lp (Int) ((List need_required)))) :=
  some (.next (k_3, W (k2_2 + 1), s_3))
noncomputable def g_slices_Compact_need_required.l2 (s : List need_required) (k_1 : Int) (k_2 : Int) (k2_2 : Int) (s_2 : List need_required) : Option (Lp (Int × Int × List need_required) (Lp (Int) ((List need_required)))) :=
  cond (decide (k2_2 < (((((s.length : Int) : Int).toNat - (k_1 : Int).toNat) : Nat) : Int)))
    ((getI ((s_2.drop ((k_1 : Int).toNat)).take (((s.length : Int) : Int).toNat - (k_1 : Int).toNat)) k2_2).bind fun e_3 =>
    (getI ((s_2.drop ((k_1 : Int).toNat)).take (((s.length : Int) : Int).toNat - (k_1 : Int).toNat)) (W (k2_2 - 1))).bind fun e_4 =>
    cond (!decide (e_3 = e_4))
      ((getI s_2 k_2).bind fun e_5 =>
      g_slices_Compact_need_required.j3 k2_2 (W (k_2 + 1)) (setI s_2 ((k_2).toNat) e_3))
      (g_slices_Compact_need_required.j3 k2_2 k_2 s_2))
    (up (
      (slI s_2 k_2 (s_2.length : Int)).bind fun l_2 =>
      (clrI s_2 ((k_2 : Int).toNat) (((s_2.length : Int) : Int).toNat - (k_2 : Int).toNat) ((need_required.mk 0 0) : need_required)).bind fun l_3 =>
      (slI l_3 0 k_2).bind fun l_4 =>
      up (some (l_3.take ((k_2 : Int).toNat - (0 : Int).toNat)))))
noncomputable def g_slices_Compact_need_required.l1 (s : List need_required) (k_1 : Int) : Option (Lp (Int) ((List need_required))) :=
  cond (decide (k_1 < (s.length : Int)))
    ((getI s k_1).bind fun e =>
    (getI s (W (k_1 - 1))).bind fun e_2 =>
    cond (decide (e = e_2))
      ((slI s k_1 (s.length : Int)).bind fun l =>
      loop (fun q' => g_slices_Compact_need_required.l2 s k_1 q'.1 q'.2.1 q'.2.2) (k_1, 1, s))
      (some (.next (W (k_1 + 1)))))
    (up (
      some s))
noncomputable def g_slices_Compact_need_required (s : List need_required) : Option ((List need_required)) :=
  cond (decide ((s.length : Int) < 2))
    (some s)
    (loop (fun q' => g_slices_Compact_need_required.l1 s q') 1)
noncomputable def g_need_sorted.l2 (y_2 : (List need_required)) (x25_2 : Int) (out_2 : List api_Required) : Option (Lp (Int × List api_Required) ((List api_Required))) :=
  cond (decide (x25_2 < (y_2.length : Int)))
    ((getI y_2 x25_2).bind fun e_2 =>
    (appI 32 out_2 ([(api_Required.mk e_2.First e_2.Then)] : List api_Required)).bind fun l_3 =>
    some (.next (W (x25_2 + 1), l_3)))
    (up (
      some out_2))
noncomputable def g_need_sorted.l1 (l : (List api_Required)) (x11_1 : Int) (rows_1 : List need_required) : Option (Lp (Int × List need_required) ((List api_Required))) :=
  cond (decide (x11_1 < (l.length : Int)))
    ((getI l x11_1).bind fun e =>
    (appI 32 rows_1 ([(need_required.mk e.First e.Then)] : List need_required)).bind fun l_2 =>
    some (.next (W (x11_1 + 1), l_2)))
    (up (
      (g_slices_SortFunc_need_required rows_1 (fun x0 x1 => g_need_required_compare x0 x1)).bind fun y =>
      (g_slices_Compact_need_required y).bind fun y_2 =>
      loop (fun q' => g_need_sorted.l2 y_2 q'.1 q'.2) (0, ([] : List api_Required))))
noncomputable def g_need_sorted (l : (List api_Required)) : Option ((List api_Required)) :=
  loop (fun q' => g_need_sorted.l1 l q'.1 q'.2) (0, ([] : List need_required))
noncomputable def g_need_Chain.l1 (l : (List Int)) (i_1 : Int) (out_1 : List api_Required) : Option (Lp (Int × List api_Required) ((List api_Required))) :=
  cond (decide (i_1 < (l.length : Int)))
    ((getI l (W (i_1 - 1))).bind fun e =>
    (getI l i_1).bind fun e_2 =>
    (appI 32 out_1 ([(api_Required.mk e e_2)] : List api_Required)).bind fun l_2 =>
    some (.next (W (i_1 + 1), l_2)))
    (up (
      (g_need_sorted out_1).bind fun y =>
      some y))
noncomputable def g_need_Chain (l : (List Int)) : Option ((List api_Required)) :=
  loop (fun q' => g_need_Chain.l1 l q'.1 q'.2) (1, ([] : List api_Required))
noncomputable def g_law28_awake : Option (Bool) :=
  (g_need_Rank (api_Endpoint.mk (⟨#[]⟩ : ByteArray) 0 0 ([] : (List Int)) false ([] : (List api_Identity)) ([] : (List Int)) ([] : (List Int)) false) (api_Change.mk 0 5 0 0 (api_Identity.mk (api_Use.mk 0 0) 0 ([] : (List api_Certificate))))).bind fun y =>
  cond (decide (y = 1))
    ((g_need_Rank (api_Endpoint.mk (⟨#[]⟩ : ByteArray) 0 0 ([] : (List Int)) false ([] : (List api_Identity)) ([] : (List Int)) ([] : (List Int)) false) (api_Change.mk 0 2 0 0 (api_Identity.mk (api_Use.mk 0 0) 0 ([] : (List api_Certificate))))).bind fun y_2 =>
    cond (decide (y_2 = 3))
      ((g_need_Chain ([2, 0, 1] : List Int)).bind fun y_3 =>
      some (decide ((y_3.length : Int) = 2)))
      (some false))
    (some false)
noncomputable def g_make_Roll (l : (List Int)) : Option (cipherplanmake_Dice) :=
  some (cipherplanmake_Dice.mk l 0)
noncomputable def g_make_Mod (n : Int) (k : Int) : Option (Int) :=
  cond (decide (k < 1))
    (some 0)
    ((remI n k).bind fun q =>
    (remI (W (q + k)) k).bind fun q_2 =>
    some q_2)
noncomputable def g_make_Dice_Next (d : cipherplanmake_Dice) (n : Int) : Option (Int × cipherplanmake_Dice) :=
  cond (decide ((d.L.length : Int) ≤ d.At))
    (some (0, d))
    ((getI d.L (W ((W (d.At + 1)) - 1))).bind fun e =>
    (g_make_Mod e n).bind fun y =>
    some (y, (cipherplanmake_Dice.mk d.L (W (d.At + 1)))))
noncomputable def g_make_Dice_Of (d : cipherplanmake_Dice) (l : (List Int)) : Option (Int × cipherplanmake_Dice) :=
  (g_make_Dice_Next d (l.length : Int)).bind fun y =>
  (getI l y.1).bind fun e =>
  some (e, y.2)
noncomputable def g_make_Dice_One (d : cipherplanmake_Dice) (n : Int) : Option (Bool × cipherplanmake_Dice) :=
  (g_make_Dice_Next d n).bind fun y =>
  some (decide (y.1 = (W (n - 1))), y.2)
noncomputable def g_move_RSA : Option (api_Use) :=
  some (api_Use.mk 5 2048)
noncomputable def g_ref03_Copy (c : api_Certificate) : Option (api_Certificate) :=
  (appI 16 ([] : List ByteArray) c.Names).bind fun l =>
  some (api_Certificate.mk c.Serial c.Issuer c.Subject c.Key c.KeyId c.Hash c.From c.To c.Authority c.Path l c.Seal)
noncomputable def g_ref03_Name.j3 (i_2 : Int) (x27_3 : Bool) : Option (Lp (Int) (Bool)) :=
  cond (x27_3)
    (up (some false))
    (some (.next (W (i_2 + 1))))
noncomputable def g_ref03_Name.l2 (s : ByteArray) (i_2 : Int) : Option (Lp (Int) (Bool)) :=
  cond (decide (i_2 < (s.size : Int)))
    ((idxT s i_2).bind fun c =>
    cond (decide ((c.toNat : Int) < 33))
      (g_ref03_Name.j3 i_2 true)
      ((idxT s i_2).bind fun c_2 =>
      g_ref03_Name.j3 i_2 (decide (126 < (c_2.toNat : Int)))))
    (up (
      some true))
noncomputable def g_ref03_Name.j1 (s : ByteArray) (x11_1 : Bool) : Option (Bool) :=
  cond (x11_1)
    (some false)
    (loop (fun q' => g_ref03_Name.l2 s q') 0)
noncomputable def g_ref03_Name (s : ByteArray) : Option (Bool) :=
  cond (decide ((s.size : Int) < 1))
    (g_ref03_Name.j1 s true)
    (g_ref03_Name.j1 s (decide (32 < (s.size : Int))))
noncomputable def g_ref02_modulus.j1 (b : Int) (x3_1 : Bool) : Option (Int) :=
  cond (x3_1)
    (some 0)
    (cond (decide (b < 1024))
      (some 56)
      (cond (decide (b < 2048))
        (some 80)
        (cond (decide (b < 3072))
          (some 112)
          (cond (decide (b < 7680))
            (some 128)
            (cond (decide (b < 15360))
              (some 192)
              (some 256))))))
noncomputable def g_ref02_modulus (b : Int) : Option (Int) :=
  cond (decide (b < 512))
    (g_ref02_modulus.j1 b true)
    (g_ref02_modulus.j1 b (decide (16384 < b)))
noncomputable def g_ref02_among.l1 (b : Int) (sizes : (List Int)) (strengths : (List Int)) (i_1 : Int) : Option (Lp (Int) (Int)) :=
  cond (decide (i_1 < (sizes.length : Int)))
    ((getI sizes i_1).bind fun e =>
    cond (decide (e = b))
      ((getI strengths i_1).bind fun e_2 =>
      up (some e_2))
      (some (.next (W (i_1 + 1)))))
    (up (
      some 0))
noncomputable def g_ref02_among (b : Int) (sizes : (List Int)) (strengths : (List Int)) : Option (Int) :=
  loop (fun q' => g_ref02_among.l1 b sizes strengths q') 0
noncomputable def g_ref02_single.j2 (alg : Int) (x14_2 : Bool) : Option (Int) :=
  cond (x14_2)
    (some 256)
    (cond (decide (alg = 19))
      (some 64)
      (cond (decide (alg = 20))
        (some 80)
        (some 0)))
noncomputable def g_ref02_single.j1 (alg : Int) (x8_1 : Bool) : Option (Int) :=
  cond (x8_1)
    (some 128)
    (cond (decide (alg = 4))
      (some 192)
      (cond (decide (alg = 18))
        (g_ref02_single.j2 alg (decide (alg = 18)))
        (g_ref02_single.j2 alg (decide (alg = 22)))))
noncomputable def g_ref02_single (alg : Int) : Option (Int) :=
  cond (decide (alg = 1))
    (some 18)
    (cond (decide (alg = 2))
      (some 60)
      (cond (decide (alg = 3))
        (g_ref02_single.j1 alg (decide (alg = 3)))
        (cond (decide (alg = 8))
          (g_ref02_single.j1 alg (decide (alg = 8)))
          (g_ref02_single.j1 alg (decide (alg = 21))))))
noncomputable def g_ref02_Strength.j3 (u : api_Use) (x35_3 : Bool) : Option (Int) :=
  cond (x35_3)
    ((quoI u.Bits 2).bind fun q =>
    some q)
    (some 0)
noncomputable def g_ref02_Strength.j4 (u : api_Use) (x62_4 : Bool) : Option (Int) :=
  cond (x62_4)
    ((g_ref02_among u.Bits ([128, 256] : List Int) ([128, 256] : List Int)).bind fun y_6 =>
    some y_6)
    ((g_ref02_single u.Alg).bind fun y_7 =>
    (g_ref02_among u.Bits ([0] : List Int) ([y_7] : List Int)).bind fun y_8 =>
    some y_8)
noncomputable def g_ref02_Strength.j2 (u : api_Use) (x15_2 : Bool) : Option (Int) :=
  cond (x15_2)
    (cond (decide (u.Bits = 160))
      (g_ref02_Strength.j3 u true)
      (cond (decide (u.Bits = 224))
        (g_ref02_Strength.j3 u true)
        (cond (decide (u.Bits = 256))
          (g_ref02_Strength.j3 u true)
          (cond (decide (u.Bits = 384))
            (g_ref02_Strength.j3 u true)
            (g_ref02_Strength.j3 u (decide (u.Bits = 521)))))))
    (cond (decide (u.Alg = 9))
      ((g_ref02_among u.Bits ([44, 65, 87] : List Int) ([128, 192, 256] : List Int)).bind fun y_2 =>
      some y_2)
      (cond (decide (u.Alg = 13))
        ((g_ref02_among u.Bits ([512, 768, 1024] : List Int) ([128, 192, 256] : List Int)).bind fun y_3 =>
        some y_3)
        (cond (decide (u.Alg = 14))
          ((g_ref02_among u.Bits ([40, 128] : List Int) ([40, 60] : List Int)).bind fun y_4 =>
          some y_4)
          (cond (decide (u.Alg = 15))
            ((g_ref02_among u.Bits ([112, 168] : List Int) ([80, 112] : List Int)).bind fun y_5 =>
            some y_5)
            (cond (decide (u.Alg = 16))
              (g_ref02_Strength.j4 u (decide (u.Alg = 16)))
              (g_ref02_Strength.j4 u (decide (u.Alg = 17))))))))
noncomputable def g_ref02_Strength.j1 (u : api_Use) (x8_1 : Bool) : Option (Int) :=
  cond (x8_1)
    ((g_ref02_modulus u.Bits).bind fun y =>
    some y)
    (cond (decide (u.Alg = 7))
      (g_ref02_Strength.j2 u (decide (u.Alg = 7)))
      (g_ref02_Strength.j2 u (decide (u.Alg = 12))))
noncomputable def g_ref02_Strength (u : api_Use) : Option (Int) :=
  cond (decide (u.Alg = 5))
    (g_ref02_Strength.j1 u (decide (u.Alg = 5)))
    (cond (decide (u.Alg = 6))
      (g_ref02_Strength.j1 u (decide (u.Alg = 6)))
      (cond (decide (u.Alg = 10))
        (g_ref02_Strength.j1 u (decide (u.Alg = 10)))
        (g_ref02_Strength.j1 u (decide (u.Alg = 11)))))
noncomputable def g_ref02_Valid (u : api_Use) : Option (Bool) :=
  (g_ref02_Strength u).bind fun y =>
  some (decide (0 < y))
noncomputable def g_ref02_rows : Option ((List cipherplanref02_row)) :=
  some ([(cipherplanref02_row.mk (⟨#[]⟩ : ByteArray) 0), (cipherplanref02_row.mk (⟨#[109, 100, 53]⟩ : ByteArray) 1), (cipherplanref02_row.mk (⟨#[115, 104, 97, 49]⟩ : ByteArray) 1), (cipherplanref02_row.mk (⟨#[115, 104, 97, 50, 53, 54]⟩ : ByteArray) 1), (cipherplanref02_row.mk (⟨#[115, 104, 97, 51, 56, 52]⟩ : ByteArray) 1), (cipherplanref02_row.mk (⟨#[114, 115, 97]⟩ : ByteArray) 2), (cipherplanref02_row.mk (⟨#[100, 115, 97]⟩ : ByteArray) 2), (cipherplanref02_row.mk (⟨#[101, 99, 100, 115, 97]⟩ : ByteArray) 2), (cipherplanref02_row.mk (⟨#[101, 100, 50, 53, 53, 49, 57]⟩ : ByteArray) 2), (cipherplanref02_row.mk (⟨#[109, 108, 100, 115, 97]⟩ : ByteArray) 2), (cipherplanref02_row.mk (⟨#[114, 115, 97, 107, 120]⟩ : ByteArray) 3), (cipherplanref02_row.mk (⟨#[100, 104, 101]⟩ : ByteArray) 3), (cipherplanref02_row.mk (⟨#[101, 99, 100, 104, 101]⟩ : ByteArray) 3), (cipherplanref02_row.mk (⟨#[109, 108, 107, 101, 109]⟩ : ByteArray) 3), (cipherplanref02_row.mk (⟨#[114, 99, 52]⟩ : ByteArray) 4), (cipherplanref02_row.mk (⟨#[100, 101, 115, 51]⟩ : ByteArray) 4), (cipherplanref02_row.mk (⟨#[97, 101, 115, 99, 98, 99]⟩ : ByteArray) 4), (cipherplanref02_row.mk (⟨#[97, 101, 115, 103, 99, 109]⟩ : ByteArray) 4), (cipherplanref02_row.mk (⟨#[99, 104, 97, 99, 104, 97]⟩ : ByteArray) 4), (cipherplanref02_row.mk (⟨#[104, 109, 97, 99, 109, 100, 53]⟩ : ByteArray) 5), (cipherplanref02_row.mk (⟨#[104, 109, 97, 99, 115, 104, 97, 49]⟩ : ByteArray) 5), (cipherplanref02_row.mk (⟨#[104, 109, 97, 99, 115, 104, 97, 50, 53, 54]⟩ : ByteArray) 5), (cipherplanref02_row.mk (⟨#[97, 101, 97, 100]⟩ : ByteArray) 5)] : List cipherplanref02_row)
noncomputable def g_ref02_Kind.j1 (alg : Int) (x8_1 : Bool) : Option (Int) :=
  cond (x8_1)
    (some 0)
    ((g_ref02_rows).bind fun y =>
    (getI y alg).bind fun e =>
    some e.kind)
noncomputable def g_ref02_Kind (alg : Int) : Option (Int) :=
  cond (decide (alg < 1))
    (g_ref02_Kind.j1 alg true)
    (g_ref02_Kind.j1 alg (decide (22 < alg)))
noncomputable def g_ref03_Signature (u : api_Use) : Option (Bool) :=
  (g_ref02_Valid u).bind fun y =>
  cond (y)
    ((g_ref02_Kind u.Alg).bind fun y_2 =>
    some (decide (y_2 = 2)))
    (some false)
noncomputable def g_ref03_Check.j5 (i_4 : Int) (x123_5 : Bool) : Option (Lp (Int) (Int)) :=
  cond (x123_5)
    (up (some 9))
    (some (.next (W (i_4 + 1))))
noncomputable def g_ref03_Check.j6 (x145_6 : Bool) : Option (Int) :=
  cond (x145_6)
    (some 9)
    (some 0)
noncomputable def g_ref03_Check.l4 (c : api_Certificate) (i_4 : Int) : Option (Lp (Int) (Int)) :=
  cond (decide (i_4 < (c.Names.length : Int)))
    ((getI c.Names i_4).bind fun e =>
    (g_ref03_Name e).bind fun y_6 =>
    cond (!y_6)
      (g_ref03_Check.j5 i_4 true)
      (cond (decide (0 < i_4))
        ((getI c.Names (W (i_4 - 1))).bind fun e_2 =>
        g_ref03_Check.j5 i_4 (!ltT (toB e_2) (toB e)))
        (g_ref03_Check.j5 i_4 false)))
    (up (
      cond (decide (c.Seal.Key < 0))
        (g_ref03_Check.j6 true)
        (cond (decide (2147483648 < c.Seal.Key))
          (g_ref03_Check.j6 true)
          (cond (decide (c.Seal.Sum < 0))
            (g_ref03_Check.j6 true)
            (g_ref03_Check.j6 (decide (4294967296 ≤ c.Seal.Sum)))))))
noncomputable def g_ref03_Check.j3 (c : api_Certificate) (x91_3 : Bool) : Option (Int) :=
  cond (x91_3)
    (some 9)
    (loop (fun q' => g_ref03_Check.l4 c q') 0)
noncomputable def g_ref03_Check.j2 (c : api_Certificate) (x67_2 : Bool) : Option (Int) :=
  cond (x67_2)
    (some 9)
    (cond (decide (c.Path < 0))
      (g_ref03_Check.j3 c true)
      (cond (decide (8 < c.Path))
        (g_ref03_Check.j3 c true)
        (cond (!c.Authority)
          (cond (!decide (c.Path = 0))
            (g_ref03_Check.j3 c true)
            (g_ref03_Check.j3 c (decide (8 < (c.Names.length : Int)))))
          (g_ref03_Check.j3 c (decide (8 < (c.Names.length : Int)))))))
noncomputable def g_ref03_Check.j1 (c : api_Certificate) (x39_1 : Bool) : Option (Int) :=
  cond (x39_1)
    (some 9)
    ((g_ref02_Valid c.Hash).bind fun y_4 =>
    cond (!y_4)
      (g_ref03_Check.j2 c true)
      ((g_ref02_Kind c.Hash.Alg).bind fun y_5 =>
      cond (!decide (y_5 = 1))
        (g_ref03_Check.j2 c true)
        (cond (decide (c.From < 0))
          (g_ref03_Check.j2 c true)
          (cond (decide (c.To < c.From))
            (g_ref03_Check.j2 c true)
            (g_ref03_Check.j2 c (decide (40000 < c.To)))))))
noncomputable def g_ref03_Check (c : api_Certificate) : Option (Int) :=
  cond (decide (c.Serial < 0))
    (g_ref03_Check.j1 c true)
    (cond (decide (1099511627776 < c.Serial))
      (g_ref03_Check.j1 c true)
      ((g_ref03_Name c.Issuer).bind fun y =>
      cond (!y)
        (g_ref03_Check.j1 c true)
        ((g_ref03_Name c.Subject).bind fun y_2 =>
        cond (!y_2)
          (g_ref03_Check.j1 c true)
          ((g_ref03_Signature c.Key).bind fun y_3 =>
          cond (!y_3)
            (g_ref03_Check.j1 c true)
            (cond (decide (c.KeyId < 0))
              (g_ref03_Check.j1 c true)
              (g_ref03_Check.j1 c (decide (2147483648 < c.KeyId))))))))
noncomputable def g_ref01_Text (s : ByteArray) : Option (api_Value) :=
  some (api_Value.mk 12 (toB s) false ([] : (List api_Value)))
noncomputable def g_ref01_Int.j2 (x_1 : Int) (b_1 : List UInt8) (x35_2 : Bool) : Option (Lp (Int × List UInt8) (api_Value)) :=
  cond (x35_2)
    ((appI 1 ([(u8 x_1)] : List UInt8) b_1).bind fun l =>
    (shrK .i64 x_1 8).bind fun q_2 =>
    some (.next (q_2, l)))
    (up (
      some (api_Value.mk 2 b_1 false ([] : (List api_Value)))))
noncomputable def g_ref01_Int.l1 (x_1 : Int) (b_1 : List UInt8) : Option (Lp (Int × List UInt8) (api_Value)) :=
  cond (!decide (x_1 = 0))
    (cond (!decide (x_1 = (-1)))
      (g_ref01_Int.j2 x_1 b_1 true)
      (cond (decide (x_1 = 0))
        ((getI b_1 0).bind fun e =>
        cond (decide (128 ≤ (e.toNat : Int)))
          (g_ref01_Int.j2 x_1 b_1 true)
          (cond (decide (x_1 = (-1)))
            (g_ref01_Int.j2 x_1 b_1 (decide ((e.toNat : Int) < 128)))
            (g_ref01_Int.j2 x_1 b_1 false)))
        (cond (decide (x_1 = (-1)))
          ((getI b_1 0).bind fun e_2 =>
          g_ref01_Int.j2 x_1 b_1 (decide ((e_2.toNat : Int) < 128)))
          (g_ref01_Int.j2 x_1 b_1 false))))
    (cond (decide (x_1 = 0))
      ((getI b_1 0).bind fun e_3 =>
      cond (decide (128 ≤ (e_3.toNat : Int)))
        (g_ref01_Int.j2 x_1 b_1 true)
        (cond (decide (x_1 = (-1)))
          (g_ref01_Int.j2 x_1 b_1 (decide ((e_3.toNat : Int) < 128)))
          (g_ref01_Int.j2 x_1 b_1 false)))
      (cond (decide (x_1 = (-1)))
        ((getI b_1 0).bind fun e_4 =>
        g_ref01_Int.j2 x_1 b_1 (decide ((e_4.toNat : Int) < 128)))
        (g_ref01_Int.j2 x_1 b_1 false)))
noncomputable def g_ref01_Int (n : Int) : Option (api_Value) :=
  (shrK .i64 n 8).bind fun q =>
  loop (fun q' => g_ref01_Int.l1 q'.1 q'.2) (q, ([(u8 n)] : List UInt8))
noncomputable def g_ref01_copies.l1 (rec : (List api_Value) → Option ((List api_Value))) (l : (List api_Value)) (i_1 : Int) (out_1 : List api_Value) : Option (Lp (Int × List api_Value) ((List api_Value))) :=
  cond (decide (i_1 < (l.length : Int)))
    ((getI l i_1).bind fun e =>
    (appI 1 ([] : List UInt8) e.Bytes).bind fun l_2 =>
    (rec e.Elements).bind fun y =>
    (appI 256 out_1 ([(api_Value.mk e.Tag l_2 e.Nested y)] : List api_Value)).bind fun l_3 =>
    some (.next (W (i_1 + 1), l_3)))
    (up (
      some out_1))
noncomputable def g_ref01_copies.F (rec : (List api_Value) → Option ((List api_Value))) (l : (List api_Value)) : Option ((List api_Value)) :=
  loop (fun q' => g_ref01_copies.l1 rec l q'.1 q'.2) (0, ([] : List api_Value))
noncomputable def g_ref01_copies (l : (List api_Value)) : Option ((List api_Value)) := fixT (fun rec (x : (List api_Value)) => g_ref01_copies.F (fun l => rec l) x) l
noncomputable def g_ref01_List (l : (List api_Value)) : Option (api_Value) :=
  (g_ref01_copies l).bind fun y =>
  some (api_Value.mk 48 ([] : (List UInt8)) true y)
noncomputable def g_ref03_use (u : api_Use) : Option (api_Value) :=
  (g_ref01_Int u.Alg).bind fun y =>
  (g_ref01_Int u.Bits).bind fun y_2 =>
  (g_ref01_List ([y, y_2] : List api_Value)).bind fun y_3 =>
  some y_3
noncomputable def g_ref01_Bool (b : Bool) : Option (api_Value) :=
  cond (b)
    (some (api_Value.mk 1 ([(255 : UInt8)] : List UInt8) false ([] : (List api_Value))))
    (some (api_Value.mk 1 ([(0 : UInt8)] : List UInt8) false ([] : (List api_Value))))
noncomputable def g_ref03_body.l1 (c : api_Certificate) (i_1 : Int) (names_1 : List api_Value) : Option (Lp (Int × List api_Value) (api_Value)) :=
  cond (decide (i_1 < (c.Names.length : Int)))
    ((getI c.Names i_1).bind fun e =>
    (g_ref01_Text e).bind fun y =>
    (appI 256 names_1 ([y] : List api_Value)).bind fun l =>
    some (.next (W (i_1 + 1), l)))
    (up (
      (g_ref01_Int c.Serial).bind fun y_12 =>
      (g_ref01_Text c.Issuer).bind fun y_13 =>
      (g_ref01_Text c.Subject).bind fun y_14 =>
      (g_ref03_use c.Key).bind fun y_15 =>
      (g_ref01_Int c.KeyId).bind fun y_16 =>
      (g_ref03_use c.Hash).bind fun y_17 =>
      (g_ref01_Int c.From).bind fun y_18 =>
      (g_ref01_Int c.To).bind fun y_19 =>
      (g_ref01_Bool c.Authority).bind fun y_20 =>
      (g_ref01_Int c.Path).bind fun y_21 =>
      (g_ref01_List names_1).bind fun y_22 =>
      (g_ref01_List ([y_12, y_13, y_14, y_15, y_16, y_17, y_18, y_19, y_20, y_21, y_22] : List api_Value)).bind fun y_23 =>
      some y_23))
noncomputable def g_ref03_body (c : api_Certificate) : Option (api_Value) :=
  loop (fun q' => g_ref03_body.l1 c q'.1 q'.2) (0, ([] : List api_Value))
noncomputable def g_ref01_tag (n : Int) : Option (Bool) :=
  cond (decide (1 ≤ n))
    (cond (decide (n ≤ 255))
      ((remI n 32).bind fun q =>
      some (!decide (q = 31)))
      (some false))
    (some false)
noncomputable def g_ref01_formed.l2 (rec : api_Value → Option (Bool)) (v : api_Value) (i_2 : Int) : Option (Lp (Int) (Bool)) :=
  cond (decide (i_2 < (v.Elements.length : Int)))
    ((getI v.Elements i_2).bind fun e =>
    (rec e).bind fun y_2 =>
    cond (!y_2)
      (up (some false))
      (some (.next (W (i_2 + 1)))))
    (up (
      some true))
noncomputable def g_ref01_formed.j1 (rec : api_Value → Option (Bool)) (v : api_Value) (x38_1 : Bool) : Option (Bool) :=
  cond (x38_1)
    (some false)
    (loop (fun q' => g_ref01_formed.l2 rec v q') 0)
noncomputable def g_ref01_formed.F (rec : api_Value → Option (Bool)) (v : api_Value) : Option (Bool) :=
  (g_ref01_tag v.Tag).bind fun y =>
  cond (!y)
    (g_ref01_formed.j1 rec v true)
    ((quoI v.Tag 32).bind fun q =>
    (remI q 2).bind fun q_2 =>
    cond (!decide (v.Nested = (decide (q_2 = 1))))
      (g_ref01_formed.j1 rec v true)
      (cond (v.Nested)
        (cond (decide (0 < (v.Bytes.length : Int)))
          (g_ref01_formed.j1 rec v true)
          (g_ref01_formed.j1 rec v false))
        (g_ref01_formed.j1 rec v (decide (0 < (v.Elements.length : Int))))))
noncomputable def g_ref01_formed (v : api_Value) : Option (Bool) := fixT (fun rec (x : api_Value) => g_ref01_formed.F (fun v => rec v) x) v
noncomputable def g_ref01_depth.l1 (rec : api_Value → Option (Int)) (v : api_Value) (d_1 : Int) (i_1 : Int) : Option (Lp (Int × Int) (Int)) :=
  cond (decide (i_1 < (v.Elements.length : Int)))
    ((getI v.Elements i_1).bind fun e =>
    (rec e).bind fun y =>
    some (.next (max d_1 y, W (i_1 + 1))))
    (up (
      some (W (d_1 + 1))))
noncomputable def g_ref01_depth.F (rec : api_Value → Option (Int)) (v : api_Value) : Option (Int) :=
  loop (fun q' => g_ref01_depth.l1 rec v q'.1 q'.2) (0, 0)
noncomputable def g_ref01_depth (v : api_Value) : Option (Int) := fixT (fun rec (x : api_Value) => g_ref01_depth.F (fun v => rec v) x) v
noncomputable def g_ref01_length.l1 (n_1 : Int) (b_1 : List UInt8) : Option (Lp (Int × List UInt8) ((List UInt8))) :=
  cond (decide (0 < n_1))
    ((remI n_1 256).bind fun q =>
    (appI 1 ([(u8 q)] : List UInt8) b_1).bind fun l =>
    (quoI n_1 256).bind fun q_2 =>
    some (.next (q_2, l)))
    (up (
      (appI 1 ([(u8 (W (128 + (b_1.length : Int))))] : List UInt8) b_1).bind fun l_2 =>
      some l_2))
noncomputable def g_ref01_length (n : Int) : Option ((List UInt8)) :=
  cond (decide (n < 128))
    (some ([(u8 n)] : List UInt8))
    (loop (fun q' => g_ref01_length.l1 q'.1 q'.2) (n, ([] : List UInt8)))
noncomputable def g_ref01_put.l1 (rec : api_Value → Option ((List UInt8))) (v : api_Value) (i_1 : Int) (b_1 : List UInt8) : Option (Lp (Int × List UInt8) ((List UInt8))) :=
  cond (decide (i_1 < (v.Elements.length : Int)))
    ((getI v.Elements i_1).bind fun e =>
    (rec e).bind fun y =>
    (appI 1 b_1 y).bind fun l_2 =>
    some (.next (W (i_1 + 1), l_2)))
    (up (
      (g_ref01_length (b_1.length : Int)).bind fun y_2 =>
      (appI 1 ([(u8 v.Tag)] : List UInt8) y_2).bind fun l_3 =>
      (appI 1 l_3 b_1).bind fun l_4 =>
      some l_4))
noncomputable def g_ref01_put.F (rec : api_Value → Option ((List UInt8))) (v : api_Value) : Option ((List UInt8)) :=
  (appI 1 ([] : List UInt8) v.Bytes).bind fun l =>
  loop (fun q' => g_ref01_put.l1 rec v q'.1 q'.2) (0, l)
noncomputable def g_ref01_put (v : api_Value) : Option ((List UInt8)) := fixT (fun rec (x : api_Value) => g_ref01_put.F (fun v => rec v) x) v
noncomputable def g_ref01_Encode (v : api_Value) : Option ((List UInt8) × Int) :=
  (g_ref01_formed v).bind fun y =>
  cond (!y)
    (some (([] : (List UInt8)), 1))
    ((g_ref01_depth v).bind fun y_2 =>
    cond (decide (16 < y_2))
      (some (([] : (List UInt8)), 3))
      ((g_ref01_put v).bind fun y_3 =>
      cond (decide (4096 < (y_3.length : Int)))
        (some (([] : (List UInt8)), 3))
        (some (y_3, 0))))
noncomputable def g_ref03_Bytes (c : api_Certificate) : Option ((List UInt8) × Int) :=
  (g_ref03_Check c).bind fun y =>
  cond (!decide (y = 0))
    (some (([] : (List UInt8)), 9))
    ((g_ref03_body c).bind fun y_2 =>
    (g_ref01_Encode y_2).bind fun y_3 =>
    some (y_3.1, y_3.2))
noncomputable def g_ref03_Sum.l1 (b : (List UInt8)) (h_1 : Int) (i_1 : Int) : Option (Lp (Int × Int) (Int)) :=
  cond (decide (i_1 < (b.length : Int)))
    ((getI b i_1).bind fun e =>
    some (.next (IntKind.wrap .u32 ((xorK .u32 h_1 (IntKind.wrap .u32 (e.toNat : Int))) * 16777619), W (i_1 + 1))))
    (up (
      some (W h_1)))
noncomputable def g_ref03_Sum (b : (List UInt8)) : Option (Int) :=
  loop (fun q' => g_ref03_Sum.l1 b q'.1 q'.2) (2166136261, 0)
noncomputable def g_ref03_Sign.j1 (key : Int) (y : api_Certificate) (x22_1 : Bool) : Option (api_Certificate × Int) :=
  cond (x22_1)
    (some ((api_Certificate.mk 0 (⟨#[]⟩ : ByteArray) (⟨#[]⟩ : ByteArray) (api_Use.mk 0 0) 0 (api_Use.mk 0 0) 0 0 false 0 ([] : (List ByteArray)) (api_Seal.mk 0 0)), 9))
    ((g_ref03_Bytes (api_Certificate.mk y.Serial y.Issuer y.Subject y.Key y.KeyId y.Hash y.From y.To y.Authority y.Path y.Names (api_Seal.mk 0 0))).bind fun y_3 =>
    (g_ref03_Sum y_3.1).bind fun y_4 =>
    some ((api_Certificate.mk y.Serial y.Issuer y.Subject y.Key y.KeyId y.Hash y.From y.To y.Authority y.Path y.Names (api_Seal.mk key y_4)), 0))
noncomputable def g_ref03_Sign (c : api_Certificate) (key : Int) : Option (api_Certificate × Int) :=
  (g_ref03_Copy c).bind fun y =>
  (g_ref03_Check (api_Certificate.mk y.Serial y.Issuer y.Subject y.Key y.KeyId y.Hash y.From y.To y.Authority y.Path y.Names (api_Seal.mk 0 0))).bind fun y_2 =>
  cond (!decide (y_2 = 0))
    (g_ref03_Sign.j1 key y true)
    (cond (decide (key < 0))
      (g_ref03_Sign.j1 key y true)
      (g_ref03_Sign.j1 key y (decide (2147483648 < key))))
noncomputable def g_move_Leaf (name : ByteArray) (key : api_Use) (id : Int) (anchor : Int) (to : Int) : Option (api_Identity) :=
  (g_ref03_Sign (api_Certificate.mk id (⟨#[114, 111, 111, 116]⟩ : ByteArray) name key id (api_Use.mk 3 0) 0 to false 0 ([name] : List ByteArray) (api_Seal.mk 0 0)) anchor).bind fun y =>
  some (api_Identity.mk key id ([y.1] : List api_Certificate))
noncomputable def g_make_Dice_Word (d : cipherplanmake_Dice) (l : (List ByteArray)) : Option (ByteArray × cipherplanmake_Dice) :=
  (g_make_Dice_Next d (l.length : Int)).bind fun y =>
  (getI l y.1).bind fun e =>
  some (e, y.2)
noncomputable def g_make_Item.l1 (name : ByteArray) (y : Int × cipherplanmake_Dice) (y_2 : Int × cipherplanmake_Dice) (day_1 : Int) (i_1 : Int) (d_1 : cipherplanmake_Dice) (l_1 : List api_Link) : Option (Lp (Int × Int × cipherplanmake_Dice × List api_Link) (api_Item × cipherplanmake_Dice)) :=
  cond (decide (0 < i_1))
    ((g_make_Dice_Next d_1 6).bind fun y_5 =>
    (getI ([(api_Use.mk 2 0), (api_Use.mk 1 0), (api_Use.mk 5 2048), (api_Use.mk 16 128), (api_Use.mk 3 0), (api_Use.mk 15 168)] : List api_Use) y_5.1).bind fun e =>
    (appI 72 l_1 ([(api_Link.mk e day_1)] : List api_Link)).bind fun l =>
    (g_make_Dice_Of y_5.2 ([5, 30, 0, 100] : List Int)).bind fun y_6 =>
    some (.next (W ((W (day_1 + 1)) + y_6.1), W (i_1 - 1), y_6.2, l)))
    (up (
      (getI l_1 0).bind fun e_2 =>
      (g_make_Dice_Of d_1 ([50, 300, 0, 3000] : List Int)).bind fun y_7 =>
      some ((api_Item.mk name (W (1 + y.1)) (W (1 + y_2.1)) l_1 (W (e_2.Day + y_7.1))), y_7.2)))
noncomputable def g_make_Item (d : cipherplanmake_Dice) (name : ByteArray) : Option (api_Item × cipherplanmake_Dice) :=
  (g_make_Dice_Next d 2).bind fun y =>
  (g_make_Dice_Next y.2 4).bind fun y_2 =>
  (g_make_Dice_Next y_2.2 20).bind fun y_3 =>
  (g_make_Dice_Next y_3.2 3).bind fun y_4 =>
  loop (fun q' => g_make_Item.l1 name y y_2 q'.1 q'.2.1 q'.2.2.1 q'.2.2.2) (y_3.1, W (1 + y_4.1), y_4.2, ([] : List api_Link))
noncomputable def g_move_Sound.j2 (x18_1 : Int) (l_1 : List api_Endpoint) (e : ByteArray) (y_2 : Int × cipherplanmake_Dice) (y_4 : Bool × cipherplanmake_Dice) (y_5 : Bool × cipherplanmake_Dice) (x_2 : List Int) : Option (Lp (Int × cipherplanmake_Dice × List api_Endpoint) (api_Estate × cipherplanmake_Dice)) :=
  (g_move_RSA).bind fun y_6 =>
  (g_move_Leaf e y_6 (W (100 + x18_1)) 1 901).bind fun y_7 =>
  (appI 1296 l_1 ([(api_Endpoint.mk e 1 y_2.1 x_2 y_4.1 ([y_7] : List api_Identity) ([1] : List Int) ([2, 3] : List Int) y_5.1)] : List api_Endpoint)).bind fun l_3 =>
  some (.next (W (x18_1 + 1), y_5.2, l_3))
noncomputable def g_move_Sound.j9 (x71_7 : Int) (d_9 : cipherplanmake_Dice) (l_9 : List api_Edge) : Option (Lp (Int × cipherplanmake_Dice × List api_Edge) (Lp (Int × cipherplanmake_Dice × List api_Edge) (api_Estate × cipherplanmake_Dice))) :=
  some (.next (W (x71_7 + 1), d_9, l_9))
noncomputable def g_move_Sound.j8 (x66_6 : Int) (x71_7 : Int) (l_7 : List api_Edge) (x87_8 : Bool) (d_8 : cipherplanmake_Dice) : Option (Lp (Int × cipherplanmake_Dice × List api_Edge) (Lp (Int × cipherplanmake_Dice × List api_Edge) (api_Estate × cipherplanmake_Dice))) :=
  cond (x87_8)
    ((appI 32 l_7 ([(api_Edge.mk x66_6 x71_7)] : List api_Edge)).bind fun l_4 =>
    g_move_Sound.j9 x71_7 d_8 l_4)
    (g_move_Sound.j9 x71_7 d_8 l_7)
noncomputable def g_move_Sound.l7 (y : Int × cipherplanmake_Dice) (x66_6 : Int) (x71_7 : Int) (d_7 : cipherplanmake_Dice) (l_7 : List api_Edge) : Option (Lp (Int × cipherplanmake_Dice × List api_Edge) (Lp (Int × cipherplanmake_Dice × List api_Edge) (api_Estate × cipherplanmake_Dice))) :=
  cond (decide (x71_7 < ((((W (2 + y.1) : Int).toNat - (0 : Int).toNat) : Nat) : Int)))
    (cond (!decide (x66_6 = x71_7))
      ((g_make_Dice_Next d_7 3).bind fun y_8 =>
      cond (decide (0 < y_8.1))
        (g_move_Sound.j8 x66_6 x71_7 l_7 (decide ((l_7.length : Int) < 3)) y_8.2)
        (g_move_Sound.j8 x66_6 x71_7 l_7 false y_8.2))
      (g_move_Sound.j8 x66_6 x71_7 l_7 false d_7))
    (up (
      some (.next (W (x66_6 + 1), d_7, l_7))))
noncomputable def g_move_Sound.l11 (l_1 : List api_Endpoint) (l_10 : List api_Edge) (i_11 : Int) (d_11 : cipherplanmake_Dice) (l_11 : List api_Item) : Option (Lp (Int × cipherplanmake_Dice × List api_Item) (api_Estate × cipherplanmake_Dice)) :=
  cond (decide (0 < i_11))
    ((g_make_Dice_Word d_11 ([(⟨#[98, 97, 99, 107, 117, 112]⟩ : ByteArray), (⟨#[100, 101, 101, 100]⟩ : ByteArray)] : List ByteArray)).bind fun y_10 =>
    (g_make_Item y_10.2 y_10.1).bind fun y_11 =>
    (appI 320 l_11 ([y_11.1] : List api_Item)).bind fun l_5 =>
    some (.next (W (i_11 - 1), y_11.2, l_5)))
    (up (
      some ((api_Estate.mk l_1 l_10 l_11), d_11)))
noncomputable def g_move_Sound.j10 (l_1 : List api_Endpoint) (d_6 : cipherplanmake_Dice) (l_10 : List api_Edge) : Option (api_Estate × cipherplanmake_Dice) :=
  (g_make_Dice_Next d_6 3).bind fun y_9 =>
  loop (fun q' => g_move_Sound.l11 l_1 l_10 q'.1 q'.2.1 q'.2.2) (y_9.1, y_9.2, ([] : List api_Item))
noncomputable def g_move_Sound.l6 (y : Int × cipherplanmake_Dice) (l_1 : List api_Endpoint) (x66_6 : Int) (d_6 : cipherplanmake_Dice) (l_6 : List api_Edge) : Option (Lp (Int × cipherplanmake_Dice × List api_Edge) (api_Estate × cipherplanmake_Dice)) :=
  cond (decide (x66_6 < ((((W (2 + y.1) : Int).toNat - (0 : Int).toNat) : Nat) : Int)))
    (loop (fun q' => g_move_Sound.l7 y x66_6 q'.1 q'.2.1 q'.2.2) (0, d_6, l_6))
    (up (
      cond (decide ((l_6.length : Int) = 0))
        (g_move_Sound.j10 l_1 d_6 ([(api_Edge.mk 0 1)] : List api_Edge))
        (g_move_Sound.j10 l_1 d_6 l_6)))
noncomputable def g_move_Sound.l1 (y : Int × cipherplanmake_Dice) (x18_1 : Int) (d_1 : cipherplanmake_Dice) (l_1 : List api_Endpoint) : Option (Lp (Int × cipherplanmake_Dice × List api_Endpoint) (api_Estate × cipherplanmake_Dice)) :=
  cond (decide (x18_1 < ((((W (2 + y.1) : Int).toNat - (0 : Int).toNat) : Nat) : Int)))
    ((getI ((([(⟨#[97, 112, 112]⟩ : ByteArray), (⟨#[100, 98]⟩ : ByteArray), (⟨#[119, 101, 98]⟩ : ByteArray)] : List ByteArray).drop ((0 : Int).toNat)).take ((W (2 + y.1) : Int).toNat - (0 : Int).toNat)) x18_1).bind fun e =>
    (g_make_Dice_Of d_1 ([3, 3, 4] : List Int)).bind fun y_2 =>
    (g_make_Dice_Next y_2.2 3).bind fun y_3 =>
    (getI ([([10, 8, 2] : List Int), ([8, 2] : List Int), ([2, 10, 8, 3] : List Int)] : List (List Int)) y_3.1).bind fun e_2 =>
    (g_make_Dice_One y_3.2 2).bind fun y_4 =>
    (g_make_Dice_One y_4.2 3).bind fun y_5 =>
    cond (decide (y_2.1 = 4))
      ((appI 8 ([14] : List Int) e_2).bind fun l_2 =>
      g_move_Sound.j2 x18_1 l_1 e y_2 y_4 y_5 l_2)
      (g_move_Sound.j2 x18_1 l_1 e y_2 y_4 y_5 e_2))
    (up (
      loop (fun q' => g_move_Sound.l6 y l_1 q'.1 q'.2.1 q'.2.2) (0, d_1, ([] : List api_Edge))))
noncomputable def g_move_Sound (d : cipherplanmake_Dice) : Option (api_Estate × cipherplanmake_Dice) :=
  (g_make_Dice_Next d 2).bind fun y =>
  (slI ([(⟨#[97, 112, 112]⟩ : ByteArray), (⟨#[100, 98]⟩ : ByteArray), (⟨#[119, 101, 98]⟩ : ByteArray)] : List ByteArray) 0 (W (2 + y.1))).bind fun l =>
  loop (fun q' => g_move_Sound.l1 y q'.1 q'.2.1 q'.2.2) (0, y.2, ([] : List api_Endpoint))
noncomputable def g_move_EC : Option (api_Use) :=
  some (api_Use.mk 7 256)
noncomputable def g_internal_stringslite_IndexByte (s : ByteArray) (c : UInt8) : Option (Int) :=
  some (idxB s c)
noncomputable def g_strings_IndexByte (s : ByteArray) (c : UInt8) : Option (Int) :=
  (g_internal_stringslite_IndexByte s c).bind fun y =>
  some y
noncomputable def g_settings_Letter (c : UInt8) (others : ByteArray) : Option (Bool) :=
  cond (decide (97 ≤ (c.toNat : Int)))
    (cond (decide ((c.toNat : Int) ≤ 122))
      (some true)
      (cond (decide (65 ≤ (c.toNat : Int)))
        (cond (decide ((c.toNat : Int) ≤ 90))
          (some true)
          (cond (decide (48 ≤ (c.toNat : Int)))
            (cond (decide ((c.toNat : Int) ≤ 57))
              (some true)
              ((g_strings_IndexByte others c).bind fun y =>
              some (decide (0 ≤ y))))
            ((g_strings_IndexByte others c).bind fun y_2 =>
            some (decide (0 ≤ y_2)))))
        (cond (decide (48 ≤ (c.toNat : Int)))
          (cond (decide ((c.toNat : Int) ≤ 57))
            (some true)
            ((g_strings_IndexByte others c).bind fun y_3 =>
            some (decide (0 ≤ y_3))))
          ((g_strings_IndexByte others c).bind fun y_4 =>
          some (decide (0 ≤ y_4))))))
    (cond (decide (65 ≤ (c.toNat : Int)))
      (cond (decide ((c.toNat : Int) ≤ 90))
        (some true)
        (cond (decide (48 ≤ (c.toNat : Int)))
          (cond (decide ((c.toNat : Int) ≤ 57))
            (some true)
            ((g_strings_IndexByte others c).bind fun y_5 =>
            some (decide (0 ≤ y_5))))
          ((g_strings_IndexByte others c).bind fun y_6 =>
          some (decide (0 ≤ y_6)))))
      (cond (decide (48 ≤ (c.toNat : Int)))
        (cond (decide ((c.toNat : Int) ≤ 57))
          (some true)
          ((g_strings_IndexByte others c).bind fun y_7 =>
          some (decide (0 ≤ y_7))))
        ((g_strings_IndexByte others c).bind fun y_8 =>
        some (decide (0 ≤ y_8)))))
noncomputable def g_settings_Word.l1 (s : ByteArray) (x8_1 : Int) : Option (Lp (Int) (Bool)) :=
  cond (decide (x8_1 < ((toB s).length : Int)))
    ((getI (toB s) x8_1).bind fun e =>
    (g_settings_Letter e (⟨#[45, 95, 46]⟩ : ByteArray)).bind fun y =>
    cond (!y)
      (up (some false))
      (some (.next (W (x8_1 + 1)))))
    (up (
      cond (decide (1 ≤ (s.size : Int)))
        (some (decide ((s.size : Int) ≤ 32)))
        (some false)))
noncomputable def g_settings_Word (s : ByteArray) : Option (Bool) :=
  loop (fun q' => g_settings_Word.l1 s q') 0
noncomputable def g_catalog_use (alg : Int) (bits : Int) : Option (api_Use) :=
  some (api_Use.mk alg bits)
noncomputable def g_catalog_Suites.l1 (y : api_Use) (y_2 : api_Use) (y_3 : api_Use) (y_4 : api_Use) (y_5 : api_Use) (y_6 : api_Use) (y_7 : api_Use) (y_8 : api_Use) (y_9 : api_Use) (y_10 : api_Use) (y_11 : api_Use) (y_12 : api_Use) (y_13 : api_Use) (y_14 : api_Use) (y_15 : api_Use) (y_16 : api_Use) (y_17 : api_Use) (y_18 : api_Use) (y_19 : api_Use) (y_20 : api_Use) (y_21 : api_Use) (y_22 : api_Use) (x114_1 : Int) (l_1 : List api_Suite) : Option (Lp (Int × List api_Suite) ((List api_Suite))) :=
  cond (decide (x114_1 < (([(api_Suite.mk 0 (⟨#[114, 115, 97, 45, 114, 99, 52, 45, 109, 100, 53]⟩ : ByteArray) y y_2 y_14 y_10 1 2), (api_Suite.mk 0 (⟨#[114, 115, 97, 45, 114, 99, 52, 45, 115, 104, 97]⟩ : ByteArray) y y_2 y_15 y_11 1 3), (api_Suite.mk 0 (⟨#[114, 115, 97, 45, 100, 101, 115, 51, 45, 115, 104, 97]⟩ : ByteArray) y y_2 y_5 y_11 1 3), (api_Suite.mk 0 (⟨#[100, 104, 101, 45, 100, 115, 97, 45, 100, 101, 115, 51, 45, 115, 104, 97]⟩ : ByteArray) y_16 y_3 y_5 y_11 1 3), (api_Suite.mk 0 (⟨#[100, 104, 101, 45, 114, 115, 97, 45, 100, 101, 115, 51, 45, 115, 104, 97]⟩ : ByteArray) y_17 y_2 y_5 y_11 1 3), (api_Suite.mk 0 (⟨#[114, 115, 97, 45, 97, 101, 115, 49, 50, 56, 45, 115, 104, 97]⟩ : ByteArray) y y_2 y_6 y_11 1 3), (api_Suite.mk 0 (⟨#[100, 104, 101, 45, 114, 115, 97, 45, 97, 101, 115, 49, 50, 56, 45, 115, 104, 97]⟩ : ByteArray) y_18 y_2 y_6 y_11 1 3), (api_Suite.mk 0 (⟨#[101, 99, 100, 104, 101, 45, 114, 115, 97, 45, 97, 101, 115, 49, 50, 56, 45, 115, 104, 97]⟩ : ByteArray) y_13 y_2 y_6 y_11 1 3), (api_Suite.mk 0 (⟨#[101, 99, 100, 104, 101, 45, 101, 99, 100, 115, 97, 45, 97, 101, 115, 50, 53, 54, 45, 115, 104, 97, 50, 53, 54]⟩ : ByteArray) y_13 y_4 y_19 y_20 3 3), (api_Suite.mk 0 (⟨#[101, 99, 100, 104, 101, 45, 114, 115, 97, 45, 97, 101, 115, 49, 50, 56, 45, 103, 99, 109]⟩ : ByteArray) y_13 y_2 y_7 y_12 3 3), (api_Suite.mk 0 (⟨#[101, 99, 100, 104, 101, 45, 101, 99, 100, 115, 97, 45, 97, 101, 115, 50, 53, 54, 45, 103, 99, 109]⟩ : ByteArray) y_21 y_4 y_8 y_12 3 3), (api_Suite.mk 0 (⟨#[101, 99, 100, 104, 101, 45, 114, 115, 97, 45, 99, 104, 97, 99, 104, 97]⟩ : ByteArray) y_13 y_2 y_9 y_12 3 3), (api_Suite.mk 0 (⟨#[114, 115, 97, 45, 97, 101, 115, 50, 53, 54, 45, 103, 99, 109]⟩ : ByteArray) y y_2 y_8 y_12 3 3), (api_Suite.mk 0 (⟨#[97, 101, 115, 49, 50, 56, 45, 103, 99, 109]⟩ : ByteArray) y_13 (api_Use.mk 0 0) y_7 y_12 4 4), (api_Suite.mk 0 (⟨#[99, 104, 97, 99, 104, 97]⟩ : ByteArray) y_13 (api_Use.mk 0 0) y_9 y_12 4 4), (api_Suite.mk 0 (⟨#[109, 108, 107, 101, 109, 45, 97, 101, 115, 50, 53, 54, 45, 103, 99, 109]⟩ : ByteArray) y_22 (api_Use.mk 0 0) y_8 y_12 4 4)] : List api_Suite).length : Int)))
    ((getI l_1 x114_1).bind fun e =>
    some (.next (W (x114_1 + 1), setI l_1 ((x114_1).toNat) (api_Suite.mk (W (x114_1 + 1)) e.Name e.Exchange e.Sign e.Cipher e.Mac e.Least e.Most))))
    (up (
      some l_1))
noncomputable def g_catalog_Suites : Option ((List api_Suite)) :=
  (g_catalog_use 10 0).bind fun y =>
  (g_catalog_use 5 0).bind fun y_2 =>
  (g_catalog_use 6 0).bind fun y_3 =>
  (g_catalog_use 7 0).bind fun y_4 =>
  (g_catalog_use 15 168).bind fun y_5 =>
  (g_catalog_use 16 128).bind fun y_6 =>
  (g_catalog_use 17 128).bind fun y_7 =>
  (g_catalog_use 17 256).bind fun y_8 =>
  (g_catalog_use 18 0).bind fun y_9 =>
  (g_catalog_use 19 0).bind fun y_10 =>
  (g_catalog_use 20 0).bind fun y_11 =>
  (g_catalog_use 22 0).bind fun y_12 =>
  (g_catalog_use 12 256).bind fun y_13 =>
  (g_catalog_use 14 128).bind fun y_14 =>
  (g_catalog_use 14 128).bind fun y_15 =>
  (g_catalog_use 11 1024).bind fun y_16 =>
  (g_catalog_use 11 1024).bind fun y_17 =>
  (g_catalog_use 11 2048).bind fun y_18 =>
  (g_catalog_use 16 256).bind fun y_19 =>
  (g_catalog_use 21 0).bind fun y_20 =>
  (g_catalog_use 12 384).bind fun y_21 =>
  (g_catalog_use 13 768).bind fun y_22 =>
  loop (fun q' => g_catalog_Suites.l1 y y_2 y_3 y_4 y_5 y_6 y_7 y_8 y_9 y_10 y_11 y_12 y_13 y_14 y_15 y_16 y_17 y_18 y_19 y_20 y_21 y_22 q'.1 q'.2) (0, ([(api_Suite.mk 0 (⟨#[114, 115, 97, 45, 114, 99, 52, 45, 109, 100, 53]⟩ : ByteArray) y y_2 y_14 y_10 1 2), (api_Suite.mk 0 (⟨#[114, 115, 97, 45, 114, 99, 52, 45, 115, 104, 97]⟩ : ByteArray) y y_2 y_15 y_11 1 3), (api_Suite.mk 0 (⟨#[114, 115, 97, 45, 100, 101, 115, 51, 45, 115, 104, 97]⟩ : ByteArray) y y_2 y_5 y_11 1 3), (api_Suite.mk 0 (⟨#[100, 104, 101, 45, 100, 115, 97, 45, 100, 101, 115, 51, 45, 115, 104, 97]⟩ : ByteArray) y_16 y_3 y_5 y_11 1 3), (api_Suite.mk 0 (⟨#[100, 104, 101, 45, 114, 115, 97, 45, 100, 101, 115, 51, 45, 115, 104, 97]⟩ : ByteArray) y_17 y_2 y_5 y_11 1 3), (api_Suite.mk 0 (⟨#[114, 115, 97, 45, 97, 101, 115, 49, 50, 56, 45, 115, 104, 97]⟩ : ByteArray) y y_2 y_6 y_11 1 3), (api_Suite.mk 0 (⟨#[100, 104, 101, 45, 114, 115, 97, 45, 97, 101, 115, 49, 50, 56, 45, 115, 104, 97]⟩ : ByteArray) y_18 y_2 y_6 y_11 1 3), (api_Suite.mk 0 (⟨#[101, 99, 100, 104, 101, 45, 114, 115, 97, 45, 97, 101, 115, 49, 50, 56, 45, 115, 104, 97]⟩ : ByteArray) y_13 y_2 y_6 y_11 1 3), (api_Suite.mk 0 (⟨#[101, 99, 100, 104, 101, 45, 101, 99, 100, 115, 97, 45, 97, 101, 115, 50, 53, 54, 45, 115, 104, 97, 50, 53, 54]⟩ : ByteArray) y_13 y_4 y_19 y_20 3 3), (api_Suite.mk 0 (⟨#[101, 99, 100, 104, 101, 45, 114, 115, 97, 45, 97, 101, 115, 49, 50, 56, 45, 103, 99, 109]⟩ : ByteArray) y_13 y_2 y_7 y_12 3 3), (api_Suite.mk 0 (⟨#[101, 99, 100, 104, 101, 45, 101, 99, 100, 115, 97, 45, 97, 101, 115, 50, 53, 54, 45, 103, 99, 109]⟩ : ByteArray) y_21 y_4 y_8 y_12 3 3), (api_Suite.mk 0 (⟨#[101, 99, 100, 104, 101, 45, 114, 115, 97, 45, 99, 104, 97, 99, 104, 97]⟩ : ByteArray) y_13 y_2 y_9 y_12 3 3), (api_Suite.mk 0 (⟨#[114, 115, 97, 45, 97, 101, 115, 50, 53, 54, 45, 103, 99, 109]⟩ : ByteArray) y y_2 y_8 y_12 3 3), (api_Suite.mk 0 (⟨#[97, 101, 115, 49, 50, 56, 45, 103, 99, 109]⟩ : ByteArray) y_13 (api_Use.mk 0 0) y_7 y_12 4 4), (api_Suite.mk 0 (⟨#[99, 104, 97, 99, 104, 97]⟩ : ByteArray) y_13 (api_Use.mk 0 0) y_9 y_12 4 4), (api_Suite.mk 0 (⟨#[109, 108, 107, 101, 109, 45, 97, 101, 115, 50, 53, 54, 45, 103, 99, 109]⟩ : ByteArray) y_22 (api_Use.mk 0 0) y_8 y_12 4 4)] : List api_Suite))
noncomputable def g_catalog_Suite.j1 (code : Int) (y : (List api_Suite)) (x13_1 : Bool) : Option (api_Suite × Int) :=
  cond (x13_1)
    (some ((api_Suite.mk 0 (⟨#[]⟩ : ByteArray) (api_Use.mk 0 0) (api_Use.mk 0 0) (api_Use.mk 0 0) (api_Use.mk 0 0) 0 0), 8))
    ((getI y (W (code - 1))).bind fun e =>
    some (e, 0))
noncomputable def g_catalog_Suite (code : Int) : Option (api_Suite × Int) :=
  (g_catalog_Suites).bind fun y =>
  cond (decide (code < 1))
    (g_catalog_Suite.j1 code y true)
    (g_catalog_Suite.j1 code y (decide ((y.length : Int) < code)))
noncomputable def g_slices_Index_int.l1 (s : (List Int)) (v : Int) (x8_1 : Int) : Option (Lp (Int) (Int)) :=
  cond (decide (x8_1 < (s.length : Int)))
    ((getI s x8_1).bind fun e =>
    cond (decide (v = e))
      (up (some x8_1))
      (some (.next (W (x8_1 + 1)))))
    (up (
      some (-1)))
noncomputable def g_slices_Index_int (s : (List Int)) (v : Int) : Option (Int) :=
  loop (fun q' => g_slices_Index_int.l1 s v q') 0
noncomputable def g_slices_Contains_int (s : (List Int)) (v : Int) : Option (Bool) :=
  (g_slices_Index_int s v).bind fun y =>
  some (decide (0 ≤ y))
noncomputable def g_endpoint_suites.j2 (x9_1 : Int) (x27_2 : Bool) : Option (Lp (Int) (Bool)) :=
  cond (x27_2)
    (up (some false))
    (some (.next (W (x9_1 + 1))))
noncomputable def g_endpoint_suites.l1 (l : (List Int)) (x9_1 : Int) : Option (Lp (Int) (Bool)) :=
  cond (decide (x9_1 < (l.length : Int)))
    ((getI l x9_1).bind fun e =>
    (g_catalog_Suite e).bind fun y =>
    cond (!decide (y.2 = 0))
      (g_endpoint_suites.j2 x9_1 true)
      ((slI l 0 x9_1).bind fun l_2 =>
      (g_slices_Contains_int l_2 e).bind fun y_2 =>
      g_endpoint_suites.j2 x9_1 y_2))
    (up (
      some true))
noncomputable def g_endpoint_suites (l : (List Int)) : Option (Bool) :=
  loop (fun q' => g_endpoint_suites.l1 l q') 0
noncomputable def g_endpoint_ascends.j2 (x6_1 : Int) (x22_2 : Bool) : Option (Lp (Int) (Bool)) :=
  cond (x22_2)
    (up (some false))
    (some (.next (W (x6_1 + 1))))
noncomputable def g_endpoint_ascends.l1 (l : (List Int)) (x6_1 : Int) : Option (Lp (Int) (Bool)) :=
  cond (decide (x6_1 < (l.length : Int)))
    (cond (decide (0 < x6_1))
      ((getI l (W (x6_1 - 1))).bind fun e =>
      (getI l x6_1).bind fun e_2 =>
      g_endpoint_ascends.j2 x6_1 (decide (e_2 ≤ e)))
      (g_endpoint_ascends.j2 x6_1 false))
    (up (
      some true))
noncomputable def g_endpoint_ascends (l : (List Int)) : Option (Bool) :=
  loop (fun q' => g_endpoint_ascends.l1 l q') 0
noncomputable def g_catalog_rows : Option ((List catalog_row)) :=
  some ([(catalog_row.mk (⟨#[]⟩ : ByteArray) 0 0 ([] : (List Int)) ([] : (List Int))), (catalog_row.mk (⟨#[109, 100, 53]⟩ : ByteArray) 1 0 ([] : (List Int)) ([18] : List Int)), (catalog_row.mk (⟨#[115, 104, 97, 49]⟩ : ByteArray) 1 0 ([] : (List Int)) ([60] : List Int)), (catalog_row.mk (⟨#[115, 104, 97, 50, 53, 54]⟩ : ByteArray) 1 0 ([] : (List Int)) ([128] : List Int)), (catalog_row.mk (⟨#[115, 104, 97, 51, 56, 52]⟩ : ByteArray) 1 0 ([] : (List Int)) ([192] : List Int)), (catalog_row.mk (⟨#[114, 115, 97]⟩ : ByteArray) 2 1 ([] : (List Int)) ([] : (List Int))), (catalog_row.mk (⟨#[100, 115, 97]⟩ : ByteArray) 2 1 ([] : (List Int)) ([] : (List Int))), (catalog_row.mk (⟨#[101, 99, 100, 115, 97]⟩ : ByteArray) 2 2 ([] : (List Int)) ([] : (List Int))), (catalog_row.mk (⟨#[101, 100, 50, 53, 53, 49, 57]⟩ : ByteArray) 2 0 ([] : (List Int)) ([128] : List Int)), (catalog_row.mk (⟨#[109, 108, 100, 115, 97]⟩ : ByteArray) 2 3 ([44, 65, 87] : List Int) ([128, 192, 256] : List Int)), (catalog_row.mk (⟨#[114, 115, 97, 107, 120]⟩ : ByteArray) 3 1 ([] : (List Int)) ([] : (List Int))), (catalog_row.mk (⟨#[100, 104, 101]⟩ : ByteArray) 3 1 ([] : (List Int)) ([] : (List Int))), (catalog_row.mk (⟨#[101, 99, 100, 104, 101]⟩ : ByteArray) 3 2 ([] : (List Int)) ([] : (List Int))), (catalog_row.mk (⟨#[109, 108, 107, 101, 109]⟩ : ByteArray) 3 3 ([512, 768, 1024] : List Int) ([128, 192, 256] : List Int)), (catalog_row.mk (⟨#[114, 99, 52]⟩ : ByteArray) 4 3 ([40, 128] : List Int) ([40, 60] : List Int)), (catalog_row.mk (⟨#[100, 101, 115, 51]⟩ : ByteArray) 4 3 ([112, 168] : List Int) ([80, 112] : List Int)), (catalog_row.mk (⟨#[97, 101, 115, 99, 98, 99]⟩ : ByteArray) 4 3 ([128, 256] : List Int) ([128, 256] : List Int)), (catalog_row.mk (⟨#[97, 101, 115, 103, 99, 109]⟩ : ByteArray) 4 3 ([128, 256] : List Int) ([128, 256] : List Int)), (catalog_row.mk (⟨#[99, 104, 97, 99, 104, 97]⟩ : ByteArray) 4 0 ([] : (List Int)) ([256] : List Int)), (catalog_row.mk (⟨#[104, 109, 97, 99, 109, 100, 53]⟩ : ByteArray) 5 0 ([] : (List Int)) ([64] : List Int)), (catalog_row.mk (⟨#[104, 109, 97, 99, 115, 104, 97, 49]⟩ : ByteArray) 5 0 ([] : (List Int)) ([80] : List Int)), (catalog_row.mk (⟨#[104, 109, 97, 99, 115, 104, 97, 50, 53, 54]⟩ : ByteArray) 5 0 ([] : (List Int)) ([128] : List Int)), (catalog_row.mk (⟨#[97, 101, 97, 100]⟩ : ByteArray) 5 0 ([] : (List Int)) ([256] : List Int))] : List catalog_row)
noncomputable def g_catalog_of.j1 (alg : Int) (x9_1 : Bool) : Option (catalog_row × Bool) :=
  cond (x9_1)
    (some ((catalog_row.mk (⟨#[]⟩ : ByteArray) 0 0 ([] : (List Int)) ([] : (List Int))), false))
    ((g_catalog_rows).bind fun y =>
    (getI (arrL 23 y) alg).bind fun e =>
    some (e, true))
noncomputable def g_catalog_of (alg : Int) : Option (catalog_row × Bool) :=
  cond (decide (alg < 1))
    (g_catalog_of.j1 alg true)
    (g_catalog_of.j1 alg (decide (22 < alg)))
noncomputable def g_catalog_modulus.l1 (bits : Int) (x11_1 : Int) : Option (Lp (Int) (Int)) :=
  cond (decide (x11_1 < 5))
    ((getI ([([1024, 56] : List Int), ([2048, 80] : List Int), ([3072, 112] : List Int), ([7680, 128] : List Int), ([15360, 192] : List Int)] : List (List Int)) x11_1).bind fun e =>
    cond (decide (bits < (e[0]!)))
      (up (some (e[1]!)))
      (some (.next (W (x11_1 + 1)))))
    (up (
      some 256))
noncomputable def g_catalog_modulus (bits : Int) : Option (Int) :=
  loop (fun q' => g_catalog_modulus.l1 bits q') 0
noncomputable def g_catalog_Strength.j1 (u : api_Use) (x34_1 : Bool) : Option (Int) :=
  cond (x34_1)
    ((g_catalog_modulus u.Bits).bind fun y_2 =>
    some y_2)
    (some 0)
noncomputable def g_catalog_Strength (u : api_Use) : Option (Int) :=
  (g_catalog_of u.Alg).bind fun y =>
  cond (!y.2)
    (some 0)
    (cond (decide (y.1.way = 0))
      (cond (decide (u.Bits = 0))
        ((getI y.1.strengths 0).bind fun e =>
        some e)
        (some 0))
      (cond (decide (y.1.way = 1))
        (cond (decide (512 ≤ u.Bits))
          (g_catalog_Strength.j1 u (decide (u.Bits ≤ 16384)))
          (g_catalog_Strength.j1 u false))
        (cond (decide (y.1.way = 2))
          ((g_slices_Contains_int ([160, 224, 256, 384, 521] : List Int) u.Bits).bind fun y_3 =>
          cond (y_3)
            ((quoI u.Bits 2).bind fun q =>
            some q)
            (some 0))
          (cond (decide (y.1.way = 3))
            ((g_slices_Index_int y.1.sizes u.Bits).bind fun y_4 =>
            cond (decide (0 ≤ y_4))
              ((getI y.1.strengths y_4).bind fun e_2 =>
              some e_2)
              (some 0))
            (some 0)))))
noncomputable def g_catalog_Valid (u : api_Use) : Option (Bool) :=
  (g_catalog_Strength u).bind fun y =>
  some (decide (0 < y))
noncomputable def g_catalog_Kind (alg : Int) : Option (Int) :=
  (g_catalog_of alg).bind fun y =>
  some y.1.kind
noncomputable def g_certificate_Key (n : Int) : Option (Bool) :=
  cond (decide (0 ≤ n))
    (some (decide (n ≤ 2147483648)))
    (some false)
noncomputable def g_catalog_Named.j2 (x8_1 : Int) (x17_2 : Bool) : Option (Lp (Int) (Bool)) :=
  cond (x17_2)
    (up (some false))
    (some (.next (W (x8_1 + 1))))
noncomputable def g_catalog_Named.l1 (s : ByteArray) (x8_1 : Int) : Option (Lp (Int) (Bool)) :=
  cond (decide (x8_1 < ((toB s).length : Int)))
    ((getI (toB s) x8_1).bind fun e =>
    cond (decide ((e.toNat : Int) ≤ 32))
      (g_catalog_Named.j2 x8_1 true)
      (g_catalog_Named.j2 x8_1 (decide (126 < (e.toNat : Int)))))
    (up (
      cond (decide (1 ≤ (s.size : Int)))
        (some (decide ((s.size : Int) ≤ 32)))
        (some false)))
noncomputable def g_catalog_Named (s : ByteArray) : Option (Bool) :=
  loop (fun q' => g_catalog_Named.l1 s q') 0
noncomputable def g_certificate_named.j2 (x7_1 : Int) (x27_2 : Bool) : Option (Lp (Int) (Bool)) :=
  cond (x27_2)
    (up (some false))
    (some (.next (W (x7_1 + 1))))
noncomputable def g_certificate_named.l1 (l : (List ByteArray)) (x7_1 : Int) : Option (Lp (Int) (Bool)) :=
  cond (decide (x7_1 < (l.length : Int)))
    ((getI l x7_1).bind fun e =>
    (g_catalog_Named e).bind fun y =>
    cond (!y)
      (g_certificate_named.j2 x7_1 true)
      (cond (decide (0 < x7_1))
        ((getI l (W (x7_1 - 1))).bind fun e_2 =>
        g_certificate_named.j2 x7_1 (!ltT (toB e_2) (toB e)))
        (g_certificate_named.j2 x7_1 false)))
    (up (
      some (decide ((l.length : Int) ≤ 8))))
noncomputable def g_certificate_named (l : (List ByteArray)) : Option (Bool) :=
  loop (fun q' => g_certificate_named.l1 l q') 0
noncomputable def g_certificate_of (u : api_Use) (kind : Int) : Option (Bool) :=
  (g_catalog_Valid u).bind fun y =>
  cond (y)
    ((g_catalog_Kind u.Alg).bind fun y_2 =>
    some (decide (y_2 = kind)))
    (some false)
noncomputable def g_certificate_sum (n : Int) : Option (Bool) :=
  cond (decide (0 ≤ n))
    (some (decide (n < 4294967296)))
    (some false)
noncomputable def g_certificate_valid.j3 (c : api_Certificate) (x73_3 : Bool) : Option (Bool) :=
  cond (x73_3)
    (some false)
    (cond (decide (0 ≤ c.Path))
      (cond (decide (c.Path ≤ 8))
        (cond (c.Authority)
          (some true)
          (some (decide (c.Path = 0))))
        (some false))
      (some false))
noncomputable def g_certificate_valid.j2 (c : api_Certificate) (x58_2 : Bool) : Option (Bool) :=
  cond (x58_2)
    (some false)
    (cond (decide (c.From < 0))
      (g_certificate_valid.j3 c true)
      (cond (decide (c.To < c.From))
        (g_certificate_valid.j3 c true)
        (g_certificate_valid.j3 c (decide (40000 < c.To)))))
noncomputable def g_certificate_valid.j1 (c : api_Certificate) (x28_1 : Bool) : Option (Bool) :=
  cond (x28_1)
    (some false)
    ((g_certificate_of c.Key 2).bind fun y_4 =>
    cond (!y_4)
      (g_certificate_valid.j2 c true)
      ((g_certificate_Key c.KeyId).bind fun y_5 =>
      cond (!y_5)
        (g_certificate_valid.j2 c true)
        ((g_certificate_of c.Hash 1).bind fun y_6 =>
        cond (!y_6)
          (g_certificate_valid.j2 c true)
          ((g_certificate_Key c.Seal.Key).bind fun y_7 =>
          cond (!y_7)
            (g_certificate_valid.j2 c true)
            ((g_certificate_sum c.Seal.Sum).bind fun y_8 =>
            g_certificate_valid.j2 c (!y_8))))))
noncomputable def g_certificate_valid (c : api_Certificate) : Option (Bool) :=
  cond (decide (c.Serial < 0))
    (g_certificate_valid.j1 c true)
    (cond (decide (1099511627776 < c.Serial))
      (g_certificate_valid.j1 c true)
      ((g_catalog_Named c.Issuer).bind fun y =>
      cond (!y)
        (g_certificate_valid.j1 c true)
        ((g_catalog_Named c.Subject).bind fun y_2 =>
        cond (!y_2)
          (g_certificate_valid.j1 c true)
          ((g_certificate_named c.Names).bind fun y_3 =>
          g_certificate_valid.j1 c (!y_3)))))
noncomputable def g_certificate_Check (c : api_Certificate) : Option (Int) :=
  (g_certificate_valid c).bind fun y =>
  cond (!y)
    (some 9)
    (some 0)
noncomputable def g_keystore_Shows.l2 (key : api_Use) (id : Int) (l : (List api_Certificate)) (x30_2 : Int) : Option (Lp (Int) (Bool)) :=
  cond (decide (x30_2 < (l.length : Int)))
    ((getI l x30_2).bind fun e =>
    (g_certificate_Check e).bind fun y_4 =>
    cond (!decide (y_4 = 0))
      (up (some false))
      (some (.next (W (x30_2 + 1)))))
    (up (
      cond (decide ((l.length : Int) = 0))
        (some true)
        ((getI l 0).bind fun e_2 =>
        cond (decide (e_2.Key = key))
          (some (decide (e_2.KeyId = id)))
          (some false))))
noncomputable def g_keystore_Shows.j1 (key : api_Use) (id : Int) (l : (List api_Certificate)) (x27_1 : Bool) : Option (Bool) :=
  cond (x27_1)
    (some false)
    (loop (fun q' => g_keystore_Shows.l2 key id l q') 0)
noncomputable def g_keystore_Shows (key : api_Use) (id : Int) (l : (List api_Certificate)) : Option (Bool) :=
  (g_catalog_Valid key).bind fun y =>
  cond (!y)
    (g_keystore_Shows.j1 key id l true)
    ((g_catalog_Kind key.Alg).bind fun y_2 =>
    cond (!decide (y_2 = 2))
      (g_keystore_Shows.j1 key id l true)
      ((g_certificate_Key id).bind fun y_3 =>
      cond (!y_3)
        (g_keystore_Shows.j1 key id l true)
        (g_keystore_Shows.j1 key id l (decide (8 < (l.length : Int))))))
noncomputable def g_endpoint_Check_c1_f92 : Option (Unit) :=
  some ()
noncomputable def g_endpoint_Check_c1_c1_f92 (n : Int) : Option (Bool) :=
  (g_certificate_Key n).bind fun y =>
  some (!y)
noncomputable def g_slices_IndexFunc_int.l1 (s : (List Int)) (f : Int → Option (Bool)) (x8_1 : Int) : Option (Lp (Int) (Int)) :=
  cond (decide (x8_1 < (s.length : Int)))
    ((getI s x8_1).bind fun e =>
    (f e).bind fun y =>
    cond (y)
      (up (some x8_1))
      (some (.next (W (x8_1 + 1)))))
    (up (
      some (-1)))
noncomputable def g_slices_IndexFunc_int (s : (List Int)) (f : Int → Option (Bool)) : Option (Int) :=
  loop (fun q' => g_slices_IndexFunc_int.l1 s f q') 0
noncomputable def g_slices_ContainsFunc_int (s : (List Int)) (f : Int → Option (Bool)) : Option (Bool) :=
  (g_slices_IndexFunc_int s f).bind fun y =>
  some (decide (0 ≤ y))
noncomputable def g_endpoint_Check_c1_f93 : Option (Unit) :=
  some ()
noncomputable def g_endpoint_hash (alg : Int) : Option (Bool) :=
  (g_catalog_Kind alg).bind fun y =>
  some (decide (y = 1))
noncomputable def g_endpoint_Check_c1_c1_f93 (n : Int) : Option (Bool) :=
  (g_endpoint_hash n).bind fun y =>
  some (!y)
noncomputable def g_endpoint_Check.j4 (x82_4 : Bool) : Option (Int) :=
  cond (x82_4)
    (some 19)
    (some 0)
noncomputable def g_endpoint_Check.l3 (e : api_Endpoint) (x58_3 : Int) : Option (Lp (Int) (Int)) :=
  cond (decide (x58_3 < (e.Identities.length : Int)))
    ((getI e.Identities x58_3).bind fun e_2 =>
    (g_keystore_Shows e_2.Key e_2.KeyId e_2.Chain).bind fun y_5 =>
    cond (!y_5)
      (up (some 19))
      (some (.next (W (x58_3 + 1)))))
    (up (
      (g_endpoint_Check_c1_f92).bind fun y_6 =>
      (g_slices_ContainsFunc_int e.Anchors (fun x0 => g_endpoint_Check_c1_c1_f92 x0)).bind fun y_7 =>
      cond (y_7)
        (g_endpoint_Check.j4 true)
        ((g_endpoint_Check_c1_f93).bind fun y_8 =>
        (g_slices_ContainsFunc_int e.Hashes (fun x0 => g_endpoint_Check_c1_c1_f93 x0)).bind fun y_9 =>
        g_endpoint_Check.j4 y_9)))
noncomputable def g_endpoint_Check.j2 (e : api_Endpoint) (x54_2 : Bool) : Option (Int) :=
  cond (x54_2)
    (some 19)
    (loop (fun q' => g_endpoint_Check.l3 e q') 0)
noncomputable def g_endpoint_Check.j1 (e : api_Endpoint) (x32_1 : Bool) : Option (Int) :=
  cond (x32_1)
    (some 19)
    (cond (decide (4 < (e.Identities.length : Int)))
      (g_endpoint_Check.j2 e true)
      (cond (decide (16 < (e.Anchors.length : Int)))
        (g_endpoint_Check.j2 e true)
        ((g_endpoint_ascends e.Anchors).bind fun y_3 =>
        cond (!y_3)
          (g_endpoint_Check.j2 e true)
          ((g_endpoint_ascends e.Hashes).bind fun y_4 =>
          g_endpoint_Check.j2 e (!y_4)))))
noncomputable def g_endpoint_Check (e : api_Endpoint) : Option (Int) :=
  (g_settings_Word e.Name).bind fun y =>
  cond (!y)
    (g_endpoint_Check.j1 e true)
    (cond (decide (e.Least < 1))
      (g_endpoint_Check.j1 e true)
      (cond (decide (e.Most < e.Least))
        (g_endpoint_Check.j1 e true)
        (cond (decide (4 < e.Most))
          (g_endpoint_Check.j1 e true)
          ((g_endpoint_suites e.Suites).bind fun y_2 =>
          g_endpoint_Check.j1 e (!y_2)))))
noncomputable def g_lifetime_Check.j4 (x47_3 : Int) (x81_4 : Bool) : Option (Lp (Int) (Int)) :=
  cond (x81_4)
    (up (some 30))
    (some (.next (W (x47_3 + 1))))
noncomputable def g_lifetime_Check.j5 (x95_5 : Bool) : Option (Int) :=
  cond (x95_5)
    (some 30)
    (some 0)
noncomputable def g_lifetime_Check.l3 (i : api_Item) (x47_3 : Int) : Option (Lp (Int) (Int)) :=
  cond (decide (x47_3 < (i.Links.length : Int)))
    ((getI i.Links x47_3).bind fun e =>
    (g_catalog_Valid e.Use).bind fun y_2 =>
    cond (!y_2)
      (g_lifetime_Check.j4 x47_3 true)
      (cond (decide (e.Day < 0))
        (g_lifetime_Check.j4 x47_3 true)
        (cond (decide (40000 < e.Day))
          (g_lifetime_Check.j4 x47_3 true)
          (cond (decide (0 < x47_3))
            ((getI i.Links (W (x47_3 - 1))).bind fun e_2 =>
            g_lifetime_Check.j4 x47_3 (decide (e.Day ≤ e_2.Day)))
            (g_lifetime_Check.j4 x47_3 false)))))
    (up (
      (getI i.Links 0).bind fun e_3 =>
      cond (decide (i.Until < e_3.Day))
        (g_lifetime_Check.j5 true)
        (g_lifetime_Check.j5 (decide (40000 < i.Until)))))
noncomputable def g_lifetime_Check.j2 (i : api_Item) (x43_2 : Bool) : Option (Int) :=
  cond (x43_2)
    (some 30)
    (loop (fun q' => g_lifetime_Check.l3 i q') 0)
noncomputable def g_lifetime_Check.j1 (i : api_Item) (known_1 : Bool) : Option (Int) :=
  (g_catalog_Named i.Name).bind fun y =>
  cond (!y)
    (g_lifetime_Check.j2 i true)
    (cond (!known_1)
      (g_lifetime_Check.j2 i true)
      (cond (decide (i.Purpose < 1))
        (g_lifetime_Check.j2 i true)
        (cond (decide (4 < i.Purpose))
          (g_lifetime_Check.j2 i true)
          (cond (decide ((i.Links.length : Int) < 1))
            (g_lifetime_Check.j2 i true)
            (g_lifetime_Check.j2 i (decide (8 < (i.Links.length : Int))))))))
noncomputable def g_lifetime_Check (i : api_Item) : Option (Int) :=
  cond (decide (i.Kind = 1))
    (g_lifetime_Check.j1 i true)
    (g_lifetime_Check.j1 i (decide (i.Kind = 2)))
noncomputable def g_exposure_Check_c1 (x' : api_Item) : Option (Bool) :=
  (g_lifetime_Check x').bind fun y =>
  some (!decide (y = 0))
noncomputable def g_slices_IndexFunc_api_Item.l1 (s : (List api_Item)) (f : api_Item → Option (Bool)) (x8_1 : Int) : Option (Lp (Int) (Int)) :=
  cond (decide (x8_1 < (s.length : Int)))
    ((getI s x8_1).bind fun e =>
    (f e).bind fun y =>
    cond (y)
      (up (some x8_1))
      (some (.next (W (x8_1 + 1)))))
    (up (
      some (-1)))
noncomputable def g_slices_IndexFunc_api_Item (s : (List api_Item)) (f : api_Item → Option (Bool)) : Option (Int) :=
  loop (fun q' => g_slices_IndexFunc_api_Item.l1 s f q') 0
noncomputable def g_slices_ContainsFunc_api_Item (s : (List api_Item)) (f : api_Item → Option (Bool)) : Option (Bool) :=
  (g_slices_IndexFunc_api_Item s f).bind fun y =>
  some (decide (0 ≤ y))
noncomputable def g_exposure_linked.j3 (x9_1 : Int) (x75_3 : Bool) : Option (Lp (Int) (Bool)) :=
  cond (x75_3)
    (up (some false))
    (some (.next (W (x9_1 + 1))))
noncomputable def g_exposure_linked.j2 (l : (List api_Edge)) (x9_1 : Int) (e : api_Edge) (x40_2 : Bool) : Option (Lp (Int) (Bool)) :=
  cond (x40_2)
    (up (some false))
    (cond (decide (0 < x9_1))
      ((getI l (W (x9_1 - 1))).bind fun e_2 =>
      cond (decide (e.Client < e_2.Client))
        (g_exposure_linked.j3 x9_1 true)
        (cond (decide (e_2.Client = e.Client))
          (g_exposure_linked.j3 x9_1 (decide (e.Server ≤ e_2.Server)))
          (g_exposure_linked.j3 x9_1 false)))
      (g_exposure_linked.j3 x9_1 false))
noncomputable def g_exposure_linked.l1 (l : (List api_Edge)) (size : Int) (x9_1 : Int) : Option (Lp (Int) (Bool)) :=
  cond (decide (x9_1 < (l.length : Int)))
    ((getI l x9_1).bind fun e =>
    cond (decide (e.Client < 0))
      (g_exposure_linked.j2 l x9_1 e true)
      (cond (decide (size ≤ e.Client))
        (g_exposure_linked.j2 l x9_1 e true)
        (cond (decide (e.Server < 0))
          (g_exposure_linked.j2 l x9_1 e true)
          (cond (decide (size ≤ e.Server))
            (g_exposure_linked.j2 l x9_1 e true)
            (g_exposure_linked.j2 l x9_1 e (decide (e.Client = e.Server)))))))
    (up (
      some (decide ((l.length : Int) ≤ 40))))
noncomputable def g_exposure_linked (l : (List api_Edge)) (size : Int) : Option (Bool) :=
  loop (fun q' => g_exposure_linked.l1 l size q') 0
noncomputable def g_exposure_Check.j2 (x9_1 : Int) (x32_2 : Bool) : Option (Lp (Int) (Int)) :=
  cond (x32_2)
    (up (some 31))
    (some (.next (W (x9_1 + 1))))
noncomputable def g_exposure_Check.j3 (x58_3 : Bool) : Option (Int) :=
  cond (x58_3)
    (some 31)
    (some 0)
noncomputable def g_exposure_Check.l1 (e : api_Estate) (x9_1 : Int) : Option (Lp (Int) (Int)) :=
  cond (decide (x9_1 < (e.Endpoints.length : Int)))
    ((getI e.Endpoints x9_1).bind fun e_2 =>
    (g_endpoint_Check e_2).bind fun y =>
    cond (!decide (y = 0))
      (g_exposure_Check.j2 x9_1 true)
      (cond (decide (0 < x9_1))
        ((getI e.Endpoints (W (x9_1 - 1))).bind fun e_3 =>
        g_exposure_Check.j2 x9_1 (!ltT (toB e_3.Name) (toB e_2.Name)))
        (g_exposure_Check.j2 x9_1 false)))
    (up (
      (g_slices_ContainsFunc_api_Item e.Items (fun x0 => g_exposure_Check_c1 x0)).bind fun y_2 =>
      cond (y_2)
        (g_exposure_Check.j3 true)
        (cond (decide (16 < (e.Endpoints.length : Int)))
          (g_exposure_Check.j3 true)
          (cond (decide (30 < (e.Items.length : Int)))
            (g_exposure_Check.j3 true)
            ((g_exposure_linked e.Edges (e.Endpoints.length : Int)).bind fun y_3 =>
            g_exposure_Check.j3 (!y_3))))))
noncomputable def g_exposure_Check (e : api_Estate) : Option (Int) :=
  loop (fun q' => g_exposure_Check.l1 e q') 0
noncomputable def g_need_named (e : api_Estate) (c : api_Change) : Option (Bool) :=
  cond (decide (0 ≤ c.Endpoint))
    (some (decide (c.Endpoint < (e.Endpoints.length : Int))))
    (some false)
noncomputable def g_need_Derive_c1 (c : api_Change) (c0 : api_Estate) : Option (Bool) :=
  (g_need_named c0 c).bind fun y =>
  some (!y)
noncomputable def g_slices_IndexFunc_api_Change.l1 (s : (List api_Change)) (f : api_Change → Option (Bool)) (x8_1 : Int) : Option (Lp (Int) (Int)) :=
  cond (decide (x8_1 < (s.length : Int)))
    ((getI s x8_1).bind fun e =>
    (f e).bind fun y =>
    cond (y)
      (up (some x8_1))
      (some (.next (W (x8_1 + 1)))))
    (up (
      some (-1)))
noncomputable def g_slices_IndexFunc_api_Change (s : (List api_Change)) (f : api_Change → Option (Bool)) : Option (Int) :=
  loop (fun q' => g_slices_IndexFunc_api_Change.l1 s f q') 0
noncomputable def g_slices_ContainsFunc_api_Change (s : (List api_Change)) (f : api_Change → Option (Bool)) : Option (Bool) :=
  (g_slices_IndexFunc_api_Change s f).bind fun y =>
  some (decide (0 ≤ y))
noncomputable def g_slices_Index_api_Edge.l1 (s : (List api_Edge)) (v : api_Edge) (x8_1 : Int) : Option (Lp (Int) (Int)) :=
  cond (decide (x8_1 < (s.length : Int)))
    ((getI s x8_1).bind fun e =>
    cond (decide (v = e))
      (up (some x8_1))
      (some (.next (W (x8_1 + 1)))))
    (up (
      some (-1)))
noncomputable def g_slices_Index_api_Edge (s : (List api_Edge)) (v : api_Edge) : Option (Int) :=
  loop (fun q' => g_slices_Index_api_Edge.l1 s v q') 0
noncomputable def g_slices_Contains_api_Edge (s : (List api_Edge)) (v : api_Edge) : Option (Bool) :=
  (g_slices_Index_api_Edge s v).bind fun y =>
  some (decide (0 ≤ y))
noncomputable def g_need_linked (e : api_Estate) (a : Int) (b : Int) : Option (Bool) :=
  cond (decide (a = b))
    (some true)
    ((g_slices_Contains_api_Edge e.Edges (api_Edge.mk a b)).bind fun y =>
    cond (y)
      (some true)
      ((g_slices_Contains_api_Edge e.Edges (api_Edge.mk b a)).bind fun y_2 =>
      some y_2))
noncomputable def g_need_Derive.j5 (x32_3 : Int) (out_5 : List api_Required) : Option (Lp (Int × List api_Required) (Lp (Int × List api_Required) ((List api_Required) × Int))) :=
  some (.next (W (x32_3 + 1), out_5))
noncomputable def g_need_Derive.j4 (x25_2 : Int) (x32_3 : Int) (out_3 : List api_Required) (x61_4 : Bool) : Option (Lp (Int × List api_Required) (Lp (Int × List api_Required) ((List api_Required) × Int))) :=
  cond (x61_4)
    ((appI 32 out_3 ([(api_Required.mk x25_2 x32_3)] : List api_Required)).bind fun l_2 =>
    g_need_Derive.j5 x32_3 l_2)
    (g_need_Derive.j5 x32_3 out_3)
noncomputable def g_need_Derive.l3 (e : api_Estate) (l : (List api_Change)) (x25_2 : Int) (e_2 : api_Change) (x32_3 : Int) (out_3 : List api_Required) : Option (Lp (Int × List api_Required) (Lp (Int × List api_Required) ((List api_Required) × Int))) :=
  cond (decide (x32_3 < (l.length : Int)))
    ((getI l x32_3).bind fun e_3 =>
    (getI e.Endpoints e_2.Endpoint).bind fun e_4 =>
    (g_need_Rank e_4 e_2).bind fun y_3 =>
    (getI e.Endpoints e_3.Endpoint).bind fun e_5 =>
    (g_need_Rank e_5 e_3).bind fun y_4 =>
    cond (decide (y_3 < y_4))
      ((g_need_linked e e_2.Endpoint e_3.Endpoint).bind fun y_5 =>
      g_need_Derive.j4 x25_2 x32_3 out_3 y_5)
      (g_need_Derive.j4 x25_2 x32_3 out_3 false))
    (up (
      some (.next (W (x25_2 + 1), out_3))))
noncomputable def g_need_Derive.l2 (e : api_Estate) (l : (List api_Change)) (x25_2 : Int) (out_2 : List api_Required) : Option (Lp (Int × List api_Required) ((List api_Required) × Int)) :=
  cond (decide (x25_2 < (l.length : Int)))
    ((getI l x25_2).bind fun e_2 =>
    loop (fun q' => g_need_Derive.l3 e l x25_2 e_2 q'.1 q'.2) (0, out_2))
    (up (
      (g_need_sorted out_2).bind fun y_6 =>
      some (y_6, 0)))
noncomputable def g_need_Derive (e : api_Estate) (l : (List api_Change)) : Option ((List api_Required) × Int) :=
  (g_exposure_Check e).bind fun y =>
  cond (!decide (y = 0))
    (some (([] : (List api_Required)), 31))
    (cond (decide (24 < (l.length : Int)))
      (some (([] : (List api_Required)), 3))
      ((g_slices_ContainsFunc_api_Change l (fun x0 => g_need_Derive_c1 x0 e)).bind fun y_2 =>
      cond (y_2)
        (some (([] : (List api_Required)), 40))
        (loop (fun q' => g_need_Derive.l2 e l q'.1 q'.2) (0, ([] : List api_Required)))))
noncomputable def g_need_Reduce_c1 (r' : api_Required) (c0 : Int) : Option (Bool) :=
  cond (decide (r'.First < 0))
    (some true)
    (cond (decide (c0 ≤ r'.First))
      (some true)
      (cond (decide (r'.Then < 0))
        (some true)
        (cond (decide (c0 ≤ r'.Then))
          (some true)
          (some (decide (r'.First = r'.Then))))))
noncomputable def g_slices_IndexFunc_api_Required.l1 (s : (List api_Required)) (f : api_Required → Option (Bool)) (x8_1 : Int) : Option (Lp (Int) (Int)) :=
  cond (decide (x8_1 < (s.length : Int)))
    ((getI s x8_1).bind fun e =>
    (f e).bind fun y =>
    cond (y)
      (up (some x8_1))
      (some (.next (W (x8_1 + 1)))))
    (up (
      some (-1)))
noncomputable def g_slices_IndexFunc_api_Required (s : (List api_Required)) (f : api_Required → Option (Bool)) : Option (Int) :=
  loop (fun q' => g_slices_IndexFunc_api_Required.l1 s f q') 0
noncomputable def g_slices_ContainsFunc_api_Required (s : (List api_Required)) (f : api_Required → Option (Bool)) : Option (Bool) :=
  (g_slices_IndexFunc_api_Required s f).bind fun y =>
  some (decide (0 ≤ y))
noncomputable def g_slices_Equal_api_Required.l1 (s1 : (List api_Required)) (s2 : (List api_Required)) (x13_1 : Int) : Option (Lp (Int) (Bool)) :=
  cond (decide (x13_1 < (s1.length : Int)))
    ((getI s1 x13_1).bind fun e =>
    (getI s2 x13_1).bind fun e_2 =>
    cond (!decide (e = e_2))
      (up (some false))
      (some (.next (W (x13_1 + 1)))))
    (up (
      some true))
noncomputable def g_slices_Equal_api_Required (s1 : (List api_Required)) (s2 : (List api_Required)) : Option (Bool) :=
  cond (!decide ((s1.length : Int) = (s2.length : Int)))
    (some false)
    (loop (fun q' => g_slices_Equal_api_Required.l1 s1 s2 q') 0)
noncomputable def g_need_reach.j6 (x30_4 : Int) (ways_6 : (List (api_Required × Bool))) : Option (Lp (Int × (List (api_Required × Bool))) (Lp (Int × (List (api_Required × Bool))) (Lp (Int × (List (api_Required × Bool))) ((List (api_Required × Bool)))))) :=
  some (.next (W (x30_4 + 1), ways_6))
noncomputable def g_need_reach.j5 (x26_3 : Int) (x30_4 : Int) (ways_4 : (List (api_Required × Bool))) (x44_5 : Bool) : Option (Lp (Int × (List (api_Required × Bool))) (Lp (Int × (List (api_Required × Bool))) (Lp (Int × (List (api_Required × Bool))) ((List (api_Required × Bool)))))) :=
  cond (x44_5)
    (g_need_reach.j6 x30_4 (mapPut ways_4 (api_Required.mk x26_3 x30_4) true))
    (g_need_reach.j6 x30_4 ways_4)
noncomputable def g_need_reach.l4 (n : Int) (x22_2 : Int) (x26_3 : Int) (x30_4 : Int) (ways_4 : (List (api_Required × Bool))) : Option (Lp (Int × (List (api_Required × Bool))) (Lp (Int × (List (api_Required × Bool))) (Lp (Int × (List (api_Required × Bool))) ((List (api_Required × Bool)))))) :=
  cond (decide (x30_4 < n))
    (cond ((mapGet ways_4 (api_Required.mk x26_3 x22_2) false))
      (g_need_reach.j5 x26_3 x30_4 ways_4 (mapGet ways_4 (api_Required.mk x22_2 x30_4) false))
      (g_need_reach.j5 x26_3 x30_4 ways_4 false))
    (up (
      some (.next (W (x26_3 + 1), ways_4))))
noncomputable def g_need_reach.l3 (n : Int) (x22_2 : Int) (x26_3 : Int) (ways_3 : (List (api_Required × Bool))) : Option (Lp (Int × (List (api_Required × Bool))) (Lp (Int × (List (api_Required × Bool))) ((List (api_Required × Bool))))) :=
  cond (decide (x26_3 < n))
    (loop (fun q' => g_need_reach.l4 n x22_2 x26_3 q'.1 q'.2) (0, ways_3))
    (up (
      some (.next (W (x22_2 + 1), ways_3))))
noncomputable def g_need_reach.l2 (n : Int) (x22_2 : Int) (ways_2 : (List (api_Required × Bool))) : Option (Lp (Int × (List (api_Required × Bool))) ((List (api_Required × Bool)))) :=
  cond (decide (x22_2 < n))
    (loop (fun q' => g_need_reach.l3 n x22_2 q'.1 q'.2) (0, ways_2))
    (up (
      some ways_2))
noncomputable def g_need_reach.l1 (n : Int) (l : (List api_Required)) (x14_1 : Int) (ways_1 : (List (api_Required × Bool))) : Option (Lp (Int × (List (api_Required × Bool))) ((List (api_Required × Bool)))) :=
  cond (decide (x14_1 < (l.length : Int)))
    ((getI l x14_1).bind fun e =>
    some (.next (W (x14_1 + 1), mapPut ways_1 e true)))
    (up (
      loop (fun q' => g_need_reach.l2 n q'.1 q'.2) (0, ways_1)))
noncomputable def g_need_reach (n : Int) (l : (List api_Required)) : Option ((List (api_Required × Bool))) :=
  loop (fun q' => g_need_reach.l1 n l q'.1 q'.2) (0, ([] : (List (api_Required × Bool))))
noncomputable def g_need_Reduce.j7 (x47_4 : Int) (out_7 : List api_Required) : Option (Lp (Int × List api_Required) ((List api_Required) × Int)) :=
  some (.next (W (x47_4 + 1), out_7))
noncomputable def g_need_Reduce.j6 (x52_5 : Int) (longer_6 : Bool) : Option (Lp (Bool × Int) (Lp (Int × List api_Required) ((List api_Required) × Int))) :=
  some (.next (longer_6, W (x52_5 + 1)))
noncomputable def g_need_Reduce.l5 (n : Int) (y_4 : (List (api_Required × Bool))) (x47_4 : Int) (out_4 : List api_Required) (e : api_Required) (longer_5 : Bool) (x52_5 : Int) : Option (Lp (Bool × Int) (Lp (Int × List api_Required) ((List api_Required) × Int))) :=
  cond (decide (x52_5 < n))
    (cond (longer_5)
      (g_need_Reduce.j6 x52_5 true)
      (cond ((mapGet y_4 (api_Required.mk e.First x52_5) false))
        (g_need_Reduce.j6 x52_5 (mapGet y_4 (api_Required.mk x52_5 e.Then) false))
        (g_need_Reduce.j6 x52_5 false)))
    (up (
      cond (!longer_5)
        ((appI 32 out_4 ([e] : List api_Required)).bind fun l_2 =>
        g_need_Reduce.j7 x47_4 l_2)
        (g_need_Reduce.j7 x47_4 out_4)))
noncomputable def g_need_Reduce.l4 (n : Int) (l : (List api_Required)) (y_4 : (List (api_Required × Bool))) (x47_4 : Int) (out_4 : List api_Required) : Option (Lp (Int × List api_Required) ((List api_Required) × Int)) :=
  cond (decide (x47_4 < (l.length : Int)))
    ((getI l x47_4).bind fun e =>
    loop (fun q' => g_need_Reduce.l5 n y_4 x47_4 out_4 e q'.1 q'.2) (false, 0))
    (up (
      some (out_4, 0)))
noncomputable def g_need_Reduce.l3 (n : Int) (l : (List api_Required)) (y_4 : (List (api_Required × Bool))) (x36_3 : Int) : Option (Lp (Int) ((List api_Required) × Int)) :=
  cond (decide (x36_3 < n))
    (cond ((mapGet y_4 (api_Required.mk x36_3 x36_3) false))
      (up (some (([] : (List api_Required)), 45)))
      (some (.next (W (x36_3 + 1)))))
    (up (
      loop (fun q' => g_need_Reduce.l4 n l y_4 q'.1 q'.2) (0, ([] : List api_Required))))
noncomputable def g_need_Reduce.j2 (n : Int) (l : (List api_Required)) (x15_2 : Bool) : Option ((List api_Required) × Int) :=
  cond (x15_2)
    (some (([] : (List api_Required)), 2))
    ((g_slices_ContainsFunc_api_Required l (fun x0 => g_need_Reduce_c1 x0 n)).bind fun y =>
    cond (y)
      (some (([] : (List api_Required)), 44))
      ((g_need_sorted l).bind fun y_2 =>
      (g_slices_Equal_api_Required y_2 l).bind fun y_3 =>
      cond (!y_3)
        (some (([] : (List api_Required)), 6))
        ((g_need_reach n l).bind fun y_4 =>
        loop (fun q' => g_need_Reduce.l3 n l y_4 q') 0)))
noncomputable def g_need_Reduce (n : Int) (l : (List api_Required)) : Option ((List api_Required) × Int) :=
  cond (decide (n < 0))
    (g_need_Reduce.j2 n l true)
    (g_need_Reduce.j2 n l (decide (24 < n)))
noncomputable def g_law28_NeedAnchors.j4 (x77_3 : Int) (found_4 : Bool) : Option (Lp (Bool × Int) (Lp (Int) (Bool))) :=
  some (.next (found_4, W (x77_3 + 1)))
noncomputable def g_law28_NeedAnchors.l3 (y_7 : (List api_Required) × Int) (x71_2 : Int) (e_3 : api_Required) (found_3 : Bool) (x77_3 : Int) : Option (Lp (Bool × Int) (Lp (Int) (Bool))) :=
  cond (decide (x77_3 < (y_7.1.length : Int)))
    ((getI y_7.1 x77_3).bind fun e_4 =>
    cond (found_3)
      (g_law28_NeedAnchors.j4 x77_3 true)
      (g_law28_NeedAnchors.j4 x77_3 (decide (e_4 = e_3))))
    (up (
      cond (!found_3)
        (up (some false))
        (some (.next (W (x71_2 + 1))))))
noncomputable def g_law28_NeedAnchors.l2 (y_4 : api_Estate × cipherplanmake_Dice) (e : api_Edge) (y_6 : api_Identity) (y_7 : (List api_Required) × Int) (x71_2 : Int) : Option (Lp (Int) (Bool)) :=
  cond (decide (x71_2 < (([(api_Required.mk 2 1), (api_Required.mk 1 0), (api_Required.mk 1 3), (api_Required.mk 2 0), (api_Required.mk 2 3)] : List api_Required).length : Int)))
    ((getI ([(api_Required.mk 2 1), (api_Required.mk 1 0), (api_Required.mk 1 3), (api_Required.mk 2 0), (api_Required.mk 2 3)] : List api_Required) x71_2).bind fun e_3 =>
    loop (fun q' => g_law28_NeedAnchors.l3 y_7 x71_2 e_3 q'.1 q'.2) (false, 0))
    (up (
      (g_need_Derive (api_Estate.mk y_4.1.Endpoints ([] : (List api_Edge)) y_4.1.Items) ([(api_Change.mk e.Server 6 (W (100 + e.Server)) 0 (api_Identity.mk (api_Use.mk 0 0) 0 ([] : (List api_Certificate)))), (api_Change.mk e.Server 5 0 0 y_6), (api_Change.mk e.Client 7 2 0 (api_Identity.mk (api_Use.mk 0 0) 0 ([] : (List api_Certificate)))), (api_Change.mk e.Client 2 2 0 (api_Identity.mk (api_Use.mk 0 0) 0 ([] : (List api_Certificate))))] : List api_Change)).bind fun y_8 =>
      (g_need_Reduce 4 y_7.1).bind fun y_9 =>
      cond (decide (y_8.2 = 0))
        (cond (decide (y_9.2 = 0))
          (cond (decide ((y_7.1.length : Int) = 5))
            (cond (decide ((y_8.1.length : Int) = 2))
              (cond (decide ((y_9.1.length : Int) = 3))
                ((g_law28_awake).bind fun y_10 =>
                some y_10)
                (some false))
              (some false))
            (some false))
          (some false))
        (some false)))
noncomputable def g_law28_NeedAnchors (t : (List Int)) : Option (Bool) :=
  (g_make_Light t).bind fun y =>
  cond (!y)
    ((g_law28_awake).bind fun y_2 =>
    some y_2)
    ((g_make_Roll t).bind fun y_3 =>
    (g_move_Sound y_3).bind fun y_4 =>
    (getI y_4.1.Edges 0).bind fun e =>
    (getI y_4.1.Endpoints e.Server).bind fun e_2 =>
    (g_move_EC).bind fun y_5 =>
    (g_move_Leaf e_2.Name y_5 300 2 901).bind fun y_6 =>
    (g_need_Derive y_4.1 ([(api_Change.mk e.Server 6 (W (100 + e.Server)) 0 (api_Identity.mk (api_Use.mk 0 0) 0 ([] : (List api_Certificate)))), (api_Change.mk e.Server 5 0 0 y_6), (api_Change.mk e.Client 7 2 0 (api_Identity.mk (api_Use.mk 0 0) 0 ([] : (List api_Certificate)))), (api_Change.mk e.Client 2 2 0 (api_Identity.mk (api_Use.mk 0 0) 0 ([] : (List api_Certificate))))] : List api_Change)).bind fun y_7 =>
    cond (!decide (y_7.2 = 0))
      (some false)
      (loop (fun q' => g_law28_NeedAnchors.l2 y_4 e y_6 y_7 q') 0))
end Go.Proofs.YtkpcbnnlefcebaaGreat
