/- Bounded forms of the plain functions. -/
import Derived.Test.YtlcfdnjokgbccaaPC
import Derived.Test.YtlcfdnjokgbccaaP1
set_option linter.unusedVariables false
set_option linter.unusedSimpArgs false
namespace Go.Proofs.Ytlcfdnjokgbccaa
def c_slices_Clone_string.j1 (fu : Nat) (s : (List ByteArray)) (x4_1 : Bool) : Option ((List ByteArray)) :=
  cond (x4_1)
    (some ([] : (List ByteArray)))
    ((appI 16 ([] : List ByteArray) s).bind fun l =>
    some l)
theorem c_slices_Clone_string.j1_le (fu : Nat) {s : (List ByteArray)} {x4_1 : Bool} : OLe (c_slices_Clone_string.j1 fu s x4_1) (g_slices_Clone_string.j1 s x4_1) := by
  unfold c_slices_Clone_string.j1 g_slices_Clone_string.j1
  repeat' (with_reducible first | assumption | apply OLe.bind_ | apply OLe.cond_ | apply OLe.up_ | exact OLe.refl | intro _)
def c_slices_Clone_string (fu : Nat) (s : (List ByteArray)) : Option ((List ByteArray)) :=
  nilD (s)
    (c_slices_Clone_string.j1 fu s true)
    (c_slices_Clone_string.j1 fu s false)
theorem c_slices_Clone_string_le (fu : Nat) {s : (List ByteArray)} : OLe (c_slices_Clone_string fu s) (g_slices_Clone_string s) := by
  unfold c_slices_Clone_string g_slices_Clone_string
  repeat' (with_reducible first | assumption | apply OLe.bind_ | apply OLe.cond_ | apply OLe.up_ | apply c_slices_Clone_string.j1_le | (refine OLe.nil ?_ ?_) | exact OLe.refl | intro _)
def c_catalog_Named.j2 (fu : Nat) (x8_1 : Int) (x17_2 : Bool) : Option (Lp (Int) (Bool)) :=
  cond (x17_2)
    (up (some false))
    (some (.next (W (x8_1 + 1))))
theorem c_catalog_Named.j2_le (fu : Nat) {x8_1 : Int} {x17_2 : Bool} : OLe (c_catalog_Named.j2 fu x8_1 x17_2) (g_catalog_Named.j2 x8_1 x17_2) := by
  unfold c_catalog_Named.j2 g_catalog_Named.j2
  repeat' (with_reducible first | assumption | apply OLe.bind_ | apply OLe.cond_ | apply OLe.up_ | exact OLe.refl | intro _)
def c_catalog_Named.l1 (fu : Nat) (s : ByteArray) (x8_1 : Int) : Option (Lp (Int) (Bool)) :=
  cond (decide (x8_1 < ((toB s).length : Int)))
    ((getI (toB s) x8_1).bind fun e =>
    cond (decide ((e.toNat : Int) ≤ 32))
      (c_catalog_Named.j2 fu x8_1 true)
      (c_catalog_Named.j2 fu x8_1 (decide (126 < (e.toNat : Int)))))
    (up (
      cond (decide (1 ≤ (s.size : Int)))
        (some (decide ((s.size : Int) ≤ 32)))
        (some false)))
theorem c_catalog_Named.l1_le (fu : Nat) {s : ByteArray} {x8_1 : Int} : OLe (c_catalog_Named.l1 fu s x8_1) (g_catalog_Named.l1 s x8_1) := by
  unfold c_catalog_Named.l1 g_catalog_Named.l1
  repeat' (with_reducible first | assumption | apply OLe.bind_ | apply OLe.cond_ | apply OLe.up_ | apply c_catalog_Named.j2_le | exact OLe.refl | intro _)
def c_catalog_Named (fu : Nat) (s : ByteArray) : Option (Bool) :=
  loopC fu (fun q' => c_catalog_Named.l1 fu s q') 0
theorem c_catalog_Named_le (fu : Nat) {s : ByteArray} : OLe (c_catalog_Named fu s) (g_catalog_Named s) := by
  unfold c_catalog_Named g_catalog_Named
  repeat' (with_reducible first | assumption | apply OLe.bind_ | apply OLe.cond_ | apply OLe.up_ | apply c_catalog_Named.l1_le | (refine OLe.lpC _ (fun _ => ?_) _) | exact OLe.refl | intro _)
def c_certificate_named.j2 (fu : Nat) (x7_1 : Int) (x27_2 : Bool) : Option (Lp (Int) (Bool)) :=
  cond (x27_2)
    (up (some false))
    (some (.next (W (x7_1 + 1))))
theorem c_certificate_named.j2_le (fu : Nat) {x7_1 : Int} {x27_2 : Bool} : OLe (c_certificate_named.j2 fu x7_1 x27_2) (g_certificate_named.j2 x7_1 x27_2) := by
  unfold c_certificate_named.j2 g_certificate_named.j2
  repeat' (with_reducible first | assumption | apply OLe.bind_ | apply OLe.cond_ | apply OLe.up_ | exact OLe.refl | intro _)
def c_certificate_named.l1 (fu : Nat) (l : (List ByteArray)) (x7_1 : Int) : Option (Lp (Int) (Bool)) :=
  cond (decide (x7_1 < (l.length : Int)))
    ((getI l x7_1).bind fun e =>
    (c_catalog_Named fu e).bind fun y =>
    cond (!y)
      (c_certificate_named.j2 fu x7_1 true)
      (cond (decide (0 < x7_1))
        ((getI l (W (x7_1 - 1))).bind fun e_2 =>
        c_certificate_named.j2 fu x7_1 (!ltT (toB e_2) (toB e)))
        (c_certificate_named.j2 fu x7_1 false)))
    (up (
      some (decide ((l.length : Int) ≤ 8))))
theorem c_certificate_named.l1_le (fu : Nat) {l : (List ByteArray)} {x7_1 : Int} : OLe (c_certificate_named.l1 fu l x7_1) (g_certificate_named.l1 l x7_1) := by
  unfold c_certificate_named.l1 g_certificate_named.l1
  repeat' (with_reducible first | assumption | apply OLe.bind_ | apply OLe.cond_ | apply OLe.up_ | apply c_catalog_Named_le | apply c_certificate_named.j2_le | exact OLe.refl | intro _)
def c_certificate_named (fu : Nat) (l : (List ByteArray)) : Option (Bool) :=
  loopC fu (fun q' => c_certificate_named.l1 fu l q') 0
theorem c_certificate_named_le (fu : Nat) {l : (List ByteArray)} : OLe (c_certificate_named fu l) (g_certificate_named l) := by
  unfold c_certificate_named g_certificate_named
  repeat' (with_reducible first | assumption | apply OLe.bind_ | apply OLe.cond_ | apply OLe.up_ | apply c_certificate_named.l1_le | (refine OLe.lpC _ (fun _ => ?_) _) | exact OLe.refl | intro _)
def c_catalog_rows (fu : Nat) : Option ((List catalog_row)) :=
  some ([(catalog_row.mk (⟨#[]⟩ : ByteArray) 0 0 ([] : (List Int)) ([] : (List Int))), (catalog_row.mk (⟨#[109, 100, 53]⟩ : ByteArray) 1 0 ([] : (List Int)) ([18] : List Int)), (catalog_row.mk (⟨#[115, 104, 97, 49]⟩ : ByteArray) 1 0 ([] : (List Int)) ([60] : List Int)), (catalog_row.mk (⟨#[115, 104, 97, 50, 53, 54]⟩ : ByteArray) 1 0 ([] : (List Int)) ([128] : List Int)), (catalog_row.mk (⟨#[115, 104, 97, 51, 56, 52]⟩ : ByteArray) 1 0 ([] : (List Int)) ([192] : List Int)), (catalog_row.mk (⟨#[114, 115, 97]⟩ : ByteArray) 2 1 ([] : (List Int)) ([] : (List Int))), (catalog_row.mk (⟨#[100, 115, 97]⟩ : ByteArray) 2 1 ([] : (List Int)) ([] : (List Int))), (catalog_row.mk (⟨#[101, 99, 100, 115, 97]⟩ : ByteArray) 2 2 ([] : (List Int)) ([] : (List Int))), (catalog_row.mk (⟨#[101, 100, 50, 53, 53, 49, 57]⟩ : ByteArray) 2 0 ([] : (List Int)) ([128] : List Int)), (catalog_row.mk (⟨#[109, 108, 100, 115, 97]⟩ : ByteArray) 2 3 ([44, 65, 87] : List Int) ([128, 192, 256] : List Int)), (catalog_row.mk (⟨#[114, 115, 97, 107, 120]⟩ : ByteArray) 3 1 ([] : (List Int)) ([] : (List Int))), (catalog_row.mk (⟨#[100, 104, 101]⟩ : ByteArray) 3 1 ([] : (List Int)) ([] : (List Int))), (catalog_row.mk (⟨#[101, 99, 100, 104, 101]⟩ : ByteArray) 3 2 ([] : (List Int)) ([] : (List Int))), (catalog_row.mk (⟨#[109, 108, 107, 101, 109]⟩ : ByteArray) 3 3 ([512, 768, 1024] : List Int) ([128, 192, 256] : List Int)), (catalog_row.mk (⟨#[114, 99, 52]⟩ : ByteArray) 4 3 ([40, 128] : List Int) ([40, 60] : List Int)), (catalog_row.mk (⟨#[100, 101, 115, 51]⟩ : ByteArray) 4 3 ([112, 168] : List Int) ([80, 112] : List Int)), (catalog_row.mk (⟨#[97, 101, 115, 99, 98, 99]⟩ : ByteArray) 4 3 ([128, 256] : List Int) ([128, 256] : List Int)), (catalog_row.mk (⟨#[97, 101, 115, 103, 99, 109]⟩ : ByteArray) 4 3 ([128, 256] : List Int) ([128, 256] : List Int)), (catalog_row.mk (⟨#[99, 104, 97, 99, 104, 97]⟩ : ByteArray) 4 0 ([] : (List Int)) ([256] : List Int)), (catalog_row.mk (⟨#[104, 109, 97, 99, 109, 100, 53]⟩ : ByteArray) 5 0 ([] : (List Int)) ([64] : List Int)), (catalog_row.mk (⟨#[104, 109, 97, 99, 115, 104, 97, 49]⟩ : ByteArray) 5 0 ([] : (List Int)) ([80] : List Int)), (catalog_row.mk (⟨#[104, 109, 97, 99, 115, 104, 97, 50, 53, 54]⟩ : ByteArray) 5 0 ([] : (List Int)) ([128] : List Int)), (catalog_row.mk (⟨#[97, 101, 97, 100]⟩ : ByteArray) 5 0 ([] : (List Int)) ([256] : List Int))] : List catalog_row)
theorem c_catalog_rows_le (fu : Nat) : OLe (c_catalog_rows fu) (g_catalog_rows) := by
  unfold c_catalog_rows g_catalog_rows
  repeat' (with_reducible first | assumption | apply OLe.bind_ | apply OLe.cond_ | apply OLe.up_ | exact OLe.refl | intro _)
def c_catalog_of.j1 (fu : Nat) (alg : Int) (x9_1 : Bool) : Option (catalog_row × Bool) :=
  cond (x9_1)
    (some ((catalog_row.mk (⟨#[]⟩ : ByteArray) 0 0 ([] : (List Int)) ([] : (List Int))), false))
    ((c_catalog_rows fu).bind fun y =>
    (getI (arrL 23 y) alg).bind fun e =>
    some (e, true))
theorem c_catalog_of.j1_le (fu : Nat) {alg : Int} {x9_1 : Bool} : OLe (c_catalog_of.j1 fu alg x9_1) (g_catalog_of.j1 alg x9_1) := by
  unfold c_catalog_of.j1 g_catalog_of.j1
  repeat' (with_reducible first | assumption | apply OLe.bind_ | apply OLe.cond_ | apply OLe.up_ | apply c_catalog_rows_le | exact OLe.refl | intro _)
def c_catalog_of (fu : Nat) (alg : Int) : Option (catalog_row × Bool) :=
  cond (decide (alg < 1))
    (c_catalog_of.j1 fu alg true)
    (c_catalog_of.j1 fu alg (decide (22 < alg)))
theorem c_catalog_of_le (fu : Nat) {alg : Int} : OLe (c_catalog_of fu alg) (g_catalog_of alg) := by
  unfold c_catalog_of g_catalog_of
  repeat' (with_reducible first | assumption | apply OLe.bind_ | apply OLe.cond_ | apply OLe.up_ | apply c_catalog_of.j1_le | exact OLe.refl | intro _)
def c_catalog_modulus.l1 (fu : Nat) (bits : Int) (x11_1 : Int) : Option (Lp (Int) (Int)) :=
  cond (decide (x11_1 < 5))
    ((getI ([([1024, 56] : List Int), ([2048, 80] : List Int), ([3072, 112] : List Int), ([7680, 128] : List Int), ([15360, 192] : List Int)] : List (List Int)) x11_1).bind fun e =>
    cond (decide (bits < (e[0]!)))
      (up (some (e[1]!)))
      (some (.next (W (x11_1 + 1)))))
    (up (
      some 256))
theorem c_catalog_modulus.l1_le (fu : Nat) {bits : Int} {x11_1 : Int} : OLe (c_catalog_modulus.l1 fu bits x11_1) (g_catalog_modulus.l1 bits x11_1) := by
  unfold c_catalog_modulus.l1 g_catalog_modulus.l1
  repeat' (with_reducible first | assumption | apply OLe.bind_ | apply OLe.cond_ | apply OLe.up_ | exact OLe.refl | intro _)
def c_catalog_modulus (fu : Nat) (bits : Int) : Option (Int) :=
  loopC fu (fun q' => c_catalog_modulus.l1 fu bits q') 0
theorem c_catalog_modulus_le (fu : Nat) {bits : Int} : OLe (c_catalog_modulus fu bits) (g_catalog_modulus bits) := by
  unfold c_catalog_modulus g_catalog_modulus
  repeat' (with_reducible first | assumption | apply OLe.bind_ | apply OLe.cond_ | apply OLe.up_ | apply c_catalog_modulus.l1_le | (refine OLe.lpC _ (fun _ => ?_) _) | exact OLe.refl | intro _)
def c_slices_Index_int.l1 (fu : Nat) (s : (List Int)) (v : Int) (x8_1 : Int) : Option (Lp (Int) (Int)) :=
  cond (decide (x8_1 < (s.length : Int)))
    ((getI s x8_1).bind fun e =>
    cond (decide (v = e))
      (up (some x8_1))
      (some (.next (W (x8_1 + 1)))))
    (up (
      some (-1)))
theorem c_slices_Index_int.l1_le (fu : Nat) {s : (List Int)} {v : Int} {x8_1 : Int} : OLe (c_slices_Index_int.l1 fu s v x8_1) (g_slices_Index_int.l1 s v x8_1) := by
  unfold c_slices_Index_int.l1 g_slices_Index_int.l1
  repeat' (with_reducible first | assumption | apply OLe.bind_ | apply OLe.cond_ | apply OLe.up_ | exact OLe.refl | intro _)
def c_slices_Index_int (fu : Nat) (s : (List Int)) (v : Int) : Option (Int) :=
  loopC fu (fun q' => c_slices_Index_int.l1 fu s v q') 0
theorem c_slices_Index_int_le (fu : Nat) {s : (List Int)} {v : Int} : OLe (c_slices_Index_int fu s v) (g_slices_Index_int s v) := by
  unfold c_slices_Index_int g_slices_Index_int
  repeat' (with_reducible first | assumption | apply OLe.bind_ | apply OLe.cond_ | apply OLe.up_ | apply c_slices_Index_int.l1_le | (refine OLe.lpC _ (fun _ => ?_) _) | exact OLe.refl | intro _)
def c_slices_Contains_int (fu : Nat) (s : (List Int)) (v : Int) : Option (Bool) :=
  (c_slices_Index_int fu s v).bind fun y =>
  some (decide (0 ≤ y))
theorem c_slices_Contains_int_le (fu : Nat) {s : (List Int)} {v : Int} : OLe (c_slices_Contains_int fu s v) (g_slices_Contains_int s v) := by
  unfold c_slices_Contains_int g_slices_Contains_int
  repeat' (with_reducible first | assumption | apply OLe.bind_ | apply OLe.cond_ | apply OLe.up_ | apply c_slices_Index_int_le | exact OLe.refl | intro _)
def c_catalog_Strength.j1 (fu : Nat) (u : api_Use) (x34_1 : Bool) : Option (Int) :=
  cond (x34_1)
    ((c_catalog_modulus fu u.Bits).bind fun y_2 =>
    some y_2)
    (some 0)
theorem c_catalog_Strength.j1_le (fu : Nat) {u : api_Use} {x34_1 : Bool} : OLe (c_catalog_Strength.j1 fu u x34_1) (g_catalog_Strength.j1 u x34_1) := by
  unfold c_catalog_Strength.j1 g_catalog_Strength.j1
  repeat' (with_reducible first | assumption | apply OLe.bind_ | apply OLe.cond_ | apply OLe.up_ | apply c_catalog_modulus_le | exact OLe.refl | intro _)
def c_catalog_Strength (fu : Nat) (u : api_Use) : Option (Int) :=
  (c_catalog_of fu u.Alg).bind fun y =>
  cond (!y.2)
    (some 0)
    (cond (decide (y.1.way = 0))
      (cond (decide (u.Bits = 0))
        ((getI y.1.strengths 0).bind fun e =>
        some e)
        (some 0))
      (cond (decide (y.1.way = 1))
        (cond (decide (512 ≤ u.Bits))
          (c_catalog_Strength.j1 fu u (decide (u.Bits ≤ 16384)))
          (c_catalog_Strength.j1 fu u false))
        (cond (decide (y.1.way = 2))
          ((c_slices_Contains_int fu ([160, 224, 256, 384, 521] : List Int) u.Bits).bind fun y_3 =>
          cond (y_3)
            ((quoI u.Bits 2).bind fun q =>
            some q)
            (some 0))
          (cond (decide (y.1.way = 3))
            ((c_slices_Index_int fu y.1.sizes u.Bits).bind fun y_4 =>
            cond (decide (0 ≤ y_4))
              ((getI y.1.strengths y_4).bind fun e_2 =>
              some e_2)
              (some 0))
            (some 0)))))
theorem c_catalog_Strength_le (fu : Nat) {u : api_Use} : OLe (c_catalog_Strength fu u) (g_catalog_Strength u) := by
  unfold c_catalog_Strength g_catalog_Strength
  repeat' (with_reducible first | assumption | apply OLe.bind_ | apply OLe.cond_ | apply OLe.up_ | apply c_catalog_of_le | apply c_catalog_Strength.j1_le | apply c_slices_Contains_int_le | apply c_slices_Index_int_le | exact OLe.refl | intro _)
def c_catalog_Valid (fu : Nat) (u : api_Use) : Option (Bool) :=
  (c_catalog_Strength fu u).bind fun y =>
  some (decide (0 < y))
theorem c_catalog_Valid_le (fu : Nat) {u : api_Use} : OLe (c_catalog_Valid fu u) (g_catalog_Valid u) := by
  unfold c_catalog_Valid g_catalog_Valid
  repeat' (with_reducible first | assumption | apply OLe.bind_ | apply OLe.cond_ | apply OLe.up_ | apply c_catalog_Strength_le | exact OLe.refl | intro _)
def c_catalog_Kind (fu : Nat) (alg : Int) : Option (Int) :=
  (c_catalog_of fu alg).bind fun y =>
  some y.1.kind
theorem c_catalog_Kind_le (fu : Nat) {alg : Int} : OLe (c_catalog_Kind fu alg) (g_catalog_Kind alg) := by
  unfold c_catalog_Kind g_catalog_Kind
  repeat' (with_reducible first | assumption | apply OLe.bind_ | apply OLe.cond_ | apply OLe.up_ | apply c_catalog_of_le | exact OLe.refl | intro _)
def c_certificate_of (fu : Nat) (u : api_Use) (kind : Int) : Option (Bool) :=
  (c_catalog_Valid fu u).bind fun y =>
  cond (y)
    ((c_catalog_Kind fu u.Alg).bind fun y_2 =>
    some (decide (y_2 = kind)))
    (some false)
theorem c_certificate_of_le (fu : Nat) {u : api_Use} {kind : Int} : OLe (c_certificate_of fu u kind) (g_certificate_of u kind) := by
  unfold c_certificate_of g_certificate_of
  repeat' (with_reducible first | assumption | apply OLe.bind_ | apply OLe.cond_ | apply OLe.up_ | apply c_catalog_Valid_le | apply c_catalog_Kind_le | exact OLe.refl | intro _)
def c_certificate_Key (fu : Nat) (n : Int) : Option (Bool) :=
  cond (decide (0 ≤ n))
    (some (decide (n ≤ 2147483648)))
    (some false)
theorem c_certificate_Key_le (fu : Nat) {n : Int} : OLe (c_certificate_Key fu n) (g_certificate_Key n) := by
  unfold c_certificate_Key g_certificate_Key
  repeat' (with_reducible first | assumption | apply OLe.bind_ | apply OLe.cond_ | apply OLe.up_ | exact OLe.refl | intro _)
def c_certificate_sum (fu : Nat) (n : Int) : Option (Bool) :=
  cond (decide (0 ≤ n))
    (some (decide (n < 4294967296)))
    (some false)
theorem c_certificate_sum_le (fu : Nat) {n : Int} : OLe (c_certificate_sum fu n) (g_certificate_sum n) := by
  unfold c_certificate_sum g_certificate_sum
  repeat' (with_reducible first | assumption | apply OLe.bind_ | apply OLe.cond_ | apply OLe.up_ | exact OLe.refl | intro _)
def c_certificate_valid.j3 (fu : Nat) (c : api_Certificate) (x73_3 : Bool) : Option (Bool) :=
  cond (x73_3)
    (some false)
    (cond (decide (0 ≤ c.Path))
      (cond (decide (c.Path ≤ 8))
        (cond (c.Authority)
          (some true)
          (some (decide (c.Path = 0))))
        (some false))
      (some false))
theorem c_certificate_valid.j3_le (fu : Nat) {c : api_Certificate} {x73_3 : Bool} : OLe (c_certificate_valid.j3 fu c x73_3) (g_certificate_valid.j3 c x73_3) := by
  unfold c_certificate_valid.j3 g_certificate_valid.j3
  repeat' (with_reducible first | assumption | apply OLe.bind_ | apply OLe.cond_ | apply OLe.up_ | exact OLe.refl | intro _)
def c_certificate_valid.j2 (fu : Nat) (c : api_Certificate) (x58_2 : Bool) : Option (Bool) :=
  cond (x58_2)
    (some false)
    (cond (decide (c.From < 0))
      (c_certificate_valid.j3 fu c true)
      (cond (decide (c.To < c.From))
        (c_certificate_valid.j3 fu c true)
        (c_certificate_valid.j3 fu c (decide (40000 < c.To)))))
theorem c_certificate_valid.j2_le (fu : Nat) {c : api_Certificate} {x58_2 : Bool} : OLe (c_certificate_valid.j2 fu c x58_2) (g_certificate_valid.j2 c x58_2) := by
  unfold c_certificate_valid.j2 g_certificate_valid.j2
  repeat' (with_reducible first | assumption | apply OLe.bind_ | apply OLe.cond_ | apply OLe.up_ | apply c_certificate_valid.j3_le | exact OLe.refl | intro _)
def c_certificate_valid.j1 (fu : Nat) (c : api_Certificate) (x28_1 : Bool) : Option (Bool) :=
  cond (x28_1)
    (some false)
    ((c_certificate_of fu c.Key 2).bind fun y_4 =>
    cond (!y_4)
      (c_certificate_valid.j2 fu c true)
      ((c_certificate_Key fu c.KeyId).bind fun y_5 =>
      cond (!y_5)
        (c_certificate_valid.j2 fu c true)
        ((c_certificate_of fu c.Hash 1).bind fun y_6 =>
        cond (!y_6)
          (c_certificate_valid.j2 fu c true)
          ((c_certificate_Key fu c.Seal.Key).bind fun y_7 =>
          cond (!y_7)
            (c_certificate_valid.j2 fu c true)
            ((c_certificate_sum fu c.Seal.Sum).bind fun y_8 =>
            c_certificate_valid.j2 fu c (!y_8))))))
theorem c_certificate_valid.j1_le (fu : Nat) {c : api_Certificate} {x28_1 : Bool} : OLe (c_certificate_valid.j1 fu c x28_1) (g_certificate_valid.j1 c x28_1) := by
  unfold c_certificate_valid.j1 g_certificate_valid.j1
  repeat' (with_reducible first | assumption | apply OLe.bind_ | apply OLe.cond_ | apply OLe.up_ | apply c_certificate_of_le | apply c_certificate_valid.j2_le | apply c_certificate_Key_le | apply c_certificate_sum_le | exact OLe.refl | intro _)
def c_certificate_valid (fu : Nat) (c : api_Certificate) : Option (Bool) :=
  cond (decide (c.Serial < 0))
    (c_certificate_valid.j1 fu c true)
    (cond (decide (1099511627776 < c.Serial))
      (c_certificate_valid.j1 fu c true)
      ((c_catalog_Named fu c.Issuer).bind fun y =>
      cond (!y)
        (c_certificate_valid.j1 fu c true)
        ((c_catalog_Named fu c.Subject).bind fun y_2 =>
        cond (!y_2)
          (c_certificate_valid.j1 fu c true)
          ((c_certificate_named fu c.Names).bind fun y_3 =>
          c_certificate_valid.j1 fu c (!y_3)))))
theorem c_certificate_valid_le (fu : Nat) {c : api_Certificate} : OLe (c_certificate_valid fu c) (g_certificate_valid c) := by
  unfold c_certificate_valid g_certificate_valid
  repeat' (with_reducible first | assumption | apply OLe.bind_ | apply OLe.cond_ | apply OLe.up_ | apply c_certificate_valid.j1_le | apply c_catalog_Named_le | apply c_certificate_named_le | exact OLe.refl | intro _)
def c_der_Text (fu : Nat) (s : ByteArray) : Option (api_Value) :=
  some (api_Value.mk 12 (toB s) false ([] : (List api_Value)))
theorem c_der_Text_le (fu : Nat) {s : ByteArray} : OLe (c_der_Text fu s) (g_der_Text s) := by
  unfold c_der_Text g_der_Text
  repeat' (with_reducible first | assumption | apply OLe.bind_ | apply OLe.cond_ | apply OLe.up_ | exact OLe.refl | intro _)
def c_der_Int.j3 (fu : Nat) (b_2 : List UInt8) (x43_3 : Bool) : Option (Lp (List UInt8) (api_Value)) :=
  cond (x43_3)
    ((slI b_2 1 (b_2.length : Int)).bind fun l_2 =>
    some (.next l_2))
    (up (
      some (api_Value.mk 2 b_2 false ([] : (List api_Value)))))
theorem c_der_Int.j3_le (fu : Nat) {b_2 : List UInt8} {x43_3 : Bool} : OLe (c_der_Int.j3 fu b_2 x43_3) (g_der_Int.j3 b_2 x43_3) := by
  unfold c_der_Int.j3 g_der_Int.j3
  repeat' (with_reducible first | assumption | apply OLe.bind_ | apply OLe.cond_ | apply OLe.up_ | exact OLe.refl | intro _)
def c_der_Int.l2 (fu : Nat) (b_2 : List UInt8) : Option (Lp (List UInt8) (api_Value)) :=
  cond (decide (1 < (b_2.length : Int)))
    ((getI b_2 0).bind fun e =>
    cond (decide ((e.toNat : Int) = 0))
      ((getI b_2 1).bind fun e_2 =>
      cond (decide ((e_2.toNat : Int) < 128))
        (c_der_Int.j3 fu b_2 true)
        (cond (decide ((e.toNat : Int) = 255))
          (c_der_Int.j3 fu b_2 (decide (128 ≤ (e_2.toNat : Int))))
          (c_der_Int.j3 fu b_2 false)))
      (cond (decide ((e.toNat : Int) = 255))
        ((getI b_2 1).bind fun e_3 =>
        c_der_Int.j3 fu b_2 (decide (128 ≤ (e_3.toNat : Int))))
        (c_der_Int.j3 fu b_2 false)))
    (c_der_Int.j3 fu b_2 false)
theorem c_der_Int.l2_le (fu : Nat) {b_2 : List UInt8} : OLe (c_der_Int.l2 fu b_2) (g_der_Int.l2 b_2) := by
  unfold c_der_Int.l2 g_der_Int.l2
  repeat' (with_reducible first | assumption | apply OLe.bind_ | apply OLe.cond_ | apply OLe.up_ | apply c_der_Int.j3_le | exact OLe.refl | intro _)
def c_der_Int.l1 (fu : Nat) (n : Int) (i_1 : Int) (b_1 : List UInt8) : Option (Lp (Int × List UInt8) (api_Value)) :=
  cond (decide (0 ≤ i_1))
    ((shrK .u64 (IntKind.wrap .u64 n) i_1).bind fun q =>
    (appI 1 b_1 ([(u8 q)] : List UInt8)).bind fun l =>
    some (.next (W (i_1 - 8), l)))
    (up (
      loopC fu (fun q' => c_der_Int.l2 fu q') b_1))
theorem c_der_Int.l1_le (fu : Nat) {n : Int} {i_1 : Int} {b_1 : List UInt8} : OLe (c_der_Int.l1 fu n i_1 b_1) (g_der_Int.l1 n i_1 b_1) := by
  unfold c_der_Int.l1 g_der_Int.l1
  repeat' (with_reducible first | assumption | apply OLe.bind_ | apply OLe.cond_ | apply OLe.up_ | apply c_der_Int.l2_le | (refine OLe.lpC _ (fun _ => ?_) _) | exact OLe.refl | intro _)
def c_der_Int (fu : Nat) (n : Int) : Option (api_Value) :=
  loopC fu (fun q' => c_der_Int.l1 fu n q'.1 q'.2) (56, ([] : List UInt8))
theorem c_der_Int_le (fu : Nat) {n : Int} : OLe (c_der_Int fu n) (g_der_Int n) := by
  unfold c_der_Int g_der_Int
  repeat' (with_reducible first | assumption | apply OLe.bind_ | apply OLe.cond_ | apply OLe.up_ | apply c_der_Int.l1_le | (refine OLe.lpC _ (fun _ => ?_) _) | exact OLe.refl | intro _)
def c_bytes_Clone.j1 (fu : Nat) (b : (List UInt8)) (x4_1 : Bool) : Option ((List UInt8)) :=
  cond (x4_1)
    (some ([] : (List UInt8)))
    ((appI 1 ([] : List UInt8) b).bind fun l =>
    some l)
theorem c_bytes_Clone.j1_le (fu : Nat) {b : (List UInt8)} {x4_1 : Bool} : OLe (c_bytes_Clone.j1 fu b x4_1) (g_bytes_Clone.j1 b x4_1) := by
  unfold c_bytes_Clone.j1 g_bytes_Clone.j1
  repeat' (with_reducible first | assumption | apply OLe.bind_ | apply OLe.cond_ | apply OLe.up_ | exact OLe.refl | intro _)
def c_bytes_Clone (fu : Nat) (b : (List UInt8)) : Option ((List UInt8)) :=
  nilD (b)
    (c_bytes_Clone.j1 fu b true)
    (c_bytes_Clone.j1 fu b false)
theorem c_bytes_Clone_le (fu : Nat) {b : (List UInt8)} : OLe (c_bytes_Clone fu b) (g_bytes_Clone b) := by
  unfold c_bytes_Clone g_bytes_Clone
  repeat' (with_reducible first | assumption | apply OLe.bind_ | apply OLe.cond_ | apply OLe.up_ | apply c_bytes_Clone.j1_le | (refine OLe.nil ?_ ?_) | exact OLe.refl | intro _)
def c_der_copied.l1 (fu : Nat) (rec : (List api_Value) → Option ((List api_Value))) (l : (List api_Value)) (x8_1 : Int) (out_1 : List api_Value) : Option (Lp (Int × List api_Value) ((List api_Value))) :=
  cond (decide (x8_1 < (l.length : Int)))
    ((getI l x8_1).bind fun e =>
    (c_bytes_Clone fu e.Bytes).bind fun y =>
    (rec e.Elements).bind fun y_2 =>
    (appI 256 out_1 ([(api_Value.mk e.Tag y e.Nested y_2)] : List api_Value)).bind fun l_2 =>
    some (.next (W (x8_1 + 1), l_2)))
    (up (
      some out_1))
theorem m_der_copied.l1 {rec : (List api_Value) → Option ((List api_Value))} {l : (List api_Value)} {x8_1 : Int} {out_1 : List api_Value} {rec_p : (List api_Value) → Option ((List api_Value))} (h_rec : ∀ (x0 : (List api_Value)), OLe (rec x0) (rec_p x0)) : OLe (g_der_copied.l1 rec l x8_1 out_1) (g_der_copied.l1 rec_p l x8_1 out_1) := by
  unfold g_der_copied.l1
  repeat' (with_reducible first | assumption | apply OLe.bind_ | apply OLe.cond_ | apply OLe.up_ | apply h_rec | exact OLe.refl | intro _)
theorem c_der_copied.l1_le (fu : Nat) {rec : (List api_Value) → Option ((List api_Value))} {l : (List api_Value)} {x8_1 : Int} {out_1 : List api_Value} {rec_p : (List api_Value) → Option ((List api_Value))} (h_rec : ∀ (x0 : (List api_Value)), OLe (rec x0) (rec_p x0)) : OLe (c_der_copied.l1 fu rec l x8_1 out_1) (g_der_copied.l1 rec_p l x8_1 out_1) := by
  unfold c_der_copied.l1 g_der_copied.l1
  repeat' (with_reducible first | assumption | apply OLe.bind_ | apply OLe.cond_ | apply OLe.up_ | apply h_rec | apply c_bytes_Clone_le | exact OLe.refl | intro _)
def c_der_copied.F (fu : Nat) (rec : (List api_Value) → Option ((List api_Value))) (l : (List api_Value)) : Option ((List api_Value)) :=
  loopC fu (fun q' => c_der_copied.l1 fu rec l q'.1 q'.2) (0, ([] : List api_Value))
theorem m_der_copied.F {rec : (List api_Value) → Option ((List api_Value))} {l : (List api_Value)} {rec_p : (List api_Value) → Option ((List api_Value))} (h_rec : ∀ (x0 : (List api_Value)), OLe (rec x0) (rec_p x0)) : OLe (g_der_copied.F rec l) (g_der_copied.F rec_p l) := by
  unfold g_der_copied.F
  repeat' (with_reducible first | assumption | apply OLe.bind_ | apply OLe.cond_ | apply OLe.up_ | apply h_rec | apply m_der_copied.l1 | (refine OLe.lp (fun _ => ?_) _) | exact OLe.refl | intro _)
theorem c_der_copied.F_le (fu : Nat) {rec : (List api_Value) → Option ((List api_Value))} {l : (List api_Value)} {rec_p : (List api_Value) → Option ((List api_Value))} (h_rec : ∀ (x0 : (List api_Value)), OLe (rec x0) (rec_p x0)) : OLe (c_der_copied.F fu rec l) (g_der_copied.F rec_p l) := by
  unfold c_der_copied.F g_der_copied.F
  repeat' (with_reducible first | assumption | apply OLe.bind_ | apply OLe.cond_ | apply OLe.up_ | apply h_rec | apply c_der_copied.l1_le | (refine OLe.lpC _ (fun _ => ?_) _) | exact OLe.refl | intro _)
def c_der_copied (fu : Nat) (l : (List api_Value)) : Option ((List api_Value)) := fixC fu (fun rec (x : (List api_Value)) => c_der_copied.F fu (fun l => rec l) x) l
theorem mono_der_copied : MonoF (fun rec (x : (List api_Value)) => g_der_copied.F (fun l => rec l) x) := fun p q h a => by
  apply m_der_copied.F
  intros
  apply h
theorem c_der_copied_le (fu : Nat) {l : (List api_Value)} : OLe (c_der_copied fu l) (g_der_copied l) := by
  unfold c_der_copied g_der_copied
  refine OLe.fx _ ?_ mono_der_copied _
  intro p q h a
  apply c_der_copied.F_le
  intros
  apply h
def c_der_Of (fu : Nat) (l : (List api_Value)) : Option (api_Value) :=
  (c_der_copied fu l).bind fun y =>
  some (api_Value.mk 48 ([] : (List UInt8)) true y)
theorem c_der_Of_le (fu : Nat) {l : (List api_Value)} : OLe (c_der_Of fu l) (g_der_Of l) := by
  unfold c_der_Of g_der_Of
  repeat' (with_reducible first | assumption | apply OLe.bind_ | apply OLe.cond_ | apply OLe.up_ | apply c_der_copied_le | exact OLe.refl | intro _)
def c_certificate_Use (fu : Nat) (u : api_Use) : Option (api_Value) :=
  (c_der_Int fu u.Alg).bind fun y =>
  (c_der_Int fu u.Bits).bind fun y_2 =>
  (c_der_Of fu ([y, y_2] : List api_Value)).bind fun y_3 =>
  some y_3
theorem c_certificate_Use_le (fu : Nat) {u : api_Use} : OLe (c_certificate_Use fu u) (g_certificate_Use u) := by
  unfold c_certificate_Use g_certificate_Use
  repeat' (with_reducible first | assumption | apply OLe.bind_ | apply OLe.cond_ | apply OLe.up_ | apply c_der_Int_le | apply c_der_Of_le | exact OLe.refl | intro _)
def c_der_Bool (fu : Nat) (b : Bool) : Option (api_Value) :=
  cond (b)
    (some (api_Value.mk 1 ([(255 : UInt8)] : List UInt8) false ([] : (List api_Value))))
    (some (api_Value.mk 1 ([(0 : UInt8)] : List UInt8) false ([] : (List api_Value))))
theorem c_der_Bool_le (fu : Nat) {b : Bool} : OLe (c_der_Bool fu b) (g_der_Bool b) := by
  unfold c_der_Bool g_der_Bool
  repeat' (with_reducible first | assumption | apply OLe.bind_ | apply OLe.cond_ | apply OLe.up_ | exact OLe.refl | intro _)
def c_der_List (fu : Nat) (l : (List api_Value)) : Option (api_Value) :=
  (c_der_Of fu l).bind fun y =>
  some y
theorem c_der_List_le (fu : Nat) {l : (List api_Value)} : OLe (c_der_List fu l) (g_der_List l) := by
  unfold c_der_List g_der_List
  repeat' (with_reducible first | assumption | apply OLe.bind_ | apply OLe.cond_ | apply OLe.up_ | apply c_der_Of_le | exact OLe.refl | intro _)
def c_certificate_body.l1 (fu : Nat) (c : api_Certificate) (x9_1 : Int) (names_1 : List api_Value) : Option (Lp (Int × List api_Value) (api_Value)) :=
  cond (decide (x9_1 < (c.Names.length : Int)))
    ((getI c.Names x9_1).bind fun e =>
    (c_der_Text fu e).bind fun y =>
    (appI 256 names_1 ([y] : List api_Value)).bind fun l =>
    some (.next (W (x9_1 + 1), l)))
    (up (
      (c_der_Int fu c.Serial).bind fun y_12 =>
      (c_der_Text fu c.Issuer).bind fun y_13 =>
      (c_der_Text fu c.Subject).bind fun y_14 =>
      (c_certificate_Use fu c.Key).bind fun y_15 =>
      (c_der_Int fu c.KeyId).bind fun y_16 =>
      (c_certificate_Use fu c.Hash).bind fun y_17 =>
      (c_der_Int fu c.From).bind fun y_18 =>
      (c_der_Int fu c.To).bind fun y_19 =>
      (c_der_Bool fu c.Authority).bind fun y_20 =>
      (c_der_Int fu c.Path).bind fun y_21 =>
      (c_der_List fu names_1).bind fun y_22 =>
      (c_der_Of fu ([y_12, y_13, y_14, y_15, y_16, y_17, y_18, y_19, y_20, y_21, y_22] : List api_Value)).bind fun y_23 =>
      some y_23))
theorem c_certificate_body.l1_le (fu : Nat) {c : api_Certificate} {x9_1 : Int} {names_1 : List api_Value} : OLe (c_certificate_body.l1 fu c x9_1 names_1) (g_certificate_body.l1 c x9_1 names_1) := by
  unfold c_certificate_body.l1 g_certificate_body.l1
  repeat' (with_reducible first | assumption | apply OLe.bind_ | apply OLe.cond_ | apply OLe.up_ | apply c_der_Text_le | apply c_der_Int_le | apply c_certificate_Use_le | apply c_der_Bool_le | apply c_der_List_le | apply c_der_Of_le | exact OLe.refl | intro _)
def c_certificate_body (fu : Nat) (c : api_Certificate) : Option (api_Value) :=
  loopC fu (fun q' => c_certificate_body.l1 fu c q'.1 q'.2) (0, ([] : List api_Value))
theorem c_certificate_body_le (fu : Nat) {c : api_Certificate} : OLe (c_certificate_body fu c) (g_certificate_body c) := by
  unfold c_certificate_body g_certificate_body
  repeat' (with_reducible first | assumption | apply OLe.bind_ | apply OLe.cond_ | apply OLe.up_ | apply c_certificate_body.l1_le | (refine OLe.lpC _ (fun _ => ?_) _) | exact OLe.refl | intro _)
def c_der_tag (fu : Nat) (n : Int) : Option (Bool) :=
  cond (decide (1 ≤ n))
    (cond (decide (n ≤ 255))
      (some (!decide ((andK .i64 n 31) = 31)))
      (some false))
    (some false)
theorem c_der_tag_le (fu : Nat) {n : Int} : OLe (c_der_tag fu n) (g_der_tag n) := by
  unfold c_der_tag g_der_tag
  repeat' (with_reducible first | assumption | apply OLe.bind_ | apply OLe.cond_ | apply OLe.up_ | exact OLe.refl | intro _)
def c_der_formed_c1 (fu : Nat) (rec : api_Value → Option (Bool)) (x' : api_Value) : Option (Bool) :=
  (rec x').bind fun y =>
  some (!y)
theorem m_der_formed_c1 {rec : api_Value → Option (Bool)} {x' : api_Value} {rec_p : api_Value → Option (Bool)} (h_rec : ∀ (x0 : api_Value), OLe (rec x0) (rec_p x0)) : OLe (g_der_formed_c1 rec x') (g_der_formed_c1 rec_p x') := by
  unfold g_der_formed_c1
  repeat' (with_reducible first | assumption | apply OLe.bind_ | apply OLe.cond_ | apply OLe.up_ | apply h_rec | exact OLe.refl | intro _)
theorem c_der_formed_c1_le (fu : Nat) {rec : api_Value → Option (Bool)} {x' : api_Value} {rec_p : api_Value → Option (Bool)} (h_rec : ∀ (x0 : api_Value), OLe (rec x0) (rec_p x0)) : OLe (c_der_formed_c1 fu rec x') (g_der_formed_c1 rec_p x') := by
  unfold c_der_formed_c1 g_der_formed_c1
  repeat' (with_reducible first | assumption | apply OLe.bind_ | apply OLe.cond_ | apply OLe.up_ | apply h_rec | exact OLe.refl | intro _)
def c_slices_IndexFunc_api_Value.l1 (fu : Nat) (s : (List api_Value)) (f : api_Value → Option (Bool)) (x8_1 : Int) : Option (Lp (Int) (Int)) :=
  cond (decide (x8_1 < (s.length : Int)))
    ((getI s x8_1).bind fun e =>
    (f e).bind fun y =>
    cond (y)
      (up (some x8_1))
      (some (.next (W (x8_1 + 1)))))
    (up (
      some (-1)))
theorem m_slices_IndexFunc_api_Value.l1 {s : (List api_Value)} {f : api_Value → Option (Bool)} {x8_1 : Int} {f_p : api_Value → Option (Bool)} (h_f : ∀ (x0 : api_Value), OLe (f x0) (f_p x0)) : OLe (g_slices_IndexFunc_api_Value.l1 s f x8_1) (g_slices_IndexFunc_api_Value.l1 s f_p x8_1) := by
  unfold g_slices_IndexFunc_api_Value.l1
  repeat' (with_reducible first | assumption | apply OLe.bind_ | apply OLe.cond_ | apply OLe.up_ | apply h_f | exact OLe.refl | intro _)
theorem c_slices_IndexFunc_api_Value.l1_le (fu : Nat) {s : (List api_Value)} {f : api_Value → Option (Bool)} {x8_1 : Int} {f_p : api_Value → Option (Bool)} (h_f : ∀ (x0 : api_Value), OLe (f x0) (f_p x0)) : OLe (c_slices_IndexFunc_api_Value.l1 fu s f x8_1) (g_slices_IndexFunc_api_Value.l1 s f_p x8_1) := by
  unfold c_slices_IndexFunc_api_Value.l1 g_slices_IndexFunc_api_Value.l1
  repeat' (with_reducible first | assumption | apply OLe.bind_ | apply OLe.cond_ | apply OLe.up_ | apply h_f | exact OLe.refl | intro _)
def c_slices_IndexFunc_api_Value (fu : Nat) (rec : api_Value → Option (Bool)) (s : (List api_Value)) (f : api_Value → Option (Bool)) : Option (Int) :=
  loopC fu (fun q' => c_slices_IndexFunc_api_Value.l1 fu s f q') 0
theorem m_slices_IndexFunc_api_Value {rec : api_Value → Option (Bool)} {s : (List api_Value)} {f : api_Value → Option (Bool)} {rec_p : api_Value → Option (Bool)} {f_p : api_Value → Option (Bool)} (h_rec : ∀ (x0 : api_Value), OLe (rec x0) (rec_p x0)) (h_f : ∀ (x0 : api_Value), OLe (f x0) (f_p x0)) : OLe (g_slices_IndexFunc_api_Value rec s f) (g_slices_IndexFunc_api_Value rec_p s f_p) := by
  unfold g_slices_IndexFunc_api_Value
  repeat' (with_reducible first | assumption | apply OLe.bind_ | apply OLe.cond_ | apply OLe.up_ | apply h_rec | apply h_f | apply m_slices_IndexFunc_api_Value.l1 | (refine OLe.lp (fun _ => ?_) _) | exact OLe.refl | intro _)
theorem c_slices_IndexFunc_api_Value_le (fu : Nat) {rec : api_Value → Option (Bool)} {s : (List api_Value)} {f : api_Value → Option (Bool)} {rec_p : api_Value → Option (Bool)} {f_p : api_Value → Option (Bool)} (h_rec : ∀ (x0 : api_Value), OLe (rec x0) (rec_p x0)) (h_f : ∀ (x0 : api_Value), OLe (f x0) (f_p x0)) : OLe (c_slices_IndexFunc_api_Value fu rec s f) (g_slices_IndexFunc_api_Value rec_p s f_p) := by
  unfold c_slices_IndexFunc_api_Value g_slices_IndexFunc_api_Value
  repeat' (with_reducible first | assumption | apply OLe.bind_ | apply OLe.cond_ | apply OLe.up_ | apply h_rec | apply h_f | apply c_slices_IndexFunc_api_Value.l1_le | (refine OLe.lpC _ (fun _ => ?_) _) | exact OLe.refl | intro _)
def c_slices_ContainsFunc_api_Value (fu : Nat) (rec : api_Value → Option (Bool)) (s : (List api_Value)) (f : api_Value → Option (Bool)) : Option (Bool) :=
  (c_slices_IndexFunc_api_Value fu rec s f).bind fun y =>
  some (decide (0 ≤ y))
theorem m_slices_ContainsFunc_api_Value {rec : api_Value → Option (Bool)} {s : (List api_Value)} {f : api_Value → Option (Bool)} {rec_p : api_Value → Option (Bool)} {f_p : api_Value → Option (Bool)} (h_rec : ∀ (x0 : api_Value), OLe (rec x0) (rec_p x0)) (h_f : ∀ (x0 : api_Value), OLe (f x0) (f_p x0)) : OLe (g_slices_ContainsFunc_api_Value rec s f) (g_slices_ContainsFunc_api_Value rec_p s f_p) := by
  unfold g_slices_ContainsFunc_api_Value
  repeat' (with_reducible first | assumption | apply OLe.bind_ | apply OLe.cond_ | apply OLe.up_ | apply h_rec | apply h_f | apply m_slices_IndexFunc_api_Value | exact OLe.refl | intro _)
theorem c_slices_ContainsFunc_api_Value_le (fu : Nat) {rec : api_Value → Option (Bool)} {s : (List api_Value)} {f : api_Value → Option (Bool)} {rec_p : api_Value → Option (Bool)} {f_p : api_Value → Option (Bool)} (h_rec : ∀ (x0 : api_Value), OLe (rec x0) (rec_p x0)) (h_f : ∀ (x0 : api_Value), OLe (f x0) (f_p x0)) : OLe (c_slices_ContainsFunc_api_Value fu rec s f) (g_slices_ContainsFunc_api_Value rec_p s f_p) := by
  unfold c_slices_ContainsFunc_api_Value g_slices_ContainsFunc_api_Value
  repeat' (with_reducible first | assumption | apply OLe.bind_ | apply OLe.cond_ | apply OLe.up_ | apply h_rec | apply h_f | apply c_slices_IndexFunc_api_Value_le | exact OLe.refl | intro _)
def c_der_formed.j1 (fu : Nat) (rec : api_Value → Option (Bool)) (v : api_Value) (x36_1 : Bool) : Option (Bool) :=
  cond (x36_1)
    (some false)
    ((c_slices_ContainsFunc_api_Value fu rec v.Elements (fun x0 => c_der_formed_c1 fu rec x0)).bind fun y_2 =>
    some (!y_2))
theorem m_der_formed.j1 {rec : api_Value → Option (Bool)} {v : api_Value} {x36_1 : Bool} {rec_p : api_Value → Option (Bool)} (h_rec : ∀ (x0 : api_Value), OLe (rec x0) (rec_p x0)) : OLe (g_der_formed.j1 rec v x36_1) (g_der_formed.j1 rec_p v x36_1) := by
  unfold g_der_formed.j1
  repeat' (with_reducible first | assumption | apply OLe.bind_ | apply OLe.cond_ | apply OLe.up_ | apply h_rec | apply m_slices_ContainsFunc_api_Value | apply m_der_formed_c1 | exact OLe.refl | intro _)
theorem c_der_formed.j1_le (fu : Nat) {rec : api_Value → Option (Bool)} {v : api_Value} {x36_1 : Bool} {rec_p : api_Value → Option (Bool)} (h_rec : ∀ (x0 : api_Value), OLe (rec x0) (rec_p x0)) : OLe (c_der_formed.j1 fu rec v x36_1) (g_der_formed.j1 rec_p v x36_1) := by
  unfold c_der_formed.j1 g_der_formed.j1
  repeat' (with_reducible first | assumption | apply OLe.bind_ | apply OLe.cond_ | apply OLe.up_ | apply h_rec | apply c_slices_ContainsFunc_api_Value_le | apply c_der_formed_c1_le | exact OLe.refl | intro _)
def c_der_formed.F (fu : Nat) (rec : api_Value → Option (Bool)) (v : api_Value) : Option (Bool) :=
  (c_der_tag fu v.Tag).bind fun y =>
  cond (!y)
    (c_der_formed.j1 fu rec v true)
    (cond (!decide (v.Nested = (!decide ((andK .i64 v.Tag 32) = 0))))
      (c_der_formed.j1 fu rec v true)
      (cond (v.Nested)
        (cond (decide (0 < (v.Bytes.length : Int)))
          (c_der_formed.j1 fu rec v true)
          (c_der_formed.j1 fu rec v false))
        (c_der_formed.j1 fu rec v (decide (0 < (v.Elements.length : Int))))))
theorem m_der_formed.F {rec : api_Value → Option (Bool)} {v : api_Value} {rec_p : api_Value → Option (Bool)} (h_rec : ∀ (x0 : api_Value), OLe (rec x0) (rec_p x0)) : OLe (g_der_formed.F rec v) (g_der_formed.F rec_p v) := by
  unfold g_der_formed.F
  repeat' (with_reducible first | assumption | apply OLe.bind_ | apply OLe.cond_ | apply OLe.up_ | apply h_rec | apply m_der_formed.j1 | exact OLe.refl | intro _)
theorem c_der_formed.F_le (fu : Nat) {rec : api_Value → Option (Bool)} {v : api_Value} {rec_p : api_Value → Option (Bool)} (h_rec : ∀ (x0 : api_Value), OLe (rec x0) (rec_p x0)) : OLe (c_der_formed.F fu rec v) (g_der_formed.F rec_p v) := by
  unfold c_der_formed.F g_der_formed.F
  repeat' (with_reducible first | assumption | apply OLe.bind_ | apply OLe.cond_ | apply OLe.up_ | apply h_rec | apply c_der_tag_le | apply c_der_formed.j1_le | exact OLe.refl | intro _)
def c_der_formed (fu : Nat) (v : api_Value) : Option (Bool) := fixC fu (fun rec (x : api_Value) => c_der_formed.F fu (fun v => rec v) x) v
theorem mono_der_formed : MonoF (fun rec (x : api_Value) => g_der_formed.F (fun v => rec v) x) := fun p q h a => by
  apply m_der_formed.F
  intros
  apply h
theorem c_der_formed_le (fu : Nat) {v : api_Value} : OLe (c_der_formed fu v) (g_der_formed v) := by
  unfold c_der_formed g_der_formed
  refine OLe.fx _ ?_ mono_der_formed _
  intro p q h a
  apply c_der_formed.F_le
  intros
  apply h
def c_der_depth.l1 (fu : Nat) (rec : api_Value → Option (Int)) (v : api_Value) (most_1 : Int) (x9_1 : Int) : Option (Lp (Int × Int) (Int)) :=
  cond (decide (x9_1 < (v.Elements.length : Int)))
    ((getI v.Elements x9_1).bind fun e =>
    (rec e).bind fun y =>
    some (.next (max most_1 y, W (x9_1 + 1))))
    (up (
      some (W (most_1 + 1))))
theorem m_der_depth.l1 {rec : api_Value → Option (Int)} {v : api_Value} {most_1 : Int} {x9_1 : Int} {rec_p : api_Value → Option (Int)} (h_rec : ∀ (x0 : api_Value), OLe (rec x0) (rec_p x0)) : OLe (g_der_depth.l1 rec v most_1 x9_1) (g_der_depth.l1 rec_p v most_1 x9_1) := by
  unfold g_der_depth.l1
  repeat' (with_reducible first | assumption | apply OLe.bind_ | apply OLe.cond_ | apply OLe.up_ | apply h_rec | exact OLe.refl | intro _)
theorem c_der_depth.l1_le (fu : Nat) {rec : api_Value → Option (Int)} {v : api_Value} {most_1 : Int} {x9_1 : Int} {rec_p : api_Value → Option (Int)} (h_rec : ∀ (x0 : api_Value), OLe (rec x0) (rec_p x0)) : OLe (c_der_depth.l1 fu rec v most_1 x9_1) (g_der_depth.l1 rec_p v most_1 x9_1) := by
  unfold c_der_depth.l1 g_der_depth.l1
  repeat' (with_reducible first | assumption | apply OLe.bind_ | apply OLe.cond_ | apply OLe.up_ | apply h_rec | exact OLe.refl | intro _)
def c_der_depth.F (fu : Nat) (rec : api_Value → Option (Int)) (v : api_Value) : Option (Int) :=
  loopC fu (fun q' => c_der_depth.l1 fu rec v q'.1 q'.2) (0, 0)
theorem m_der_depth.F {rec : api_Value → Option (Int)} {v : api_Value} {rec_p : api_Value → Option (Int)} (h_rec : ∀ (x0 : api_Value), OLe (rec x0) (rec_p x0)) : OLe (g_der_depth.F rec v) (g_der_depth.F rec_p v) := by
  unfold g_der_depth.F
  repeat' (with_reducible first | assumption | apply OLe.bind_ | apply OLe.cond_ | apply OLe.up_ | apply h_rec | apply m_der_depth.l1 | (refine OLe.lp (fun _ => ?_) _) | exact OLe.refl | intro _)
theorem c_der_depth.F_le (fu : Nat) {rec : api_Value → Option (Int)} {v : api_Value} {rec_p : api_Value → Option (Int)} (h_rec : ∀ (x0 : api_Value), OLe (rec x0) (rec_p x0)) : OLe (c_der_depth.F fu rec v) (g_der_depth.F rec_p v) := by
  unfold c_der_depth.F g_der_depth.F
  repeat' (with_reducible first | assumption | apply OLe.bind_ | apply OLe.cond_ | apply OLe.up_ | apply h_rec | apply c_der_depth.l1_le | (refine OLe.lpC _ (fun _ => ?_) _) | exact OLe.refl | intro _)
def c_der_depth (fu : Nat) (v : api_Value) : Option (Int) := fixC fu (fun rec (x : api_Value) => c_der_depth.F fu (fun v => rec v) x) v
theorem mono_der_depth : MonoF (fun rec (x : api_Value) => g_der_depth.F (fun v => rec v) x) := fun p q h a => by
  apply m_der_depth.F
  intros
  apply h
theorem c_der_depth_le (fu : Nat) {v : api_Value} : OLe (c_der_depth fu v) (g_der_depth v) := by
  unfold c_der_depth g_der_depth
  refine OLe.fx _ ?_ mono_der_depth _
  intro p q h a
  apply c_der_depth.F_le
  intros
  apply h
def c_der_length.l2 (fu : Nat) (n : Int) (i_2 : Int) (b_2 : List UInt8) : Option (Lp (Int × List UInt8) ((List UInt8))) :=
  cond (decide (0 ≤ i_2))
    ((shrK .i64 n (W (8 * i_2))).bind fun q_2 =>
    (appI 1 b_2 ([(u8 q_2)] : List UInt8)).bind fun l_3 =>
    some (.next (W (i_2 - 1), l_3)))
    (up (
      some b_2))
theorem c_der_length.l2_le (fu : Nat) {n : Int} {i_2 : Int} {b_2 : List UInt8} : OLe (c_der_length.l2 fu n i_2 b_2) (g_der_length.l2 n i_2 b_2) := by
  unfold c_der_length.l2 g_der_length.l2
  repeat' (with_reducible first | assumption | apply OLe.bind_ | apply OLe.cond_ | apply OLe.up_ | exact OLe.refl | intro _)
def c_der_length.l1 (fu : Nat) (b : List UInt8) (n : Int) (count_1 : Int) (m_1 : Int) : Option (Lp (Int × Int) ((List UInt8))) :=
  cond (decide (0 < m_1))
    ((shrK .i64 m_1 8).bind fun q =>
    some (.next (W (count_1 + 1), q)))
    (up (
      (appI 1 b ([(u8 (W (128 + count_1)))] : List UInt8)).bind fun l_2 =>
      loopC fu (fun q' => c_der_length.l2 fu n q'.1 q'.2) (W (count_1 - 1), l_2)))
theorem c_der_length.l1_le (fu : Nat) {b : List UInt8} {n : Int} {count_1 : Int} {m_1 : Int} : OLe (c_der_length.l1 fu b n count_1 m_1) (g_der_length.l1 b n count_1 m_1) := by
  unfold c_der_length.l1 g_der_length.l1
  repeat' (with_reducible first | assumption | apply OLe.bind_ | apply OLe.cond_ | apply OLe.up_ | apply c_der_length.l2_le | (refine OLe.lpC _ (fun _ => ?_) _) | exact OLe.refl | intro _)
def c_der_length (fu : Nat) (b : List UInt8) (n : Int) : Option ((List UInt8)) :=
  cond (decide (n < 128))
    ((appI 1 b ([(u8 n)] : List UInt8)).bind fun l =>
    some l)
    (loopC fu (fun q' => c_der_length.l1 fu b n q'.1 q'.2) (0, n))
theorem c_der_length_le (fu : Nat) {b : List UInt8} {n : Int} : OLe (c_der_length fu b n) (g_der_length b n) := by
  unfold c_der_length g_der_length
  repeat' (with_reducible first | assumption | apply OLe.bind_ | apply OLe.cond_ | apply OLe.up_ | apply c_der_length.l1_le | (refine OLe.lpC _ (fun _ => ?_) _) | exact OLe.refl | intro _)
def c_der_element (fu : Nat) (rec : api_Value → Option ((List UInt8))) (b : List UInt8) (v : api_Value) : Option ((List UInt8)) :=
  (rec v).bind fun y =>
  (appI 1 b ([(u8 v.Tag)] : List UInt8)).bind fun l =>
  (c_der_length fu l (y.length : Int)).bind fun y_2 =>
  (appI 1 y_2 y).bind fun l_2 =>
  some l_2
theorem m_der_element {rec : api_Value → Option ((List UInt8))} {b : List UInt8} {v : api_Value} {rec_p : api_Value → Option ((List UInt8))} (h_rec : ∀ (x0 : api_Value), OLe (rec x0) (rec_p x0)) : OLe (g_der_element rec b v) (g_der_element rec_p b v) := by
  unfold g_der_element
  repeat' (with_reducible first | assumption | apply OLe.bind_ | apply OLe.cond_ | apply OLe.up_ | apply h_rec | exact OLe.refl | intro _)
theorem c_der_element_le (fu : Nat) {rec : api_Value → Option ((List UInt8))} {b : List UInt8} {v : api_Value} {rec_p : api_Value → Option ((List UInt8))} (h_rec : ∀ (x0 : api_Value), OLe (rec x0) (rec_p x0)) : OLe (c_der_element fu rec b v) (g_der_element rec_p b v) := by
  unfold c_der_element g_der_element
  repeat' (with_reducible first | assumption | apply OLe.bind_ | apply OLe.cond_ | apply OLe.up_ | apply h_rec | apply c_der_length_le | exact OLe.refl | intro _)
def c_der_contents.l1 (fu : Nat) (rec : api_Value → Option ((List UInt8))) (v : api_Value) (x14_1 : Int) (out_1 : List UInt8) : Option (Lp (Int × List UInt8) ((List UInt8))) :=
  cond (decide (x14_1 < (v.Elements.length : Int)))
    ((getI v.Elements x14_1).bind fun e =>
    (c_der_element fu rec out_1 e).bind fun y =>
    some (.next (W (x14_1 + 1), y)))
    (up (
      some out_1))
theorem m_der_contents.l1 {rec : api_Value → Option ((List UInt8))} {v : api_Value} {x14_1 : Int} {out_1 : List UInt8} {rec_p : api_Value → Option ((List UInt8))} (h_rec : ∀ (x0 : api_Value), OLe (rec x0) (rec_p x0)) : OLe (g_der_contents.l1 rec v x14_1 out_1) (g_der_contents.l1 rec_p v x14_1 out_1) := by
  unfold g_der_contents.l1
  repeat' (with_reducible first | assumption | apply OLe.bind_ | apply OLe.cond_ | apply OLe.up_ | apply h_rec | apply m_der_element | exact OLe.refl | intro _)
theorem c_der_contents.l1_le (fu : Nat) {rec : api_Value → Option ((List UInt8))} {v : api_Value} {x14_1 : Int} {out_1 : List UInt8} {rec_p : api_Value → Option ((List UInt8))} (h_rec : ∀ (x0 : api_Value), OLe (rec x0) (rec_p x0)) : OLe (c_der_contents.l1 fu rec v x14_1 out_1) (g_der_contents.l1 rec_p v x14_1 out_1) := by
  unfold c_der_contents.l1 g_der_contents.l1
  repeat' (with_reducible first | assumption | apply OLe.bind_ | apply OLe.cond_ | apply OLe.up_ | apply h_rec | apply c_der_element_le | exact OLe.refl | intro _)
def c_der_contents.F (fu : Nat) (rec : api_Value → Option ((List UInt8))) (v : api_Value) : Option ((List UInt8)) :=
  cond (!v.Nested)
    (some v.Bytes)
    (loopC fu (fun q' => c_der_contents.l1 fu rec v q'.1 q'.2) (0, ([] : List UInt8)))
theorem m_der_contents.F {rec : api_Value → Option ((List UInt8))} {v : api_Value} {rec_p : api_Value → Option ((List UInt8))} (h_rec : ∀ (x0 : api_Value), OLe (rec x0) (rec_p x0)) : OLe (g_der_contents.F rec v) (g_der_contents.F rec_p v) := by
  unfold g_der_contents.F
  repeat' (with_reducible first | assumption | apply OLe.bind_ | apply OLe.cond_ | apply OLe.up_ | apply h_rec | apply m_der_contents.l1 | (refine OLe.lp (fun _ => ?_) _) | exact OLe.refl | intro _)
theorem c_der_contents.F_le (fu : Nat) {rec : api_Value → Option ((List UInt8))} {v : api_Value} {rec_p : api_Value → Option ((List UInt8))} (h_rec : ∀ (x0 : api_Value), OLe (rec x0) (rec_p x0)) : OLe (c_der_contents.F fu rec v) (g_der_contents.F rec_p v) := by
  unfold c_der_contents.F g_der_contents.F
  repeat' (with_reducible first | assumption | apply OLe.bind_ | apply OLe.cond_ | apply OLe.up_ | apply h_rec | apply c_der_contents.l1_le | (refine OLe.lpC _ (fun _ => ?_) _) | exact OLe.refl | intro _)
def c_der_contents (fu : Nat) (v : api_Value) : Option ((List UInt8)) := fixC fu (fun rec (x : api_Value) => c_der_contents.F fu (fun v => rec v) x) v
theorem mono_der_contents : MonoF (fun rec (x : api_Value) => g_der_contents.F (fun v => rec v) x) := fun p q h a => by
  apply m_der_contents.F
  intros
  apply h
theorem c_der_contents_le (fu : Nat) {v : api_Value} : OLe (c_der_contents fu v) (g_der_contents v) := by
  unfold c_der_contents g_der_contents
  refine OLe.fx _ ?_ mono_der_contents _
  intro p q h a
  apply c_der_contents.F_le
  intros
  apply h
def c_der_element_nil (fu : Nat) (v : api_Value) : Option ((List UInt8)) :=
  (c_der_contents fu v).bind fun y =>
  (appI 1 ([] : List UInt8) ([(u8 v.Tag)] : List UInt8)).bind fun l =>
  (c_der_length fu l (y.length : Int)).bind fun y_2 =>
  (appI 1 y_2 y).bind fun l_2 =>
  some l_2
theorem c_der_element_nil_le (fu : Nat) {v : api_Value} : OLe (c_der_element_nil fu v) (g_der_element_nil v) := by
  unfold c_der_element_nil g_der_element_nil
  repeat' (with_reducible first | assumption | apply OLe.bind_ | apply OLe.cond_ | apply OLe.up_ | apply c_der_contents_le | apply c_der_length_le | exact OLe.refl | intro _)
def c_der_Encode (fu : Nat) (v : api_Value) : Option ((List UInt8) × Int) :=
  (c_der_formed fu v).bind fun y =>
  cond (!y)
    (some (([] : (List UInt8)), 1))
    ((c_der_depth fu v).bind fun y_2 =>
    cond (decide (16 < y_2))
      (some (([] : (List UInt8)), 3))
      ((c_der_element_nil fu v).bind fun y_3 =>
      cond (decide (4096 < (y_3.length : Int)))
        (some (([] : (List UInt8)), 3))
        (some (y_3, 0))))
theorem c_der_Encode_le (fu : Nat) {v : api_Value} : OLe (c_der_Encode fu v) (g_der_Encode v) := by
  unfold c_der_Encode g_der_Encode
  repeat' (with_reducible first | assumption | apply OLe.bind_ | apply OLe.cond_ | apply OLe.up_ | apply c_der_formed_le | apply c_der_depth_le | apply c_der_element_nil_le | exact OLe.refl | intro _)
def c_certificate_Bytes (fu : Nat) (c : api_Certificate) : Option ((List UInt8) × Int) :=
  (c_certificate_valid fu c).bind fun y =>
  cond (!y)
    (some (([] : (List UInt8)), 9))
    ((c_certificate_body fu c).bind fun y_2 =>
    (c_der_Encode fu y_2).bind fun y_3 =>
    some (y_3.1, y_3.2))
theorem c_certificate_Bytes_le (fu : Nat) {c : api_Certificate} : OLe (c_certificate_Bytes fu c) (g_certificate_Bytes c) := by
  unfold c_certificate_Bytes g_certificate_Bytes
  repeat' (with_reducible first | assumption | apply OLe.bind_ | apply OLe.cond_ | apply OLe.up_ | apply c_certificate_valid_le | apply c_certificate_body_le | apply c_der_Encode_le | exact OLe.refl | intro _)
def c_certificate_Sum.l1 (fu : Nat) (b : (List UInt8)) (s_1 : Int) (x8_1 : Int) : Option (Lp (Int × Int) (Int)) :=
  cond (decide (x8_1 < (b.length : Int)))
    ((getI b x8_1).bind fun e =>
    some (.next (IntKind.wrap .u32 ((xorK .u32 s_1 (IntKind.wrap .u32 (e.toNat : Int))) * 16777619), W (x8_1 + 1))))
    (up (
      some (W s_1)))
theorem c_certificate_Sum.l1_le (fu : Nat) {b : (List UInt8)} {s_1 : Int} {x8_1 : Int} : OLe (c_certificate_Sum.l1 fu b s_1 x8_1) (g_certificate_Sum.l1 b s_1 x8_1) := by
  unfold c_certificate_Sum.l1 g_certificate_Sum.l1
  repeat' (with_reducible first | assumption | apply OLe.bind_ | apply OLe.cond_ | apply OLe.up_ | exact OLe.refl | intro _)
def c_certificate_Sum (fu : Nat) (b : (List UInt8)) : Option (Int) :=
  loopC fu (fun q' => c_certificate_Sum.l1 fu b q'.1 q'.2) (2166136261, 0)
theorem c_certificate_Sum_le (fu : Nat) {b : (List UInt8)} : OLe (c_certificate_Sum fu b) (g_certificate_Sum b) := by
  unfold c_certificate_Sum g_certificate_Sum
  repeat' (with_reducible first | assumption | apply OLe.bind_ | apply OLe.cond_ | apply OLe.up_ | apply c_certificate_Sum.l1_le | (refine OLe.lpC _ (fun _ => ?_) _) | exact OLe.refl | intro _)
def c_certificate_Sign.j1 (fu : Nat) (c : api_Certificate) (key : Int) (y : (List ByteArray)) (y_2 : (List UInt8) × Int) (x25_1 : Bool) : Option (api_Certificate × Int) :=
  cond (x25_1)
    (some ((api_Certificate.mk 0 (⟨#[]⟩ : ByteArray) (⟨#[]⟩ : ByteArray) (api_Use.mk 0 0) 0 (api_Use.mk 0 0) 0 0 false 0 ([] : (List ByteArray)) (api_Seal.mk 0 0)), 9))
    ((c_certificate_Sum fu y_2.1).bind fun y_4 =>
    some ((api_Certificate.mk c.Serial c.Issuer c.Subject c.Key c.KeyId c.Hash c.From c.To c.Authority c.Path y (api_Seal.mk key y_4)), 0))
theorem c_certificate_Sign.j1_le (fu : Nat) {c : api_Certificate} {key : Int} {y : (List ByteArray)} {y_2 : (List UInt8) × Int} {x25_1 : Bool} : OLe (c_certificate_Sign.j1 fu c key y y_2 x25_1) (g_certificate_Sign.j1 c key y y_2 x25_1) := by
  unfold c_certificate_Sign.j1 g_certificate_Sign.j1
  repeat' (with_reducible first | assumption | apply OLe.bind_ | apply OLe.cond_ | apply OLe.up_ | apply c_certificate_Sum_le | exact OLe.refl | intro _)
def c_certificate_Sign (fu : Nat) (c : api_Certificate) (key : Int) : Option (api_Certificate × Int) :=
  (c_slices_Clone_string fu c.Names).bind fun y =>
  (c_certificate_Bytes fu (api_Certificate.mk c.Serial c.Issuer c.Subject c.Key c.KeyId c.Hash c.From c.To c.Authority c.Path y (api_Seal.mk 0 0))).bind fun y_2 =>
  cond (!decide (y_2.2 = 0))
    (c_certificate_Sign.j1 fu c key y y_2 true)
    ((c_certificate_Key fu key).bind fun y_3 =>
    c_certificate_Sign.j1 fu c key y y_2 (!y_3))
theorem c_certificate_Sign_le (fu : Nat) {c : api_Certificate} {key : Int} : OLe (c_certificate_Sign fu c key) (g_certificate_Sign c key) := by
  unfold c_certificate_Sign g_certificate_Sign
  repeat' (with_reducible first | assumption | apply OLe.bind_ | apply OLe.cond_ | apply OLe.up_ | apply c_slices_Clone_string_le | apply c_certificate_Bytes_le | apply c_certificate_Sign.j1_le | apply c_certificate_Key_le | exact OLe.refl | intro _)
def c_certificate_Element (fu : Nat) (c : api_Certificate) : Option (api_Value) :=
  (c_certificate_body fu c).bind fun y =>
  (c_der_Int fu c.Seal.Key).bind fun y_2 =>
  (c_der_Int fu c.Seal.Sum).bind fun y_3 =>
  (c_der_Of fu ([y_2, y_3] : List api_Value)).bind fun y_4 =>
  (c_der_Of fu ([y, y_4] : List api_Value)).bind fun y_5 =>
  some y_5
theorem c_certificate_Element_le (fu : Nat) {c : api_Certificate} : OLe (c_certificate_Element fu c) (g_certificate_Element c) := by
  unfold c_certificate_Element g_certificate_Element
  repeat' (with_reducible first | assumption | apply OLe.bind_ | apply OLe.cond_ | apply OLe.up_ | apply c_certificate_body_le | apply c_der_Int_le | apply c_der_Of_le | exact OLe.refl | intro _)
def c_certificate_Encode (fu : Nat) (c : api_Certificate) : Option ((List UInt8) × Int) :=
  (c_certificate_valid fu c).bind fun y =>
  cond (!y)
    (some (([] : (List UInt8)), 9))
    ((c_certificate_Element fu c).bind fun y_2 =>
    (c_der_Encode fu y_2).bind fun y_3 =>
    some (y_3.1, y_3.2))
theorem c_certificate_Encode_le (fu : Nat) {c : api_Certificate} : OLe (c_certificate_Encode fu c) (g_certificate_Encode c) := by
  unfold c_certificate_Encode g_certificate_Encode
  repeat' (with_reducible first | assumption | apply OLe.bind_ | apply OLe.cond_ | apply OLe.up_ | apply c_certificate_valid_le | apply c_certificate_Element_le | apply c_der_Encode_le | exact OLe.refl | intro _)
def c_der_size.l2 (fu : Nat) (e : UInt8) (l : List UInt8) (n_2 : Int) (x46_2 : Int) : Option (Lp (Int × Int) (Int × Int × Bool)) :=
  cond (decide (x46_2 < (l.length : Int)))
    ((getI l x46_2).bind fun e_3 =>
    (shlK .i64 n_2 8).bind fun q =>
    some (.next (orK .i64 q (e_3.toNat : Int), W (x46_2 + 1))))
    (up (
      some (n_2, W (1 + (W ((e.toNat : Int) - 128))), decide (128 ≤ n_2))))
theorem c_der_size.l2_le (fu : Nat) {e : UInt8} {l : List UInt8} {n_2 : Int} {x46_2 : Int} : OLe (c_der_size.l2 fu e l n_2 x46_2) (g_der_size.l2 e l n_2 x46_2) := by
  unfold c_der_size.l2 g_der_size.l2
  repeat' (with_reducible first | assumption | apply OLe.bind_ | apply OLe.cond_ | apply OLe.up_ | exact OLe.refl | intro _)
def c_der_size.j1 (fu : Nat) (b : (List UInt8)) (e : UInt8) (x40_1 : Bool) : Option (Int × Int × Bool) :=
  cond (x40_1)
    (some (0, 0, false))
    ((slI b 1 (W (1 + (W ((e.toNat : Int) - 128))))).bind fun l =>
    loopC fu (fun q' => c_der_size.l2 fu e l q'.1 q'.2) (0, 0))
theorem c_der_size.j1_le (fu : Nat) {b : (List UInt8)} {e : UInt8} {x40_1 : Bool} : OLe (c_der_size.j1 fu b e x40_1) (g_der_size.j1 b e x40_1) := by
  unfold c_der_size.j1 g_der_size.j1
  repeat' (with_reducible first | assumption | apply OLe.bind_ | apply OLe.cond_ | apply OLe.up_ | apply c_der_size.l2_le | (refine OLe.lpC _ (fun _ => ?_) _) | exact OLe.refl | intro _)
def c_der_size (fu : Nat) (b : (List UInt8)) : Option (Int × Int × Bool) :=
  cond (decide ((b.length : Int) = 0))
    (some (0, 0, false))
    ((getI b 0).bind fun e =>
    cond (decide ((W ((e.toNat : Int) - 128)) < 0))
      (some ((e.toNat : Int), 1, true))
      (cond (decide ((W ((e.toNat : Int) - 128)) < 1))
        (c_der_size.j1 fu b e true)
        (cond (decide (2 < (W ((e.toNat : Int) - 128))))
          (c_der_size.j1 fu b e true)
          (cond (decide ((b.length : Int) ≤ (W ((e.toNat : Int) - 128))))
            (c_der_size.j1 fu b e true)
            ((getI b 1).bind fun e_2 =>
            c_der_size.j1 fu b e (decide ((e_2.toNat : Int) = 0)))))))
theorem c_der_size_le (fu : Nat) {b : (List UInt8)} : OLe (c_der_size fu b) (g_der_size b) := by
  unfold c_der_size g_der_size
  repeat' (with_reducible first | assumption | apply OLe.bind_ | apply OLe.cond_ | apply OLe.up_ | apply c_der_size.j1_le | exact OLe.refl | intro _)
def c_der_all.l1 (fu : Nat) (rec : (List UInt8) → Option (api_Value × Int × Bool)) (b : (List UInt8)) (at_1 : Int) (out_1 : List api_Value) : Option (Lp (Int × List api_Value) ((List api_Value) × Bool)) :=
  cond (decide (at_1 < (b.length : Int)))
    ((slI b at_1 (b.length : Int)).bind fun l =>
    (rec l).bind fun y =>
    cond (!y.2.2)
      (up (some (([] : (List api_Value)), false)))
      ((appI 256 out_1 ([y.1] : List api_Value)).bind fun l_2 =>
      some (.next (W (at_1 + y.2.1), l_2))))
    (up (
      some (out_1, true)))
theorem m_der_all.l1 {rec : (List UInt8) → Option (api_Value × Int × Bool)} {b : (List UInt8)} {at_1 : Int} {out_1 : List api_Value} {rec_p : (List UInt8) → Option (api_Value × Int × Bool)} (h_rec : ∀ (x0 : (List UInt8)), OLe (rec x0) (rec_p x0)) : OLe (g_der_all.l1 rec b at_1 out_1) (g_der_all.l1 rec_p b at_1 out_1) := by
  unfold g_der_all.l1
  repeat' (with_reducible first | assumption | apply OLe.bind_ | apply OLe.cond_ | apply OLe.up_ | apply h_rec | exact OLe.refl | intro _)
theorem c_der_all.l1_le (fu : Nat) {rec : (List UInt8) → Option (api_Value × Int × Bool)} {b : (List UInt8)} {at_1 : Int} {out_1 : List api_Value} {rec_p : (List UInt8) → Option (api_Value × Int × Bool)} (h_rec : ∀ (x0 : (List UInt8)), OLe (rec x0) (rec_p x0)) : OLe (c_der_all.l1 fu rec b at_1 out_1) (g_der_all.l1 rec_p b at_1 out_1) := by
  unfold c_der_all.l1 g_der_all.l1
  repeat' (with_reducible first | assumption | apply OLe.bind_ | apply OLe.cond_ | apply OLe.up_ | apply h_rec | exact OLe.refl | intro _)
def c_der_all (fu : Nat) (rec : (List UInt8) → Option (api_Value × Int × Bool)) (b : (List UInt8)) : Option ((List api_Value) × Bool) :=
  loopC fu (fun q' => c_der_all.l1 fu rec b q'.1 q'.2) (0, ([] : List api_Value))
theorem m_der_all {rec : (List UInt8) → Option (api_Value × Int × Bool)} {b : (List UInt8)} {rec_p : (List UInt8) → Option (api_Value × Int × Bool)} (h_rec : ∀ (x0 : (List UInt8)), OLe (rec x0) (rec_p x0)) : OLe (g_der_all rec b) (g_der_all rec_p b) := by
  unfold g_der_all
  repeat' (with_reducible first | assumption | apply OLe.bind_ | apply OLe.cond_ | apply OLe.up_ | apply h_rec | apply m_der_all.l1 | (refine OLe.lp (fun _ => ?_) _) | exact OLe.refl | intro _)
theorem c_der_all_le (fu : Nat) {rec : (List UInt8) → Option (api_Value × Int × Bool)} {b : (List UInt8)} {rec_p : (List UInt8) → Option (api_Value × Int × Bool)} (h_rec : ∀ (x0 : (List UInt8)), OLe (rec x0) (rec_p x0)) : OLe (c_der_all fu rec b) (g_der_all rec_p b) := by
  unfold c_der_all g_der_all
  repeat' (with_reducible first | assumption | apply OLe.bind_ | apply OLe.cond_ | apply OLe.up_ | apply h_rec | apply c_der_all.l1_le | (refine OLe.lpC _ (fun _ => ?_) _) | exact OLe.refl | intro _)
def c_der_next.j2 (fu : Nat) (rec : (List UInt8) → Option (api_Value × Int × Bool)) (b : (List UInt8)) (y_2 : Int × Int × Bool) (x40_2 : Bool) : Option (api_Value × Int × Bool) :=
  cond (x40_2)
    (some ((api_Value.mk 0 ([] : (List UInt8)) false ([] : (List api_Value))), 0, false))
    ((getI b 0).bind fun e_2 =>
    cond (!decide ((andK .i64 (e_2.toNat : Int) 32) = 0))
      ((slI b (W (1 + y_2.2.1)) (W ((W (1 + y_2.2.1)) + y_2.1))).bind fun l_2 =>
      (c_der_all fu rec l_2).bind fun y_3 =>
      some ((api_Value.mk (e_2.toNat : Int) ([] : (List UInt8)) (!decide ((andK .i64 (e_2.toNat : Int) 32) = 0)) y_3.1), W ((W (1 + y_2.2.1)) + y_2.1), y_3.2))
      ((slI b (W (1 + y_2.2.1)) (W ((W (1 + y_2.2.1)) + y_2.1))).bind fun l_3 =>
      (c_bytes_Clone fu l_3).bind fun y_4 =>
      some ((api_Value.mk (e_2.toNat : Int) y_4 (!decide ((andK .i64 (e_2.toNat : Int) 32) = 0)) ([] : (List api_Value))), W ((W (1 + y_2.2.1)) + y_2.1), true)))
theorem m_der_next.j2 {rec : (List UInt8) → Option (api_Value × Int × Bool)} {b : (List UInt8)} {y_2 : Int × Int × Bool} {x40_2 : Bool} {rec_p : (List UInt8) → Option (api_Value × Int × Bool)} (h_rec : ∀ (x0 : (List UInt8)), OLe (rec x0) (rec_p x0)) : OLe (g_der_next.j2 rec b y_2 x40_2) (g_der_next.j2 rec_p b y_2 x40_2) := by
  unfold g_der_next.j2
  repeat' (with_reducible first | assumption | apply OLe.bind_ | apply OLe.cond_ | apply OLe.up_ | apply h_rec | apply m_der_all | exact OLe.refl | intro _)
theorem c_der_next.j2_le (fu : Nat) {rec : (List UInt8) → Option (api_Value × Int × Bool)} {b : (List UInt8)} {y_2 : Int × Int × Bool} {x40_2 : Bool} {rec_p : (List UInt8) → Option (api_Value × Int × Bool)} (h_rec : ∀ (x0 : (List UInt8)), OLe (rec x0) (rec_p x0)) : OLe (c_der_next.j2 fu rec b y_2 x40_2) (g_der_next.j2 rec_p b y_2 x40_2) := by
  unfold c_der_next.j2 g_der_next.j2
  repeat' (with_reducible first | assumption | apply OLe.bind_ | apply OLe.cond_ | apply OLe.up_ | apply h_rec | apply c_der_all_le | apply c_bytes_Clone_le | exact OLe.refl | intro _)
def c_der_next.j1 (fu : Nat) (rec : (List UInt8) → Option (api_Value × Int × Bool)) (b : (List UInt8)) (x20_1 : Bool) : Option (api_Value × Int × Bool) :=
  cond (x20_1)
    (some ((api_Value.mk 0 ([] : (List UInt8)) false ([] : (List api_Value))), 0, false))
    ((slI b 1 (b.length : Int)).bind fun l =>
    (c_der_size fu l).bind fun y_2 =>
    cond (!y_2.2.2)
      (c_der_next.j2 fu rec b y_2 true)
      (c_der_next.j2 fu rec b y_2 (decide ((W ((b.length : Int) - (W (1 + y_2.2.1)))) < y_2.1))))
theorem m_der_next.j1 {rec : (List UInt8) → Option (api_Value × Int × Bool)} {b : (List UInt8)} {x20_1 : Bool} {rec_p : (List UInt8) → Option (api_Value × Int × Bool)} (h_rec : ∀ (x0 : (List UInt8)), OLe (rec x0) (rec_p x0)) : OLe (g_der_next.j1 rec b x20_1) (g_der_next.j1 rec_p b x20_1) := by
  unfold g_der_next.j1
  repeat' (with_reducible first | assumption | apply OLe.bind_ | apply OLe.cond_ | apply OLe.up_ | apply h_rec | apply m_der_next.j2 | exact OLe.refl | intro _)
theorem c_der_next.j1_le (fu : Nat) {rec : (List UInt8) → Option (api_Value × Int × Bool)} {b : (List UInt8)} {x20_1 : Bool} {rec_p : (List UInt8) → Option (api_Value × Int × Bool)} (h_rec : ∀ (x0 : (List UInt8)), OLe (rec x0) (rec_p x0)) : OLe (c_der_next.j1 fu rec b x20_1) (g_der_next.j1 rec_p b x20_1) := by
  unfold c_der_next.j1 g_der_next.j1
  repeat' (with_reducible first | assumption | apply OLe.bind_ | apply OLe.cond_ | apply OLe.up_ | apply h_rec | apply c_der_size_le | apply c_der_next.j2_le | exact OLe.refl | intro _)
def c_der_next.F (fu : Nat) (rec : (List UInt8) → Option (api_Value × Int × Bool)) (b : (List UInt8)) : Option (api_Value × Int × Bool) :=
  cond (decide ((b.length : Int) = 0))
    (c_der_next.j1 fu rec b true)
    ((getI b 0).bind fun e =>
    (c_der_tag fu (e.toNat : Int)).bind fun y =>
    c_der_next.j1 fu rec b (!y))
theorem m_der_next.F {rec : (List UInt8) → Option (api_Value × Int × Bool)} {b : (List UInt8)} {rec_p : (List UInt8) → Option (api_Value × Int × Bool)} (h_rec : ∀ (x0 : (List UInt8)), OLe (rec x0) (rec_p x0)) : OLe (g_der_next.F rec b) (g_der_next.F rec_p b) := by
  unfold g_der_next.F
  repeat' (with_reducible first | assumption | apply OLe.bind_ | apply OLe.cond_ | apply OLe.up_ | apply h_rec | apply m_der_next.j1 | exact OLe.refl | intro _)
theorem c_der_next.F_le (fu : Nat) {rec : (List UInt8) → Option (api_Value × Int × Bool)} {b : (List UInt8)} {rec_p : (List UInt8) → Option (api_Value × Int × Bool)} (h_rec : ∀ (x0 : (List UInt8)), OLe (rec x0) (rec_p x0)) : OLe (c_der_next.F fu rec b) (g_der_next.F rec_p b) := by
  unfold c_der_next.F g_der_next.F
  repeat' (with_reducible first | assumption | apply OLe.bind_ | apply OLe.cond_ | apply OLe.up_ | apply h_rec | apply c_der_next.j1_le | apply c_der_tag_le | exact OLe.refl | intro _)
def c_der_next (fu : Nat) (b : (List UInt8)) : Option (api_Value × Int × Bool) := fixC fu (fun rec (x : (List UInt8)) => c_der_next.F fu (fun b => rec b) x) b
theorem mono_der_next : MonoF (fun rec (x : (List UInt8)) => g_der_next.F (fun b => rec b) x) := fun p q h a => by
  apply m_der_next.F
  intros
  apply h
theorem c_der_next_le (fu : Nat) {b : (List UInt8)} : OLe (c_der_next fu b) (g_der_next b) := by
  unfold c_der_next g_der_next
  refine OLe.fx _ ?_ mono_der_next _
  intro p q h a
  apply c_der_next.F_le
  intros
  apply h
def c_der_Decode.j1 (fu : Nat) (y : api_Value × Int × Bool) (x24_1 : Bool) : Option (api_Value × Int) :=
  cond (x24_1)
    (some ((api_Value.mk 0 ([] : (List UInt8)) false ([] : (List api_Value))), 1))
    ((c_der_depth fu y.1).bind fun y_2 =>
    cond (decide (16 < y_2))
      (some ((api_Value.mk 0 ([] : (List UInt8)) false ([] : (List api_Value))), 3))
      (some (y.1, 0)))
theorem c_der_Decode.j1_le (fu : Nat) {y : api_Value × Int × Bool} {x24_1 : Bool} : OLe (c_der_Decode.j1 fu y x24_1) (g_der_Decode.j1 y x24_1) := by
  unfold c_der_Decode.j1 g_der_Decode.j1
  repeat' (with_reducible first | assumption | apply OLe.bind_ | apply OLe.cond_ | apply OLe.up_ | apply c_der_depth_le | exact OLe.refl | intro _)
def c_der_Decode (fu : Nat) (b : (List UInt8)) : Option (api_Value × Int) :=
  cond (decide (4096 < (b.length : Int)))
    (some ((api_Value.mk 0 ([] : (List UInt8)) false ([] : (List api_Value))), 3))
    ((c_der_next fu b).bind fun y =>
    cond (!y.2.2)
      (c_der_Decode.j1 fu y true)
      (c_der_Decode.j1 fu y (!decide (y.2.1 = (b.length : Int)))))
theorem c_der_Decode_le (fu : Nat) {b : (List UInt8)} : OLe (c_der_Decode fu b) (g_der_Decode b) := by
  unfold c_der_Decode g_der_Decode
  repeat' (with_reducible first | assumption | apply OLe.bind_ | apply OLe.cond_ | apply OLe.up_ | apply c_der_next_le | apply c_der_Decode.j1_le | exact OLe.refl | intro _)
def c_der_AsList.j1 (fu : Nat) (v : api_Value) (x11_1 : Bool) : Option ((List api_Value) × Int) :=
  cond (x11_1)
    (some (([] : (List api_Value)), 1))
    ((c_der_copied fu v.Elements).bind fun y_2 =>
    some (y_2, 0))
theorem c_der_AsList.j1_le (fu : Nat) {v : api_Value} {x11_1 : Bool} : OLe (c_der_AsList.j1 fu v x11_1) (g_der_AsList.j1 v x11_1) := by
  unfold c_der_AsList.j1 g_der_AsList.j1
  repeat' (with_reducible first | assumption | apply OLe.bind_ | apply OLe.cond_ | apply OLe.up_ | apply c_der_copied_le | exact OLe.refl | intro _)
def c_der_AsList (fu : Nat) (v : api_Value) : Option ((List api_Value) × Int) :=
  cond (!decide (v.Tag = 48))
    (c_der_AsList.j1 fu v true)
    ((c_der_formed fu v).bind fun y =>
    c_der_AsList.j1 fu v (!y))
theorem c_der_AsList_le (fu : Nat) {v : api_Value} : OLe (c_der_AsList fu v) (g_der_AsList v) := by
  unfold c_der_AsList g_der_AsList
  repeat' (with_reducible first | assumption | apply OLe.bind_ | apply OLe.cond_ | apply OLe.up_ | apply c_der_AsList.j1_le | apply c_der_formed_le | exact OLe.refl | intro _)
def c_certificate_Read (fu : Nat) (v : api_Value) (count : Int) : Option (certificate_Reader) :=
  (c_der_AsList fu v).bind fun y =>
  cond (!decide (y.2 = 0))
    (some (certificate_Reader.mk y.1 true))
    (some (certificate_Reader.mk y.1 (!decide ((y.1.length : Int) = count))))
theorem c_certificate_Read_le (fu : Nat) {v : api_Value} {count : Int} : OLe (c_certificate_Read fu v count) (g_certificate_Read v count) := by
  unfold c_certificate_Read g_certificate_Read
  repeat' (with_reducible first | assumption | apply OLe.bind_ | apply OLe.cond_ | apply OLe.up_ | apply c_der_AsList_le | exact OLe.refl | intro _)
def c_certificate_Reader_Next.j1 (fu : Nat) (r' : certificate_Reader) (x15_1 : Bool) : Option (api_Value × certificate_Reader) :=
  cond (x15_1)
    (some ((api_Value.mk 0 ([] : (List UInt8)) false ([] : (List api_Value))), (certificate_Reader.mk r'.l true)))
    ((getI r'.l 0).bind fun e =>
    (slI r'.l 1 (r'.l.length : Int)).bind fun l =>
    some (e, (certificate_Reader.mk l r'.Failed)))
theorem c_certificate_Reader_Next.j1_le (fu : Nat) {r' : certificate_Reader} {x15_1 : Bool} : OLe (c_certificate_Reader_Next.j1 fu r' x15_1) (g_certificate_Reader_Next.j1 r' x15_1) := by
  unfold c_certificate_Reader_Next.j1 g_certificate_Reader_Next.j1
  repeat' (with_reducible first | assumption | apply OLe.bind_ | apply OLe.cond_ | apply OLe.up_ | exact OLe.refl | intro _)
def c_certificate_Reader_Next (fu : Nat) (r' : certificate_Reader) : Option (api_Value × certificate_Reader) :=
  cond (r'.Failed)
    (c_certificate_Reader_Next.j1 fu r' true)
    (c_certificate_Reader_Next.j1 fu r' (decide ((r'.l.length : Int) = 0)))
theorem c_certificate_Reader_Next_le (fu : Nat) {r' : certificate_Reader} : OLe (c_certificate_Reader_Next fu r') (g_certificate_Reader_Next r') := by
  unfold c_certificate_Reader_Next g_certificate_Reader_Next
  repeat' (with_reducible first | assumption | apply OLe.bind_ | apply OLe.cond_ | apply OLe.up_ | apply c_certificate_Reader_Next.j1_le | exact OLe.refl | intro _)
def c_der_plain (fu : Nat) (v : api_Value) (tag : Int) : Option (Bool) :=
  cond (decide (v.Tag = tag))
    (cond (!v.Nested)
      (some (decide ((v.Elements.length : Int) = 0)))
      (some false))
    (some false)
theorem c_der_plain_le (fu : Nat) {v : api_Value} {tag : Int} : OLe (c_der_plain fu v tag) (g_der_plain v tag) := by
  unfold c_der_plain g_der_plain
  repeat' (with_reducible first | assumption | apply OLe.bind_ | apply OLe.cond_ | apply OLe.up_ | exact OLe.refl | intro _)
def c_bytes_Equal (fu : Nat) (a : (List UInt8)) (b : (List UInt8)) : Option (Bool) :=
  some (decide ((ofB a) = (ofB b)))
theorem c_bytes_Equal_le (fu : Nat) {a : (List UInt8)} {b : (List UInt8)} : OLe (c_bytes_Equal fu a b) (g_bytes_Equal a b) := by
  unfold c_bytes_Equal g_bytes_Equal
  repeat' (with_reducible first | assumption | apply OLe.bind_ | apply OLe.cond_ | apply OLe.up_ | exact OLe.refl | intro _)
def c_der_AsInt.l3 (fu : Nat) (v : api_Value) (n_3 : Int) (x32_3 : Int) : Option (Lp (Int × Int) (Int × Int)) :=
  cond (decide (x32_3 < (v.Bytes.length : Int)))
    ((getI v.Bytes x32_3).bind fun e_2 =>
    (shlK .u64 n_3 8).bind fun q =>
    some (.next (orK .u64 q (IntKind.wrap .u64 (e_2.toNat : Int)), W (x32_3 + 1))))
    (up (
      (c_der_Int fu (W n_3)).bind fun y_2 =>
      (c_bytes_Equal fu y_2.Bytes v.Bytes).bind fun y_3 =>
      cond (!y_3)
        (some (0, 1))
        (some (W n_3, 0))))
theorem c_der_AsInt.l3_le (fu : Nat) {v : api_Value} {n_3 : Int} {x32_3 : Int} : OLe (c_der_AsInt.l3 fu v n_3 x32_3) (g_der_AsInt.l3 v n_3 x32_3) := by
  unfold c_der_AsInt.l3 g_der_AsInt.l3
  repeat' (with_reducible first | assumption | apply OLe.bind_ | apply OLe.cond_ | apply OLe.up_ | apply c_der_Int_le | apply c_bytes_Equal_le | exact OLe.refl | intro _)
def c_der_AsInt.j2 (fu : Nat) (v : api_Value) (n_2 : Int) : Option (Int × Int) :=
  loopC fu (fun q' => c_der_AsInt.l3 fu v q'.1 q'.2) (n_2, 0)
theorem c_der_AsInt.j2_le (fu : Nat) {v : api_Value} {n_2 : Int} : OLe (c_der_AsInt.j2 fu v n_2) (g_der_AsInt.j2 v n_2) := by
  unfold c_der_AsInt.j2 g_der_AsInt.j2
  repeat' (with_reducible first | assumption | apply OLe.bind_ | apply OLe.cond_ | apply OLe.up_ | apply c_der_AsInt.l3_le | (refine OLe.lpC _ (fun _ => ?_) _) | exact OLe.refl | intro _)
def c_der_AsInt.j1 (fu : Nat) (v : api_Value) (x21_1 : Bool) : Option (Int × Int) :=
  cond (x21_1)
    (some (0, 1))
    ((getI v.Bytes 0).bind fun e =>
    cond (decide (128 ≤ (e.toNat : Int)))
      (c_der_AsInt.j2 fu v (notK .u64 0))
      (c_der_AsInt.j2 fu v 0))
theorem c_der_AsInt.j1_le (fu : Nat) {v : api_Value} {x21_1 : Bool} : OLe (c_der_AsInt.j1 fu v x21_1) (g_der_AsInt.j1 v x21_1) := by
  unfold c_der_AsInt.j1 g_der_AsInt.j1
  repeat' (with_reducible first | assumption | apply OLe.bind_ | apply OLe.cond_ | apply OLe.up_ | apply c_der_AsInt.j2_le | exact OLe.refl | intro _)
def c_der_AsInt (fu : Nat) (v : api_Value) : Option (Int × Int) :=
  (c_der_plain fu v 2).bind fun y =>
  cond (!y)
    (c_der_AsInt.j1 fu v true)
    (cond (decide ((v.Bytes.length : Int) < 1))
      (c_der_AsInt.j1 fu v true)
      (c_der_AsInt.j1 fu v (decide (8 < (v.Bytes.length : Int)))))
theorem c_der_AsInt_le (fu : Nat) {v : api_Value} : OLe (c_der_AsInt fu v) (g_der_AsInt v) := by
  unfold c_der_AsInt g_der_AsInt
  repeat' (with_reducible first | assumption | apply OLe.bind_ | apply OLe.cond_ | apply OLe.up_ | apply c_der_plain_le | apply c_der_AsInt.j1_le | exact OLe.refl | intro _)
def c_certificate_Reader_Int (fu : Nat) (r' : certificate_Reader) : Option (Int × certificate_Reader) :=
  (c_certificate_Reader_Next fu r').bind fun y =>
  (c_der_AsInt fu y.1).bind fun y_2 =>
  cond (y.2.Failed)
    (some (y_2.1, (certificate_Reader.mk y.2.l true)))
    (some (y_2.1, (certificate_Reader.mk y.2.l (!decide (y_2.2 = 0)))))
theorem c_certificate_Reader_Int_le (fu : Nat) {r' : certificate_Reader} : OLe (c_certificate_Reader_Int fu r') (g_certificate_Reader_Int r') := by
  unfold c_certificate_Reader_Int g_certificate_Reader_Int
  repeat' (with_reducible first | assumption | apply OLe.bind_ | apply OLe.cond_ | apply OLe.up_ | apply c_certificate_Reader_Next_le | apply c_der_AsInt_le | exact OLe.refl | intro _)
def c_certificate_Parse_c1 (fu : Nat) (c0 : certificate_Reader) (c1 : api_Certificate) : Option (certificate_Reader × api_Certificate) :=
  (c_certificate_Reader_Int fu c0).bind fun y =>
  some (y.2, (api_Certificate.mk y.1 c1.Issuer c1.Subject c1.Key c1.KeyId c1.Hash c1.From c1.To c1.Authority c1.Path c1.Names c1.Seal))
theorem c_certificate_Parse_c1_le (fu : Nat) {c0 : certificate_Reader} {c1 : api_Certificate} : OLe (c_certificate_Parse_c1 fu c0 c1) (g_certificate_Parse_c1 c0 c1) := by
  unfold c_certificate_Parse_c1 g_certificate_Parse_c1
  repeat' (with_reducible first | assumption | apply OLe.bind_ | apply OLe.cond_ | apply OLe.up_ | apply c_certificate_Reader_Int_le | exact OLe.refl | intro _)
def c_der_AsText_c1 (fu : Nat) (x' : UInt8) : Option (Bool) :=
  cond (decide ((x'.toNat : Int) < 32))
    (some true)
    (some (decide (126 < (x'.toNat : Int))))
theorem c_der_AsText_c1_le (fu : Nat) {x' : UInt8} : OLe (c_der_AsText_c1 fu x') (g_der_AsText_c1 x') := by
  unfold c_der_AsText_c1 g_der_AsText_c1
  repeat' (with_reducible first | assumption | apply OLe.bind_ | apply OLe.cond_ | apply OLe.up_ | exact OLe.refl | intro _)
def c_slices_IndexFunc_byte.l1 (fu : Nat) (s : (List UInt8)) (f : UInt8 → Option (Bool)) (x8_1 : Int) : Option (Lp (Int) (Int)) :=
  cond (decide (x8_1 < (s.length : Int)))
    ((getI s x8_1).bind fun e =>
    (f e).bind fun y =>
    cond (y)
      (up (some x8_1))
      (some (.next (W (x8_1 + 1)))))
    (up (
      some (-1)))
theorem m_slices_IndexFunc_byte.l1 {s : (List UInt8)} {f : UInt8 → Option (Bool)} {x8_1 : Int} {f_p : UInt8 → Option (Bool)} (h_f : ∀ (x0 : UInt8), OLe (f x0) (f_p x0)) : OLe (g_slices_IndexFunc_byte.l1 s f x8_1) (g_slices_IndexFunc_byte.l1 s f_p x8_1) := by
  unfold g_slices_IndexFunc_byte.l1
  repeat' (with_reducible first | assumption | apply OLe.bind_ | apply OLe.cond_ | apply OLe.up_ | apply h_f | exact OLe.refl | intro _)
theorem c_slices_IndexFunc_byte.l1_le (fu : Nat) {s : (List UInt8)} {f : UInt8 → Option (Bool)} {x8_1 : Int} {f_p : UInt8 → Option (Bool)} (h_f : ∀ (x0 : UInt8), OLe (f x0) (f_p x0)) : OLe (c_slices_IndexFunc_byte.l1 fu s f x8_1) (g_slices_IndexFunc_byte.l1 s f_p x8_1) := by
  unfold c_slices_IndexFunc_byte.l1 g_slices_IndexFunc_byte.l1
  repeat' (with_reducible first | assumption | apply OLe.bind_ | apply OLe.cond_ | apply OLe.up_ | apply h_f | exact OLe.refl | intro _)
def c_slices_IndexFunc_byte (fu : Nat) (s : (List UInt8)) (f : UInt8 → Option (Bool)) : Option (Int) :=
  loopC fu (fun q' => c_slices_IndexFunc_byte.l1 fu s f q') 0
theorem m_slices_IndexFunc_byte {s : (List UInt8)} {f : UInt8 → Option (Bool)} {f_p : UInt8 → Option (Bool)} (h_f : ∀ (x0 : UInt8), OLe (f x0) (f_p x0)) : OLe (g_slices_IndexFunc_byte s f) (g_slices_IndexFunc_byte s f_p) := by
  unfold g_slices_IndexFunc_byte
  repeat' (with_reducible first | assumption | apply OLe.bind_ | apply OLe.cond_ | apply OLe.up_ | apply h_f | apply m_slices_IndexFunc_byte.l1 | (refine OLe.lp (fun _ => ?_) _) | exact OLe.refl | intro _)
theorem c_slices_IndexFunc_byte_le (fu : Nat) {s : (List UInt8)} {f : UInt8 → Option (Bool)} {f_p : UInt8 → Option (Bool)} (h_f : ∀ (x0 : UInt8), OLe (f x0) (f_p x0)) : OLe (c_slices_IndexFunc_byte fu s f) (g_slices_IndexFunc_byte s f_p) := by
  unfold c_slices_IndexFunc_byte g_slices_IndexFunc_byte
  repeat' (with_reducible first | assumption | apply OLe.bind_ | apply OLe.cond_ | apply OLe.up_ | apply h_f | apply c_slices_IndexFunc_byte.l1_le | (refine OLe.lpC _ (fun _ => ?_) _) | exact OLe.refl | intro _)
def c_slices_ContainsFunc_byte (fu : Nat) (s : (List UInt8)) (f : UInt8 → Option (Bool)) : Option (Bool) :=
  (c_slices_IndexFunc_byte fu s f).bind fun y =>
  some (decide (0 ≤ y))
theorem c_slices_ContainsFunc_byte_le (fu : Nat) {s : (List UInt8)} {f : UInt8 → Option (Bool)} {f_p : UInt8 → Option (Bool)} (h_f : ∀ (x0 : UInt8), OLe (f x0) (f_p x0)) : OLe (c_slices_ContainsFunc_byte fu s f) (g_slices_ContainsFunc_byte s f_p) := by
  unfold c_slices_ContainsFunc_byte g_slices_ContainsFunc_byte
  repeat' (with_reducible first | assumption | apply OLe.bind_ | apply OLe.cond_ | apply OLe.up_ | apply h_f | apply c_slices_IndexFunc_byte_le | exact OLe.refl | intro _)
def c_der_AsText.j1 (fu : Nat) (v : api_Value) (x11_1 : Bool) : Option (ByteArray × Int) :=
  cond (x11_1)
    (some ((⟨#[]⟩ : ByteArray), 1))
    (some (ofB v.Bytes, 0))
theorem c_der_AsText.j1_le (fu : Nat) {v : api_Value} {x11_1 : Bool} : OLe (c_der_AsText.j1 fu v x11_1) (g_der_AsText.j1 v x11_1) := by
  unfold c_der_AsText.j1 g_der_AsText.j1
  repeat' (with_reducible first | assumption | apply OLe.bind_ | apply OLe.cond_ | apply OLe.up_ | exact OLe.refl | intro _)
def c_der_AsText (fu : Nat) (v : api_Value) : Option (ByteArray × Int) :=
  (c_der_plain fu v 12).bind fun y =>
  cond (!y)
    (c_der_AsText.j1 fu v true)
    ((c_slices_ContainsFunc_byte fu v.Bytes (fun x0 => c_der_AsText_c1 fu x0)).bind fun y_2 =>
    c_der_AsText.j1 fu v y_2)
theorem c_der_AsText_le (fu : Nat) {v : api_Value} : OLe (c_der_AsText fu v) (g_der_AsText v) := by
  unfold c_der_AsText g_der_AsText
  repeat' (with_reducible first | assumption | apply OLe.bind_ | apply OLe.cond_ | apply OLe.up_ | apply c_der_plain_le | apply c_der_AsText.j1_le | apply c_slices_ContainsFunc_byte_le | apply c_der_AsText_c1_le | exact OLe.refl | intro _)
def c_certificate_Reader_Text (fu : Nat) (r' : certificate_Reader) : Option (ByteArray × certificate_Reader) :=
  (c_certificate_Reader_Next fu r').bind fun y =>
  (c_der_AsText fu y.1).bind fun y_2 =>
  cond (y.2.Failed)
    (some (y_2.1, (certificate_Reader.mk y.2.l true)))
    (some (y_2.1, (certificate_Reader.mk y.2.l (!decide (y_2.2 = 0)))))
theorem c_certificate_Reader_Text_le (fu : Nat) {r' : certificate_Reader} : OLe (c_certificate_Reader_Text fu r') (g_certificate_Reader_Text r') := by
  unfold c_certificate_Reader_Text g_certificate_Reader_Text
  repeat' (with_reducible first | assumption | apply OLe.bind_ | apply OLe.cond_ | apply OLe.up_ | apply c_certificate_Reader_Next_le | apply c_der_AsText_le | exact OLe.refl | intro _)
def c_certificate_Parse_c2 (fu : Nat) (c0 : certificate_Reader) (c1 : api_Certificate) : Option (certificate_Reader × api_Certificate) :=
  (c_certificate_Reader_Text fu c0).bind fun y =>
  (c_certificate_Reader_Text fu y.2).bind fun y_2 =>
  some (y_2.2, (api_Certificate.mk c1.Serial y.1 y_2.1 c1.Key c1.KeyId c1.Hash c1.From c1.To c1.Authority c1.Path c1.Names c1.Seal))
theorem c_certificate_Parse_c2_le (fu : Nat) {c0 : certificate_Reader} {c1 : api_Certificate} : OLe (c_certificate_Parse_c2 fu c0 c1) (g_certificate_Parse_c2 c0 c1) := by
  unfold c_certificate_Parse_c2 g_certificate_Parse_c2
  repeat' (with_reducible first | assumption | apply OLe.bind_ | apply OLe.cond_ | apply OLe.up_ | apply c_certificate_Reader_Text_le | exact OLe.refl | intro _)
def c_certificate_Reader_Use.j1 (fu : Nat) (y : api_Value × certificate_Reader) (y_3 : Int × certificate_Reader) (y_4 : Int × certificate_Reader) (b_1 : Bool) : Option (api_Use × certificate_Reader) :=
  some ((api_Use.mk y_3.1 y_4.1), (certificate_Reader.mk y.2.l b_1))
theorem c_certificate_Reader_Use.j1_le (fu : Nat) {y : api_Value × certificate_Reader} {y_3 : Int × certificate_Reader} {y_4 : Int × certificate_Reader} {b_1 : Bool} : OLe (c_certificate_Reader_Use.j1 fu y y_3 y_4 b_1) (g_certificate_Reader_Use.j1 y y_3 y_4 b_1) := by
  unfold c_certificate_Reader_Use.j1 g_certificate_Reader_Use.j1
  repeat' (with_reducible first | assumption | apply OLe.bind_ | apply OLe.cond_ | apply OLe.up_ | exact OLe.refl | intro _)
def c_certificate_Reader_Use (fu : Nat) (r' : certificate_Reader) : Option (api_Use × certificate_Reader) :=
  (c_certificate_Reader_Next fu r').bind fun y =>
  (c_certificate_Read fu y.1 2).bind fun y_2 =>
  (c_certificate_Reader_Int fu y_2).bind fun y_3 =>
  (c_certificate_Reader_Int fu y_3.2).bind fun y_4 =>
  cond (y.2.Failed)
    (c_certificate_Reader_Use.j1 fu y y_3 y_4 true)
    (c_certificate_Reader_Use.j1 fu y y_3 y_4 y_4.2.Failed)
theorem c_certificate_Reader_Use_le (fu : Nat) {r' : certificate_Reader} : OLe (c_certificate_Reader_Use fu r') (g_certificate_Reader_Use r') := by
  unfold c_certificate_Reader_Use g_certificate_Reader_Use
  repeat' (with_reducible first | assumption | apply OLe.bind_ | apply OLe.cond_ | apply OLe.up_ | apply c_certificate_Reader_Next_le | apply c_certificate_Read_le | apply c_certificate_Reader_Int_le | apply c_certificate_Reader_Use.j1_le | exact OLe.refl | intro _)
def c_certificate_Parse_c3 (fu : Nat) (c0 : certificate_Reader) (c1 : api_Certificate) : Option (certificate_Reader × api_Certificate) :=
  (c_certificate_Reader_Use fu c0).bind fun y =>
  (c_certificate_Reader_Int fu y.2).bind fun y_2 =>
  some (y_2.2, (api_Certificate.mk c1.Serial c1.Issuer c1.Subject y.1 y_2.1 c1.Hash c1.From c1.To c1.Authority c1.Path c1.Names c1.Seal))
theorem c_certificate_Parse_c3_le (fu : Nat) {c0 : certificate_Reader} {c1 : api_Certificate} : OLe (c_certificate_Parse_c3 fu c0 c1) (g_certificate_Parse_c3 c0 c1) := by
  unfold c_certificate_Parse_c3 g_certificate_Parse_c3
  repeat' (with_reducible first | assumption | apply OLe.bind_ | apply OLe.cond_ | apply OLe.up_ | apply c_certificate_Reader_Use_le | apply c_certificate_Reader_Int_le | exact OLe.refl | intro _)
def c_certificate_Parse_c4 (fu : Nat) (c0 : certificate_Reader) (c1 : api_Certificate) : Option (certificate_Reader × api_Certificate) :=
  (c_certificate_Reader_Use fu c0).bind fun y =>
  some (y.2, (api_Certificate.mk c1.Serial c1.Issuer c1.Subject c1.Key c1.KeyId y.1 c1.From c1.To c1.Authority c1.Path c1.Names c1.Seal))
theorem c_certificate_Parse_c4_le (fu : Nat) {c0 : certificate_Reader} {c1 : api_Certificate} : OLe (c_certificate_Parse_c4 fu c0 c1) (g_certificate_Parse_c4 c0 c1) := by
  unfold c_certificate_Parse_c4 g_certificate_Parse_c4
  repeat' (with_reducible first | assumption | apply OLe.bind_ | apply OLe.cond_ | apply OLe.up_ | apply c_certificate_Reader_Use_le | exact OLe.refl | intro _)
def c_certificate_Parse_c5 (fu : Nat) (c0 : certificate_Reader) (c1 : api_Certificate) : Option (certificate_Reader × api_Certificate) :=
  (c_certificate_Reader_Int fu c0).bind fun y =>
  (c_certificate_Reader_Int fu y.2).bind fun y_2 =>
  some (y_2.2, (api_Certificate.mk c1.Serial c1.Issuer c1.Subject c1.Key c1.KeyId c1.Hash y.1 y_2.1 c1.Authority c1.Path c1.Names c1.Seal))
theorem c_certificate_Parse_c5_le (fu : Nat) {c0 : certificate_Reader} {c1 : api_Certificate} : OLe (c_certificate_Parse_c5 fu c0 c1) (g_certificate_Parse_c5 c0 c1) := by
  unfold c_certificate_Parse_c5 g_certificate_Parse_c5
  repeat' (with_reducible first | assumption | apply OLe.bind_ | apply OLe.cond_ | apply OLe.up_ | apply c_certificate_Reader_Int_le | exact OLe.refl | intro _)
def c_der_AsBool.j1 (fu : Nat) (v : api_Value) (x26_1 : Bool) : Option (Bool × Int) :=
  cond (x26_1)
    (some (false, 1))
    ((getI v.Bytes 0).bind fun e_2 =>
    some (decide ((e_2.toNat : Int) = 255), 0))
theorem c_der_AsBool.j1_le (fu : Nat) {v : api_Value} {x26_1 : Bool} : OLe (c_der_AsBool.j1 fu v x26_1) (g_der_AsBool.j1 v x26_1) := by
  unfold c_der_AsBool.j1 g_der_AsBool.j1
  repeat' (with_reducible first | assumption | apply OLe.bind_ | apply OLe.cond_ | apply OLe.up_ | exact OLe.refl | intro _)
def c_der_AsBool (fu : Nat) (v : api_Value) : Option (Bool × Int) :=
  (c_der_plain fu v 1).bind fun y =>
  cond (!y)
    (c_der_AsBool.j1 fu v true)
    (cond (!decide ((v.Bytes.length : Int) = 1))
      (c_der_AsBool.j1 fu v true)
      ((getI v.Bytes 0).bind fun e =>
      cond (!decide ((e.toNat : Int) = 0))
        (c_der_AsBool.j1 fu v (!decide ((e.toNat : Int) = 255)))
        (c_der_AsBool.j1 fu v false)))
theorem c_der_AsBool_le (fu : Nat) {v : api_Value} : OLe (c_der_AsBool fu v) (g_der_AsBool v) := by
  unfold c_der_AsBool g_der_AsBool
  repeat' (with_reducible first | assumption | apply OLe.bind_ | apply OLe.cond_ | apply OLe.up_ | apply c_der_plain_le | apply c_der_AsBool.j1_le | exact OLe.refl | intro _)
def c_certificate_Reader_Bool (fu : Nat) (r' : certificate_Reader) : Option (Bool × certificate_Reader) :=
  (c_certificate_Reader_Next fu r').bind fun y =>
  (c_der_AsBool fu y.1).bind fun y_2 =>
  cond (y.2.Failed)
    (some (y_2.1, (certificate_Reader.mk y.2.l true)))
    (some (y_2.1, (certificate_Reader.mk y.2.l (!decide (y_2.2 = 0)))))
theorem c_certificate_Reader_Bool_le (fu : Nat) {r' : certificate_Reader} : OLe (c_certificate_Reader_Bool fu r') (g_certificate_Reader_Bool r') := by
  unfold c_certificate_Reader_Bool g_certificate_Reader_Bool
  repeat' (with_reducible first | assumption | apply OLe.bind_ | apply OLe.cond_ | apply OLe.up_ | apply c_certificate_Reader_Next_le | apply c_der_AsBool_le | exact OLe.refl | intro _)
def c_certificate_Parse_c6 (fu : Nat) (c0 : certificate_Reader) (c1 : api_Certificate) : Option (certificate_Reader × api_Certificate) :=
  (c_certificate_Reader_Bool fu c0).bind fun y =>
  (c_certificate_Reader_Int fu y.2).bind fun y_2 =>
  some (y_2.2, (api_Certificate.mk c1.Serial c1.Issuer c1.Subject c1.Key c1.KeyId c1.Hash c1.From c1.To y.1 y_2.1 c1.Names c1.Seal))
theorem c_certificate_Parse_c6_le (fu : Nat) {c0 : certificate_Reader} {c1 : api_Certificate} : OLe (c_certificate_Parse_c6 fu c0 c1) (g_certificate_Parse_c6 c0 c1) := by
  unfold c_certificate_Parse_c6 g_certificate_Parse_c6
  repeat' (with_reducible first | assumption | apply OLe.bind_ | apply OLe.cond_ | apply OLe.up_ | apply c_certificate_Reader_Bool_le | apply c_certificate_Reader_Int_le | exact OLe.refl | intro _)
def c_certificate_Reader_List (fu : Nat) (r' : certificate_Reader) : Option ((List api_Value) × certificate_Reader) :=
  (c_certificate_Reader_Next fu r').bind fun y =>
  (c_der_AsList fu y.1).bind fun y_2 =>
  cond (y.2.Failed)
    (some (y_2.1, (certificate_Reader.mk y.2.l true)))
    (some (y_2.1, (certificate_Reader.mk y.2.l (!decide (y_2.2 = 0)))))
theorem c_certificate_Reader_List_le (fu : Nat) {r' : certificate_Reader} : OLe (c_certificate_Reader_List fu r') (g_certificate_Reader_List r') := by
  unfold c_certificate_Reader_List g_certificate_Reader_List
  repeat' (with_reducible first | assumption | apply OLe.bind_ | apply OLe.cond_ | apply OLe.up_ | apply c_certificate_Reader_Next_le | apply c_der_AsList_le | exact OLe.refl | intro _)
def c_certificate_Reader_names.j2 (fu : Nat) (x11_1 : Int) (out_1 : List ByteArray) (y_2 : ByteArray × Int) (r_2 : Bool) : Option (Lp (Int × Bool × List ByteArray) ((List ByteArray) × certificate_Reader)) :=
  (appI 16 out_1 ([y_2.1] : List ByteArray)).bind fun l =>
  some (.next (W (x11_1 + 1), r_2, l))
theorem c_certificate_Reader_names.j2_le (fu : Nat) {x11_1 : Int} {out_1 : List ByteArray} {y_2 : ByteArray × Int} {r_2 : Bool} : OLe (c_certificate_Reader_names.j2 fu x11_1 out_1 y_2 r_2) (g_certificate_Reader_names.j2 x11_1 out_1 y_2 r_2) := by
  unfold c_certificate_Reader_names.j2 g_certificate_Reader_names.j2
  repeat' (with_reducible first | assumption | apply OLe.bind_ | apply OLe.cond_ | apply OLe.up_ | exact OLe.refl | intro _)
def c_certificate_Reader_names.l1 (fu : Nat) (y : (List api_Value) × certificate_Reader) (x11_1 : Int) (r_1 : Bool) (out_1 : List ByteArray) : Option (Lp (Int × Bool × List ByteArray) ((List ByteArray) × certificate_Reader)) :=
  cond (decide (x11_1 < (y.1.length : Int)))
    ((getI y.1 x11_1).bind fun e =>
    (c_der_AsText fu e).bind fun y_2 =>
    cond (r_1)
      (c_certificate_Reader_names.j2 fu x11_1 out_1 y_2 true)
      (c_certificate_Reader_names.j2 fu x11_1 out_1 y_2 (!decide (y_2.2 = 0))))
    (up (
      some (out_1, (certificate_Reader.mk y.2.l r_1))))
theorem c_certificate_Reader_names.l1_le (fu : Nat) {y : (List api_Value) × certificate_Reader} {x11_1 : Int} {r_1 : Bool} {out_1 : List ByteArray} : OLe (c_certificate_Reader_names.l1 fu y x11_1 r_1 out_1) (g_certificate_Reader_names.l1 y x11_1 r_1 out_1) := by
  unfold c_certificate_Reader_names.l1 g_certificate_Reader_names.l1
  repeat' (with_reducible first | assumption | apply OLe.bind_ | apply OLe.cond_ | apply OLe.up_ | apply c_der_AsText_le | apply c_certificate_Reader_names.j2_le | exact OLe.refl | intro _)
def c_certificate_Reader_names (fu : Nat) (r' : certificate_Reader) : Option ((List ByteArray) × certificate_Reader) :=
  (c_certificate_Reader_List fu r').bind fun y =>
  loopC fu (fun q' => c_certificate_Reader_names.l1 fu y q'.1 q'.2.1 q'.2.2) (0, y.2.Failed, ([] : List ByteArray))
theorem c_certificate_Reader_names_le (fu : Nat) {r' : certificate_Reader} : OLe (c_certificate_Reader_names fu r') (g_certificate_Reader_names r') := by
  unfold c_certificate_Reader_names g_certificate_Reader_names
  repeat' (with_reducible first | assumption | apply OLe.bind_ | apply OLe.cond_ | apply OLe.up_ | apply c_certificate_Reader_List_le | apply c_certificate_Reader_names.l1_le | (refine OLe.lpC _ (fun _ => ?_) _) | exact OLe.refl | intro _)
def c_certificate_Parse_c7 (fu : Nat) (c0 : certificate_Reader) (c1 : api_Certificate) : Option (certificate_Reader × api_Certificate) :=
  (c_certificate_Reader_names fu c0).bind fun y =>
  some (y.2, (api_Certificate.mk c1.Serial c1.Issuer c1.Subject c1.Key c1.KeyId c1.Hash c1.From c1.To c1.Authority c1.Path y.1 c1.Seal))
theorem c_certificate_Parse_c7_le (fu : Nat) {c0 : certificate_Reader} {c1 : api_Certificate} : OLe (c_certificate_Parse_c7 fu c0 c1) (g_certificate_Parse_c7 c0 c1) := by
  unfold c_certificate_Parse_c7 g_certificate_Parse_c7
  repeat' (with_reducible first | assumption | apply OLe.bind_ | apply OLe.cond_ | apply OLe.up_ | apply c_certificate_Reader_names_le | exact OLe.refl | intro _)
def c_certificate_Parse_c8 (fu : Nat) (c0 : certificate_Reader) (c1 : api_Certificate) : Option (certificate_Reader × api_Certificate) :=
  (c_certificate_Reader_Int fu c0).bind fun y =>
  (c_certificate_Reader_Int fu y.2).bind fun y_2 =>
  some (y_2.2, (api_Certificate.mk c1.Serial c1.Issuer c1.Subject c1.Key c1.KeyId c1.Hash c1.From c1.To c1.Authority c1.Path c1.Names (api_Seal.mk y.1 y_2.1)))
theorem c_certificate_Parse_c8_le (fu : Nat) {c0 : certificate_Reader} {c1 : api_Certificate} : OLe (c_certificate_Parse_c8 fu c0 c1) (g_certificate_Parse_c8 c0 c1) := by
  unfold c_certificate_Parse_c8 g_certificate_Parse_c8
  repeat' (with_reducible first | assumption | apply OLe.bind_ | apply OLe.cond_ | apply OLe.up_ | apply c_certificate_Reader_Int_le | exact OLe.refl | intro _)
def c_certificate_Parse.j1 (fu : Nat) (y_13 : certificate_Reader × api_Certificate) (x48_1 : Bool) : Option (api_Certificate × Bool) :=
  cond (x48_1)
    (some ((api_Certificate.mk 0 (⟨#[]⟩ : ByteArray) (⟨#[]⟩ : ByteArray) (api_Use.mk 0 0) 0 (api_Use.mk 0 0) 0 0 false 0 ([] : (List ByteArray)) (api_Seal.mk 0 0)), false))
    (some (y_13.2, true))
theorem c_certificate_Parse.j1_le (fu : Nat) {y_13 : certificate_Reader × api_Certificate} {x48_1 : Bool} : OLe (c_certificate_Parse.j1 fu y_13 x48_1) (g_certificate_Parse.j1 y_13 x48_1) := by
  unfold c_certificate_Parse.j1 g_certificate_Parse.j1
  repeat' (with_reducible first | assumption | apply OLe.bind_ | apply OLe.cond_ | apply OLe.up_ | exact OLe.refl | intro _)
def c_certificate_Parse (fu : Nat) (v : api_Value) : Option (api_Certificate × Bool) :=
  (c_certificate_Read fu v 2).bind fun y =>
  (c_certificate_Reader_Next fu y).bind fun y_2 =>
  (c_certificate_Read fu y_2.1 11).bind fun y_3 =>
  (c_certificate_Reader_Next fu y_2.2).bind fun y_4 =>
  (c_certificate_Read fu y_4.1 2).bind fun y_5 =>
  (c_certificate_Parse_c1 fu y_3 (api_Certificate.mk 0 (⟨#[]⟩ : ByteArray) (⟨#[]⟩ : ByteArray) (api_Use.mk 0 0) 0 (api_Use.mk 0 0) 0 0 false 0 ([] : (List ByteArray)) (api_Seal.mk 0 0))).bind fun y_6 =>
  (c_certificate_Parse_c2 fu y_6.1 y_6.2).bind fun y_7 =>
  (c_certificate_Parse_c3 fu y_7.1 y_7.2).bind fun y_8 =>
  (c_certificate_Parse_c4 fu y_8.1 y_8.2).bind fun y_9 =>
  (c_certificate_Parse_c5 fu y_9.1 y_9.2).bind fun y_10 =>
  (c_certificate_Parse_c6 fu y_10.1 y_10.2).bind fun y_11 =>
  (c_certificate_Parse_c7 fu y_11.1 y_11.2).bind fun y_12 =>
  (c_certificate_Parse_c8 fu y_5 y_12.2).bind fun y_13 =>
  cond (y_4.2.Failed)
    (c_certificate_Parse.j1 fu y_13 true)
    (cond (y_12.1.Failed)
      (c_certificate_Parse.j1 fu y_13 true)
      (c_certificate_Parse.j1 fu y_13 y_13.1.Failed))
theorem c_certificate_Parse_le (fu : Nat) {v : api_Value} : OLe (c_certificate_Parse fu v) (g_certificate_Parse v) := by
  unfold c_certificate_Parse g_certificate_Parse
  repeat' (with_reducible first | assumption | apply OLe.bind_ | apply OLe.cond_ | apply OLe.up_ | apply c_certificate_Read_le | apply c_certificate_Reader_Next_le | apply c_certificate_Parse_c1_le | apply c_certificate_Parse_c2_le | apply c_certificate_Parse_c3_le | apply c_certificate_Parse_c4_le | apply c_certificate_Parse_c5_le | apply c_certificate_Parse_c6_le | apply c_certificate_Parse_c7_le | apply c_certificate_Parse_c8_le | apply c_certificate_Parse.j1_le | exact OLe.refl | intro _)
def c_certificate_Decode (fu : Nat) (b : (List UInt8)) : Option (api_Certificate × Int) :=
  (c_der_Decode fu b).bind fun y =>
  cond (!decide (y.2 = 0))
    (some ((api_Certificate.mk 0 (⟨#[]⟩ : ByteArray) (⟨#[]⟩ : ByteArray) (api_Use.mk 0 0) 0 (api_Use.mk 0 0) 0 0 false 0 ([] : (List ByteArray)) (api_Seal.mk 0 0)), y.2))
    ((c_certificate_Parse fu y.1).bind fun y_2 =>
    cond (!y_2.2)
      (some ((api_Certificate.mk 0 (⟨#[]⟩ : ByteArray) (⟨#[]⟩ : ByteArray) (api_Use.mk 0 0) 0 (api_Use.mk 0 0) 0 0 false 0 ([] : (List ByteArray)) (api_Seal.mk 0 0)), 1))
      ((c_certificate_valid fu y_2.1).bind fun y_3 =>
      cond (!y_3)
        (some ((api_Certificate.mk 0 (⟨#[]⟩ : ByteArray) (⟨#[]⟩ : ByteArray) (api_Use.mk 0 0) 0 (api_Use.mk 0 0) 0 0 false 0 ([] : (List ByteArray)) (api_Seal.mk 0 0)), 9))
        (some (y_2.1, 0))))
theorem c_certificate_Decode_le (fu : Nat) {b : (List UInt8)} : OLe (c_certificate_Decode fu b) (g_certificate_Decode b) := by
  unfold c_certificate_Decode g_certificate_Decode
  repeat' (with_reducible first | assumption | apply OLe.bind_ | apply OLe.cond_ | apply OLe.up_ | apply c_der_Decode_le | apply c_certificate_Parse_le | apply c_certificate_valid_le | exact OLe.refl | intro _)
def c_certificate_Sealed (fu : Nat) (c : api_Certificate) (key : Int) : Option (Bool) :=
  (c_certificate_Bytes fu c).bind fun y =>
  cond (decide (y.2 = 0))
    ((c_certificate_Sum fu y.1).bind fun y_2 =>
    some (decide (c.Seal = (api_Seal.mk key y_2))))
    (some false)
theorem c_certificate_Sealed_le (fu : Nat) {c : api_Certificate} {key : Int} : OLe (c_certificate_Sealed fu c key) (g_certificate_Sealed c key) := by
  unfold c_certificate_Sealed g_certificate_Sealed
  repeat' (with_reducible first | assumption | apply OLe.bind_ | apply OLe.cond_ | apply OLe.up_ | apply c_certificate_Bytes_le | apply c_certificate_Sum_le | exact OLe.refl | intro _)
def c_slices_Equal_string.l1 (fu : Nat) (s1 : (List ByteArray)) (s2 : (List ByteArray)) (x13_1 : Int) : Option (Lp (Int) (Bool)) :=
  cond (decide (x13_1 < (s1.length : Int)))
    ((getI s1 x13_1).bind fun e =>
    (getI s2 x13_1).bind fun e_2 =>
    cond (!decide (e = e_2))
      (up (some false))
      (some (.next (W (x13_1 + 1)))))
    (up (
      some true))
theorem c_slices_Equal_string.l1_le (fu : Nat) {s1 : (List ByteArray)} {s2 : (List ByteArray)} {x13_1 : Int} : OLe (c_slices_Equal_string.l1 fu s1 s2 x13_1) (g_slices_Equal_string.l1 s1 s2 x13_1) := by
  unfold c_slices_Equal_string.l1 g_slices_Equal_string.l1
  repeat' (with_reducible first | assumption | apply OLe.bind_ | apply OLe.cond_ | apply OLe.up_ | exact OLe.refl | intro _)
def c_slices_Equal_string (fu : Nat) (s1 : (List ByteArray)) (s2 : (List ByteArray)) : Option (Bool) :=
  cond (!decide ((s1.length : Int) = (s2.length : Int)))
    (some false)
    (loopC fu (fun q' => c_slices_Equal_string.l1 fu s1 s2 q') 0)
theorem c_slices_Equal_string_le (fu : Nat) {s1 : (List ByteArray)} {s2 : (List ByteArray)} : OLe (c_slices_Equal_string fu s1 s2) (g_slices_Equal_string s1 s2) := by
  unfold c_slices_Equal_string g_slices_Equal_string
  repeat' (with_reducible first | assumption | apply OLe.bind_ | apply OLe.cond_ | apply OLe.up_ | apply c_slices_Equal_string.l1_le | (refine OLe.lpC _ (fun _ => ?_) _) | exact OLe.refl | intro _)
def c_certificate_Same.j2 (fu : Nat) (a : api_Certificate) (b : api_Certificate) (named_1 : Bool) (keys_2 : Bool) : Option (Bool) :=
  cond (named_1)
    (cond (keys_2)
      (cond (decide (a.From = b.From))
        (cond (decide (a.To = b.To))
          (cond (decide (a.Authority = b.Authority))
            (some (decide (a.Path = b.Path)))
            (some false))
          (some false))
        (some false))
      (some false))
    (some false)
theorem c_certificate_Same.j2_le (fu : Nat) {a : api_Certificate} {b : api_Certificate} {named_1 : Bool} {keys_2 : Bool} : OLe (c_certificate_Same.j2 fu a b named_1 keys_2) (g_certificate_Same.j2 a b named_1 keys_2) := by
  unfold c_certificate_Same.j2 g_certificate_Same.j2
  repeat' (with_reducible first | assumption | apply OLe.bind_ | apply OLe.cond_ | apply OLe.up_ | exact OLe.refl | intro _)
def c_certificate_Same.j1 (fu : Nat) (a : api_Certificate) (b : api_Certificate) (named_1 : Bool) : Option (Bool) :=
  cond (decide (a.Key = b.Key))
    (cond (decide (a.KeyId = b.KeyId))
      (cond (decide (a.Hash = b.Hash))
        (c_certificate_Same.j2 fu a b named_1 (decide (a.Seal = b.Seal)))
        (c_certificate_Same.j2 fu a b named_1 false))
      (c_certificate_Same.j2 fu a b named_1 false))
    (c_certificate_Same.j2 fu a b named_1 false)
theorem c_certificate_Same.j1_le (fu : Nat) {a : api_Certificate} {b : api_Certificate} {named_1 : Bool} : OLe (c_certificate_Same.j1 fu a b named_1) (g_certificate_Same.j1 a b named_1) := by
  unfold c_certificate_Same.j1 g_certificate_Same.j1
  repeat' (with_reducible first | assumption | apply OLe.bind_ | apply OLe.cond_ | apply OLe.up_ | apply c_certificate_Same.j2_le | exact OLe.refl | intro _)
def c_certificate_Same (fu : Nat) (a : api_Certificate) (b : api_Certificate) : Option (Bool) :=
  cond (decide (a.Serial = b.Serial))
    (cond (decide (a.Issuer = b.Issuer))
      (cond (decide (a.Subject = b.Subject))
        ((c_slices_Equal_string fu a.Names b.Names).bind fun y =>
        c_certificate_Same.j1 fu a b y)
        (c_certificate_Same.j1 fu a b false))
      (c_certificate_Same.j1 fu a b false))
    (c_certificate_Same.j1 fu a b false)
theorem c_certificate_Same_le (fu : Nat) {a : api_Certificate} {b : api_Certificate} : OLe (c_certificate_Same fu a b) (g_certificate_Same a b) := by
  unfold c_certificate_Same g_certificate_Same
  repeat' (with_reducible first | assumption | apply OLe.bind_ | apply OLe.cond_ | apply OLe.up_ | apply c_slices_Equal_string_le | apply c_certificate_Same.j1_le | exact OLe.refl | intro _)
def c_law03_awake (fu : Nat) : Option (Bool) :=
  (c_certificate_Sign fu (api_Certificate.mk 0 (⟨#[99, 97]⟩ : ByteArray) (⟨#[119, 101, 98]⟩ : ByteArray) (api_Use.mk 5 2048) 7 (api_Use.mk 3 0) 0 9 false 0 ([(⟨#[119, 101, 98]⟩ : ByteArray)] : List ByteArray) (api_Seal.mk 0 0)) 3).bind fun y =>
  (c_certificate_Encode fu y.1).bind fun y_2 =>
  (c_certificate_Decode fu y_2.1).bind fun y_3 =>
  cond (decide (y.2 = 0))
    (cond (decide (y_2.2 = 0))
      (cond (decide (y_3.2 = 0))
        ((c_certificate_Sealed fu y.1 3).bind fun y_4 =>
        cond (y_4)
          ((c_certificate_Sealed fu y.1 4).bind fun y_5 =>
          cond (!y_5)
            ((c_certificate_Same fu y_3.1 y.1).bind fun y_6 =>
            cond (y_6)
              ((c_certificate_Sum fu ([(97 : UInt8)] : List UInt8)).bind fun y_7 =>
              some (decide (y_7 = 3826002220)))
              (some false))
            (some false))
          (some false))
        (some false))
      (some false))
    (some false)
theorem c_law03_awake_le (fu : Nat) : OLe (c_law03_awake fu) (g_law03_awake) := by
  unfold c_law03_awake g_law03_awake
  repeat' (with_reducible first | assumption | apply OLe.bind_ | apply OLe.cond_ | apply OLe.up_ | apply c_certificate_Sign_le | apply c_certificate_Encode_le | apply c_certificate_Decode_le | apply c_certificate_Sealed_le | apply c_certificate_Same_le | apply c_certificate_Sum_le | exact OLe.refl | intro _)
end Go.Proofs.Ytlcfdnjokgbccaa
