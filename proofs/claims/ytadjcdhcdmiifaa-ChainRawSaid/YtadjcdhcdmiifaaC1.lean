/- Bounded forms of the plain functions. -/
import Derived.Test.YtadjcdhcdmiifaaPC
import Derived.Test.YtadjcdhcdmiifaaP1
set_option linter.unusedVariables false
set_option linter.unusedSimpArgs false
namespace Go.Proofs.Ytadjcdhcdmiifaa

def c_ref03_Copy (fu : Nat) (c : api_Certificate) : Option (api_Certificate) :=
  (appI 16 ([] : List ByteArray) c.Names).bind fun l =>
  some (api_Certificate.mk c.Serial c.Issuer c.Subject c.Key c.KeyId c.Hash c.From c.To c.Authority c.Path l c.Seal)
theorem c_ref03_Copy_le (fu : Nat) {c : api_Certificate} : OLe (c_ref03_Copy fu c) (g_ref03_Copy c) := by
  unfold c_ref03_Copy g_ref03_Copy
  repeat' (with_reducible first | assumption | apply OLe.bind_ | apply OLe.cond_ | apply OLe.up_ | exact OLe.refl | intro _)
def c_ref03_Name.j3 (fu : Nat) (i_2 : Int) (x27_3 : Bool) : Option (Lp (Int) (Bool)) :=
  cond (x27_3)
    (up (some false))
    (some (.next (W (i_2 + 1))))
theorem c_ref03_Name.j3_le (fu : Nat) {i_2 : Int} {x27_3 : Bool} : OLe (c_ref03_Name.j3 fu i_2 x27_3) (g_ref03_Name.j3 i_2 x27_3) := by
  unfold c_ref03_Name.j3 g_ref03_Name.j3
  repeat' (with_reducible first | assumption | apply OLe.bind_ | apply OLe.cond_ | apply OLe.up_ | exact OLe.refl | intro _)
def c_ref03_Name.l2 (fu : Nat) (s : ByteArray) (i_2 : Int) : Option (Lp (Int) (Bool)) :=
  cond (decide (i_2 < (s.size : Int)))
    ((idxT s i_2).bind fun c =>
    cond (decide ((c.toNat : Int) < 33))
      (c_ref03_Name.j3 fu i_2 true)
      ((idxT s i_2).bind fun c_2 =>
      c_ref03_Name.j3 fu i_2 (decide (126 < (c_2.toNat : Int)))))
    (up (
      some true))
theorem c_ref03_Name.l2_le (fu : Nat) {s : ByteArray} {i_2 : Int} : OLe (c_ref03_Name.l2 fu s i_2) (g_ref03_Name.l2 s i_2) := by
  unfold c_ref03_Name.l2 g_ref03_Name.l2
  repeat' (with_reducible first | assumption | apply OLe.bind_ | apply OLe.cond_ | apply OLe.up_ | apply c_ref03_Name.j3_le | exact OLe.refl | intro _)
def c_ref03_Name.j1 (fu : Nat) (s : ByteArray) (x11_1 : Bool) : Option (Bool) :=
  cond (x11_1)
    (some false)
    (loopC fu (fun q' => c_ref03_Name.l2 fu s q') 0)
theorem c_ref03_Name.j1_le (fu : Nat) {s : ByteArray} {x11_1 : Bool} : OLe (c_ref03_Name.j1 fu s x11_1) (g_ref03_Name.j1 s x11_1) := by
  unfold c_ref03_Name.j1 g_ref03_Name.j1
  repeat' (with_reducible first | assumption | apply OLe.bind_ | apply OLe.cond_ | apply OLe.up_ | apply c_ref03_Name.l2_le | (refine OLe.lpC _ (fun _ => ?_) _) | exact OLe.refl | intro _)
def c_ref03_Name (fu : Nat) (s : ByteArray) : Option (Bool) :=
  cond (decide ((s.size : Int) < 1))
    (c_ref03_Name.j1 fu s true)
    (c_ref03_Name.j1 fu s (decide (32 < (s.size : Int))))
theorem c_ref03_Name_le (fu : Nat) {s : ByteArray} : OLe (c_ref03_Name fu s) (g_ref03_Name s) := by
  unfold c_ref03_Name g_ref03_Name
  repeat' (with_reducible first | assumption | apply OLe.bind_ | apply OLe.cond_ | apply OLe.up_ | apply c_ref03_Name.j1_le | exact OLe.refl | intro _)
def c_ref02_modulus.j1 (fu : Nat) (b : Int) (x3_1 : Bool) : Option (Int) :=
  cond (x3_1)
    (some 0)
    (cond (decide (b < 1024))
      (some 56)
      (cond (decide (b < 2048))
        (some 80)
        (cond (decide (b < 3072))
          (some 112)
          (cond (decide (b < 7680))
            (some 128)
            (cond (decide (b < 15360))
              (some 192)
              (some 256))))))
theorem c_ref02_modulus.j1_le (fu : Nat) {b : Int} {x3_1 : Bool} : OLe (c_ref02_modulus.j1 fu b x3_1) (g_ref02_modulus.j1 b x3_1) := by
  unfold c_ref02_modulus.j1 g_ref02_modulus.j1
  repeat' (with_reducible first | assumption | apply OLe.bind_ | apply OLe.cond_ | apply OLe.up_ | exact OLe.refl | intro _)
def c_ref02_modulus (fu : Nat) (b : Int) : Option (Int) :=
  cond (decide (b < 512))
    (c_ref02_modulus.j1 fu b true)
    (c_ref02_modulus.j1 fu b (decide (16384 < b)))
theorem c_ref02_modulus_le (fu : Nat) {b : Int} : OLe (c_ref02_modulus fu b) (g_ref02_modulus b) := by
  unfold c_ref02_modulus g_ref02_modulus
  repeat' (with_reducible first | assumption | apply OLe.bind_ | apply OLe.cond_ | apply OLe.up_ | apply c_ref02_modulus.j1_le | exact OLe.refl | intro _)
def c_ref02_among.l1 (fu : Nat) (b : Int) (sizes : (List Int)) (strengths : (List Int)) (i_1 : Int) : Option (Lp (Int) (Int)) :=
  cond (decide (i_1 < (sizes.length : Int)))
    ((getI sizes i_1).bind fun e =>
    cond (decide (e = b))
      ((getI strengths i_1).bind fun e_2 =>
      up (some e_2))
      (some (.next (W (i_1 + 1)))))
    (up (
      some 0))
theorem c_ref02_among.l1_le (fu : Nat) {b : Int} {sizes : (List Int)} {strengths : (List Int)} {i_1 : Int} : OLe (c_ref02_among.l1 fu b sizes strengths i_1) (g_ref02_among.l1 b sizes strengths i_1) := by
  unfold c_ref02_among.l1 g_ref02_among.l1
  repeat' (with_reducible first | assumption | apply OLe.bind_ | apply OLe.cond_ | apply OLe.up_ | exact OLe.refl | intro _)
def c_ref02_among (fu : Nat) (b : Int) (sizes : (List Int)) (strengths : (List Int)) : Option (Int) :=
  loopC fu (fun q' => c_ref02_among.l1 fu b sizes strengths q') 0
theorem c_ref02_among_le (fu : Nat) {b : Int} {sizes : (List Int)} {strengths : (List Int)} : OLe (c_ref02_among fu b sizes strengths) (g_ref02_among b sizes strengths) := by
  unfold c_ref02_among g_ref02_among
  repeat' (with_reducible first | assumption | apply OLe.bind_ | apply OLe.cond_ | apply OLe.up_ | apply c_ref02_among.l1_le | (refine OLe.lpC _ (fun _ => ?_) _) | exact OLe.refl | intro _)
def c_ref02_single.j2 (fu : Nat) (alg : Int) (x14_2 : Bool) : Option (Int) :=
  cond (x14_2)
    (some 256)
    (cond (decide (alg = 19))
      (some 64)
      (cond (decide (alg = 20))
        (some 80)
        (some 0)))
theorem c_ref02_single.j2_le (fu : Nat) {alg : Int} {x14_2 : Bool} : OLe (c_ref02_single.j2 fu alg x14_2) (g_ref02_single.j2 alg x14_2) := by
  unfold c_ref02_single.j2 g_ref02_single.j2
  repeat' (with_reducible first | assumption | apply OLe.bind_ | apply OLe.cond_ | apply OLe.up_ | exact OLe.refl | intro _)
def c_ref02_single.j1 (fu : Nat) (alg : Int) (x8_1 : Bool) : Option (Int) :=
  cond (x8_1)
    (some 128)
    (cond (decide (alg = 4))
      (some 192)
      (cond (decide (alg = 18))
        (c_ref02_single.j2 fu alg (decide (alg = 18)))
        (c_ref02_single.j2 fu alg (decide (alg = 22)))))
theorem c_ref02_single.j1_le (fu : Nat) {alg : Int} {x8_1 : Bool} : OLe (c_ref02_single.j1 fu alg x8_1) (g_ref02_single.j1 alg x8_1) := by
  unfold c_ref02_single.j1 g_ref02_single.j1
  repeat' (with_reducible first | assumption | apply OLe.bind_ | apply OLe.cond_ | apply OLe.up_ | apply c_ref02_single.j2_le | exact OLe.refl | intro _)
def c_ref02_single (fu : Nat) (alg : Int) : Option (Int) :=
  cond (decide (alg = 1))
    (some 18)
    (cond (decide (alg = 2))
      (some 60)
      (cond (decide (alg = 3))
        (c_ref02_single.j1 fu alg (decide (alg = 3)))
        (cond (decide (alg = 8))
          (c_ref02_single.j1 fu alg (decide (alg = 8)))
          (c_ref02_single.j1 fu alg (decide (alg = 21))))))
theorem c_ref02_single_le (fu : Nat) {alg : Int} : OLe (c_ref02_single fu alg) (g_ref02_single alg) := by
  unfold c_ref02_single g_ref02_single
  repeat' (with_reducible first | assumption | apply OLe.bind_ | apply OLe.cond_ | apply OLe.up_ | apply c_ref02_single.j1_le | exact OLe.refl | intro _)
def c_ref02_Strength.j3 (fu : Nat) (u : api_Use) (x35_3 : Bool) : Option (Int) :=
  cond (x35_3)
    ((quoI u.Bits 2).bind fun q =>
    some q)
    (some 0)
theorem c_ref02_Strength.j3_le (fu : Nat) {u : api_Use} {x35_3 : Bool} : OLe (c_ref02_Strength.j3 fu u x35_3) (g_ref02_Strength.j3 u x35_3) := by
  unfold c_ref02_Strength.j3 g_ref02_Strength.j3
  repeat' (with_reducible first | assumption | apply OLe.bind_ | apply OLe.cond_ | apply OLe.up_ | exact OLe.refl | intro _)
def c_ref02_Strength.j4 (fu : Nat) (u : api_Use) (x62_4 : Bool) : Option (Int) :=
  cond (x62_4)
    ((c_ref02_among fu u.Bits ([128, 256] : List Int) ([128, 256] : List Int)).bind fun y_6 =>
    some y_6)
    ((c_ref02_single fu u.Alg).bind fun y_7 =>
    (c_ref02_among fu u.Bits ([0] : List Int) ([y_7] : List Int)).bind fun y_8 =>
    some y_8)
theorem c_ref02_Strength.j4_le (fu : Nat) {u : api_Use} {x62_4 : Bool} : OLe (c_ref02_Strength.j4 fu u x62_4) (g_ref02_Strength.j4 u x62_4) := by
  unfold c_ref02_Strength.j4 g_ref02_Strength.j4
  repeat' (with_reducible first | assumption | apply OLe.bind_ | apply OLe.cond_ | apply OLe.up_ | apply c_ref02_among_le | apply c_ref02_single_le | exact OLe.refl | intro _)
def c_ref02_Strength.j2 (fu : Nat) (u : api_Use) (x15_2 : Bool) : Option (Int) :=
  cond (x15_2)
    (cond (decide (u.Bits = 160))
      (c_ref02_Strength.j3 fu u true)
      (cond (decide (u.Bits = 224))
        (c_ref02_Strength.j3 fu u true)
        (cond (decide (u.Bits = 256))
          (c_ref02_Strength.j3 fu u true)
          (cond (decide (u.Bits = 384))
            (c_ref02_Strength.j3 fu u true)
            (c_ref02_Strength.j3 fu u (decide (u.Bits = 521)))))))
    (cond (decide (u.Alg = 9))
      ((c_ref02_among fu u.Bits ([44, 65, 87] : List Int) ([128, 192, 256] : List Int)).bind fun y_2 =>
      some y_2)
      (cond (decide (u.Alg = 13))
        ((c_ref02_among fu u.Bits ([512, 768, 1024] : List Int) ([128, 192, 256] : List Int)).bind fun y_3 =>
        some y_3)
        (cond (decide (u.Alg = 14))
          ((c_ref02_among fu u.Bits ([40, 128] : List Int) ([40, 60] : List Int)).bind fun y_4 =>
          some y_4)
          (cond (decide (u.Alg = 15))
            ((c_ref02_among fu u.Bits ([112, 168] : List Int) ([80, 112] : List Int)).bind fun y_5 =>
            some y_5)
            (cond (decide (u.Alg = 16))
              (c_ref02_Strength.j4 fu u (decide (u.Alg = 16)))
              (c_ref02_Strength.j4 fu u (decide (u.Alg = 17))))))))
theorem c_ref02_Strength.j2_le (fu : Nat) {u : api_Use} {x15_2 : Bool} : OLe (c_ref02_Strength.j2 fu u x15_2) (g_ref02_Strength.j2 u x15_2) := by
  unfold c_ref02_Strength.j2 g_ref02_Strength.j2
  repeat' (with_reducible first | assumption | apply OLe.bind_ | apply OLe.cond_ | apply OLe.up_ | apply c_ref02_Strength.j3_le | apply c_ref02_among_le | apply c_ref02_Strength.j4_le | exact OLe.refl | intro _)
def c_ref02_Strength.j1 (fu : Nat) (u : api_Use) (x8_1 : Bool) : Option (Int) :=
  cond (x8_1)
    ((c_ref02_modulus fu u.Bits).bind fun y =>
    some y)
    (cond (decide (u.Alg = 7))
      (c_ref02_Strength.j2 fu u (decide (u.Alg = 7)))
      (c_ref02_Strength.j2 fu u (decide (u.Alg = 12))))
theorem c_ref02_Strength.j1_le (fu : Nat) {u : api_Use} {x8_1 : Bool} : OLe (c_ref02_Strength.j1 fu u x8_1) (g_ref02_Strength.j1 u x8_1) := by
  unfold c_ref02_Strength.j1 g_ref02_Strength.j1
  repeat' (with_reducible first | assumption | apply OLe.bind_ | apply OLe.cond_ | apply OLe.up_ | apply c_ref02_modulus_le | apply c_ref02_Strength.j2_le | exact OLe.refl | intro _)
def c_ref02_Strength (fu : Nat) (u : api_Use) : Option (Int) :=
  cond (decide (u.Alg = 5))
    (c_ref02_Strength.j1 fu u (decide (u.Alg = 5)))
    (cond (decide (u.Alg = 6))
      (c_ref02_Strength.j1 fu u (decide (u.Alg = 6)))
      (cond (decide (u.Alg = 10))
        (c_ref02_Strength.j1 fu u (decide (u.Alg = 10)))
        (c_ref02_Strength.j1 fu u (decide (u.Alg = 11)))))
theorem c_ref02_Strength_le (fu : Nat) {u : api_Use} : OLe (c_ref02_Strength fu u) (g_ref02_Strength u) := by
  unfold c_ref02_Strength g_ref02_Strength
  repeat' (with_reducible first | assumption | apply OLe.bind_ | apply OLe.cond_ | apply OLe.up_ | apply c_ref02_Strength.j1_le | exact OLe.refl | intro _)
def c_ref02_Valid (fu : Nat) (u : api_Use) : Option (Bool) :=
  (c_ref02_Strength fu u).bind fun y =>
  some (decide (0 < y))
theorem c_ref02_Valid_le (fu : Nat) {u : api_Use} : OLe (c_ref02_Valid fu u) (g_ref02_Valid u) := by
  unfold c_ref02_Valid g_ref02_Valid
  repeat' (with_reducible first | assumption | apply OLe.bind_ | apply OLe.cond_ | apply OLe.up_ | apply c_ref02_Strength_le | exact OLe.refl | intro _)
def c_ref02_rows (fu : Nat) : Option ((List cipherplanref02_row)) :=
  some ([(cipherplanref02_row.mk (⟨#[]⟩ : ByteArray) 0), (cipherplanref02_row.mk (⟨#[109, 100, 53]⟩ : ByteArray) 1), (cipherplanref02_row.mk (⟨#[115, 104, 97, 49]⟩ : ByteArray) 1), (cipherplanref02_row.mk (⟨#[115, 104, 97, 50, 53, 54]⟩ : ByteArray) 1), (cipherplanref02_row.mk (⟨#[115, 104, 97, 51, 56, 52]⟩ : ByteArray) 1), (cipherplanref02_row.mk (⟨#[114, 115, 97]⟩ : ByteArray) 2), (cipherplanref02_row.mk (⟨#[100, 115, 97]⟩ : ByteArray) 2), (cipherplanref02_row.mk (⟨#[101, 99, 100, 115, 97]⟩ : ByteArray) 2), (cipherplanref02_row.mk (⟨#[101, 100, 50, 53, 53, 49, 57]⟩ : ByteArray) 2), (cipherplanref02_row.mk (⟨#[109, 108, 100, 115, 97]⟩ : ByteArray) 2), (cipherplanref02_row.mk (⟨#[114, 115, 97, 107, 120]⟩ : ByteArray) 3), (cipherplanref02_row.mk (⟨#[100, 104, 101]⟩ : ByteArray) 3), (cipherplanref02_row.mk (⟨#[101, 99, 100, 104, 101]⟩ : ByteArray) 3), (cipherplanref02_row.mk (⟨#[109, 108, 107, 101, 109]⟩ : ByteArray) 3), (cipherplanref02_row.mk (⟨#[114, 99, 52]⟩ : ByteArray) 4), (cipherplanref02_row.mk (⟨#[100, 101, 115, 51]⟩ : ByteArray) 4), (cipherplanref02_row.mk (⟨#[97, 101, 115, 99, 98, 99]⟩ : ByteArray) 4), (cipherplanref02_row.mk (⟨#[97, 101, 115, 103, 99, 109]⟩ : ByteArray) 4), (cipherplanref02_row.mk (⟨#[99, 104, 97, 99, 104, 97]⟩ : ByteArray) 4), (cipherplanref02_row.mk (⟨#[104, 109, 97, 99, 109, 100, 53]⟩ : ByteArray) 5), (cipherplanref02_row.mk (⟨#[104, 109, 97, 99, 115, 104, 97, 49]⟩ : ByteArray) 5), (cipherplanref02_row.mk (⟨#[104, 109, 97, 99, 115, 104, 97, 50, 53, 54]⟩ : ByteArray) 5), (cipherplanref02_row.mk (⟨#[97, 101, 97, 100]⟩ : ByteArray) 5)] : List cipherplanref02_row)
theorem c_ref02_rows_le (fu : Nat) : OLe (c_ref02_rows fu) (g_ref02_rows) := by
  unfold c_ref02_rows g_ref02_rows
  repeat' (with_reducible first | assumption | apply OLe.bind_ | apply OLe.cond_ | apply OLe.up_ | exact OLe.refl | intro _)
def c_ref02_Kind.j1 (fu : Nat) (alg : Int) (x8_1 : Bool) : Option (Int) :=
  cond (x8_1)
    (some 0)
    ((c_ref02_rows fu).bind fun y =>
    (getI y alg).bind fun e =>
    some e.kind)
theorem c_ref02_Kind.j1_le (fu : Nat) {alg : Int} {x8_1 : Bool} : OLe (c_ref02_Kind.j1 fu alg x8_1) (g_ref02_Kind.j1 alg x8_1) := by
  unfold c_ref02_Kind.j1 g_ref02_Kind.j1
  repeat' (with_reducible first | assumption | apply OLe.bind_ | apply OLe.cond_ | apply OLe.up_ | apply c_ref02_rows_le | exact OLe.refl | intro _)
def c_ref02_Kind (fu : Nat) (alg : Int) : Option (Int) :=
  cond (decide (alg < 1))
    (c_ref02_Kind.j1 fu alg true)
    (c_ref02_Kind.j1 fu alg (decide (22 < alg)))
theorem c_ref02_Kind_le (fu : Nat) {alg : Int} : OLe (c_ref02_Kind fu alg) (g_ref02_Kind alg) := by
  unfold c_ref02_Kind g_ref02_Kind
  repeat' (with_reducible first | assumption | apply OLe.bind_ | apply OLe.cond_ | apply OLe.up_ | apply c_ref02_Kind.j1_le | exact OLe.refl | intro _)
def c_ref03_Signature (fu : Nat) (u : api_Use) : Option (Bool) :=
  (c_ref02_Valid fu u).bind fun y =>
  cond (y)
    ((c_ref02_Kind fu u.Alg).bind fun y_2 =>
    some (decide (y_2 = 2)))
    (some false)
theorem c_ref03_Signature_le (fu : Nat) {u : api_Use} : OLe (c_ref03_Signature fu u) (g_ref03_Signature u) := by
  unfold c_ref03_Signature g_ref03_Signature
  repeat' (with_reducible first | assumption | apply OLe.bind_ | apply OLe.cond_ | apply OLe.up_ | apply c_ref02_Valid_le | apply c_ref02_Kind_le | exact OLe.refl | intro _)
def c_ref03_Check.j5 (fu : Nat) (i_4 : Int) (x123_5 : Bool) : Option (Lp (Int) (Int)) :=
  cond (x123_5)
    (up (some 9))
    (some (.next (W (i_4 + 1))))
theorem c_ref03_Check.j5_le (fu : Nat) {i_4 : Int} {x123_5 : Bool} : OLe (c_ref03_Check.j5 fu i_4 x123_5) (g_ref03_Check.j5 i_4 x123_5) := by
  unfold c_ref03_Check.j5 g_ref03_Check.j5
  repeat' (with_reducible first | assumption | apply OLe.bind_ | apply OLe.cond_ | apply OLe.up_ | exact OLe.refl | intro _)
def c_ref03_Check.j6 (fu : Nat) (x145_6 : Bool) : Option (Int) :=
  cond (x145_6)
    (some 9)
    (some 0)
theorem c_ref03_Check.j6_le (fu : Nat) {x145_6 : Bool} : OLe (c_ref03_Check.j6 fu x145_6) (g_ref03_Check.j6 x145_6) := by
  unfold c_ref03_Check.j6 g_ref03_Check.j6
  repeat' (with_reducible first | assumption | apply OLe.bind_ | apply OLe.cond_ | apply OLe.up_ | exact OLe.refl | intro _)
def c_ref03_Check.l4 (fu : Nat) (c : api_Certificate) (i_4 : Int) : Option (Lp (Int) (Int)) :=
  cond (decide (i_4 < (c.Names.length : Int)))
    ((getI c.Names i_4).bind fun e =>
    (c_ref03_Name fu e).bind fun y_6 =>
    cond (!y_6)
      (c_ref03_Check.j5 fu i_4 true)
      (cond (decide (0 < i_4))
        ((getI c.Names (W (i_4 - 1))).bind fun e_2 =>
        c_ref03_Check.j5 fu i_4 (!ltT (toB e_2) (toB e)))
        (c_ref03_Check.j5 fu i_4 false)))
    (up (
      cond (decide (c.Seal.Key < 0))
        (c_ref03_Check.j6 fu true)
        (cond (decide (2147483648 < c.Seal.Key))
          (c_ref03_Check.j6 fu true)
          (cond (decide (c.Seal.Sum < 0))
            (c_ref03_Check.j6 fu true)
            (c_ref03_Check.j6 fu (decide (4294967296 ≤ c.Seal.Sum)))))))
theorem c_ref03_Check.l4_le (fu : Nat) {c : api_Certificate} {i_4 : Int} : OLe (c_ref03_Check.l4 fu c i_4) (g_ref03_Check.l4 c i_4) := by
  unfold c_ref03_Check.l4 g_ref03_Check.l4
  repeat' (with_reducible first | assumption | apply OLe.bind_ | apply OLe.cond_ | apply OLe.up_ | apply c_ref03_Name_le | apply c_ref03_Check.j5_le | apply c_ref03_Check.j6_le | exact OLe.refl | intro _)
def c_ref03_Check.j3 (fu : Nat) (c : api_Certificate) (x91_3 : Bool) : Option (Int) :=
  cond (x91_3)
    (some 9)
    (loopC fu (fun q' => c_ref03_Check.l4 fu c q') 0)
theorem c_ref03_Check.j3_le (fu : Nat) {c : api_Certificate} {x91_3 : Bool} : OLe (c_ref03_Check.j3 fu c x91_3) (g_ref03_Check.j3 c x91_3) := by
  unfold c_ref03_Check.j3 g_ref03_Check.j3
  repeat' (with_reducible first | assumption | apply OLe.bind_ | apply OLe.cond_ | apply OLe.up_ | apply c_ref03_Check.l4_le | (refine OLe.lpC _ (fun _ => ?_) _) | exact OLe.refl | intro _)
def c_ref03_Check.j2 (fu : Nat) (c : api_Certificate) (x67_2 : Bool) : Option (Int) :=
  cond (x67_2)
    (some 9)
    (cond (decide (c.Path < 0))
      (c_ref03_Check.j3 fu c true)
      (cond (decide (8 < c.Path))
        (c_ref03_Check.j3 fu c true)
        (cond (!c.Authority)
          (cond (!decide (c.Path = 0))
            (c_ref03_Check.j3 fu c true)
            (c_ref03_Check.j3 fu c (decide (8 < (c.Names.length : Int)))))
          (c_ref03_Check.j3 fu c (decide (8 < (c.Names.length : Int)))))))
theorem c_ref03_Check.j2_le (fu : Nat) {c : api_Certificate} {x67_2 : Bool} : OLe (c_ref03_Check.j2 fu c x67_2) (g_ref03_Check.j2 c x67_2) := by
  unfold c_ref03_Check.j2 g_ref03_Check.j2
  repeat' (with_reducible first | assumption | apply OLe.bind_ | apply OLe.cond_ | apply OLe.up_ | apply c_ref03_Check.j3_le | exact OLe.refl | intro _)
def c_ref03_Check.j1 (fu : Nat) (c : api_Certificate) (x39_1 : Bool) : Option (Int) :=
  cond (x39_1)
    (some 9)
    ((c_ref02_Valid fu c.Hash).bind fun y_4 =>
    cond (!y_4)
      (c_ref03_Check.j2 fu c true)
      ((c_ref02_Kind fu c.Hash.Alg).bind fun y_5 =>
      cond (!decide (y_5 = 1))
        (c_ref03_Check.j2 fu c true)
        (cond (decide (c.From < 0))
          (c_ref03_Check.j2 fu c true)
          (cond (decide (c.To < c.From))
            (c_ref03_Check.j2 fu c true)
            (c_ref03_Check.j2 fu c (decide (40000 < c.To)))))))
theorem c_ref03_Check.j1_le (fu : Nat) {c : api_Certificate} {x39_1 : Bool} : OLe (c_ref03_Check.j1 fu c x39_1) (g_ref03_Check.j1 c x39_1) := by
  unfold c_ref03_Check.j1 g_ref03_Check.j1
  repeat' (with_reducible first | assumption | apply OLe.bind_ | apply OLe.cond_ | apply OLe.up_ | apply c_ref02_Valid_le | apply c_ref03_Check.j2_le | apply c_ref02_Kind_le | exact OLe.refl | intro _)
def c_ref03_Check (fu : Nat) (c : api_Certificate) : Option (Int) :=
  cond (decide (c.Serial < 0))
    (c_ref03_Check.j1 fu c true)
    (cond (decide (1099511627776 < c.Serial))
      (c_ref03_Check.j1 fu c true)
      ((c_ref03_Name fu c.Issuer).bind fun y =>
      cond (!y)
        (c_ref03_Check.j1 fu c true)
        ((c_ref03_Name fu c.Subject).bind fun y_2 =>
        cond (!y_2)
          (c_ref03_Check.j1 fu c true)
          ((c_ref03_Signature fu c.Key).bind fun y_3 =>
          cond (!y_3)
            (c_ref03_Check.j1 fu c true)
            (cond (decide (c.KeyId < 0))
              (c_ref03_Check.j1 fu c true)
              (c_ref03_Check.j1 fu c (decide (2147483648 < c.KeyId))))))))
theorem c_ref03_Check_le (fu : Nat) {c : api_Certificate} : OLe (c_ref03_Check fu c) (g_ref03_Check c) := by
  unfold c_ref03_Check g_ref03_Check
  repeat' (with_reducible first | assumption | apply OLe.bind_ | apply OLe.cond_ | apply OLe.up_ | apply c_ref03_Check.j1_le | apply c_ref03_Name_le | apply c_ref03_Signature_le | exact OLe.refl | intro _)
def c_ref01_Text (fu : Nat) (s : ByteArray) : Option (api_Value) :=
  some (api_Value.mk 12 (toB s) false ([] : (List api_Value)))
theorem c_ref01_Text_le (fu : Nat) {s : ByteArray} : OLe (c_ref01_Text fu s) (g_ref01_Text s) := by
  unfold c_ref01_Text g_ref01_Text
  repeat' (with_reducible first | assumption | apply OLe.bind_ | apply OLe.cond_ | apply OLe.up_ | exact OLe.refl | intro _)
def c_ref01_Int.j2 (fu : Nat) (x_1 : Int) (b_1 : List UInt8) (x35_2 : Bool) : Option (Lp (Int × List UInt8) (api_Value)) :=
  cond (x35_2)
    ((appI 1 ([(u8 x_1)] : List UInt8) b_1).bind fun l =>
    (shrK .i64 x_1 8).bind fun q_2 =>
    some (.next (q_2, l)))
    (up (
      some (api_Value.mk 2 b_1 false ([] : (List api_Value)))))
theorem c_ref01_Int.j2_le (fu : Nat) {x_1 : Int} {b_1 : List UInt8} {x35_2 : Bool} : OLe (c_ref01_Int.j2 fu x_1 b_1 x35_2) (g_ref01_Int.j2 x_1 b_1 x35_2) := by
  unfold c_ref01_Int.j2 g_ref01_Int.j2
  repeat' (with_reducible first | assumption | apply OLe.bind_ | apply OLe.cond_ | apply OLe.up_ | exact OLe.refl | intro _)
def c_ref01_Int.l1 (fu : Nat) (x_1 : Int) (b_1 : List UInt8) : Option (Lp (Int × List UInt8) (api_Value)) :=
  cond (!decide (x_1 = 0))
    (cond (!decide (x_1 = (-1)))
      (c_ref01_Int.j2 fu x_1 b_1 true)
      (cond (decide (x_1 = 0))
        ((getI b_1 0).bind fun e =>
        cond (decide (128 ≤ (e.toNat : Int)))
          (c_ref01_Int.j2 fu x_1 b_1 true)
          (cond (decide (x_1 = (-1)))
            (c_ref01_Int.j2 fu x_1 b_1 (decide ((e.toNat : Int) < 128)))
            (c_ref01_Int.j2 fu x_1 b_1 false)))
        (cond (decide (x_1 = (-1)))
          ((getI b_1 0).bind fun e_2 =>
          c_ref01_Int.j2 fu x_1 b_1 (decide ((e_2.toNat : Int) < 128)))
          (c_ref01_Int.j2 fu x_1 b_1 false))))
    (cond (decide (x_1 = 0))
      ((getI b_1 0).bind fun e_3 =>
      cond (decide (128 ≤ (e_3.toNat : Int)))
        (c_ref01_Int.j2 fu x_1 b_1 true)
        (cond (decide (x_1 = (-1)))
          (c_ref01_Int.j2 fu x_1 b_1 (decide ((e_3.toNat : Int) < 128)))
          (c_ref01_Int.j2 fu x_1 b_1 false)))
      (cond (decide (x_1 = (-1)))
        ((getI b_1 0).bind fun e_4 =>
        c_ref01_Int.j2 fu x_1 b_1 (decide ((e_4.toNat : Int) < 128)))
        (c_ref01_Int.j2 fu x_1 b_1 false)))
theorem c_ref01_Int.l1_le (fu : Nat) {x_1 : Int} {b_1 : List UInt8} : OLe (c_ref01_Int.l1 fu x_1 b_1) (g_ref01_Int.l1 x_1 b_1) := by
  unfold c_ref01_Int.l1 g_ref01_Int.l1
  repeat' (with_reducible first | assumption | apply OLe.bind_ | apply OLe.cond_ | apply OLe.up_ | apply c_ref01_Int.j2_le | exact OLe.refl | intro _)
def c_ref01_Int (fu : Nat) (n : Int) : Option (api_Value) :=
  (shrK .i64 n 8).bind fun q =>
  loopC fu (fun q' => c_ref01_Int.l1 fu q'.1 q'.2) (q, ([(u8 n)] : List UInt8))
theorem c_ref01_Int_le (fu : Nat) {n : Int} : OLe (c_ref01_Int fu n) (g_ref01_Int n) := by
  unfold c_ref01_Int g_ref01_Int
  repeat' (with_reducible first | assumption | apply OLe.bind_ | apply OLe.cond_ | apply OLe.up_ | apply c_ref01_Int.l1_le | (refine OLe.lpC _ (fun _ => ?_) _) | exact OLe.refl | intro _)
def c_ref01_copies.l1 (fu : Nat) (rec : (List api_Value) → Option ((List api_Value))) (l : (List api_Value)) (i_1 : Int) (out_1 : List api_Value) : Option (Lp (Int × List api_Value) ((List api_Value))) :=
  cond (decide (i_1 < (l.length : Int)))
    ((getI l i_1).bind fun e =>
    (appI 1 ([] : List UInt8) e.Bytes).bind fun l_2 =>
    (rec e.Elements).bind fun y =>
    (appI 256 out_1 ([(api_Value.mk e.Tag l_2 e.Nested y)] : List api_Value)).bind fun l_3 =>
    some (.next (W (i_1 + 1), l_3)))
    (up (
      some out_1))
theorem m_ref01_copies.l1 {rec : (List api_Value) → Option ((List api_Value))} {l : (List api_Value)} {i_1 : Int} {out_1 : List api_Value} {rec_p : (List api_Value) → Option ((List api_Value))} (h_rec : ∀ (x0 : (List api_Value)), OLe (rec x0) (rec_p x0)) : OLe (g_ref01_copies.l1 rec l i_1 out_1) (g_ref01_copies.l1 rec_p l i_1 out_1) := by
  unfold g_ref01_copies.l1
  repeat' (with_reducible first | assumption | apply OLe.bind_ | apply OLe.cond_ | apply OLe.up_ | apply h_rec | exact OLe.refl | intro _)
theorem c_ref01_copies.l1_le (fu : Nat) {rec : (List api_Value) → Option ((List api_Value))} {l : (List api_Value)} {i_1 : Int} {out_1 : List api_Value} {rec_p : (List api_Value) → Option ((List api_Value))} (h_rec : ∀ (x0 : (List api_Value)), OLe (rec x0) (rec_p x0)) : OLe (c_ref01_copies.l1 fu rec l i_1 out_1) (g_ref01_copies.l1 rec_p l i_1 out_1) := by
  unfold c_ref01_copies.l1 g_ref01_copies.l1
  repeat' (with_reducible first | assumption | apply OLe.bind_ | apply OLe.cond_ | apply OLe.up_ | apply h_rec | exact OLe.refl | intro _)
def c_ref01_copies.F (fu : Nat) (rec : (List api_Value) → Option ((List api_Value))) (l : (List api_Value)) : Option ((List api_Value)) :=
  loopC fu (fun q' => c_ref01_copies.l1 fu rec l q'.1 q'.2) (0, ([] : List api_Value))
theorem m_ref01_copies.F {rec : (List api_Value) → Option ((List api_Value))} {l : (List api_Value)} {rec_p : (List api_Value) → Option ((List api_Value))} (h_rec : ∀ (x0 : (List api_Value)), OLe (rec x0) (rec_p x0)) : OLe (g_ref01_copies.F rec l) (g_ref01_copies.F rec_p l) := by
  unfold g_ref01_copies.F
  repeat' (with_reducible first | assumption | apply OLe.bind_ | apply OLe.cond_ | apply OLe.up_ | apply h_rec | apply m_ref01_copies.l1 | (refine OLe.lp (fun _ => ?_) _) | exact OLe.refl | intro _)
theorem c_ref01_copies.F_le (fu : Nat) {rec : (List api_Value) → Option ((List api_Value))} {l : (List api_Value)} {rec_p : (List api_Value) → Option ((List api_Value))} (h_rec : ∀ (x0 : (List api_Value)), OLe (rec x0) (rec_p x0)) : OLe (c_ref01_copies.F fu rec l) (g_ref01_copies.F rec_p l) := by
  unfold c_ref01_copies.F g_ref01_copies.F
  repeat' (with_reducible first | assumption | apply OLe.bind_ | apply OLe.cond_ | apply OLe.up_ | apply h_rec | apply c_ref01_copies.l1_le | (refine OLe.lpC _ (fun _ => ?_) _) | exact OLe.refl | intro _)
def c_ref01_copies (fu : Nat) (l : (List api_Value)) : Option ((List api_Value)) := fixC fu (fun rec (x : (List api_Value)) => c_ref01_copies.F fu (fun l => rec l) x) l
theorem mono_ref01_copies : MonoF (fun rec (x : (List api_Value)) => g_ref01_copies.F (fun l => rec l) x) := fun p q h a => by
  apply m_ref01_copies.F
  intros
  apply h
theorem c_ref01_copies_le (fu : Nat) {l : (List api_Value)} : OLe (c_ref01_copies fu l) (g_ref01_copies l) := by
  unfold c_ref01_copies g_ref01_copies
  refine OLe.fx _ ?_ mono_ref01_copies _
  intro p q h a
  apply c_ref01_copies.F_le
  intros
  apply h
def c_ref01_List (fu : Nat) (l : (List api_Value)) : Option (api_Value) :=
  (c_ref01_copies fu l).bind fun y =>
  some (api_Value.mk 48 ([] : (List UInt8)) true y)
theorem c_ref01_List_le (fu : Nat) {l : (List api_Value)} : OLe (c_ref01_List fu l) (g_ref01_List l) := by
  unfold c_ref01_List g_ref01_List
  repeat' (with_reducible first | assumption | apply OLe.bind_ | apply OLe.cond_ | apply OLe.up_ | apply c_ref01_copies_le | exact OLe.refl | intro _)
def c_ref03_use (fu : Nat) (u : api_Use) : Option (api_Value) :=
  (c_ref01_Int fu u.Alg).bind fun y =>
  (c_ref01_Int fu u.Bits).bind fun y_2 =>
  (c_ref01_List fu ([y, y_2] : List api_Value)).bind fun y_3 =>
  some y_3
theorem c_ref03_use_le (fu : Nat) {u : api_Use} : OLe (c_ref03_use fu u) (g_ref03_use u) := by
  unfold c_ref03_use g_ref03_use
  repeat' (with_reducible first | assumption | apply OLe.bind_ | apply OLe.cond_ | apply OLe.up_ | apply c_ref01_Int_le | apply c_ref01_List_le | exact OLe.refl | intro _)
def c_ref01_Bool (fu : Nat) (b : Bool) : Option (api_Value) :=
  cond (b)
    (some (api_Value.mk 1 ([(255 : UInt8)] : List UInt8) false ([] : (List api_Value))))
    (some (api_Value.mk 1 ([(0 : UInt8)] : List UInt8) false ([] : (List api_Value))))
theorem c_ref01_Bool_le (fu : Nat) {b : Bool} : OLe (c_ref01_Bool fu b) (g_ref01_Bool b) := by
  unfold c_ref01_Bool g_ref01_Bool
  repeat' (with_reducible first | assumption | apply OLe.bind_ | apply OLe.cond_ | apply OLe.up_ | exact OLe.refl | intro _)
def c_ref03_body.l1 (fu : Nat) (c : api_Certificate) (i_1 : Int) (names_1 : List api_Value) : Option (Lp (Int × List api_Value) (api_Value)) :=
  cond (decide (i_1 < (c.Names.length : Int)))
    ((getI c.Names i_1).bind fun e =>
    (c_ref01_Text fu e).bind fun y =>
    (appI 256 names_1 ([y] : List api_Value)).bind fun l =>
    some (.next (W (i_1 + 1), l)))
    (up (
      (c_ref01_Int fu c.Serial).bind fun y_12 =>
      (c_ref01_Text fu c.Issuer).bind fun y_13 =>
      (c_ref01_Text fu c.Subject).bind fun y_14 =>
      (c_ref03_use fu c.Key).bind fun y_15 =>
      (c_ref01_Int fu c.KeyId).bind fun y_16 =>
      (c_ref03_use fu c.Hash).bind fun y_17 =>
      (c_ref01_Int fu c.From).bind fun y_18 =>
      (c_ref01_Int fu c.To).bind fun y_19 =>
      (c_ref01_Bool fu c.Authority).bind fun y_20 =>
      (c_ref01_Int fu c.Path).bind fun y_21 =>
      (c_ref01_List fu names_1).bind fun y_22 =>
      (c_ref01_List fu ([y_12, y_13, y_14, y_15, y_16, y_17, y_18, y_19, y_20, y_21, y_22] : List api_Value)).bind fun y_23 =>
      some y_23))
theorem c_ref03_body.l1_le (fu : Nat) {c : api_Certificate} {i_1 : Int} {names_1 : List api_Value} : OLe (c_ref03_body.l1 fu c i_1 names_1) (g_ref03_body.l1 c i_1 names_1) := by
  unfold c_ref03_body.l1 g_ref03_body.l1
  repeat' (with_reducible first | assumption | apply OLe.bind_ | apply OLe.cond_ | apply OLe.up_ | apply c_ref01_Text_le | apply c_ref01_Int_le | apply c_ref03_use_le | apply c_ref01_Bool_le | apply c_ref01_List_le | exact OLe.refl | intro _)
def c_ref03_body (fu : Nat) (c : api_Certificate) : Option (api_Value) :=
  loopC fu (fun q' => c_ref03_body.l1 fu c q'.1 q'.2) (0, ([] : List api_Value))
theorem c_ref03_body_le (fu : Nat) {c : api_Certificate} : OLe (c_ref03_body fu c) (g_ref03_body c) := by
  unfold c_ref03_body g_ref03_body
  repeat' (with_reducible first | assumption | apply OLe.bind_ | apply OLe.cond_ | apply OLe.up_ | apply c_ref03_body.l1_le | (refine OLe.lpC _ (fun _ => ?_) _) | exact OLe.refl | intro _)
def c_ref01_tag (fu : Nat) (n : Int) : Option (Bool) :=
  cond (decide (1 ≤ n))
    (cond (decide (n ≤ 255))
      ((remI n 32).bind fun q =>
      some (!decide (q = 31)))
      (some false))
    (some false)
theorem c_ref01_tag_le (fu : Nat) {n : Int} : OLe (c_ref01_tag fu n) (g_ref01_tag n) := by
  unfold c_ref01_tag g_ref01_tag
  repeat' (with_reducible first | assumption | apply OLe.bind_ | apply OLe.cond_ | apply OLe.up_ | exact OLe.refl | intro _)
def c_ref01_formed.l2 (fu : Nat) (rec : api_Value → Option (Bool)) (v : api_Value) (i_2 : Int) : Option (Lp (Int) (Bool)) :=
  cond (decide (i_2 < (v.Elements.length : Int)))
    ((getI v.Elements i_2).bind fun e =>
    (rec e).bind fun y_2 =>
    cond (!y_2)
      (up (some false))
      (some (.next (W (i_2 + 1)))))
    (up (
      some true))
theorem m_ref01_formed.l2 {rec : api_Value → Option (Bool)} {v : api_Value} {i_2 : Int} {rec_p : api_Value → Option (Bool)} (h_rec : ∀ (x0 : api_Value), OLe (rec x0) (rec_p x0)) : OLe (g_ref01_formed.l2 rec v i_2) (g_ref01_formed.l2 rec_p v i_2) := by
  unfold g_ref01_formed.l2
  repeat' (with_reducible first | assumption | apply OLe.bind_ | apply OLe.cond_ | apply OLe.up_ | apply h_rec | exact OLe.refl | intro _)
theorem c_ref01_formed.l2_le (fu : Nat) {rec : api_Value → Option (Bool)} {v : api_Value} {i_2 : Int} {rec_p : api_Value → Option (Bool)} (h_rec : ∀ (x0 : api_Value), OLe (rec x0) (rec_p x0)) : OLe (c_ref01_formed.l2 fu rec v i_2) (g_ref01_formed.l2 rec_p v i_2) := by
  unfold c_ref01_formed.l2 g_ref01_formed.l2
  repeat' (with_reducible first | assumption | apply OLe.bind_ | apply OLe.cond_ | apply OLe.up_ | apply h_rec | exact OLe.refl | intro _)
def c_ref01_formed.j1 (fu : Nat) (rec : api_Value → Option (Bool)) (v : api_Value) (x38_1 : Bool) : Option (Bool) :=
  cond (x38_1)
    (some false)
    (loopC fu (fun q' => c_ref01_formed.l2 fu rec v q') 0)
theorem m_ref01_formed.j1 {rec : api_Value → Option (Bool)} {v : api_Value} {x38_1 : Bool} {rec_p : api_Value → Option (Bool)} (h_rec : ∀ (x0 : api_Value), OLe (rec x0) (rec_p x0)) : OLe (g_ref01_formed.j1 rec v x38_1) (g_ref01_formed.j1 rec_p v x38_1) := by
  unfold g_ref01_formed.j1
  repeat' (with_reducible first | assumption | apply OLe.bind_ | apply OLe.cond_ | apply OLe.up_ | apply h_rec | apply m_ref01_formed.l2 | (refine OLe.lp (fun _ => ?_) _) | exact OLe.refl | intro _)
theorem c_ref01_formed.j1_le (fu : Nat) {rec : api_Value → Option (Bool)} {v : api_Value} {x38_1 : Bool} {rec_p : api_Value → Option (Bool)} (h_rec : ∀ (x0 : api_Value), OLe (rec x0) (rec_p x0)) : OLe (c_ref01_formed.j1 fu rec v x38_1) (g_ref01_formed.j1 rec_p v x38_1) := by
  unfold c_ref01_formed.j1 g_ref01_formed.j1
  repeat' (with_reducible first | assumption | apply OLe.bind_ | apply OLe.cond_ | apply OLe.up_ | apply h_rec | apply c_ref01_formed.l2_le | (refine OLe.lpC _ (fun _ => ?_) _) | exact OLe.refl | intro _)
def c_ref01_formed.F (fu : Nat) (rec : api_Value → Option (Bool)) (v : api_Value) : Option (Bool) :=
  (c_ref01_tag fu v.Tag).bind fun y =>
  cond (!y)
    (c_ref01_formed.j1 fu rec v true)
    ((quoI v.Tag 32).bind fun q =>
    (remI q 2).bind fun q_2 =>
    cond (!decide (v.Nested = (decide (q_2 = 1))))
      (c_ref01_formed.j1 fu rec v true)
      (cond (v.Nested)
        (cond (decide (0 < (v.Bytes.length : Int)))
          (c_ref01_formed.j1 fu rec v true)
          (c_ref01_formed.j1 fu rec v false))
        (c_ref01_formed.j1 fu rec v (decide (0 < (v.Elements.length : Int))))))
theorem m_ref01_formed.F {rec : api_Value → Option (Bool)} {v : api_Value} {rec_p : api_Value → Option (Bool)} (h_rec : ∀ (x0 : api_Value), OLe (rec x0) (rec_p x0)) : OLe (g_ref01_formed.F rec v) (g_ref01_formed.F rec_p v) := by
  unfold g_ref01_formed.F
  repeat' (with_reducible first | assumption | apply OLe.bind_ | apply OLe.cond_ | apply OLe.up_ | apply h_rec | apply m_ref01_formed.j1 | exact OLe.refl | intro _)
theorem c_ref01_formed.F_le (fu : Nat) {rec : api_Value → Option (Bool)} {v : api_Value} {rec_p : api_Value → Option (Bool)} (h_rec : ∀ (x0 : api_Value), OLe (rec x0) (rec_p x0)) : OLe (c_ref01_formed.F fu rec v) (g_ref01_formed.F rec_p v) := by
  unfold c_ref01_formed.F g_ref01_formed.F
  repeat' (with_reducible first | assumption | apply OLe.bind_ | apply OLe.cond_ | apply OLe.up_ | apply h_rec | apply c_ref01_tag_le | apply c_ref01_formed.j1_le | exact OLe.refl | intro _)
def c_ref01_formed (fu : Nat) (v : api_Value) : Option (Bool) := fixC fu (fun rec (x : api_Value) => c_ref01_formed.F fu (fun v => rec v) x) v
theorem mono_ref01_formed : MonoF (fun rec (x : api_Value) => g_ref01_formed.F (fun v => rec v) x) := fun p q h a => by
  apply m_ref01_formed.F
  intros
  apply h
theorem c_ref01_formed_le (fu : Nat) {v : api_Value} : OLe (c_ref01_formed fu v) (g_ref01_formed v) := by
  unfold c_ref01_formed g_ref01_formed
  refine OLe.fx _ ?_ mono_ref01_formed _
  intro p q h a
  apply c_ref01_formed.F_le
  intros
  apply h
def c_ref01_depth.l1 (fu : Nat) (rec : api_Value → Option (Int)) (v : api_Value) (d_1 : Int) (i_1 : Int) : Option (Lp (Int × Int) (Int)) :=
  cond (decide (i_1 < (v.Elements.length : Int)))
    ((getI v.Elements i_1).bind fun e =>
    (rec e).bind fun y =>
    some (.next (max d_1 y, W (i_1 + 1))))
    (up (
      some (W (d_1 + 1))))
theorem m_ref01_depth.l1 {rec : api_Value → Option (Int)} {v : api_Value} {d_1 : Int} {i_1 : Int} {rec_p : api_Value → Option (Int)} (h_rec : ∀ (x0 : api_Value), OLe (rec x0) (rec_p x0)) : OLe (g_ref01_depth.l1 rec v d_1 i_1) (g_ref01_depth.l1 rec_p v d_1 i_1) := by
  unfold g_ref01_depth.l1
  repeat' (with_reducible first | assumption | apply OLe.bind_ | apply OLe.cond_ | apply OLe.up_ | apply h_rec | exact OLe.refl | intro _)
theorem c_ref01_depth.l1_le (fu : Nat) {rec : api_Value → Option (Int)} {v : api_Value} {d_1 : Int} {i_1 : Int} {rec_p : api_Value → Option (Int)} (h_rec : ∀ (x0 : api_Value), OLe (rec x0) (rec_p x0)) : OLe (c_ref01_depth.l1 fu rec v d_1 i_1) (g_ref01_depth.l1 rec_p v d_1 i_1) := by
  unfold c_ref01_depth.l1 g_ref01_depth.l1
  repeat' (with_reducible first | assumption | apply OLe.bind_ | apply OLe.cond_ | apply OLe.up_ | apply h_rec | exact OLe.refl | intro _)
def c_ref01_depth.F (fu : Nat) (rec : api_Value → Option (Int)) (v : api_Value) : Option (Int) :=
  loopC fu (fun q' => c_ref01_depth.l1 fu rec v q'.1 q'.2) (0, 0)
theorem m_ref01_depth.F {rec : api_Value → Option (Int)} {v : api_Value} {rec_p : api_Value → Option (Int)} (h_rec : ∀ (x0 : api_Value), OLe (rec x0) (rec_p x0)) : OLe (g_ref01_depth.F rec v) (g_ref01_depth.F rec_p v) := by
  unfold g_ref01_depth.F
  repeat' (with_reducible first | assumption | apply OLe.bind_ | apply OLe.cond_ | apply OLe.up_ | apply h_rec | apply m_ref01_depth.l1 | (refine OLe.lp (fun _ => ?_) _) | exact OLe.refl | intro _)
theorem c_ref01_depth.F_le (fu : Nat) {rec : api_Value → Option (Int)} {v : api_Value} {rec_p : api_Value → Option (Int)} (h_rec : ∀ (x0 : api_Value), OLe (rec x0) (rec_p x0)) : OLe (c_ref01_depth.F fu rec v) (g_ref01_depth.F rec_p v) := by
  unfold c_ref01_depth.F g_ref01_depth.F
  repeat' (with_reducible first | assumption | apply OLe.bind_ | apply OLe.cond_ | apply OLe.up_ | apply h_rec | apply c_ref01_depth.l1_le | (refine OLe.lpC _ (fun _ => ?_) _) | exact OLe.refl | intro _)
def c_ref01_depth (fu : Nat) (v : api_Value) : Option (Int) := fixC fu (fun rec (x : api_Value) => c_ref01_depth.F fu (fun v => rec v) x) v
theorem mono_ref01_depth : MonoF (fun rec (x : api_Value) => g_ref01_depth.F (fun v => rec v) x) := fun p q h a => by
  apply m_ref01_depth.F
  intros
  apply h
theorem c_ref01_depth_le (fu : Nat) {v : api_Value} : OLe (c_ref01_depth fu v) (g_ref01_depth v) := by
  unfold c_ref01_depth g_ref01_depth
  refine OLe.fx _ ?_ mono_ref01_depth _
  intro p q h a
  apply c_ref01_depth.F_le
  intros
  apply h
def c_ref01_length.l1 (fu : Nat) (n_1 : Int) (b_1 : List UInt8) : Option (Lp (Int × List UInt8) ((List UInt8))) :=
  cond (decide (0 < n_1))
    ((remI n_1 256).bind fun q =>
    (appI 1 ([(u8 q)] : List UInt8) b_1).bind fun l =>
    (quoI n_1 256).bind fun q_2 =>
    some (.next (q_2, l)))
    (up (
      (appI 1 ([(u8 (W (128 + (b_1.length : Int))))] : List UInt8) b_1).bind fun l_2 =>
      some l_2))
theorem c_ref01_length.l1_le (fu : Nat) {n_1 : Int} {b_1 : List UInt8} : OLe (c_ref01_length.l1 fu n_1 b_1) (g_ref01_length.l1 n_1 b_1) := by
  unfold c_ref01_length.l1 g_ref01_length.l1
  repeat' (with_reducible first | assumption | apply OLe.bind_ | apply OLe.cond_ | apply OLe.up_ | exact OLe.refl | intro _)
def c_ref01_length (fu : Nat) (n : Int) : Option ((List UInt8)) :=
  cond (decide (n < 128))
    (some ([(u8 n)] : List UInt8))
    (loopC fu (fun q' => c_ref01_length.l1 fu q'.1 q'.2) (n, ([] : List UInt8)))
theorem c_ref01_length_le (fu : Nat) {n : Int} : OLe (c_ref01_length fu n) (g_ref01_length n) := by
  unfold c_ref01_length g_ref01_length
  repeat' (with_reducible first | assumption | apply OLe.bind_ | apply OLe.cond_ | apply OLe.up_ | apply c_ref01_length.l1_le | (refine OLe.lpC _ (fun _ => ?_) _) | exact OLe.refl | intro _)
def c_ref01_put.l1 (fu : Nat) (rec : api_Value → Option ((List UInt8))) (v : api_Value) (i_1 : Int) (b_1 : List UInt8) : Option (Lp (Int × List UInt8) ((List UInt8))) :=
  cond (decide (i_1 < (v.Elements.length : Int)))
    ((getI v.Elements i_1).bind fun e =>
    (rec e).bind fun y =>
    (appI 1 b_1 y).bind fun l_2 =>
    some (.next (W (i_1 + 1), l_2)))
    (up (
      (c_ref01_length fu (b_1.length : Int)).bind fun y_2 =>
      (appI 1 ([(u8 v.Tag)] : List UInt8) y_2).bind fun l_3 =>
      (appI 1 l_3 b_1).bind fun l_4 =>
      some l_4))
theorem m_ref01_put.l1 {rec : api_Value → Option ((List UInt8))} {v : api_Value} {i_1 : Int} {b_1 : List UInt8} {rec_p : api_Value → Option ((List UInt8))} (h_rec : ∀ (x0 : api_Value), OLe (rec x0) (rec_p x0)) : OLe (g_ref01_put.l1 rec v i_1 b_1) (g_ref01_put.l1 rec_p v i_1 b_1) := by
  unfold g_ref01_put.l1
  repeat' (with_reducible first | assumption | apply OLe.bind_ | apply OLe.cond_ | apply OLe.up_ | apply h_rec | exact OLe.refl | intro _)
theorem c_ref01_put.l1_le (fu : Nat) {rec : api_Value → Option ((List UInt8))} {v : api_Value} {i_1 : Int} {b_1 : List UInt8} {rec_p : api_Value → Option ((List UInt8))} (h_rec : ∀ (x0 : api_Value), OLe (rec x0) (rec_p x0)) : OLe (c_ref01_put.l1 fu rec v i_1 b_1) (g_ref01_put.l1 rec_p v i_1 b_1) := by
  unfold c_ref01_put.l1 g_ref01_put.l1
  repeat' (with_reducible first | assumption | apply OLe.bind_ | apply OLe.cond_ | apply OLe.up_ | apply h_rec | apply c_ref01_length_le | exact OLe.refl | intro _)
def c_ref01_put.F (fu : Nat) (rec : api_Value → Option ((List UInt8))) (v : api_Value) : Option ((List UInt8)) :=
  (appI 1 ([] : List UInt8) v.Bytes).bind fun l =>
  loopC fu (fun q' => c_ref01_put.l1 fu rec v q'.1 q'.2) (0, l)
theorem m_ref01_put.F {rec : api_Value → Option ((List UInt8))} {v : api_Value} {rec_p : api_Value → Option ((List UInt8))} (h_rec : ∀ (x0 : api_Value), OLe (rec x0) (rec_p x0)) : OLe (g_ref01_put.F rec v) (g_ref01_put.F rec_p v) := by
  unfold g_ref01_put.F
  repeat' (with_reducible first | assumption | apply OLe.bind_ | apply OLe.cond_ | apply OLe.up_ | apply h_rec | apply m_ref01_put.l1 | (refine OLe.lp (fun _ => ?_) _) | exact OLe.refl | intro _)
theorem c_ref01_put.F_le (fu : Nat) {rec : api_Value → Option ((List UInt8))} {v : api_Value} {rec_p : api_Value → Option ((List UInt8))} (h_rec : ∀ (x0 : api_Value), OLe (rec x0) (rec_p x0)) : OLe (c_ref01_put.F fu rec v) (g_ref01_put.F rec_p v) := by
  unfold c_ref01_put.F g_ref01_put.F
  repeat' (with_reducible first | assumption | apply OLe.bind_ | apply OLe.cond_ | apply OLe.up_ | apply h_rec | apply c_ref01_put.l1_le | (refine OLe.lpC _ (fun _ => ?_) _) | exact OLe.refl | intro _)
def c_ref01_put (fu : Nat) (v : api_Value) : Option ((List UInt8)) := fixC fu (fun rec (x : api_Value) => c_ref01_put.F fu (fun v => rec v) x) v
theorem mono_ref01_put : MonoF (fun rec (x : api_Value) => g_ref01_put.F (fun v => rec v) x) := fun p q h a => by
  apply m_ref01_put.F
  intros
  apply h
theorem c_ref01_put_le (fu : Nat) {v : api_Value} : OLe (c_ref01_put fu v) (g_ref01_put v) := by
  unfold c_ref01_put g_ref01_put
  refine OLe.fx _ ?_ mono_ref01_put _
  intro p q h a
  apply c_ref01_put.F_le
  intros
  apply h
def c_ref01_Encode (fu : Nat) (v : api_Value) : Option ((List UInt8) × Int) :=
  (c_ref01_formed fu v).bind fun y =>
  cond (!y)
    (some (([] : (List UInt8)), 1))
    ((c_ref01_depth fu v).bind fun y_2 =>
    cond (decide (16 < y_2))
      (some (([] : (List UInt8)), 3))
      ((c_ref01_put fu v).bind fun y_3 =>
      cond (decide (4096 < (y_3.length : Int)))
        (some (([] : (List UInt8)), 3))
        (some (y_3, 0))))
theorem c_ref01_Encode_le (fu : Nat) {v : api_Value} : OLe (c_ref01_Encode fu v) (g_ref01_Encode v) := by
  unfold c_ref01_Encode g_ref01_Encode
  repeat' (with_reducible first | assumption | apply OLe.bind_ | apply OLe.cond_ | apply OLe.up_ | apply c_ref01_formed_le | apply c_ref01_depth_le | apply c_ref01_put_le | exact OLe.refl | intro _)
def c_ref03_Bytes (fu : Nat) (c : api_Certificate) : Option ((List UInt8) × Int) :=
  (c_ref03_Check fu c).bind fun y =>
  cond (!decide (y = 0))
    (some (([] : (List UInt8)), 9))
    ((c_ref03_body fu c).bind fun y_2 =>
    (c_ref01_Encode fu y_2).bind fun y_3 =>
    some (y_3.1, y_3.2))
theorem c_ref03_Bytes_le (fu : Nat) {c : api_Certificate} : OLe (c_ref03_Bytes fu c) (g_ref03_Bytes c) := by
  unfold c_ref03_Bytes g_ref03_Bytes
  repeat' (with_reducible first | assumption | apply OLe.bind_ | apply OLe.cond_ | apply OLe.up_ | apply c_ref03_Check_le | apply c_ref03_body_le | apply c_ref01_Encode_le | exact OLe.refl | intro _)
def c_ref03_Sum.l1 (fu : Nat) (b : (List UInt8)) (h_1 : Int) (i_1 : Int) : Option (Lp (Int × Int) (Int)) :=
  cond (decide (i_1 < (b.length : Int)))
    ((getI b i_1).bind fun e =>
    some (.next (IntKind.wrap .u32 ((xorK .u32 h_1 (IntKind.wrap .u32 (e.toNat : Int))) * 16777619), W (i_1 + 1))))
    (up (
      some (W h_1)))
theorem c_ref03_Sum.l1_le (fu : Nat) {b : (List UInt8)} {h_1 : Int} {i_1 : Int} : OLe (c_ref03_Sum.l1 fu b h_1 i_1) (g_ref03_Sum.l1 b h_1 i_1) := by
  unfold c_ref03_Sum.l1 g_ref03_Sum.l1
  repeat' (with_reducible first | assumption | apply OLe.bind_ | apply OLe.cond_ | apply OLe.up_ | exact OLe.refl | intro _)
def c_ref03_Sum (fu : Nat) (b : (List UInt8)) : Option (Int) :=
  loopC fu (fun q' => c_ref03_Sum.l1 fu b q'.1 q'.2) (2166136261, 0)
theorem c_ref03_Sum_le (fu : Nat) {b : (List UInt8)} : OLe (c_ref03_Sum fu b) (g_ref03_Sum b) := by
  unfold c_ref03_Sum g_ref03_Sum
  repeat' (with_reducible first | assumption | apply OLe.bind_ | apply OLe.cond_ | apply OLe.up_ | apply c_ref03_Sum.l1_le | (refine OLe.lpC _ (fun _ => ?_) _) | exact OLe.refl | intro _)
def c_ref03_Sign.j1 (fu : Nat) (key : Int) (y : api_Certificate) (x22_1 : Bool) : Option (api_Certificate × Int) :=
  cond (x22_1)
    (some ((api_Certificate.mk 0 (⟨#[]⟩ : ByteArray) (⟨#[]⟩ : ByteArray) (api_Use.mk 0 0) 0 (api_Use.mk 0 0) 0 0 false 0 ([] : (List ByteArray)) (api_Seal.mk 0 0)), 9))
    ((c_ref03_Bytes fu (api_Certificate.mk y.Serial y.Issuer y.Subject y.Key y.KeyId y.Hash y.From y.To y.Authority y.Path y.Names (api_Seal.mk 0 0))).bind fun y_3 =>
    (c_ref03_Sum fu y_3.1).bind fun y_4 =>
    some ((api_Certificate.mk y.Serial y.Issuer y.Subject y.Key y.KeyId y.Hash y.From y.To y.Authority y.Path y.Names (api_Seal.mk key y_4)), 0))
theorem c_ref03_Sign.j1_le (fu : Nat) {key : Int} {y : api_Certificate} {x22_1 : Bool} : OLe (c_ref03_Sign.j1 fu key y x22_1) (g_ref03_Sign.j1 key y x22_1) := by
  unfold c_ref03_Sign.j1 g_ref03_Sign.j1
  repeat' (with_reducible first | assumption | apply OLe.bind_ | apply OLe.cond_ | apply OLe.up_ | apply c_ref03_Bytes_le | apply c_ref03_Sum_le | exact OLe.refl | intro _)
def c_ref03_Sign (fu : Nat) (c : api_Certificate) (key : Int) : Option (api_Certificate × Int) :=
  (c_ref03_Copy fu c).bind fun y =>
  (c_ref03_Check fu (api_Certificate.mk y.Serial y.Issuer y.Subject y.Key y.KeyId y.Hash y.From y.To y.Authority y.Path y.Names (api_Seal.mk 0 0))).bind fun y_2 =>
  cond (!decide (y_2 = 0))
    (c_ref03_Sign.j1 fu key y true)
    (cond (decide (key < 0))
      (c_ref03_Sign.j1 fu key y true)
      (c_ref03_Sign.j1 fu key y (decide (2147483648 < key))))
theorem c_ref03_Sign_le (fu : Nat) {c : api_Certificate} {key : Int} : OLe (c_ref03_Sign fu c key) (g_ref03_Sign c key) := by
  unfold c_ref03_Sign g_ref03_Sign
  repeat' (with_reducible first | assumption | apply OLe.bind_ | apply OLe.cond_ | apply OLe.up_ | apply c_ref03_Copy_le | apply c_ref03_Check_le | apply c_ref03_Sign.j1_le | exact OLe.refl | intro _)
def c_catalog_Named.j2 (fu : Nat) (x8_1 : Int) (x17_2 : Bool) : Option (Lp (Int) (Bool)) :=
  cond (x17_2)
    (up (some false))
    (some (.next (W (x8_1 + 1))))
theorem c_catalog_Named.j2_le (fu : Nat) {x8_1 : Int} {x17_2 : Bool} : OLe (c_catalog_Named.j2 fu x8_1 x17_2) (g_catalog_Named.j2 x8_1 x17_2) := by
  unfold c_catalog_Named.j2 g_catalog_Named.j2
  repeat' (with_reducible first | assumption | apply OLe.bind_ | apply OLe.cond_ | apply OLe.up_ | exact OLe.refl | intro _)
def c_catalog_Named.l1 (fu : Nat) (s : ByteArray) (x8_1 : Int) : Option (Lp (Int) (Bool)) :=
  cond (decide (x8_1 < ((toB s).length : Int)))
    ((getI (toB s) x8_1).bind fun e =>
    cond (decide ((e.toNat : Int) ≤ 32))
      (c_catalog_Named.j2 fu x8_1 true)
      (c_catalog_Named.j2 fu x8_1 (decide (126 < (e.toNat : Int)))))
    (up (
      cond (decide (1 ≤ (s.size : Int)))
        (some (decide ((s.size : Int) ≤ 32)))
        (some false)))
theorem c_catalog_Named.l1_le (fu : Nat) {s : ByteArray} {x8_1 : Int} : OLe (c_catalog_Named.l1 fu s x8_1) (g_catalog_Named.l1 s x8_1) := by
  unfold c_catalog_Named.l1 g_catalog_Named.l1
  repeat' (with_reducible first | assumption | apply OLe.bind_ | apply OLe.cond_ | apply OLe.up_ | apply c_catalog_Named.j2_le | exact OLe.refl | intro _)
def c_catalog_Named (fu : Nat) (s : ByteArray) : Option (Bool) :=
  loopC fu (fun q' => c_catalog_Named.l1 fu s q') 0
theorem c_catalog_Named_le (fu : Nat) {s : ByteArray} : OLe (c_catalog_Named fu s) (g_catalog_Named s) := by
  unfold c_catalog_Named g_catalog_Named
  repeat' (with_reducible first | assumption | apply OLe.bind_ | apply OLe.cond_ | apply OLe.up_ | apply c_catalog_Named.l1_le | (refine OLe.lpC _ (fun _ => ?_) _) | exact OLe.refl | intro _)
def c_certificate_named.j2 (fu : Nat) (x7_1 : Int) (x27_2 : Bool) : Option (Lp (Int) (Bool)) :=
  cond (x27_2)
    (up (some false))
    (some (.next (W (x7_1 + 1))))
theorem c_certificate_named.j2_le (fu : Nat) {x7_1 : Int} {x27_2 : Bool} : OLe (c_certificate_named.j2 fu x7_1 x27_2) (g_certificate_named.j2 x7_1 x27_2) := by
  unfold c_certificate_named.j2 g_certificate_named.j2
  repeat' (with_reducible first | assumption | apply OLe.bind_ | apply OLe.cond_ | apply OLe.up_ | exact OLe.refl | intro _)
def c_certificate_named.l1 (fu : Nat) (l : (List ByteArray)) (x7_1 : Int) : Option (Lp (Int) (Bool)) :=
  cond (decide (x7_1 < (l.length : Int)))
    ((getI l x7_1).bind fun e =>
    (c_catalog_Named fu e).bind fun y =>
    cond (!y)
      (c_certificate_named.j2 fu x7_1 true)
      (cond (decide (0 < x7_1))
        ((getI l (W (x7_1 - 1))).bind fun e_2 =>
        c_certificate_named.j2 fu x7_1 (!ltT (toB e_2) (toB e)))
        (c_certificate_named.j2 fu x7_1 false)))
    (up (
      some (decide ((l.length : Int) ≤ 8))))
theorem c_certificate_named.l1_le (fu : Nat) {l : (List ByteArray)} {x7_1 : Int} : OLe (c_certificate_named.l1 fu l x7_1) (g_certificate_named.l1 l x7_1) := by
  unfold c_certificate_named.l1 g_certificate_named.l1
  repeat' (with_reducible first | assumption | apply OLe.bind_ | apply OLe.cond_ | apply OLe.up_ | apply c_catalog_Named_le | apply c_certificate_named.j2_le | exact OLe.refl | intro _)
def c_certificate_named (fu : Nat) (l : (List ByteArray)) : Option (Bool) :=
  loopC fu (fun q' => c_certificate_named.l1 fu l q') 0
theorem c_certificate_named_le (fu : Nat) {l : (List ByteArray)} : OLe (c_certificate_named fu l) (g_certificate_named l) := by
  unfold c_certificate_named g_certificate_named
  repeat' (with_reducible first | assumption | apply OLe.bind_ | apply OLe.cond_ | apply OLe.up_ | apply c_certificate_named.l1_le | (refine OLe.lpC _ (fun _ => ?_) _) | exact OLe.refl | intro _)
def c_catalog_rows (fu : Nat) : Option ((List catalog_row)) :=
  some ([(catalog_row.mk (⟨#[]⟩ : ByteArray) 0 0 ([] : (List Int)) ([] : (List Int))), (catalog_row.mk (⟨#[109, 100, 53]⟩ : ByteArray) 1 0 ([] : (List Int)) ([18] : List Int)), (catalog_row.mk (⟨#[115, 104, 97, 49]⟩ : ByteArray) 1 0 ([] : (List Int)) ([60] : List Int)), (catalog_row.mk (⟨#[115, 104, 97, 50, 53, 54]⟩ : ByteArray) 1 0 ([] : (List Int)) ([128] : List Int)), (catalog_row.mk (⟨#[115, 104, 97, 51, 56, 52]⟩ : ByteArray) 1 0 ([] : (List Int)) ([192] : List Int)), (catalog_row.mk (⟨#[114, 115, 97]⟩ : ByteArray) 2 1 ([] : (List Int)) ([] : (List Int))), (catalog_row.mk (⟨#[100, 115, 97]⟩ : ByteArray) 2 1 ([] : (List Int)) ([] : (List Int))), (catalog_row.mk (⟨#[101, 99, 100, 115, 97]⟩ : ByteArray) 2 2 ([] : (List Int)) ([] : (List Int))), (catalog_row.mk (⟨#[101, 100, 50, 53, 53, 49, 57]⟩ : ByteArray) 2 0 ([] : (List Int)) ([128] : List Int)), (catalog_row.mk (⟨#[109, 108, 100, 115, 97]⟩ : ByteArray) 2 3 ([44, 65, 87] : List Int) ([128, 192, 256] : List Int)), (catalog_row.mk (⟨#[114, 115, 97, 107, 120]⟩ : ByteArray) 3 1 ([] : (List Int)) ([] : (List Int))), (catalog_row.mk (⟨#[100, 104, 101]⟩ : ByteArray) 3 1 ([] : (List Int)) ([] : (List Int))), (catalog_row.mk (⟨#[101, 99, 100, 104, 101]⟩ : ByteArray) 3 2 ([] : (List Int)) ([] : (List Int))), (catalog_row.mk (⟨#[109, 108, 107, 101, 109]⟩ : ByteArray) 3 3 ([512, 768, 1024] : List Int) ([128, 192, 256] : List Int)), (catalog_row.mk (⟨#[114, 99, 52]⟩ : ByteArray) 4 3 ([40, 128] : List Int) ([40, 60] : List Int)), (catalog_row.mk (⟨#[100, 101, 115, 51]⟩ : ByteArray) 4 3 ([112, 168] : List Int) ([80, 112] : List Int)), (catalog_row.mk (⟨#[97, 101, 115, 99, 98, 99]⟩ : ByteArray) 4 3 ([128, 256] : List Int) ([128, 256] : List Int)), (catalog_row.mk (⟨#[97, 101, 115, 103, 99, 109]⟩ : ByteArray) 4 3 ([128, 256] : List Int) ([128, 256] : List Int)), (catalog_row.mk (⟨#[99, 104, 97, 99, 104, 97]⟩ : ByteArray) 4 0 ([] : (List Int)) ([256] : List Int)), (catalog_row.mk (⟨#[104, 109, 97, 99, 109, 100, 53]⟩ : ByteArray) 5 0 ([] : (List Int)) ([64] : List Int)), (catalog_row.mk (⟨#[104, 109, 97, 99, 115, 104, 97, 49]⟩ : ByteArray) 5 0 ([] : (List Int)) ([80] : List Int)), (catalog_row.mk (⟨#[104, 109, 97, 99, 115, 104, 97, 50, 53, 54]⟩ : ByteArray) 5 0 ([] : (List Int)) ([128] : List Int)), (catalog_row.mk (⟨#[97, 101, 97, 100]⟩ : ByteArray) 5 0 ([] : (List Int)) ([256] : List Int))] : List catalog_row)
theorem c_catalog_rows_le (fu : Nat) : OLe (c_catalog_rows fu) (g_catalog_rows) := by
  unfold c_catalog_rows g_catalog_rows
  repeat' (with_reducible first | assumption | apply OLe.bind_ | apply OLe.cond_ | apply OLe.up_ | exact OLe.refl | intro _)
def c_catalog_of.j1 (fu : Nat) (alg : Int) (x9_1 : Bool) : Option (catalog_row × Bool) :=
  cond (x9_1)
    (some ((catalog_row.mk (⟨#[]⟩ : ByteArray) 0 0 ([] : (List Int)) ([] : (List Int))), false))
    ((c_catalog_rows fu).bind fun y =>
    (getI (arrL 23 y) alg).bind fun e =>
    some (e, true))
theorem c_catalog_of.j1_le (fu : Nat) {alg : Int} {x9_1 : Bool} : OLe (c_catalog_of.j1 fu alg x9_1) (g_catalog_of.j1 alg x9_1) := by
  unfold c_catalog_of.j1 g_catalog_of.j1
  repeat' (with_reducible first | assumption | apply OLe.bind_ | apply OLe.cond_ | apply OLe.up_ | apply c_catalog_rows_le | exact OLe.refl | intro _)
def c_catalog_of (fu : Nat) (alg : Int) : Option (catalog_row × Bool) :=
  cond (decide (alg < 1))
    (c_catalog_of.j1 fu alg true)
    (c_catalog_of.j1 fu alg (decide (22 < alg)))
theorem c_catalog_of_le (fu : Nat) {alg : Int} : OLe (c_catalog_of fu alg) (g_catalog_of alg) := by
  unfold c_catalog_of g_catalog_of
  repeat' (with_reducible first | assumption | apply OLe.bind_ | apply OLe.cond_ | apply OLe.up_ | apply c_catalog_of.j1_le | exact OLe.refl | intro _)
def c_catalog_modulus.l1 (fu : Nat) (bits : Int) (x11_1 : Int) : Option (Lp (Int) (Int)) :=
  cond (decide (x11_1 < 5))
    ((getI ([([1024, 56] : List Int), ([2048, 80] : List Int), ([3072, 112] : List Int), ([7680, 128] : List Int), ([15360, 192] : List Int)] : List (List Int)) x11_1).bind fun e =>
    cond (decide (bits < (e[0]!)))
      (up (some (e[1]!)))
      (some (.next (W (x11_1 + 1)))))
    (up (
      some 256))
theorem c_catalog_modulus.l1_le (fu : Nat) {bits : Int} {x11_1 : Int} : OLe (c_catalog_modulus.l1 fu bits x11_1) (g_catalog_modulus.l1 bits x11_1) := by
  unfold c_catalog_modulus.l1 g_catalog_modulus.l1
  repeat' (with_reducible first | assumption | apply OLe.bind_ | apply OLe.cond_ | apply OLe.up_ | exact OLe.refl | intro _)
def c_catalog_modulus (fu : Nat) (bits : Int) : Option (Int) :=
  loopC fu (fun q' => c_catalog_modulus.l1 fu bits q') 0
theorem c_catalog_modulus_le (fu : Nat) {bits : Int} : OLe (c_catalog_modulus fu bits) (g_catalog_modulus bits) := by
  unfold c_catalog_modulus g_catalog_modulus
  repeat' (with_reducible first | assumption | apply OLe.bind_ | apply OLe.cond_ | apply OLe.up_ | apply c_catalog_modulus.l1_le | (refine OLe.lpC _ (fun _ => ?_) _) | exact OLe.refl | intro _)
def c_slices_Index_int.l1 (fu : Nat) (s : (List Int)) (v : Int) (x8_1 : Int) : Option (Lp (Int) (Int)) :=
  cond (decide (x8_1 < (s.length : Int)))
    ((getI s x8_1).bind fun e =>
    cond (decide (v = e))
      (up (some x8_1))
      (some (.next (W (x8_1 + 1)))))
    (up (
      some (-1)))
theorem c_slices_Index_int.l1_le (fu : Nat) {s : (List Int)} {v : Int} {x8_1 : Int} : OLe (c_slices_Index_int.l1 fu s v x8_1) (g_slices_Index_int.l1 s v x8_1) := by
  unfold c_slices_Index_int.l1 g_slices_Index_int.l1
  repeat' (with_reducible first | assumption | apply OLe.bind_ | apply OLe.cond_ | apply OLe.up_ | exact OLe.refl | intro _)
def c_slices_Index_int (fu : Nat) (s : (List Int)) (v : Int) : Option (Int) :=
  loopC fu (fun q' => c_slices_Index_int.l1 fu s v q') 0
theorem c_slices_Index_int_le (fu : Nat) {s : (List Int)} {v : Int} : OLe (c_slices_Index_int fu s v) (g_slices_Index_int s v) := by
  unfold c_slices_Index_int g_slices_Index_int
  repeat' (with_reducible first | assumption | apply OLe.bind_ | apply OLe.cond_ | apply OLe.up_ | apply c_slices_Index_int.l1_le | (refine OLe.lpC _ (fun _ => ?_) _) | exact OLe.refl | intro _)
def c_slices_Contains_int (fu : Nat) (s : (List Int)) (v : Int) : Option (Bool) :=
  (c_slices_Index_int fu s v).bind fun y =>
  some (decide (0 ≤ y))
theorem c_slices_Contains_int_le (fu : Nat) {s : (List Int)} {v : Int} : OLe (c_slices_Contains_int fu s v) (g_slices_Contains_int s v) := by
  unfold c_slices_Contains_int g_slices_Contains_int
  repeat' (with_reducible first | assumption | apply OLe.bind_ | apply OLe.cond_ | apply OLe.up_ | apply c_slices_Index_int_le | exact OLe.refl | intro _)
def c_catalog_Strength.j1 (fu : Nat) (u : api_Use) (x34_1 : Bool) : Option (Int) :=
  cond (x34_1)
    ((c_catalog_modulus fu u.Bits).bind fun y_2 =>
    some y_2)
    (some 0)
theorem c_catalog_Strength.j1_le (fu : Nat) {u : api_Use} {x34_1 : Bool} : OLe (c_catalog_Strength.j1 fu u x34_1) (g_catalog_Strength.j1 u x34_1) := by
  unfold c_catalog_Strength.j1 g_catalog_Strength.j1
  repeat' (with_reducible first | assumption | apply OLe.bind_ | apply OLe.cond_ | apply OLe.up_ | apply c_catalog_modulus_le | exact OLe.refl | intro _)
def c_catalog_Strength (fu : Nat) (u : api_Use) : Option (Int) :=
  (c_catalog_of fu u.Alg).bind fun y =>
  cond (!y.2)
    (some 0)
    (cond (decide (y.1.way = 0))
      (cond (decide (u.Bits = 0))
        ((getI y.1.strengths 0).bind fun e =>
        some e)
        (some 0))
      (cond (decide (y.1.way = 1))
        (cond (decide (512 ≤ u.Bits))
          (c_catalog_Strength.j1 fu u (decide (u.Bits ≤ 16384)))
          (c_catalog_Strength.j1 fu u false))
        (cond (decide (y.1.way = 2))
          ((c_slices_Contains_int fu ([160, 224, 256, 384, 521] : List Int) u.Bits).bind fun y_3 =>
          cond (y_3)
            ((quoI u.Bits 2).bind fun q =>
            some q)
            (some 0))
          (cond (decide (y.1.way = 3))
            ((c_slices_Index_int fu y.1.sizes u.Bits).bind fun y_4 =>
            cond (decide (0 ≤ y_4))
              ((getI y.1.strengths y_4).bind fun e_2 =>
              some e_2)
              (some 0))
            (some 0)))))
theorem c_catalog_Strength_le (fu : Nat) {u : api_Use} : OLe (c_catalog_Strength fu u) (g_catalog_Strength u) := by
  unfold c_catalog_Strength g_catalog_Strength
  repeat' (with_reducible first | assumption | apply OLe.bind_ | apply OLe.cond_ | apply OLe.up_ | apply c_catalog_of_le | apply c_catalog_Strength.j1_le | apply c_slices_Contains_int_le | apply c_slices_Index_int_le | exact OLe.refl | intro _)
def c_catalog_Valid (fu : Nat) (u : api_Use) : Option (Bool) :=
  (c_catalog_Strength fu u).bind fun y =>
  some (decide (0 < y))
theorem c_catalog_Valid_le (fu : Nat) {u : api_Use} : OLe (c_catalog_Valid fu u) (g_catalog_Valid u) := by
  unfold c_catalog_Valid g_catalog_Valid
  repeat' (with_reducible first | assumption | apply OLe.bind_ | apply OLe.cond_ | apply OLe.up_ | apply c_catalog_Strength_le | exact OLe.refl | intro _)
def c_catalog_Kind (fu : Nat) (alg : Int) : Option (Int) :=
  (c_catalog_of fu alg).bind fun y =>
  some y.1.kind
theorem c_catalog_Kind_le (fu : Nat) {alg : Int} : OLe (c_catalog_Kind fu alg) (g_catalog_Kind alg) := by
  unfold c_catalog_Kind g_catalog_Kind
  repeat' (with_reducible first | assumption | apply OLe.bind_ | apply OLe.cond_ | apply OLe.up_ | apply c_catalog_of_le | exact OLe.refl | intro _)
def c_certificate_of (fu : Nat) (u : api_Use) (kind : Int) : Option (Bool) :=
  (c_catalog_Valid fu u).bind fun y =>
  cond (y)
    ((c_catalog_Kind fu u.Alg).bind fun y_2 =>
    some (decide (y_2 = kind)))
    (some false)
theorem c_certificate_of_le (fu : Nat) {u : api_Use} {kind : Int} : OLe (c_certificate_of fu u kind) (g_certificate_of u kind) := by
  unfold c_certificate_of g_certificate_of
  repeat' (with_reducible first | assumption | apply OLe.bind_ | apply OLe.cond_ | apply OLe.up_ | apply c_catalog_Valid_le | apply c_catalog_Kind_le | exact OLe.refl | intro _)
def c_certificate_Key (fu : Nat) (n : Int) : Option (Bool) :=
  cond (decide (0 ≤ n))
    (some (decide (n ≤ 2147483648)))
    (some false)
theorem c_certificate_Key_le (fu : Nat) {n : Int} : OLe (c_certificate_Key fu n) (g_certificate_Key n) := by
  unfold c_certificate_Key g_certificate_Key
  repeat' (with_reducible first | assumption | apply OLe.bind_ | apply OLe.cond_ | apply OLe.up_ | exact OLe.refl | intro _)
def c_certificate_sum (fu : Nat) (n : Int) : Option (Bool) :=
  cond (decide (0 ≤ n))
    (some (decide (n < 4294967296)))
    (some false)
theorem c_certificate_sum_le (fu : Nat) {n : Int} : OLe (c_certificate_sum fu n) (g_certificate_sum n) := by
  unfold c_certificate_sum g_certificate_sum
  repeat' (with_reducible first | assumption | apply OLe.bind_ | apply OLe.cond_ | apply OLe.up_ | exact OLe.refl | intro _)
def c_certificate_valid.j3 (fu : Nat) (c : api_Certificate) (x73_3 : Bool) : Option (Bool) :=
  cond (x73_3)
    (some false)
    (cond (decide (0 ≤ c.Path))
      (cond (decide (c.Path ≤ 8))
        (cond (c.Authority)
          (some true)
          (some (decide (c.Path = 0))))
        (some false))
      (some false))
theorem c_certificate_valid.j3_le (fu : Nat) {c : api_Certificate} {x73_3 : Bool} : OLe (c_certificate_valid.j3 fu c x73_3) (g_certificate_valid.j3 c x73_3) := by
  unfold c_certificate_valid.j3 g_certificate_valid.j3
  repeat' (with_reducible first | assumption | apply OLe.bind_ | apply OLe.cond_ | apply OLe.up_ | exact OLe.refl | intro _)
def c_certificate_valid.j2 (fu : Nat) (c : api_Certificate) (x58_2 : Bool) : Option (Bool) :=
  cond (x58_2)
    (some false)
    (cond (decide (c.From < 0))
      (c_certificate_valid.j3 fu c true)
      (cond (decide (c.To < c.From))
        (c_certificate_valid.j3 fu c true)
        (c_certificate_valid.j3 fu c (decide (40000 < c.To)))))
theorem c_certificate_valid.j2_le (fu : Nat) {c : api_Certificate} {x58_2 : Bool} : OLe (c_certificate_valid.j2 fu c x58_2) (g_certificate_valid.j2 c x58_2) := by
  unfold c_certificate_valid.j2 g_certificate_valid.j2
  repeat' (with_reducible first | assumption | apply OLe.bind_ | apply OLe.cond_ | apply OLe.up_ | apply c_certificate_valid.j3_le | exact OLe.refl | intro _)
def c_certificate_valid.j1 (fu : Nat) (c : api_Certificate) (x28_1 : Bool) : Option (Bool) :=
  cond (x28_1)
    (some false)
    ((c_certificate_of fu c.Key 2).bind fun y_4 =>
    cond (!y_4)
      (c_certificate_valid.j2 fu c true)
      ((c_certificate_Key fu c.KeyId).bind fun y_5 =>
      cond (!y_5)
        (c_certificate_valid.j2 fu c true)
        ((c_certificate_of fu c.Hash 1).bind fun y_6 =>
        cond (!y_6)
          (c_certificate_valid.j2 fu c true)
          ((c_certificate_Key fu c.Seal.Key).bind fun y_7 =>
          cond (!y_7)
            (c_certificate_valid.j2 fu c true)
            ((c_certificate_sum fu c.Seal.Sum).bind fun y_8 =>
            c_certificate_valid.j2 fu c (!y_8))))))
theorem c_certificate_valid.j1_le (fu : Nat) {c : api_Certificate} {x28_1 : Bool} : OLe (c_certificate_valid.j1 fu c x28_1) (g_certificate_valid.j1 c x28_1) := by
  unfold c_certificate_valid.j1 g_certificate_valid.j1
  repeat' (with_reducible first | assumption | apply OLe.bind_ | apply OLe.cond_ | apply OLe.up_ | apply c_certificate_of_le | apply c_certificate_valid.j2_le | apply c_certificate_Key_le | apply c_certificate_sum_le | exact OLe.refl | intro _)
def c_certificate_valid (fu : Nat) (c : api_Certificate) : Option (Bool) :=
  cond (decide (c.Serial < 0))
    (c_certificate_valid.j1 fu c true)
    (cond (decide (1099511627776 < c.Serial))
      (c_certificate_valid.j1 fu c true)
      ((c_catalog_Named fu c.Issuer).bind fun y =>
      cond (!y)
        (c_certificate_valid.j1 fu c true)
        ((c_catalog_Named fu c.Subject).bind fun y_2 =>
        cond (!y_2)
          (c_certificate_valid.j1 fu c true)
          ((c_certificate_named fu c.Names).bind fun y_3 =>
          c_certificate_valid.j1 fu c (!y_3)))))
theorem c_certificate_valid_le (fu : Nat) {c : api_Certificate} : OLe (c_certificate_valid fu c) (g_certificate_valid c) := by
  unfold c_certificate_valid g_certificate_valid
  repeat' (with_reducible first | assumption | apply OLe.bind_ | apply OLe.cond_ | apply OLe.up_ | apply c_certificate_valid.j1_le | apply c_catalog_Named_le | apply c_certificate_named_le | exact OLe.refl | intro _)
def c_certificate_Check (fu : Nat) (c : api_Certificate) : Option (Int) :=
  (c_certificate_valid fu c).bind fun y =>
  cond (!y)
    (some 9)
    (some 0)
theorem c_certificate_Check_le (fu : Nat) {c : api_Certificate} : OLe (c_certificate_Check fu c) (g_certificate_Check c) := by
  unfold c_certificate_Check g_certificate_Check
  repeat' (with_reducible first | assumption | apply OLe.bind_ | apply OLe.cond_ | apply OLe.up_ | apply c_certificate_valid_le | exact OLe.refl | intro _)
def c_chain_Check_c1 (fu : Nat) (c : api_Certificate) : Option (Bool) :=
  (c_certificate_Check fu c).bind fun y =>
  some (!decide (y = 0))
theorem c_chain_Check_c1_le (fu : Nat) {c : api_Certificate} : OLe (c_chain_Check_c1 fu c) (g_chain_Check_c1 c) := by
  unfold c_chain_Check_c1 g_chain_Check_c1
  repeat' (with_reducible first | assumption | apply OLe.bind_ | apply OLe.cond_ | apply OLe.up_ | apply c_certificate_Check_le | exact OLe.refl | intro _)
def c_slices_IndexFunc_api_Certificate.l1 (fu : Nat) (s : (List api_Certificate)) (f : api_Certificate → Option (Bool)) (x8_1 : Int) : Option (Lp (Int) (Int)) :=
  cond (decide (x8_1 < (s.length : Int)))
    ((getI s x8_1).bind fun e =>
    (f e).bind fun y =>
    cond (y)
      (up (some x8_1))
      (some (.next (W (x8_1 + 1)))))
    (up (
      some (-1)))
theorem m_slices_IndexFunc_api_Certificate.l1 {s : (List api_Certificate)} {f : api_Certificate → Option (Bool)} {x8_1 : Int} {f_p : api_Certificate → Option (Bool)} (h_f : ∀ (x0 : api_Certificate), OLe (f x0) (f_p x0)) : OLe (g_slices_IndexFunc_api_Certificate.l1 s f x8_1) (g_slices_IndexFunc_api_Certificate.l1 s f_p x8_1) := by
  unfold g_slices_IndexFunc_api_Certificate.l1
  repeat' (with_reducible first | assumption | apply OLe.bind_ | apply OLe.cond_ | apply OLe.up_ | apply h_f | exact OLe.refl | intro _)
theorem c_slices_IndexFunc_api_Certificate.l1_le (fu : Nat) {s : (List api_Certificate)} {f : api_Certificate → Option (Bool)} {x8_1 : Int} {f_p : api_Certificate → Option (Bool)} (h_f : ∀ (x0 : api_Certificate), OLe (f x0) (f_p x0)) : OLe (c_slices_IndexFunc_api_Certificate.l1 fu s f x8_1) (g_slices_IndexFunc_api_Certificate.l1 s f_p x8_1) := by
  unfold c_slices_IndexFunc_api_Certificate.l1 g_slices_IndexFunc_api_Certificate.l1
  repeat' (with_reducible first | assumption | apply OLe.bind_ | apply OLe.cond_ | apply OLe.up_ | apply h_f | exact OLe.refl | intro _)
def c_slices_IndexFunc_api_Certificate (fu : Nat) (s : (List api_Certificate)) (f : api_Certificate → Option (Bool)) : Option (Int) :=
  loopC fu (fun q' => c_slices_IndexFunc_api_Certificate.l1 fu s f q') 0
theorem m_slices_IndexFunc_api_Certificate {s : (List api_Certificate)} {f : api_Certificate → Option (Bool)} {f_p : api_Certificate → Option (Bool)} (h_f : ∀ (x0 : api_Certificate), OLe (f x0) (f_p x0)) : OLe (g_slices_IndexFunc_api_Certificate s f) (g_slices_IndexFunc_api_Certificate s f_p) := by
  unfold g_slices_IndexFunc_api_Certificate
  repeat' (with_reducible first | assumption | apply OLe.bind_ | apply OLe.cond_ | apply OLe.up_ | apply h_f | apply m_slices_IndexFunc_api_Certificate.l1 | (refine OLe.lp (fun _ => ?_) _) | exact OLe.refl | intro _)
theorem c_slices_IndexFunc_api_Certificate_le (fu : Nat) {s : (List api_Certificate)} {f : api_Certificate → Option (Bool)} {f_p : api_Certificate → Option (Bool)} (h_f : ∀ (x0 : api_Certificate), OLe (f x0) (f_p x0)) : OLe (c_slices_IndexFunc_api_Certificate fu s f) (g_slices_IndexFunc_api_Certificate s f_p) := by
  unfold c_slices_IndexFunc_api_Certificate g_slices_IndexFunc_api_Certificate
  repeat' (with_reducible first | assumption | apply OLe.bind_ | apply OLe.cond_ | apply OLe.up_ | apply h_f | apply c_slices_IndexFunc_api_Certificate.l1_le | (refine OLe.lpC _ (fun _ => ?_) _) | exact OLe.refl | intro _)
def c_slices_ContainsFunc_api_Certificate (fu : Nat) (s : (List api_Certificate)) (f : api_Certificate → Option (Bool)) : Option (Bool) :=
  (c_slices_IndexFunc_api_Certificate fu s f).bind fun y =>
  some (decide (0 ≤ y))
theorem m_slices_ContainsFunc_api_Certificate {s : (List api_Certificate)} {f : api_Certificate → Option (Bool)} {f_p : api_Certificate → Option (Bool)} (h_f : ∀ (x0 : api_Certificate), OLe (f x0) (f_p x0)) : OLe (g_slices_ContainsFunc_api_Certificate s f) (g_slices_ContainsFunc_api_Certificate s f_p) := by
  unfold g_slices_ContainsFunc_api_Certificate
  repeat' (with_reducible first | assumption | apply OLe.bind_ | apply OLe.cond_ | apply OLe.up_ | apply h_f | apply m_slices_IndexFunc_api_Certificate | exact OLe.refl | intro _)
theorem c_slices_ContainsFunc_api_Certificate_le (fu : Nat) {s : (List api_Certificate)} {f : api_Certificate → Option (Bool)} {f_p : api_Certificate → Option (Bool)} (h_f : ∀ (x0 : api_Certificate), OLe (f x0) (f_p x0)) : OLe (c_slices_ContainsFunc_api_Certificate fu s f) (g_slices_ContainsFunc_api_Certificate s f_p) := by
  unfold c_slices_ContainsFunc_api_Certificate g_slices_ContainsFunc_api_Certificate
  repeat' (with_reducible first | assumption | apply OLe.bind_ | apply OLe.cond_ | apply OLe.up_ | apply h_f | apply c_slices_IndexFunc_api_Certificate_le | exact OLe.refl | intro _)
def c_slices_Index_string.l1 (fu : Nat) (s : (List ByteArray)) (v : ByteArray) (x8_1 : Int) : Option (Lp (Int) (Int)) :=
  cond (decide (x8_1 < (s.length : Int)))
    ((getI s x8_1).bind fun e =>
    cond (decide (v = e))
      (up (some x8_1))
      (some (.next (W (x8_1 + 1)))))
    (up (
      some (-1)))
theorem c_slices_Index_string.l1_le (fu : Nat) {s : (List ByteArray)} {v : ByteArray} {x8_1 : Int} : OLe (c_slices_Index_string.l1 fu s v x8_1) (g_slices_Index_string.l1 s v x8_1) := by
  unfold c_slices_Index_string.l1 g_slices_Index_string.l1
  repeat' (with_reducible first | assumption | apply OLe.bind_ | apply OLe.cond_ | apply OLe.up_ | exact OLe.refl | intro _)
def c_slices_Index_string (fu : Nat) (s : (List ByteArray)) (v : ByteArray) : Option (Int) :=
  loopC fu (fun q' => c_slices_Index_string.l1 fu s v q') 0
theorem c_slices_Index_string_le (fu : Nat) {s : (List ByteArray)} {v : ByteArray} : OLe (c_slices_Index_string fu s v) (g_slices_Index_string s v) := by
  unfold c_slices_Index_string g_slices_Index_string
  repeat' (with_reducible first | assumption | apply OLe.bind_ | apply OLe.cond_ | apply OLe.up_ | apply c_slices_Index_string.l1_le | (refine OLe.lpC _ (fun _ => ?_) _) | exact OLe.refl | intro _)
def c_slices_Contains_string (fu : Nat) (s : (List ByteArray)) (v : ByteArray) : Option (Bool) :=
  (c_slices_Index_string fu s v).bind fun y =>
  some (decide (0 ≤ y))
theorem c_slices_Contains_string_le (fu : Nat) {s : (List ByteArray)} {v : ByteArray} : OLe (c_slices_Contains_string fu s v) (g_slices_Contains_string s v) := by
  unfold c_slices_Contains_string g_slices_Contains_string
  repeat' (with_reducible first | assumption | apply OLe.bind_ | apply OLe.cond_ | apply OLe.up_ | apply c_slices_Index_string_le | exact OLe.refl | intro _)
def c_chain_held (fu : Nat) (c : api_Certificate) (hashes : (List Int)) (day : Int) (e : Int) : Option (Bool) :=
  cond (decide (e = 13))
    (cond (decide (day < c.From))
      (some true)
      (some (decide (c.To ≤ day))))
    ((c_slices_Contains_int fu hashes c.Hash.Alg).bind fun y =>
    some (!y))
theorem c_chain_held_le (fu : Nat) {c : api_Certificate} {hashes : (List Int)} {day : Int} {e : Int} : OLe (c_chain_held fu c hashes day e) (g_chain_held c hashes day e) := by
  unfold c_chain_held g_chain_held
  repeat' (with_reducible first | assumption | apply OLe.bind_ | apply OLe.cond_ | apply OLe.up_ | apply c_slices_Contains_int_le | exact OLe.refl | intro _)
def c_chain_Check_c2 (fu : Nat) (c : api_Certificate) (c0 : (List Int)) (c1 : Int) (c2 : Int) : Option (Bool) :=
  (c_chain_held fu c c0 c1 c2).bind fun y =>
  some y
theorem c_chain_Check_c2_le (fu : Nat) {c : api_Certificate} {c0 : (List Int)} {c1 : Int} {c2 : Int} : OLe (c_chain_Check_c2 fu c c0 c1 c2) (g_chain_Check_c2 c c0 c1 c2) := by
  unfold c_chain_Check_c2 g_chain_Check_c2
  repeat' (with_reducible first | assumption | apply OLe.bind_ | apply OLe.cond_ | apply OLe.up_ | apply c_chain_held_le | exact OLe.refl | intro _)
def c_chain_Path.j1 (fu : Nat) (l : (List api_Certificate)) (at' : Int) (x12_1 : Bool) : Option (Bool) :=
  cond (x12_1)
    (some false)
    (cond (decide (at' = 0))
      (some true)
      ((getI l at').bind fun e =>
      cond (e.Authority)
        (some (decide ((W (at' - 1)) ≤ e.Path)))
        (some false)))
theorem c_chain_Path.j1_le (fu : Nat) {l : (List api_Certificate)} {at' : Int} {x12_1 : Bool} : OLe (c_chain_Path.j1 fu l at' x12_1) (g_chain_Path.j1 l at' x12_1) := by
  unfold c_chain_Path.j1 g_chain_Path.j1
  repeat' (with_reducible first | assumption | apply OLe.bind_ | apply OLe.cond_ | apply OLe.up_ | exact OLe.refl | intro _)
def c_chain_Path (fu : Nat) (l : (List api_Certificate)) (at' : Int) : Option (Bool) :=
  cond (decide (at' < 0))
    (c_chain_Path.j1 fu l at' true)
    (c_chain_Path.j1 fu l at' (decide ((l.length : Int) ≤ at')))
theorem c_chain_Path_le (fu : Nat) {l : (List api_Certificate)} {at' : Int} : OLe (c_chain_Path fu l at') (g_chain_Path l at') := by
  unfold c_chain_Path g_chain_Path
  repeat' (with_reducible first | assumption | apply OLe.bind_ | apply OLe.cond_ | apply OLe.up_ | apply c_chain_Path.j1_le | exact OLe.refl | intro _)
def c_chain_sealer (fu : Nat) (l : (List api_Certificate)) (at' : Int) : Option (Int) :=
  cond (decide ((W (at' + 1)) < (l.length : Int)))
    ((getI l (W (at' + 1))).bind fun e =>
    some e.KeyId)
    ((getI l at').bind fun e_2 =>
    some e_2.Seal.Key)
theorem c_chain_sealer_le (fu : Nat) {l : (List api_Certificate)} {at' : Int} : OLe (c_chain_sealer fu l at') (g_chain_sealer l at') := by
  unfold c_chain_sealer g_chain_sealer
  repeat' (with_reducible first | assumption | apply OLe.bind_ | apply OLe.cond_ | apply OLe.up_ | exact OLe.refl | intro _)
def c_der_Text (fu : Nat) (s : ByteArray) : Option (api_Value) :=
  some (api_Value.mk 12 (toB s) false ([] : (List api_Value)))
theorem c_der_Text_le (fu : Nat) {s : ByteArray} : OLe (c_der_Text fu s) (g_der_Text s) := by
  unfold c_der_Text g_der_Text
  repeat' (with_reducible first | assumption | apply OLe.bind_ | apply OLe.cond_ | apply OLe.up_ | exact OLe.refl | intro _)
def c_der_Int.j3 (fu : Nat) (b_2 : List UInt8) (x43_3 : Bool) : Option (Lp (List UInt8) (api_Value)) :=
  cond (x43_3)
    ((slI b_2 1 (b_2.length : Int)).bind fun l_2 =>
    some (.next l_2))
    (up (
      some (api_Value.mk 2 b_2 false ([] : (List api_Value)))))
theorem c_der_Int.j3_le (fu : Nat) {b_2 : List UInt8} {x43_3 : Bool} : OLe (c_der_Int.j3 fu b_2 x43_3) (g_der_Int.j3 b_2 x43_3) := by
  unfold c_der_Int.j3 g_der_Int.j3
  repeat' (with_reducible first | assumption | apply OLe.bind_ | apply OLe.cond_ | apply OLe.up_ | exact OLe.refl | intro _)
def c_der_Int.l2 (fu : Nat) (b_2 : List UInt8) : Option (Lp (List UInt8) (api_Value)) :=
  cond (decide (1 < (b_2.length : Int)))
    ((getI b_2 0).bind fun e =>
    cond (decide ((e.toNat : Int) = 0))
      ((getI b_2 1).bind fun e_2 =>
      cond (decide ((e_2.toNat : Int) < 128))
        (c_der_Int.j3 fu b_2 true)
        (cond (decide ((e.toNat : Int) = 255))
          (c_der_Int.j3 fu b_2 (decide (128 ≤ (e_2.toNat : Int))))
          (c_der_Int.j3 fu b_2 false)))
      (cond (decide ((e.toNat : Int) = 255))
        ((getI b_2 1).bind fun e_3 =>
        c_der_Int.j3 fu b_2 (decide (128 ≤ (e_3.toNat : Int))))
        (c_der_Int.j3 fu b_2 false)))
    (c_der_Int.j3 fu b_2 false)
theorem c_der_Int.l2_le (fu : Nat) {b_2 : List UInt8} : OLe (c_der_Int.l2 fu b_2) (g_der_Int.l2 b_2) := by
  unfold c_der_Int.l2 g_der_Int.l2
  repeat' (with_reducible first | assumption | apply OLe.bind_ | apply OLe.cond_ | apply OLe.up_ | apply c_der_Int.j3_le | exact OLe.refl | intro _)
def c_der_Int.l1 (fu : Nat) (n : Int) (i_1 : Int) (b_1 : List UInt8) : Option (Lp (Int × List UInt8) (api_Value)) :=
  cond (decide (0 ≤ i_1))
    ((shrK .u64 (IntKind.wrap .u64 n) i_1).bind fun q =>
    (appI 1 b_1 ([(u8 q)] : List UInt8)).bind fun l =>
    some (.next (W (i_1 - 8), l)))
    (up (
      loopC fu (fun q' => c_der_Int.l2 fu q') b_1))
theorem c_der_Int.l1_le (fu : Nat) {n : Int} {i_1 : Int} {b_1 : List UInt8} : OLe (c_der_Int.l1 fu n i_1 b_1) (g_der_Int.l1 n i_1 b_1) := by
  unfold c_der_Int.l1 g_der_Int.l1
  repeat' (with_reducible first | assumption | apply OLe.bind_ | apply OLe.cond_ | apply OLe.up_ | apply c_der_Int.l2_le | (refine OLe.lpC _ (fun _ => ?_) _) | exact OLe.refl | intro _)
def c_der_Int (fu : Nat) (n : Int) : Option (api_Value) :=
  loopC fu (fun q' => c_der_Int.l1 fu n q'.1 q'.2) (56, ([] : List UInt8))
theorem c_der_Int_le (fu : Nat) {n : Int} : OLe (c_der_Int fu n) (g_der_Int n) := by
  unfold c_der_Int g_der_Int
  repeat' (with_reducible first | assumption | apply OLe.bind_ | apply OLe.cond_ | apply OLe.up_ | apply c_der_Int.l1_le | (refine OLe.lpC _ (fun _ => ?_) _) | exact OLe.refl | intro _)
def c_bytes_Clone.j1 (fu : Nat) (b : (List UInt8)) (x4_1 : Bool) : Option ((List UInt8)) :=
  cond (x4_1)
    (some ([] : (List UInt8)))
    ((appI 1 ([] : List UInt8) b).bind fun l =>
    some l)
theorem c_bytes_Clone.j1_le (fu : Nat) {b : (List UInt8)} {x4_1 : Bool} : OLe (c_bytes_Clone.j1 fu b x4_1) (g_bytes_Clone.j1 b x4_1) := by
  unfold c_bytes_Clone.j1 g_bytes_Clone.j1
  repeat' (with_reducible first | assumption | apply OLe.bind_ | apply OLe.cond_ | apply OLe.up_ | exact OLe.refl | intro _)
def c_bytes_Clone (fu : Nat) (b : (List UInt8)) : Option ((List UInt8)) :=
  nilD (b)
    (c_bytes_Clone.j1 fu b true)
    (c_bytes_Clone.j1 fu b false)
theorem c_bytes_Clone_le (fu : Nat) {b : (List UInt8)} : OLe (c_bytes_Clone fu b) (g_bytes_Clone b) := by
  unfold c_bytes_Clone g_bytes_Clone
  repeat' (with_reducible first | assumption | apply OLe.bind_ | apply OLe.cond_ | apply OLe.up_ | apply c_bytes_Clone.j1_le | (refine OLe.nil ?_ ?_) | exact OLe.refl | intro _)
def c_der_copied.l1 (fu : Nat) (rec : (List api_Value) → Option ((List api_Value))) (l : (List api_Value)) (x8_1 : Int) (out_1 : List api_Value) : Option (Lp (Int × List api_Value) ((List api_Value))) :=
  cond (decide (x8_1 < (l.length : Int)))
    ((getI l x8_1).bind fun e =>
    (c_bytes_Clone fu e.Bytes).bind fun y =>
    (rec e.Elements).bind fun y_2 =>
    (appI 256 out_1 ([(api_Value.mk e.Tag y e.Nested y_2)] : List api_Value)).bind fun l_2 =>
    some (.next (W (x8_1 + 1), l_2)))
    (up (
      some out_1))
theorem m_der_copied.l1 {rec : (List api_Value) → Option ((List api_Value))} {l : (List api_Value)} {x8_1 : Int} {out_1 : List api_Value} {rec_p : (List api_Value) → Option ((List api_Value))} (h_rec : ∀ (x0 : (List api_Value)), OLe (rec x0) (rec_p x0)) : OLe (g_der_copied.l1 rec l x8_1 out_1) (g_der_copied.l1 rec_p l x8_1 out_1) := by
  unfold g_der_copied.l1
  repeat' (with_reducible first | assumption | apply OLe.bind_ | apply OLe.cond_ | apply OLe.up_ | apply h_rec | exact OLe.refl | intro _)
theorem c_der_copied.l1_le (fu : Nat) {rec : (List api_Value) → Option ((List api_Value))} {l : (List api_Value)} {x8_1 : Int} {out_1 : List api_Value} {rec_p : (List api_Value) → Option ((List api_Value))} (h_rec : ∀ (x0 : (List api_Value)), OLe (rec x0) (rec_p x0)) : OLe (c_der_copied.l1 fu rec l x8_1 out_1) (g_der_copied.l1 rec_p l x8_1 out_1) := by
  unfold c_der_copied.l1 g_der_copied.l1
  repeat' (with_reducible first | assumption | apply OLe.bind_ | apply OLe.cond_ | apply OLe.up_ | apply h_rec | apply c_bytes_Clone_le | exact OLe.refl | intro _)
def c_der_copied.F (fu : Nat) (rec : (List api_Value) → Option ((List api_Value))) (l : (List api_Value)) : Option ((List api_Value)) :=
  loopC fu (fun q' => c_der_copied.l1 fu rec l q'.1 q'.2) (0, ([] : List api_Value))
theorem m_der_copied.F {rec : (List api_Value) → Option ((List api_Value))} {l : (List api_Value)} {rec_p : (List api_Value) → Option ((List api_Value))} (h_rec : ∀ (x0 : (List api_Value)), OLe (rec x0) (rec_p x0)) : OLe (g_der_copied.F rec l) (g_der_copied.F rec_p l) := by
  unfold g_der_copied.F
  repeat' (with_reducible first | assumption | apply OLe.bind_ | apply OLe.cond_ | apply OLe.up_ | apply h_rec | apply m_der_copied.l1 | (refine OLe.lp (fun _ => ?_) _) | exact OLe.refl | intro _)
theorem c_der_copied.F_le (fu : Nat) {rec : (List api_Value) → Option ((List api_Value))} {l : (List api_Value)} {rec_p : (List api_Value) → Option ((List api_Value))} (h_rec : ∀ (x0 : (List api_Value)), OLe (rec x0) (rec_p x0)) : OLe (c_der_copied.F fu rec l) (g_der_copied.F rec_p l) := by
  unfold c_der_copied.F g_der_copied.F
  repeat' (with_reducible first | assumption | apply OLe.bind_ | apply OLe.cond_ | apply OLe.up_ | apply h_rec | apply c_der_copied.l1_le | (refine OLe.lpC _ (fun _ => ?_) _) | exact OLe.refl | intro _)
def c_der_copied (fu : Nat) (l : (List api_Value)) : Option ((List api_Value)) := fixC fu (fun rec (x : (List api_Value)) => c_der_copied.F fu (fun l => rec l) x) l
theorem mono_der_copied : MonoF (fun rec (x : (List api_Value)) => g_der_copied.F (fun l => rec l) x) := fun p q h a => by
  apply m_der_copied.F
  intros
  apply h
theorem c_der_copied_le (fu : Nat) {l : (List api_Value)} : OLe (c_der_copied fu l) (g_der_copied l) := by
  unfold c_der_copied g_der_copied
  refine OLe.fx _ ?_ mono_der_copied _
  intro p q h a
  apply c_der_copied.F_le
  intros
  apply h
def c_der_Of (fu : Nat) (l : (List api_Value)) : Option (api_Value) :=
  (c_der_copied fu l).bind fun y =>
  some (api_Value.mk 48 ([] : (List UInt8)) true y)
theorem c_der_Of_le (fu : Nat) {l : (List api_Value)} : OLe (c_der_Of fu l) (g_der_Of l) := by
  unfold c_der_Of g_der_Of
  repeat' (with_reducible first | assumption | apply OLe.bind_ | apply OLe.cond_ | apply OLe.up_ | apply c_der_copied_le | exact OLe.refl | intro _)
def c_certificate_Use (fu : Nat) (u : api_Use) : Option (api_Value) :=
  (c_der_Int fu u.Alg).bind fun y =>
  (c_der_Int fu u.Bits).bind fun y_2 =>
  (c_der_Of fu ([y, y_2] : List api_Value)).bind fun y_3 =>
  some y_3
theorem c_certificate_Use_le (fu : Nat) {u : api_Use} : OLe (c_certificate_Use fu u) (g_certificate_Use u) := by
  unfold c_certificate_Use g_certificate_Use
  repeat' (with_reducible first | assumption | apply OLe.bind_ | apply OLe.cond_ | apply OLe.up_ | apply c_der_Int_le | apply c_der_Of_le | exact OLe.refl | intro _)
def c_der_Bool (fu : Nat) (b : Bool) : Option (api_Value) :=
  cond (b)
    (some (api_Value.mk 1 ([(255 : UInt8)] : List UInt8) false ([] : (List api_Value))))
    (some (api_Value.mk 1 ([(0 : UInt8)] : List UInt8) false ([] : (List api_Value))))
theorem c_der_Bool_le (fu : Nat) {b : Bool} : OLe (c_der_Bool fu b) (g_der_Bool b) := by
  unfold c_der_Bool g_der_Bool
  repeat' (with_reducible first | assumption | apply OLe.bind_ | apply OLe.cond_ | apply OLe.up_ | exact OLe.refl | intro _)
def c_der_List (fu : Nat) (l : (List api_Value)) : Option (api_Value) :=
  (c_der_Of fu l).bind fun y =>
  some y
theorem c_der_List_le (fu : Nat) {l : (List api_Value)} : OLe (c_der_List fu l) (g_der_List l) := by
  unfold c_der_List g_der_List
  repeat' (with_reducible first | assumption | apply OLe.bind_ | apply OLe.cond_ | apply OLe.up_ | apply c_der_Of_le | exact OLe.refl | intro _)
def c_certificate_body.l1 (fu : Nat) (c : api_Certificate) (x9_1 : Int) (names_1 : List api_Value) : Option (Lp (Int × List api_Value) (api_Value)) :=
  cond (decide (x9_1 < (c.Names.length : Int)))
    ((getI c.Names x9_1).bind fun e =>
    (c_der_Text fu e).bind fun y =>
    (appI 256 names_1 ([y] : List api_Value)).bind fun l =>
    some (.next (W (x9_1 + 1), l)))
    (up (
      (c_der_Int fu c.Serial).bind fun y_12 =>
      (c_der_Text fu c.Issuer).bind fun y_13 =>
      (c_der_Text fu c.Subject).bind fun y_14 =>
      (c_certificate_Use fu c.Key).bind fun y_15 =>
      (c_der_Int fu c.KeyId).bind fun y_16 =>
      (c_certificate_Use fu c.Hash).bind fun y_17 =>
      (c_der_Int fu c.From).bind fun y_18 =>
      (c_der_Int fu c.To).bind fun y_19 =>
      (c_der_Bool fu c.Authority).bind fun y_20 =>
      (c_der_Int fu c.Path).bind fun y_21 =>
      (c_der_List fu names_1).bind fun y_22 =>
      (c_der_Of fu ([y_12, y_13, y_14, y_15, y_16, y_17, y_18, y_19, y_20, y_21, y_22] : List api_Value)).bind fun y_23 =>
      some y_23))
theorem c_certificate_body.l1_le (fu : Nat) {c : api_Certificate} {x9_1 : Int} {names_1 : List api_Value} : OLe (c_certificate_body.l1 fu c x9_1 names_1) (g_certificate_body.l1 c x9_1 names_1) := by
  unfold c_certificate_body.l1 g_certificate_body.l1
  repeat' (with_reducible first | assumption | apply OLe.bind_ | apply OLe.cond_ | apply OLe.up_ | apply c_der_Text_le | apply c_der_Int_le | apply c_certificate_Use_le | apply c_der_Bool_le | apply c_der_List_le | apply c_der_Of_le | exact OLe.refl | intro _)
def c_certificate_body (fu : Nat) (c : api_Certificate) : Option (api_Value) :=
  loopC fu (fun q' => c_certificate_body.l1 fu c q'.1 q'.2) (0, ([] : List api_Value))
theorem c_certificate_body_le (fu : Nat) {c : api_Certificate} : OLe (c_certificate_body fu c) (g_certificate_body c) := by
  unfold c_certificate_body g_certificate_body
  repeat' (with_reducible first | assumption | apply OLe.bind_ | apply OLe.cond_ | apply OLe.up_ | apply c_certificate_body.l1_le | (refine OLe.lpC _ (fun _ => ?_) _) | exact OLe.refl | intro _)
def c_der_tag (fu : Nat) (n : Int) : Option (Bool) :=
  cond (decide (1 ≤ n))
    (cond (decide (n ≤ 255))
      (some (!decide ((andK .i64 n 31) = 31)))
      (some false))
    (some false)
theorem c_der_tag_le (fu : Nat) {n : Int} : OLe (c_der_tag fu n) (g_der_tag n) := by
  unfold c_der_tag g_der_tag
  repeat' (with_reducible first | assumption | apply OLe.bind_ | apply OLe.cond_ | apply OLe.up_ | exact OLe.refl | intro _)
def c_der_formed_c1 (fu : Nat) (rec : api_Value → Option (Bool)) (x' : api_Value) : Option (Bool) :=
  (rec x').bind fun y =>
  some (!y)
theorem m_der_formed_c1 {rec : api_Value → Option (Bool)} {x' : api_Value} {rec_p : api_Value → Option (Bool)} (h_rec : ∀ (x0 : api_Value), OLe (rec x0) (rec_p x0)) : OLe (g_der_formed_c1 rec x') (g_der_formed_c1 rec_p x') := by
  unfold g_der_formed_c1
  repeat' (with_reducible first | assumption | apply OLe.bind_ | apply OLe.cond_ | apply OLe.up_ | apply h_rec | exact OLe.refl | intro _)
theorem c_der_formed_c1_le (fu : Nat) {rec : api_Value → Option (Bool)} {x' : api_Value} {rec_p : api_Value → Option (Bool)} (h_rec : ∀ (x0 : api_Value), OLe (rec x0) (rec_p x0)) : OLe (c_der_formed_c1 fu rec x') (g_der_formed_c1 rec_p x') := by
  unfold c_der_formed_c1 g_der_formed_c1
  repeat' (with_reducible first | assumption | apply OLe.bind_ | apply OLe.cond_ | apply OLe.up_ | apply h_rec | exact OLe.refl | intro _)
def c_slices_IndexFunc_api_Value.l1 (fu : Nat) (s : (List api_Value)) (f : api_Value → Option (Bool)) (x8_1 : Int) : Option (Lp (Int) (Int)) :=
  cond (decide (x8_1 < (s.length : Int)))
    ((getI s x8_1).bind fun e =>
    (f e).bind fun y =>
    cond (y)
      (up (some x8_1))
      (some (.next (W (x8_1 + 1)))))
    (up (
      some (-1)))
theorem m_slices_IndexFunc_api_Value.l1 {s : (List api_Value)} {f : api_Value → Option (Bool)} {x8_1 : Int} {f_p : api_Value → Option (Bool)} (h_f : ∀ (x0 : api_Value), OLe (f x0) (f_p x0)) : OLe (g_slices_IndexFunc_api_Value.l1 s f x8_1) (g_slices_IndexFunc_api_Value.l1 s f_p x8_1) := by
  unfold g_slices_IndexFunc_api_Value.l1
  repeat' (with_reducible first | assumption | apply OLe.bind_ | apply OLe.cond_ | apply OLe.up_ | apply h_f | exact OLe.refl | intro _)
theorem c_slices_IndexFunc_api_Value.l1_le (fu : Nat) {s : (List api_Value)} {f : api_Value → Option (Bool)} {x8_1 : Int} {f_p : api_Value → Option (Bool)} (h_f : ∀ (x0 : api_Value), OLe (f x0) (f_p x0)) : OLe (c_slices_IndexFunc_api_Value.l1 fu s f x8_1) (g_slices_IndexFunc_api_Value.l1 s f_p x8_1) := by
  unfold c_slices_IndexFunc_api_Value.l1 g_slices_IndexFunc_api_Value.l1
  repeat' (with_reducible first | assumption | apply OLe.bind_ | apply OLe.cond_ | apply OLe.up_ | apply h_f | exact OLe.refl | intro _)
def c_slices_IndexFunc_api_Value (fu : Nat) (rec : api_Value → Option (Bool)) (s : (List api_Value)) (f : api_Value → Option (Bool)) : Option (Int) :=
  loopC fu (fun q' => c_slices_IndexFunc_api_Value.l1 fu s f q') 0
theorem m_slices_IndexFunc_api_Value {rec : api_Value → Option (Bool)} {s : (List api_Value)} {f : api_Value → Option (Bool)} {rec_p : api_Value → Option (Bool)} {f_p : api_Value → Option (Bool)} (h_rec : ∀ (x0 : api_Value), OLe (rec x0) (rec_p x0)) (h_f : ∀ (x0 : api_Value), OLe (f x0) (f_p x0)) : OLe (g_slices_IndexFunc_api_Value rec s f) (g_slices_IndexFunc_api_Value rec_p s f_p) := by
  unfold g_slices_IndexFunc_api_Value
  repeat' (with_reducible first | assumption | apply OLe.bind_ | apply OLe.cond_ | apply OLe.up_ | apply h_rec | apply h_f | apply m_slices_IndexFunc_api_Value.l1 | (refine OLe.lp (fun _ => ?_) _) | exact OLe.refl | intro _)
theorem c_slices_IndexFunc_api_Value_le (fu : Nat) {rec : api_Value → Option (Bool)} {s : (List api_Value)} {f : api_Value → Option (Bool)} {rec_p : api_Value → Option (Bool)} {f_p : api_Value → Option (Bool)} (h_rec : ∀ (x0 : api_Value), OLe (rec x0) (rec_p x0)) (h_f : ∀ (x0 : api_Value), OLe (f x0) (f_p x0)) : OLe (c_slices_IndexFunc_api_Value fu rec s f) (g_slices_IndexFunc_api_Value rec_p s f_p) := by
  unfold c_slices_IndexFunc_api_Value g_slices_IndexFunc_api_Value
  repeat' (with_reducible first | assumption | apply OLe.bind_ | apply OLe.cond_ | apply OLe.up_ | apply h_rec | apply h_f | apply c_slices_IndexFunc_api_Value.l1_le | (refine OLe.lpC _ (fun _ => ?_) _) | exact OLe.refl | intro _)
def c_slices_ContainsFunc_api_Value (fu : Nat) (rec : api_Value → Option (Bool)) (s : (List api_Value)) (f : api_Value → Option (Bool)) : Option (Bool) :=
  (c_slices_IndexFunc_api_Value fu rec s f).bind fun y =>
  some (decide (0 ≤ y))
theorem m_slices_ContainsFunc_api_Value {rec : api_Value → Option (Bool)} {s : (List api_Value)} {f : api_Value → Option (Bool)} {rec_p : api_Value → Option (Bool)} {f_p : api_Value → Option (Bool)} (h_rec : ∀ (x0 : api_Value), OLe (rec x0) (rec_p x0)) (h_f : ∀ (x0 : api_Value), OLe (f x0) (f_p x0)) : OLe (g_slices_ContainsFunc_api_Value rec s f) (g_slices_ContainsFunc_api_Value rec_p s f_p) := by
  unfold g_slices_ContainsFunc_api_Value
  repeat' (with_reducible first | assumption | apply OLe.bind_ | apply OLe.cond_ | apply OLe.up_ | apply h_rec | apply h_f | apply m_slices_IndexFunc_api_Value | exact OLe.refl | intro _)
theorem c_slices_ContainsFunc_api_Value_le (fu : Nat) {rec : api_Value → Option (Bool)} {s : (List api_Value)} {f : api_Value → Option (Bool)} {rec_p : api_Value → Option (Bool)} {f_p : api_Value → Option (Bool)} (h_rec : ∀ (x0 : api_Value), OLe (rec x0) (rec_p x0)) (h_f : ∀ (x0 : api_Value), OLe (f x0) (f_p x0)) : OLe (c_slices_ContainsFunc_api_Value fu rec s f) (g_slices_ContainsFunc_api_Value rec_p s f_p) := by
  unfold c_slices_ContainsFunc_api_Value g_slices_ContainsFunc_api_Value
  repeat' (with_reducible first | assumption | apply OLe.bind_ | apply OLe.cond_ | apply OLe.up_ | apply h_rec | apply h_f | apply c_slices_IndexFunc_api_Value_le | exact OLe.refl | intro _)
def c_der_formed.j1 (fu : Nat) (rec : api_Value → Option (Bool)) (v : api_Value) (x36_1 : Bool) : Option (Bool) :=
  cond (x36_1)
    (some false)
    ((c_slices_ContainsFunc_api_Value fu rec v.Elements (fun x0 => c_der_formed_c1 fu rec x0)).bind fun y_2 =>
    some (!y_2))
theorem m_der_formed.j1 {rec : api_Value → Option (Bool)} {v : api_Value} {x36_1 : Bool} {rec_p : api_Value → Option (Bool)} (h_rec : ∀ (x0 : api_Value), OLe (rec x0) (rec_p x0)) : OLe (g_der_formed.j1 rec v x36_1) (g_der_formed.j1 rec_p v x36_1) := by
  unfold g_der_formed.j1
  repeat' (with_reducible first | assumption | apply OLe.bind_ | apply OLe.cond_ | apply OLe.up_ | apply h_rec | apply m_slices_ContainsFunc_api_Value | apply m_der_formed_c1 | exact OLe.refl | intro _)
theorem c_der_formed.j1_le (fu : Nat) {rec : api_Value → Option (Bool)} {v : api_Value} {x36_1 : Bool} {rec_p : api_Value → Option (Bool)} (h_rec : ∀ (x0 : api_Value), OLe (rec x0) (rec_p x0)) : OLe (c_der_formed.j1 fu rec v x36_1) (g_der_formed.j1 rec_p v x36_1) := by
  unfold c_der_formed.j1 g_der_formed.j1
  repeat' (with_reducible first | assumption | apply OLe.bind_ | apply OLe.cond_ | apply OLe.up_ | apply h_rec | apply c_slices_ContainsFunc_api_Value_le | apply c_der_formed_c1_le | exact OLe.refl | intro _)
def c_der_formed.F (fu : Nat) (rec : api_Value → Option (Bool)) (v : api_Value) : Option (Bool) :=
  (c_der_tag fu v.Tag).bind fun y =>
  cond (!y)
    (c_der_formed.j1 fu rec v true)
    (cond (!decide (v.Nested = (!decide ((andK .i64 v.Tag 32) = 0))))
      (c_der_formed.j1 fu rec v true)
      (cond (v.Nested)
        (cond (decide (0 < (v.Bytes.length : Int)))
          (c_der_formed.j1 fu rec v true)
          (c_der_formed.j1 fu rec v false))
        (c_der_formed.j1 fu rec v (decide (0 < (v.Elements.length : Int))))))
theorem m_der_formed.F {rec : api_Value → Option (Bool)} {v : api_Value} {rec_p : api_Value → Option (Bool)} (h_rec : ∀ (x0 : api_Value), OLe (rec x0) (rec_p x0)) : OLe (g_der_formed.F rec v) (g_der_formed.F rec_p v) := by
  unfold g_der_formed.F
  repeat' (with_reducible first | assumption | apply OLe.bind_ | apply OLe.cond_ | apply OLe.up_ | apply h_rec | apply m_der_formed.j1 | exact OLe.refl | intro _)
theorem c_der_formed.F_le (fu : Nat) {rec : api_Value → Option (Bool)} {v : api_Value} {rec_p : api_Value → Option (Bool)} (h_rec : ∀ (x0 : api_Value), OLe (rec x0) (rec_p x0)) : OLe (c_der_formed.F fu rec v) (g_der_formed.F rec_p v) := by
  unfold c_der_formed.F g_der_formed.F
  repeat' (with_reducible first | assumption | apply OLe.bind_ | apply OLe.cond_ | apply OLe.up_ | apply h_rec | apply c_der_tag_le | apply c_der_formed.j1_le | exact OLe.refl | intro _)
def c_der_formed (fu : Nat) (v : api_Value) : Option (Bool) := fixC fu (fun rec (x : api_Value) => c_der_formed.F fu (fun v => rec v) x) v
theorem mono_der_formed : MonoF (fun rec (x : api_Value) => g_der_formed.F (fun v => rec v) x) := fun p q h a => by
  apply m_der_formed.F
  intros
  apply h
theorem c_der_formed_le (fu : Nat) {v : api_Value} : OLe (c_der_formed fu v) (g_der_formed v) := by
  unfold c_der_formed g_der_formed
  refine OLe.fx _ ?_ mono_der_formed _
  intro p q h a
  apply c_der_formed.F_le
  intros
  apply h
def c_der_depth.l1 (fu : Nat) (rec : api_Value → Option (Int)) (v : api_Value) (most_1 : Int) (x9_1 : Int) : Option (Lp (Int × Int) (Int)) :=
  cond (decide (x9_1 < (v.Elements.length : Int)))
    ((getI v.Elements x9_1).bind fun e =>
    (rec e).bind fun y =>
    some (.next (max most_1 y, W (x9_1 + 1))))
    (up (
      some (W (most_1 + 1))))
theorem m_der_depth.l1 {rec : api_Value → Option (Int)} {v : api_Value} {most_1 : Int} {x9_1 : Int} {rec_p : api_Value → Option (Int)} (h_rec : ∀ (x0 : api_Value), OLe (rec x0) (rec_p x0)) : OLe (g_der_depth.l1 rec v most_1 x9_1) (g_der_depth.l1 rec_p v most_1 x9_1) := by
  unfold g_der_depth.l1
  repeat' (with_reducible first | assumption | apply OLe.bind_ | apply OLe.cond_ | apply OLe.up_ | apply h_rec | exact OLe.refl | intro _)
theorem c_der_depth.l1_le (fu : Nat) {rec : api_Value → Option (Int)} {v : api_Value} {most_1 : Int} {x9_1 : Int} {rec_p : api_Value → Option (Int)} (h_rec : ∀ (x0 : api_Value), OLe (rec x0) (rec_p x0)) : OLe (c_der_depth.l1 fu rec v most_1 x9_1) (g_der_depth.l1 rec_p v most_1 x9_1) := by
  unfold c_der_depth.l1 g_der_depth.l1
  repeat' (with_reducible first | assumption | apply OLe.bind_ | apply OLe.cond_ | apply OLe.up_ | apply h_rec | exact OLe.refl | intro _)
def c_der_depth.F (fu : Nat) (rec : api_Value → Option (Int)) (v : api_Value) : Option (Int) :=
  loopC fu (fun q' => c_der_depth.l1 fu rec v q'.1 q'.2) (0, 0)
theorem m_der_depth.F {rec : api_Value → Option (Int)} {v : api_Value} {rec_p : api_Value → Option (Int)} (h_rec : ∀ (x0 : api_Value), OLe (rec x0) (rec_p x0)) : OLe (g_der_depth.F rec v) (g_der_depth.F rec_p v) := by
  unfold g_der_depth.F
  repeat' (with_reducible first | assumption | apply OLe.bind_ | apply OLe.cond_ | apply OLe.up_ | apply h_rec | apply m_der_depth.l1 | (refine OLe.lp (fun _ => ?_) _) | exact OLe.refl | intro _)
theorem c_der_depth.F_le (fu : Nat) {rec : api_Value → Option (Int)} {v : api_Value} {rec_p : api_Value → Option (Int)} (h_rec : ∀ (x0 : api_Value), OLe (rec x0) (rec_p x0)) : OLe (c_der_depth.F fu rec v) (g_der_depth.F rec_p v) := by
  unfold c_der_depth.F g_der_depth.F
  repeat' (with_reducible first | assumption | apply OLe.bind_ | apply OLe.cond_ | apply OLe.up_ | apply h_rec | apply c_der_depth.l1_le | (refine OLe.lpC _ (fun _ => ?_) _) | exact OLe.refl | intro _)
def c_der_depth (fu : Nat) (v : api_Value) : Option (Int) := fixC fu (fun rec (x : api_Value) => c_der_depth.F fu (fun v => rec v) x) v
theorem mono_der_depth : MonoF (fun rec (x : api_Value) => g_der_depth.F (fun v => rec v) x) := fun p q h a => by
  apply m_der_depth.F
  intros
  apply h
theorem c_der_depth_le (fu : Nat) {v : api_Value} : OLe (c_der_depth fu v) (g_der_depth v) := by
  unfold c_der_depth g_der_depth
  refine OLe.fx _ ?_ mono_der_depth _
  intro p q h a
  apply c_der_depth.F_le
  intros
  apply h
def c_der_length.l2 (fu : Nat) (n : Int) (i_2 : Int) (b_2 : List UInt8) : Option (Lp (Int × List UInt8) ((List UInt8))) :=
  cond (decide (0 ≤ i_2))
    ((shrK .i64 n (W (8 * i_2))).bind fun q_2 =>
    (appI 1 b_2 ([(u8 q_2)] : List UInt8)).bind fun l_3 =>
    some (.next (W (i_2 - 1), l_3)))
    (up (
      some b_2))
theorem c_der_length.l2_le (fu : Nat) {n : Int} {i_2 : Int} {b_2 : List UInt8} : OLe (c_der_length.l2 fu n i_2 b_2) (g_der_length.l2 n i_2 b_2) := by
  unfold c_der_length.l2 g_der_length.l2
  repeat' (with_reducible first | assumption | apply OLe.bind_ | apply OLe.cond_ | apply OLe.up_ | exact OLe.refl | intro _)
def c_der_length.l1 (fu : Nat) (b : List UInt8) (n : Int) (count_1 : Int) (m_1 : Int) : Option (Lp (Int × Int) ((List UInt8))) :=
  cond (decide (0 < m_1))
    ((shrK .i64 m_1 8).bind fun q =>
    some (.next (W (count_1 + 1), q)))
    (up (
      (appI 1 b ([(u8 (W (128 + count_1)))] : List UInt8)).bind fun l_2 =>
      loopC fu (fun q' => c_der_length.l2 fu n q'.1 q'.2) (W (count_1 - 1), l_2)))
theorem c_der_length.l1_le (fu : Nat) {b : List UInt8} {n : Int} {count_1 : Int} {m_1 : Int} : OLe (c_der_length.l1 fu b n count_1 m_1) (g_der_length.l1 b n count_1 m_1) := by
  unfold c_der_length.l1 g_der_length.l1
  repeat' (with_reducible first | assumption | apply OLe.bind_ | apply OLe.cond_ | apply OLe.up_ | apply c_der_length.l2_le | (refine OLe.lpC _ (fun _ => ?_) _) | exact OLe.refl | intro _)
def c_der_length (fu : Nat) (b : List UInt8) (n : Int) : Option ((List UInt8)) :=
  cond (decide (n < 128))
    ((appI 1 b ([(u8 n)] : List UInt8)).bind fun l =>
    some l)
    (loopC fu (fun q' => c_der_length.l1 fu b n q'.1 q'.2) (0, n))
theorem c_der_length_le (fu : Nat) {b : List UInt8} {n : Int} : OLe (c_der_length fu b n) (g_der_length b n) := by
  unfold c_der_length g_der_length
  repeat' (with_reducible first | assumption | apply OLe.bind_ | apply OLe.cond_ | apply OLe.up_ | apply c_der_length.l1_le | (refine OLe.lpC _ (fun _ => ?_) _) | exact OLe.refl | intro _)
def c_der_element (fu : Nat) (rec : api_Value → Option ((List UInt8))) (b : List UInt8) (v : api_Value) : Option ((List UInt8)) :=
  (rec v).bind fun y =>
  (appI 1 b ([(u8 v.Tag)] : List UInt8)).bind fun l =>
  (c_der_length fu l (y.length : Int)).bind fun y_2 =>
  (appI 1 y_2 y).bind fun l_2 =>
  some l_2
theorem m_der_element {rec : api_Value → Option ((List UInt8))} {b : List UInt8} {v : api_Value} {rec_p : api_Value → Option ((List UInt8))} (h_rec : ∀ (x0 : api_Value), OLe (rec x0) (rec_p x0)) : OLe (g_der_element rec b v) (g_der_element rec_p b v) := by
  unfold g_der_element
  repeat' (with_reducible first | assumption | apply OLe.bind_ | apply OLe.cond_ | apply OLe.up_ | apply h_rec | exact OLe.refl | intro _)
theorem c_der_element_le (fu : Nat) {rec : api_Value → Option ((List UInt8))} {b : List UInt8} {v : api_Value} {rec_p : api_Value → Option ((List UInt8))} (h_rec : ∀ (x0 : api_Value), OLe (rec x0) (rec_p x0)) : OLe (c_der_element fu rec b v) (g_der_element rec_p b v) := by
  unfold c_der_element g_der_element
  repeat' (with_reducible first | assumption | apply OLe.bind_ | apply OLe.cond_ | apply OLe.up_ | apply h_rec | apply c_der_length_le | exact OLe.refl | intro _)
def c_der_contents.l1 (fu : Nat) (rec : api_Value → Option ((List UInt8))) (v : api_Value) (x14_1 : Int) (out_1 : List UInt8) : Option (Lp (Int × List UInt8) ((List UInt8))) :=
  cond (decide (x14_1 < (v.Elements.length : Int)))
    ((getI v.Elements x14_1).bind fun e =>
    (c_der_element fu rec out_1 e).bind fun y =>
    some (.next (W (x14_1 + 1), y)))
    (up (
      some out_1))
theorem m_der_contents.l1 {rec : api_Value → Option ((List UInt8))} {v : api_Value} {x14_1 : Int} {out_1 : List UInt8} {rec_p : api_Value → Option ((List UInt8))} (h_rec : ∀ (x0 : api_Value), OLe (rec x0) (rec_p x0)) : OLe (g_der_contents.l1 rec v x14_1 out_1) (g_der_contents.l1 rec_p v x14_1 out_1) := by
  unfold g_der_contents.l1
  repeat' (with_reducible first | assumption | apply OLe.bind_ | apply OLe.cond_ | apply OLe.up_ | apply h_rec | apply m_der_element | exact OLe.refl | intro _)
theorem c_der_contents.l1_le (fu : Nat) {rec : api_Value → Option ((List UInt8))} {v : api_Value} {x14_1 : Int} {out_1 : List UInt8} {rec_p : api_Value → Option ((List UInt8))} (h_rec : ∀ (x0 : api_Value), OLe (rec x0) (rec_p x0)) : OLe (c_der_contents.l1 fu rec v x14_1 out_1) (g_der_contents.l1 rec_p v x14_1 out_1) := by
  unfold c_der_contents.l1 g_der_contents.l1
  repeat' (with_reducible first | assumption | apply OLe.bind_ | apply OLe.cond_ | apply OLe.up_ | apply h_rec | apply c_der_element_le | exact OLe.refl | intro _)
def c_der_contents.F (fu : Nat) (rec : api_Value → Option ((List UInt8))) (v : api_Value) : Option ((List UInt8)) :=
  cond (!v.Nested)
    (some v.Bytes)
    (loopC fu (fun q' => c_der_contents.l1 fu rec v q'.1 q'.2) (0, ([] : List UInt8)))
theorem m_der_contents.F {rec : api_Value → Option ((List UInt8))} {v : api_Value} {rec_p : api_Value → Option ((List UInt8))} (h_rec : ∀ (x0 : api_Value), OLe (rec x0) (rec_p x0)) : OLe (g_der_contents.F rec v) (g_der_contents.F rec_p v) := by
  unfold g_der_contents.F
  repeat' (with_reducible first | assumption | apply OLe.bind_ | apply OLe.cond_ | apply OLe.up_ | apply h_rec | apply m_der_contents.l1 | (refine OLe.lp (fun _ => ?_) _) | exact OLe.refl | intro _)
theorem c_der_contents.F_le (fu : Nat) {rec : api_Value → Option ((List UInt8))} {v : api_Value} {rec_p : api_Value → Option ((List UInt8))} (h_rec : ∀ (x0 : api_Value), OLe (rec x0) (rec_p x0)) : OLe (c_der_contents.F fu rec v) (g_der_contents.F rec_p v) := by
  unfold c_der_contents.F g_der_contents.F
  repeat' (with_reducible first | assumption | apply OLe.bind_ | apply OLe.cond_ | apply OLe.up_ | apply h_rec | apply c_der_contents.l1_le | (refine OLe.lpC _ (fun _ => ?_) _) | exact OLe.refl | intro _)
def c_der_contents (fu : Nat) (v : api_Value) : Option ((List UInt8)) := fixC fu (fun rec (x : api_Value) => c_der_contents.F fu (fun v => rec v) x) v
theorem mono_der_contents : MonoF (fun rec (x : api_Value) => g_der_contents.F (fun v => rec v) x) := fun p q h a => by
  apply m_der_contents.F
  intros
  apply h
theorem c_der_contents_le (fu : Nat) {v : api_Value} : OLe (c_der_contents fu v) (g_der_contents v) := by
  unfold c_der_contents g_der_contents
  refine OLe.fx _ ?_ mono_der_contents _
  intro p q h a
  apply c_der_contents.F_le
  intros
  apply h
def c_der_element_nil (fu : Nat) (v : api_Value) : Option ((List UInt8)) :=
  (c_der_contents fu v).bind fun y =>
  (appI 1 ([] : List UInt8) ([(u8 v.Tag)] : List UInt8)).bind fun l =>
  (c_der_length fu l (y.length : Int)).bind fun y_2 =>
  (appI 1 y_2 y).bind fun l_2 =>
  some l_2
theorem c_der_element_nil_le (fu : Nat) {v : api_Value} : OLe (c_der_element_nil fu v) (g_der_element_nil v) := by
  unfold c_der_element_nil g_der_element_nil
  repeat' (with_reducible first | assumption | apply OLe.bind_ | apply OLe.cond_ | apply OLe.up_ | apply c_der_contents_le | apply c_der_length_le | exact OLe.refl | intro _)
def c_der_Encode (fu : Nat) (v : api_Value) : Option ((List UInt8) × Int) :=
  (c_der_formed fu v).bind fun y =>
  cond (!y)
    (some (([] : (List UInt8)), 1))
    ((c_der_depth fu v).bind fun y_2 =>
    cond (decide (16 < y_2))
      (some (([] : (List UInt8)), 3))
      ((c_der_element_nil fu v).bind fun y_3 =>
      cond (decide (4096 < (y_3.length : Int)))
        (some (([] : (List UInt8)), 3))
        (some (y_3, 0))))
theorem c_der_Encode_le (fu : Nat) {v : api_Value} : OLe (c_der_Encode fu v) (g_der_Encode v) := by
  unfold c_der_Encode g_der_Encode
  repeat' (with_reducible first | assumption | apply OLe.bind_ | apply OLe.cond_ | apply OLe.up_ | apply c_der_formed_le | apply c_der_depth_le | apply c_der_element_nil_le | exact OLe.refl | intro _)
def c_certificate_Bytes (fu : Nat) (c : api_Certificate) : Option ((List UInt8) × Int) :=
  (c_certificate_valid fu c).bind fun y =>
  cond (!y)
    (some (([] : (List UInt8)), 9))
    ((c_certificate_body fu c).bind fun y_2 =>
    (c_der_Encode fu y_2).bind fun y_3 =>
    some (y_3.1, y_3.2))
theorem c_certificate_Bytes_le (fu : Nat) {c : api_Certificate} : OLe (c_certificate_Bytes fu c) (g_certificate_Bytes c) := by
  unfold c_certificate_Bytes g_certificate_Bytes
  repeat' (with_reducible first | assumption | apply OLe.bind_ | apply OLe.cond_ | apply OLe.up_ | apply c_certificate_valid_le | apply c_certificate_body_le | apply c_der_Encode_le | exact OLe.refl | intro _)
def c_certificate_Sum.l1 (fu : Nat) (b : (List UInt8)) (s_1 : Int) (x8_1 : Int) : Option (Lp (Int × Int) (Int)) :=
  cond (decide (x8_1 < (b.length : Int)))
    ((getI b x8_1).bind fun e =>
    some (.next (IntKind.wrap .u32 ((xorK .u32 s_1 (IntKind.wrap .u32 (e.toNat : Int))) * 16777619), W (x8_1 + 1))))
    (up (
      some (W s_1)))
theorem c_certificate_Sum.l1_le (fu : Nat) {b : (List UInt8)} {s_1 : Int} {x8_1 : Int} : OLe (c_certificate_Sum.l1 fu b s_1 x8_1) (g_certificate_Sum.l1 b s_1 x8_1) := by
  unfold c_certificate_Sum.l1 g_certificate_Sum.l1
  repeat' (with_reducible first | assumption | apply OLe.bind_ | apply OLe.cond_ | apply OLe.up_ | exact OLe.refl | intro _)
def c_certificate_Sum (fu : Nat) (b : (List UInt8)) : Option (Int) :=
  loopC fu (fun q' => c_certificate_Sum.l1 fu b q'.1 q'.2) (2166136261, 0)
theorem c_certificate_Sum_le (fu : Nat) {b : (List UInt8)} : OLe (c_certificate_Sum fu b) (g_certificate_Sum b) := by
  unfold c_certificate_Sum g_certificate_Sum
  repeat' (with_reducible first | assumption | apply OLe.bind_ | apply OLe.cond_ | apply OLe.up_ | apply c_certificate_Sum.l1_le | (refine OLe.lpC _ (fun _ => ?_) _) | exact OLe.refl | intro _)
def c_certificate_Sealed (fu : Nat) (c : api_Certificate) (key : Int) : Option (Bool) :=
  (c_certificate_Bytes fu c).bind fun y =>
  cond (decide (y.2 = 0))
    ((c_certificate_Sum fu y.1).bind fun y_2 =>
    some (decide (c.Seal = (api_Seal.mk key y_2))))
    (some false)
theorem c_certificate_Sealed_le (fu : Nat) {c : api_Certificate} {key : Int} : OLe (c_certificate_Sealed fu c key) (g_certificate_Sealed c key) := by
  unfold c_certificate_Sealed g_certificate_Sealed
  repeat' (with_reducible first | assumption | apply OLe.bind_ | apply OLe.cond_ | apply OLe.up_ | apply c_certificate_Bytes_le | apply c_certificate_Sum_le | exact OLe.refl | intro _)
def c_chain_fails.j2 (fu : Nat) (x9_1 : Int) (wrong_2 : Bool) : Option (Lp (Int) (Bool)) :=
  cond (wrong_2)
    (up (some true))
    (some (.next (W (x9_1 + 1))))
theorem c_chain_fails.j2_le (fu : Nat) {x9_1 : Int} {wrong_2 : Bool} : OLe (c_chain_fails.j2 fu x9_1 wrong_2) (g_chain_fails.j2 x9_1 wrong_2) := by
  unfold c_chain_fails.j2 g_chain_fails.j2
  repeat' (with_reducible first | assumption | apply OLe.bind_ | apply OLe.cond_ | apply OLe.up_ | exact OLe.refl | intro _)
def c_chain_fails.l1 (fu : Nat) (l : (List api_Certificate)) (e : Int) (x9_1 : Int) : Option (Lp (Int) (Bool)) :=
  cond (decide (x9_1 < (l.length : Int)))
    (cond (decide (e = 11))
      (cond (decide ((W (x9_1 + 1)) < (l.length : Int)))
        ((getI l x9_1).bind fun e_2 =>
        (getI l (W (x9_1 + 1))).bind fun e_3 =>
        c_chain_fails.j2 fu x9_1 (!decide (e_2.Issuer = e_3.Subject)))
        (c_chain_fails.j2 fu x9_1 false))
      (cond (decide (e = 15))
        ((c_chain_Path fu l x9_1).bind fun y =>
        c_chain_fails.j2 fu x9_1 (!y))
        ((getI l x9_1).bind fun e_4 =>
        (c_chain_sealer fu l x9_1).bind fun y_2 =>
        (c_certificate_Sealed fu e_4 y_2).bind fun y_3 =>
        c_chain_fails.j2 fu x9_1 (!y_3))))
    (up (
      some false))
theorem c_chain_fails.l1_le (fu : Nat) {l : (List api_Certificate)} {e : Int} {x9_1 : Int} : OLe (c_chain_fails.l1 fu l e x9_1) (g_chain_fails.l1 l e x9_1) := by
  unfold c_chain_fails.l1 g_chain_fails.l1
  repeat' (with_reducible first | assumption | apply OLe.bind_ | apply OLe.cond_ | apply OLe.up_ | apply c_chain_fails.j2_le | apply c_chain_Path_le | apply c_chain_sealer_le | apply c_certificate_Sealed_le | exact OLe.refl | intro _)
def c_chain_fails (fu : Nat) (l : (List api_Certificate)) (e : Int) : Option (Bool) :=
  loopC fu (fun q' => c_chain_fails.l1 fu l e q') 0
theorem c_chain_fails_le (fu : Nat) {l : (List api_Certificate)} {e : Int} : OLe (c_chain_fails fu l e) (g_chain_fails l e) := by
  unfold c_chain_fails g_chain_fails
  repeat' (with_reducible first | assumption | apply OLe.bind_ | apply OLe.cond_ | apply OLe.up_ | apply c_chain_fails.l1_le | (refine OLe.lpC _ (fun _ => ?_) _) | exact OLe.refl | intro _)
def c_chain_Check.l3 (fu : Nat) (l : (List api_Certificate)) (anchors : (List Int)) (x44_3 : Int) : Option (Lp (Int) (Int)) :=
  cond (decide (x44_3 < 3))
    ((getI ([11, 15, 10] : List Int) x44_3).bind fun e_3 =>
    (c_chain_fails fu l e_3).bind fun y_4 =>
    cond (y_4)
      (up (some e_3))
      (some (.next (W (x44_3 + 1)))))
    (up (
      (getI l (W ((l.length : Int) - 1))).bind fun e_4 =>
      (c_slices_Contains_int fu anchors e_4.Seal.Key).bind fun y_5 =>
      cond (!y_5)
        (some 12)
        (some 0)))
theorem c_chain_Check.l3_le (fu : Nat) {l : (List api_Certificate)} {anchors : (List Int)} {x44_3 : Int} : OLe (c_chain_Check.l3 fu l anchors x44_3) (g_chain_Check.l3 l anchors x44_3) := by
  unfold c_chain_Check.l3 g_chain_Check.l3
  repeat' (with_reducible first | assumption | apply OLe.bind_ | apply OLe.cond_ | apply OLe.up_ | apply c_chain_fails_le | apply c_slices_Contains_int_le | exact OLe.refl | intro _)
def c_chain_Check.l1 (fu : Nat) (l : (List api_Certificate)) (anchors : (List Int)) (hashes : (List Int)) (day : Int) (x35_1 : Int) : Option (Lp (Int) (Int)) :=
  cond (decide (x35_1 < 2))
    ((getI ([13, 7] : List Int) x35_1).bind fun e_2 =>
    (c_slices_ContainsFunc_api_Certificate fu l (fun x0 => c_chain_Check_c2 fu x0 hashes day e_2)).bind fun y_3 =>
    cond (y_3)
      (up (some e_2))
      (some (.next (W (x35_1 + 1)))))
    (up (
      loopC fu (fun q' => c_chain_Check.l3 fu l anchors q') 0))
theorem c_chain_Check.l1_le (fu : Nat) {l : (List api_Certificate)} {anchors : (List Int)} {hashes : (List Int)} {day : Int} {x35_1 : Int} : OLe (c_chain_Check.l1 fu l anchors hashes day x35_1) (g_chain_Check.l1 l anchors hashes day x35_1) := by
  unfold c_chain_Check.l1 g_chain_Check.l1
  repeat' (with_reducible first | assumption | apply OLe.bind_ | apply OLe.cond_ | apply OLe.up_ | apply c_slices_ContainsFunc_api_Certificate_le | apply c_chain_Check_c2_le | apply c_chain_Check.l3_le | (refine OLe.lpC _ (fun _ => ?_) _) | exact OLe.refl | intro _)
def c_chain_Check (fu : Nat) (l : (List api_Certificate)) (anchors : (List Int)) (hashes : (List Int)) (day : Int) (name : ByteArray) : Option (Int) :=
  cond (decide ((l.length : Int) = 0))
    (some 4)
    (cond (decide (8 < (l.length : Int)))
      (some 3)
      ((c_slices_ContainsFunc_api_Certificate fu l (fun x0 => c_chain_Check_c1 fu x0)).bind fun y =>
      cond (y)
        (some 9)
        ((getI l 0).bind fun e =>
        (c_slices_Contains_string fu e.Names name).bind fun y_2 =>
        cond (!y_2)
          (some 14)
          (loopC fu (fun q' => c_chain_Check.l1 fu l anchors hashes day q') 0))))
theorem c_chain_Check_le (fu : Nat) {l : (List api_Certificate)} {anchors : (List Int)} {hashes : (List Int)} {day : Int} {name : ByteArray} : OLe (c_chain_Check fu l anchors hashes day name) (g_chain_Check l anchors hashes day name) := by
  unfold c_chain_Check g_chain_Check
  repeat' (with_reducible first | assumption | apply OLe.bind_ | apply OLe.cond_ | apply OLe.up_ | apply c_slices_ContainsFunc_api_Certificate_le | apply c_chain_Check_c1_le | apply c_slices_Contains_string_le | apply c_chain_Check.l1_le | (refine OLe.lpC _ (fun _ => ?_) _) | exact OLe.refl | intro _)
def c_chain_Until.l1 (fu : Nat) (l : (List api_Certificate)) (least_1 : Int) (x15_1 : Int) : Option (Lp (Int × Int) (Int)) :=
  cond (decide (x15_1 < (l.length : Int)))
    ((getI l x15_1).bind fun e_2 =>
    some (.next (min least_1 e_2.To, W (x15_1 + 1))))
    (up (
      some least_1))
theorem c_chain_Until.l1_le (fu : Nat) {l : (List api_Certificate)} {least_1 : Int} {x15_1 : Int} : OLe (c_chain_Until.l1 fu l least_1 x15_1) (g_chain_Until.l1 l least_1 x15_1) := by
  unfold c_chain_Until.l1 g_chain_Until.l1
  repeat' (with_reducible first | assumption | apply OLe.bind_ | apply OLe.cond_ | apply OLe.up_ | exact OLe.refl | intro _)
def c_chain_Until (fu : Nat) (l : (List api_Certificate)) : Option (Int) :=
  cond (decide ((l.length : Int) = 0))
    (some 0)
    ((getI l 0).bind fun e =>
    loopC fu (fun q' => c_chain_Until.l1 fu l q'.1 q'.2) (e.To, 0))
theorem c_chain_Until_le (fu : Nat) {l : (List api_Certificate)} : OLe (c_chain_Until fu l) (g_chain_Until l) := by
  unfold c_chain_Until g_chain_Until
  repeat' (with_reducible first | assumption | apply OLe.bind_ | apply OLe.cond_ | apply OLe.up_ | apply c_chain_Until.l1_le | (refine OLe.lpC _ (fun _ => ?_) _) | exact OLe.refl | intro _)
def c_law04_awake (fu : Nat) : Option (Bool) :=
  (c_ref03_Sign fu (api_Certificate.mk 0 (⟨#[99, 97]⟩ : ByteArray) (⟨#[119, 101, 98]⟩ : ByteArray) (api_Use.mk 5 2048) 7 (api_Use.mk 3 0) 0 9 false 0 ([(⟨#[119, 101, 98]⟩ : ByteArray)] : List ByteArray) (api_Seal.mk 0 0)) 3).bind fun y =>
  (c_chain_Check fu ([y.1] : List api_Certificate) ([3] : List Int) ([3] : List Int) 5 (⟨#[119, 101, 98]⟩ : ByteArray)).bind fun y_2 =>
  cond (decide (y_2 = 0))
    ((c_chain_Check fu ([y.1] : List api_Certificate) ([4] : List Int) ([3] : List Int) 5 (⟨#[119, 101, 98]⟩ : ByteArray)).bind fun y_3 =>
    cond (decide (y_3 = 12))
      ((c_chain_Until fu ([y.1] : List api_Certificate)).bind fun y_4 =>
      cond (decide (y_4 = 9))
        ((c_chain_Path fu ([y.1] : List api_Certificate) 0).bind fun y_5 =>
        some y_5)
        (some false))
      (some false))
    (some false)
theorem c_law04_awake_le (fu : Nat) : OLe (c_law04_awake fu) (g_law04_awake) := by
  unfold c_law04_awake g_law04_awake
  repeat' (with_reducible first | assumption | apply OLe.bind_ | apply OLe.cond_ | apply OLe.up_ | apply c_ref03_Sign_le | apply c_chain_Check_le | apply c_chain_Until_le | apply c_chain_Path_le | exact OLe.refl | intro _)
end Go.Proofs.Ytadjcdhcdmiifaa
