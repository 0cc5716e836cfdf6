/- Bounded forms of the plain functions. -/
import Derived.Test.YtkpcbnnlefcebaaGreatPC
import Derived.Test.YtkpcbnnlefcebaaGreatP1
set_option linter.unusedVariables false
set_option linter.unusedSimpArgs false
namespace Go.Proofs.YtkpcbnnlefcebaaGreat
theorem m_slices_insertionSortCmpFunc_need_required.l2 {a : Int} {cmp : need_required → need_required → Option (Int)} {i_1 : Int} {j_2 : Int} {data_2 : List need_required} {cmp_p : need_required → need_required → Option (Int)} (h_cmp : ∀ (x0 : need_required) (x1 : need_required), OLe (cmp x0 x1) (cmp_p x0 x1)) : OLe (g_slices_insertionSortCmpFunc_need_required.l2 a cmp i_1 j_2 data_2) (g_slices_insertionSortCmpFunc_need_required.l2 a cmp_p i_1 j_2 data_2) := by
  unfold g_slices_insertionSortCmpFunc_need_required.l2
  repeat' (with_reducible first | assumption | apply OLe.bind_ | apply OLe.cond_ | apply OLe.up_ | apply h_cmp | exact OLe.refl | intro _)
theorem m_slices_insertionSortCmpFunc_need_required.l1 {a : Int} {b : Int} {cmp : need_required → need_required → Option (Int)} {i_1 : Int} {data_1 : List need_required} {cmp_p : need_required → need_required → Option (Int)} (h_cmp : ∀ (x0 : need_required) (x1 : need_required), OLe (cmp x0 x1) (cmp_p x0 x1)) : OLe (g_slices_insertionSortCmpFunc_need_required.l1 a b cmp i_1 data_1) (g_slices_insertionSortCmpFunc_need_required.l1 a b cmp_p i_1 data_1) := by
  unfold g_slices_insertionSortCmpFunc_need_required.l1
  repeat' (with_reducible first | assumption | apply OLe.bind_ | apply OLe.cond_ | apply OLe.up_ | apply h_cmp | apply m_slices_insertionSortCmpFunc_need_required.l2 | (refine OLe.lp (fun _ => ?_) _) | exact OLe.refl | intro _)
theorem m_slices_insertionSortCmpFunc_need_required {data : List need_required} {a : Int} {b : Int} {cmp : need_required → need_required → Option (Int)} {cmp_p : need_required → need_required → Option (Int)} (h_cmp : ∀ (x0 : need_required) (x1 : need_required), OLe (cmp x0 x1) (cmp_p x0 x1)) : OLe (g_slices_insertionSortCmpFunc_need_required data a b cmp) (g_slices_insertionSortCmpFunc_need_required data a b cmp_p) := by
  unfold g_slices_insertionSortCmpFunc_need_required
  repeat' (with_reducible first | assumption | apply OLe.bind_ | apply OLe.cond_ | apply OLe.up_ | apply h_cmp | apply m_slices_insertionSortCmpFunc_need_required.l1 | (refine OLe.lp (fun _ => ?_) _) | exact OLe.refl | intro _)
theorem m_slices_pdqsortCmpFunc_need_required.l1 {data : List need_required} {a : Int} {b : Int} {limit : Int} {cmp : need_required → need_required → Option (Int)} {cmp_p : need_required → need_required → Option (Int)} (h_cmp : ∀ (x0 : need_required) (x1 : need_required), OLe (cmp x0 x1) (cmp_p x0 x1)) : OLe (g_slices_pdqsortCmpFunc_need_required.l1 data a b limit cmp) (g_slices_pdqsortCmpFunc_need_required.l1 data a b limit cmp_p) := by
  unfold g_slices_pdqsortCmpFunc_need_required.l1
  repeat' (with_reducible first | assumption | apply OLe.bind_ | apply OLe.cond_ | apply OLe.up_ | apply h_cmp | apply m_slices_insertionSortCmpFunc_need_required | exact OLe.refl | intro _)
theorem m_slices_pdqsortCmpFunc_need_required {data : List need_required} {a : Int} {b : Int} {limit : Int} {cmp : need_required → need_required → Option (Int)} {cmp_p : need_required → need_required → Option (Int)} (h_cmp : ∀ (x0 : need_required) (x1 : need_required), OLe (cmp x0 x1) (cmp_p x0 x1)) : OLe (g_slices_pdqsortCmpFunc_need_required data a b limit cmp) (g_slices_pdqsortCmpFunc_need_required data a b limit cmp_p) := by
  unfold g_slices_pdqsortCmpFunc_need_required
  repeat' (with_reducible first | assumption | apply OLe.bind_ | apply OLe.cond_ | apply OLe.up_ | apply h_cmp | apply m_slices_pdqsortCmpFunc_need_required.l1 | (refine OLe.lp (fun _ => ?_) _) | exact OLe.refl | intro _)
def c_ref03_Copy (fu : Nat) (c : api_Certificate) : Option (api_Certificate) :=
  (appI 16 ([] : List ByteArray) c.Names).bind fun l =>
  some (api_Certificate.mk c.Serial c.Issuer c.Subject c.Key c.KeyId c.Hash c.From c.To c.Authority c.Path l c.Seal)
theorem c_ref03_Copy_le (fu : Nat) {c : api_Certificate} : OLe (c_ref03_Copy fu c) (g_ref03_Copy c) := by
  unfold c_ref03_Copy g_ref03_Copy
  repeat' (with_reducible first | assumption | apply OLe.bind_ | apply OLe.cond_ | apply OLe.up_ | exact OLe.refl | intro _)
def c_ref03_Name.j3 (fu : Nat) (i_2 : Int) (x27_3 : Bool) : Option (Lp (Int) (Bool)) :=
  cond (x27_3)
    (up (some false))
    (some (.next (W (i_2 + 1))))
theorem c_ref03_Name.j3_le (fu : Nat) {i_2 : Int} {x27_3 : Bool} : OLe (c_ref03_Name.j3 fu i_2 x27_3) (g_ref03_Name.j3 i_2 x27_3) := by
  unfold c_ref03_Name.j3 g_ref03_Name.j3
  repeat' (with_reducible first | assumption | apply OLe.bind_ | apply OLe.cond_ | apply OLe.up_ | exact OLe.refl | intro _)
def c_ref03_Name.l2 (fu : Nat) (s : ByteArray) (i_2 : Int) : Option (Lp (Int) (Bool)) :=
  cond (decide (i_2 < (s.size : Int)))
    ((idxT s i_2).bind fun c =>
    cond (decide ((c.toNat : Int) < 33))
      (c_ref03_Name.j3 fu i_2 true)
      ((idxT s i_2).bind fun c_2 =>
      c_ref03_Name.j3 fu i_2 (decide (126 < (c_2.toNat : Int)))))
    (up (
      some true))
theorem c_ref03_Name.l2_le (fu : Nat) {s : ByteArray} {i_2 : Int} : OLe (c_ref03_Name.l2 fu s i_2) (g_ref03_Name.l2 s i_2) := by
  unfold c_ref03_Name.l2 g_ref03_Name.l2
  repeat' (with_reducible first | assumption | apply OLe.bind_ | apply OLe.cond_ | apply OLe.up_ | apply c_ref03_Name.j3_le | exact OLe.refl | intro _)
def c_ref03_Name.j1 (fu : Nat) (s : ByteArray) (x11_1 : Bool) : Option (Bool) :=
  cond (x11_1)
    (some false)
    (loopC fu (fun q' => c_ref03_Name.l2 fu s q') 0)
theorem c_ref03_Name.j1_le (fu : Nat) {s : ByteArray} {x11_1 : Bool} : OLe (c_ref03_Name.j1 fu s x11_1) (g_ref03_Name.j1 s x11_1) := by
  unfold c_ref03_Name.j1 g_ref03_Name.j1
  repeat' (with_reducible first | assumption | apply OLe.bind_ | apply OLe.cond_ | apply OLe.up_ | apply c_ref03_Name.l2_le | (refine OLe.lpC _ (fun _ => ?_) _) | exact OLe.refl | intro _)
def c_ref03_Name (fu : Nat) (s : ByteArray) : Option (Bool) :=
  cond (decide ((s.size : Int) < 1))
    (c_ref03_Name.j1 fu s true)
    (c_ref03_Name.j1 fu s (decide (32 < (s.size : Int))))
theorem c_ref03_Name_le (fu : Nat) {s : ByteArray} : OLe (c_ref03_Name fu s) (g_ref03_Name s) := by
  unfold c_ref03_Name g_ref03_Name
  repeat' (with_reducible first | assumption | apply OLe.bind_ | apply OLe.cond_ | apply OLe.up_ | apply c_ref03_Name.j1_le | exact OLe.refl | intro _)
def c_ref02_modulus.j1 (fu : Nat) (b : Int) (x3_1 : Bool) : Option (Int) :=
  cond (x3_1)
    (some 0)
    (cond (decide (b < 1024))
      (some 56)
      (cond (decide (b < 2048))
        (some 80)
        (cond (decide (b < 3072))
          (some 112)
          (cond (decide (b < 7680))
            (some 128)
            (cond (decide (b < 15360))
              (some 192)
              (some 256))))))
theorem c_ref02_modulus.j1_le (fu : Nat) {b : Int} {x3_1 : Bool} : OLe (c_ref02_modulus.j1 fu b x3_1) (g_ref02_modulus.j1 b x3_1) := by
  unfold c_ref02_modulus.j1 g_ref02_modulus.j1
  repeat' (with_reducible first | assumption | apply OLe.bind_ | apply OLe.cond_ | apply OLe.up_ | exact OLe.refl | intro _)
def c_ref02_modulus (fu : Nat) (b : Int) : Option (Int) :=
  cond (decide (b < 512))
    (c_ref02_modulus.j1 fu b true)
    (c_ref02_modulus.j1 fu b (decide (16384 < b)))
theorem c_ref02_modulus_le (fu : Nat) {b : Int} : OLe (c_ref02_modulus fu b) (g_ref02_modulus b) := by
  unfold c_ref02_modulus g_ref02_modulus
  repeat' (with_reducible first | assumption | apply OLe.bind_ | apply OLe.cond_ | apply OLe.up_ | apply c_ref02_modulus.j1_le | exact OLe.refl | intro _)
def c_ref02_among.l1 (fu : Nat) (b : Int) (sizes : (List Int)) (strengths : (List Int)) (i_1 : Int) : Option (Lp (Int) (Int)) :=
  cond (decide (i_1 < (sizes.length : Int)))
    ((getI sizes i_1).bind fun e =>
    cond (decide (e = b))
      ((getI strengths i_1).bind fun e_2 =>
      up (some e_2))
      (some (.next (W (i_1 + 1)))))
    (up (
      some 0))
theorem c_ref02_among.l1_le (fu : Nat) {b : Int} {sizes : (List Int)} {strengths : (List Int)} {i_1 : Int} : OLe (c_ref02_among.l1 fu b sizes strengths i_1) (g_ref02_among.l1 b sizes strengths i_1) := by
  unfold c_ref02_among.l1 g_ref02_among.l1
  repeat' (with_reducible first | assumption | apply OLe.bind_ | apply OLe.cond_ | apply OLe.up_ | exact OLe.refl | intro _)
def c_ref02_among (fu : Nat) (b : Int) (sizes : (List Int)) (strengths : (List Int)) : Option (Int) :=
  loopC fu (fun q' => c_ref02_among.l1 fu b sizes strengths q') 0
theorem c_ref02_among_le (fu : Nat) {b : Int} {sizes : (List Int)} {strengths : (List Int)} : OLe (c_ref02_among fu b sizes strengths) (g_ref02_among b sizes strengths) := by
  unfold c_ref02_among g_ref02_among
  repeat' (with_reducible first | assumption | apply OLe.bind_ | apply OLe.cond_ | apply OLe.up_ | apply c_ref02_among.l1_le | (refine OLe.lpC _ (fun _ => ?_) _) | exact OLe.refl | intro _)
def c_ref02_single.j2 (fu : Nat) (alg : Int) (x14_2 : Bool) : Option (Int) :=
  cond (x14_2)
    (some 256)
    (cond (decide (alg = 19))
      (some 64)
      (cond (decide (alg = 20))
        (some 80)
        (some 0)))
theorem c_ref02_single.j2_le (fu : Nat) {alg : Int} {x14_2 : Bool} : OLe (c_ref02_single.j2 fu alg x14_2) (g_ref02_single.j2 alg x14_2) := by
  unfold c_ref02_single.j2 g_ref02_single.j2
  repeat' (with_reducible first | assumption | apply OLe.bind_ | apply OLe.cond_ | apply OLe.up_ | exact OLe.refl | intro _)
def c_ref02_single.j1 (fu : Nat) (alg : Int) (x8_1 : Bool) : Option (Int) :=
  cond (x8_1)
    (some 128)
    (cond (decide (alg = 4))
      (some 192)
      (cond (decide (alg = 18))
        (c_ref02_single.j2 fu alg (decide (alg = 18)))
        (c_ref02_single.j2 fu alg (decide (alg = 22)))))
theorem c_ref02_single.j1_le (fu : Nat) {alg : Int} {x8_1 : Bool} : OLe (c_ref02_single.j1 fu alg x8_1) (g_ref02_single.j1 alg x8_1) := by
  unfold c_ref02_single.j1 g_ref02_single.j1
  repeat' (with_reducible first | assumption | apply OLe.bind_ | apply OLe.cond_ | apply OLe.up_ | apply c_ref02_single.j2_le | exact OLe.refl | intro _)
def c_ref02_single (fu : Nat) (alg : Int) : Option (Int) :=
  cond (decide (alg = 1))
    (some 18)
    (cond (decide (alg = 2))
      (some 60)
      (cond (decide (alg = 3))
        (c_ref02_single.j1 fu alg (decide (alg = 3)))
        (cond (decide (alg = 8))
          (c_ref02_single.j1 fu alg (decide (alg = 8)))
          (c_ref02_single.j1 fu alg (decide (alg = 21))))))
theorem c_ref02_single_le (fu : Nat) {alg : Int} : OLe (c_ref02_single fu alg) (g_ref02_single alg) := by
  unfold c_ref02_single g_ref02_single
  repeat' (with_reducible first | assumption | apply OLe.bind_ | apply OLe.cond_ | apply OLe.up_ | apply c_ref02_single.j1_le | exact OLe.refl | intro _)
def c_ref02_Strength.j3 (fu : Nat) (u : api_Use) (x35_3 : Bool) : Option (Int) :=
  cond (x35_3)
    ((quoI u.Bits 2).bind fun q =>
    some q)
    (some 0)
theorem c_ref02_Strength.j3_le (fu : Nat) {u : api_Use} {x35_3 : Bool} : OLe (c_ref02_Strength.j3 fu u x35_3) (g_ref02_Strength.j3 u x35_3) := by
  unfold c_ref02_Strength.j3 g_ref02_Strength.j3
  repeat' (with_reducible first | assumption | apply OLe.bind_ | apply OLe.cond_ | apply OLe.up_ | exact OLe.refl | intro _)
def c_ref02_Strength.j4 (fu : Nat) (u : api_Use) (x62_4 : Bool) : Option (Int) :=
  cond (x62_4)
    ((c_ref02_among fu u.Bits ([128, 256] : List Int) ([128, 256] : List Int)).bind fun y_6 =>
    some y_6)
    ((c_ref02_single fu u.Alg).bind fun y_7 =>
    (c_ref02_among fu u.Bits ([0] : List Int) ([y_7] : List Int)).bind fun y_8 =>
    some y_8)
theorem c_ref02_Strength.j4_le (fu : Nat) {u : api_Use} {x62_4 : Bool} : OLe (c_ref02_Strength.j4 fu u x62_4) (g_ref02_Strength.j4 u x62_4) := by
  unfold c_ref02_Strength.j4 g_ref02_Strength.j4
  repeat' (with_reducible first | assumption | apply OLe.bind_ | apply OLe.cond_ | apply OLe.up_ | apply c_ref02_among_le | apply c_ref02_single_le | exact OLe.refl | intro _)
def c_ref02_Strength.j2 (fu : Nat) (u : api_Use) (x15_2 : Bool) : Option (Int) :=
  cond (x15_2)
    (cond (decide (u.Bits = 160))
      (c_ref02_Strength.j3 fu u true)
      (cond (decide (u.Bits = 224))
        (c_ref02_Strength.j3 fu u true)
        (cond (decide (u.Bits = 256))
          (c_ref02_Strength.j3 fu u true)
          (cond (decide (u.Bits = 384))
            (c_ref02_Strength.j3 fu u true)
            (c_ref02_Strength.j3 fu u (decide (u.Bits = 521)))))))
    (cond (decide (u.Alg = 9))
      ((c_ref02_among fu u.Bits ([44, 65, 87] : List Int) ([128, 192, 256] : List Int)).bind fun y_2 =>
      some y_2)
      (cond (decide (u.Alg = 13))
        ((c_ref02_among fu u.Bits ([512, 768, 1024] : List Int) ([128, 192, 256] : List Int)).bind fun y_3 =>
        some y_3)
        (cond (decide (u.Alg = 14))
          ((c_ref02_among fu u.Bits ([40, 128] : List Int) ([40, 60] : List Int)).bind fun y_4 =>
          some y_4)
          (cond (decide (u.Alg = 15))
            ((c_ref02_among fu u.Bits ([112, 168] : List Int) ([80, 112] : List Int)).bind fun y_5 =>
            some y_5)
            (cond (decide (u.Alg = 16))
              (c_ref02_Strength.j4 fu u (decide (u.Alg = 16)))
              (c_ref02_Strength.j4 fu u (decide (u.Alg = 17))))))))
theorem c_ref02_Strength.j2_le (fu : Nat) {u : api_Use} {x15_2 : Bool} : OLe (c_ref02_Strength.j2 fu u x15_2) (g_ref02_Strength.j2 u x15_2) := by
  unfold c_ref02_Strength.j2 g_ref02_Strength.j2
  repeat' (with_reducible first | assumption | apply OLe.bind_ | apply OLe.cond_ | apply OLe.up_ | apply c_ref02_Strength.j3_le | apply c_ref02_among_le | apply c_ref02_Strength.j4_le | exact OLe.refl | intro _)
def c_ref02_Strength.j1 (fu : Nat) (u : api_Use) (x8_1 : Bool) : Option (Int) :=
  cond (x8_1)
    ((c_ref02_modulus fu u.Bits).bind fun y =>
    some y)
    (cond (decide (u.Alg = 7))
      (c_ref02_Strength.j2 fu u (decide (u.Alg = 7)))
      (c_ref02_Strength.j2 fu u (decide (u.Alg = 12))))
theorem c_ref02_Strength.j1_le (fu : Nat) {u : api_Use} {x8_1 : Bool} : OLe (c_ref02_Strength.j1 fu u x8_1) (g_ref02_Strength.j1 u x8_1) := by
  unfold c_ref02_Strength.j1 g_ref02_Strength.j1
  repeat' (with_reducible first | assumption | apply OLe.bind_ | apply OLe.cond_ | apply OLe.up_ | apply c_ref02_modulus_le | apply c_ref02_Strength.j2_le | exact OLe.refl | intro _)
def c_ref02_Strength (fu : Nat) (u : api_Use) : Option (Int) :=
  cond (decide (u.Alg = 5))
    (c_ref02_Strength.j1 fu u (decide (u.Alg = 5)))
    (cond (decide (u.Alg = 6))
      (c_ref02_Strength.j1 fu u (decide (u.Alg = 6)))
      (cond (decide (u.Alg = 10))
        (c_ref02_Strength.j1 fu u (decide (u.Alg = 10)))
        (c_ref02_Strength.j1 fu u (decide (u.Alg = 11)))))
theorem c_ref02_Strength_le (fu : Nat) {u : api_Use} : OLe (c_ref02_Strength fu u) (g_ref02_Strength u) := by
  unfold c_ref02_Strength g_ref02_Strength
  repeat' (with_reducible first | assumption | apply OLe.bind_ | apply OLe.cond_ | apply OLe.up_ | apply c_ref02_Strength.j1_le | exact OLe.refl | intro _)
def c_ref02_Valid (fu : Nat) (u : api_Use) : Option (Bool) :=
  (c_ref02_Strength fu u).bind fun y =>
  some (decide (0 < y))
theorem c_ref02_Valid_le (fu : Nat) {u : api_Use} : OLe (c_ref02_Valid fu u) (g_ref02_Valid u) := by
  unfold c_ref02_Valid g_ref02_Valid
  repeat' (with_reducible first | assumption | apply OLe.bind_ | apply OLe.cond_ | apply OLe.up_ | apply c_ref02_Strength_le | exact OLe.refl | intro _)
def c_ref02_rows (fu : Nat) : Option ((List cipherplanref02_row)) :=
  some ([(cipherplanref02_row.mk (⟨#[]⟩ : ByteArray) 0), (cipherplanref02_row.mk (⟨#[109, 100, 53]⟩ : ByteArray) 1), (cipherplanref02_row.mk (⟨#[115, 104, 97, 49]⟩ : ByteArray) 1), (cipherplanref02_row.mk (⟨#[115, 104, 97, 50, 53, 54]⟩ : ByteArray) 1), (cipherplanref02_row.mk (⟨#[115, 104, 97, 51, 56, 52]⟩ : ByteArray) 1), (cipherplanref02_row.mk (⟨#[114, 115, 97]⟩ : ByteArray) 2), (cipherplanref02_row.mk (⟨#[100, 115, 97]⟩ : ByteArray) 2), (cipherplanref02_row.mk (⟨#[101, 99, 100, 115, 97]⟩ : ByteArray) 2), (cipherplanref02_row.mk (⟨#[101, 100, 50, 53, 53, 49, 57]⟩ : ByteArray) 2), (cipherplanref02_row.mk (⟨#[109, 108, 100, 115, 97]⟩ : ByteArray) 2), (cipherplanref02_row.mk (⟨#[114, 115, 97, 107, 120]⟩ : ByteArray) 3), (cipherplanref02_row.mk (⟨#[100, 104, 101]⟩ : ByteArray) 3), (cipherplanref02_row.mk (⟨#[101, 99, 100, 104, 101]⟩ : ByteArray) 3), (cipherplanref02_row.mk (⟨#[109, 108, 107, 101, 109]⟩ : ByteArray) 3), (cipherplanref02_row.mk (⟨#[114, 99, 52]⟩ : ByteArray) 4), (cipherplanref02_row.mk (⟨#[100, 101, 115, 51]⟩ : ByteArray) 4), (cipherplanref02_row.mk (⟨#[97, 101, 115, 99, 98, 99]⟩ : ByteArray) 4), (cipherplanref02_row.mk (⟨#[97, 101, 115, 103, 99, 109]⟩ : ByteArray) 4), (cipherplanref02_row.mk (⟨#[99, 104, 97, 99, 104, 97]⟩ : ByteArray) 4), (cipherplanref02_row.mk (⟨#[104, 109, 97, 99, 109, 100, 53]⟩ : ByteArray) 5), (cipherplanref02_row.mk (⟨#[104, 109, 97, 99, 115, 104, 97, 49]⟩ : ByteArray) 5), (cipherplanref02_row.mk (⟨#[104, 109, 97, 99, 115, 104, 97, 50, 53, 54]⟩ : ByteArray) 5), (cipherplanref02_row.mk (⟨#[97, 101, 97, 100]⟩ : ByteArray) 5)] : List cipherplanref02_row)
theorem c_ref02_rows_le (fu : Nat) : OLe (c_ref02_rows fu) (g_ref02_rows) := by
  unfold c_ref02_rows g_ref02_rows
  repeat' (with_reducible first | assumption | apply OLe.bind_ | apply OLe.cond_ | apply OLe.up_ | exact OLe.refl | intro _)
def c_ref02_Kind.j1 (fu : Nat) (alg : Int) (x8_1 : Bool) : Option (Int) :=
  cond (x8_1)
    (some 0)
    ((c_ref02_rows fu).bind fun y =>
    (getI y alg).bind fun e =>
    some e.kind)
theorem c_ref02_Kind.j1_le (fu : Nat) {alg : Int} {x8_1 : Bool} : OLe (c_ref02_Kind.j1 fu alg x8_1) (g_ref02_Kind.j1 alg x8_1) := by
  unfold c_ref02_Kind.j1 g_ref02_Kind.j1
  repeat' (with_reducible first | assumption | apply OLe.bind_ | apply OLe.cond_ | apply OLe.up_ | apply c_ref02_rows_le | exact OLe.refl | intro _)
def c_ref02_Kind (fu : Nat) (alg : Int) : Option (Int) :=
  cond (decide (alg < 1))
    (c_ref02_Kind.j1 fu alg true)
    (c_ref02_Kind.j1 fu alg (decide (22 < alg)))
theorem c_ref02_Kind_le (fu : Nat) {alg : Int} : OLe (c_ref02_Kind fu alg) (g_ref02_Kind alg) := by
  unfold c_ref02_Kind g_ref02_Kind
  repeat' (with_reducible first | assumption | apply OLe.bind_ | apply OLe.cond_ | apply OLe.up_ | apply c_ref02_Kind.j1_le | exact OLe.refl | intro _)
def c_ref03_Signature (fu : Nat) (u : api_Use) : Option (Bool) :=
  (c_ref02_Valid fu u).bind fun y =>
  cond (y)
    ((c_ref02_Kind fu u.Alg).bind fun y_2 =>
    some (decide (y_2 = 2)))
    (some false)
theorem c_ref03_Signature_le (fu : Nat) {u : api_Use} : OLe (c_ref03_Signature fu u) (g_ref03_Signature u) := by
  unfold c_ref03_Signature g_ref03_Signature
  repeat' (with_reducible first | assumption | apply OLe.bind_ | apply OLe.cond_ | apply OLe.up_ | apply c_ref02_Valid_le | apply c_ref02_Kind_le | exact OLe.refl | intro _)
def c_ref03_Check.j5 (fu : Nat) (i_4 : Int) (x123_5 : Bool) : Option (Lp (Int) (Int)) :=
  cond (x123_5)
    (up (some 9))
    (some (.next (W (i_4 + 1))))
theorem c_ref03_Check.j5_le (fu : Nat) {i_4 : Int} {x123_5 : Bool} : OLe (c_ref03_Check.j5 fu i_4 x123_5) (g_ref03_Check.j5 i_4 x123_5) := by
  unfold c_ref03_Check.j5 g_ref03_Check.j5
  repeat' (with_reducible first | assumption | apply OLe.bind_ | apply OLe.cond_ | apply OLe.up_ | exact OLe.refl | intro _)
def c_ref03_Check.j6 (fu : Nat) (x145_6 : Bool) : Option (Int) :=
  cond (x145_6)
    (some 9)
    (some 0)
theorem c_ref03_Check.j6_le (fu : Nat) {x145_6 : Bool} : OLe (c_ref03_Check.j6 fu x145_6) (g_ref03_Check.j6 x145_6) := by
  unfold c_ref03_Check.j6 g_ref03_Check.j6
  repeat' (with_reducible first | assumption | apply OLe.bind_ | apply OLe.cond_ | apply OLe.up_ | exact OLe.refl | intro _)
def c_ref03_Check.l4 (fu : Nat) (c : api_Certificate) (i_4 : Int) : Option (Lp (Int) (Int)) :=
  cond (decide (i_4 < (c.Names.length : Int)))
    ((getI c.Names i_4).bind fun e =>
    (c_ref03_Name fu e).bind fun y_6 =>
    cond (!y_6)
      (c_ref03_Check.j5 fu i_4 true)
      (cond (decide (0 < i_4))
        ((getI c.Names (W (i_4 - 1))).bind fun e_2 =>
        c_ref03_Check.j5 fu i_4 (!ltT (toB e_2) (toB e)))
        (c_ref03_Check.j5 fu i_4 false)))
    (up (
      cond (decide (c.Seal.Key < 0))
        (c_ref03_Check.j6 fu true)
        (cond (decide (2147483648 < c.Seal.Key))
          (c_ref03_Check.j6 fu true)
          (cond (decide (c.Seal.Sum < 0))
            (c_ref03_Check.j6 fu true)
            (c_ref03_Check.j6 fu (decide (4294967296 ≤ c.Seal.Sum)))))))
theorem c_ref03_Check.l4_le (fu : Nat) {c : api_Certificate} {i_4 : Int} : OLe (c_ref03_Check.l4 fu c i_4) (g_ref03_Check.l4 c i_4) := by
  unfold c_ref03_Check.l4 g_ref03_Check.l4
  repeat' (with_reducible first | assumption | apply OLe.bind_ | apply OLe.cond_ | apply OLe.up_ | apply c_ref03_Name_le | apply c_ref03_Check.j5_le | apply c_ref03_Check.j6_le | exact OLe.refl | intro _)
def c_ref03_Check.j3 (fu : Nat) (c : api_Certificate) (x91_3 : Bool) : Option (Int) :=
  cond (x91_3)
    (some 9)
    (loopC fu (fun q' => c_ref03_Check.l4 fu c q') 0)
theorem c_ref03_Check.j3_le (fu : Nat) {c : api_Certificate} {x91_3 : Bool} : OLe (c_ref03_Check.j3 fu c x91_3) (g_ref03_Check.j3 c x91_3) := by
  unfold c_ref03_Check.j3 g_ref03_Check.j3
  repeat' (with_reducible first | assumption | apply OLe.bind_ | apply OLe.cond_ | apply OLe.up_ | apply c_ref03_Check.l4_le | (refine OLe.lpC _ (fun _ => ?_) _) | exact OLe.refl | intro _)
def c_ref03_Check.j2 (fu : Nat) (c : api_Certificate) (x67_2 : Bool) : Option (Int) :=
  cond (x67_2)
    (some 9)
    (cond (decide (c.Path < 0))
      (c_ref03_Check.j3 fu c true)
      (cond (decide (8 < c.Path))
        (c_ref03_Check.j3 fu c true)
        (cond (!c.Authority)
          (cond (!decide (c.Path = 0))
            (c_ref03_Check.j3 fu c true)
            (c_ref03_Check.j3 fu c (decide (8 < (c.Names.length : Int)))))
          (c_ref03_Check.j3 fu c (decide (8 < (c.Names.length : Int)))))))
theorem c_ref03_Check.j2_le (fu : Nat) {c : api_Certificate} {x67_2 : Bool} : OLe (c_ref03_Check.j2 fu c x67_2) (g_ref03_Check.j2 c x67_2) := by
  unfold c_ref03_Check.j2 g_ref03_Check.j2
  repeat' (with_reducible first | assumption | apply OLe.bind_ | apply OLe.cond_ | apply OLe.up_ | apply c_ref03_Check.j3_le | exact OLe.refl | intro _)
def c_ref03_Check.j1 (fu : Nat) (c : api_Certificate) (x39_1 : Bool) : Option (Int) :=
  cond (x39_1)
    (some 9)
    ((c_ref02_Valid fu c.Hash).bind fun y_4 =>
    cond (!y_4)
      (c_ref03_Check.j2 fu c true)
      ((c_ref02_Kind fu c.Hash.Alg).bind fun y_5 =>
      cond (!decide (y_5 = 1))
        (c_ref03_Check.j2 fu c true)
        (cond (decide (c.From < 0))
          (c_ref03_Check.j2 fu c true)
          (cond (decide (c.To < c.From))
            (c_ref03_Check.j2 fu c true)
            (c_ref03_Check.j2 fu c (decide (40000 < c.To)))))))
theorem c_ref03_Check.j1_le (fu : Nat) {c : api_Certificate} {x39_1 : Bool} : OLe (c_ref03_Check.j1 fu c x39_1) (g_ref03_Check.j1 c x39_1) := by
  unfold c_ref03_Check.j1 g_ref03_Check.j1
  repeat' (with_reducible first | assumption | apply OLe.bind_ | apply OLe.cond_ | apply OLe.up_ | apply c_ref02_Valid_le | apply c_ref03_Check.j2_le | apply c_ref02_Kind_le | exact OLe.refl | intro _)
def c_ref03_Check (fu : Nat) (c : api_Certificate) : Option (Int) :=
  cond (decide (c.Serial < 0))
    (c_ref03_Check.j1 fu c true)
    (cond (decide (1099511627776 < c.Serial))
      (c_ref03_Check.j1 fu c true)
      ((c_ref03_Name fu c.Issuer).bind fun y =>
      cond (!y)
        (c_ref03_Check.j1 fu c true)
        ((c_ref03_Name fu c.Subject).bind fun y_2 =>
        cond (!y_2)
          (c_ref03_Check.j1 fu c true)
          ((c_ref03_Signature fu c.Key).bind fun y_3 =>
          cond (!y_3)
            (c_ref03_Check.j1 fu c true)
            (cond (decide (c.KeyId < 0))
              (c_ref03_Check.j1 fu c true)
              (c_ref03_Check.j1 fu c (decide (2147483648 < c.KeyId))))))))
theorem c_ref03_Check_le (fu : Nat) {c : api_Certificate} : OLe (c_ref03_Check fu c) (g_ref03_Check c) := by
  unfold c_ref03_Check g_ref03_Check
  repeat' (with_reducible first | assumption | apply OLe.bind_ | apply OLe.cond_ | apply OLe.up_ | apply c_ref03_Check.j1_le | apply c_ref03_Name_le | apply c_ref03_Signature_le | exact OLe.refl | intro _)
def c_ref01_Text (fu : Nat) (s : ByteArray) : Option (api_Value) :=
  some (api_Value.mk 12 (toB s) false ([] : (List api_Value)))
theorem c_ref01_Text_le (fu : Nat) {s : ByteArray} : OLe (c_ref01_Text fu s) (g_ref01_Text s) := by
  unfold c_ref01_Text g_ref01_Text
  repeat' (with_reducible first | assumption | apply OLe.bind_ | apply OLe.cond_ | apply OLe.up_ | exact OLe.refl | intro _)
def c_ref01_Int.j2 (fu : Nat) (x_1 : Int) (b_1 : List UInt8) (x35_2 : Bool) : Option (Lp (Int × List UInt8) (api_Value)) :=
  cond (x35_2)
    ((appI 1 ([(u8 x_1)] : List UInt8) b_1).bind fun l =>
    (shrK .i64 x_1 8).bind fun q_2 =>
    some (.next (q_2, l)))
    (up (
      some (api_Value.mk 2 b_1 false ([] : (List api_Value)))))
theorem c_ref01_Int.j2_le (fu : Nat) {x_1 : Int} {b_1 : List UInt8} {x35_2 : Bool} : OLe (c_ref01_Int.j2 fu x_1 b_1 x35_2) (g_ref01_Int.j2 x_1 b_1 x35_2) := by
  unfold c_ref01_Int.j2 g_ref01_Int.j2
  repeat' (with_reducible first | assumption | apply OLe.bind_ | apply OLe.cond_ | apply OLe.up_ | exact OLe.refl | intro _)
def c_ref01_Int.l1 (fu : Nat) (x_1 : Int) (b_1 : List UInt8) : Option (Lp (Int × List UInt8) (api_Value)) :=
  cond (!decide (x_1 = 0))
    (cond (!decide (x_1 = (-1)))
      (c_ref01_Int.j2 fu x_1 b_1 true)
      (cond (decide (x_1 = 0))
        ((getI b_1 0).bind fun e =>
        cond (decide (128 ≤ (e.toNat : Int)))
          (c_ref01_Int.j2 fu x_1 b_1 true)
          (cond (decide (x_1 = (-1)))
            (c_ref01_Int.j2 fu x_1 b_1 (decide ((e.toNat : Int) < 128)))
            (c_ref01_Int.j2 fu x_1 b_1 false)))
        (cond (decide (x_1 = (-1)))
          ((getI b_1 0).bind fun e_2 =>
          c_ref01_Int.j2 fu x_1 b_1 (decide ((e_2.toNat : Int) < 128)))
          (c_ref01_Int.j2 fu x_1 b_1 false))))
    (cond (decide (x_1 = 0))
      ((getI b_1 0).bind fun e_3 =>
      cond (decide (128 ≤ (e_3.toNat : Int)))
        (c_ref01_Int.j2 fu x_1 b_1 true)
        (cond (decide (x_1 = (-1)))
          (c_ref01_Int.j2 fu x_1 b_1 (decide ((e_3.toNat : Int) < 128)))
          (c_ref01_Int.j2 fu x_1 b_1 false)))
      (cond (decide (x_1 = (-1)))
        ((getI b_1 0).bind fun e_4 =>
        c_ref01_Int.j2 fu x_1 b_1 (decide ((e_4.toNat : Int) < 128)))
        (c_ref01_Int.j2 fu x_1 b_1 false)))
theorem c_ref01_Int.l1_le (fu : Nat) {x_1 : Int} {b_1 : List UInt8} : OLe (c_ref01_Int.l1 fu x_1 b_1) (g_ref01_Int.l1 x_1 b_1) := by
  unfold c_ref01_Int.l1 g_ref01_Int.l1
  repeat' (with_reducible first | assumption | apply OLe.bind_ | apply OLe.cond_ | apply OLe.up_ | apply c_ref01_Int.j2_le | exact OLe.refl | intro _)
def c_ref01_Int (fu : Nat) (n : Int) : Option (api_Value) :=
  (shrK .i64 n 8).bind fun q =>
  loopC fu (fun q' => c_ref01_Int.l1 fu q'.1 q'.2) (q, ([(u8 n)] : List UInt8))
theorem c_ref01_Int_le (fu : Nat) {n : Int} : OLe (c_ref01_Int fu n) (g_ref01_Int n) := by
  unfold c_ref01_Int g_ref01_Int
  repeat' (with_reducible first | assumption | apply OLe.bind_ | apply OLe.cond_ | apply OLe.up_ | apply c_ref01_Int.l1_le | (refine OLe.lpC _ (fun _ => ?_) _) | exact OLe.refl | intro _)
def c_ref01_copies.l1 (fu : Nat) (rec : (List api_Value) → Option ((List api_Value))) (l : (List api_Value)) (i_1 : Int) (out_1 : List api_Value) : Option (Lp (Int × List api_Value) ((List api_Value))) :=
  cond (decide (i_1 < (l.length : Int)))
    ((getI l i_1).bind fun e =>
    (appI 1 ([] : List UInt8) e.Bytes).bind fun l_2 =>
    (rec e.Elements).bind fun y =>
    (appI 256 out_1 ([(api_Value.mk e.Tag l_2 e.Nested y)] : List api_Value)).bind fun l_3 =>
    some (.next (W (i_1 + 1), l_3)))
    (up (
      some out_1))
theorem m_ref01_copies.l1 {rec : (List api_Value) → Option ((List api_Value))} {l : (List api_Value)} {i_1 : Int} {out_1 : List api_Value} {rec_p : (List api_Value) → Option ((List api_Value))} (h_rec : ∀ (x0 : (List api_Value)), OLe (rec x0) (rec_p x0)) : OLe (g_ref01_copies.l1 rec l i_1 out_1) (g_ref01_copies.l1 rec_p l i_1 out_1) := by
  unfold g_ref01_copies.l1
  repeat' (with_reducible first | assumption | apply OLe.bind_ | apply OLe.cond_ | apply OLe.up_ | apply h_rec | exact OLe.refl | intro _)
theorem c_ref01_copies.l1_le (fu : Nat) {rec : (List api_Value) → Option ((List api_Value))} {l : (List api_Value)} {i_1 : Int} {out_1 : List api_Value} {rec_p : (List api_Value) → Option ((List api_Value))} (h_rec : ∀ (x0 : (List api_Value)), OLe (rec x0) (rec_p x0)) : OLe (c_ref01_copies.l1 fu rec l i_1 out_1) (g_ref01_copies.l1 rec_p l i_1 out_1) := by
  unfold c_ref01_copies.l1 g_ref01_copies.l1
  repeat' (with_reducible first | assumption | apply OLe.bind_ | apply OLe.cond_ | apply OLe.up_ | apply h_rec | exact OLe.refl | intro _)
def c_ref01_copies.F (fu : Nat) (rec : (List api_Value) → Option ((List api_Value))) (l : (List api_Value)) : Option ((List api_Value)) :=
  loopC fu (fun q' => c_ref01_copies.l1 fu rec l q'.1 q'.2) (0, ([] : List api_Value))
theorem m_ref01_copies.F {rec : (List api_Value) → Option ((List api_Value))} {l : (List api_Value)} {rec_p : (List api_Value) → Option ((List api_Value))} (h_rec : ∀ (x0 : (List api_Value)), OLe (rec x0) (rec_p x0)) : OLe (g_ref01_copies.F rec l) (g_ref01_copies.F rec_p l) := by
  unfold g_ref01_copies.F
  repeat' (with_reducible first | assumption | apply OLe.bind_ | apply OLe.cond_ | apply OLe.up_ | apply h_rec | apply m_ref01_copies.l1 | (refine OLe.lp (fun _ => ?_) _) | exact OLe.refl | intro _)
theorem c_ref01_copies.F_le (fu : Nat) {rec : (List api_Value) → Option ((List api_Value))} {l : (List api_Value)} {rec_p : (List api_Value) → Option ((List api_Value))} (h_rec : ∀ (x0 : (List api_Value)), OLe (rec x0) (rec_p x0)) : OLe (c_ref01_copies.F fu rec l) (g_ref01_copies.F rec_p l) := by
  unfold c_ref01_copies.F g_ref01_copies.F
  repeat' (with_reducible first | assumption | apply OLe.bind_ | apply OLe.cond_ | apply OLe.up_ | apply h_rec | apply c_ref01_copies.l1_le | (refine OLe.lpC _ (fun _ => ?_) _) | exact OLe.refl | intro _)
def c_ref01_copies (fu : Nat) (l : (List api_Value)) : Option ((List api_Value)) := fixC fu (fun rec (x : (List api_Value)) => c_ref01_copies.F fu (fun l => rec l) x) l
theorem mono_ref01_copies : MonoF (fun rec (x : (List api_Value)) => g_ref01_copies.F (fun l => rec l) x) := fun p q h a => by
  apply m_ref01_copies.F
  intros
  apply h
theorem c_ref01_copies_le (fu : Nat) {l : (List api_Value)} : OLe (c_ref01_copies fu l) (g_ref01_copies l) := by
  unfold c_ref01_copies g_ref01_copies
  refine OLe.fx _ ?_ mono_ref01_copies _
  intro p q h a
  apply c_ref01_copies.F_le
  intros
  apply h
def c_ref01_List (fu : Nat) (l : (List api_Value)) : Option (api_Value) :=
  (c_ref01_copies fu l).bind fun y =>
  some (api_Value.mk 48 ([] : (List UInt8)) true y)
theorem c_ref01_List_le (fu : Nat) {l : (List api_Value)} : OLe (c_ref01_List fu l) (g_ref01_List l) := by
  unfold c_ref01_List g_ref01_List
  repeat' (with_reducible first | assumption | apply OLe.bind_ | apply OLe.cond_ | apply OLe.up_ | apply c_ref01_copies_le | exact OLe.refl | intro _)
def c_ref03_use (fu : Nat) (u : api_Use) : Option (api_Value) :=
  (c_ref01_Int fu u.Alg).bind fun y =>
  (c_ref01_Int fu u.Bits).bind fun y_2 =>
  (c_ref01_List fu ([y, y_2] : List api_Value)).bind fun y_3 =>
  some y_3
theorem c_ref03_use_le (fu : Nat) {u : api_Use} : OLe (c_ref03_use fu u) (g_ref03_use u) := by
  unfold c_ref03_use g_ref03_use
  repeat' (with_reducible first | assumption | apply OLe.bind_ | apply OLe.cond_ | apply OLe.up_ | apply c_ref01_Int_le | apply c_ref01_List_le | exact OLe.refl | intro _)
def c_ref01_Bool (fu : Nat) (b : Bool) : Option (api_Value) :=
  cond (b)
    (some (api_Value.mk 1 ([(255 : UInt8)] : List UInt8) false ([] : (List api_Value))))
    (some (api_Value.mk 1 ([(0 : UInt8)] : List UInt8) false ([] : (List api_Value))))
theorem c_ref01_Bool_le (fu : Nat) {b : Bool} : OLe (c_ref01_Bool fu b) (g_ref01_Bool b) := by
  unfold c_ref01_Bool g_ref01_Bool
  repeat' (with_reducible first | assumption | apply OLe.bind_ | apply OLe.cond_ | apply OLe.up_ | exact OLe.refl | intro _)
def c_ref03_body.l1 (fu : Nat) (c : api_Certificate) (i_1 : Int) (names_1 : List api_Value) : Option (Lp (Int × List api_Value) (api_Value)) :=
  cond (decide (i_1 < (c.Names.length : Int)))
    ((getI c.Names i_1).bind fun e =>
    (c_ref01_Text fu e).bind fun y =>
    (appI 256 names_1 ([y] : List api_Value)).bind fun l =>
    some (.next (W (i_1 + 1), l)))
    (up (
      (c_ref01_Int fu c.Serial).bind fun y_12 =>
      (c_ref01_Text fu c.Issuer).bind fun y_13 =>
      (c_ref01_Text fu c.Subject).bind fun y_14 =>
      (c_ref03_use fu c.Key).bind fun y_15 =>
      (c_ref01_Int fu c.KeyId).bind fun y_16 =>
      (c_ref03_use fu c.Hash).bind fun y_17 =>
      (c_ref01_Int fu c.From).bind fun y_18 =>
      (c_ref01_Int fu c.To).bind fun y_19 =>
      (c_ref01_Bool fu c.Authority).bind fun y_20 =>
      (c_ref01_Int fu c.Path).bind fun y_21 =>
      (c_ref01_List fu names_1).bind fun y_22 =>
      (c_ref01_List fu ([y_12, y_13, y_14, y_15, y_16, y_17, y_18, y_19, y_20, y_21, y_22] : List api_Value)).bind fun y_23 =>
      some y_23))
theorem c_ref03_body.l1_le (fu : Nat) {c : api_Certificate} {i_1 : Int} {names_1 : List api_Value} : OLe (c_ref03_body.l1 fu c i_1 names_1) (g_ref03_body.l1 c i_1 names_1) := by
  unfold c_ref03_body.l1 g_ref03_body.l1
  repeat' (with_reducible first | assumption | apply OLe.bind_ | apply OLe.cond_ | apply OLe.up_ | apply c_ref01_Text_le | apply c_ref01_Int_le | apply c_ref03_use_le | apply c_ref01_Bool_le | apply c_ref01_List_le | exact OLe.refl | intro _)
def c_ref03_body (fu : Nat) (c : api_Certificate) : Option (api_Value) :=
  loopC fu (fun q' => c_ref03_body.l1 fu c q'.1 q'.2) (0, ([] : List api_Value))
theorem c_ref03_body_le (fu : Nat) {c : api_Certificate} : OLe (c_ref03_body fu c) (g_ref03_body c) := by
  unfold c_ref03_body g_ref03_body
  repeat' (with_reducible first | assumption | apply OLe.bind_ | apply OLe.cond_ | apply OLe.up_ | apply c_ref03_body.l1_le | (refine OLe.lpC _ (fun _ => ?_) _) | exact OLe.refl | intro _)
def c_ref01_tag (fu : Nat) (n : Int) : Option (Bool) :=
  cond (decide (1 ≤ n))
    (cond (decide (n ≤ 255))
      ((remI n 32).bind fun q =>
      some (!decide (q = 31)))
      (some false))
    (some false)
theorem c_ref01_tag_le (fu : Nat) {n : Int} : OLe (c_ref01_tag fu n) (g_ref01_tag n) := by
  unfold c_ref01_tag g_ref01_tag
  repeat' (with_reducible first | assumption | apply OLe.bind_ | apply OLe.cond_ | apply OLe.up_ | exact OLe.refl | intro _)
def c_ref01_formed.l2 (fu : Nat) (rec : api_Value → Option (Bool)) (v : api_Value) (i_2 : Int) : Option (Lp (Int) (Bool)) :=
  cond (decide (i_2 < (v.Elements.length : Int)))
    ((getI v.Elements i_2).bind fun e =>
    (rec e).bind fun y_2 =>
    cond (!y_2)
      (up (some false))
      (some (.next (W (i_2 + 1)))))
    (up (
      some true))
theorem m_ref01_formed.l2 {rec : api_Value → Option (Bool)} {v : api_Value} {i_2 : Int} {rec_p : api_Value → Option (Bool)} (h_rec : ∀ (x0 : api_Value), OLe (rec x0) (rec_p x0)) : OLe (g_ref01_formed.l2 rec v i_2) (g_ref01_formed.l2 rec_p v i_2) := by
  unfold g_ref01_formed.l2
  repeat' (with_reducible first | assumption | apply OLe.bind_ | apply OLe.cond_ | apply OLe.up_ | apply h_rec | exact OLe.refl | intro _)
theorem c_ref01_formed.l2_le (fu : Nat) {rec : api_Value → Option (Bool)} {v : api_Value} {i_2 : Int} {rec_p : api_Value → Option (Bool)} (h_rec : ∀ (x0 : api_Value), OLe (rec x0) (rec_p x0)) : OLe (c_ref01_formed.l2 fu rec v i_2) (g_ref01_formed.l2 rec_p v i_2) := by
  unfold c_ref01_formed.l2 g_ref01_formed.l2
  repeat' (with_reducible first | assumption | apply OLe.bind_ | apply OLe.cond_ | apply OLe.up_ | apply h_rec | exact OLe.refl | intro _)
def c_ref01_formed.j1 (fu : Nat) (rec : api_Value → Option (Bool)) (v : api_Value) (x38_1 : Bool) : Option (Bool) :=
  cond (x38_1)
    (some false)
    (loopC fu (fun q' => c_ref01_formed.l2 fu rec v q') 0)
theorem m_ref01_formed.j1 {rec : api_Value → Option (Bool)} {v : api_Value} {x38_1 : Bool} {rec_p : api_Value → Option (Bool)} (h_rec : ∀ (x0 : api_Value), OLe (rec x0) (rec_p x0)) : OLe (g_ref01_formed.j1 rec v x38_1) (g_ref01_formed.j1 rec_p v x38_1) := by
  unfold g_ref01_formed.j1
  repeat' (with_reducible first | assumption | apply OLe.bind_ | apply OLe.cond_ | apply OLe.up_ | apply h_rec | apply m_ref01_formed.l2 | (refine OLe.lp (fun _ => ?_) _) | exact OLe.refl | intro _)
theorem c_ref01_formed.j1_le (fu : Nat) {rec : api_Value → Option (Bool)} {v : api_Value} {x38_1 : Bool} {rec_p : api_Value → Option (Bool)} (h_rec : ∀ (x0 : api_Value), OLe (rec x0) (rec_p x0)) : OLe (c_ref01_formed.j1 fu rec v x38_1) (g_ref01_formed.j1 rec_p v x38_1) := by
  unfold c_ref01_formed.j1 g_ref01_formed.j1
  repeat' (with_reducible first | assumption | apply OLe.bind_ | apply OLe.cond_ | apply OLe.up_ | apply h_rec | apply c_ref01_formed.l2_le | (refine OLe.lpC _ (fun _ => ?_) _) | exact OLe.refl | intro _)
def c_ref01_formed.F (fu : Nat) (rec : api_Value → Option (Bool)) (v : api_Value) : Option (Bool) :=
  (c_ref01_tag fu v.Tag).bind fun y =>
  cond (!y)
    (c_ref01_formed.j1 fu rec v true)
    ((quoI v.Tag 32).bind fun q =>
    (remI q 2).bind fun q_2 =>
    cond (!decide (v.Nested = (decide (q_2 = 1))))
      (c_ref01_formed.j1 fu rec v true)
      (cond (v.Nested)
        (cond (decide (0 < (v.Bytes.length : Int)))
          (c_ref01_formed.j1 fu rec v true)
          (c_ref01_formed.j1 fu rec v false))
        (c_ref01_formed.j1 fu rec v (decide (0 < (v.Elements.length : Int))))))
theorem m_ref01_formed.F {rec : api_Value → Option (Bool)} {v : api_Value} {rec_p : api_Value → Option (Bool)} (h_rec : ∀ (x0 : api_Value), OLe (rec x0) (rec_p x0)) : OLe (g_ref01_formed.F rec v) (g_ref01_formed.F rec_p v) := by
  unfold g_ref01_formed.F
  repeat' (with_reducible first | assumption | apply OLe.bind_ | apply OLe.cond_ | apply OLe.up_ | apply h_rec | apply m_ref01_formed.j1 | exact OLe.refl | intro _)
theorem c_ref01_formed.F_le (fu : Nat) {rec : api_Value → Option (Bool)} {v : api_Value} {rec_p : api_Value → Option (Bool)} (h_rec : ∀ (x0 : api_Value), OLe (rec x0) (rec_p x0)) : OLe (c_ref01_formed.F fu rec v) (g_ref01_formed.F rec_p v) := by
  unfold c_ref01_formed.F g_ref01_formed.F
  repeat' (with_reducible first | assumption | apply OLe.bind_ | apply OLe.cond_ | apply OLe.up_ | apply h_rec | apply c_ref01_tag_le | apply c_ref01_formed.j1_le | exact OLe.refl | intro _)
def c_ref01_formed (fu : Nat) (v : api_Value) : Option (Bool) := fixC fu (fun rec (x : api_Value) => c_ref01_formed.F fu (fun v => rec v) x) v
theorem mono_ref01_formed : MonoF (fun rec (x : api_Value) => g_ref01_formed.F (fun v => rec v) x) := fun p q h a => by
  apply m_ref01_formed.F
  intros
  apply h
theorem c_ref01_formed_le (fu : Nat) {v : api_Value} : OLe (c_ref01_formed fu v) (g_ref01_formed v) := by
  unfold c_ref01_formed g_ref01_formed
  refine OLe.fx _ ?_ mono_ref01_formed _
  intro p q h a
  apply c_ref01_formed.F_le
  intros
  apply h
def c_ref01_depth.l1 (fu : Nat) (rec : api_Value → Option (Int)) (v : api_Value) (d_1 : Int) (i_1 : Int) : Option (Lp (Int × Int) (Int)) :=
  cond (decide (i_1 < (v.Elements.length : Int)))
    ((getI v.Elements i_1).bind fun e =>
    (rec e).bind fun y =>
    some (.next (max d_1 y, W (i_1 + 1))))
    (up (
      some (W (d_1 + 1))))
theorem m_ref01_depth.l1 {rec : api_Value → Option (Int)} {v : api_Value} {d_1 : Int} {i_1 : Int} {rec_p : api_Value → Option (Int)} (h_rec : ∀ (x0 : api_Value), OLe (rec x0) (rec_p x0)) : OLe (g_ref01_depth.l1 rec v d_1 i_1) (g_ref01_depth.l1 rec_p v d_1 i_1) := by
  unfold g_ref01_depth.l1
  repeat' (with_reducible first | assumption | apply OLe.bind_ | apply OLe.cond_ | apply OLe.up_ | apply h_rec | exact OLe.refl | intro _)
theorem c_ref01_depth.l1_le (fu : Nat) {rec : api_Value → Option (Int)} {v : api_Value} {d_1 : Int} {i_1 : Int} {rec_p : api_Value → Option (Int)} (h_rec : ∀ (x0 : api_Value), OLe (rec x0) (rec_p x0)) : OLe (c_ref01_depth.l1 fu rec v d_1 i_1) (g_ref01_depth.l1 rec_p v d_1 i_1) := by
  unfold c_ref01_depth.l1 g_ref01_depth.l1
  repeat' (with_reducible first | assumption | apply OLe.bind_ | apply OLe.cond_ | apply OLe.up_ | apply h_rec | exact OLe.refl | intro _)
def c_ref01_depth.F (fu : Nat) (rec : api_Value → Option (Int)) (v : api_Value) : Option (Int) :=
  loopC fu (fun q' => c_ref01_depth.l1 fu rec v q'.1 q'.2) (0, 0)
theorem m_ref01_depth.F {rec : api_Value → Option (Int)} {v : api_Value} {rec_p : api_Value → Option (Int)} (h_rec : ∀ (x0 : api_Value), OLe (rec x0) (rec_p x0)) : OLe (g_ref01_depth.F rec v) (g_ref01_depth.F rec_p v) := by
  unfold g_ref01_depth.F
  repeat' (with_reducible first | assumption | apply OLe.bind_ | apply OLe.cond_ | apply OLe.up_ | apply h_rec | apply m_ref01_depth.l1 | (refine OLe.lp (fun _ => ?_) _) | exact OLe.refl | intro _)
theorem c_ref01_depth.F_le (fu : Nat) {rec : api_Value → Option (Int)} {v : api_Value} {rec_p : api_Value → Option (Int)} (h_rec : ∀ (x0 : api_Value), OLe (rec x0) (rec_p x0)) : OLe (c_ref01_depth.F fu rec v) (g_ref01_depth.F rec_p v) := by
  unfold c_ref01_depth.F g_ref01_depth.F
  repeat' (with_reducible first | assumption | apply OLe.bind_ | apply OLe.cond_ | apply OLe.up_ | apply h_rec | apply c_ref01_depth.l1_le | (refine OLe.lpC _ (fun _ => ?_) _) | exact OLe.refl | intro _)
def c_ref01_depth (fu : Nat) (v : api_Value) : Option (Int) := fixC fu (fun rec (x : api_Value) => c_ref01_depth.F fu (fun v => rec v) x) v
theorem mono_ref01_depth : MonoF (fun rec (x : api_Value) => g_ref01_depth.F (fun v => rec v) x) := fun p q h a => by
  apply m_ref01_depth.F
  intros
  apply h
theorem c_ref01_depth_le (fu : Nat) {v : api_Value} : OLe (c_ref01_depth fu v) (g_ref01_depth v) := by
  unfold c_ref01_depth g_ref01_depth
  refine OLe.fx _ ?_ mono_ref01_depth _
  intro p q h a
  apply c_ref01_depth.F_le
  intros
  apply h
def c_ref01_length.l1 (fu : Nat) (n_1 : Int) (b_1 : List UInt8) : Option (Lp (Int × List UInt8) ((List UInt8))) :=
  cond (decide (0 < n_1))
    ((remI n_1 256).bind fun q =>
    (appI 1 ([(u8 q)] : List UInt8) b_1).bind fun l =>
    (quoI n_1 256).bind fun q_2 =>
    some (.next (q_2, l)))
    (up (
      (appI 1 ([(u8 (W (128 + (b_1.length : Int))))] : List UInt8) b_1).bind fun l_2 =>
      some l_2))
theorem c_ref01_length.l1_le (fu : Nat) {n_1 : Int} {b_1 : List UInt8} : OLe (c_ref01_length.l1 fu n_1 b_1) (g_ref01_length.l1 n_1 b_1) := by
  unfold c_ref01_length.l1 g_ref01_length.l1
  repeat' (with_reducible first | assumption | apply OLe.bind_ | apply OLe.cond_ | apply OLe.up_ | exact OLe.refl | intro _)
def c_ref01_length (fu : Nat) (n : Int) : Option ((List UInt8)) :=
  cond (decide (n < 128))
    (some ([(u8 n)] : List UInt8))
    (loopC fu (fun q' => c_ref01_length.l1 fu q'.1 q'.2) (n, ([] : List UInt8)))
theorem c_ref01_length_le (fu : Nat) {n : Int} : OLe (c_ref01_length fu n) (g_ref01_length n) := by
  unfold c_ref01_length g_ref01_length
  repeat' (with_reducible first | assumption | apply OLe.bind_ | apply OLe.cond_ | apply OLe.up_ | apply c_ref01_length.l1_le | (refine OLe.lpC _ (fun _ => ?_) _) | exact OLe.refl | intro _)
def c_ref01_put.l1 (fu : Nat) (rec : api_Value → Option ((List UInt8))) (v : api_Value) (i_1 : Int) (b_1 : List UInt8) : Option (Lp (Int × List UInt8) ((List UInt8))) :=
  cond (decide (i_1 < (v.Elements.length : Int)))
    ((getI v.Elements i_1).bind fun e =>
    (rec e).bind fun y =>
    (appI 1 b_1 y).bind fun l_2 =>
    some (.next (W (i_1 + 1), l_2)))
    (up (
      (c_ref01_length fu (b_1.length : Int)).bind fun y_2 =>
      (appI 1 ([(u8 v.Tag)] : List UInt8) y_2).bind fun l_3 =>
      (appI 1 l_3 b_1).bind fun l_4 =>
      some l_4))
theorem m_ref01_put.l1 {rec : api_Value → Option ((List UInt8))} {v : api_Value} {i_1 : Int} {b_1 : List UInt8} {rec_p : api_Value → Option ((List UInt8))} (h_rec : ∀ (x0 : api_Value), OLe (rec x0) (rec_p x0)) : OLe (g_ref01_put.l1 rec v i_1 b_1) (g_ref01_put.l1 rec_p v i_1 b_1) := by
  unfold g_ref01_put.l1
  repeat' (with_reducible first | assumption | apply OLe.bind_ | apply OLe.cond_ | apply OLe.up_ | apply h_rec | exact OLe.refl | intro _)
theorem c_ref01_put.l1_le (fu : Nat) {rec : api_Value → Option ((List UInt8))} {v : api_Value} {i_1 : Int} {b_1 : List UInt8} {rec_p : api_Value → Option ((List UInt8))} (h_rec : ∀ (x0 : api_Value), OLe (rec x0) (rec_p x0)) : OLe (c_ref01_put.l1 fu rec v i_1 b_1) (g_ref01_put.l1 rec_p v i_1 b_1) := by
  unfold c_ref01_put.l1 g_ref01_put.l1
  repeat' (with_reducible first | assumption | apply OLe.bind_ | apply OLe.cond_ | apply OLe.up_ | apply h_rec | apply c_ref01_length_le | exact OLe.refl | intro _)
def c_ref01_put.F (fu : Nat) (rec : api_Value → Option ((List UInt8))) (v : api_Value) : Option ((List UInt8)) :=
  (appI 1 ([] : List UInt8) v.Bytes).bind fun l =>
  loopC fu (fun q' => c_ref01_put.l1 fu rec v q'.1 q'.2) (0, l)
theorem m_ref01_put.F {rec : api_Value → Option ((List UInt8))} {v : api_Value} {rec_p : api_Value → Option ((List UInt8))} (h_rec : ∀ (x0 : api_Value), OLe (rec x0) (rec_p x0)) : OLe (g_ref01_put.F rec v) (g_ref01_put.F rec_p v) := by
  unfold g_ref01_put.F
  repeat' (with_reducible first | assumption | apply OLe.bind_ | apply OLe.cond_ | apply OLe.up_ | apply h_rec | apply m_ref01_put.l1 | (refine OLe.lp (fun _ => ?_) _) | exact OLe.refl | intro _)
theorem c_ref01_put.F_le (fu : Nat) {rec : api_Value → Option ((List UInt8))} {v : api_Value} {rec_p : api_Value → Option ((List UInt8))} (h_rec : ∀ (x0 : api_Value), OLe (rec x0) (rec_p x0)) : OLe (c_ref01_put.F fu rec v) (g_ref01_put.F rec_p v) := by
  unfold c_ref01_put.F g_ref01_put.F
  repeat' (with_reducible first | assumption | apply OLe.bind_ | apply OLe.cond_ | apply OLe.up_ | apply h_rec | apply c_ref01_put.l1_le | (refine OLe.lpC _ (fun _ => ?_) _) | exact OLe.refl | intro _)
def c_ref01_put (fu : Nat) (v : api_Value) : Option ((List UInt8)) := fixC fu (fun rec (x : api_Value) => c_ref01_put.F fu (fun v => rec v) x) v
theorem mono_ref01_put : MonoF (fun rec (x : api_Value) => g_ref01_put.F (fun v => rec v) x) := fun p q h a => by
  apply m_ref01_put.F
  intros
  apply h
theorem c_ref01_put_le (fu : Nat) {v : api_Value} : OLe (c_ref01_put fu v) (g_ref01_put v) := by
  unfold c_ref01_put g_ref01_put
  refine OLe.fx _ ?_ mono_ref01_put _
  intro p q h a
  apply c_ref01_put.F_le
  intros
  apply h
def c_ref01_Encode (fu : Nat) (v : api_Value) : Option ((List UInt8) × Int) :=
  (c_ref01_formed fu v).bind fun y =>
  cond (!y)
    (some (([] : (List UInt8)), 1))
    ((c_ref01_depth fu v).bind fun y_2 =>
    cond (decide (16 < y_2))
      (some (([] : (List UInt8)), 3))
      ((c_ref01_put fu v).bind fun y_3 =>
      cond (decide (4096 < (y_3.length : Int)))
        (some (([] : (List UInt8)), 3))
        (some (y_3, 0))))
theorem c_ref01_Encode_le (fu : Nat) {v : api_Value} : OLe (c_ref01_Encode fu v) (g_ref01_Encode v) := by
  unfold c_ref01_Encode g_ref01_Encode
  repeat' (with_reducible first | assumption | apply OLe.bind_ | apply OLe.cond_ | apply OLe.up_ | apply c_ref01_formed_le | apply c_ref01_depth_le | apply c_ref01_put_le | exact OLe.refl | intro _)
def c_ref03_Bytes (fu : Nat) (c : api_Certificate) : Option ((List UInt8) × Int) :=
  (c_ref03_Check fu c).bind fun y =>
  cond (!decide (y = 0))
    (some (([] : (List UInt8)), 9))
    ((c_ref03_body fu c).bind fun y_2 =>
    (c_ref01_Encode fu y_2).bind fun y_3 =>
    some (y_3.1, y_3.2))
theorem c_ref03_Bytes_le (fu : Nat) {c : api_Certificate} : OLe (c_ref03_Bytes fu c) (g_ref03_Bytes c) := by
  unfold c_ref03_Bytes g_ref03_Bytes
  repeat' (with_reducible first | assumption | apply OLe.bind_ | apply OLe.cond_ | apply OLe.up_ | apply c_ref03_Check_le | apply c_ref03_body_le | apply c_ref01_Encode_le | exact OLe.refl | intro _)
def c_ref03_Sum.l1 (fu : Nat) (b : (List UInt8)) (h_1 : Int) (i_1 : Int) : Option (Lp (Int × Int) (Int)) :=
  cond (decide (i_1 < (b.length : Int)))
    ((getI b i_1).bind fun e =>
    some (.next (IntKind.wrap .u32 ((xorK .u32 h_1 (IntKind.wrap .u32 (e.toNat : Int))) * 16777619), W (i_1 + 1))))
    (up (
      some (W h_1)))
theorem c_ref03_Sum.l1_le (fu : Nat) {b : (List UInt8)} {h_1 : Int} {i_1 : Int} : OLe (c_ref03_Sum.l1 fu b h_1 i_1) (g_ref03_Sum.l1 b h_1 i_1) := by
  unfold c_ref03_Sum.l1 g_ref03_Sum.l1
  repeat' (with_reducible first | assumption | apply OLe.bind_ | apply OLe.cond_ | apply OLe.up_ | exact OLe.refl | intro _)
def c_ref03_Sum (fu : Nat) (b : (List UInt8)) : Option (Int) :=
  loopC fu (fun q' => c_ref03_Sum.l1 fu b q'.1 q'.2) (2166136261, 0)
theorem c_ref03_Sum_le (fu : Nat) {b : (List UInt8)} : OLe (c_ref03_Sum fu b) (g_ref03_Sum b) := by
  unfold c_ref03_Sum g_ref03_Sum
  repeat' (with_reducible first | assumption | apply OLe.bind_ | apply OLe.cond_ | apply OLe.up_ | apply c_ref03_Sum.l1_le | (refine OLe.lpC _ (fun _ => ?_) _) | exact OLe.refl | intro _)
def c_ref03_Sign.j1 (fu : Nat) (key : Int) (y : api_Certificate) (x22_1 : Bool) : Option (api_Certificate × Int) :=
  cond (x22_1)
    (some ((api_Certificate.mk 0 (⟨#[]⟩ : ByteArray) (⟨#[]⟩ : ByteArray) (api_Use.mk 0 0) 0 (api_Use.mk 0 0) 0 0 false 0 ([] : (List ByteArray)) (api_Seal.mk 0 0)), 9))
    ((c_ref03_Bytes fu (api_Certificate.mk y.Serial y.Issuer y.Subject y.Key y.KeyId y.Hash y.From y.To y.Authority y.Path y.Names (api_Seal.mk 0 0))).bind fun y_3 =>
    (c_ref03_Sum fu y_3.1).bind fun y_4 =>
    some ((api_Certificate.mk y.Serial y.Issuer y.Subject y.Key y.KeyId y.Hash y.From y.To y.Authority y.Path y.Names (api_Seal.mk key y_4)), 0))
theorem c_ref03_Sign.j1_le (fu : Nat) {key : Int} {y : api_Certificate} {x22_1 : Bool} : OLe (c_ref03_Sign.j1 fu key y x22_1) (g_ref03_Sign.j1 key y x22_1) := by
  unfold c_ref03_Sign.j1 g_ref03_Sign.j1
  repeat' (with_reducible first | assumption | apply OLe.bind_ | apply OLe.cond_ | apply OLe.up_ | apply c_ref03_Bytes_le | apply c_ref03_Sum_le | exact OLe.refl | intro _)
def c_ref03_Sign (fu : Nat) (c : api_Certificate) (key : Int) : Option (api_Certificate × Int) :=
  (c_ref03_Copy fu c).bind fun y =>
  (c_ref03_Check fu (api_Certificate.mk y.Serial y.Issuer y.Subject y.Key y.KeyId y.Hash y.From y.To y.Authority y.Path y.Names (api_Seal.mk 0 0))).bind fun y_2 =>
  cond (!decide (y_2 = 0))
    (c_ref03_Sign.j1 fu key y true)
    (cond (decide (key < 0))
      (c_ref03_Sign.j1 fu key y true)
      (c_ref03_Sign.j1 fu key y (decide (2147483648 < key))))
theorem c_ref03_Sign_le (fu : Nat) {c : api_Certificate} {key : Int} : OLe (c_ref03_Sign fu c key) (g_ref03_Sign c key) := by
  unfold c_ref03_Sign g_ref03_Sign
  repeat' (with_reducible first | assumption | apply OLe.bind_ | apply OLe.cond_ | apply OLe.up_ | apply c_ref03_Copy_le | apply c_ref03_Check_le | apply c_ref03_Sign.j1_le | exact OLe.refl | intro _)
def c_move_Leaf (fu : Nat) (name : ByteArray) (key : api_Use) (id : Int) (anchor : Int) (to : Int) : Option (api_Identity) :=
  (c_ref03_Sign fu (api_Certificate.mk id (⟨#[114, 111, 111, 116]⟩ : ByteArray) name key id (api_Use.mk 3 0) 0 to false 0 ([name] : List ByteArray) (api_Seal.mk 0 0)) anchor).bind fun y =>
  some (api_Identity.mk key id ([y.1] : List api_Certificate))
theorem c_move_Leaf_le (fu : Nat) {name : ByteArray} {key : api_Use} {id : Int} {anchor : Int} {to : Int} : OLe (c_move_Leaf fu name key id anchor to) (g_move_Leaf name key id anchor to) := by
  unfold c_move_Leaf g_move_Leaf
  repeat' (with_reducible first | assumption | apply OLe.bind_ | apply OLe.cond_ | apply OLe.up_ | apply c_ref03_Sign_le | exact OLe.refl | intro _)
def c_internal_stringslite_IndexByte (fu : Nat) (s : ByteArray) (c : UInt8) : Option (Int) :=
  some (idxB s c)
theorem c_internal_stringslite_IndexByte_le (fu : Nat) {s : ByteArray} {c : UInt8} : OLe (c_internal_stringslite_IndexByte fu s c) (g_internal_stringslite_IndexByte s c) := by
  unfold c_internal_stringslite_IndexByte g_internal_stringslite_IndexByte
  repeat' (with_reducible first | assumption | apply OLe.bind_ | apply OLe.cond_ | apply OLe.up_ | exact OLe.refl | intro _)
def c_strings_IndexByte (fu : Nat) (s : ByteArray) (c : UInt8) : Option (Int) :=
  (c_internal_stringslite_IndexByte fu s c).bind fun y =>
  some y
theorem c_strings_IndexByte_le (fu : Nat) {s : ByteArray} {c : UInt8} : OLe (c_strings_IndexByte fu s c) (g_strings_IndexByte s c) := by
  unfold c_strings_IndexByte g_strings_IndexByte
  repeat' (with_reducible first | assumption | apply OLe.bind_ | apply OLe.cond_ | apply OLe.up_ | apply c_internal_stringslite_IndexByte_le | exact OLe.refl | intro _)
def c_settings_Letter (fu : Nat) (c : UInt8) (others : ByteArray) : Option (Bool) :=
  cond (decide (97 ≤ (c.toNat : Int)))
    (cond (decide ((c.toNat : Int) ≤ 122))
      (some true)
      (cond (decide (65 ≤ (c.toNat : Int)))
        (cond (decide ((c.toNat : Int) ≤ 90))
          (some true)
          (cond (decide (48 ≤ (c.toNat : Int)))
            (cond (decide ((c.toNat : Int) ≤ 57))
              (some true)
              ((c_strings_IndexByte fu others c).bind fun y =>
              some (decide (0 ≤ y))))
            ((c_strings_IndexByte fu others c).bind fun y_2 =>
            some (decide (0 ≤ y_2)))))
        (cond (decide (48 ≤ (c.toNat : Int)))
          (cond (decide ((c.toNat : Int) ≤ 57))
            (some true)
            ((c_strings_IndexByte fu others c).bind fun y_3 =>
            some (decide (0 ≤ y_3))))
          ((c_strings_IndexByte fu others c).bind fun y_4 =>
          some (decide (0 ≤ y_4))))))
    (cond (decide (65 ≤ (c.toNat : Int)))
      (cond (decide ((c.toNat : Int) ≤ 90))
        (some true)
        (cond (decide (48 ≤ (c.toNat : Int)))
          (cond (decide ((c.toNat : Int) ≤ 57))
            (some true)
            ((c_strings_IndexByte fu others c).bind fun y_5 =>
            some (decide (0 ≤ y_5))))
          ((c_strings_IndexByte fu others c).bind fun y_6 =>
          some (decide (0 ≤ y_6)))))
      (cond (decide (48 ≤ (c.toNat : Int)))
        (cond (decide ((c.toNat : Int) ≤ 57))
          (some true)
          ((c_strings_IndexByte fu others c).bind fun y_7 =>
          some (decide (0 ≤ y_7))))
        ((c_strings_IndexByte fu others c).bind fun y_8 =>
        some (decide (0 ≤ y_8)))))
theorem c_settings_Letter_le (fu : Nat) {c : UInt8} {others : ByteArray} : OLe (c_settings_Letter fu c others) (g_settings_Letter c others) := by
  unfold c_settings_Letter g_settings_Letter
  repeat' (with_reducible first | assumption | apply OLe.bind_ | apply OLe.cond_ | apply OLe.up_ | apply c_strings_IndexByte_le | exact OLe.refl | intro _)
def c_settings_Word.l1 (fu : Nat) (s : ByteArray) (x8_1 : Int) : Option (Lp (Int) (Bool)) :=
  cond (decide (x8_1 < ((toB s).length : Int)))
    ((getI (toB s) x8_1).bind fun e =>
    (c_settings_Letter fu e (⟨#[45, 95, 46]⟩ : ByteArray)).bind fun y =>
    cond (!y)
      (up (some false))
      (some (.next (W (x8_1 + 1)))))
    (up (
      cond (decide (1 ≤ (s.size : Int)))
        (some (decide ((s.size : Int) ≤ 32)))
        (some false)))
theorem c_settings_Word.l1_le (fu : Nat) {s : ByteArray} {x8_1 : Int} : OLe (c_settings_Word.l1 fu s x8_1) (g_settings_Word.l1 s x8_1) := by
  unfold c_settings_Word.l1 g_settings_Word.l1
  repeat' (with_reducible first | assumption | apply OLe.bind_ | apply OLe.cond_ | apply OLe.up_ | apply c_settings_Letter_le | exact OLe.refl | intro _)
def c_settings_Word (fu : Nat) (s : ByteArray) : Option (Bool) :=
  loopC fu (fun q' => c_settings_Word.l1 fu s q') 0
theorem c_settings_Word_le (fu : Nat) {s : ByteArray} : OLe (c_settings_Word fu s) (g_settings_Word s) := by
  unfold c_settings_Word g_settings_Word
  repeat' (with_reducible first | assumption | apply OLe.bind_ | apply OLe.cond_ | apply OLe.up_ | apply c_settings_Word.l1_le | (refine OLe.lpC _ (fun _ => ?_) _) | exact OLe.refl | intro _)
def c_catalog_use (fu : Nat) (alg : Int) (bits : Int) : Option (api_Use) :=
  some (api_Use.mk alg bits)
theorem c_catalog_use_le (fu : Nat) {alg : Int} {bits : Int} : OLe (c_catalog_use fu alg bits) (g_catalog_use alg bits) := by
  unfold c_catalog_use g_catalog_use
  repeat' (with_reducible first | assumption | apply OLe.bind_ | apply OLe.cond_ | apply OLe.up_ | exact OLe.refl | intro _)
def c_catalog_Suites.l1 (fu : Nat) (y : api_Use) (y_2 : api_Use) (y_3 : api_Use) (y_4 : api_Use) (y_5 : api_Use) (y_6 : api_Use) (y_7 : api_Use) (y_8 : api_Use) (y_9 : api_Use) (y_10 : api_Use) (y_11 : api_Use) (y_12 : api_Use) (y_13 : api_Use) (y_14 : api_Use) (y_15 : api_Use) (y_16 : api_Use) (y_17 : api_Use) (y_18 : api_Use) (y_19 : api_Use) (y_20 : api_Use) (y_21 : api_Use) (y_22 : api_Use) (x114_1 : Int) (l_1 : List api_Suite) : Option (Lp (Int × List api_Suite) ((List api_Suite))) :=
  cond (decide (x114_1 < (([(api_Suite.mk 0 (⟨#[114, 115, 97, 45, 114, 99, 52, 45, 109, 100, 53]⟩ : ByteArray) y y_2 y_14 y_10 1 2), (api_Suite.mk 0 (⟨#[114, 115, 97, 45, 114, 99, 52, 45, 115, 104, 97]⟩ : ByteArray) y y_2 y_15 y_11 1 3), (api_Suite.mk 0 (⟨#[114, 115, 97, 45, 100, 101, 115, 51, 45, 115, 104, 97]⟩ : ByteArray) y y_2 y_5 y_11 1 3), (api_Suite.mk 0 (⟨#[100, 104, 101, 45, 100, 115, 97, 45, 100, 101, 115, 51, 45, 115, 104, 97]⟩ : ByteArray) y_16 y_3 y_5 y_11 1 3), (api_Suite.mk 0 (⟨#[100, 104, 101, 45, 114, 115, 97, 45, 100, 101, 115, 51, 45, 115, 104, 97]⟩ : ByteArray) y_17 y_2 y_5 y_11 1 3), (api_Suite.mk 0 (⟨#[114, 115, 97, 45, 97, 101, 115, 49, 50, 56, 45, 115, 104, 97]⟩ : ByteArray) y y_2 y_6 y_11 1 3), (api_Suite.mk 0 (⟨#[100, 104, 101, 45, 114, 115, 97, 45, 97, 101, 115, 49, 50, 56, 45, 115, 104, 97]⟩ : ByteArray) y_18 y_2 y_6 y_11 1 3), (api_Suite.mk 0 (⟨#[101, 99, 100, 104, 101, 45, 114, 115, 97, 45, 97, 101, 115, 49, 50, 56, 45, 115, 104, 97]⟩ : ByteArray) y_13 y_2 y_6 y_11 1 3), (api_Suite.mk 0 (⟨#[101, 99, 100, 104, 101, 45, 101, 99, 100, 115, 97, 45, 97, 101, 115, 50, 53, 54, 45, 115, 104, 97, 50, 53, 54]⟩ : ByteArray) y_13 y_4 y_19 y_20 3 3), (api_Suite.mk 0 (⟨#[101, 99, 100, 104, 101, 45, 114, 115, 97, 45, 97, 101, 115, 49, 50, 56, 45, 103, 99, 109]⟩ : ByteArray) y_13 y_2 y_7 y_12 3 3), (api_Suite.mk 0 (⟨#[101, 99, 100, 104, 101, 45, 101, 99, 100, 115, 97, 45, 97, 101, 115, 50, 53, 54, 45, 103, 99, 109]⟩ : ByteArray) y_21 y_4 y_8 y_12 3 3), (api_Suite.mk 0 (⟨#[101, 99, 100, 104, 101, 45, 114, 115, 97, 45, 99, 104, 97, 99, 104, 97]⟩ : ByteArray) y_13 y_2 y_9 y_12 3 3), (api_Suite.mk 0 (⟨#[114, 115, 97, 45, 97, 101, 115, 50, 53, 54, 45, 103, 99, 109]⟩ : ByteArray) y y_2 y_8 y_12 3 3), (api_Suite.mk 0 (⟨#[97, 101, 115, 49, 50, 56, 45, 103, 99, 109]⟩ : ByteArray) y_13 (api_Use.mk 0 0) y_7 y_12 4 4), (api_Suite.mk 0 (⟨#[99, 104, 97, 99, 104, 97]⟩ : ByteArray) y_13 (api_Use.mk 0 0) y_9 y_12 4 4), (api_Suite.mk 0 (⟨#[109, 108, 107, 101, 109, 45, 97, 101, 115, 50, 53, 54, 45, 103, 99, 109]⟩ : ByteArray) y_22 (api_Use.mk 0 0) y_8 y_12 4 4)] : List api_Suite).length : Int)))
    ((getI l_1 x114_1).bind fun e =>
    some (.next (W (x114_1 + 1), setI l_1 ((x114_1).toNat) (api_Suite.mk (W (x114_1 + 1)) e.Name e.Exchange e.Sign e.Cipher e.Mac e.Least e.Most))))
    (up (
      some l_1))
theorem c_catalog_Suites.l1_le (fu : Nat) {y : api_Use} {y_2 : api_Use} {y_3 : api_Use} {y_4 : api_Use} {y_5 : api_Use} {y_6 : api_Use} {y_7 : api_Use} {y_8 : api_Use} {y_9 : api_Use} {y_10 : api_Use} {y_11 : api_Use} {y_12 : api_Use} {y_13 : api_Use} {y_14 : api_Use} {y_15 : api_Use} {y_16 : api_Use} {y_17 : api_Use} {y_18 : api_Use} {y_19 : api_Use} {y_20 : api_Use} {y_21 : api_Use} {y_22 : api_Use} {x114_1 : Int} {l_1 : List api_Suite} : OLe (c_catalog_Suites.l1 fu y y_2 y_3 y_4 y_5 y_6 y_7 y_8 y_9 y_10 y_11 y_12 y_13 y_14 y_15 y_16 y_17 y_18 y_19 y_20 y_21 y_22 x114_1 l_1) (g_catalog_Suites.l1 y y_2 y_3 y_4 y_5 y_6 y_7 y_8 y_9 y_10 y_11 y_12 y_13 y_14 y_15 y_16 y_17 y_18 y_19 y_20 y_21 y_22 x114_1 l_1) := by
  unfold c_catalog_Suites.l1 g_catalog_Suites.l1
  repeat' (with_reducible first | assumption | apply OLe.bind_ | apply OLe.cond_ | apply OLe.up_ | exact OLe.refl | intro _)
def c_catalog_Suites (fu : Nat) : Option ((List api_Suite)) :=
  (c_catalog_use fu 10 0).bind fun y =>
  (c_catalog_use fu 5 0).bind fun y_2 =>
  (c_catalog_use fu 6 0).bind fun y_3 =>
  (c_catalog_use fu 7 0).bind fun y_4 =>
  (c_catalog_use fu 15 168).bind fun y_5 =>
  (c_catalog_use fu 16 128).bind fun y_6 =>
  (c_catalog_use fu 17 128).bind fun y_7 =>
  (c_catalog_use fu 17 256).bind fun y_8 =>
  (c_catalog_use fu 18 0).bind fun y_9 =>
  (c_catalog_use fu 19 0).bind fun y_10 =>
  (c_catalog_use fu 20 0).bind fun y_11 =>
  (c_catalog_use fu 22 0).bind fun y_12 =>
  (c_catalog_use fu 12 256).bind fun y_13 =>
  (c_catalog_use fu 14 128).bind fun y_14 =>
  (c_catalog_use fu 14 128).bind fun y_15 =>
  (c_catalog_use fu 11 1024).bind fun y_16 =>
  (c_catalog_use fu 11 1024).bind fun y_17 =>
  (c_catalog_use fu 11 2048).bind fun y_18 =>
  (c_catalog_use fu 16 256).bind fun y_19 =>
  (c_catalog_use fu 21 0).bind fun y_20 =>
  (c_catalog_use fu 12 384).bind fun y_21 =>
  (c_catalog_use fu 13 768).bind fun y_22 =>
  loopC fu (fun q' => c_catalog_Suites.l1 fu y y_2 y_3 y_4 y_5 y_6 y_7 y_8 y_9 y_10 y_11 y_12 y_13 y_14 y_15 y_16 y_17 y_18 y_19 y_20 y_21 y_22 q'.1 q'.2) (0, ([(api_Suite.mk 0 (⟨#[114, 115, 97, 45, 114, 99, 52, 45, 109, 100, 53]⟩ : ByteArray) y y_2 y_14 y_10 1 2), (api_Suite.mk 0 (⟨#[114, 115, 97, 45, 114, 99, 52, 45, 115, 104, 97]⟩ : ByteArray) y y_2 y_15 y_11 1 3), (api_Suite.mk 0 (⟨#[114, 115, 97, 45, 100, 101, 115, 51, 45, 115, 104, 97]⟩ : ByteArray) y y_2 y_5 y_11 1 3), (api_Suite.mk 0 (⟨#[100, 104, 101, 45, 100, 115, 97, 45, 100, 101, 115, 51, 45, 115, 104, 97]⟩ : ByteArray) y_16 y_3 y_5 y_11 1 3), (api_Suite.mk 0 (⟨#[100, 104, 101, 45, 114, 115, 97, 45, 100, 101, 115, 51, 45, 115, 104, 97]⟩ : ByteArray) y_17 y_2 y_5 y_11 1 3), (api_Suite.mk 0 (⟨#[114, 115, 97, 45, 97, 101, 115, 49, 50, 56, 45, 115, 104, 97]⟩ : ByteArray) y y_2 y_6 y_11 1 3), (api_Suite.mk 0 (⟨#[100, 104, 101, 45, 114, 115, 97, 45, 97, 101, 115, 49, 50, 56, 45, 115, 104, 97]⟩ : ByteArray) y_18 y_2 y_6 y_11 1 3), (api_Suite.mk 0 (⟨#[101, 99, 100, 104, 101, 45, 114, 115, 97, 45, 97, 101, 115, 49, 50, 56, 45, 115, 104, 97]⟩ : ByteArray) y_13 y_2 y_6 y_11 1 3), (api_Suite.mk 0 (⟨#[101, 99, 100, 104, 101, 45, 101, 99, 100, 115, 97, 45, 97, 101, 115, 50, 53, 54, 45, 115, 104, 97, 50, 53, 54]⟩ : ByteArray) y_13 y_4 y_19 y_20 3 3), (api_Suite.mk 0 (⟨#[101, 99, 100, 104, 101, 45, 114, 115, 97, 45, 97, 101, 115, 49, 50, 56, 45, 103, 99, 109]⟩ : ByteArray) y_13 y_2 y_7 y_12 3 3), (api_Suite.mk 0 (⟨#[101, 99, 100, 104, 101, 45, 101, 99, 100, 115, 97, 45, 97, 101, 115, 50, 53, 54, 45, 103, 99, 109]⟩ : ByteArray) y_21 y_4 y_8 y_12 3 3), (api_Suite.mk 0 (⟨#[101, 99, 100, 104, 101, 45, 114, 115, 97, 45, 99, 104, 97, 99, 104, 97]⟩ : ByteArray) y_13 y_2 y_9 y_12 3 3), (api_Suite.mk 0 (⟨#[114, 115, 97, 45, 97, 101, 115, 50, 53, 54, 45, 103, 99, 109]⟩ : ByteArray) y y_2 y_8 y_12 3 3), (api_Suite.mk 0 (⟨#[97, 101, 115, 49, 50, 56, 45, 103, 99, 109]⟩ : ByteArray) y_13 (api_Use.mk 0 0) y_7 y_12 4 4), (api_Suite.mk 0 (⟨#[99, 104, 97, 99, 104, 97]⟩ : ByteArray) y_13 (api_Use.mk 0 0) y_9 y_12 4 4), (api_Suite.mk 0 (⟨#[109, 108, 107, 101, 109, 45, 97, 101, 115, 50, 53, 54, 45, 103, 99, 109]⟩ : ByteArray) y_22 (api_Use.mk 0 0) y_8 y_12 4 4)] : List api_Suite))
theorem c_catalog_Suites_le (fu : Nat) : OLe (c_catalog_Suites fu) (g_catalog_Suites) := by
  unfold c_catalog_Suites g_catalog_Suites
  repeat' (with_reducible first | assumption | apply OLe.bind_ | apply OLe.cond_ | apply OLe.up_ | apply c_catalog_use_le | apply c_catalog_Suites.l1_le | (refine OLe.lpC _ (fun _ => ?_) _) | exact OLe.refl | intro _)
def c_catalog_Suite.j1 (fu : Nat) (code : Int) (y : (List api_Suite)) (x13_1 : Bool) : Option (api_Suite × Int) :=
  cond (x13_1)
    (some ((api_Suite.mk 0 (⟨#[]⟩ : ByteArray) (api_Use.mk 0 0) (api_Use.mk 0 0) (api_Use.mk 0 0) (api_Use.mk 0 0) 0 0), 8))
    ((getI y (W (code - 1))).bind fun e =>
    some (e, 0))
theorem c_catalog_Suite.j1_le (fu : Nat) {code : Int} {y : (List api_Suite)} {x13_1 : Bool} : OLe (c_catalog_Suite.j1 fu code y x13_1) (g_catalog_Suite.j1 code y x13_1) := by
  unfold c_catalog_Suite.j1 g_catalog_Suite.j1
  repeat' (with_reducible first | assumption | apply OLe.bind_ | apply OLe.cond_ | apply OLe.up_ | exact OLe.refl | intro _)
def c_catalog_Suite (fu : Nat) (code : Int) : Option (api_Suite × Int) :=
  (c_catalog_Suites fu).bind fun y =>
  cond (decide (code < 1))
    (c_catalog_Suite.j1 fu code y true)
    (c_catalog_Suite.j1 fu code y (decide ((y.length : Int) < code)))
theorem c_catalog_Suite_le (fu : Nat) {code : Int} : OLe (c_catalog_Suite fu code) (g_catalog_Suite code) := by
  unfold c_catalog_Suite g_catalog_Suite
  repeat' (with_reducible first | assumption | apply OLe.bind_ | apply OLe.cond_ | apply OLe.up_ | apply c_catalog_Suites_le | apply c_catalog_Suite.j1_le | exact OLe.refl | intro _)
def c_slices_Index_int.l1 (fu : Nat) (s : (List Int)) (v : Int) (x8_1 : Int) : Option (Lp (Int) (Int)) :=
  cond (decide (x8_1 < (s.length : Int)))
    ((getI s x8_1).bind fun e =>
    cond (decide (v = e))
      (up (some x8_1))
      (some (.next (W (x8_1 + 1)))))
    (up (
      some (-1)))
theorem c_slices_Index_int.l1_le (fu : Nat) {s : (List Int)} {v : Int} {x8_1 : Int} : OLe (c_slices_Index_int.l1 fu s v x8_1) (g_slices_Index_int.l1 s v x8_1) := by
  unfold c_slices_Index_int.l1 g_slices_Index_int.l1
  repeat' (with_reducible first | assumption | apply OLe.bind_ | apply OLe.cond_ | apply OLe.up_ | exact OLe.refl | intro _)
def c_slices_Index_int (fu : Nat) (s : (List Int)) (v : Int) : Option (Int) :=
  loopC fu (fun q' => c_slices_Index_int.l1 fu s v q') 0
theorem c_slices_Index_int_le (fu : Nat) {s : (List Int)} {v : Int} : OLe (c_slices_Index_int fu s v) (g_slices_Index_int s v) := by
  unfold c_slices_Index_int g_slices_Index_int
  repeat' (with_reducible first | assumption | apply OLe.bind_ | apply OLe.cond_ | apply OLe.up_ | apply c_slices_Index_int.l1_le | (refine OLe.lpC _ (fun _ => ?_) _) | exact OLe.refl | intro _)
def c_slices_Contains_int (fu : Nat) (s : (List Int)) (v : Int) : Option (Bool) :=
  (c_slices_Index_int fu s v).bind fun y =>
  some (decide (0 ≤ y))
theorem c_slices_Contains_int_le (fu : Nat) {s : (List Int)} {v : Int} : OLe (c_slices_Contains_int fu s v) (g_slices_Contains_int s v) := by
  unfold c_slices_Contains_int g_slices_Contains_int
  repeat' (with_reducible first | assumption | apply OLe.bind_ | apply OLe.cond_ | apply OLe.up_ | apply c_slices_Index_int_le | exact OLe.refl | intro _)
def c_endpoint_suites.j2 (fu : Nat) (x9_1 : Int) (x27_2 : Bool) : Option (Lp (Int) (Bool)) :=
  cond (x27_2)
    (up (some false))
    (some (.next (W (x9_1 + 1))))
theorem c_endpoint_suites.j2_le (fu : Nat) {x9_1 : Int} {x27_2 : Bool} : OLe (c_endpoint_suites.j2 fu x9_1 x27_2) (g_endpoint_suites.j2 x9_1 x27_2) := by
  unfold c_endpoint_suites.j2 g_endpoint_suites.j2
  repeat' (with_reducible first | assumption | apply OLe.bind_ | apply OLe.cond_ | apply OLe.up_ | exact OLe.refl | intro _)
def c_endpoint_suites.l1 (fu : Nat) (l : (List Int)) (x9_1 : Int) : Option (Lp (Int) (Bool)) :=
  cond (decide (x9_1 < (l.length : Int)))
    ((getI l x9_1).bind fun e =>
    (c_catalog_Suite fu e).bind fun y =>
    cond (!decide (y.2 = 0))
      (c_endpoint_suites.j2 fu x9_1 true)
      ((slI l 0 x9_1).bind fun l_2 =>
      (c_slices_Contains_int fu l_2 e).bind fun y_2 =>
      c_endpoint_suites.j2 fu x9_1 y_2))
    (up (
      some true))
theorem c_endpoint_suites.l1_le (fu : Nat) {l : (List Int)} {x9_1 : Int} : OLe (c_endpoint_suites.l1 fu l x9_1) (g_endpoint_suites.l1 l x9_1) := by
  unfold c_endpoint_suites.l1 g_endpoint_suites.l1
  repeat' (with_reducible first | assumption | apply OLe.bind_ | apply OLe.cond_ | apply OLe.up_ | apply c_catalog_Suite_le | apply c_endpoint_suites.j2_le | apply c_slices_Contains_int_le | exact OLe.refl | intro _)
def c_endpoint_suites (fu : Nat) (l : (List Int)) : Option (Bool) :=
  loopC fu (fun q' => c_endpoint_suites.l1 fu l q') 0
theorem c_endpoint_suites_le (fu : Nat) {l : (List Int)} : OLe (c_endpoint_suites fu l) (g_endpoint_suites l) := by
  unfold c_endpoint_suites g_endpoint_suites
  repeat' (with_reducible first | assumption | apply OLe.bind_ | apply OLe.cond_ | apply OLe.up_ | apply c_endpoint_suites.l1_le | (refine OLe.lpC _ (fun _ => ?_) _) | exact OLe.refl | intro _)
def c_endpoint_ascends.j2 (fu : Nat) (x6_1 : Int) (x22_2 : Bool) : Option (Lp (Int) (Bool)) :=
  cond (x22_2)
    (up (some false))
    (some (.next (W (x6_1 + 1))))
theorem c_endpoint_ascends.j2_le (fu : Nat) {x6_1 : Int} {x22_2 : Bool} : OLe (c_endpoint_ascends.j2 fu x6_1 x22_2) (g_endpoint_ascends.j2 x6_1 x22_2) := by
  unfold c_endpoint_ascends.j2 g_endpoint_ascends.j2
  repeat' (with_reducible first | assumption | apply OLe.bind_ | apply OLe.cond_ | apply OLe.up_ | exact OLe.refl | intro _)
def c_endpoint_ascends.l1 (fu : Nat) (l : (List Int)) (x6_1 : Int) : Option (Lp (Int) (Bool)) :=
  cond (decide (x6_1 < (l.length : Int)))
    (cond (decide (0 < x6_1))
      ((getI l (W (x6_1 - 1))).bind fun e =>
      (getI l x6_1).bind fun e_2 =>
      c_endpoint_ascends.j2 fu x6_1 (decide (e_2 ≤ e)))
      (c_endpoint_ascends.j2 fu x6_1 false))
    (up (
      some true))
theorem c_endpoint_ascends.l1_le (fu : Nat) {l : (List Int)} {x6_1 : Int} : OLe (c_endpoint_ascends.l1 fu l x6_1) (g_endpoint_ascends.l1 l x6_1) := by
  unfold c_endpoint_ascends.l1 g_endpoint_ascends.l1
  repeat' (with_reducible first | assumption | apply OLe.bind_ | apply OLe.cond_ | apply OLe.up_ | apply c_endpoint_ascends.j2_le | exact OLe.refl | intro _)
def c_endpoint_ascends (fu : Nat) (l : (List Int)) : Option (Bool) :=
  loopC fu (fun q' => c_endpoint_ascends.l1 fu l q') 0
theorem c_endpoint_ascends_le (fu : Nat) {l : (List Int)} : OLe (c_endpoint_ascends fu l) (g_endpoint_ascends l) := by
  unfold c_endpoint_ascends g_endpoint_ascends
  repeat' (with_reducible first | assumption | apply OLe.bind_ | apply OLe.cond_ | apply OLe.up_ | apply c_endpoint_ascends.l1_le | (refine OLe.lpC _ (fun _ => ?_) _) | exact OLe.refl | intro _)
def c_catalog_rows (fu : Nat) : Option ((List catalog_row)) :=
  some ([(catalog_row.mk (⟨#[]⟩ : ByteArray) 0 0 ([] : (List Int)) ([] : (List Int))), (catalog_row.mk (⟨#[109, 100, 53]⟩ : ByteArray) 1 0 ([] : (List Int)) ([18] : List Int)), (catalog_row.mk (⟨#[115, 104, 97, 49]⟩ : ByteArray) 1 0 ([] : (List Int)) ([60] : List Int)), (catalog_row.mk (⟨#[115, 104, 97, 50, 53, 54]⟩ : ByteArray) 1 0 ([] : (List Int)) ([128] : List Int)), (catalog_row.mk (⟨#[115, 104, 97, 51, 56, 52]⟩ : ByteArray) 1 0 ([] : (List Int)) ([192] : List Int)), (catalog_row.mk (⟨#[114, 115, 97]⟩ : ByteArray) 2 1 ([] : (List Int)) ([] : (List Int))), (catalog_row.mk (⟨#[100, 115, 97]⟩ : ByteArray) 2 1 ([] : (List Int)) ([] : (List Int))), (catalog_row.mk (⟨#[101, 99, 100, 115, 97]⟩ : ByteArray) 2 2 ([] : (List Int)) ([] : (List Int))), (catalog_row.mk (⟨#[101, 100, 50, 53, 53, 49, 57]⟩ : ByteArray) 2 0 ([] : (List Int)) ([128] : List Int)), (catalog_row.mk (⟨#[109, 108, 100, 115, 97]⟩ : ByteArray) 2 3 ([44, 65, 87] : List Int) ([128, 192, 256] : List Int)), (catalog_row.mk (⟨#[114, 115, 97, 107, 120]⟩ : ByteArray) 3 1 ([] : (List Int)) ([] : (List Int))), (catalog_row.mk (⟨#[100, 104, 101]⟩ : ByteArray) 3 1 ([] : (List Int)) ([] : (List Int))), (catalog_row.mk (⟨#[101, 99, 100, 104, 101]⟩ : ByteArray) 3 2 ([] : (List Int)) ([] : (List Int))), (catalog_row.mk (⟨#[109, 108, 107, 101, 109]⟩ : ByteArray) 3 3 ([512, 768, 1024] : List Int) ([128, 192, 256] : List Int)), (catalog_row.mk (⟨#[114, 99, 52]⟩ : ByteArray) 4 3 ([40, 128] : List Int) ([40, 60] : List Int)), (catalog_row.mk (⟨#[100, 101, 115, 51]⟩ : ByteArray) 4 3 ([112, 168] : List Int) ([80, 112] : List Int)), (catalog_row.mk (⟨#[97, 101, 115, 99, 98, 99]⟩ : ByteArray) 4 3 ([128, 256] : List Int) ([128, 256] : List Int)), (catalog_row.mk (⟨#[97, 101, 115, 103, 99, 109]⟩ : ByteArray) 4 3 ([128, 256] : List Int) ([128, 256] : List Int)), (catalog_row.mk (⟨#[99, 104, 97, 99, 104, 97]⟩ : ByteArray) 4 0 ([] : (List Int)) ([256] : List Int)), (catalog_row.mk (⟨#[104, 109, 97, 99, 109, 100, 53]⟩ : ByteArray) 5 0 ([] : (List Int)) ([64] : List Int)), (catalog_row.mk (⟨#[104, 109, 97, 99, 115, 104, 97, 49]⟩ : ByteArray) 5 0 ([] : (List Int)) ([80] : List Int)), (catalog_row.mk (⟨#[104, 109, 97, 99, 115, 104, 97, 50, 53, 54]⟩ : ByteArray) 5 0 ([] : (List Int)) ([128] : List Int)), (catalog_row.mk (⟨#[97, 101, 97, 100]⟩ : ByteArray) 5 0 ([] : (List Int)) ([256] : List Int))] : List catalog_row)
theorem c_catalog_rows_le (fu : Nat) : OLe (c_catalog_rows fu) (g_catalog_rows) := by
  unfold c_catalog_rows g_catalog_rows
  repeat' (with_reducible first | assumption | apply OLe.bind_ | apply OLe.cond_ | apply OLe.up_ | exact OLe.refl | intro _)
def c_catalog_of.j1 (fu : Nat) (alg : Int) (x9_1 : Bool) : Option (catalog_row × Bool) :=
  cond (x9_1)
    (some ((catalog_row.mk (⟨#[]⟩ : ByteArray) 0 0 ([] : (List Int)) ([] : (List Int))), false))
    ((c_catalog_rows fu).bind fun y =>
    (getI (arrL 23 y) alg).bind fun e =>
    some (e, true))
theorem c_catalog_of.j1_le (fu : Nat) {alg : Int} {x9_1 : Bool} : OLe (c_catalog_of.j1 fu alg x9_1) (g_catalog_of.j1 alg x9_1) := by
  unfold c_catalog_of.j1 g_catalog_of.j1
  repeat' (with_reducible first | assumption | apply OLe.bind_ | apply OLe.cond_ | apply OLe.up_ | apply c_catalog_rows_le | exact OLe.refl | intro _)
def c_catalog_of (fu : Nat) (alg : Int) : Option (catalog_row × Bool) :=
  cond (decide (alg < 1))
    (c_catalog_of.j1 fu alg true)
    (c_catalog_of.j1 fu alg (decide (22 < alg)))
theorem c_catalog_of_le (fu : Nat) {alg : Int} : OLe (c_catalog_of fu alg) (g_catalog_of alg) := by
  unfold c_catalog_of g_catalog_of
  repeat' (with_reducible first | assumption | apply OLe.bind_ | apply OLe.cond_ | apply OLe.up_ | apply c_catalog_of.j1_le | exact OLe.refl | intro _)
def c_catalog_modulus.l1 (fu : Nat) (bits : Int) (x11_1 : Int) : Option (Lp (Int) (Int)) :=
  cond (decide (x11_1 < 5))
    ((getI ([([1024, 56] : List Int), ([2048, 80] : List Int), ([3072, 112] : List Int), ([7680, 128] : List Int), ([15360, 192] : List Int)] : List (List Int)) x11_1).bind fun e =>
    cond (decide (bits < (e[0]!)))
      (up (some (e[1]!)))
      (some (.next (W (x11_1 + 1)))))
    (up (
      some 256))
theorem c_catalog_modulus.l1_le (fu : Nat) {bits : Int} {x11_1 : Int} : OLe (c_catalog_modulus.l1 fu bits x11_1) (g_catalog_modulus.l1 bits x11_1) := by
  unfold c_catalog_modulus.l1 g_catalog_modulus.l1
  repeat' (with_reducible first | assumption | apply OLe.bind_ | apply OLe.cond_ | apply OLe.up_ | exact OLe.refl | intro _)
def c_catalog_modulus (fu : Nat) (bits : Int) : Option (Int) :=
  loopC fu (fun q' => c_catalog_modulus.l1 fu bits q') 0
theorem c_catalog_modulus_le (fu : Nat) {bits : Int} : OLe (c_catalog_modulus fu bits) (g_catalog_modulus bits) := by
  unfold c_catalog_modulus g_catalog_modulus
  repeat' (with_reducible first | assumption | apply OLe.bind_ | apply OLe.cond_ | apply OLe.up_ | apply c_catalog_modulus.l1_le | (refine OLe.lpC _ (fun _ => ?_) _) | exact OLe.refl | intro _)
def c_catalog_Strength.j1 (fu : Nat) (u : api_Use) (x34_1 : Bool) : Option (Int) :=
  cond (x34_1)
    ((c_catalog_modulus fu u.Bits).bind fun y_2 =>
    some y_2)
    (some 0)
theorem c_catalog_Strength.j1_le (fu : Nat) {u : api_Use} {x34_1 : Bool} : OLe (c_catalog_Strength.j1 fu u x34_1) (g_catalog_Strength.j1 u x34_1) := by
  unfold c_catalog_Strength.j1 g_catalog_Strength.j1
  repeat' (with_reducible first | assumption | apply OLe.bind_ | apply OLe.cond_ | apply OLe.up_ | apply c_catalog_modulus_le | exact OLe.refl | intro _)
def c_catalog_Strength (fu : Nat) (u : api_Use) : Option (Int) :=
  (c_catalog_of fu u.Alg).bind fun y =>
  cond (!y.2)
    (some 0)
    (cond (decide (y.1.way = 0))
      (cond (decide (u.Bits = 0))
        ((getI y.1.strengths 0).bind fun e =>
        some e)
        (some 0))
      (cond (decide (y.1.way = 1))
        (cond (decide (512 ≤ u.Bits))
          (c_catalog_Strength.j1 fu u (decide (u.Bits ≤ 16384)))
          (c_catalog_Strength.j1 fu u false))
        (cond (decide (y.1.way = 2))
          ((c_slices_Contains_int fu ([160, 224, 256, 384, 521] : List Int) u.Bits).bind fun y_3 =>
          cond (y_3)
            ((quoI u.Bits 2).bind fun q =>
            some q)
            (some 0))
          (cond (decide (y.1.way = 3))
            ((c_slices_Index_int fu y.1.sizes u.Bits).bind fun y_4 =>
            cond (decide (0 ≤ y_4))
              ((getI y.1.strengths y_4).bind fun e_2 =>
              some e_2)
              (some 0))
            (some 0)))))
theorem c_catalog_Strength_le (fu : Nat) {u : api_Use} : OLe (c_catalog_Strength fu u) (g_catalog_Strength u) := by
  unfold c_catalog_Strength g_catalog_Strength
  repeat' (with_reducible first | assumption | apply OLe.bind_ | apply OLe.cond_ | apply OLe.up_ | apply c_catalog_of_le | apply c_catalog_Strength.j1_le | apply c_slices_Contains_int_le | apply c_slices_Index_int_le | exact OLe.refl | intro _)
def c_catalog_Valid (fu : Nat) (u : api_Use) : Option (Bool) :=
  (c_catalog_Strength fu u).bind fun y =>
  some (decide (0 < y))
theorem c_catalog_Valid_le (fu : Nat) {u : api_Use} : OLe (c_catalog_Valid fu u) (g_catalog_Valid u) := by
  unfold c_catalog_Valid g_catalog_Valid
  repeat' (with_reducible first | assumption | apply OLe.bind_ | apply OLe.cond_ | apply OLe.up_ | apply c_catalog_Strength_le | exact OLe.refl | intro _)
def c_catalog_Kind (fu : Nat) (alg : Int) : Option (Int) :=
  (c_catalog_of fu alg).bind fun y =>
  some y.1.kind
theorem c_catalog_Kind_le (fu : Nat) {alg : Int} : OLe (c_catalog_Kind fu alg) (g_catalog_Kind alg) := by
  unfold c_catalog_Kind g_catalog_Kind
  repeat' (with_reducible first | assumption | apply OLe.bind_ | apply OLe.cond_ | apply OLe.up_ | apply c_catalog_of_le | exact OLe.refl | intro _)
def c_certificate_Key (fu : Nat) (n : Int) : Option (Bool) :=
  cond (decide (0 ≤ n))
    (some (decide (n ≤ 2147483648)))
    (some false)
theorem c_certificate_Key_le (fu : Nat) {n : Int} : OLe (c_certificate_Key fu n) (g_certificate_Key n) := by
  unfold c_certificate_Key g_certificate_Key
  repeat' (with_reducible first | assumption | apply OLe.bind_ | apply OLe.cond_ | apply OLe.up_ | exact OLe.refl | intro _)
def c_catalog_Named.j2 (fu : Nat) (x8_1 : Int) (x17_2 : Bool) : Option (Lp (Int) (Bool)) :=
  cond (x17_2)
    (up (some false))
    (some (.next (W (x8_1 + 1))))
theorem c_catalog_Named.j2_le (fu : Nat) {x8_1 : Int} {x17_2 : Bool} : OLe (c_catalog_Named.j2 fu x8_1 x17_2) (g_catalog_Named.j2 x8_1 x17_2) := by
  unfold c_catalog_Named.j2 g_catalog_Named.j2
  repeat' (with_reducible first | assumption | apply OLe.bind_ | apply OLe.cond_ | apply OLe.up_ | exact OLe.refl | intro _)
def c_catalog_Named.l1 (fu : Nat) (s : ByteArray) (x8_1 : Int) : Option (Lp (Int) (Bool)) :=
  cond (decide (x8_1 < ((toB s).length : Int)))
    ((getI (toB s) x8_1).bind fun e =>
    cond (decide ((e.toNat : Int) ≤ 32))
      (c_catalog_Named.j2 fu x8_1 true)
      (c_catalog_Named.j2 fu x8_1 (decide (126 < (e.toNat : Int)))))
    (up (
      cond (decide (1 ≤ (s.size : Int)))
        (some (decide ((s.size : Int) ≤ 32)))
        (some false)))
theorem c_catalog_Named.l1_le (fu : Nat) {s : ByteArray} {x8_1 : Int} : OLe (c_catalog_Named.l1 fu s x8_1) (g_catalog_Named.l1 s x8_1) := by
  unfold c_catalog_Named.l1 g_catalog_Named.l1
  repeat' (with_reducible first | assumption | apply OLe.bind_ | apply OLe.cond_ | apply OLe.up_ | apply c_catalog_Named.j2_le | exact OLe.refl | intro _)
def c_catalog_Named (fu : Nat) (s : ByteArray) : Option (Bool) :=
  loopC fu (fun q' => c_catalog_Named.l1 fu s q') 0
theorem c_catalog_Named_le (fu : Nat) {s : ByteArray} : OLe (c_catalog_Named fu s) (g_catalog_Named s) := by
  unfold c_catalog_Named g_catalog_Named
  repeat' (with_reducible first | assumption | apply OLe.bind_ | apply OLe.cond_ | apply OLe.up_ | apply c_catalog_Named.l1_le | (refine OLe.lpC _ (fun _ => ?_) _) | exact OLe.refl | intro _)
def c_certificate_named.j2 (fu : Nat) (x7_1 : Int) (x27_2 : Bool) : Option (Lp (Int) (Bool)) :=
  cond (x27_2)
    (up (some false))
    (some (.next (W (x7_1 + 1))))
theorem c_certificate_named.j2_le (fu : Nat) {x7_1 : Int} {x27_2 : Bool} : OLe (c_certificate_named.j2 fu x7_1 x27_2) (g_certificate_named.j2 x7_1 x27_2) := by
  unfold c_certificate_named.j2 g_certificate_named.j2
  repeat' (with_reducible first | assumption | apply OLe.bind_ | apply OLe.cond_ | apply OLe.up_ | exact OLe.refl | intro _)
def c_certificate_named.l1 (fu : Nat) (l : (List ByteArray)) (x7_1 : Int) : Option (Lp (Int) (Bool)) :=
  cond (decide (x7_1 < (l.length : Int)))
    ((getI l x7_1).bind fun e =>
    (c_catalog_Named fu e).bind fun y =>
    cond (!y)
      (c_certificate_named.j2 fu x7_1 true)
      (cond (decide (0 < x7_1))
        ((getI l (W (x7_1 - 1))).bind fun e_2 =>
        c_certificate_named.j2 fu x7_1 (!ltT (toB e_2) (toB e)))
        (c_certificate_named.j2 fu x7_1 false)))
    (up (
      some (decide ((l.length : Int) ≤ 8))))
theorem c_certificate_named.l1_le (fu : Nat) {l : (List ByteArray)} {x7_1 : Int} : OLe (c_certificate_named.l1 fu l x7_1) (g_certificate_named.l1 l x7_1) := by
  unfold c_certificate_named.l1 g_certificate_named.l1
  repeat' (with_reducible first | assumption | apply OLe.bind_ | apply OLe.cond_ | apply OLe.up_ | apply c_catalog_Named_le | apply c_certificate_named.j2_le | exact OLe.refl | intro _)
def c_certificate_named (fu : Nat) (l : (List ByteArray)) : Option (Bool) :=
  loopC fu (fun q' => c_certificate_named.l1 fu l q') 0
theorem c_certificate_named_le (fu : Nat) {l : (List ByteArray)} : OLe (c_certificate_named fu l) (g_certificate_named l) := by
  unfold c_certificate_named g_certificate_named
  repeat' (with_reducible first | assumption | apply OLe.bind_ | apply OLe.cond_ | apply OLe.up_ | apply c_certificate_named.l1_le | (refine OLe.lpC _ (fun _ => ?_) _) | exact OLe.refl | intro _)
def c_certificate_of (fu : Nat) (u : api_Use) (kind : Int) : Option (Bool) :=
  (c_catalog_Valid fu u).bind fun y =>
  cond (y)
    ((c_catalog_Kind fu u.Alg).bind fun y_2 =>
    some (decide (y_2 = kind)))
    (some false)
theorem c_certificate_of_le (fu : Nat) {u : api_Use} {kind : Int} : OLe (c_certificate_of fu u kind) (g_certificate_of u kind) := by
  unfold c_certificate_of g_certificate_of
  repeat' (with_reducible first | assumption | apply OLe.bind_ | apply OLe.cond_ | apply OLe.up_ | apply c_catalog_Valid_le | apply c_catalog_Kind_le | exact OLe.refl | intro _)
def c_certificate_sum (fu : Nat) (n : Int) : Option (Bool) :=
  cond (decide (0 ≤ n))
    (some (decide (n < 4294967296)))
    (some false)
theorem c_certificate_sum_le (fu : Nat) {n : Int} : OLe (c_certificate_sum fu n) (g_certificate_sum n) := by
  unfold c_certificate_sum g_certificate_sum
  repeat' (with_reducible first | assumption | apply OLe.bind_ | apply OLe.cond_ | apply OLe.up_ | exact OLe.refl | intro _)
def c_certificate_valid.j3 (fu : Nat) (c : api_Certificate) (x73_3 : Bool) : Option (Bool) :=
  cond (x73_3)
    (some false)
    (cond (decide (0 ≤ c.Path))
      (cond (decide (c.Path ≤ 8))
        (cond (c.Authority)
          (some true)
          (some (decide (c.Path = 0))))
        (some false))
      (some false))
theorem c_certificate_valid.j3_le (fu : Nat) {c : api_Certificate} {x73_3 : Bool} : OLe (c_certificate_valid.j3 fu c x73_3) (g_certificate_valid.j3 c x73_3) := by
  unfold c_certificate_valid.j3 g_certificate_valid.j3
  repeat' (with_reducible first | assumption | apply OLe.bind_ | apply OLe.cond_ | apply OLe.up_ | exact OLe.refl | intro _)
def c_certificate_valid.j2 (fu : Nat) (c : api_Certificate) (x58_2 : Bool) : Option (Bool) :=
  cond (x58_2)
    (some false)
    (cond (decide (c.From < 0))
      (c_certificate_valid.j3 fu c true)
      (cond (decide (c.To < c.From))
        (c_certificate_valid.j3 fu c true)
        (c_certificate_valid.j3 fu c (decide (40000 < c.To)))))
theorem c_certificate_valid.j2_le (fu : Nat) {c : api_Certificate} {x58_2 : Bool} : OLe (c_certificate_valid.j2 fu c x58_2) (g_certificate_valid.j2 c x58_2) := by
  unfold c_certificate_valid.j2 g_certificate_valid.j2
  repeat' (with_reducible first | assumption | apply OLe.bind_ | apply OLe.cond_ | apply OLe.up_ | apply c_certificate_valid.j3_le | exact OLe.refl | intro _)
def c_certificate_valid.j1 (fu : Nat) (c : api_Certificate) (x28_1 : Bool) : Option (Bool) :=
  cond (x28_1)
    (some false)
    ((c_certificate_of fu c.Key 2).bind fun y_4 =>
    cond (!y_4)
      (c_certificate_valid.j2 fu c true)
      ((c_certificate_Key fu c.KeyId).bind fun y_5 =>
      cond (!y_5)
        (c_certificate_valid.j2 fu c true)
        ((c_certificate_of fu c.Hash 1).bind fun y_6 =>
        cond (!y_6)
          (c_certificate_valid.j2 fu c true)
          ((c_certificate_Key fu c.Seal.Key).bind fun y_7 =>
          cond (!y_7)
            (c_certificate_valid.j2 fu c true)
            ((c_certificate_sum fu c.Seal.Sum).bind fun y_8 =>
            c_certificate_valid.j2 fu c (!y_8))))))
theorem c_certificate_valid.j1_le (fu : Nat) {c : api_Certificate} {x28_1 : Bool} : OLe (c_certificate_valid.j1 fu c x28_1) (g_certificate_valid.j1 c x28_1) := by
  unfold c_certificate_valid.j1 g_certificate_valid.j1
  repeat' (with_reducible first | assumption | apply OLe.bind_ | apply OLe.cond_ | apply OLe.up_ | apply c_certificate_of_le | apply c_certificate_valid.j2_le | apply c_certificate_Key_le | apply c_certificate_sum_le | exact OLe.refl | intro _)
def c_certificate_valid (fu : Nat) (c : api_Certificate) : Option (Bool) :=
  cond (decide (c.Serial < 0))
    (c_certificate_valid.j1 fu c true)
    (cond (decide (1099511627776 < c.Serial))
      (c_certificate_valid.j1 fu c true)
      ((c_catalog_Named fu c.Issuer).bind fun y =>
      cond (!y)
        (c_certificate_valid.j1 fu c true)
        ((c_catalog_Named fu c.Subject).bind fun y_2 =>
        cond (!y_2)
          (c_certificate_valid.j1 fu c true)
          ((c_certificate_named fu c.Names).bind fun y_3 =>
          c_certificate_valid.j1 fu c (!y_3)))))
theorem c_certificate_valid_le (fu : Nat) {c : api_Certificate} : OLe (c_certificate_valid fu c) (g_certificate_valid c) := by
  unfold c_certificate_valid g_certificate_valid
  repeat' (with_reducible first | assumption | apply OLe.bind_ | apply OLe.cond_ | apply OLe.up_ | apply c_certificate_valid.j1_le | apply c_catalog_Named_le | apply c_certificate_named_le | exact OLe.refl | intro _)
def c_certificate_Check (fu : Nat) (c : api_Certificate) : Option (Int) :=
  (c_certificate_valid fu c).bind fun y =>
  cond (!y)
    (some 9)
    (some 0)
theorem c_certificate_Check_le (fu : Nat) {c : api_Certificate} : OLe (c_certificate_Check fu c) (g_certificate_Check c) := by
  unfold c_certificate_Check g_certificate_Check
  repeat' (with_reducible first | assumption | apply OLe.bind_ | apply OLe.cond_ | apply OLe.up_ | apply c_certificate_valid_le | exact OLe.refl | intro _)
def c_keystore_Shows.l2 (fu : Nat) (key : api_Use) (id : Int) (l : (List api_Certificate)) (x30_2 : Int) : Option (Lp (Int) (Bool)) :=
  cond (decide (x30_2 < (l.length : Int)))
    ((getI l x30_2).bind fun e =>
    (c_certificate_Check fu e).bind fun y_4 =>
    cond (!decide (y_4 = 0))
      (up (some false))
      (some (.next (W (x30_2 + 1)))))
    (up (
      cond (decide ((l.length : Int) = 0))
        (some true)
        ((getI l 0).bind fun e_2 =>
        cond (decide (e_2.Key = key))
          (some (decide (e_2.KeyId = id)))
          (some false))))
theorem c_keystore_Shows.l2_le (fu : Nat) {key : api_Use} {id : Int} {l : (List api_Certificate)} {x30_2 : Int} : OLe (c_keystore_Shows.l2 fu key id l x30_2) (g_keystore_Shows.l2 key id l x30_2) := by
  unfold c_keystore_Shows.l2 g_keystore_Shows.l2
  repeat' (with_reducible first | assumption | apply OLe.bind_ | apply OLe.cond_ | apply OLe.up_ | apply c_certificate_Check_le | exact OLe.refl | intro _)
def c_keystore_Shows.j1 (fu : Nat) (key : api_Use) (id : Int) (l : (List api_Certificate)) (x27_1 : Bool) : Option (Bool) :=
  cond (x27_1)
    (some false)
    (loopC fu (fun q' => c_keystore_Shows.l2 fu key id l q') 0)
theorem c_keystore_Shows.j1_le (fu : Nat) {key : api_Use} {id : Int} {l : (List api_Certificate)} {x27_1 : Bool} : OLe (c_keystore_Shows.j1 fu key id l x27_1) (g_keystore_Shows.j1 key id l x27_1) := by
  unfold c_keystore_Shows.j1 g_keystore_Shows.j1
  repeat' (with_reducible first | assumption | apply OLe.bind_ | apply OLe.cond_ | apply OLe.up_ | apply c_keystore_Shows.l2_le | (refine OLe.lpC _ (fun _ => ?_) _) | exact OLe.refl | intro _)
def c_keystore_Shows (fu : Nat) (key : api_Use) (id : Int) (l : (List api_Certificate)) : Option (Bool) :=
  (c_catalog_Valid fu key).bind fun y =>
  cond (!y)
    (c_keystore_Shows.j1 fu key id l true)
    ((c_catalog_Kind fu key.Alg).bind fun y_2 =>
    cond (!decide (y_2 = 2))
      (c_keystore_Shows.j1 fu key id l true)
      ((c_certificate_Key fu id).bind fun y_3 =>
      cond (!y_3)
        (c_keystore_Shows.j1 fu key id l true)
        (c_keystore_Shows.j1 fu key id l (decide (8 < (l.length : Int))))))
theorem c_keystore_Shows_le (fu : Nat) {key : api_Use} {id : Int} {l : (List api_Certificate)} : OLe (c_keystore_Shows fu key id l) (g_keystore_Shows key id l) := by
  unfold c_keystore_Shows g_keystore_Shows
  repeat' (with_reducible first | assumption | apply OLe.bind_ | apply OLe.cond_ | apply OLe.up_ | apply c_catalog_Valid_le | apply c_keystore_Shows.j1_le | apply c_catalog_Kind_le | apply c_certificate_Key_le | exact OLe.refl | intro _)
def c_endpoint_Check_c1_f92 (fu : Nat) : Option (Unit) :=
  some ()
theorem c_endpoint_Check_c1_f92_le (fu : Nat) : OLe (c_endpoint_Check_c1_f92 fu) (g_endpoint_Check_c1_f92) := by
  unfold c_endpoint_Check_c1_f92 g_endpoint_Check_c1_f92
  repeat' (with_reducible first | assumption | apply OLe.bind_ | apply OLe.cond_ | apply OLe.up_ | exact OLe.refl | intro _)
def c_endpoint_Check_c1_c1_f92 (fu : Nat) (n : Int) : Option (Bool) :=
  (c_certificate_Key fu n).bind fun y =>
  some (!y)
theorem c_endpoint_Check_c1_c1_f92_le (fu : Nat) {n : Int} : OLe (c_endpoint_Check_c1_c1_f92 fu n) (g_endpoint_Check_c1_c1_f92 n) := by
  unfold c_endpoint_Check_c1_c1_f92 g_endpoint_Check_c1_c1_f92
  repeat' (with_reducible first | assumption | apply OLe.bind_ | apply OLe.cond_ | apply OLe.up_ | apply c_certificate_Key_le | exact OLe.refl | intro _)
def c_slices_IndexFunc_int.l1 (fu : Nat) (s : (List Int)) (f : Int → Option (Bool)) (x8_1 : Int) : Option (Lp (Int) (Int)) :=
  cond (decide (x8_1 < (s.length : Int)))
    ((getI s x8_1).bind fun e =>
    (f e).bind fun y =>
    cond (y)
      (up (some x8_1))
      (some (.next (W (x8_1 + 1)))))
    (up (
      some (-1)))
theorem m_slices_IndexFunc_int.l1 {s : (List Int)} {f : Int → Option (Bool)} {x8_1 : Int} {f_p : Int → Option (Bool)} (h_f : ∀ (x0 : Int), OLe (f x0) (f_p x0)) : OLe (g_slices_IndexFunc_int.l1 s f x8_1) (g_slices_IndexFunc_int.l1 s f_p x8_1) := by
  unfold g_slices_IndexFunc_int.l1
  repeat' (with_reducible first | assumption | apply OLe.bind_ | apply OLe.cond_ | apply OLe.up_ | apply h_f | exact OLe.refl | intro _)
theorem c_slices_IndexFunc_int.l1_le (fu : Nat) {s : (List Int)} {f : Int → Option (Bool)} {x8_1 : Int} {f_p : Int → Option (Bool)} (h_f : ∀ (x0 : Int), OLe (f x0) (f_p x0)) : OLe (c_slices_IndexFunc_int.l1 fu s f x8_1) (g_slices_IndexFunc_int.l1 s f_p x8_1) := by
  unfold c_slices_IndexFunc_int.l1 g_slices_IndexFunc_int.l1
  repeat' (with_reducible first | assumption | apply OLe.bind_ | apply OLe.cond_ | apply OLe.up_ | apply h_f | exact OLe.refl | intro _)
def c_slices_IndexFunc_int (fu : Nat) (s : (List Int)) (f : Int → Option (Bool)) : Option (Int) :=
  loopC fu (fun q' => c_slices_IndexFunc_int.l1 fu s f q') 0
theorem m_slices_IndexFunc_int {s : (List Int)} {f : Int → Option (Bool)} {f_p : Int → Option (Bool)} (h_f : ∀ (x0 : Int), OLe (f x0) (f_p x0)) : OLe (g_slices_IndexFunc_int s f) (g_slices_IndexFunc_int s f_p) := by
  unfold g_slices_IndexFunc_int
  repeat' (with_reducible first | assumption | apply OLe.bind_ | apply OLe.cond_ | apply OLe.up_ | apply h_f | apply m_slices_IndexFunc_int.l1 | (refine OLe.lp (fun _ => ?_) _) | exact OLe.refl | intro _)
theorem c_slices_IndexFunc_int_le (fu : Nat) {s : (List Int)} {f : Int → Option (Bool)} {f_p : Int → Option (Bool)} (h_f : ∀ (x0 : Int), OLe (f x0) (f_p x0)) : OLe (c_slices_IndexFunc_int fu s f) (g_slices_IndexFunc_int s f_p) := by
  unfold c_slices_IndexFunc_int g_slices_IndexFunc_int
  repeat' (with_reducible first | assumption | apply OLe.bind_ | apply OLe.cond_ | apply OLe.up_ | apply h_f | apply c_slices_IndexFunc_int.l1_le | (refine OLe.lpC _ (fun _ => ?_) _) | exact OLe.refl | intro _)
def c_slices_ContainsFunc_int (fu : Nat) (s : (List Int)) (f : Int → Option (Bool)) : Option (Bool) :=
  (c_slices_IndexFunc_int fu s f).bind fun y =>
  some (decide (0 ≤ y))
theorem c_slices_ContainsFunc_int_le (fu : Nat) {s : (List Int)} {f : Int → Option (Bool)} {f_p : Int → Option (Bool)} (h_f : ∀ (x0 : Int), OLe (f x0) (f_p x0)) : OLe (c_slices_ContainsFunc_int fu s f) (g_slices_ContainsFunc_int s f_p) := by
  unfold c_slices_ContainsFunc_int g_slices_ContainsFunc_int
  repeat' (with_reducible first | assumption | apply OLe.bind_ | apply OLe.cond_ | apply OLe.up_ | apply h_f | apply c_slices_IndexFunc_int_le | exact OLe.refl | intro _)
def c_endpoint_Check_c1_f93 (fu : Nat) : Option (Unit) :=
  some ()
theorem c_endpoint_Check_c1_f93_le (fu : Nat) : OLe (c_endpoint_Check_c1_f93 fu) (g_endpoint_Check_c1_f93) := by
  unfold c_endpoint_Check_c1_f93 g_endpoint_Check_c1_f93
  repeat' (with_reducible first | assumption | apply OLe.bind_ | apply OLe.cond_ | apply OLe.up_ | exact OLe.refl | intro _)
def c_endpoint_hash (fu : Nat) (alg : Int) : Option (Bool) :=
  (c_catalog_Kind fu alg).bind fun y =>
  some (decide (y = 1))
theorem c_endpoint_hash_le (fu : Nat) {alg : Int} : OLe (c_endpoint_hash fu alg) (g_endpoint_hash alg) := by
  unfold c_endpoint_hash g_endpoint_hash
  repeat' (with_reducible first | assumption | apply OLe.bind_ | apply OLe.cond_ | apply OLe.up_ | apply c_catalog_Kind_le | exact OLe.refl | intro _)
def c_endpoint_Check_c1_c1_f93 (fu : Nat) (n : Int) : Option (Bool) :=
  (c_endpoint_hash fu n).bind fun y =>
  some (!y)
theorem c_endpoint_Check_c1_c1_f93_le (fu : Nat) {n : Int} : OLe (c_endpoint_Check_c1_c1_f93 fu n) (g_endpoint_Check_c1_c1_f93 n) := by
  unfold c_endpoint_Check_c1_c1_f93 g_endpoint_Check_c1_c1_f93
  repeat' (with_reducible first | assumption | apply OLe.bind_ | apply OLe.cond_ | apply OLe.up_ | apply c_endpoint_hash_le | exact OLe.refl | intro _)
def c_endpoint_Check.j4 (fu : Nat) (x82_4 : Bool) : Option (Int) :=
  cond (x82_4)
    (some 19)
    (some 0)
theorem c_endpoint_Check.j4_le (fu : Nat) {x82_4 : Bool} : OLe (c_endpoint_Check.j4 fu x82_4) (g_endpoint_Check.j4 x82_4) := by
  unfold c_endpoint_Check.j4 g_endpoint_Check.j4
  repeat' (with_reducible first | assumption | apply OLe.bind_ | apply OLe.cond_ | apply OLe.up_ | exact OLe.refl | intro _)
def c_endpoint_Check.l3 (fu : Nat) (e : api_Endpoint) (x58_3 : Int) : Option (Lp (Int) (Int)) :=
  cond (decide (x58_3 < (e.Identities.length : Int)))
    ((getI e.Identities x58_3).bind fun e_2 =>
    (c_keystore_Shows fu e_2.Key e_2.KeyId e_2.Chain).bind fun y_5 =>
    cond (!y_5)
      (up (some 19))
      (some (.next (W (x58_3 + 1)))))
    (up (
      (c_endpoint_Check_c1_f92 fu).bind fun y_6 =>
      (c_slices_ContainsFunc_int fu e.Anchors (fun x0 => c_endpoint_Check_c1_c1_f92 fu x0)).bind fun y_7 =>
      cond (y_7)
        (c_endpoint_Check.j4 fu true)
        ((c_endpoint_Check_c1_f93 fu).bind fun y_8 =>
        (c_slices_ContainsFunc_int fu e.Hashes (fun x0 => c_endpoint_Check_c1_c1_f93 fu x0)).bind fun y_9 =>
        c_endpoint_Check.j4 fu y_9)))
theorem c_endpoint_Check.l3_le (fu : Nat) {e : api_Endpoint} {x58_3 : Int} : OLe (c_endpoint_Check.l3 fu e x58_3) (g_endpoint_Check.l3 e x58_3) := by
  unfold c_endpoint_Check.l3 g_endpoint_Check.l3
  repeat' (with_reducible first | assumption | apply OLe.bind_ | apply OLe.cond_ | apply OLe.up_ | apply c_keystore_Shows_le | apply c_endpoint_Check_c1_f92_le | apply c_slices_ContainsFunc_int_le | apply c_endpoint_Check_c1_c1_f92_le | apply c_endpoint_Check.j4_le | apply c_endpoint_Check_c1_f93_le | apply c_endpoint_Check_c1_c1_f93_le | exact OLe.refl | intro _)
def c_endpoint_Check.j2 (fu : Nat) (e : api_Endpoint) (x54_2 : Bool) : Option (Int) :=
  cond (x54_2)
    (some 19)
    (loopC fu (fun q' => c_endpoint_Check.l3 fu e q') 0)
theorem c_endpoint_Check.j2_le (fu : Nat) {e : api_Endpoint} {x54_2 : Bool} : OLe (c_endpoint_Check.j2 fu e x54_2) (g_endpoint_Check.j2 e x54_2) := by
  unfold c_endpoint_Check.j2 g_endpoint_Check.j2
  repeat' (with_reducible first | assumption | apply OLe.bind_ | apply OLe.cond_ | apply OLe.up_ | apply c_endpoint_Check.l3_le | (refine OLe.lpC _ (fun _ => ?_) _) | exact OLe.refl | intro _)
def c_endpoint_Check.j1 (fu : Nat) (e : api_Endpoint) (x32_1 : Bool) : Option (Int) :=
  cond (x32_1)
    (some 19)
    (cond (decide (4 < (e.Identities.length : Int)))
      (c_endpoint_Check.j2 fu e true)
      (cond (decide (16 < (e.Anchors.length : Int)))
        (c_endpoint_Check.j2 fu e true)
        ((c_endpoint_ascends fu e.Anchors).bind fun y_3 =>
        cond (!y_3)
          (c_endpoint_Check.j2 fu e true)
          ((c_endpoint_ascends fu e.Hashes).bind fun y_4 =>
          c_endpoint_Check.j2 fu e (!y_4)))))
theorem c_endpoint_Check.j1_le (fu : Nat) {e : api_Endpoint} {x32_1 : Bool} : OLe (c_endpoint_Check.j1 fu e x32_1) (g_endpoint_Check.j1 e x32_1) := by
  unfold c_endpoint_Check.j1 g_endpoint_Check.j1
  repeat' (with_reducible first | assumption | apply OLe.bind_ | apply OLe.cond_ | apply OLe.up_ | apply c_endpoint_Check.j2_le | apply c_endpoint_ascends_le | exact OLe.refl | intro _)
def c_endpoint_Check (fu : Nat) (e : api_Endpoint) : Option (Int) :=
  (c_settings_Word fu e.Name).bind fun y =>
  cond (!y)
    (c_endpoint_Check.j1 fu e true)
    (cond (decide (e.Least < 1))
      (c_endpoint_Check.j1 fu e true)
      (cond (decide (e.Most < e.Least))
        (c_endpoint_Check.j1 fu e true)
        (cond (decide (4 < e.Most))
          (c_endpoint_Check.j1 fu e true)
          ((c_endpoint_suites fu e.Suites).bind fun y_2 =>
          c_endpoint_Check.j1 fu e (!y_2)))))
theorem c_endpoint_Check_le (fu : Nat) {e : api_Endpoint} : OLe (c_endpoint_Check fu e) (g_endpoint_Check e) := by
  unfold c_endpoint_Check g_endpoint_Check
  repeat' (with_reducible first | assumption | apply OLe.bind_ | apply OLe.cond_ | apply OLe.up_ | apply c_settings_Word_le | apply c_endpoint_Check.j1_le | apply c_endpoint_suites_le | exact OLe.refl | intro _)
theorem m_slices_IndexFunc_api_Item.l1 {s : (List api_Item)} {f : api_Item → Option (Bool)} {x8_1 : Int} {f_p : api_Item → Option (Bool)} (h_f : ∀ (x0 : api_Item), OLe (f x0) (f_p x0)) : OLe (g_slices_IndexFunc_api_Item.l1 s f x8_1) (g_slices_IndexFunc_api_Item.l1 s f_p x8_1) := by
  unfold g_slices_IndexFunc_api_Item.l1
  repeat' (with_reducible first | assumption | apply OLe.bind_ | apply OLe.cond_ | apply OLe.up_ | apply h_f | exact OLe.refl | intro _)
theorem m_slices_IndexFunc_api_Item {s : (List api_Item)} {f : api_Item → Option (Bool)} {f_p : api_Item → Option (Bool)} (h_f : ∀ (x0 : api_Item), OLe (f x0) (f_p x0)) : OLe (g_slices_IndexFunc_api_Item s f) (g_slices_IndexFunc_api_Item s f_p) := by
  unfold g_slices_IndexFunc_api_Item
  repeat' (with_reducible first | assumption | apply OLe.bind_ | apply OLe.cond_ | apply OLe.up_ | apply h_f | apply m_slices_IndexFunc_api_Item.l1 | (refine OLe.lp (fun _ => ?_) _) | exact OLe.refl | intro _)
theorem m_slices_IndexFunc_api_Change.l1 {s : (List api_Change)} {f : api_Change → Option (Bool)} {x8_1 : Int} {f_p : api_Change → Option (Bool)} (h_f : ∀ (x0 : api_Change), OLe (f x0) (f_p x0)) : OLe (g_slices_IndexFunc_api_Change.l1 s f x8_1) (g_slices_IndexFunc_api_Change.l1 s f_p x8_1) := by
  unfold g_slices_IndexFunc_api_Change.l1
  repeat' (with_reducible first | assumption | apply OLe.bind_ | apply OLe.cond_ | apply OLe.up_ | apply h_f | exact OLe.refl | intro _)
theorem m_slices_IndexFunc_api_Change {s : (List api_Change)} {f : api_Change → Option (Bool)} {f_p : api_Change → Option (Bool)} (h_f : ∀ (x0 : api_Change), OLe (f x0) (f_p x0)) : OLe (g_slices_IndexFunc_api_Change s f) (g_slices_IndexFunc_api_Change s f_p) := by
  unfold g_slices_IndexFunc_api_Change
  repeat' (with_reducible first | assumption | apply OLe.bind_ | apply OLe.cond_ | apply OLe.up_ | apply h_f | apply m_slices_IndexFunc_api_Change.l1 | (refine OLe.lp (fun _ => ?_) _) | exact OLe.refl | intro _)
theorem m_slices_IndexFunc_api_Required.l1 {s : (List api_Required)} {f : api_Required → Option (Bool)} {x8_1 : Int} {f_p : api_Required → Option (Bool)} (h_f : ∀ (x0 : api_Required), OLe (f x0) (f_p x0)) : OLe (g_slices_IndexFunc_api_Required.l1 s f x8_1) (g_slices_IndexFunc_api_Required.l1 s f_p x8_1) := by
  unfold g_slices_IndexFunc_api_Required.l1
  repeat' (with_reducible first | assumption | apply OLe.bind_ | apply OLe.cond_ | apply OLe.up_ | apply h_f | exact OLe.refl | intro _)
theorem m_slices_IndexFunc_api_Required {s : (List api_Required)} {f : api_Required → Option (Bool)} {f_p : api_Required → Option (Bool)} (h_f : ∀ (x0 : api_Required), OLe (f x0) (f_p x0)) : OLe (g_slices_IndexFunc_api_Required s f) (g_slices_IndexFunc_api_Required s f_p) := by
  unfold g_slices_IndexFunc_api_Required
  repeat' (with_reducible first | assumption | apply OLe.bind_ | apply OLe.cond_ | apply OLe.up_ | apply h_f | apply m_slices_IndexFunc_api_Required.l1 | (refine OLe.lp (fun _ => ?_) _) | exact OLe.refl | intro _)
end Go.Proofs.YtkpcbnnlefcebaaGreat
