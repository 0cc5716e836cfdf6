import Derived.Test.YtkpcbnnlefcebaaGreatPC
import Derived.Test.YtkpcbnnlefcebaaGreatP1
set_option linter.unusedVariables false
set_option linter.unusedSimpArgs false
namespace Go.Proofs.YtkpcbnnlefcebaaGreat
theorem I8 {cmp : Aa -> Aa -> Option (Int)} : Sf (fun rec (x : List Aa × Int × Int × Int) => Ak.F (fun data a b limit => rec (data, a, b, limit)) x.1 x.2.1 x.2.2.1 x.2.2.2 cmp) := fun p q h a => by
 show Bd (Ak.F _ _ _ _ _ _) (Ak.F _ _ _ _ _ _)
 unfold Ak.F
 refine Bd.lp (fun _ => ?_) _
 unfold Ak.l1 Ak.j2 Ak.j3 Ak.j4 Ak.j5 Ak.j6
 repeat' (with_reducible first | exact Bd.refl | apply Bd.cond_ | apply Bd.bind_ | apply Bd.up_ | apply h | intro _)
def P3 (fu : Nat) (c : Am) : Option (Am) :=
 (Hz 16 ([] : List ByteArray) c.Names).bind fun l =>
 some (Am.mk c.Serial c.Issuer c.Subject c.Key c.KeyId c.Hash c.From c.To c.Authority c.Path l c.Seal)
theorem V1 (fu : Nat) {c : Am} : Bd (P3 fu c) (Lg c) := by
 unfold P3 Lg
 repeat' (with_reducible first | assumption | apply Bd.bind_ | apply Bd.cond_ | apply Bd.up_ | exact Bd.refl | intro _)
def Dv.j3 (fu : Nat) (i_2 : Int) (x27_3 : Bool) : Option (Lp (Int) (Bool)) :=
 cond (x27_3)
  (up (some false))
  (some (.next (W (i_2 + 1))))
theorem Dv.j3_le (fu : Nat) {i_2 : Int} {x27_3 : Bool} : Bd (Dv.j3 fu i_2 x27_3) (C9.j3 i_2 x27_3) := by
 unfold Dv.j3 C9.j3
 repeat' (with_reducible first | assumption | apply Bd.bind_ | apply Bd.cond_ | apply Bd.up_ | exact Bd.refl | intro _)
def Dv.l2 (fu : Nat) (s : ByteArray) (i_2 : Int) : Option (Lp (Int) (Bool)) :=
 cond (decide (i_2 < (s.size : Int)))
  ((bD s i_2).bind fun c =>
  cond (decide ((c.toNat : Int) < 33))
   (Dv.j3 fu i_2 true)
   ((bD s i_2).bind fun c_2 =>
   Dv.j3 fu i_2 (decide (126 < (c_2.toNat : Int)))))
  (up (
   some true))
theorem Dv.l2_le (fu : Nat) {s : ByteArray} {i_2 : Int} : Bd (Dv.l2 fu s i_2) (C9.l2 s i_2) := by
 unfold Dv.l2 C9.l2
 repeat' (with_reducible first | assumption | apply Bd.bind_ | apply Bd.cond_ | apply Bd.up_ | apply Dv.j3_le | exact Bd.refl | intro _)
def Dv.j1 (fu : Nat) (s : ByteArray) (x11_1 : Bool) : Option (Bool) :=
 cond (x11_1)
  (some false)
  (Jl fu (fun q' => Dv.l2 fu s q') 0)
theorem Dv.j1_le (fu : Nat) {s : ByteArray} {x11_1 : Bool} : Bd (Dv.j1 fu s x11_1) (C9.j1 s x11_1) := by
 unfold Dv.j1 C9.j1
 repeat' (with_reducible first | assumption | apply Bd.bind_ | apply Bd.cond_ | apply Bd.up_ | apply Dv.l2_le | (refine Bd.lpC _ (fun _ => ?_) _) | exact Bd.refl | intro _)
def Dv (fu : Nat) (s : ByteArray) : Option (Bool) :=
 cond (decide ((s.size : Int) < 1))
  (Dv.j1 fu s true)
  (Dv.j1 fu s (decide (32 < (s.size : Int))))
theorem P7 (fu : Nat) {s : ByteArray} : Bd (Dv fu s) (C9 s) := by
 unfold Dv C9
 repeat' (with_reducible first | assumption | apply Bd.bind_ | apply Bd.cond_ | apply Bd.up_ | apply Dv.j1_le | exact Bd.refl | intro _)
def Fs.j1 (fu : Nat) (b : Int) (x3_1 : Bool) : Option (Int) :=
 cond (x3_1)
  (some 0)
  (cond (decide (b < 1024))
   (some 56)
   (cond (decide (b < 2048))
    (some 80)
    (cond (decide (b < 3072))
     (some 112)
     (cond (decide (b < 7680))
      (some 128)
      (cond (decide (b < 15360))
       (some 192)
       (some 256))))))
theorem Fs.j1_le (fu : Nat) {b : Int} {x3_1 : Bool} : Bd (Fs.j1 fu b x3_1) (Ek.j1 b x3_1) := by
 unfold Fs.j1 Ek.j1
 repeat' (with_reducible first | assumption | apply Bd.bind_ | apply Bd.cond_ | apply Bd.up_ | exact Bd.refl | intro _)
def Fs (fu : Nat) (b : Int) : Option (Int) :=
 cond (decide (b < 512))
  (Fs.j1 fu b true)
  (Fs.j1 fu b (decide (16384 < b)))
theorem Sr (fu : Nat) {b : Int} : Bd (Fs fu b) (Ek b) := by
 unfold Fs Ek
 repeat' (with_reducible first | assumption | apply Bd.bind_ | apply Bd.cond_ | apply Bd.up_ | apply Fs.j1_le | exact Bd.refl | intro _)
def E9.l1 (fu : Nat) (b : Int) (sizes : (List Int)) (strengths : (List Int)) (i_1 : Int) : Option (Lp (Int) (Int)) :=
 cond (decide (i_1 < (sizes.length : Int)))
  ((Cb sizes i_1).bind fun e =>
  cond (decide (e = b))
   ((Cb strengths i_1).bind fun e_2 =>
   up (some e_2))
   (some (.next (W (i_1 + 1)))))
  (up (
   some 0))
theorem E9.l1_le (fu : Nat) {b : Int} {sizes : (List Int)} {strengths : (List Int)} {i_1 : Int} : Bd (E9.l1 fu b sizes strengths i_1) (Eh.l1 b sizes strengths i_1) := by
 unfold E9.l1 Eh.l1
 repeat' (with_reducible first | assumption | apply Bd.bind_ | apply Bd.cond_ | apply Bd.up_ | exact Bd.refl | intro _)
def E9 (fu : Nat) (b : Int) (sizes : (List Int)) (strengths : (List Int)) : Option (Int) :=
 Jl fu (fun q' => E9.l1 fu b sizes strengths q') 0
theorem Ol (fu : Nat) {b : Int} {sizes : (List Int)} {strengths : (List Int)} : Bd (E9 fu b sizes strengths) (Eh b sizes strengths) := by
 unfold E9 Eh
 repeat' (with_reducible first | assumption | apply Bd.bind_ | apply Bd.cond_ | apply Bd.up_ | apply E9.l1_le | (refine Bd.lpC _ (fun _ => ?_) _) | exact Bd.refl | intro _)
def D3.j2 (fu : Nat) (alg : Int) (x14_2 : Bool) : Option (Int) :=
 cond (x14_2)
  (some 256)
  (cond (decide (alg = 19))
   (some 64)
   (cond (decide (alg = 20))
    (some 80)
    (some 0)))
theorem D3.j2_le (fu : Nat) {alg : Int} {x14_2 : Bool} : Bd (D3.j2 fu alg x14_2) (Dp.j2 alg x14_2) := by
 unfold D3.j2 Dp.j2
 repeat' (with_reducible first | assumption | apply Bd.bind_ | apply Bd.cond_ | apply Bd.up_ | exact Bd.refl | intro _)
def D3.j1 (fu : Nat) (alg : Int) (x8_1 : Bool) : Option (Int) :=
 cond (x8_1)
  (some 128)
  (cond (decide (alg = 4))
   (some 192)
   (cond (decide (alg = 18))
    (D3.j2 fu alg (decide (alg = 18)))
    (D3.j2 fu alg (decide (alg = 22)))))
theorem D3.j1_le (fu : Nat) {alg : Int} {x8_1 : Bool} : Bd (D3.j1 fu alg x8_1) (Dp.j1 alg x8_1) := by
 unfold D3.j1 Dp.j1
 repeat' (with_reducible first | assumption | apply Bd.bind_ | apply Bd.cond_ | apply Bd.up_ | apply D3.j2_le | exact Bd.refl | intro _)
def D3 (fu : Nat) (alg : Int) : Option (Int) :=
 cond (decide (alg = 1))
  (some 18)
  (cond (decide (alg = 2))
   (some 60)
   (cond (decide (alg = 3))
    (D3.j1 fu alg (decide (alg = 3)))
    (cond (decide (alg = 8))
     (D3.j1 fu alg (decide (alg = 8)))
     (D3.j1 fu alg (decide (alg = 21))))))
theorem Tr (fu : Nat) {alg : Int} : Bd (D3 fu alg) (Dp alg) := by
 unfold D3 Dp
 repeat' (with_reducible first | assumption | apply Bd.bind_ | apply Bd.cond_ | apply Bd.up_ | apply D3.j1_le | exact Bd.refl | intro _)
def B3.j3 (fu : Nat) (u : Az) (x35_3 : Bool) : Option (Int) :=
 cond (x35_3)
  ((Mb u.Bits 2).bind fun q =>
  some q)
  (some 0)
theorem B3.j3_le (fu : Nat) {u : Az} {x35_3 : Bool} : Bd (B3.j3 fu u x35_3) (Br.j3 u x35_3) := by
 unfold B3.j3 Br.j3
 repeat' (with_reducible first | assumption | apply Bd.bind_ | apply Bd.cond_ | apply Bd.up_ | exact Bd.refl | intro _)
def B3.j4 (fu : Nat) (u : Az) (x62_4 : Bool) : Option (Int) :=
 cond (x62_4)
  ((E9 fu u.Bits ([128, 256] : List Int) ([128, 256] : List Int)).bind fun y_6 =>
  some y_6)
  ((D3 fu u.Alg).bind fun y_7 =>
  (E9 fu u.Bits ([0] : List Int) ([y_7] : List Int)).bind fun y_8 =>
  some y_8)
theorem B3.j4_le (fu : Nat) {u : Az} {x62_4 : Bool} : Bd (B3.j4 fu u x62_4) (Br.j4 u x62_4) := by
 unfold B3.j4 Br.j4
 repeat' (with_reducible first | assumption | apply Bd.bind_ | apply Bd.cond_ | apply Bd.up_ | apply Ol | apply Tr | exact Bd.refl | intro _)
def B3.j2 (fu : Nat) (u : Az) (x15_2 : Bool) : Option (Int) :=
 cond (x15_2)
  (cond (decide (u.Bits = 160))
   (B3.j3 fu u true)
   (cond (decide (u.Bits = 224))
    (B3.j3 fu u true)
    (cond (decide (u.Bits = 256))
     (B3.j3 fu u true)
     (cond (decide (u.Bits = 384))
      (B3.j3 fu u true)
      (B3.j3 fu u (decide (u.Bits = 521)))))))
  (cond (decide (u.Alg = 9))
   ((E9 fu u.Bits ([44, 65, 87] : List Int) ([128, 192, 256] : List Int)).bind fun y_2 =>
   some y_2)
   (cond (decide (u.Alg = 13))
    ((E9 fu u.Bits ([512, 768, 1024] : List Int) ([128, 192, 256] : List Int)).bind fun y_3 =>
    some y_3)
    (cond (decide (u.Alg = 14))
     ((E9 fu u.Bits ([40, 128] : List Int) ([40, 60] : List Int)).bind fun y_4 =>
     some y_4)
     (cond (decide (u.Alg = 15))
      ((E9 fu u.Bits ([112, 168] : List Int) ([80, 112] : List Int)).bind fun y_5 =>
      some y_5)
      (cond (decide (u.Alg = 16))
       (B3.j4 fu u (decide (u.Alg = 16)))
       (B3.j4 fu u (decide (u.Alg = 17))))))))
theorem B3.j2_le (fu : Nat) {u : Az} {x15_2 : Bool} : Bd (B3.j2 fu u x15_2) (Br.j2 u x15_2) := by
 unfold B3.j2 Br.j2
 repeat' (with_reducible first | assumption | apply Bd.bind_ | apply Bd.cond_ | apply Bd.up_ | apply B3.j3_le | apply Ol | apply B3.j4_le | exact Bd.refl | intro _)
def B3.j1 (fu : Nat) (u : Az) (x8_1 : Bool) : Option (Int) :=
 cond (x8_1)
  ((Fs fu u.Bits).bind fun y =>
  some y)
  (cond (decide (u.Alg = 7))
   (B3.j2 fu u (decide (u.Alg = 7)))
   (B3.j2 fu u (decide (u.Alg = 12))))
theorem B3.j1_le (fu : Nat) {u : Az} {x8_1 : Bool} : Bd (B3.j1 fu u x8_1) (Br.j1 u x8_1) := by
 unfold B3.j1 Br.j1
 repeat' (with_reducible first | assumption | apply Bd.bind_ | apply Bd.cond_ | apply Bd.up_ | apply Sr | apply B3.j2_le | exact Bd.refl | intro _)
def B3 (fu : Nat) (u : Az) : Option (Int) :=
 cond (decide (u.Alg = 5))
  (B3.j1 fu u (decide (u.Alg = 5)))
  (cond (decide (u.Alg = 6))
   (B3.j1 fu u (decide (u.Alg = 6)))
   (cond (decide (u.Alg = 10))
    (B3.j1 fu u (decide (u.Alg = 10)))
    (B3.j1 fu u (decide (u.Alg = 11)))))
theorem R0 (fu : Nat) {u : Az} : Bd (B3 fu u) (Br u) := by
 unfold B3 Br
 repeat' (with_reducible first | assumption | apply Bd.bind_ | apply Bd.cond_ | apply Bd.up_ | apply B3.j1_le | exact Bd.refl | intro _)
def L1 (fu : Nat) (u : Az) : Option (Bool) :=
 (B3 fu u).bind fun y =>
 some (decide (0 < y))
theorem O9 (fu : Nat) {u : Az} : Bd (L1 fu u) (I0 u) := by
 unfold L1 I0
 repeat' (with_reducible first | assumption | apply Bd.bind_ | apply Bd.cond_ | apply Bd.up_ | apply R0 | exact Bd.refl | intro _)
def Pm (fu : Nat) : Option ((List Ar)) :=
 some ([(Ar.mk (⟨#[]⟩ : ByteArray) 0), (Ar.mk (⟨#[109, 100, 53]⟩ : ByteArray) 1), (Ar.mk (⟨#[115, 104, 97, 49]⟩ : ByteArray) 1), (Ar.mk (⟨#[115, 104, 97, 50, 53, 54]⟩ : ByteArray) 1), (Ar.mk (⟨#[115, 104, 97, 51, 56, 52]⟩ : ByteArray) 1), (Ar.mk (⟨#[114, 115, 97]⟩ : ByteArray) 2), (Ar.mk (⟨#[100, 115, 97]⟩ : ByteArray) 2), (Ar.mk (⟨#[101, 99, 100, 115, 97]⟩ : ByteArray) 2), (Ar.mk (⟨#[101, 100, 50, 53, 53, 49, 57]⟩ : ByteArray) 2), (Ar.mk (⟨#[109, 108, 100, 115, 97]⟩ : ByteArray) 2), (Ar.mk (⟨#[114, 115, 97, 107, 120]⟩ : ByteArray) 3), (Ar.mk (⟨#[100, 104, 101]⟩ : ByteArray) 3), (Ar.mk (⟨#[101, 99, 100, 104, 101]⟩ : ByteArray) 3), (Ar.mk (⟨#[109, 108, 107, 101, 109]⟩ : ByteArray) 3), (Ar.mk (⟨#[114, 99, 52]⟩ : ByteArray) 4), (Ar.mk (⟨#[100, 101, 115, 51]⟩ : ByteArray) 4), (Ar.mk (⟨#[97, 101, 115, 99, 98, 99]⟩ : ByteArray) 4), (Ar.mk (⟨#[97, 101, 115, 103, 99, 109]⟩ : ByteArray) 4), (Ar.mk (⟨#[99, 104, 97, 99, 104, 97]⟩ : ByteArray) 4), (Ar.mk (⟨#[104, 109, 97, 99, 109, 100, 53]⟩ : ByteArray) 5), (Ar.mk (⟨#[104, 109, 97, 99, 115, 104, 97, 49]⟩ : ByteArray) 5), (Ar.mk (⟨#[104, 109, 97, 99, 115, 104, 97, 50, 53, 54]⟩ : ByteArray) 5), (Ar.mk (⟨#[97, 101, 97, 100]⟩ : ByteArray) 5)] : List Ar)
theorem Vr (fu : Nat) : Bd (Pm fu) (La) := by
 unfold Pm La
 repeat' (with_reducible first | assumption | apply Bd.bind_ | apply Bd.cond_ | apply Bd.up_ | exact Bd.refl | intro _)
def Gi.j1 (fu : Nat) (alg : Int) (x8_1 : Bool) : Option (Int) :=
 cond (x8_1)
  (some 0)
  ((Pm fu).bind fun y =>
  (Cb y alg).bind fun e =>
  some e.kind)
theorem Gi.j1_le (fu : Nat) {alg : Int} {x8_1 : Bool} : Bd (Gi.j1 fu alg x8_1) (Fk.j1 alg x8_1) := by
 unfold Gi.j1 Fk.j1
 repeat' (with_reducible first | assumption | apply Bd.bind_ | apply Bd.cond_ | apply Bd.up_ | apply Vr | exact Bd.refl | intro _)
def Gi (fu : Nat) (alg : Int) : Option (Int) :=
 cond (decide (alg < 1))
  (Gi.j1 fu alg true)
  (Gi.j1 fu alg (decide (22 < alg)))
theorem P6 (fu : Nat) {alg : Int} : Bd (Gi fu alg) (Fk alg) := by
 unfold Gi Fk
 repeat' (with_reducible first | assumption | apply Bd.bind_ | apply Bd.cond_ | apply Bd.up_ | apply Gi.j1_le | exact Bd.refl | intro _)
def Lh (fu : Nat) (u : Az) : Option (Bool) :=
 (L1 fu u).bind fun y =>
 cond (y)
  ((Gi fu u.Alg).bind fun y_2 =>
  some (decide (y_2 = 2)))
  (some false)
theorem Qt (fu : Nat) {u : Az} : Bd (Lh fu u) (H5 u) := by
 unfold Lh H5
 repeat' (with_reducible first | assumption | apply Bd.bind_ | apply Bd.cond_ | apply Bd.up_ | apply O9 | apply P6 | exact Bd.refl | intro _)
def Bl.j5 (fu : Nat) (i_4 : Int) (x123_5 : Bool) : Option (Lp (Int) (Int)) :=
 cond (x123_5)
  (up (some 9))
  (some (.next (W (i_4 + 1))))
theorem Bl.j5_le (fu : Nat) {i_4 : Int} {x123_5 : Bool} : Bd (Bl.j5 fu i_4 x123_5) (Be.j5 i_4 x123_5) := by
 unfold Bl.j5 Be.j5
 repeat' (with_reducible first | assumption | apply Bd.bind_ | apply Bd.cond_ | apply Bd.up_ | exact Bd.refl | intro _)
def Bl.j6 (fu : Nat) (x145_6 : Bool) : Option (Int) :=
 cond (x145_6)
  (some 9)
  (some 0)
theorem Bl.j6_le (fu : Nat) {x145_6 : Bool} : Bd (Bl.j6 fu x145_6) (Be.j6 x145_6) := by
 unfold Bl.j6 Be.j6
 repeat' (with_reducible first | assumption | apply Bd.bind_ | apply Bd.cond_ | apply Bd.up_ | exact Bd.refl | intro _)
def Bl.l4 (fu : Nat) (c : Am) (i_4 : Int) : Option (Lp (Int) (Int)) :=
 cond (decide (i_4 < (c.Names.length : Int)))
  ((Cb c.Names i_4).bind fun e =>
  (Dv fu e).bind fun y_6 =>
  cond (!y_6)
   (Bl.j5 fu i_4 true)
   (cond (decide (0 < i_4))
    ((Cb c.Names (W (i_4 - 1))).bind fun e_2 =>
    Bl.j5 fu i_4 (!gH (Ny e_2) (Ny e)))
    (Bl.j5 fu i_4 false)))
  (up (
   cond (decide (c.Seal.Key < 0))
    (Bl.j6 fu true)
    (cond (decide (2147483648 < c.Seal.Key))
     (Bl.j6 fu true)
     (cond (decide (c.Seal.Sum < 0))
      (Bl.j6 fu true)
      (Bl.j6 fu (decide (4294967296 <= c.Seal.Sum)))))))
theorem Bl.l4_le (fu : Nat) {c : Am} {i_4 : Int} : Bd (Bl.l4 fu c i_4) (Be.l4 c i_4) := by
 unfold Bl.l4 Be.l4
 repeat' (with_reducible first | assumption | apply Bd.bind_ | apply Bd.cond_ | apply Bd.up_ | apply P7 | apply Bl.j5_le | apply Bl.j6_le | exact Bd.refl | intro _)
def Bl.j3 (fu : Nat) (c : Am) (x91_3 : Bool) : Option (Int) :=
 cond (x91_3)
  (some 9)
  (Jl fu (fun q' => Bl.l4 fu c q') 0)
theorem Bl.j3_le (fu : Nat) {c : Am} {x91_3 : Bool} : Bd (Bl.j3 fu c x91_3) (Be.j3 c x91_3) := by
 unfold Bl.j3 Be.j3
 repeat' (with_reducible first | assumption | apply Bd.bind_ | apply Bd.cond_ | apply Bd.up_ | apply Bl.l4_le | (refine Bd.lpC _ (fun _ => ?_) _) | exact Bd.refl | intro _)
def Bl.j2 (fu : Nat) (c : Am) (x67_2 : Bool) : Option (Int) :=
 cond (x67_2)
  (some 9)
  (cond (decide (c.Path < 0))
   (Bl.j3 fu c true)
   (cond (decide (8 < c.Path))
    (Bl.j3 fu c true)
    (cond (!c.Authority)
     (cond (!decide (c.Path = 0))
      (Bl.j3 fu c true)
      (Bl.j3 fu c (decide (8 < (c.Names.length : Int)))))
     (Bl.j3 fu c (decide (8 < (c.Names.length : Int)))))))
theorem Bl.j2_le (fu : Nat) {c : Am} {x67_2 : Bool} : Bd (Bl.j2 fu c x67_2) (Be.j2 c x67_2) := by
 unfold Bl.j2 Be.j2
 repeat' (with_reducible first | assumption | apply Bd.bind_ | apply Bd.cond_ | apply Bd.up_ | apply Bl.j3_le | exact Bd.refl | intro _)
def Bl.j1 (fu : Nat) (c : Am) (x39_1 : Bool) : Option (Int) :=
 cond (x39_1)
  (some 9)
  ((L1 fu c.Hash).bind fun y_4 =>
  cond (!y_4)
   (Bl.j2 fu c true)
   ((Gi fu c.Hash.Alg).bind fun y_5 =>
   cond (!decide (y_5 = 1))
    (Bl.j2 fu c true)
    (cond (decide (c.From < 0))
     (Bl.j2 fu c true)
     (cond (decide (c.To < c.From))
      (Bl.j2 fu c true)
      (Bl.j2 fu c (decide (40000 < c.To)))))))
theorem Bl.j1_le (fu : Nat) {c : Am} {x39_1 : Bool} : Bd (Bl.j1 fu c x39_1) (Be.j1 c x39_1) := by
 unfold Bl.j1 Be.j1
 repeat' (with_reducible first | assumption | apply Bd.bind_ | apply Bd.cond_ | apply Bd.up_ | apply O9 | apply Bl.j2_le | apply P6 | exact Bd.refl | intro _)
def Bl (fu : Nat) (c : Am) : Option (Int) :=
 cond (decide (c.Serial < 0))
  (Bl.j1 fu c true)
  (cond (decide (1099511627776 < c.Serial))
   (Bl.j1 fu c true)
   ((Dv fu c.Issuer).bind fun y =>
   cond (!y)
    (Bl.j1 fu c true)
    ((Dv fu c.Subject).bind fun y_2 =>
    cond (!y_2)
     (Bl.j1 fu c true)
     ((Lh fu c.Key).bind fun y_3 =>
     cond (!y_3)
      (Bl.j1 fu c true)
      (cond (decide (c.KeyId < 0))
       (Bl.j1 fu c true)
       (Bl.j1 fu c (decide (2147483648 < c.KeyId))))))))
theorem O1 (fu : Nat) {c : Am} : Bd (Bl fu c) (Be c) := by
 unfold Bl Be
 repeat' (with_reducible first | assumption | apply Bd.bind_ | apply Bd.cond_ | apply Bd.up_ | apply Bl.j1_le | apply P7 | apply Qt | exact Bd.refl | intro _)
def K5 (fu : Nat) (s : ByteArray) : Option (Ah) :=
 some (Ah.mk 12 (Ny s) false ([] : (List Ah)))
theorem Vw (fu : Nat) {s : ByteArray} : Bd (K5 fu s) (In s) := by
 unfold K5 In
 repeat' (with_reducible first | assumption | apply Bd.bind_ | apply Bd.cond_ | apply Bd.up_ | exact Bd.refl | intro _)
def Dh.j2 (fu : Nat) (x_1 : Int) (b_1 : List UInt8) (x35_2 : Bool) : Option (Lp (Int × List UInt8) (Ah)) :=
 cond (x35_2)
  ((Hz 1 ([(u8 x_1)] : List UInt8) b_1).bind fun l =>
  (Sk .i64 x_1 8).bind fun q_2 =>
  some (.next (q_2, l)))
  (up (
   some (Ah.mk 2 b_1 false ([] : (List Ah)))))
theorem Dh.j2_le (fu : Nat) {x_1 : Int} {b_1 : List UInt8} {x35_2 : Bool} : Bd (Dh.j2 fu x_1 b_1 x35_2) (C0.j2 x_1 b_1 x35_2) := by
 unfold Dh.j2 C0.j2
 repeat' (with_reducible first | assumption | apply Bd.bind_ | apply Bd.cond_ | apply Bd.up_ | exact Bd.refl | intro _)
def Dh.l1 (fu : Nat) (x_1 : Int) (b_1 : List UInt8) : Option (Lp (Int × List UInt8) (Ah)) :=
 cond (!decide (x_1 = 0))
  (cond (!decide (x_1 = (-1)))
   (Dh.j2 fu x_1 b_1 true)
   (cond (decide (x_1 = 0))
    ((Cb b_1 0).bind fun e =>
    cond (decide (128 <= (e.toNat : Int)))
     (Dh.j2 fu x_1 b_1 true)
     (cond (decide (x_1 = (-1)))
      (Dh.j2 fu x_1 b_1 (decide ((e.toNat : Int) < 128)))
      (Dh.j2 fu x_1 b_1 false)))
    (cond (decide (x_1 = (-1)))
     ((Cb b_1 0).bind fun e_2 =>
     Dh.j2 fu x_1 b_1 (decide ((e_2.toNat : Int) < 128)))
     (Dh.j2 fu x_1 b_1 false))))
  (cond (decide (x_1 = 0))
   ((Cb b_1 0).bind fun e_3 =>
   cond (decide (128 <= (e_3.toNat : Int)))
    (Dh.j2 fu x_1 b_1 true)
    (cond (decide (x_1 = (-1)))
     (Dh.j2 fu x_1 b_1 (decide ((e_3.toNat : Int) < 128)))
     (Dh.j2 fu x_1 b_1 false)))
   (cond (decide (x_1 = (-1)))
    ((Cb b_1 0).bind fun e_4 =>
    Dh.j2 fu x_1 b_1 (decide ((e_4.toNat : Int) < 128)))
    (Dh.j2 fu x_1 b_1 false)))
theorem Dh.l1_le (fu : Nat) {x_1 : Int} {b_1 : List UInt8} : Bd (Dh.l1 fu x_1 b_1) (C0.l1 x_1 b_1) := by
 unfold Dh.l1 C0.l1
 repeat' (with_reducible first | assumption | apply Bd.bind_ | apply Bd.cond_ | apply Bd.up_ | apply Dh.j2_le | exact Bd.refl | intro _)
def Dh (fu : Nat) (n : Int) : Option (Ah) :=
 (Sk .i64 n 8).bind fun q =>
 Jl fu (fun q' => Dh.l1 fu q'.1 q'.2) (q, ([(u8 n)] : List UInt8))
theorem Qp (fu : Nat) {n : Int} : Bd (Dh fu n) (C0 n) := by
 unfold Dh C0
 repeat' (with_reducible first | assumption | apply Bd.bind_ | apply Bd.cond_ | apply Bd.up_ | apply Dh.l1_le | (refine Bd.lpC _ (fun _ => ?_) _) | exact Bd.refl | intro _)
def Ef.l1 (fu : Nat) (rec : (List Ah) -> Option ((List Ah))) (l : (List Ah)) (i_1 : Int) (out_1 : List Ah) : Option (Lp (Int × List Ah) ((List Ah))) :=
 cond (decide (i_1 < (l.length : Int)))
  ((Cb l i_1).bind fun e =>
  (Hz 1 ([] : List UInt8) e.Bytes).bind fun l_2 =>
  (rec e.Elements).bind fun y =>
  (Hz 256 out_1 ([(Ah.mk e.Tag l_2 e.Nested y)] : List Ah)).bind fun l_3 =>
  some (.next (W (i_1 + 1), l_3)))
  (up (
   some out_1))
theorem m_ref01_copies.l1 {rec : (List Ah) -> Option ((List Ah))} {l : (List Ah)} {i_1 : Int} {out_1 : List Ah} {rec_p : (List Ah) -> Option ((List Ah))} (h_rec : ∀ (x0 : (List Ah)), Bd (rec x0) (rec_p x0)) : Bd (Dj.l1 rec l i_1 out_1) (Dj.l1 rec_p l i_1 out_1) := by
 unfold Dj.l1
 repeat' (with_reducible first | assumption | apply Bd.bind_ | apply Bd.cond_ | apply Bd.up_ | apply h_rec | exact Bd.refl | intro _)
theorem Ef.l1_le (fu : Nat) {rec : (List Ah) -> Option ((List Ah))} {l : (List Ah)} {i_1 : Int} {out_1 : List Ah} {rec_p : (List Ah) -> Option ((List Ah))} (h_rec : ∀ (x0 : (List Ah)), Bd (rec x0) (rec_p x0)) : Bd (Ef.l1 fu rec l i_1 out_1) (Dj.l1 rec_p l i_1 out_1) := by
 unfold Ef.l1 Dj.l1
 repeat' (with_reducible first | assumption | apply Bd.bind_ | apply Bd.cond_ | apply Bd.up_ | apply h_rec | exact Bd.refl | intro _)
def Ef.F (fu : Nat) (rec : (List Ah) -> Option ((List Ah))) (l : (List Ah)) : Option ((List Ah)) :=
 Jl fu (fun q' => Ef.l1 fu rec l q'.1 q'.2) (0, ([] : List Ah))
theorem m_ref01_copies.F {rec : (List Ah) -> Option ((List Ah))} {l : (List Ah)} {rec_p : (List Ah) -> Option ((List Ah))} (h_rec : ∀ (x0 : (List Ah)), Bd (rec x0) (rec_p x0)) : Bd (Dj.F rec l) (Dj.F rec_p l) := by
 unfold Dj.F
 repeat' (with_reducible first | assumption | apply Bd.bind_ | apply Bd.cond_ | apply Bd.up_ | apply h_rec | apply m_ref01_copies.l1 | (refine Bd.lp (fun _ => ?_) _) | exact Bd.refl | intro _)
theorem Ef.F_le (fu : Nat) {rec : (List Ah) -> Option ((List Ah))} {l : (List Ah)} {rec_p : (List Ah) -> Option ((List Ah))} (h_rec : ∀ (x0 : (List Ah)), Bd (rec x0) (rec_p x0)) : Bd (Ef.F fu rec l) (Dj.F rec_p l) := by
 unfold Ef.F Dj.F
 repeat' (with_reducible first | assumption | apply Bd.bind_ | apply Bd.cond_ | apply Bd.up_ | apply h_rec | apply Ef.l1_le | (refine Bd.lpC _ (fun _ => ?_) _) | exact Bd.refl | intro _)
def Ef (fu : Nat) (l : (List Ah)) : Option ((List Ah)) := kW fu (fun rec (x : (List Ah)) => Ef.F fu (fun l => rec l) x) l
theorem Te : Sf (fun rec (x : (List Ah)) => Dj.F (fun l => rec l) x) := fun p q h a => by
 apply m_ref01_copies.F
 intros
 apply h
theorem Ua (fu : Nat) {l : (List Ah)} : Bd (Ef fu l) (Dj l) := by
 unfold Ef Dj
 refine Bd.fx _ ?_ Te _
 intro p q h a
 apply Ef.F_le
 intros
 apply h
def Ld (fu : Nat) (l : (List Ah)) : Option (Ah) :=
 (Ef fu l).bind fun y =>
 some (Ah.mk 48 ([] : (List UInt8)) true y)
theorem Qc (fu : Nat) {l : (List Ah)} : Bd (Ld fu l) (Il l) := by
 unfold Ld Il
 repeat' (with_reducible first | assumption | apply Bd.bind_ | apply Bd.cond_ | apply Bd.up_ | apply Ua | exact Bd.refl | intro _)
def N6 (fu : Nat) (u : Az) : Option (Ah) :=
 (Dh fu u.Alg).bind fun y =>
 (Dh fu u.Bits).bind fun y_2 =>
 (Ld fu ([y, y_2] : List Ah)).bind fun y_3 =>
 some y_3
theorem Wu (fu : Nat) {u : Az} : Bd (N6 fu u) (Kq u) := by
 unfold N6 Kq
 repeat' (with_reducible first | assumption | apply Bd.bind_ | apply Bd.cond_ | apply Bd.up_ | apply Qp | apply Qc | exact Bd.refl | intro _)
def Pf (fu : Nat) (b : Bool) : Option (Ah) :=
 cond (b)
  (some (Ah.mk 1 ([(255 : UInt8)] : List UInt8) false ([] : (List Ah))))
  (some (Ah.mk 1 ([(0 : UInt8)] : List UInt8) false ([] : (List Ah))))
theorem Vz (fu : Nat) {b : Bool} : Bd (Pf fu b) (Kz b) := by
 unfold Pf Kz
 repeat' (with_reducible first | assumption | apply Bd.bind_ | apply Bd.cond_ | apply Bd.up_ | exact Bd.refl | intro _)
def Hd.l1 (fu : Nat) (c : Am) (i_1 : Int) (names_1 : List Ah) : Option (Lp (Int × List Ah) (Ah)) :=
 cond (decide (i_1 < (c.Names.length : Int)))
  ((Cb c.Names i_1).bind fun e =>
  (K5 fu e).bind fun y =>
  (Hz 256 names_1 ([y] : List Ah)).bind fun l =>
  some (.next (W (i_1 + 1), l)))
  (up (
   (Dh fu c.Serial).bind fun y_12 =>
   (K5 fu c.Issuer).bind fun y_13 =>
   (K5 fu c.Subject).bind fun y_14 =>
   (N6 fu c.Key).bind fun y_15 =>
   (Dh fu c.KeyId).bind fun y_16 =>
   (N6 fu c.Hash).bind fun y_17 =>
   (Dh fu c.From).bind fun y_18 =>
   (Dh fu c.To).bind fun y_19 =>
   (Pf fu c.Authority).bind fun y_20 =>
   (Dh fu c.Path).bind fun y_21 =>
   (Ld fu names_1).bind fun y_22 =>
   (Ld fu ([y_12, y_13, y_14, y_15, y_16, y_17, y_18, y_19, y_20, y_21, y_22] : List Ah)).bind fun y_23 =>
   some y_23))
theorem Hd.l1_le (fu : Nat) {c : Am} {i_1 : Int} {names_1 : List Ah} : Bd (Hd.l1 fu c i_1 names_1) (Ge.l1 c i_1 names_1) := by
 unfold Hd.l1 Ge.l1
 repeat' (with_reducible first | assumption | apply Bd.bind_ | apply Bd.cond_ | apply Bd.up_ | apply Vw | apply Qp | apply Wu | apply Vz | apply Qc | exact Bd.refl | intro _)
def Hd (fu : Nat) (c : Am) : Option (Ah) :=
 Jl fu (fun q' => Hd.l1 fu c q'.1 q'.2) (0, ([] : List Ah))
theorem V0 (fu : Nat) {c : Am} : Bd (Hd fu c) (Ge c) := by
 unfold Hd Ge
 repeat' (with_reducible first | assumption | apply Bd.bind_ | apply Bd.cond_ | apply Bd.up_ | apply Hd.l1_le | (refine Bd.lpC _ (fun _ => ?_) _) | exact Bd.refl | intro _)
def Rm (fu : Nat) (n : Int) : Option (Bool) :=
 cond (decide (1 <= n))
  (cond (decide (n <= 255))
   ((V6 n 32).bind fun q =>
   some (!decide (q = 31)))
   (some false))
  (some false)
theorem W6 (fu : Nat) {n : Int} : Bd (Rm fu n) (L8 n) := by
 unfold Rm L8
 repeat' (with_reducible first | assumption | apply Bd.bind_ | apply Bd.cond_ | apply Bd.up_ | exact Bd.refl | intro _)
def C1.l2 (fu : Nat) (rec : Ah -> Option (Bool)) (v : Ah) (i_2 : Int) : Option (Lp (Int) (Bool)) :=
 cond (decide (i_2 < (v.Elements.length : Int)))
  ((Cb v.Elements i_2).bind fun e =>
  (rec e).bind fun y_2 =>
  cond (!y_2)
   (up (some false))
   (some (.next (W (i_2 + 1)))))
  (up (
   some true))
theorem m_ref01_formed.l2 {rec : Ah -> Option (Bool)} {v : Ah} {i_2 : Int} {rec_p : Ah -> Option (Bool)} (h_rec : ∀ (x0 : Ah), Bd (rec x0) (rec_p x0)) : Bd (Cc.l2 rec v i_2) (Cc.l2 rec_p v i_2) := by
 unfold Cc.l2
 repeat' (with_reducible first | assumption | apply Bd.bind_ | apply Bd.cond_ | apply Bd.up_ | apply h_rec | exact Bd.refl | intro _)
theorem C1.l2_le (fu : Nat) {rec : Ah -> Option (Bool)} {v : Ah} {i_2 : Int} {rec_p : Ah -> Option (Bool)} (h_rec : ∀ (x0 : Ah), Bd (rec x0) (rec_p x0)) : Bd (C1.l2 fu rec v i_2) (Cc.l2 rec_p v i_2) := by
 unfold C1.l2 Cc.l2
 repeat' (with_reducible first | assumption | apply Bd.bind_ | apply Bd.cond_ | apply Bd.up_ | apply h_rec | exact Bd.refl | intro _)
def C1.j1 (fu : Nat) (rec : Ah -> Option (Bool)) (v : Ah) (x38_1 : Bool) : Option (Bool) :=
 cond (x38_1)
  (some false)
  (Jl fu (fun q' => C1.l2 fu rec v q') 0)
theorem m_ref01_formed.j1 {rec : Ah -> Option (Bool)} {v : Ah} {x38_1 : Bool} {rec_p : Ah -> Option (Bool)} (h_rec : ∀ (x0 : Ah), Bd (rec x0) (rec_p x0)) : Bd (Cc.j1 rec v x38_1) (Cc.j1 rec_p v x38_1) := by
 unfold Cc.j1
 repeat' (with_reducible first | assumption | apply Bd.bind_ | apply Bd.cond_ | apply Bd.up_ | apply h_rec | apply m_ref01_formed.l2 | (refine Bd.lp (fun _ => ?_) _) | exact Bd.refl | intro _)
theorem C1.j1_le (fu : Nat) {rec : Ah -> Option (Bool)} {v : Ah} {x38_1 : Bool} {rec_p : Ah -> Option (Bool)} (h_rec : ∀ (x0 : Ah), Bd (rec x0) (rec_p x0)) : Bd (C1.j1 fu rec v x38_1) (Cc.j1 rec_p v x38_1) := by
 unfold C1.j1 Cc.j1
 repeat' (with_reducible first | assumption | apply Bd.bind_ | apply Bd.cond_ | apply Bd.up_ | apply h_rec | apply C1.l2_le | (refine Bd.lpC _ (fun _ => ?_) _) | exact Bd.refl | intro _)
def C1.F (fu : Nat) (rec : Ah -> Option (Bool)) (v : Ah) : Option (Bool) :=
 (Rm fu v.Tag).bind fun y =>
 cond (!y)
  (C1.j1 fu rec v true)
  ((Mb v.Tag 32).bind fun q =>
  (V6 q 2).bind fun q_2 =>
  cond (!decide (v.Nested = (decide (q_2 = 1))))
   (C1.j1 fu rec v true)
   (cond (v.Nested)
    (cond (decide (0 < (v.Bytes.length : Int)))
     (C1.j1 fu rec v true)
     (C1.j1 fu rec v false))
    (C1.j1 fu rec v (decide (0 < (v.Elements.length : Int))))))
theorem m_ref01_formed.F {rec : Ah -> Option (Bool)} {v : Ah} {rec_p : Ah -> Option (Bool)} (h_rec : ∀ (x0 : Ah), Bd (rec x0) (rec_p x0)) : Bd (Cc.F rec v) (Cc.F rec_p v) := by
 unfold Cc.F
 repeat' (with_reducible first | assumption | apply Bd.bind_ | apply Bd.cond_ | apply Bd.up_ | apply h_rec | apply m_ref01_formed.j1 | exact Bd.refl | intro _)
theorem C1.F_le (fu : Nat) {rec : Ah -> Option (Bool)} {v : Ah} {rec_p : Ah -> Option (Bool)} (h_rec : ∀ (x0 : Ah), Bd (rec x0) (rec_p x0)) : Bd (C1.F fu rec v) (Cc.F rec_p v) := by
 unfold C1.F Cc.F
 repeat' (with_reducible first | assumption | apply Bd.bind_ | apply Bd.cond_ | apply Bd.up_ | apply h_rec | apply W6 | apply C1.j1_le | exact Bd.refl | intro _)
def C1 (fu : Nat) (v : Ah) : Option (Bool) := kW fu (fun rec (x : Ah) => C1.F fu (fun v => rec v) x) v
theorem Tt : Sf (fun rec (x : Ah) => Cc.F (fun v => rec v) x) := fun p q h a => by
 apply m_ref01_formed.F
 intros
 apply h
theorem Th (fu : Nat) {v : Ah} : Bd (C1 fu v) (Cc v) := by
 unfold C1 Cc
 refine Bd.fx _ ?_ Tt _
 intro p q h a
 apply C1.F_le
 intros
 apply h
def Ev.l1 (fu : Nat) (rec : Ah -> Option (Int)) (v : Ah) (d_1 : Int) (i_1 : Int) : Option (Lp (Int × Int) (Int)) :=
 cond (decide (i_1 < (v.Elements.length : Int)))
  ((Cb v.Elements i_1).bind fun e =>
  (rec e).bind fun y =>
  some (.next (max d_1 y, W (i_1 + 1))))
  (up (
   some (W (d_1 + 1))))
theorem m_ref01_depth.l1 {rec : Ah -> Option (Int)} {v : Ah} {d_1 : Int} {i_1 : Int} {rec_p : Ah -> Option (Int)} (h_rec : ∀ (x0 : Ah), Bd (rec x0) (rec_p x0)) : Bd (Du.l1 rec v d_1 i_1) (Du.l1 rec_p v d_1 i_1) := by
 unfold Du.l1
 repeat' (with_reducible first | assumption | apply Bd.bind_ | apply Bd.cond_ | apply Bd.up_ | apply h_rec | exact Bd.refl | intro _)
theorem Ev.l1_le (fu : Nat) {rec : Ah -> Option (Int)} {v : Ah} {d_1 : Int} {i_1 : Int} {rec_p : Ah -> Option (Int)} (h_rec : ∀ (x0 : Ah), Bd (rec x0) (rec_p x0)) : Bd (Ev.l1 fu rec v d_1 i_1) (Du.l1 rec_p v d_1 i_1) := by
 unfold Ev.l1 Du.l1
 repeat' (with_reducible first | assumption | apply Bd.bind_ | apply Bd.cond_ | apply Bd.up_ | apply h_rec | exact Bd.refl | intro _)
def Ev.F (fu : Nat) (rec : Ah -> Option (Int)) (v : Ah) : Option (Int) :=
 Jl fu (fun q' => Ev.l1 fu rec v q'.1 q'.2) (0, 0)
theorem m_ref01_depth.F {rec : Ah -> Option (Int)} {v : Ah} {rec_p : Ah -> Option (Int)} (h_rec : ∀ (x0 : Ah), Bd (rec x0) (rec_p x0)) : Bd (Du.F rec v) (Du.F rec_p v) := by
 unfold Du.F
 repeat' (with_reducible first | assumption | apply Bd.bind_ | apply Bd.cond_ | apply Bd.up_ | apply h_rec | apply m_ref01_depth.l1 | (refine Bd.lp (fun _ => ?_) _) | exact Bd.refl | intro _)
theorem Ev.F_le (fu : Nat) {rec : Ah -> Option (Int)} {v : Ah} {rec_p : Ah -> Option (Int)} (h_rec : ∀ (x0 : Ah), Bd (rec x0) (rec_p x0)) : Bd (Ev.F fu rec v) (Du.F rec_p v) := by
 unfold Ev.F Du.F
 repeat' (with_reducible first | assumption | apply Bd.bind_ | apply Bd.cond_ | apply Bd.up_ | apply h_rec | apply Ev.l1_le | (refine Bd.lpC _ (fun _ => ?_) _) | exact Bd.refl | intro _)
def Ev (fu : Nat) (v : Ah) : Option (Int) := kW fu (fun rec (x : Ah) => Ev.F fu (fun v => rec v) x) v
theorem Uo : Sf (fun rec (x : Ah) => Du.F (fun v => rec v) x) := fun p q h a => by
 apply m_ref01_depth.F
 intros
 apply h
theorem Va (fu : Nat) {v : Ah} : Bd (Ev fu v) (Du v) := by
 unfold Ev Du
 refine Bd.fx _ ?_ Uo _
 intro p q h a
 apply Ev.F_le
 intros
 apply h
def Gg.l1 (fu : Nat) (n_1 : Int) (b_1 : List UInt8) : Option (Lp (Int × List UInt8) ((List UInt8))) :=
 cond (decide (0 < n_1))
  ((V6 n_1 256).bind fun q =>
  (Hz 1 ([(u8 q)] : List UInt8) b_1).bind fun l =>
  (Mb n_1 256).bind fun q_2 =>
  some (.next (q_2, l)))
  (up (
   (Hz 1 ([(u8 (W (128 + (b_1.length : Int))))] : List UInt8) b_1).bind fun l_2 =>
   some l_2))
theorem Gg.l1_le (fu : Nat) {n_1 : Int} {b_1 : List UInt8} : Bd (Gg.l1 fu n_1 b_1) (Fp.l1 n_1 b_1) := by
 unfold Gg.l1 Fp.l1
 repeat' (with_reducible first | assumption | apply Bd.bind_ | apply Bd.cond_ | apply Bd.up_ | exact Bd.refl | intro _)
def Gg (fu : Nat) (n : Int) : Option ((List UInt8)) :=
 cond (decide (n < 128))
  (some ([(u8 n)] : List UInt8))
  (Jl fu (fun q' => Gg.l1 fu q'.1 q'.2) (n, ([] : List UInt8)))
theorem T8 (fu : Nat) {n : Int} : Bd (Gg fu n) (Fp n) := by
 unfold Gg Fp
 repeat' (with_reducible first | assumption | apply Bd.bind_ | apply Bd.cond_ | apply Bd.up_ | apply Gg.l1_le | (refine Bd.lpC _ (fun _ => ?_) _) | exact Bd.refl | intro _)
def Fq.l1 (fu : Nat) (rec : Ah -> Option ((List UInt8))) (v : Ah) (i_1 : Int) (b_1 : List UInt8) : Option (Lp (Int × List UInt8) ((List UInt8))) :=
 cond (decide (i_1 < (v.Elements.length : Int)))
  ((Cb v.Elements i_1).bind fun e =>
  (rec e).bind fun y =>
  (Hz 1 b_1 y).bind fun l_2 =>
  some (.next (W (i_1 + 1), l_2)))
  (up (
   (Gg fu (b_1.length : Int)).bind fun y_2 =>
   (Hz 1 ([(u8 v.Tag)] : List UInt8) y_2).bind fun l_3 =>
   (Hz 1 l_3 b_1).bind fun l_4 =>
   some l_4))
theorem m_ref01_put.l1 {rec : Ah -> Option ((List UInt8))} {v : Ah} {i_1 : Int} {b_1 : List UInt8} {rec_p : Ah -> Option ((List UInt8))} (h_rec : ∀ (x0 : Ah), Bd (rec x0) (rec_p x0)) : Bd (D7.l1 rec v i_1 b_1) (D7.l1 rec_p v i_1 b_1) := by
 unfold D7.l1
 repeat' (with_reducible first | assumption | apply Bd.bind_ | apply Bd.cond_ | apply Bd.up_ | apply h_rec | exact Bd.refl | intro _)
theorem Fq.l1_le (fu : Nat) {rec : Ah -> Option ((List UInt8))} {v : Ah} {i_1 : Int} {b_1 : List UInt8} {rec_p : Ah -> Option ((List UInt8))} (h_rec : ∀ (x0 : Ah), Bd (rec x0) (rec_p x0)) : Bd (Fq.l1 fu rec v i_1 b_1) (D7.l1 rec_p v i_1 b_1) := by
 unfold Fq.l1 D7.l1
 repeat' (with_reducible first | assumption | apply Bd.bind_ | apply Bd.cond_ | apply Bd.up_ | apply h_rec | apply T8 | exact Bd.refl | intro _)
def Fq.F (fu : Nat) (rec : Ah -> Option ((List UInt8))) (v : Ah) : Option ((List UInt8)) :=
 (Hz 1 ([] : List UInt8) v.Bytes).bind fun l =>
 Jl fu (fun q' => Fq.l1 fu rec v q'.1 q'.2) (0, l)
theorem m_ref01_put.F {rec : Ah -> Option ((List UInt8))} {v : Ah} {rec_p : Ah -> Option ((List UInt8))} (h_rec : ∀ (x0 : Ah), Bd (rec x0) (rec_p x0)) : Bd (D7.F rec v) (D7.F rec_p v) := by
 unfold D7.F
 repeat' (with_reducible first | assumption | apply Bd.bind_ | apply Bd.cond_ | apply Bd.up_ | apply h_rec | apply m_ref01_put.l1 | (refine Bd.lp (fun _ => ?_) _) | exact Bd.refl | intro _)
theorem Fq.F_le (fu : Nat) {rec : Ah -> Option ((List UInt8))} {v : Ah} {rec_p : Ah -> Option ((List UInt8))} (h_rec : ∀ (x0 : Ah), Bd (rec x0) (rec_p x0)) : Bd (Fq.F fu rec v) (D7.F rec_p v) := by
 unfold Fq.F D7.F
 repeat' (with_reducible first | assumption | apply Bd.bind_ | apply Bd.cond_ | apply Bd.up_ | apply h_rec | apply Fq.l1_le | (refine Bd.lpC _ (fun _ => ?_) _) | exact Bd.refl | intro _)
def Fq (fu : Nat) (v : Ah) : Option ((List UInt8)) := kW fu (fun rec (x : Ah) => Fq.F fu (fun v => rec v) x) v
theorem W5 : Sf (fun rec (x : Ah) => D7.F (fun v => rec v) x) := fun p q h a => by
 apply m_ref01_put.F
 intros
 apply h
theorem Xu (fu : Nat) {v : Ah} : Bd (Fq fu v) (D7 v) := by
 unfold Fq D7
 refine Bd.fx _ ?_ W5 _
 intro p q h a
 apply Fq.F_le
 intros
 apply h
def Nh (fu : Nat) (v : Ah) : Option ((List UInt8) × Int) :=
 (C1 fu v).bind fun y =>
 cond (!y)
  (some (([] : (List UInt8)), 1))
  ((Ev fu v).bind fun y_2 =>
  cond (decide (16 < y_2))
   (some (([] : (List UInt8)), 3))
   ((Fq fu v).bind fun y_3 =>
   cond (decide (4096 < (y_3.length : Int)))
    (some (([] : (List UInt8)), 3))
    (some (y_3, 0))))
theorem Tn (fu : Nat) {v : Ah} : Bd (Nh fu v) (Jr v) := by
 unfold Nh Jr
 repeat' (with_reducible first | assumption | apply Bd.bind_ | apply Bd.cond_ | apply Bd.up_ | apply Th | apply Va | apply Xu | exact Bd.refl | intro _)
def Og (fu : Nat) (c : Am) : Option ((List UInt8) × Int) :=
 (Bl fu c).bind fun y =>
 cond (!decide (y = 0))
  (some (([] : (List UInt8)), 9))
  ((Hd fu c).bind fun y_2 =>
  (Nh fu y_2).bind fun y_3 =>
  some (y_3.1, y_3.2))
theorem U9 (fu : Nat) {c : Am} : Bd (Og fu c) (J1 c) := by
 unfold Og J1
 repeat' (with_reducible first | assumption | apply Bd.bind_ | apply Bd.cond_ | apply Bd.up_ | apply O1 | apply V0 | apply Tn | exact Bd.refl | intro _)
def H0.l1 (fu : Nat) (b : (List UInt8)) (h_1 : Int) (i_1 : Int) : Option (Lp (Int × Int) (Int)) :=
 cond (decide (i_1 < (b.length : Int)))
  ((Cb b i_1).bind fun e =>
  some (.next (IntKind.wrap .u32 ((Qv .u32 h_1 (IntKind.wrap .u32 (e.toNat : Int))) * 16777619), W (i_1 + 1))))
  (up (
   some (W h_1)))
theorem H0.l1_le (fu : Nat) {b : (List UInt8)} {h_1 : Int} {i_1 : Int} : Bd (H0.l1 fu b h_1 i_1) (G0.l1 b h_1 i_1) := by
 unfold H0.l1 G0.l1
 repeat' (with_reducible first | assumption | apply Bd.bind_ | apply Bd.cond_ | apply Bd.up_ | exact Bd.refl | intro _)
def H0 (fu : Nat) (b : (List UInt8)) : Option (Int) :=
 Jl fu (fun q' => H0.l1 fu b q'.1 q'.2) (2166136261, 0)
theorem Xq (fu : Nat) {b : (List UInt8)} : Bd (H0 fu b) (G0 b) := by
 unfold H0 G0
 repeat' (with_reducible first | assumption | apply Bd.bind_ | apply Bd.cond_ | apply Bd.up_ | apply H0.l1_le | (refine Bd.lpC _ (fun _ => ?_) _) | exact Bd.refl | intro _)
def Gk.j1 (fu : Nat) (key : Int) (y : Am) (x22_1 : Bool) : Option (Am × Int) :=
 cond (x22_1)
  (some ((Am.mk 0 (⟨#[]⟩ : ByteArray) (⟨#[]⟩ : ByteArray) (Az.mk 0 0) 0 (Az.mk 0 0) 0 0 false 0 ([] : (List ByteArray)) (Ga.mk 0 0)), 9))
  ((Og fu (Am.mk y.Serial y.Issuer y.Subject y.Key y.KeyId y.Hash y.From y.To y.Authority y.Path y.Names (Ga.mk 0 0))).bind fun y_3 =>
  (H0 fu y_3.1).bind fun y_4 =>
  some ((Am.mk y.Serial y.Issuer y.Subject y.Key y.KeyId y.Hash y.From y.To y.Authority y.Path y.Names (Ga.mk key y_4)), 0))
theorem Gk.j1_le (fu : Nat) {key : Int} {y : Am} {x22_1 : Bool} : Bd (Gk.j1 fu key y x22_1) (Fo.j1 key y x22_1) := by
 unfold Gk.j1 Fo.j1
 repeat' (with_reducible first | assumption | apply Bd.bind_ | apply Bd.cond_ | apply Bd.up_ | apply U9 | apply Xq | exact Bd.refl | intro _)
def Gk (fu : Nat) (c : Am) (key : Int) : Option (Am × Int) :=
 (P3 fu c).bind fun y =>
 (Bl fu (Am.mk y.Serial y.Issuer y.Subject y.Key y.KeyId y.Hash y.From y.To y.Authority y.Path y.Names (Ga.mk 0 0))).bind fun y_2 =>
 cond (!decide (y_2 = 0))
  (Gk.j1 fu key y true)
  (cond (decide (key < 0))
   (Gk.j1 fu key y true)
   (Gk.j1 fu key y (decide (2147483648 < key))))
theorem Vs (fu : Nat) {c : Am} {key : Int} : Bd (Gk fu c key) (Fo c key) := by
 unfold Gk Fo
 repeat' (with_reducible first | assumption | apply Bd.bind_ | apply Bd.cond_ | apply Bd.up_ | apply V1 | apply O1 | apply Gk.j1_le | exact Bd.refl | intro _)
def N7 (fu : Nat) (name : ByteArray) (key : Az) (id : Int) (anchor : Int) (to : Int) : Option (Bq) :=
 (Gk fu (Am.mk id (⟨#[114, 111, 111, 116]⟩ : ByteArray) name key id (Az.mk 3 0) 0 to false 0 ([name] : List ByteArray) (Ga.mk 0 0)) anchor).bind fun y =>
 some (Bq.mk key id ([y.1] : List Am))
theorem Jn (fu : Nat) {name : ByteArray} {key : Az} {id : Int} {anchor : Int} {to : Int} : Bd (N7 fu name key id anchor to) (Gz name key id anchor to) := by
 unfold N7 Gz
 repeat' (with_reducible first | assumption | apply Bd.bind_ | apply Bd.cond_ | apply Bd.up_ | apply Vs | exact Bd.refl | intro _)
def Gh (fu : Nat) (s : ByteArray) (c : UInt8) : Option (Int) :=
 some (aO s c)
theorem Kc (fu : Nat) {s : ByteArray} {c : UInt8} : Bd (Gh fu s c) (Er s c) := by
 unfold Gh Er
 repeat' (with_reducible first | assumption | apply Bd.bind_ | apply Bd.cond_ | apply Bd.up_ | exact Bd.refl | intro _)
def Ei (fu : Nat) (s : ByteArray) (c : UInt8) : Option (Int) :=
 (Gh fu s c).bind fun y =>
 some y
theorem Pz (fu : Nat) {s : ByteArray} {c : UInt8} : Bd (Ei fu s c) (D6 s c) := by
 unfold Ei D6
 repeat' (with_reducible first | assumption | apply Bd.bind_ | apply Bd.cond_ | apply Bd.up_ | apply Kc | exact Bd.refl | intro _)
def Le (fu : Nat) (c : UInt8) (others : ByteArray) : Option (Bool) :=
 cond (decide (97 <= (c.toNat : Int)))
  (cond (decide ((c.toNat : Int) <= 122))
   (some true)
   (cond (decide (65 <= (c.toNat : Int)))
    (cond (decide ((c.toNat : Int) <= 90))
     (some true)
     (cond (decide (48 <= (c.toNat : Int)))
      (cond (decide ((c.toNat : Int) <= 57))
       (some true)
       ((Ei fu others c).bind fun y =>
       some (decide (0 <= y))))
      ((Ei fu others c).bind fun y_2 =>
      some (decide (0 <= y_2)))))
    (cond (decide (48 <= (c.toNat : Int)))
     (cond (decide ((c.toNat : Int) <= 57))
      (some true)
      ((Ei fu others c).bind fun y_3 =>
      some (decide (0 <= y_3))))
     ((Ei fu others c).bind fun y_4 =>
     some (decide (0 <= y_4))))))
  (cond (decide (65 <= (c.toNat : Int)))
   (cond (decide ((c.toNat : Int) <= 90))
    (some true)
    (cond (decide (48 <= (c.toNat : Int)))
     (cond (decide ((c.toNat : Int) <= 57))
      (some true)
      ((Ei fu others c).bind fun y_5 =>
      some (decide (0 <= y_5))))
     ((Ei fu others c).bind fun y_6 =>
     some (decide (0 <= y_6)))))
   (cond (decide (48 <= (c.toNat : Int)))
    (cond (decide ((c.toNat : Int) <= 57))
     (some true)
     ((Ei fu others c).bind fun y_7 =>
     some (decide (0 <= y_7))))
    ((Ei fu others c).bind fun y_8 =>
    some (decide (0 <= y_8)))))
theorem Ra (fu : Nat) {c : UInt8} {others : ByteArray} : Bd (Le fu c others) (H3 c others) := by
 unfold Le H3
 repeat' (with_reducible first | assumption | apply Bd.bind_ | apply Bd.cond_ | apply Bd.up_ | apply Pz | exact Bd.refl | intro _)
def F2.l1 (fu : Nat) (s : ByteArray) (x8_1 : Int) : Option (Lp (Int) (Bool)) :=
 cond (decide (x8_1 < ((Ny s).length : Int)))
  ((Cb (Ny s) x8_1).bind fun e =>
  (Le fu e (⟨#[45, 95, 46]⟩ : ByteArray)).bind fun y =>
  cond (!y)
   (up (some false))
   (some (.next (W (x8_1 + 1)))))
  (up (
   cond (decide (1 <= (s.size : Int)))
    (some (decide ((s.size : Int) <= 32)))
    (some false)))
theorem F2.l1_le (fu : Nat) {s : ByteArray} {x8_1 : Int} : Bd (F2.l1 fu s x8_1) (Fb.l1 s x8_1) := by
 unfold F2.l1 Fb.l1
 repeat' (with_reducible first | assumption | apply Bd.bind_ | apply Bd.cond_ | apply Bd.up_ | apply Ra | exact Bd.refl | intro _)
def F2 (fu : Nat) (s : ByteArray) : Option (Bool) :=
 Jl fu (fun q' => F2.l1 fu s q') 0
theorem Sj (fu : Nat) {s : ByteArray} : Bd (F2 fu s) (Fb s) := by
 unfold F2 Fb
 repeat' (with_reducible first | assumption | apply Bd.bind_ | apply Bd.cond_ | apply Bd.up_ | apply F2.l1_le | (refine Bd.lpC _ (fun _ => ?_) _) | exact Bd.refl | intro _)
def Dq (fu : Nat) (alg : Int) (bits : Int) : Option (Az) :=
 some (Az.mk alg bits)
theorem Uv (fu : Nat) {alg : Int} {bits : Int} : Bd (Dq fu alg bits) (Db alg bits) := by
 unfold Dq Db
 repeat' (with_reducible first | assumption | apply Bd.bind_ | apply Bd.cond_ | apply Bd.up_ | exact Bd.refl | intro _)
def Fu.l1 (fu : Nat) (y : Az) (y_2 : Az) (y_3 : Az) (y_4 : Az) (y_5 : Az) (y_6 : Az) (y_7 : Az) (y_8 : Az) (y_9 : Az) (y_10 : Az) (y_11 : Az) (y_12 : Az) (y_13 : Az) (y_14 : Az) (y_15 : Az) (y_16 : Az) (y_17 : Az) (y_18 : Az) (y_19 : Az) (y_20 : Az) (y_21 : Az) (y_22 : Az) (x114_1 : Int) (l_1 : List A4) : Option (Lp (Int × List A4) ((List A4))) :=
 cond (decide (x114_1 < (([(A4.mk 0 (⟨#[114, 115, 97, 45, 114, 99, 52, 45, 109, 100, 53]⟩ : ByteArray) y y_2 y_14 y_10 1 2), (A4.mk 0 (⟨#[114, 115, 97, 45, 114, 99, 52, 45, 115, 104, 97]⟩ : ByteArray) y y_2 y_15 y_11 1 3), (A4.mk 0 (⟨#[114, 115, 97, 45, 100, 101, 115, 51, 45, 115, 104, 97]⟩ : ByteArray) y y_2 y_5 y_11 1 3), (A4.mk 0 (⟨#[100, 104, 101, 45, 100, 115, 97, 45, 100, 101, 115, 51, 45, 115, 104, 97]⟩ : ByteArray) y_16 y_3 y_5 y_11 1 3), (A4.mk 0 (⟨#[100, 104, 101, 45, 114, 115, 97, 45, 100, 101, 115, 51, 45, 115, 104, 97]⟩ : ByteArray) y_17 y_2 y_5 y_11 1 3), (A4.mk 0 (⟨#[114, 115, 97, 45, 97, 101, 115, 49, 50, 56, 45, 115, 104, 97]⟩ : ByteArray) y y_2 y_6 y_11 1 3), (A4.mk 0 (⟨#[100, 104, 101, 45, 114, 115, 97, 45, 97, 101, 115, 49, 50, 56, 45, 115, 104, 97]⟩ : ByteArray) y_18 y_2 y_6 y_11 1 3), (A4.mk 0 (⟨#[101, 99, 100, 104, 101, 45, 114, 115, 97, 45, 97, 101, 115, 49, 50, 56, 45, 115, 104, 97]⟩ : ByteArray) y_13 y_2 y_6 y_11 1 3), (A4.mk 0 (⟨#[101, 99, 100, 104, 101, 45, 101, 99, 100, 115, 97, 45, 97, 101, 115, 50, 53, 54, 45, 115, 104, 97, 50, 53, 54]⟩ : ByteArray) y_13 y_4 y_19 y_20 3 3), (A4.mk 0 (⟨#[101, 99, 100, 104, 101, 45, 114, 115, 97, 45, 97, 101, 115, 49, 50, 56, 45, 103, 99, 109]⟩ : ByteArray) y_13 y_2 y_7 y_12 3 3), (A4.mk 0 (⟨#[101, 99, 100, 104, 101, 45, 101, 99, 100, 115, 97, 45, 97, 101, 115, 50, 53, 54, 45, 103, 99, 109]⟩ : ByteArray) y_21 y_4 y_8 y_12 3 3), (A4.mk 0 (⟨#[101, 99, 100, 104, 101, 45, 114, 115, 97, 45, 99, 104, 97, 99, 104, 97]⟩ : ByteArray) y_13 y_2 y_9 y_12 3 3), (A4.mk 0 (⟨#[114, 115, 97, 45, 97, 101, 115, 50, 53, 54, 45, 103, 99, 109]⟩ : ByteArray) y y_2 y_8 y_12 3 3), (A4.mk 0 (⟨#[97, 101, 115, 49, 50, 56, 45, 103, 99, 109]⟩ : ByteArray) y_13 (Az.mk 0 0) y_7 y_12 4 4), (A4.mk 0 (⟨#[99, 104, 97, 99, 104, 97]⟩ : ByteArray) y_13 (Az.mk 0 0) y_9 y_12 4 4), (A4.mk 0 (⟨#[109, 108, 107, 101, 109, 45, 97, 101, 115, 50, 53, 54, 45, 103, 99, 109]⟩ : ByteArray) y_22 (Az.mk 0 0) y_8 y_12 4 4)] : List A4).length : Int)))
  ((Cb l_1 x114_1).bind fun e =>
  some (.next (W (x114_1 + 1), De l_1 ((x114_1).toNat) (A4.mk (W (x114_1 + 1)) e.Name e.Exchange e.Sign e.Cipher e.Mac e.Least e.Most))))
  (up (
   some l_1))
theorem Fu.l1_le (fu : Nat) {y : Az} {y_2 : Az} {y_3 : Az} {y_4 : Az} {y_5 : Az} {y_6 : Az} {y_7 : Az} {y_8 : Az} {y_9 : Az} {y_10 : Az} {y_11 : Az} {y_12 : Az} {y_13 : Az} {y_14 : Az} {y_15 : Az} {y_16 : Az} {y_17 : Az} {y_18 : Az} {y_19 : Az} {y_20 : Az} {y_21 : Az} {y_22 : Az} {x114_1 : Int} {l_1 : List A4} : Bd (Fu.l1 fu y y_2 y_3 y_4 y_5 y_6 y_7 y_8 y_9 y_10 y_11 y_12 y_13 y_14 y_15 y_16 y_17 y_18 y_19 y_20 y_21 y_22 x114_1 l_1) (E6.l1 y y_2 y_3 y_4 y_5 y_6 y_7 y_8 y_9 y_10 y_11 y_12 y_13 y_14 y_15 y_16 y_17 y_18 y_19 y_20 y_21 y_22 x114_1 l_1) := by
 unfold Fu.l1 E6.l1
 repeat' (with_reducible first | assumption | apply Bd.bind_ | apply Bd.cond_ | apply Bd.up_ | exact Bd.refl | intro _)
def Fu (fu : Nat) : Option ((List A4)) :=
 (Dq fu 10 0).bind fun y =>
 (Dq fu 5 0).bind fun y_2 =>
 (Dq fu 6 0).bind fun y_3 =>
 (Dq fu 7 0).bind fun y_4 =>
 (Dq fu 15 168).bind fun y_5 =>
 (Dq fu 16 128).bind fun y_6 =>
 (Dq fu 17 128).bind fun y_7 =>
 (Dq fu 17 256).bind fun y_8 =>
 (Dq fu 18 0).bind fun y_9 =>
 (Dq fu 19 0).bind fun y_10 =>
 (Dq fu 20 0).bind fun y_11 =>
 (Dq fu 22 0).bind fun y_12 =>
 (Dq fu 12 256).bind fun y_13 =>
 (Dq fu 14 128).bind fun y_14 =>
 (Dq fu 14 128).bind fun y_15 =>
 (Dq fu 11 1024).bind fun y_16 =>
 (Dq fu 11 1024).bind fun y_17 =>
 (Dq fu 11 2048).bind fun y_18 =>
 (Dq fu 16 256).bind fun y_19 =>
 (Dq fu 21 0).bind fun y_20 =>
 (Dq fu 12 384).bind fun y_21 =>
 (Dq fu 13 768).bind fun y_22 =>
 Jl fu (fun q' => Fu.l1 fu y y_2 y_3 y_4 y_5 y_6 y_7 y_8 y_9 y_10 y_11 y_12 y_13 y_14 y_15 y_16 y_17 y_18 y_19 y_20 y_21 y_22 q'.1 q'.2) (0, ([(A4.mk 0 (⟨#[114, 115, 97, 45, 114, 99, 52, 45, 109, 100, 53]⟩ : ByteArray) y y_2 y_14 y_10 1 2), (A4.mk 0 (⟨#[114, 115, 97, 45, 114, 99, 52, 45, 115, 104, 97]⟩ : ByteArray) y y_2 y_15 y_11 1 3), (A4.mk 0 (⟨#[114, 115, 97, 45, 100, 101, 115, 51, 45, 115, 104, 97]⟩ : ByteArray) y y_2 y_5 y_11 1 3), (A4.mk 0 (⟨#[100, 104, 101, 45, 100, 115, 97, 45, 100, 101, 115, 51, 45, 115, 104, 97]⟩ : ByteArray) y_16 y_3 y_5 y_11 1 3), (A4.mk 0 (⟨#[100, 104, 101, 45, 114, 115, 97, 45, 100, 101, 115, 51, 45, 115, 104, 97]⟩ : ByteArray) y_17 y_2 y_5 y_11 1 3), (A4.mk 0 (⟨#[114, 115, 97, 45, 97, 101, 115, 49, 50, 56, 45, 115, 104, 97]⟩ : ByteArray) y y_2 y_6 y_11 1 3), (A4.mk 0 (⟨#[100, 104, 101, 45, 114, 115, 97, 45, 97, 101, 115, 49, 50, 56, 45, 115, 104, 97]⟩ : ByteArray) y_18 y_2 y_6 y_11 1 3), (A4.mk 0 (⟨#[101, 99, 100, 104, 101, 45, 114, 115, 97, 45, 97, 101, 115, 49, 50, 56, 45, 115, 104, 97]⟩ : ByteArray) y_13 y_2 y_6 y_11 1 3), (A4.mk 0 (⟨#[101, 99, 100, 104, 101, 45, 101, 99, 100, 115, 97, 45, 97, 101, 115, 50, 53, 54, 45, 115, 104, 97, 50, 53, 54]⟩ : ByteArray) y_13 y_4 y_19 y_20 3 3), (A4.mk 0 (⟨#[101, 99, 100, 104, 101, 45, 114, 115, 97, 45, 97, 101, 115, 49, 50, 56, 45, 103, 99, 109]⟩ : ByteArray) y_13 y_2 y_7 y_12 3 3), (A4.mk 0 (⟨#[101, 99, 100, 104, 101, 45, 101, 99, 100, 115, 97, 45, 97, 101, 115, 50, 53, 54, 45, 103, 99, 109]⟩ : ByteArray) y_21 y_4 y_8 y_12 3 3), (A4.mk 0 (⟨#[101, 99, 100, 104, 101, 45, 114, 115, 97, 45, 99, 104, 97, 99, 104, 97]⟩ : ByteArray) y_13 y_2 y_9 y_12 3 3), (A4.mk 0 (⟨#[114, 115, 97, 45, 97, 101, 115, 50, 53, 54, 45, 103, 99, 109]⟩ : ByteArray) y y_2 y_8 y_12 3 3), (A4.mk 0 (⟨#[97, 101, 115, 49, 50, 56, 45, 103, 99, 109]⟩ : ByteArray) y_13 (Az.mk 0 0) y_7 y_12 4 4), (A4.mk 0 (⟨#[99, 104, 97, 99, 104, 97]⟩ : ByteArray) y_13 (Az.mk 0 0) y_9 y_12 4 4), (A4.mk 0 (⟨#[109, 108, 107, 101, 109, 45, 97, 101, 115, 50, 53, 54, 45, 103, 99, 109]⟩ : ByteArray) y_22 (Az.mk 0 0) y_8 y_12 4 4)] : List A4))
theorem Rz (fu : Nat) : Bd (Fu fu) (E6) := by
 unfold Fu E6
 repeat' (with_reducible first | assumption | apply Bd.bind_ | apply Bd.cond_ | apply Bd.up_ | apply Uv | apply Fu.l1_le | (refine Bd.lpC _ (fun _ => ?_) _) | exact Bd.refl | intro _)
def Ft.j1 (fu : Nat) (code : Int) (y : (List A4)) (x13_1 : Bool) : Option (A4 × Int) :=
 cond (x13_1)
  (some ((A4.mk 0 (⟨#[]⟩ : ByteArray) (Az.mk 0 0) (Az.mk 0 0) (Az.mk 0 0) (Az.mk 0 0) 0 0), 8))
  ((Cb y (W (code - 1))).bind fun e =>
  some (e, 0))
theorem Ft.j1_le (fu : Nat) {code : Int} {y : (List A4)} {x13_1 : Bool} : Bd (Ft.j1 fu code y x13_1) (Ej.j1 code y x13_1) := by
 unfold Ft.j1 Ej.j1
 repeat' (with_reducible first | assumption | apply Bd.bind_ | apply Bd.cond_ | apply Bd.up_ | exact Bd.refl | intro _)
def Ft (fu : Nat) (code : Int) : Option (A4 × Int) :=
 (Fu fu).bind fun y =>
 cond (decide (code < 1))
  (Ft.j1 fu code y true)
  (Ft.j1 fu code y (decide ((y.length : Int) < code)))
theorem S3 (fu : Nat) {code : Int} : Bd (Ft fu code) (Ej code) := by
 unfold Ft Ej
 repeat' (with_reducible first | assumption | apply Bd.bind_ | apply Bd.cond_ | apply Bd.up_ | apply Rz | apply Ft.j1_le | exact Bd.refl | intro _)
def Eu.l1 (fu : Nat) (s : (List Int)) (v : Int) (x8_1 : Int) : Option (Lp (Int) (Int)) :=
 cond (decide (x8_1 < (s.length : Int)))
  ((Cb s x8_1).bind fun e =>
  cond (decide (v = e))
   (up (some x8_1))
   (some (.next (W (x8_1 + 1)))))
  (up (
   some (-1)))
theorem Eu.l1_le (fu : Nat) {s : (List Int)} {v : Int} {x8_1 : Int} : Bd (Eu.l1 fu s v x8_1) (Cg.l1 s v x8_1) := by
 unfold Eu.l1 Cg.l1
 repeat' (with_reducible first | assumption | apply Bd.bind_ | apply Bd.cond_ | apply Bd.up_ | exact Bd.refl | intro _)
def Eu (fu : Nat) (s : (List Int)) (v : Int) : Option (Int) :=
 Jl fu (fun q' => Eu.l1 fu s v q') 0
theorem Lr (fu : Nat) {s : (List Int)} {v : Int} : Bd (Eu fu s v) (Cg s v) := by
 unfold Eu Cg
 repeat' (with_reducible first | assumption | apply Bd.bind_ | apply Bd.cond_ | apply Bd.up_ | apply Eu.l1_le | (refine Bd.lpC _ (fun _ => ?_) _) | exact Bd.refl | intro _)
def Ho (fu : Nat) (s : (List Int)) (v : Int) : Option (Bool) :=
 (Eu fu s v).bind fun y =>
 some (decide (0 <= y))
theorem Kg (fu : Nat) {s : (List Int)} {v : Int} : Bd (Ho fu s v) (Ea s v) := by
 unfold Ho Ea
 repeat' (with_reducible first | assumption | apply Bd.bind_ | apply Bd.cond_ | apply Bd.up_ | apply Lr | exact Bd.refl | intro _)
def Dx.j2 (fu : Nat) (x9_1 : Int) (x27_2 : Bool) : Option (Lp (Int) (Bool)) :=
 cond (x27_2)
  (up (some false))
  (some (.next (W (x9_1 + 1))))
theorem Dx.j2_le (fu : Nat) {x9_1 : Int} {x27_2 : Bool} : Bd (Dx.j2 fu x9_1 x27_2) (C8.j2 x9_1 x27_2) := by
 unfold Dx.j2 C8.j2
 repeat' (with_reducible first | assumption | apply Bd.bind_ | apply Bd.cond_ | apply Bd.up_ | exact Bd.refl | intro _)
def Dx.l1 (fu : Nat) (l : (List Int)) (x9_1 : Int) : Option (Lp (Int) (Bool)) :=
 cond (decide (x9_1 < (l.length : Int)))
  ((Cb l x9_1).bind fun e =>
  (Ft fu e).bind fun y =>
  cond (!decide (y.2 = 0))
   (Dx.j2 fu x9_1 true)
   ((dF l 0 x9_1).bind fun l_2 =>
   (Ho fu l_2 e).bind fun y_2 =>
   Dx.j2 fu x9_1 y_2))
  (up (
   some true))
theorem Dx.l1_le (fu : Nat) {l : (List Int)} {x9_1 : Int} : Bd (Dx.l1 fu l x9_1) (C8.l1 l x9_1) := by
 unfold Dx.l1 C8.l1
 repeat' (with_reducible first | assumption | apply Bd.bind_ | apply Bd.cond_ | apply Bd.up_ | apply S3 | apply Dx.j2_le | apply Kg | exact Bd.refl | intro _)
def Dx (fu : Nat) (l : (List Int)) : Option (Bool) :=
 Jl fu (fun q' => Dx.l1 fu l q') 0
theorem Qq (fu : Nat) {l : (List Int)} : Bd (Dx fu l) (C8 l) := by
 unfold Dx C8
 repeat' (with_reducible first | assumption | apply Bd.bind_ | apply Bd.cond_ | apply Bd.up_ | apply Dx.l1_le | (refine Bd.lpC _ (fun _ => ?_) _) | exact Bd.refl | intro _)
def Di.j2 (fu : Nat) (x6_1 : Int) (x22_2 : Bool) : Option (Lp (Int) (Bool)) :=
 cond (x22_2)
  (up (some false))
  (some (.next (W (x6_1 + 1))))
theorem Di.j2_le (fu : Nat) {x6_1 : Int} {x22_2 : Bool} : Bd (Di.j2 fu x6_1 x22_2) (Cw.j2 x6_1 x22_2) := by
 unfold Di.j2 Cw.j2
 repeat' (with_reducible first | assumption | apply Bd.bind_ | apply Bd.cond_ | apply Bd.up_ | exact Bd.refl | intro _)
def Di.l1 (fu : Nat) (l : (List Int)) (x6_1 : Int) : Option (Lp (Int) (Bool)) :=
 cond (decide (x6_1 < (l.length : Int)))
  (cond (decide (0 < x6_1))
   ((Cb l (W (x6_1 - 1))).bind fun e =>
   (Cb l x6_1).bind fun e_2 =>
   Di.j2 fu x6_1 (decide (e_2 <= e)))
   (Di.j2 fu x6_1 false))
  (up (
   some true))
theorem Di.l1_le (fu : Nat) {l : (List Int)} {x6_1 : Int} : Bd (Di.l1 fu l x6_1) (Cw.l1 l x6_1) := by
 unfold Di.l1 Cw.l1
 repeat' (with_reducible first | assumption | apply Bd.bind_ | apply Bd.cond_ | apply Bd.up_ | apply Di.j2_le | exact Bd.refl | intro _)
def Di (fu : Nat) (l : (List Int)) : Option (Bool) :=
 Jl fu (fun q' => Di.l1 fu l q') 0
theorem Qo (fu : Nat) {l : (List Int)} : Bd (Di fu l) (Cw l) := by
 unfold Di Cw
 repeat' (with_reducible first | assumption | apply Bd.bind_ | apply Bd.cond_ | apply Bd.up_ | apply Di.l1_le | (refine Bd.lpC _ (fun _ => ?_) _) | exact Bd.refl | intro _)
def Nq (fu : Nat) : Option ((List Bo)) :=
 some ([(Bo.mk (⟨#[]⟩ : ByteArray) 0 0 ([] : (List Int)) ([] : (List Int))), (Bo.mk (⟨#[109, 100, 53]⟩ : ByteArray) 1 0 ([] : (List Int)) ([18] : List Int)), (Bo.mk (⟨#[115, 104, 97, 49]⟩ : ByteArray) 1 0 ([] : (List Int)) ([60] : List Int)), (Bo.mk (⟨#[115, 104, 97, 50, 53, 54]⟩ : ByteArray) 1 0 ([] : (List Int)) ([128] : List Int)), (Bo.mk (⟨#[115, 104, 97, 51, 56, 52]⟩ : ByteArray) 1 0 ([] : (List Int)) ([192] : List Int)), (Bo.mk (⟨#[114, 115, 97]⟩ : ByteArray) 2 1 ([] : (List Int)) ([] : (List Int))), (Bo.mk (⟨#[100, 115, 97]⟩ : ByteArray) 2 1 ([] : (List Int)) ([] : (List Int))), (Bo.mk (⟨#[101, 99, 100, 115, 97]⟩ : ByteArray) 2 2 ([] : (List Int)) ([] : (List Int))), (Bo.mk (⟨#[101, 100, 50, 53, 53, 49, 57]⟩ : ByteArray) 2 0 ([] : (List Int)) ([128] : List Int)), (Bo.mk (⟨#[109, 108, 100, 115, 97]⟩ : ByteArray) 2 3 ([44, 65, 87] : List Int) ([128, 192, 256] : List Int)), (Bo.mk (⟨#[114, 115, 97, 107, 120]⟩ : ByteArray) 3 1 ([] : (List Int)) ([] : (List Int))), (Bo.mk (⟨#[100, 104, 101]⟩ : ByteArray) 3 1 ([] : (List Int)) ([] : (List Int))), (Bo.mk (⟨#[101, 99, 100, 104, 101]⟩ : ByteArray) 3 2 ([] : (List Int)) ([] : (List Int))), (Bo.mk (⟨#[109, 108, 107, 101, 109]⟩ : ByteArray) 3 3 ([512, 768, 1024] : List Int) ([128, 192, 256] : List Int)), (Bo.mk (⟨#[114, 99, 52]⟩ : ByteArray) 4 3 ([40, 128] : List Int) ([40, 60] : List Int)), (Bo.mk (⟨#[100, 101, 115, 51]⟩ : ByteArray) 4 3 ([112, 168] : List Int) ([80, 112] : List Int)), (Bo.mk (⟨#[97, 101, 115, 99, 98, 99]⟩ : ByteArray) 4 3 ([128, 256] : List Int) ([128, 256] : List Int)), (Bo.mk (⟨#[97, 101, 115, 103, 99, 109]⟩ : ByteArray) 4 3 ([128, 256] : List Int) ([128, 256] : List Int)), (Bo.mk (⟨#[99, 104, 97, 99, 104, 97]⟩ : ByteArray) 4 0 ([] : (List Int)) ([256] : List Int)), (Bo.mk (⟨#[104, 109, 97, 99, 109, 100, 53]⟩ : ByteArray) 5 0 ([] : (List Int)) ([64] : List Int)), (Bo.mk (⟨#[104, 109, 97, 99, 115, 104, 97, 49]⟩ : ByteArray) 5 0 ([] : (List Int)) ([80] : List Int)), (Bo.mk (⟨#[104, 109, 97, 99, 115, 104, 97, 50, 53, 54]⟩ : ByteArray) 5 0 ([] : (List Int)) ([128] : List Int)), (Bo.mk (⟨#[97, 101, 97, 100]⟩ : ByteArray) 5 0 ([] : (List Int)) ([256] : List Int))] : List Bo)
theorem Tl (fu : Nat) : Bd (Nq fu) (Jg) := by
 unfold Nq Jg
 repeat' (with_reducible first | assumption | apply Bd.bind_ | apply Bd.cond_ | apply Bd.up_ | exact Bd.refl | intro _)
def Gd.j1 (fu : Nat) (alg : Int) (x9_1 : Bool) : Option (Bo × Bool) :=
 cond (x9_1)
  (some ((Bo.mk (⟨#[]⟩ : ByteArray) 0 0 ([] : (List Int)) ([] : (List Int))), false))
  ((Nq fu).bind fun y =>
  (Cb (tI 23 y) alg).bind fun e =>
  some (e, true))
theorem Gd.j1_le (fu : Nat) {alg : Int} {x9_1 : Bool} : Bd (Gd.j1 fu alg x9_1) (En.j1 alg x9_1) := by
 unfold Gd.j1 En.j1
 repeat' (with_reducible first | assumption | apply Bd.bind_ | apply Bd.cond_ | apply Bd.up_ | apply Tl | exact Bd.refl | intro _)
def Gd (fu : Nat) (alg : Int) : Option (Bo × Bool) :=
 cond (decide (alg < 1))
  (Gd.j1 fu alg true)
  (Gd.j1 fu alg (decide (22 < alg)))
theorem Qd (fu : Nat) {alg : Int} : Bd (Gd fu alg) (En alg) := by
 unfold Gd En
 repeat' (with_reducible first | assumption | apply Bd.bind_ | apply Bd.cond_ | apply Bd.up_ | apply Gd.j1_le | exact Bd.refl | intro _)
def Fm.l1 (fu : Nat) (bits : Int) (x11_1 : Int) : Option (Lp (Int) (Int)) :=
 cond (decide (x11_1 < 5))
  ((Cb ([([1024, 56] : List Int), ([2048, 80] : List Int), ([3072, 112] : List Int), ([7680, 128] : List Int), ([15360, 192] : List Int)] : List (List Int)) x11_1).bind fun e =>
  cond (decide (bits < (e[0]!)))
   (up (some (e[1]!)))
   (some (.next (W (x11_1 + 1)))))
  (up (
   some 256))
theorem Fm.l1_le (fu : Nat) {bits : Int} {x11_1 : Int} : Bd (Fm.l1 fu bits x11_1) (C6.l1 bits x11_1) := by
 unfold Fm.l1 C6.l1
 repeat' (with_reducible first | assumption | apply Bd.bind_ | apply Bd.cond_ | apply Bd.up_ | exact Bd.refl | intro _)
def Fm (fu : Nat) (bits : Int) : Option (Int) :=
 Jl fu (fun q' => Fm.l1 fu bits q') 0
theorem Rg (fu : Nat) {bits : Int} : Bd (Fm fu bits) (C6 bits) := by
 unfold Fm C6
 repeat' (with_reducible first | assumption | apply Bd.bind_ | apply Bd.cond_ | apply Bd.up_ | apply Fm.l1_le | (refine Bd.lpC _ (fun _ => ?_) _) | exact Bd.refl | intro _)
def Ew.j1 (fu : Nat) (u : Az) (x34_1 : Bool) : Option (Int) :=
 cond (x34_1)
  ((Fm fu u.Bits).bind fun y_2 =>
  some y_2)
  (some 0)
theorem Ew.j1_le (fu : Nat) {u : Az} {x34_1 : Bool} : Bd (Ew.j1 fu u x34_1) (Bb.j1 u x34_1) := by
 unfold Ew.j1 Bb.j1
 repeat' (with_reducible first | assumption | apply Bd.bind_ | apply Bd.cond_ | apply Bd.up_ | apply Rg | exact Bd.refl | intro _)
def Ew (fu : Nat) (u : Az) : Option (Int) :=
 (Gd fu u.Alg).bind fun y =>
 cond (!y.2)
  (some 0)
  (cond (decide (y.1.way = 0))
   (cond (decide (u.Bits = 0))
    ((Cb y.1.strengths 0).bind fun e =>
    some e)
    (some 0))
   (cond (decide (y.1.way = 1))
    (cond (decide (512 <= u.Bits))
     (Ew.j1 fu u (decide (u.Bits <= 16384)))
     (Ew.j1 fu u false))
    (cond (decide (y.1.way = 2))
     ((Ho fu ([160, 224, 256, 384, 521] : List Int) u.Bits).bind fun y_3 =>
     cond (y_3)
      ((Mb u.Bits 2).bind fun q =>
      some q)
      (some 0))
     (cond (decide (y.1.way = 3))
      ((Eu fu y.1.sizes u.Bits).bind fun y_4 =>
      cond (decide (0 <= y_4))
       ((Cb y.1.strengths y_4).bind fun e_2 =>
       some e_2)
       (some 0))
      (some 0)))))
theorem Qg (fu : Nat) {u : Az} : Bd (Ew fu u) (Bb u) := by
 unfold Ew Bb
 repeat' (with_reducible first | assumption | apply Bd.bind_ | apply Bd.cond_ | apply Bd.up_ | apply Qd | apply Ew.j1_le | apply Kg | apply Lr | exact Bd.refl | intro _)
def Kh (fu : Nat) (u : Az) : Option (Bool) :=
 (Ew fu u).bind fun y =>
 some (decide (0 < y))
theorem M6 (fu : Nat) {u : Az} : Bd (Kh fu u) (Fr u) := by
 unfold Kh Fr
 repeat' (with_reducible first | assumption | apply Bd.bind_ | apply Bd.cond_ | apply Bd.up_ | apply Qg | exact Bd.refl | intro _)
def Jf (fu : Nat) (alg : Int) : Option (Int) :=
 (Gd fu alg).bind fun y =>
 some y.1.kind
theorem K4 (fu : Nat) {alg : Int} : Bd (Jf fu alg) (Hk alg) := by
 unfold Jf Hk
 repeat' (with_reducible first | assumption | apply Bd.bind_ | apply Bd.cond_ | apply Bd.up_ | apply Qd | exact Bd.refl | intro _)
def G3 (fu : Nat) (n : Int) : Option (Bool) :=
 cond (decide (0 <= n))
  (some (decide (n <= 2147483648)))
  (some false)
theorem Ji (fu : Nat) {n : Int} : Bd (G3 fu n) (Fy n) := by
 unfold G3 Fy
 repeat' (with_reducible first | assumption | apply Bd.bind_ | apply Bd.cond_ | apply Bd.up_ | exact Bd.refl | intro _)
def Dz.j2 (fu : Nat) (x8_1 : Int) (x17_2 : Bool) : Option (Lp (Int) (Bool)) :=
 cond (x17_2)
  (up (some false))
  (some (.next (W (x8_1 + 1))))
theorem Dz.j2_le (fu : Nat) {x8_1 : Int} {x17_2 : Bool} : Bd (Dz.j2 fu x8_1 x17_2) (Ch.j2 x8_1 x17_2) := by
 unfold Dz.j2 Ch.j2
 repeat' (with_reducible first | assumption | apply Bd.bind_ | apply Bd.cond_ | apply Bd.up_ | exact Bd.refl | intro _)
def Dz.l1 (fu : Nat) (s : ByteArray) (x8_1 : Int) : Option (Lp (Int) (Bool)) :=
 cond (decide (x8_1 < ((Ny s).length : Int)))
  ((Cb (Ny s) x8_1).bind fun e =>
  cond (decide ((e.toNat : Int) <= 32))
   (Dz.j2 fu x8_1 true)
   (Dz.j2 fu x8_1 (decide (126 < (e.toNat : Int)))))
  (up (
   cond (decide (1 <= (s.size : Int)))
    (some (decide ((s.size : Int) <= 32)))
    (some false)))
theorem Dz.l1_le (fu : Nat) {s : ByteArray} {x8_1 : Int} : Bd (Dz.l1 fu s x8_1) (Ch.l1 s x8_1) := by
 unfold Dz.l1 Ch.l1
 repeat' (with_reducible first | assumption | apply Bd.bind_ | apply Bd.cond_ | apply Bd.up_ | apply Dz.j2_le | exact Bd.refl | intro _)
def Dz (fu : Nat) (s : ByteArray) : Option (Bool) :=
 Jl fu (fun q' => Dz.l1 fu s q') 0
theorem M3 (fu : Nat) {s : ByteArray} : Bd (Dz fu s) (Ch s) := by
 unfold Dz Ch
 repeat' (with_reducible first | assumption | apply Bd.bind_ | apply Bd.cond_ | apply Bd.up_ | apply Dz.l1_le | (refine Bd.lpC _ (fun _ => ?_) _) | exact Bd.refl | intro _)
def C5.j2 (fu : Nat) (x7_1 : Int) (x27_2 : Bool) : Option (Lp (Int) (Bool)) :=
 cond (x27_2)
  (up (some false))
  (some (.next (W (x7_1 + 1))))
theorem C5.j2_le (fu : Nat) {x7_1 : Int} {x27_2 : Bool} : Bd (C5.j2 fu x7_1 x27_2) (Co.j2 x7_1 x27_2) := by
 unfold C5.j2 Co.j2
 repeat' (with_reducible first | assumption | apply Bd.bind_ | apply Bd.cond_ | apply Bd.up_ | exact Bd.refl | intro _)
def C5.l1 (fu : Nat) (l : (List ByteArray)) (x7_1 : Int) : Option (Lp (Int) (Bool)) :=
 cond (decide (x7_1 < (l.length : Int)))
  ((Cb l x7_1).bind fun e =>
  (Dz fu e).bind fun y =>
  cond (!y)
   (C5.j2 fu x7_1 true)
   (cond (decide (0 < x7_1))
    ((Cb l (W (x7_1 - 1))).bind fun e_2 =>
    C5.j2 fu x7_1 (!gH (Ny e_2) (Ny e)))
    (C5.j2 fu x7_1 false)))
  (up (
   some (decide ((l.length : Int) <= 8))))
theorem C5.l1_le (fu : Nat) {l : (List ByteArray)} {x7_1 : Int} : Bd (C5.l1 fu l x7_1) (Co.l1 l x7_1) := by
 unfold C5.l1 Co.l1
 repeat' (with_reducible first | assumption | apply Bd.bind_ | apply Bd.cond_ | apply Bd.up_ | apply M3 | apply C5.j2_le | exact Bd.refl | intro _)
def C5 (fu : Nat) (l : (List ByteArray)) : Option (Bool) :=
 Jl fu (fun q' => C5.l1 fu l q') 0
theorem Pi (fu : Nat) {l : (List ByteArray)} : Bd (C5 fu l) (Co l) := by
 unfold C5 Co
 repeat' (with_reducible first | assumption | apply Bd.bind_ | apply Bd.cond_ | apply Bd.up_ | apply C5.l1_le | (refine Bd.lpC _ (fun _ => ?_) _) | exact Bd.refl | intro _)
def Jv (fu : Nat) (u : Az) (kind : Int) : Option (Bool) :=
 (Kh fu u).bind fun y =>
 cond (y)
  ((Jf fu u.Alg).bind fun y_2 =>
  some (decide (y_2 = kind)))
  (some false)
theorem R5 (fu : Nat) {u : Az} {kind : Int} : Bd (Jv fu u kind) (Hi u kind) := by
 unfold Jv Hi
 repeat' (with_reducible first | assumption | apply Bd.bind_ | apply Bd.cond_ | apply Bd.up_ | apply M6 | apply K4 | exact Bd.refl | intro _)
def K9 (fu : Nat) (n : Int) : Option (Bool) :=
 cond (decide (0 <= n))
  (some (decide (n < 4294967296)))
  (some false)
theorem Q8 (fu : Nat) {n : Int} : Bd (K9 fu n) (Hy n) := by
 unfold K9 Hy
 repeat' (with_reducible first | assumption | apply Bd.bind_ | apply Bd.cond_ | apply Bd.up_ | exact Bd.refl | intro _)
def Bw.j3 (fu : Nat) (c : Am) (x73_3 : Bool) : Option (Bool) :=
 cond (x73_3)
  (some false)
  (cond (decide (0 <= c.Path))
   (cond (decide (c.Path <= 8))
    (cond (c.Authority)
     (some true)
     (some (decide (c.Path = 0))))
    (some false))
   (some false))
theorem Bw.j3_le (fu : Nat) {c : Am} {x73_3 : Bool} : Bd (Bw.j3 fu c x73_3) (Bp.j3 c x73_3) := by
 unfold Bw.j3 Bp.j3
 repeat' (with_reducible first | assumption | apply Bd.bind_ | apply Bd.cond_ | apply Bd.up_ | exact Bd.refl | intro _)
def Bw.j2 (fu : Nat) (c : Am) (x58_2 : Bool) : Option (Bool) :=
 cond (x58_2)
  (some false)
  (cond (decide (c.From < 0))
   (Bw.j3 fu c true)
   (cond (decide (c.To < c.From))
    (Bw.j3 fu c true)
    (Bw.j3 fu c (decide (40000 < c.To)))))
theorem Bw.j2_le (fu : Nat) {c : Am} {x58_2 : Bool} : Bd (Bw.j2 fu c x58_2) (Bp.j2 c x58_2) := by
 unfold Bw.j2 Bp.j2
 repeat' (with_reducible first | assumption | apply Bd.bind_ | apply Bd.cond_ | apply Bd.up_ | apply Bw.j3_le | exact Bd.refl | intro _)
def Bw.j1 (fu : Nat) (c : Am) (x28_1 : Bool) : Option (Bool) :=
 cond (x28_1)
  (some false)
  ((Jv fu c.Key 2).bind fun y_4 =>
  cond (!y_4)
   (Bw.j2 fu c true)
   ((G3 fu c.KeyId).bind fun y_5 =>
   cond (!y_5)
    (Bw.j2 fu c true)
    ((Jv fu c.Hash 1).bind fun y_6 =>
    cond (!y_6)
     (Bw.j2 fu c true)
     ((G3 fu c.Seal.Key).bind fun y_7 =>
     cond (!y_7)
      (Bw.j2 fu c true)
      ((K9 fu c.Seal.Sum).bind fun y_8 =>
      Bw.j2 fu c (!y_8))))))
theorem Bw.j1_le (fu : Nat) {c : Am} {x28_1 : Bool} : Bd (Bw.j1 fu c x28_1) (Bp.j1 c x28_1) := by
 unfold Bw.j1 Bp.j1
 repeat' (with_reducible first | assumption | apply Bd.bind_ | apply Bd.cond_ | apply Bd.up_ | apply R5 | apply Bw.j2_le | apply Ji | apply Q8 | exact Bd.refl | intro _)
def Bw (fu : Nat) (c : Am) : Option (Bool) :=
 cond (decide (c.Serial < 0))
  (Bw.j1 fu c true)
  (cond (decide (1099511627776 < c.Serial))
   (Bw.j1 fu c true)
   ((Dz fu c.Issuer).bind fun y =>
   cond (!y)
    (Bw.j1 fu c true)
    ((Dz fu c.Subject).bind fun y_2 =>
    cond (!y_2)
     (Bw.j1 fu c true)
     ((C5 fu c.Names).bind fun y_3 =>
     Bw.j1 fu c (!y_3)))))
theorem Px (fu : Nat) {c : Am} : Bd (Bw fu c) (Bp c) := by
 unfold Bw Bp
 repeat' (with_reducible first | assumption | apply Bd.bind_ | apply Bd.cond_ | apply Bd.up_ | apply Bw.j1_le | apply M3 | apply Pi | exact Bd.refl | intro _)
def Jy (fu : Nat) (c : Am) : Option (Int) :=
 (Bw fu c).bind fun y =>
 cond (!y)
  (some 9)
  (some 0)
theorem Ph (fu : Nat) {c : Am} : Bd (Jy fu c) (G7 c) := by
 unfold Jy G7
 repeat' (with_reducible first | assumption | apply Bd.bind_ | apply Bd.cond_ | apply Bd.up_ | apply Px | exact Bd.refl | intro _)
def Dt.l2 (fu : Nat) (key : Az) (id : Int) (l : (List Am)) (x30_2 : Int) : Option (Lp (Int) (Bool)) :=
 cond (decide (x30_2 < (l.length : Int)))
  ((Cb l x30_2).bind fun e =>
  (Jy fu e).bind fun y_4 =>
  cond (!decide (y_4 = 0))
   (up (some false))
   (some (.next (W (x30_2 + 1)))))
  (up (
   cond (decide ((l.length : Int) = 0))
    (some true)
    ((Cb l 0).bind fun e_2 =>
    cond (decide (e_2.Key = key))
     (some (decide (e_2.KeyId = id)))
     (some false))))
theorem Dt.l2_le (fu : Nat) {key : Az} {id : Int} {l : (List Am)} {x30_2 : Int} : Bd (Dt.l2 fu key id l x30_2) (C3.l2 key id l x30_2) := by
 unfold Dt.l2 C3.l2
 repeat' (with_reducible first | assumption | apply Bd.bind_ | apply Bd.cond_ | apply Bd.up_ | apply Ph | exact Bd.refl | intro _)
def Dt.j1 (fu : Nat) (key : Az) (id : Int) (l : (List Am)) (x27_1 : Bool) : Option (Bool) :=
 cond (x27_1)
  (some false)
  (Jl fu (fun q' => Dt.l2 fu key id l q') 0)
theorem Dt.j1_le (fu : Nat) {key : Az} {id : Int} {l : (List Am)} {x27_1 : Bool} : Bd (Dt.j1 fu key id l x27_1) (C3.j1 key id l x27_1) := by
 unfold Dt.j1 C3.j1
 repeat' (with_reducible first | assumption | apply Bd.bind_ | apply Bd.cond_ | apply Bd.up_ | apply Dt.l2_le | (refine Bd.lpC _ (fun _ => ?_) _) | exact Bd.refl | intro _)
def Dt (fu : Nat) (key : Az) (id : Int) (l : (List Am)) : Option (Bool) :=
 (Kh fu key).bind fun y =>
 cond (!y)
  (Dt.j1 fu key id l true)
  ((Jf fu key.Alg).bind fun y_2 =>
  cond (!decide (y_2 = 2))
   (Dt.j1 fu key id l true)
   ((G3 fu id).bind fun y_3 =>
   cond (!y_3)
    (Dt.j1 fu key id l true)
    (Dt.j1 fu key id l (decide (8 < (l.length : Int))))))
theorem R2 (fu : Nat) {key : Az} {id : Int} {l : (List Am)} : Bd (Dt fu key id l) (C3 key id l) := by
 unfold Dt C3
 repeat' (with_reducible first | assumption | apply Bd.bind_ | apply Bd.cond_ | apply Bd.up_ | apply M6 | apply Dt.j1_le | apply K4 | apply Ji | exact Bd.refl | intro _)
def Ii (fu : Nat) : Option (Unit) :=
 some ()
theorem Nb (fu : Nat) : Bd (Ii fu) (F6) := by
 unfold Ii F6
 repeat' (with_reducible first | assumption | apply Bd.bind_ | apply Bd.cond_ | apply Bd.up_ | exact Bd.refl | intro _)
def Hj (fu : Nat) (n : Int) : Option (Bool) :=
 (G3 fu n).bind fun y =>
 some (!y)
theorem L6 (fu : Nat) {n : Int} : Bd (Hj fu n) (E0 n) := by
 unfold Hj E0
 repeat' (with_reducible first | assumption | apply Bd.bind_ | apply Bd.cond_ | apply Bd.up_ | apply Ji | exact Bd.refl | intro _)
def Ee.l1 (fu : Nat) (s : (List Int)) (f : Int -> Option (Bool)) (x8_1 : Int) : Option (Lp (Int) (Int)) :=
 cond (decide (x8_1 < (s.length : Int)))
  ((Cb s x8_1).bind fun e =>
  (f e).bind fun y =>
  cond (y)
   (up (some x8_1))
   (some (.next (W (x8_1 + 1)))))
  (up (
   some (-1)))
theorem K1.l1 {s : (List Int)} {f : Int -> Option (Bool)} {x8_1 : Int} {f_p : Int -> Option (Bool)} (h_f : ∀ (x0 : Int), Bd (f x0) (f_p x0)) : Bd (Cf.l1 s f x8_1) (Cf.l1 s f_p x8_1) := by
 unfold Cf.l1
 repeat' (with_reducible first | assumption | apply Bd.bind_ | apply Bd.cond_ | apply Bd.up_ | apply h_f | exact Bd.refl | intro _)
theorem Ee.l1_le (fu : Nat) {s : (List Int)} {f : Int -> Option (Bool)} {x8_1 : Int} {f_p : Int -> Option (Bool)} (h_f : ∀ (x0 : Int), Bd (f x0) (f_p x0)) : Bd (Ee.l1 fu s f x8_1) (Cf.l1 s f_p x8_1) := by
 unfold Ee.l1 Cf.l1
 repeat' (with_reducible first | assumption | apply Bd.bind_ | apply Bd.cond_ | apply Bd.up_ | apply h_f | exact Bd.refl | intro _)
def Ee (fu : Nat) (s : (List Int)) (f : Int -> Option (Bool)) : Option (Int) :=
 Jl fu (fun q' => Ee.l1 fu s f q') 0
theorem K1 {s : (List Int)} {f : Int -> Option (Bool)} {f_p : Int -> Option (Bool)} (h_f : ∀ (x0 : Int), Bd (f x0) (f_p x0)) : Bd (Cf s f) (Cf s f_p) := by
 unfold Cf
 repeat' (with_reducible first | assumption | apply Bd.bind_ | apply Bd.cond_ | apply Bd.up_ | apply h_f | apply K1.l1 | (refine Bd.lp (fun _ => ?_) _) | exact Bd.refl | intro _)
theorem Nz (fu : Nat) {s : (List Int)} {f : Int -> Option (Bool)} {f_p : Int -> Option (Bool)} (h_f : ∀ (x0 : Int), Bd (f x0) (f_p x0)) : Bd (Ee fu s f) (Cf s f_p) := by
 unfold Ee Cf
 repeat' (with_reducible first | assumption | apply Bd.bind_ | apply Bd.cond_ | apply Bd.up_ | apply h_f | apply Ee.l1_le | (refine Bd.lpC _ (fun _ => ?_) _) | exact Bd.refl | intro _)
def Gq (fu : Nat) (s : (List Int)) (f : Int -> Option (Bool)) : Option (Bool) :=
 (Ee fu s f).bind fun y =>
 some (decide (0 <= y))
theorem Mg (fu : Nat) {s : (List Int)} {f : Int -> Option (Bool)} {f_p : Int -> Option (Bool)} (h_f : ∀ (x0 : Int), Bd (f x0) (f_p x0)) : Bd (Gq fu s f) (Ec s f_p) := by
 unfold Gq Ec
 repeat' (with_reducible first | assumption | apply Bd.bind_ | apply Bd.cond_ | apply Bd.up_ | apply h_f | apply Nz | exact Bd.refl | intro _)
def Ih (fu : Nat) : Option (Unit) :=
 some ()
theorem Ni (fu : Nat) : Bd (Ih fu) (F9) := by
 unfold Ih F9
 repeat' (with_reducible first | assumption | apply Bd.bind_ | apply Bd.cond_ | apply Bd.up_ | exact Bd.refl | intro _)
def Mh (fu : Nat) (alg : Int) : Option (Bool) :=
 (Jf fu alg).bind fun y =>
 some (decide (y = 1))
theorem Ss (fu : Nat) {alg : Int} : Bd (Mh fu alg) (Iv alg) := by
 unfold Mh Iv
 repeat' (with_reducible first | assumption | apply Bd.bind_ | apply Bd.cond_ | apply Bd.up_ | apply K4 | exact Bd.refl | intro _)
def Hn (fu : Nat) (n : Int) : Option (Bool) :=
 (Mh fu n).bind fun y =>
 some (!y)
theorem L9 (fu : Nat) {n : Int} : Bd (Hn fu n) (E7 n) := by
 unfold Hn E7
 repeat' (with_reducible first | assumption | apply Bd.bind_ | apply Bd.cond_ | apply Bd.up_ | apply Ss | exact Bd.refl | intro _)
def B5.j4 (fu : Nat) (x82_4 : Bool) : Option (Int) :=
 cond (x82_4)
  (some 19)
  (some 0)
theorem B5.j4_le (fu : Nat) {x82_4 : Bool} : Bd (B5.j4 fu x82_4) (Bs.j4 x82_4) := by
 unfold B5.j4 Bs.j4
 repeat' (with_reducible first | assumption | apply Bd.bind_ | apply Bd.cond_ | apply Bd.up_ | exact Bd.refl | intro _)
def B5.l3 (fu : Nat) (e : Aw) (x58_3 : Int) : Option (Lp (Int) (Int)) :=
 cond (decide (x58_3 < (e.Identities.length : Int)))
  ((Cb e.Identities x58_3).bind fun e_2 =>
  (Dt fu e_2.Key e_2.KeyId e_2.Chain).bind fun y_5 =>
  cond (!y_5)
   (up (some 19))
   (some (.next (W (x58_3 + 1)))))
  (up (
   (Ii fu).bind fun y_6 =>
   (Gq fu e.Anchors (fun x0 => Hj fu x0)).bind fun y_7 =>
   cond (y_7)
    (B5.j4 fu true)
    ((Ih fu).bind fun y_8 =>
    (Gq fu e.Hashes (fun x0 => Hn fu x0)).bind fun y_9 =>
    B5.j4 fu y_9)))
theorem B5.l3_le (fu : Nat) {e : Aw} {x58_3 : Int} : Bd (B5.l3 fu e x58_3) (Bs.l3 e x58_3) := by
 unfold B5.l3 Bs.l3
 repeat' (with_reducible first | assumption | apply Bd.bind_ | apply Bd.cond_ | apply Bd.up_ | apply R2 | apply Nb | apply Mg | apply L6 | apply B5.j4_le | apply Ni | apply L9 | exact Bd.refl | intro _)
def B5.j2 (fu : Nat) (e : Aw) (x54_2 : Bool) : Option (Int) :=
 cond (x54_2)
  (some 19)
  (Jl fu (fun q' => B5.l3 fu e q') 0)
theorem B5.j2_le (fu : Nat) {e : Aw} {x54_2 : Bool} : Bd (B5.j2 fu e x54_2) (Bs.j2 e x54_2) := by
 unfold B5.j2 Bs.j2
 repeat' (with_reducible first | assumption | apply Bd.bind_ | apply Bd.cond_ | apply Bd.up_ | apply B5.l3_le | (refine Bd.lpC _ (fun _ => ?_) _) | exact Bd.refl | intro _)
def B5.j1 (fu : Nat) (e : Aw) (x32_1 : Bool) : Option (Int) :=
 cond (x32_1)
  (some 19)
  (cond (decide (4 < (e.Identities.length : Int)))
   (B5.j2 fu e true)
   (cond (decide (16 < (e.Anchors.length : Int)))
    (B5.j2 fu e true)
    ((Di fu e.Anchors).bind fun y_3 =>
    cond (!y_3)
     (B5.j2 fu e true)
     ((Di fu e.Hashes).bind fun y_4 =>
     B5.j2 fu e (!y_4)))))
theorem B5.j1_le (fu : Nat) {e : Aw} {x32_1 : Bool} : Bd (B5.j1 fu e x32_1) (Bs.j1 e x32_1) := by
 unfold B5.j1 Bs.j1
 repeat' (with_reducible first | assumption | apply Bd.bind_ | apply Bd.cond_ | apply Bd.up_ | apply B5.j2_le | apply Qo | exact Bd.refl | intro _)
def B5 (fu : Nat) (e : Aw) : Option (Int) :=
 (F2 fu e.Name).bind fun y =>
 cond (!y)
  (B5.j1 fu e true)
  (cond (decide (e.Least < 1))
   (B5.j1 fu e true)
   (cond (decide (e.Most < e.Least))
    (B5.j1 fu e true)
    (cond (decide (4 < e.Most))
     (B5.j1 fu e true)
     ((Dx fu e.Suites).bind fun y_2 =>
     B5.j1 fu e (!y_2)))))
theorem J0 (fu : Nat) {e : Aw} : Bd (B5 fu e) (Bs e) := by
 unfold B5 Bs
 repeat' (with_reducible first | assumption | apply Bd.bind_ | apply Bd.cond_ | apply Bd.up_ | apply Sj | apply B5.j1_le | apply Qq | exact Bd.refl | intro _)
theorem Jb.l1 {s : (List By)} {f : By -> Option (Bool)} {x8_1 : Int} {f_p : By -> Option (Bool)} (h_f : ∀ (x0 : By), Bd (f x0) (f_p x0)) : Bd (B4.l1 s f x8_1) (B4.l1 s f_p x8_1) := by
 unfold B4.l1
 repeat' (with_reducible first | assumption | apply Bd.bind_ | apply Bd.cond_ | apply Bd.up_ | apply h_f | exact Bd.refl | intro _)
theorem Jb {s : (List By)} {f : By -> Option (Bool)} {f_p : By -> Option (Bool)} (h_f : ∀ (x0 : By), Bd (f x0) (f_p x0)) : Bd (B4 s f) (B4 s f_p) := by
 unfold B4
 repeat' (with_reducible first | assumption | apply Bd.bind_ | apply Bd.cond_ | apply Bd.up_ | apply h_f | apply Jb.l1 | (refine Bd.lp (fun _ => ?_) _) | exact Bd.refl | intro _)
theorem Ij.l1 {s : (List An)} {f : An -> Option (Bool)} {x8_1 : Int} {f_p : An -> Option (Bool)} (h_f : ∀ (x0 : An), Bd (f x0) (f_p x0)) : Bd (Bz.l1 s f x8_1) (Bz.l1 s f_p x8_1) := by
 unfold Bz.l1
 repeat' (with_reducible first | assumption | apply Bd.bind_ | apply Bd.cond_ | apply Bd.up_ | apply h_f | exact Bd.refl | intro _)
theorem Ij {s : (List An)} {f : An -> Option (Bool)} {f_p : An -> Option (Bool)} (h_f : ∀ (x0 : An), Bd (f x0) (f_p x0)) : Bd (Bz s f) (Bz s f_p) := by
 unfold Bz
 repeat' (with_reducible first | assumption | apply Bd.bind_ | apply Bd.cond_ | apply Bd.up_ | apply h_f | apply Ij.l1 | (refine Bd.lp (fun _ => ?_) _) | exact Bd.refl | intro _)
theorem H8.l1 {s : (List Ae)} {f : Ae -> Option (Bool)} {x8_1 : Int} {f_p : Ae -> Option (Bool)} (h_f : ∀ (x0 : Ae), Bd (f x0) (f_p x0)) : Bd (B2.l1 s f x8_1) (B2.l1 s f_p x8_1) := by
 unfold B2.l1
 repeat' (with_reducible first | assumption | apply Bd.bind_ | apply Bd.cond_ | apply Bd.up_ | apply h_f | exact Bd.refl | intro _)
theorem H8 {s : (List Ae)} {f : Ae -> Option (Bool)} {f_p : Ae -> Option (Bool)} (h_f : ∀ (x0 : Ae), Bd (f x0) (f_p x0)) : Bd (B2 s f) (B2 s f_p) := by
 unfold B2
 repeat' (with_reducible first | assumption | apply Bd.bind_ | apply Bd.cond_ | apply Bd.up_ | apply h_f | apply H8.l1 | (refine Bd.lp (fun _ => ?_) _) | exact Bd.refl | intro _)
end Go.Proofs.YtkpcbnnlefcebaaGreat
