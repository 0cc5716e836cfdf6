import Derived.Test.YtfkgbfhpibiheaaPU
set_option linter.unusedVariables false
set_option linter.unusedSimpArgs false
namespace Go.Proofs.Ytfkgbfhpibiheaa
noncomputable section
structure Am where
 L : (List Int)
 At : Int
 deriving DecidableEq, Inhabited
structure Aa where
 Alg : Int
 Bits : Int
 deriving DecidableEq, Inhabited
structure Ai where
 Use : Aa
 Bytes : (List UInt8)
 deriving DecidableEq, Inhabited
structure A5 where
 Name : ByteArray
 Bytes : (List UInt8)
 deriving DecidableEq, Inhabited
structure Bc where
 Name : ByteArray
 Value : Int
 deriving DecidableEq, Inhabited
structure Bv where
 Sections : (List A5)
 Symbols : (List Bc)
 deriving DecidableEq, Inhabited
structure Ab where
 Pattern : Int
 At : Int
 deriving DecidableEq, Inhabited
structure B8 where
 name : ByteArray
 kind : Int
 way : Int
 sizes : (List Int)
 strengths : (List Int)
 deriving DecidableEq, Inhabited
structure Al where
 next : (List Int)
 back : Int
 ends : (List Int)
 deriving DecidableEq, Inhabited
def Mo (l : (List Int)) : Option (Bool) :=
 some (decide ((l.length : Int) <= 400))
def Kt : Option ((List B8)) :=
 some ([(B8.mk (⟨#[]⟩ : ByteArray) 0 0 ([] : (List Int)) ([] : (List Int))), (B8.mk (⟨#[109, 100, 53]⟩ : ByteArray) 1 0 ([] : (List Int)) ([18] : List Int)), (B8.mk (⟨#[115, 104, 97, 49]⟩ : ByteArray) 1 0 ([] : (List Int)) ([60] : List Int)), (B8.mk (⟨#[115, 104, 97, 50, 53, 54]⟩ : ByteArray) 1 0 ([] : (List Int)) ([128] : List Int)), (B8.mk (⟨#[115, 104, 97, 51, 56, 52]⟩ : ByteArray) 1 0 ([] : (List Int)) ([192] : List Int)), (B8.mk (⟨#[114, 115, 97]⟩ : ByteArray) 2 1 ([] : (List Int)) ([] : (List Int))), (B8.mk (⟨#[100, 115, 97]⟩ : ByteArray) 2 1 ([] : (List Int)) ([] : (List Int))), (B8.mk (⟨#[101, 99, 100, 115, 97]⟩ : ByteArray) 2 2 ([] : (List Int)) ([] : (List Int))), (B8.mk (⟨#[101, 100, 50, 53, 53, 49, 57]⟩ : ByteArray) 2 0 ([] : (List Int)) ([128] : List Int)), (B8.mk (⟨#[109, 108, 100, 115, 97]⟩ : ByteArray) 2 3 ([44, 65, 87] : List Int) ([128, 192, 256] : List Int)), (B8.mk (⟨#[114, 115, 97, 107, 120]⟩ : ByteArray) 3 1 ([] : (List Int)) ([] : (List Int))), (B8.mk (⟨#[100, 104, 101]⟩ : ByteArray) 3 1 ([] : (List Int)) ([] : (List Int))), (B8.mk (⟨#[101, 99, 100, 104, 101]⟩ : ByteArray) 3 2 ([] : (List Int)) ([] : (List Int))), (B8.mk (⟨#[109, 108, 107, 101, 109]⟩ : ByteArray) 3 3 ([512, 768, 1024] : List Int) ([128, 192, 256] : List Int)), (B8.mk (⟨#[114, 99, 52]⟩ : ByteArray) 4 3 ([40, 128] : List Int) ([40, 60] : List Int)), (B8.mk (⟨#[100, 101, 115, 51]⟩ : ByteArray) 4 3 ([112, 168] : List Int) ([80, 112] : List Int)), (B8.mk (⟨#[97, 101, 115, 99, 98, 99]⟩ : ByteArray) 4 3 ([128, 256] : List Int) ([128, 256] : List Int)), (B8.mk (⟨#[97, 101, 115, 103, 99, 109]⟩ : ByteArray) 4 3 ([128, 256] : List Int) ([128, 256] : List Int)), (B8.mk (⟨#[99, 104, 97, 99, 104, 97]⟩ : ByteArray) 4 0 ([] : (List Int)) ([256] : List Int)), (B8.mk (⟨#[104, 109, 97, 99, 109, 100, 53]⟩ : ByteArray) 5 0 ([] : (List Int)) ([64] : List Int)), (B8.mk (⟨#[104, 109, 97, 99, 115, 104, 97, 49]⟩ : ByteArray) 5 0 ([] : (List Int)) ([80] : List Int)), (B8.mk (⟨#[104, 109, 97, 99, 115, 104, 97, 50, 53, 54]⟩ : ByteArray) 5 0 ([] : (List Int)) ([128] : List Int)), (B8.mk (⟨#[97, 101, 97, 100]⟩ : ByteArray) 5 0 ([] : (List Int)) ([256] : List Int))] : List B8)
def E5.j1 (alg : Int) (x9_1 : Bool) : Option (B8 × Bool) :=
 cond (x9_1)
  (some ((B8.mk (⟨#[]⟩ : ByteArray) 0 0 ([] : (List Int)) ([] : (List Int))), false))
  ((Kt).bind fun y =>
  (Bo (G0 23 y) alg).bind fun e =>
  some (e, true))
def E5 (alg : Int) : Option (B8 × Bool) :=
 cond (decide (alg < 1))
  (E5.j1 alg true)
  (E5.j1 alg (decide (22 < alg)))
def C6.l1 (bits : Int) (x11_1 : Int) : Option (Lp (Int) (Int)) :=
 cond (decide (x11_1 < 5))
  ((Bo ([([1024, 56] : List Int), ([2048, 80] : List Int), ([3072, 112] : List Int), ([7680, 128] : List Int), ([15360, 192] : List Int)] : List (List Int)) x11_1).bind fun e =>
  cond (decide (bits < (e[0]!)))
   (up (some (e[1]!)))
   (some (.next (W (x11_1 + 1)))))
  (up (
   some 256))
def C6 (bits : Int) : Option (Int) :=
 B6 (fun q' => C6.l1 bits q') 0
def Cb.l1 (s : (List Int)) (v : Int) (x8_1 : Int) : Option (Lp (Int) (Int)) :=
 cond (decide (x8_1 < (s.length : Int)))
  ((Bo s x8_1).bind fun e =>
  cond (decide (v = e))
   (up (some x8_1))
   (some (.next (W (x8_1 + 1)))))
  (up (
   some (-1)))
def Cb (s : (List Int)) (v : Int) : Option (Int) :=
 B6 (fun q' => Cb.l1 s v q') 0
def Ek (s : (List Int)) (v : Int) : Option (Bool) :=
 (Cb s v).bind fun y =>
 some (decide (0 <= y))
def A9.j1 (u : Aa) (x34_1 : Bool) : Option (Int) :=
 cond (x34_1)
  ((C6 u.Bits).bind fun y_2 =>
  some y_2)
  (some 0)
def A9 (u : Aa) : Option (Int) :=
 (E5 u.Alg).bind fun y =>
 cond (!y.2)
  (some 0)
  (cond (decide (y.1.way = 0))
   (cond (decide (u.Bits = 0))
    ((Bo y.1.strengths 0).bind fun e =>
    some e)
    (some 0))
   (cond (decide (y.1.way = 1))
    (cond (decide (512 <= u.Bits))
     (A9.j1 u (decide (u.Bits <= 16384)))
     (A9.j1 u false))
    (cond (decide (y.1.way = 2))
     ((Ek ([160, 224, 256, 384, 521] : List Int) u.Bits).bind fun y_3 =>
     cond (y_3)
      ((Ia u.Bits 2).bind fun q =>
      some q)
      (some 0))
     (cond (decide (y.1.way = 3))
      ((Cb y.1.sizes u.Bits).bind fun y_4 =>
      cond (decide (0 <= y_4))
       ((Bo y.1.strengths y_4).bind fun e_2 =>
       some e_2)
       (some 0))
      (some 0)))))
def Hc (u : Aa) : Option (Bool) :=
 (A9 u).bind fun y =>
 some (decide (0 < y))
def Cy.j2 (x7_1 : Int) (x26_2 : Bool) : Option (Lp (Int) (Int)) :=
 cond (x26_2)
  (up (some 21))
  (some (.next (W (x7_1 + 1))))
def Cy.l1 (p : (List Ai)) (x7_1 : Int) : Option (Lp (Int) (Int)) :=
 cond (decide (x7_1 < (p.length : Int)))
  ((Bo p x7_1).bind fun e =>
  cond (decide ((e.Bytes.length : Int) < 1))
   (Cy.j2 x7_1 true)
   (cond (decide (64 < (e.Bytes.length : Int)))
    (Cy.j2 x7_1 true)
    ((Hc e.Use).bind fun y =>
    Cy.j2 x7_1 (!y))))
  (up (
   cond (decide (32 < (p.length : Int)))
    (some 21)
    (some 0)))
def Cy (p : (List Ai)) : Option (Int) :=
 B6 (fun q' => Cy.l1 p q') 0
def Gl (p : (List Ai)) (b : (List UInt8)) : Option (Int) :=
 (Cy p).bind fun y =>
 cond (!decide (y = 0))
  (some y)
  (cond (decide (4096 < (b.length : Int)))
   (some 3)
   (some 0))
def C5.l1 (x3_1 : Int) (s_1 : List Int) : Option (Lp (Int × List Int) (Al)) :=
 cond (decide (x3_1 < 256))
  ((Bo (G0 256 s_1) x3_1).bind fun e =>
  some (.next (W (x3_1 + 1), Bi (G0 256 s_1) ((x3_1).toNat) (-1))))
  (up (
   some (Al.mk s_1 0 ([] : (List Int)))))
def C5 : Option (Al) :=
 B6 (fun q' => C5.l1 q'.1 q'.2) (0, (List.replicate 256 (0 : Int)))
def Cw.j3 (at_2 : Int) (x23_2 : Int) (e_2 : UInt8) (states_3 : List Al) : Option (Lp (Int × Int × List Al) (Lp (Int × List Al) ((List Al)))) :=
 (Bo states_3 at_2).bind fun e_5 =>
 (Bo (G0 256 e_5.next) (e_2.toNat : Int)).bind fun e_6 =>
 some (.next (e_6, W (x23_2 + 1), states_3))
def Cw.l2 (x15_1 : Int) (e : Ai) (at_2 : Int) (x23_2 : Int) (states_2 : List Al) : Option (Lp (Int × Int × List Al) (Lp (Int × List Al) ((List Al)))) :=
 cond (decide (x23_2 < (e.Bytes.length : Int)))
  ((Bo e.Bytes x23_2).bind fun e_2 =>
  (Bo states_2 at_2).bind fun e_3 =>
  (Bo (G0 256 e_3.next) (e_2.toNat : Int)).bind fun e_4 =>
  cond (decide (e_4 < 0))
   ((C5).bind fun y_2 =>
   (H7 140352 (Bi states_2 ((at_2).toNat) (Al.mk (Bi (G0 256 e_3.next) (((e_2.toNat : Int)).toNat) (IntKind.wrap .i16 (states_2.length : Int))) e_3.back e_3.ends)) ([y_2] : List Al)).bind fun l =>
   Cw.j3 at_2 x23_2 e_2 l)
   (Cw.j3 at_2 x23_2 e_2 states_2))
  (up (
   (Bo states_2 at_2).bind fun e_7 =>
   (H7 8 e_7.ends ([x15_1] : List Int)).bind fun l_2 =>
   some (.next (W (x15_1 + 1), Bi states_2 ((at_2).toNat) (Al.mk e_7.next e_7.back l_2)))))
def Cw.l1 (p : (List Ai)) (x15_1 : Int) (states_1 : List Al) : Option (Lp (Int × List Al) ((List Al))) :=
 cond (decide (x15_1 < (p.length : Int)))
  ((Bo p x15_1).bind fun e =>
  B6 (fun q' => Cw.l2 x15_1 e q'.1 q'.2.1 q'.2.2) (0, 0, states_1))
  (up (
   some states_1))
def Cw (p : (List Ai)) : Option ((List Al)) :=
 (C5).bind fun y =>
 B6 (fun q' => Cw.l1 p q'.1 q'.2) (0, ([y] : List Al))
def Bf.j5 (x43_3 : Int) (states_5 : List Al) (queue_5 : List Int) : Option (Lp (Int × List Al × List Int) (Lp (List Al × List Int) ((List Al)))) :=
 some (.next (W (x43_3 + 1), states_5, queue_5))
def Bf.j4 (e : Int) (x43_3 : Int) (states_3 : List Al) (queue_3 : List Int) (e_4 : Al) (e_5 : Int) (other_4 : Int) : Option (Lp (Int × List Al × List Int) (Lp (List Al × List Int) ((List Al)))) :=
 cond (decide (e_5 < 0))
  (Bf.j5 x43_3 (Bi states_3 ((e).toNat) (Al.mk (Bi (G0 256 e_4.next) ((x43_3).toNat) other_4) e_4.back e_4.ends)) queue_3)
  ((Bo states_3 e_5).bind fun e_8 =>
  (H7 2 queue_3 ([e_5] : List Int)).bind fun l_3 =>
  Bf.j5 x43_3 (Bi states_3 ((e_5).toNat) (Al.mk e_8.next other_4 e_8.ends)) l_3)
def Bf.l3 (e : Int) (e_2 : Al) (x43_3 : Int) (states_3 : List Al) (queue_3 : List Int) : Option (Lp (Int × List Al × List Int) (Lp (List Al × List Int) ((List Al)))) :=
 cond (decide (x43_3 < 256))
  ((Bo states_3 e).bind fun e_4 =>
  (Bo (G0 256 e_4.next) x43_3).bind fun e_5 =>
  cond (!decide (e = 0))
   ((Bo states_3 e_2.back).bind fun e_6 =>
   (Bo (G0 256 e_6.next) x43_3).bind fun e_7 =>
   Bf.j4 e x43_3 states_3 queue_3 e_4 e_5 e_7)
   (Bf.j4 e x43_3 states_3 queue_3 e_4 e_5 0))
  (up (
   some (.next (states_3, queue_3))))
def Bf.j2 (e : Int) (l : List Int) (e_2 : Al) (states_2 : List Al) : Option (Lp (List Al × List Int) ((List Al))) :=
 B6 (fun q' => Bf.l3 e e_2 q'.1 q'.2.1 q'.2.2) (0, states_2, l)
def Bf.l1 (states_1 : List Al) (queue_1 : List Int) : Option (Lp (List Al × List Int) ((List Al))) :=
 cond (decide (0 < (queue_1.length : Int)))
  ((Bo queue_1 0).bind fun e =>
  (Si queue_1 1 (queue_1.length : Int)).bind fun l =>
  (Bo states_1 e).bind fun e_2 =>
  cond (!decide (e = 0))
   ((Bo states_1 e_2.back).bind fun e_3 =>
   (H7 8 e_2.ends e_3.ends).bind fun l_2 =>
   Bf.j2 e l e_2 (Bi states_1 ((e).toNat) (Al.mk e_2.next e_2.back l_2)))
   (Bf.j2 e l e_2 states_1))
  (up (
   some states_1))
def Bf (p : (List Ai)) : Option ((List Al)) :=
 (Cw p).bind fun y =>
 B6 (fun q' => Bf.l1 q'.1 q'.2) (y, ([0] : List Int))
def Ff (h' : Ab) (c0 : (List Ab)) : Option (Bool × (List Ab)) :=
 (H7 32 c0 ([h'] : List Ab)).bind fun l =>
 some (decide ((l.length : Int) <= 1000), l)
def Be.l2 (p : (List Ai)) (yield : Ab -> (List Ab) -> Option (Bool × (List Ab))) (x16_1 : Int) (e_3 : Int) (e_4 : Al) (x34_2 : Int) (l_2 : List Ab) : Option (Lp (Int × List Ab) (Lp (Int × Int × List Ab) ((List Ab)))) :=
 cond (decide (x34_2 < (e_4.ends.length : Int)))
  ((Bo e_4.ends x34_2).bind fun e_5 =>
  (Bo p e_5).bind fun e_6 =>
  (yield (Ab.mk e_5 (W ((W (x16_1 + 1)) - (e_6.Bytes.length : Int)))) l_2).bind fun y_2 =>
  cond (!y_2.1)
   (up (up (some y_2.2)))
   (some (.next (W (x34_2 + 1), y_2.2))))
  (up (
   some (.next (e_3, W (x16_1 + 1), l_2))))
def Be.l1 (p : (List Ai)) (b : (List UInt8)) (yield : Ab -> (List Ab) -> Option (Bool × (List Ab))) (y : (List Al)) (at_1 : Int) (x16_1 : Int) (l_1 : List Ab) : Option (Lp (Int × Int × List Ab) ((List Ab))) :=
 cond (decide (x16_1 < (b.length : Int)))
  ((Bo b x16_1).bind fun e =>
  (Bo y at_1).bind fun e_2 =>
  (Bo (G0 256 e_2.next) (e.toNat : Int)).bind fun e_3 =>
  (Bo y e_3).bind fun e_4 =>
  B6 (fun q' => Be.l2 p yield x16_1 e_3 e_4 q'.1 q'.2) (0, l_1))
  (up (some l_1))
def Be (p : (List Ai)) (b : (List UInt8)) (yield : Ab -> (List Ab) -> Option (Bool × (List Ab))) (yield_b0 : (List Ab)) : Option ((List Ab)) :=
 (Bf p).bind fun y =>
 B6 (fun q' => Be.l1 p b yield y q'.1 q'.2.1 q'.2.2) (0, 0, yield_b0)
def Bq.j3 (x_3 : Int) (n_3 : Int) : Option (Int) :=
 (idxT (⟨#[0, 1, 2, 2, 3, 3, 3, 3, 4, 4, 4, 4, 4, 4, 4, 4, 5, 5, 5, 5, 5, 5, 5, 5, 5, 5, 5, 5, 5, 5, 5, 5, 6, 6, 6, 6, 6, 6, 6, 6, 6, 6, 6, 6, 6, 6, 6, 6, 6, 6, 6, 6, 6, 6, 6, 6, 6, 6, 6, 6, 6, 6, 6, 6, 7, 7, 7, 7, 7, 7, 7, 7, 7, 7, 7, 7, 7, 7, 7, 7, 7, 7, 7, 7, 7, 7, 7, 7, 7, 7, 7, 7, 7, 7, 7, 7, 7, 7, 7, 7, 7, 7, 7, 7, 7, 7, 7, 7, 7, 7, 7, 7, 7, 7, 7, 7, 7, 7, 7, 7, 7, 7, 7, 7, 7, 7, 7, 7, 8, 8, 8, 8, 8, 8, 8, 8, 8, 8, 8, 8, 8, 8, 8, 8, 8, 8, 8, 8, 8, 8, 8, 8, 8, 8, 8, 8, 8, 8, 8, 8, 8, 8, 8, 8, 8, 8, 8, 8, 8, 8, 8, 8, 8, 8, 8, 8, 8, 8, 8, 8, 8, 8, 8, 8, 8, 8, 8, 8, 8, 8, 8, 8, 8, 8, 8, 8, 8, 8, 8, 8, 8, 8, 8, 8, 8, 8, 8, 8, 8, 8, 8, 8, 8, 8, 8, 8, 8, 8, 8, 8, 8, 8, 8, 8, 8, 8, 8, 8, 8, 8, 8, 8, 8, 8, 8, 8, 8, 8, 8, 8, 8, 8, 8, 8, 8, 8, 8, 8, 8, 8, 8, 8, 8, 8, 8, 8]⟩ : ByteArray) ((u8 x_3).toNat : Int)).bind fun c =>
 some (W (n_3 + (c.toNat : Int)))
def Bq.j2 (x_2 : Int) (n_2 : Int) : Option (Int) :=
 cond (decide (256 <= x_2))
  ((Rs .u64 x_2 8).bind fun q_3 =>
  Bq.j3 q_3 (W (n_2 + 8)))
  (Bq.j3 x_2 n_2)
def Bq.j1 (x_1 : Int) (n_1 : Int) : Option (Int) :=
 cond (decide (65536 <= x_1))
  ((Rs .u64 x_1 16).bind fun q_2 =>
  Bq.j2 q_2 (W (n_1 + 16)))
  (Bq.j2 x_1 n_1)
def Bq (x' : Int) : Option (Int) :=
 cond (decide (4294967296 <= x'))
  ((Rs .u64 x' 32).bind fun q =>
  Bq.j1 q 32)
  (Bq.j1 x' 0)
def Fi (x' : Int) : Option (Int) :=
 (Bq x').bind fun y =>
 some y
def Hb (x' : Int) : Option (Bool) :=
 some (!decide (x' = x'))
def Fz (x' : Int) (y : Int) : Option (Int) :=
 (Hb x').bind fun y_2 =>
 (Hb y).bind fun y_3 =>
 cond (y_2)
  (cond (y_3)
   (some 0)
   (some (-1)))
  (cond (y_3)
   (some 1)
   (cond (decide (x' < y))
    (some (-1))
    (cond (decide (y < x'))
     (some 1)
     (some 0))))
def Dk.l1 (vals : (List Int)) (x8_1 : Int) : Option (Lp (Int) (Int)) :=
 cond (decide (x8_1 < (vals.length : Int)))
  ((Bo vals x8_1).bind fun e =>
  cond (!decide (e = 0))
   (up (some e))
   (some (.next (W (x8_1 + 1)))))
  (up (
   some 0))
def Dk (vals : (List Int)) : Option (Int) :=
 B6 (fun q' => Dk.l1 vals q') 0
def Fc (a : Ab) (b : Ab) : Option (Int) :=
 (Fz a.At b.At).bind fun y =>
 (Fz a.Pattern b.Pattern).bind fun y_2 =>
 (Dk ([y, y_2] : List Int)).bind fun y_3 =>
 some y_3
def Au.j3 (i_1 : Int) (j_2 : Int) (data_2 : List Ab) (x34_3 : Bool) : Option (Lp (Int × List Ab) (Lp (Int × List Ab) ((List Ab)))) :=
 cond (x34_3)
  ((Bo data_2 (W (j_2 - 1))).bind fun e_3 =>
  (Bo data_2 j_2).bind fun e_4 =>
  (Bo (Bi data_2 ((j_2).toNat) e_3) (W (j_2 - 1))).bind fun e_5 =>
  some (.next (W (j_2 - 1), Bi (Bi data_2 ((j_2).toNat) e_3) ((W (j_2 - 1)).toNat) e_4)))
  (up (
   some (.next (W (i_1 + 1), data_2))))
def Au.l2 (a : Int) (cmp : Ab -> Ab -> Option (Int)) (i_1 : Int) (j_2 : Int) (data_2 : List Ab) : Option (Lp (Int × List Ab) (Lp (Int × List Ab) ((List Ab)))) :=
 cond (decide (a < j_2))
  ((Bo data_2 j_2).bind fun e =>
  (Bo data_2 (W (j_2 - 1))).bind fun e_2 =>
  (cmp e e_2).bind fun y =>
  Au.j3 i_1 j_2 data_2 (decide (y < 0)))
  (Au.j3 i_1 j_2 data_2 false)
def Au.l1 (a : Int) (b : Int) (cmp : Ab -> Ab -> Option (Int)) (i_1 : Int) (data_1 : List Ab) : Option (Lp (Int × List Ab) ((List Ab))) :=
 cond (decide (i_1 < b))
  (B6 (fun q' => Au.l2 a cmp i_1 q'.1 q'.2) (i_1, data_1))
  (up (some data_1))
def Au (data : List Ab) (a : Int) (b : Int) (cmp : Ab -> Ab -> Option (Int)) : Option ((List Ab)) :=
 B6 (fun q' => Au.l1 a b cmp q'.1 q'.2) (W (a + 1), data)
def Ax.j3 (first : Int) (cmp : Ab -> Ab -> Option (Int)) (root_1 : Int) (data_1 : List Ab) (child_3 : Int) : Option (Lp (Int × List Ab) ((List Ab))) :=
 (Bo data_1 (W (first + root_1))).bind fun e_3 =>
 (Bo data_1 (W (first + child_3))).bind fun e_4 =>
 (cmp e_3 e_4).bind fun y_2 =>
 cond (!(decide (y_2 < 0)))
  (up (some data_1))
  ((Bo (Bi data_1 ((W (first + root_1)).toNat) e_4) (W (first + child_3))).bind fun e_5 =>
  some (.next (child_3, Bi (Bi data_1 ((W (first + root_1)).toNat) e_4) ((W (first + child_3)).toNat) e_3)))
def Ax.j2 (first : Int) (cmp : Ab -> Ab -> Option (Int)) (root_1 : Int) (data_1 : List Ab) (x40_2 : Bool) : Option (Lp (Int × List Ab) ((List Ab))) :=
 cond (x40_2)
  (Ax.j3 first cmp root_1 data_1 (W ((W ((W (2 * root_1)) + 1)) + 1)))
  (Ax.j3 first cmp root_1 data_1 (W ((W (2 * root_1)) + 1)))
def Ax.l1 (hi : Int) (first : Int) (cmp : Ab -> Ab -> Option (Int)) (root_1 : Int) (data_1 : List Ab) : Option (Lp (Int × List Ab) ((List Ab))) :=
 cond (decide (hi <= (W ((W (2 * root_1)) + 1))))
  (up (some data_1))
  (cond (decide ((W ((W ((W (2 * root_1)) + 1)) + 1)) < hi))
   ((Bo data_1 (W (first + (W ((W (2 * root_1)) + 1))))).bind fun e =>
   (Bo data_1 (W ((W (first + (W ((W (2 * root_1)) + 1)))) + 1))).bind fun e_2 =>
   (cmp e e_2).bind fun y =>
   Ax.j2 first cmp root_1 data_1 (decide (y < 0)))
   (Ax.j2 first cmp root_1 data_1 false))
def Ax (data : List Ab) (lo : Int) (hi : Int) (first : Int) (cmp : Ab -> Ab -> Option (Int)) : Option ((List Ab)) :=
 B6 (fun q' => Ax.l1 hi first cmp q'.1 q'.2) (lo, data)
def A7.l2 (a : Int) (cmp : Ab -> Ab -> Option (Int)) (i_2 : Int) (data_2 : List Ab) : Option (Lp (Int × List Ab) ((List Ab))) :=
 cond (decide (0 <= i_2))
  ((Bo data_2 (W (a + i_2))).bind fun e =>
  (Bo data_2 a).bind fun e_2 =>
  (Bo (Bi data_2 ((a).toNat) e) (W (a + i_2))).bind fun e_3 =>
  (Ax (Bi (Bi data_2 ((a).toNat) e) ((W (a + i_2)).toNat) e_2) 0 i_2 a cmp).bind fun y_2 =>
  some (.next (W (i_2 - 1), y_2)))
  (up (some data_2))
def A7.l1 (a : Int) (b : Int) (cmp : Ab -> Ab -> Option (Int)) (i_1 : Int) (data_1 : List Ab) : Option (Lp (Int × List Ab) ((List Ab))) :=
 cond (decide (0 <= i_1))
  ((Ax data_1 i_1 (W (b - a)) a cmp).bind fun y =>
  some (.next (W (i_1 - 1), y)))
  (up (
   B6 (fun q' => A7.l2 a cmp q'.1 q'.2) (W ((W (b - a)) - 1), data_1)))
def A7 (data : List Ab) (a : Int) (b : Int) (cmp : Ab -> Ab -> Option (Int)) : Option ((List Ab)) :=
 (Ia (W ((W (b - a)) - 1)) 2).bind fun q =>
 B6 (fun q' => A7.l1 a b cmp q'.1 q'.2) (q, data)
def Es (length : Int) : Option (Int) :=
 (Fi (IntKind.wrap .u64 length)).bind fun y =>
 (V1 .u64 1 y).bind fun q =>
 some q
def Ez (r' : Int) : Option (Int × Int) :=
 (V1 .u64 r' 13).bind fun q =>
 (Rs .u64 (Ql .u64 r' q) 7).bind fun q_2 =>
 (V1 .u64 (Ql .u64 (Ql .u64 r' q) q_2) 17).bind fun q_3 =>
 some (Ql .u64 (Ql .u64 (Ql .u64 r' q) q_2) q_3, Ql .u64 (Ql .u64 (Ql .u64 r' q) q_2) q_3)
def Az.j2 (a : Int) (idx_1 : Int) (data_1 : List Ab) (y_2 : Int × Int) (other_2 : Int) : Option (Lp (Int × List Ab × Int) ((List Ab))) :=
 (Bo data_1 (W (a + other_2))).bind fun e =>
 (Bo data_1 idx_1).bind fun e_2 =>
 (Bo (Bi data_1 ((idx_1).toNat) e) (W (a + other_2))).bind fun e_3 =>
 some (.next (W (idx_1 + 1), Bi (Bi data_1 ((idx_1).toNat) e) ((W (a + other_2)).toNat) e_2, y_2.2))
def Az.l1 (a : Int) (b : Int) (y : Int) (idx_1 : Int) (data_1 : List Ab) (random_1 : Int) : Option (Lp (Int × List Ab × Int) ((List Ab))) :=
 (Ia (W (b - a)) 4).bind fun q_2 =>
 cond (decide (idx_1 <= (W ((W (a + (W (q_2 * 2)))) + 1))))
  ((Ez random_1).bind fun y_2 =>
  cond (decide ((W (b - a)) <= (W (Rx .u64 y_2.1 (IntKind.wrap .u64 (y - 1))))))
   (Az.j2 a idx_1 data_1 y_2 (W ((W (Rx .u64 y_2.1 (IntKind.wrap .u64 (y - 1)))) - (W (b - a)))))
   (Az.j2 a idx_1 data_1 y_2 (W (Rx .u64 y_2.1 (IntKind.wrap .u64 (y - 1))))))
  (up (some data_1))
def Az (data : List Ab) (a : Int) (b : Int) (cmp : Ab -> Ab -> Option (Int)) : Option ((List Ab)) :=
 cond (decide (8 <= (W (b - a))))
  ((Es (W (b - a))).bind fun y =>
  (Ia (W (b - a)) 4).bind fun q =>
  B6 (fun q' => Az.l1 a b y q'.1 q'.2.1 q'.2.2) (W ((W (a + (W (q * 2)))) - 1), data, IntKind.wrap .u64 (W (b - a))))
  (some data)
def Dc (data : (List Ab)) (a : Int) (b : Int) (swaps : Int) (cmp : Ab -> Ab -> Option (Int)) : Option (Int × Int × Int) :=
 (Bo data b).bind fun e =>
 (Bo data a).bind fun e_2 =>
 (cmp e e_2).bind fun y =>
 cond (decide (y < 0))
  (some (b, a, W (swaps + 1)))
  (some (a, b, swaps))
def Dt (data : (List Ab)) (a : Int) (b : Int) (c : Int) (swaps : Int) (cmp : Ab -> Ab -> Option (Int)) : Option (Int × Int) :=
 (Dc data a b swaps cmp).bind fun y =>
 (Dc data y.2.1 c y.2.2 cmp).bind fun y_2 =>
 (Dc data y.1 y_2.1 y_2.2.2 cmp).bind fun y_3 =>
 some (y_3.2.1, y_3.2.2)
def Cu (data : (List Ab)) (a : Int) (swaps : Int) (cmp : Ab -> Ab -> Option (Int)) : Option (Int × Int) :=
 (Dt data (W (a - 1)) a (W (a + 1)) swaps cmp).bind fun y =>
 some (y.1, y.2)
def Ba.j2 (j_2 : Int) (swaps_2 : Int) : Option (Int × Int) :=
 cond (decide (swaps_2 = 0))
  (some (j_2, 1))
  (cond (decide (swaps_2 = 12))
   (some (j_2, 2))
   (some (j_2, 0)))
def Ba.j1 (data : (List Ab)) (cmp : Ab -> Ab -> Option (Int)) (i_1 : Int) (j_1 : Int) (k_1 : Int) (swaps_1 : Int) : Option (Int × Int) :=
 (Dt data i_1 j_1 k_1 swaps_1 cmp).bind fun y_4 =>
 Ba.j2 y_4.1 y_4.2
def Ba (data : (List Ab)) (a : Int) (b : Int) (cmp : Ab -> Ab -> Option (Int)) : Option (Int × Int) :=
 (Ia (W (b - a)) 4).bind fun q =>
 (Ia (W (b - a)) 4).bind fun q_2 =>
 (Ia (W (b - a)) 4).bind fun q_3 =>
 cond (decide (8 <= (W (b - a))))
  (cond (decide (50 <= (W (b - a))))
   ((Cu data (W (a + (W (q * 1)))) 0 cmp).bind fun y =>
   (Cu data (W (a + (W (q_2 * 2)))) y.2 cmp).bind fun y_2 =>
   (Cu data (W (a + (W (q_3 * 3)))) y_2.2 cmp).bind fun y_3 =>
   Ba.j1 data cmp y.1 y_2.1 y_3.1 y_3.2)
   (Ba.j1 data cmp (W (a + (W (q * 1)))) (W (a + (W (q_2 * 2)))) (W (a + (W (q_3 * 3)))) 0))
  (Ba.j2 (W (a + (W (q_2 * 2)))) 0)
def Bj.l1 (i_1 : Int) (j_1 : Int) (data_1 : List Ab) : Option (Lp (Int × Int × List Ab) ((List Ab))) :=
 cond (decide (i_1 < j_1))
  ((Bo data_1 j_1).bind fun e =>
  (Bo data_1 i_1).bind fun e_2 =>
  (Bo (Bi data_1 ((i_1).toNat) e) j_1).bind fun e_3 =>
  some (.next (W (i_1 + 1), W (j_1 - 1), Bi (Bi data_1 ((i_1).toNat) e) ((j_1).toNat) e_2)))
  (up (some data_1))
def Bj (data : List Ab) (a : Int) (b : Int) (cmp : Ab -> Ab -> Option (Int)) : Option ((List Ab)) :=
 B6 (fun q' => Bj.l1 q'.1 q'.2.1 q'.2.2) (a, W (b - 1), data)
def Ae.j7 (j_1 : Int) (i_7 : Int) (data_7 : List Ab) : Option (Lp (Int × Int × List Ab) (Bool × (List Ab))) :=
 some (.next (i_7, W (j_1 + 1), data_7))
def Ae.l6 (b : Int) (cmp : Ab -> Ab -> Option (Int)) (j_1 : Int) (i_2 : Int) (j_6 : Int) (data_6 : List Ab) : Option (Lp (Int × List Ab) (Lp (Int × Int × List Ab) (Bool × (List Ab)))) :=
 cond (decide (j_6 < b))
  ((Bo data_6 j_6).bind fun e_9 =>
  (Bo data_6 (W (j_6 - 1))).bind fun e_10 =>
  (cmp e_9 e_10).bind fun y_3 =>
  cond (!(decide (y_3 < 0)))
   (up (
    Ae.j7 j_1 i_2 data_6))
   ((Bo (Bi data_6 ((j_6).toNat) e_10) (W (j_6 - 1))).bind fun e_11 =>
   some (.next (W (j_6 + 1), Bi (Bi data_6 ((j_6).toNat) e_10) ((W (j_6 - 1)).toNat) e_9))))
  (up (
   Ae.j7 j_1 i_2 data_6))
def Ae.j5 (b : Int) (cmp : Ab -> Ab -> Option (Int)) (j_1 : Int) (i_2 : Int) (data_5 : List Ab) : Option (Lp (Int × Int × List Ab) (Bool × (List Ab))) :=
 cond (decide (2 <= (W (b - i_2))))
  (B6 (fun q' => Ae.l6 b cmp j_1 i_2 q'.1 q'.2) (W (i_2 + 1), data_5))
  (Ae.j7 j_1 i_2 data_5)
def Ae.l4 (b : Int) (cmp : Ab -> Ab -> Option (Int)) (j_1 : Int) (i_2 : Int) (j_4 : Int) (data_4 : List Ab) : Option (Lp (Int × List Ab) (Lp (Int × Int × List Ab) (Bool × (List Ab)))) :=
 cond (decide (1 <= j_4))
  ((Bo data_4 j_4).bind fun e_6 =>
  (Bo data_4 (W (j_4 - 1))).bind fun e_7 =>
  (cmp e_6 e_7).bind fun y_2 =>
  cond (!(decide (y_2 < 0)))
   (up (
    Ae.j5 b cmp j_1 i_2 data_4))
   ((Bo (Bi data_4 ((j_4).toNat) e_7) (W (j_4 - 1))).bind fun e_8 =>
   some (.next (W (j_4 - 1), Bi (Bi data_4 ((j_4).toNat) e_7) ((W (j_4 - 1)).toNat) e_6))))
  (up (
   Ae.j5 b cmp j_1 i_2 data_4))
def Ae.j3 (a : Int) (b : Int) (cmp : Ab -> Ab -> Option (Int)) (j_1 : Int) (data_1 : List Ab) (i_2 : Int) (x36_3 : Bool) : Option (Lp (Int) (Lp (Int × Int × List Ab) (Bool × (List Ab)))) :=
 cond (x36_3)
  (some (.next (W (i_2 + 1))))
  (up (
   cond (decide (i_2 = b))
    (up (some (true, data_1)))
    (cond (decide ((W (b - a)) < 50))
     (up (some (false, data_1)))
     ((Bo data_1 (W (i_2 - 1))).bind fun e_3 =>
     (Bo data_1 i_2).bind fun e_4 =>
     (Bo (Bi data_1 ((i_2).toNat) e_3) (W (i_2 - 1))).bind fun e_5 =>
     cond (decide (2 <= (W (i_2 - a))))
      (B6 (fun q' => Ae.l4 b cmp j_1 i_2 q'.1 q'.2) (W (i_2 - 1), Bi (Bi data_1 ((i_2).toNat) e_3) ((W (i_2 - 1)).toNat) e_4))
      (Ae.j5 b cmp j_1 i_2 (Bi (Bi data_1 ((i_2).toNat) e_3) ((W (i_2 - 1)).toNat) e_4))))))
def Ae.l2 (a : Int) (b : Int) (cmp : Ab -> Ab -> Option (Int)) (j_1 : Int) (data_1 : List Ab) (i_2 : Int) : Option (Lp (Int) (Lp (Int × Int × List Ab) (Bool × (List Ab)))) :=
 cond (decide (i_2 < b))
  ((Bo data_1 i_2).bind fun e =>
  (Bo data_1 (W (i_2 - 1))).bind fun e_2 =>
  (cmp e e_2).bind fun y =>
  Ae.j3 a b cmp j_1 data_1 i_2 (!(decide (y < 0))))
  (Ae.j3 a b cmp j_1 data_1 i_2 false)
def Ae.l1 (a : Int) (b : Int) (cmp : Ab -> Ab -> Option (Int)) (i_1 : Int) (j_1 : Int) (data_1 : List Ab) : Option (Lp (Int × Int × List Ab) (Bool × (List Ab))) :=
 cond (decide (j_1 < 5))
  (B6 (fun q' => Ae.l2 a b cmp j_1 data_1 q') i_1)
  (up (
   some (false, data_1)))
def Ae (data : List Ab) (a : Int) (b : Int) (cmp : Ab -> Ab -> Option (Int)) : Option (Bool × (List Ab)) :=
 B6 (fun q' => Ae.l1 a b cmp q'.1 q'.2.1 q'.2.2) (W (a + 1), 0, data)
def Ap.j5 (data_1 : List Ab) (i_2 : Int) (j_4 : Int) (x65_5 : Bool) : Option (Lp (Int) (Lp (Int × Int × List Ab) (Int × (List Ab)))) :=
 cond (x65_5)
  (some (.next (W (j_4 - 1))))
  (up (
   cond (decide (j_4 < i_2))
    (up (
     some (i_2, data_1)))
    ((Bo data_1 j_4).bind fun e_8 =>
    (Bo data_1 i_2).bind fun e_9 =>
    (Bo (Bi data_1 ((i_2).toNat) e_8) j_4).bind fun e_10 =>
    some (.next (W (i_2 + 1), W (j_4 - 1), Bi (Bi data_1 ((i_2).toNat) e_8) ((j_4).toNat) e_9)))))
def Ap.l4 (a : Int) (cmp : Ab -> Ab -> Option (Int)) (data_1 : List Ab) (i_2 : Int) (j_4 : Int) : Option (Lp (Int) (Lp (Int × Int × List Ab) (Int × (List Ab)))) :=
 cond (decide (i_2 <= j_4))
  ((Bo data_1 a).bind fun e_6 =>
  (Bo data_1 j_4).bind fun e_7 =>
  (cmp e_6 e_7).bind fun y_2 =>
  Ap.j5 data_1 i_2 j_4 (decide (y_2 < 0)))
  (Ap.j5 data_1 i_2 j_4 false)
def Ap.j3 (a : Int) (cmp : Ab -> Ab -> Option (Int)) (j_1 : Int) (data_1 : List Ab) (i_2 : Int) (x47_3 : Bool) : Option (Lp (Int) (Lp (Int × Int × List Ab) (Int × (List Ab)))) :=
 cond (x47_3)
  (some (.next (W (i_2 + 1))))
  (up (
   B6 (fun q' => Ap.l4 a cmp data_1 i_2 q') j_1))
def Ap.l2 (a : Int) (cmp : Ab -> Ab -> Option (Int)) (j_1 : Int) (data_1 : List Ab) (i_2 : Int) : Option (Lp (Int) (Lp (Int × Int × List Ab) (Int × (List Ab)))) :=
 cond (decide (i_2 <= j_1))
  ((Bo data_1 a).bind fun e_4 =>
  (Bo data_1 i_2).bind fun e_5 =>
  (cmp e_4 e_5).bind fun y =>
  Ap.j3 a cmp j_1 data_1 i_2 (!(decide (y < 0))))
  (Ap.j3 a cmp j_1 data_1 i_2 false)
def Ap.l1 (a : Int) (cmp : Ab -> Ab -> Option (Int)) (i_1 : Int) (j_1 : Int) (data_1 : List Ab) : Option (Lp (Int × Int × List Ab) (Int × (List Ab))) :=
 B6 (fun q' => Ap.l2 a cmp j_1 data_1 q') i_1
def Ap (data : List Ab) (a : Int) (b : Int) (pivot : Int) (cmp : Ab -> Ab -> Option (Int)) : Option (Int × (List Ab)) :=
 (Bo data pivot).bind fun e =>
 (Bo data a).bind fun e_2 =>
 (Bo (Bi data ((a).toNat) e) pivot).bind fun e_3 =>
 B6 (fun q' => Ap.l1 a cmp q'.1 q'.2.1 q'.2.2) (W (a + 1), W (b - 1), Bi (Bi data ((a).toNat) e) ((pivot).toNat) e_2)
def Ah.j9 (a : Int) (data_5 : List Ab) (i_6 : Int) (j_8 : Int) (x139_9 : Bool) : Option (Lp (Int) (Lp (Int × Int × List Ab) (Int × Bool × (List Ab)))) :=
 cond (x139_9)
  (some (.next (W (j_8 - 1))))
  (up (
   cond (decide (j_8 < i_6))
    (up (
     (Bo data_5 a).bind fun e_21 =>
     (Bo data_5 j_8).bind fun e_22 =>
     (Bo (Bi data_5 ((j_8).toNat) e_21) a).bind fun e_23 =>
     some (j_8, false, Bi (Bi data_5 ((j_8).toNat) e_21) ((a).toNat) e_22)))
    ((Bo data_5 j_8).bind fun e_18 =>
    (Bo data_5 i_6).bind fun e_19 =>
    (Bo (Bi data_5 ((i_6).toNat) e_18) j_8).bind fun e_20 =>
    some (.next (W (i_6 + 1), W (j_8 - 1), Bi (Bi data_5 ((i_6).toNat) e_18) ((j_8).toNat) e_19)))))
def Ah.l8 (a : Int) (cmp : Ab -> Ab -> Option (Int)) (data_5 : List Ab) (i_6 : Int) (j_8 : Int) : Option (Lp (Int) (Lp (Int × Int × List Ab) (Int × Bool × (List Ab)))) :=
 cond (decide (i_6 <= j_8))
  ((Bo data_5 j_8).bind fun e_16 =>
  (Bo data_5 a).bind fun e_17 =>
  (cmp e_16 e_17).bind fun y_4 =>
  Ah.j9 a data_5 i_6 j_8 (!(decide (y_4 < 0))))
  (Ah.j9 a data_5 i_6 j_8 false)
def Ah.j7 (a : Int) (cmp : Ab -> Ab -> Option (Int)) (j_5 : Int) (data_5 : List Ab) (i_6 : Int) (x120_7 : Bool) : Option (Lp (Int) (Lp (Int × Int × List Ab) (Int × Bool × (List Ab)))) :=
 cond (x120_7)
  (some (.next (W (i_6 + 1))))
  (up (
   B6 (fun q' => Ah.l8 a cmp data_5 i_6 q') j_5))
def Ah.l6 (a : Int) (cmp : Ab -> Ab -> Option (Int)) (j_5 : Int) (data_5 : List Ab) (i_6 : Int) : Option (Lp (Int) (Lp (Int × Int × List Ab) (Int × Bool × (List Ab)))) :=
 cond (decide (i_6 <= j_5))
  ((Bo data_5 i_6).bind fun e_14 =>
  (Bo data_5 a).bind fun e_15 =>
  (cmp e_14 e_15).bind fun y_3 =>
  Ah.j7 a cmp j_5 data_5 i_6 (decide (y_3 < 0)))
  (Ah.j7 a cmp j_5 data_5 i_6 false)
def Ah.l5 (a : Int) (cmp : Ab -> Ab -> Option (Int)) (i_5 : Int) (j_5 : Int) (data_5 : List Ab) : Option (Lp (Int × Int × List Ab) (Int × Bool × (List Ab))) :=
 B6 (fun q' => Ah.l6 a cmp j_5 data_5 q') i_5
def Ah.j4 (data : List Ab) (a : Int) (pivot : Int) (cmp : Ab -> Ab -> Option (Int)) (e : Ab) (e_2 : Ab) (i_1 : Int) (j_3 : Int) (x66_4 : Bool) : Option (Lp (Int) (Int × Bool × (List Ab))) :=
 cond (x66_4)
  (some (.next (W (j_3 - 1))))
  (up (
   cond (decide (j_3 < i_1))
    ((Bo (Bi (Bi data ((a).toNat) e) ((pivot).toNat) e_2) a).bind fun e_8 =>
    (Bo (Bi (Bi data ((a).toNat) e) ((pivot).toNat) e_2) j_3).bind fun e_9 =>
    (Bo (Bi (Bi (Bi data ((a).toNat) e) ((pivot).toNat) e_2) ((j_3).toNat) e_8) a).bind fun e_10 =>
    some (j_3, true, Bi (Bi (Bi (Bi data ((a).toNat) e) ((pivot).toNat) e_2) ((j_3).toNat) e_8) ((a).toNat) e_9))
    ((Bo (Bi (Bi data ((a).toNat) e) ((pivot).toNat) e_2) j_3).bind fun e_11 =>
    (Bo (Bi (Bi data ((a).toNat) e) ((pivot).toNat) e_2) i_1).bind fun e_12 =>
    (Bo (Bi (Bi (Bi data ((a).toNat) e) ((pivot).toNat) e_2) ((i_1).toNat) e_11) j_3).bind fun e_13 =>
    B6 (fun q' => Ah.l5 a cmp q'.1 q'.2.1 q'.2.2) (W (i_1 + 1), W (j_3 - 1), Bi (Bi (Bi (Bi data ((a).toNat) e) ((pivot).toNat) e_2) ((i_1).toNat) e_11) ((j_3).toNat) e_12))))
def Ah.l3 (data : List Ab) (a : Int) (pivot : Int) (cmp : Ab -> Ab -> Option (Int)) (e : Ab) (e_2 : Ab) (i_1 : Int) (j_3 : Int) : Option (Lp (Int) (Int × Bool × (List Ab))) :=
 cond (decide (i_1 <= j_3))
  ((Bo (Bi (Bi data ((a).toNat) e) ((pivot).toNat) e_2) j_3).bind fun e_6 =>
  (Bo (Bi (Bi data ((a).toNat) e) ((pivot).toNat) e_2) a).bind fun e_7 =>
  (cmp e_6 e_7).bind fun y_2 =>
  Ah.j4 data a pivot cmp e e_2 i_1 j_3 (!(decide (y_2 < 0))))
  (Ah.j4 data a pivot cmp e e_2 i_1 j_3 false)
def Ah.j2 (data : List Ab) (a : Int) (b : Int) (pivot : Int) (cmp : Ab -> Ab -> Option (Int)) (e : Ab) (e_2 : Ab) (i_1 : Int) (x47_2 : Bool) : Option (Lp (Int) (Int × Bool × (List Ab))) :=
 cond (x47_2)
  (some (.next (W (i_1 + 1))))
  (up (
   B6 (fun q' => Ah.l3 data a pivot cmp e e_2 i_1 q') (W (b - 1))))
def Ah.l1 (data : List Ab) (a : Int) (b : Int) (pivot : Int) (cmp : Ab -> Ab -> Option (Int)) (e : Ab) (e_2 : Ab) (i_1 : Int) : Option (Lp (Int) (Int × Bool × (List Ab))) :=
 cond (decide (i_1 <= (W (b - 1))))
  ((Bo (Bi (Bi data ((a).toNat) e) ((pivot).toNat) e_2) i_1).bind fun e_4 =>
  (Bo (Bi (Bi data ((a).toNat) e) ((pivot).toNat) e_2) a).bind fun e_5 =>
  (cmp e_4 e_5).bind fun y =>
  Ah.j2 data a b pivot cmp e e_2 i_1 (decide (y < 0)))
  (Ah.j2 data a b pivot cmp e e_2 i_1 false)
def Ah (data : List Ab) (a : Int) (b : Int) (pivot : Int) (cmp : Ab -> Ab -> Option (Int)) : Option (Int × Bool × (List Ab)) :=
 (Bo data pivot).bind fun e =>
 (Bo data a).bind fun e_2 =>
 (Bo (Bi data ((a).toNat) e) pivot).bind fun e_3 =>
 B6 (fun q' => Ah.l1 data a b pivot cmp e e_2 q') (W (a + 1))
def Aj.j6 (rec : (List Ab) -> Int -> Int -> Int -> Option ((List Ab))) (cmp : Ab -> Ab -> Option (Int)) (a_1 : Int) (b_1 : Int) (wasBalanced_1 : Bool) (wasPartitioned_1 : Bool) (limit_2 : Int) (pivot_3 : Int) (data_5 : List Ab) (x97_6 : Bool) : Option (Lp (Int × Int × Int × Bool × Bool × List Ab) ((List Ab))) :=
 cond (x97_6)
  ((Ap data_5 a_1 b_1 pivot_3 cmp).bind fun y_8 =>
  some (.next (y_8.1, b_1, limit_2, wasBalanced_1, wasPartitioned_1, y_8.2)))
  ((Ah data_5 a_1 b_1 pivot_3 cmp).bind fun y_9 =>
  (Ia (W (b_1 - a_1)) 8).bind fun q =>
  cond (decide ((W (y_9.1 - a_1)) < (W (b_1 - y_9.1))))
   ((rec y_9.2.2 a_1 y_9.1 limit_2).bind fun y_10 =>
   some (.next (W (y_9.1 + 1), b_1, limit_2, decide (q <= (W (y_9.1 - a_1))), y_9.2.1, y_10)))
   ((rec y_9.2.2 (W (y_9.1 + 1)) b_1 limit_2).bind fun y_11 =>
   some (.next (a_1, y_9.1, limit_2, decide (q <= (W (b_1 - y_9.1))), y_9.2.1, y_11))))
def Aj.j5 (rec : (List Ab) -> Int -> Int -> Int -> Option ((List Ab))) (cmp : Ab -> Ab -> Option (Int)) (a_1 : Int) (b_1 : Int) (wasBalanced_1 : Bool) (wasPartitioned_1 : Bool) (limit_2 : Int) (pivot_3 : Int) (data_5 : List Ab) : Option (Lp (Int × Int × Int × Bool × Bool × List Ab) ((List Ab))) :=
 cond (decide (0 < a_1))
  ((Bo data_5 (W (a_1 - 1))).bind fun e =>
  (Bo data_5 pivot_3).bind fun e_2 =>
  (cmp e e_2).bind fun y_7 =>
  Aj.j6 rec cmp a_1 b_1 wasBalanced_1 wasPartitioned_1 limit_2 pivot_3 data_5 (!(decide (y_7 < 0))))
  (Aj.j6 rec cmp a_1 b_1 wasBalanced_1 wasPartitioned_1 limit_2 pivot_3 data_5 false)
def Aj.j4 (rec : (List Ab) -> Int -> Int -> Int -> Option ((List Ab))) (cmp : Ab -> Ab -> Option (Int)) (a_1 : Int) (b_1 : Int) (wasBalanced_1 : Bool) (wasPartitioned_1 : Bool) (limit_2 : Int) (pivot_3 : Int) (data_3 : List Ab) (x75_4 : Bool) : Option (Lp (Int × Int × Int × Bool × Bool × List Ab) ((List Ab))) :=
 cond (x75_4)
  ((Ae data_3 a_1 b_1 cmp).bind fun y_6 =>
  cond (y_6.1)
   (up (some y_6.2))
   (Aj.j5 rec cmp a_1 b_1 wasBalanced_1 wasPartitioned_1 limit_2 pivot_3 y_6.2))
  (Aj.j5 rec cmp a_1 b_1 wasBalanced_1 wasPartitioned_1 limit_2 pivot_3 data_3)
def Aj.j3 (rec : (List Ab) -> Int -> Int -> Int -> Option ((List Ab))) (cmp : Ab -> Ab -> Option (Int)) (a_1 : Int) (b_1 : Int) (wasBalanced_1 : Bool) (wasPartitioned_1 : Bool) (limit_2 : Int) (pivot_3 : Int) (hint_3 : Int) (data_3 : List Ab) : Option (Lp (Int × Int × Int × Bool × Bool × List Ab) ((List Ab))) :=
 cond (wasBalanced_1)
  (cond (wasPartitioned_1)
   (Aj.j4 rec cmp a_1 b_1 wasBalanced_1 wasPartitioned_1 limit_2 pivot_3 data_3 (decide (hint_3 = 1)))
   (Aj.j4 rec cmp a_1 b_1 wasBalanced_1 wasPartitioned_1 limit_2 pivot_3 data_3 false))
  (Aj.j4 rec cmp a_1 b_1 wasBalanced_1 wasPartitioned_1 limit_2 pivot_3 data_3 false)
def Aj.j2 (rec : (List Ab) -> Int -> Int -> Int -> Option ((List Ab))) (cmp : Ab -> Ab -> Option (Int)) (a_1 : Int) (b_1 : Int) (wasBalanced_1 : Bool) (wasPartitioned_1 : Bool) (limit_2 : Int) (data_2 : List Ab) : Option (Lp (Int × Int × Int × Bool × Bool × List Ab) ((List Ab))) :=
 (Ba data_2 a_1 b_1 cmp).bind fun y_4 =>
 cond (decide (y_4.2 = 2))
  ((Bj data_2 a_1 b_1 cmp).bind fun y_5 =>
  Aj.j3 rec cmp a_1 b_1 wasBalanced_1 wasPartitioned_1 limit_2 (W ((W (b_1 - 1)) - (W (y_4.1 - a_1)))) 1 y_5)
  (Aj.j3 rec cmp a_1 b_1 wasBalanced_1 wasPartitioned_1 limit_2 y_4.1 y_4.2 data_2)
def Aj.l1 (rec : (List Ab) -> Int -> Int -> Int -> Option ((List Ab))) (cmp : Ab -> Ab -> Option (Int)) (a_1 : Int) (b_1 : Int) (limit_1 : Int) (wasBalanced_1 : Bool) (wasPartitioned_1 : Bool) (data_1 : List Ab) : Option (Lp (Int × Int × Int × Bool × Bool × List Ab) ((List Ab))) :=
 cond (decide ((W (b_1 - a_1)) <= 12))
  ((Au data_1 a_1 b_1 cmp).bind fun y =>
  up (some y))
  (cond (decide (limit_1 = 0))
   ((A7 data_1 a_1 b_1 cmp).bind fun y_2 =>
   up (some y_2))
   (cond (!wasBalanced_1)
    ((Az data_1 a_1 b_1 cmp).bind fun y_3 =>
    Aj.j2 rec cmp a_1 b_1 wasBalanced_1 wasPartitioned_1 (W (limit_1 - 1)) y_3)
    (Aj.j2 rec cmp a_1 b_1 wasBalanced_1 wasPartitioned_1 limit_1 data_1)))
def Aj.F (rec : (List Ab) -> Int -> Int -> Int -> Option ((List Ab))) (data : List Ab) (a : Int) (b : Int) (limit : Int) (cmp : Ab -> Ab -> Option (Int)) : Option ((List Ab)) :=
 B6 (fun q' => Aj.l1 rec cmp q'.1 q'.2.1 q'.2.2.1 q'.2.2.2.1 q'.2.2.2.2.1 q'.2.2.2.2.2) (a, b, limit, true, true, data)
def Aj (data : List Ab) (a : Int) (b : Int) (limit : Int) (cmp : Ab -> Ab -> Option (Int)) : Option ((List Ab)) := Zs (fun rec (x : List Ab × Int × Int × Int) => Aj.F (fun data a b limit => rec (data, a, b, limit)) x.1 x.2.1 x.2.2.1 x.2.2.2 cmp) (data, a, b, limit)
def D8 (x' : List Ab) (cmp : Ab -> Ab -> Option (Int)) : Option ((List Ab)) :=
 (Fi (IntKind.wrap .u64 (x'.length : Int))).bind fun y =>
 (Aj x' 0 (x'.length : Int) y cmp).bind fun y_2 =>
 some y_2
def Ev (p : (List Ai)) (b : (List UInt8)) : Option ((List Ab) × Int) :=
 (Gl p b).bind fun y =>
 cond (!decide (y = 0))
  (some (([] : (List Ab)), y))
  ((Be p b (fun x0 b0 => Ff x0 b0) ([] : List Ab)).bind fun y_2 =>
  cond (decide (1000 < (y_2.length : Int)))
   (some (([] : (List Ab)), 3))
   ((D8 y_2 (fun x0 x1 => Fc x0 x1)).bind fun y_3 =>
   some (y_3, 0)))
def Bu.j4 (i_1 : Int) (out_1 : List Int) (n_4 : Int) : Option (Lp (Int × List Int) ((List Int))) :=
 (Bo out_1 i_1).bind fun e_7 =>
 some (.next (W (i_1 + 1), Bi out_1 ((i_1).toNat) n_4))
def Bu.j3 (b : (List UInt8)) (i_1 : Int) (out_1 : List Int) (n_2 : Int) (x32_3 : Bool) : Option (Lp (Int) (Lp (Int × List Int) ((List Int)))) :=
 cond (x32_3)
  ((Bo out_1 (W (n_2 - 1))).bind fun e_4 =>
  some (.next e_4))
  (up (
   (Bo b n_2).bind fun e_5 =>
   (Bo b i_1).bind fun e_6 =>
   cond (decide ((e_5.toNat : Int) = (e_6.toNat : Int)))
    (Bu.j4 i_1 out_1 (W (n_2 + 1)))
    (Bu.j4 i_1 out_1 n_2)))
def Bu.l2 (b : (List UInt8)) (i_1 : Int) (out_1 : List Int) (n_2 : Int) : Option (Lp (Int) (Lp (Int × List Int) ((List Int)))) :=
 cond (decide (0 < n_2))
  ((Bo b n_2).bind fun e_2 =>
  (Bo b i_1).bind fun e_3 =>
  Bu.j3 b i_1 out_1 n_2 (!decide ((e_2.toNat : Int) = (e_3.toNat : Int))))
  (Bu.j3 b i_1 out_1 n_2 false)
def Bu.l1 (b : (List UInt8)) (i_1 : Int) (out_1 : List Int) : Option (Lp (Int × List Int) ((List Int))) :=
 cond (decide (i_1 < (b.length : Int)))
  ((Bo out_1 (W (i_1 - 1))).bind fun e =>
  B6 (fun q' => Bu.l2 b i_1 out_1 q') e)
  (up (
   some out_1))
def Bu (b : (List UInt8)) : Option ((List Int)) :=
 (U8 8 (b.length : Int) (0 : Int)).bind fun m =>
 B6 (fun q' => Bu.l1 b q'.1 q'.2) (1, m)
def Dd.l1 (a : (List Int)) (b : (List Int)) (i_1 : Int) : Option (Lp (Int) (Bool)) :=
 cond (decide (i_1 < (a.length : Int)))
  ((Bo a i_1).bind fun e =>
  (Bo b i_1).bind fun e_2 =>
  cond (!decide (e = e_2))
   (up (some false))
   (some (.next (W (i_1 + 1)))))
  (up (
   some true))
def Dd (a : (List Int)) (b : (List Int)) : Option (Bool) :=
 cond (!decide ((a.length : Int) = (b.length : Int)))
  (some false)
  (B6 (fun q' => Dd.l1 a b q') 0)
def Hg : Option (Bool) :=
 (Ev ([(Ai.mk (Aa.mk 1 0) ([(97 : UInt8), (98 : UInt8), (97 : UInt8)] : List UInt8)), (Ai.mk (Aa.mk 1 0) ([(98 : UInt8)] : List UInt8))] : List Ai) ([(97 : UInt8), (98 : UInt8), (97 : UInt8), (98 : UInt8), (97 : UInt8)] : List UInt8)).bind fun y =>
 cond (decide (y.2 = 0))
  (cond (decide ((y.1.length : Int) = 4))
   ((Bo y.1 0).bind fun e =>
   cond (decide (e = (Ab.mk 0 0)))
    ((Bo y.1 1).bind fun e_2 =>
    cond (decide (e_2 = (Ab.mk 1 1)))
     ((Bu ([(97 : UInt8), (98 : UInt8), (97 : UInt8), (98 : UInt8)] : List UInt8)).bind fun y_2 =>
     (Dd y_2 ([0, 0, 1, 2] : List Int)).bind fun y_3 =>
     some y_3)
     (some false))
    (some false))
   (some false))
  (some false)
def K9 (l : (List Int)) : Option (Am) :=
 some (Am.mk l 0)
def Kf (n : Int) (k : Int) : Option (Int) :=
 cond (decide (k < 1))
  (some 0)
  ((Xb n k).bind fun q =>
  (Xb (W (q + k)) k).bind fun q_2 =>
  some q_2)
def Df (d : Am) (n : Int) : Option (Int × Am) :=
 cond (decide ((d.L.length : Int) <= d.At))
  (some (0, d))
  ((Bo d.L (W ((W (d.At + 1)) - 1))).bind fun e =>
  (Kf e n).bind fun y =>
  some (y, (Am.mk d.L (W (d.At + 1)))))
def Cj (d : Am) (l : (List Int)) : Option (Int × Am) :=
 (Df d (l.length : Int)).bind fun y =>
 (Bo l y.1).bind fun e =>
 some (e, y.2)
def Db.j3 (d : Am) (x40_3 : Bool) : Option (Int × Am) :=
 cond (x40_3)
  ((Cj d ([128, 256] : List Int)).bind fun y_7 =>
  some (y_7.1, y_7.2))
  (some (0, d))
def Db.j2 (d : Am) (a : Int) (x14_2 : Bool) : Option (Int × Am) :=
 cond (x14_2)
  ((Cj d ([256, 160, 224, 384, 521] : List Int)).bind fun y_2 =>
  some (y_2.1, y_2.2))
  (cond (decide (a = 9))
   ((Cj d ([65, 44, 87] : List Int)).bind fun y_3 =>
   some (y_3.1, y_3.2))
   (cond (decide (a = 13))
    ((Cj d ([768, 512, 1024] : List Int)).bind fun y_4 =>
    some (y_4.1, y_4.2))
    (cond (decide (a = 14))
     ((Cj d ([128, 40] : List Int)).bind fun y_5 =>
     some (y_5.1, y_5.2))
     (cond (decide (a = 15))
      ((Cj d ([168, 112] : List Int)).bind fun y_6 =>
      some (y_6.1, y_6.2))
      (cond (decide (a = 16))
       (Db.j3 d (decide (a = 16)))
       (Db.j3 d (decide (a = 17))))))))
def Db.j1 (d : Am) (a : Int) (x6_1 : Bool) : Option (Int × Am) :=
 cond (x6_1)
  ((Cj d ([2048, 1024, 512, 3072, 1023, 4096, 16384] : List Int)).bind fun y =>
  some (y.1, y.2))
  (cond (decide (a = 7))
   (Db.j2 d a (decide (a = 7)))
   (Db.j2 d a (decide (a = 12))))
def Db (d : Am) (a : Int) : Option (Int × Am) :=
 cond (decide (a = 5))
  (Db.j1 d a (decide (a = 5)))
  (cond (decide (a = 6))
   (Db.j1 d a (decide (a = 6)))
   (cond (decide (a = 10))
    (Db.j1 d a (decide (a = 10)))
    (Db.j1 d a (decide (a = 11)))))
def Ki (d : Am) : Option (Aa × Am) :=
 (Df d 22).bind fun y =>
 (Db y.2 (W (1 + y.1))).bind fun y_2 =>
 some ((Aa.mk (W (1 + y.1)) y_2.1), y_2.2)
def Dl.l2 (i_1 : Int) (p_1 : List Ai) (n_2 : Int) (d_2 : Am) (b_2 : List UInt8) : Option (Lp (Int × Am × List UInt8) (Lp (Int × Am × List Ai) ((List Ai) × Am))) :=
 cond (decide (0 < n_2))
  ((Cj d_2 ([0, 1, 2, 103] : List Int)).bind fun y_3 =>
  (H7 1 b_2 ([(u8 y_3.1)] : List UInt8)).bind fun l =>
  some (.next (W (n_2 - 1), y_3.2, l)))
  (up (
   (Ki d_2).bind fun y_5 =>
   (H7 120 p_1 ([(Ai.mk y_5.1 b_2)] : List Ai)).bind fun l_2 =>
   some (.next (W (i_1 - 1), y_5.2, l_2))))
def Dl.l1 (i_1 : Int) (d_1 : Am) (p_1 : List Ai) : Option (Lp (Int × Am × List Ai) ((List Ai) × Am)) :=
 cond (decide (0 < i_1))
  ((Df d_1 5).bind fun y_2 =>
  B6 (fun q' => Dl.l2 i_1 p_1 q'.1 q'.2.1 q'.2.2) (W (1 + y_2.1), y_2.2, ([] : List UInt8)))
  (up (
   some (p_1, d_1)))
def Dl (d : Am) : Option ((List Ai) × Am) :=
 (Df d 5).bind fun y =>
 B6 (fun q' => Dl.l1 q'.1 q'.2.1 q'.2.2) (W (1 + y.1), y.2, ([] : List Ai))
def Hd (d : Am) (n : Int) : Option (Bool × Am) :=
 (Df d n).bind fun y =>
 some (decide (y.1 = (W (n - 1))), y.2)
def Cn.l2 (i_1 : Int) (l_1 : List A5) (n_2 : Int) (d_2 : Am) (b_2 : List UInt8) : Option (Lp (Int × Am × List UInt8) (Lp (Int × Am × List A5) (Bv × Am))) :=
 cond (decide (0 < n_2))
  ((Cj d_2 ([0, 1, 2, 103, 230, 9] : List Int)).bind fun y_3 =>
  (H7 1 b_2 ([(u8 y_3.1)] : List UInt8)).bind fun l =>
  some (.next (W (n_2 - 1), y_3.2, l)))
  (up (
   (Xb i_1 3).bind fun q_3 =>
   (Bo ([(⟨#[46, 116, 101, 120, 116]⟩ : ByteArray), (⟨#[46, 100, 97, 116, 97]⟩ : ByteArray), (⟨#[46, 98, 115, 115]⟩ : ByteArray)] : List ByteArray) q_3).bind fun e_3 =>
   (Ia i_1 3).bind fun q_4 =>
   (Bo ([(⟨#[]⟩ : ByteArray), (⟨#[49]⟩ : ByteArray)] : List ByteArray) q_4).bind fun e_4 =>
   (iU e_3 e_4).bind fun s_2 =>
   (H7 80 l_1 ([(A5.mk s_2 b_2)] : List A5)).bind fun l_2 =>
   some (.next (W (i_1 + 1), d_2, l_2))))
def Cn.j5 (i_4 : Int) (d_5 : Am) (l_5 : List Bc) : Option (Lp (Int × Am × List Bc) (Bv × Am)) :=
 some (.next (W (i_4 + 1), d_5, l_5))
def Cn.l4 (l_1 : List A5) (i_4 : Int) (d_4 : Am) (l_4 : List Bc) : Option (Lp (Int × Am × List Bc) (Bv × Am)) :=
 cond (decide (i_4 < (([(⟨#[109, 100, 53, 95, 105, 110, 105, 116]⟩ : ByteArray), (⟨#[115, 104, 97, 49]⟩ : ByteArray), (⟨#[109, 97, 105, 110]⟩ : ByteArray), (⟨#[97, 101, 115, 103, 99, 109, 95, 120]⟩ : ByteArray), (⟨#[109, 100, 95, 53]⟩ : ByteArray), (⟨#[114, 115, 97, 95, 115, 105, 103, 110]⟩ : ByteArray), (⟨#[95, 114, 115, 97]⟩ : ByteArray)] : List ByteArray).length : Int)))
  ((Hd d_4 2).bind fun y_4 =>
  cond (y_4.1)
   ((Bo ([(⟨#[109, 100, 53, 95, 105, 110, 105, 116]⟩ : ByteArray), (⟨#[115, 104, 97, 49]⟩ : ByteArray), (⟨#[109, 97, 105, 110]⟩ : ByteArray), (⟨#[97, 101, 115, 103, 99, 109, 95, 120]⟩ : ByteArray), (⟨#[109, 100, 95, 53]⟩ : ByteArray), (⟨#[114, 115, 97, 95, 115, 105, 103, 110]⟩ : ByteArray), (⟨#[95, 114, 115, 97]⟩ : ByteArray)] : List ByteArray) i_4).bind fun e_5 =>
   (Df y_4.2 1048576).bind fun y_5 =>
   (H7 48 l_4 ([(Bc.mk e_5 y_5.1)] : List Bc)).bind fun l_3 =>
   Cn.j5 i_4 y_5.2 l_3)
   (Cn.j5 i_4 y_4.2 l_4))
  (up (
   some ((Bv.mk l_1 l_4), d_4)))
def Cn.l1 (i_1 : Int) (d_1 : Am) (l_1 : List A5) : Option (Lp (Int × Am × List A5) (Bv × Am)) :=
 (Df d_1 4).bind fun y =>
 cond (decide (i_1 < y.1))
  ((Df y.2 40).bind fun y_2 =>
  B6 (fun q' => Cn.l2 i_1 l_1 q'.1 q'.2.1 q'.2.2) (y_2.1, y_2.2, ([] : List UInt8)))
  (up (
   B6 (fun q' => Cn.l4 l_1 q'.1 q'.2.1 q'.2.2) (0, y.2, ([] : List Bc))))
def Cn (d : Am) : Option (Bv × Am) :=
 B6 (fun q' => Cn.l1 q'.1 q'.2.1 q'.2.2) (0, d, ([] : List A5))
def Ft.l1 (n_1 : Int) (d_1 : Am) (b_1 : List UInt8) : Option (Lp (Int × Am × List UInt8) ((List UInt8) × Am)) :=
 cond (decide (0 < n_1))
  ((Cj d_1 ([0, 1, 2, 103] : List Int)).bind fun y_2 =>
  (H7 1 b_1 ([(u8 y_2.1)] : List UInt8)).bind fun l =>
  some (.next (W (n_1 - 1), y_2.2, l)))
  (up (
   some (b_1, d_1)))
def Ft (d : Am) (most : Int) : Option ((List UInt8) × Am) :=
 (Df d (W (most + 1))).bind fun y =>
 B6 (fun q' => Ft.l1 q'.1 q'.2.1 q'.2.2) (y.1, y.2, ([] : List UInt8))
def Dg.j1 (b : Int) (x3_1 : Bool) : Option (Int) :=
 cond (x3_1)
  (some 0)
  (cond (decide (b < 1024))
   (some 56)
   (cond (decide (b < 2048))
    (some 80)
    (cond (decide (b < 3072))
     (some 112)
     (cond (decide (b < 7680))
      (some 128)
      (cond (decide (b < 15360))
       (some 192)
       (some 256))))))
def Dg (b : Int) : Option (Int) :=
 cond (decide (b < 512))
  (Dg.j1 b true)
  (Dg.j1 b (decide (16384 < b)))
def B5.l1 (b : Int) (sizes : (List Int)) (strengths : (List Int)) (i_1 : Int) : Option (Lp (Int) (Int)) :=
 cond (decide (i_1 < (sizes.length : Int)))
  ((Bo sizes i_1).bind fun e =>
  cond (decide (e = b))
   ((Bo strengths i_1).bind fun e_2 =>
   up (some e_2))
   (some (.next (W (i_1 + 1)))))
  (up (
   some 0))
def B5 (b : Int) (sizes : (List Int)) (strengths : (List Int)) : Option (Int) :=
 B6 (fun q' => B5.l1 b sizes strengths q') 0
def C7.j2 (alg : Int) (x14_2 : Bool) : Option (Int) :=
 cond (x14_2)
  (some 256)
  (cond (decide (alg = 19))
   (some 64)
   (cond (decide (alg = 20))
    (some 80)
    (some 0)))
def C7.j1 (alg : Int) (x8_1 : Bool) : Option (Int) :=
 cond (x8_1)
  (some 128)
  (cond (decide (alg = 4))
   (some 192)
   (cond (decide (alg = 18))
    (C7.j2 alg (decide (alg = 18)))
    (C7.j2 alg (decide (alg = 22)))))
def C7 (alg : Int) : Option (Int) :=
 cond (decide (alg = 1))
  (some 18)
  (cond (decide (alg = 2))
   (some 60)
   (cond (decide (alg = 3))
    (C7.j1 alg (decide (alg = 3)))
    (cond (decide (alg = 8))
     (C7.j1 alg (decide (alg = 8)))
     (C7.j1 alg (decide (alg = 21))))))
def Ay.j3 (u : Aa) (x35_3 : Bool) : Option (Int) :=
 cond (x35_3)
  ((Ia u.Bits 2).bind fun q =>
  some q)
  (some 0)
def Ay.j4 (u : Aa) (x62_4 : Bool) : Option (Int) :=
 cond (x62_4)
  ((B5 u.Bits ([128, 256] : List Int) ([128, 256] : List Int)).bind fun y_6 =>
  some y_6)
  ((C7 u.Alg).bind fun y_7 =>
  (B5 u.Bits ([0] : List Int) ([y_7] : List Int)).bind fun y_8 =>
  some y_8)
def Ay.j2 (u : Aa) (x15_2 : Bool) : Option (Int) :=
 cond (x15_2)
  (cond (decide (u.Bits = 160))
   (Ay.j3 u true)
   (cond (decide (u.Bits = 224))
    (Ay.j3 u true)
    (cond (decide (u.Bits = 256))
     (Ay.j3 u true)
     (cond (decide (u.Bits = 384))
      (Ay.j3 u true)
      (Ay.j3 u (decide (u.Bits = 521)))))))
  (cond (decide (u.Alg = 9))
   ((B5 u.Bits ([44, 65, 87] : List Int) ([128, 192, 256] : List Int)).bind fun y_2 =>
   some y_2)
   (cond (decide (u.Alg = 13))
    ((B5 u.Bits ([512, 768, 1024] : List Int) ([128, 192, 256] : List Int)).bind fun y_3 =>
    some y_3)
    (cond (decide (u.Alg = 14))
     ((B5 u.Bits ([40, 128] : List Int) ([40, 60] : List Int)).bind fun y_4 =>
     some y_4)
     (cond (decide (u.Alg = 15))
      ((B5 u.Bits ([112, 168] : List Int) ([80, 112] : List Int)).bind fun y_5 =>
      some y_5)
      (cond (decide (u.Alg = 16))
       (Ay.j4 u (decide (u.Alg = 16)))
       (Ay.j4 u (decide (u.Alg = 17))))))))
def Ay.j1 (u : Aa) (x8_1 : Bool) : Option (Int) :=
 cond (x8_1)
  ((Dg u.Bits).bind fun y =>
  some y)
  (cond (decide (u.Alg = 7))
   (Ay.j2 u (decide (u.Alg = 7)))
   (Ay.j2 u (decide (u.Alg = 12))))
def Ay (u : Aa) : Option (Int) :=
 cond (decide (u.Alg = 5))
  (Ay.j1 u (decide (u.Alg = 5)))
  (cond (decide (u.Alg = 6))
   (Ay.j1 u (decide (u.Alg = 6)))
   (cond (decide (u.Alg = 10))
    (Ay.j1 u (decide (u.Alg = 10)))
    (Ay.j1 u (decide (u.Alg = 11)))))
def Ii (u : Aa) : Option (Bool) :=
 (Ay u).bind fun y =>
 some (decide (0 < y))
def C3.j2 (i_1 : Int) (x37_2 : Bool) : Option (Lp (Int) (Int)) :=
 cond (x37_2)
  (up (some 21))
  (some (.next (W (i_1 + 1))))
def C3.l1 (p : (List Ai)) (i_1 : Int) : Option (Lp (Int) (Int)) :=
 cond (decide (i_1 < (p.length : Int)))
  ((Bo p i_1).bind fun e =>
  cond (decide ((e.Bytes.length : Int) < 1))
   (C3.j2 i_1 true)
   (cond (decide (64 < (e.Bytes.length : Int)))
    (C3.j2 i_1 true)
    ((Ii e.Use).bind fun y =>
    C3.j2 i_1 (!y))))
  (up (
   some 0))
def C3 (p : (List Ai)) : Option (Int) :=
 cond (decide (32 < (p.length : Int)))
  (some 21)
  (B6 (fun q' => C3.l1 p q') 0)
def I8 (p : (List UInt8)) (b : (List UInt8)) (i : Int) : Option (Bool) :=
 cond (decide ((p.length : Int) <= (W ((b.length : Int) - i))))
  ((Si b i (W (i + (p.length : Int)))).bind fun l =>
  some (decide ((sT l) = (sT p))))
  (some false)
def Cs.j3 (k_2 : Int) (out_3 : List Ab) : Option (Lp (Int × List Ab) (Lp (Int × List Ab) ((List Ab) × Int))) :=
 some (.next (W (k_2 + 1), out_3))
def Cs.l2 (p : (List Ai)) (b : (List UInt8)) (i_1 : Int) (k_2 : Int) (out_2 : List Ab) : Option (Lp (Int × List Ab) (Lp (Int × List Ab) ((List Ab) × Int))) :=
 cond (decide (k_2 < (p.length : Int)))
  ((Bo p k_2).bind fun e =>
  (I8 e.Bytes b i_1).bind fun y_2 =>
  cond (y_2)
   ((H7 32 out_2 ([(Ab.mk k_2 i_1)] : List Ab)).bind fun l =>
   Cs.j3 k_2 l)
   (Cs.j3 k_2 out_2))
  (up (
   cond (decide (1000 < (out_2.length : Int)))
    (up (some (([] : (List Ab)), 3)))
    (some (.next (W (i_1 + 1), out_2)))))
def Cs.l1 (p : (List Ai)) (b : (List UInt8)) (i_1 : Int) (out_1 : List Ab) : Option (Lp (Int × List Ab) ((List Ab) × Int)) :=
 cond (decide (i_1 < (b.length : Int)))
  (B6 (fun q' => Cs.l2 p b i_1 q'.1 q'.2) (0, out_1))
  (up (
   some (out_1, 0)))
def Cs (p : (List Ai)) (b : (List UInt8)) : Option ((List Ab) × Int) :=
 (C3 p).bind fun y =>
 cond (!decide (y = 0))
  (some (([] : (List Ab)), y))
  (cond (decide (4096 < (b.length : Int)))
   (some (([] : (List Ab)), 3))
   (B6 (fun q' => Cs.l1 p b q'.1 q'.2) (0, ([] : List Ab))))
def Fq (h' : Ab) (c0 : (List Int)) : Option (Bool × (List Int)) :=
 (Bo c0 h'.Pattern).bind fun e =>
 cond (decide (e < 0))
  (some (true, Bi c0 ((h'.Pattern).toNat) h'.At))
  (some (true, c0))
def Bp.l2 (p : (List Ai)) (yield : Ab -> (List Int) -> Option (Bool × (List Int))) (x16_1 : Int) (e_3 : Int) (e_4 : Al) (x34_2 : Int) (l_2 : List Int) : Option (Lp (Int × List Int) (Lp (Int × Int × List Int) ((List Int)))) :=
 cond (decide (x34_2 < (e_4.ends.length : Int)))
  ((Bo e_4.ends x34_2).bind fun e_5 =>
  (Bo p e_5).bind fun e_6 =>
  (yield (Ab.mk e_5 (W ((W (x16_1 + 1)) - (e_6.Bytes.length : Int)))) l_2).bind fun y_2 =>
  cond (!y_2.1)
   (up (up (some y_2.2)))
   (some (.next (W (x34_2 + 1), y_2.2))))
  (up (
   some (.next (e_3, W (x16_1 + 1), l_2))))
def Bp.l1 (p : (List Ai)) (b : (List UInt8)) (yield : Ab -> (List Int) -> Option (Bool × (List Int))) (y : (List Al)) (at_1 : Int) (x16_1 : Int) (l_1 : List Int) : Option (Lp (Int × Int × List Int) ((List Int))) :=
 cond (decide (x16_1 < (b.length : Int)))
  ((Bo b x16_1).bind fun e =>
  (Bo y at_1).bind fun e_2 =>
  (Bo (G0 256 e_2.next) (e.toNat : Int)).bind fun e_3 =>
  (Bo y e_3).bind fun e_4 =>
  B6 (fun q' => Bp.l2 p yield x16_1 e_3 e_4 q'.1 q'.2) (0, l_1))
  (up (some l_1))
def Bp (p : (List Ai)) (b : (List UInt8)) (yield : Ab -> (List Int) -> Option (Bool × (List Int))) (yield_b0 : (List Int)) : Option ((List Int)) :=
 (Bf p).bind fun y =>
 B6 (fun q' => Bp.l1 p b yield y q'.1 q'.2.1 q'.2.2) (0, 0, yield_b0)
def D3.l1 (p : (List Ai)) (b : (List UInt8)) (m : List Int) (x12_1 : Int) (l_1 : List Int) : Option (Lp (Int × List Int) ((List Int))) :=
 cond (decide (x12_1 < (m.length : Int)))
  ((Bo l_1 x12_1).bind fun e =>
  some (.next (W (x12_1 + 1), Bi l_1 ((x12_1).toNat) (-1))))
  (up (
   (Bp p b (fun x0 b0 => Fq x0 b0) l_1).bind fun y =>
   some y))
def D3 (p : (List Ai)) (b : (List UInt8)) : Option ((List Int)) :=
 (U8 8 (p.length : Int) (0 : Int)).bind fun m =>
 B6 (fun q' => D3.l1 p b m q'.1 q'.2) (0, m)
def Eg (p : (List Ai)) (b : (List UInt8)) : Option ((List Int) × Int) :=
 (Gl p b).bind fun y =>
 cond (!decide (y = 0))
  (some (([] : (List Int)), y))
  ((D3 p b).bind fun y_2 =>
  some (y_2, 0))
def Cd.j3 (i_2 : Int) (x_3 : Int) : Option (Lp (Int × Int) (Lp (Int × List Int) ((List Int) × Int))) :=
 some (.next (x_3, W (i_2 - 1)))
def Cd.l2 (p : (List Ai)) (b : (List UInt8)) (k_1 : Int) (out_1 : List Int) (x_2 : Int) (i_2 : Int) : Option (Lp (Int × Int) (Lp (Int × List Int) ((List Int) × Int))) :=
 cond (decide (0 <= i_2))
  ((Bo p k_1).bind fun e =>
  (I8 e.Bytes b i_2).bind fun y_2 =>
  cond (y_2)
   (Cd.j3 i_2 i_2)
   (Cd.j3 i_2 x_2))
  (up (
   (H7 8 out_1 ([x_2] : List Int)).bind fun l =>
   some (.next (W (k_1 + 1), l))))
def Cd.l1 (p : (List Ai)) (b : (List UInt8)) (k_1 : Int) (out_1 : List Int) : Option (Lp (Int × List Int) ((List Int) × Int)) :=
 cond (decide (k_1 < (p.length : Int)))
  (B6 (fun q' => Cd.l2 p b k_1 out_1 q'.1 q'.2) (-1, W ((b.length : Int) - 1)))
  (up (
   some (out_1, 0)))
def Cd (p : (List Ai)) (b : (List UInt8)) : Option ((List Int) × Int) :=
 (C3 p).bind fun y =>
 cond (!decide (y = 0))
  (some (([] : (List Int)), y))
  (cond (decide (4096 < (b.length : Int)))
   (some (([] : (List Int)), 3))
   (B6 (fun q' => Cd.l1 p b q'.1 q'.2) (0, ([] : List Int))))
def Cq.l2 (i : Bv) (sections_1 : List ByteArray) (x24_2 : Int) (symbols_2 : List ByteArray) : Option (Lp (Int × List ByteArray) ((List ByteArray) × (List ByteArray))) :=
 cond (decide (x24_2 < (i.Symbols.length : Int)))
  ((Bo i.Symbols x24_2).bind fun e_2 =>
  (H7 16 symbols_2 ([e_2.Name] : List ByteArray)).bind fun l_2 =>
  some (.next (W (x24_2 + 1), l_2)))
  (up (
   some (sections_1, symbols_2)))
def Cq.l1 (i : Bv) (x11_1 : Int) (sections_1 : List ByteArray) : Option (Lp (Int × List ByteArray) ((List ByteArray) × (List ByteArray))) :=
 cond (decide (x11_1 < (i.Sections.length : Int)))
  ((Bo i.Sections x11_1).bind fun e =>
  (H7 16 sections_1 ([e.Name] : List ByteArray)).bind fun l =>
  some (.next (W (x11_1 + 1), l)))
  (up (
   B6 (fun q' => Cq.l2 i sections_1 q'.1 q'.2) (0, ([] : List ByteArray))))
def Cq (i : Bv) : Option ((List ByteArray) × (List ByteArray)) :=
 B6 (fun q' => Cq.l1 i q'.1 q'.2) (0, ([] : List ByteArray))
def Cz.j2 (x8_1 : Int) (x17_2 : Bool) : Option (Lp (Int) (Bool)) :=
 cond (x17_2)
  (up (some false))
  (some (.next (W (x8_1 + 1))))
def Cz.l1 (s : ByteArray) (x8_1 : Int) : Option (Lp (Int) (Bool)) :=
 cond (decide (x8_1 < ((Up s).length : Int)))
  ((Bo (Up s) x8_1).bind fun e =>
  cond (decide ((e.toNat : Int) <= 32))
   (Cz.j2 x8_1 true)
   (Cz.j2 x8_1 (decide (126 < (e.toNat : Int)))))
  (up (
   cond (decide (1 <= (s.size : Int)))
    (some (decide ((s.size : Int) <= 32)))
    (some false)))
def Cz (s : ByteArray) : Option (Bool) :=
 B6 (fun q' => Cz.l1 s q') 0
def Da.l1 (s : (List ByteArray)) (v : ByteArray) (x8_1 : Int) : Option (Lp (Int) (Int)) :=
 cond (decide (x8_1 < (s.length : Int)))
  ((Bo s x8_1).bind fun e =>
  cond (decide (v = e))
   (up (some x8_1))
   (some (.next (W (x8_1 + 1)))))
  (up (
   some (-1)))
def Da (s : (List ByteArray)) (v : ByteArray) : Option (Int) :=
 B6 (fun q' => Da.l1 s v q') 0
def E4 (s : (List ByteArray)) (v : ByteArray) : Option (Bool) :=
 (Da s v).bind fun y =>
 some (decide (0 <= y))
def B3.j2 (x7_1 : Int) (x21_2 : Bool) : Option (Lp (Int) (Bool)) :=
 cond (x21_2)
  (up (some true))
  (some (.next (W (x7_1 + 1))))
def B3.l1 (names : (List ByteArray)) (x7_1 : Int) : Option (Lp (Int) (Bool)) :=
 cond (decide (x7_1 < (names.length : Int)))
  ((Bo names x7_1).bind fun e =>
  (Cz e).bind fun y =>
  cond (!y)
   (B3.j2 x7_1 true)
   ((Si names 0 x7_1).bind fun l =>
   (E4 l e).bind fun y_2 =>
   B3.j2 x7_1 y_2))
  (up (
   some false))
def B3 (names : (List ByteArray)) : Option (Bool) :=
 B6 (fun q' => B3.l1 names q') 0
def C0.l1 (n : Int) (i_1 : Int) (b_1 : List UInt8) : Option (Lp (Int × List UInt8) ((List UInt8))) :=
 cond (decide (0 <= i_1))
  ((Rs .i64 n (W (8 * i_1))).bind fun q =>
  (H7 1 b_1 ([(u8 q)] : List UInt8)).bind fun l =>
  some (.next (W (i_1 - 1), l)))
  (up (
   some b_1))
def C0 (b : List UInt8) (n : Int) (count : Int) : Option ((List UInt8)) :=
 B6 (fun q' => C0.l1 n q'.1 q'.2) (W (count - 1), b)
def Fy (b : List UInt8) (s : ByteArray) : Option ((List UInt8)) :=
 (C0 b (s.size : Int) 1).bind fun y =>
 (H7 1 y (Up s)).bind fun l =>
 some l
def Ck.l2 (i : Bv) (x41_2 : Int) (b_2 : List UInt8) : Option (Lp (Int × List UInt8) ((List UInt8))) :=
 cond (decide (x41_2 < (i.Symbols.length : Int)))
  ((Bo i.Symbols x41_2).bind fun e_2 =>
  (Fy b_2 e_2.Name).bind fun y_5 =>
  (C0 y_5 e_2.Value 4).bind fun y_6 =>
  some (.next (W (x41_2 + 1), y_6)))
  (up (
   some b_2))
def Ck.l1 (i : Bv) (x17_1 : Int) (b_1 : List UInt8) : Option (Lp (Int × List UInt8) ((List UInt8))) :=
 cond (decide (x17_1 < (i.Sections.length : Int)))
  ((Bo i.Sections x17_1).bind fun e =>
  (Fy b_1 e.Name).bind fun y_2 =>
  (C0 y_2 (e.Bytes.length : Int) 2).bind fun y_3 =>
  (H7 1 y_3 e.Bytes).bind fun l =>
  some (.next (W (x17_1 + 1), l)))
  (up (
   (C0 b_1 (i.Symbols.length : Int) 1).bind fun y_4 =>
   B6 (fun q' => Ck.l2 i q'.1 q'.2) (0, y_4)))
def Ck (i : Bv) : Option ((List UInt8)) :=
 (C0 ([(88 : UInt8), (69 : UInt8), (1 : UInt8)] : List UInt8) (i.Sections.length : Int) 1).bind fun y =>
 B6 (fun q' => Ck.l1 i q'.1 q'.2) (0, y)
def Bs.j3 (x31_2 : Int) (x42_3 : Bool) : Option (Lp (Int) (Int)) :=
 cond (x42_3)
  (up (some 20))
  (some (.next (W (x31_2 + 1))))
def Bs.l2 (i : Bv) (x31_2 : Int) : Option (Lp (Int) (Int)) :=
 cond (decide (x31_2 < (i.Symbols.length : Int)))
  ((Bo i.Symbols x31_2).bind fun e =>
  cond (decide (e.Value < 0))
   (Bs.j3 x31_2 true)
   (Bs.j3 x31_2 (decide (4294967296 <= e.Value))))
  (up (
   (Ck i).bind fun y_4 =>
   cond (decide (4096 < (y_4.length : Int)))
    (some 20)
    (some 0)))
def Bs.j1 (i : Bv) (x27_1 : Bool) : Option (Int) :=
 cond (x27_1)
  (some 20)
  (B6 (fun q' => Bs.l2 i q') 0)
def Bs (i : Bv) : Option (Int) :=
 (Cq i).bind fun y =>
 cond (decide (16 < (y.1.length : Int)))
  (Bs.j1 i true)
  (cond (decide (64 < (y.2.length : Int)))
   (Bs.j1 i true)
   ((B3 y.1).bind fun y_2 =>
   cond (y_2)
    (Bs.j1 i true)
    ((B3 y.2).bind fun y_3 =>
    Bs.j1 i y_3)))
def Gb (a : Aa) (b : Aa) : Option (Int) :=
 cond (!decide (a.Alg = b.Alg))
  (some (W (a.Alg - b.Alg)))
  (some (W (a.Bits - b.Bits)))
def Av.j3 (i_1 : Int) (j_2 : Int) (data_2 : List Aa) (x34_3 : Bool) : Option (Lp (Int × List Aa) (Lp (Int × List Aa) ((List Aa)))) :=
 cond (x34_3)
  ((Bo data_2 (W (j_2 - 1))).bind fun e_3 =>
  (Bo data_2 j_2).bind fun e_4 =>
  (Bo (Bi data_2 ((j_2).toNat) e_3) (W (j_2 - 1))).bind fun e_5 =>
  some (.next (W (j_2 - 1), Bi (Bi data_2 ((j_2).toNat) e_3) ((W (j_2 - 1)).toNat) e_4)))
  (up (
   some (.next (W (i_1 + 1), data_2))))
def Av.l2 (a : Int) (cmp : Aa -> Aa -> Option (Int)) (i_1 : Int) (j_2 : Int) (data_2 : List Aa) : Option (Lp (Int × List Aa) (Lp (Int × List Aa) ((List Aa)))) :=
 cond (decide (a < j_2))
  ((Bo data_2 j_2).bind fun e =>
  (Bo data_2 (W (j_2 - 1))).bind fun e_2 =>
  (cmp e e_2).bind fun y =>
  Av.j3 i_1 j_2 data_2 (decide (y < 0)))
  (Av.j3 i_1 j_2 data_2 false)
def Av.l1 (a : Int) (b : Int) (cmp : Aa -> Aa -> Option (Int)) (i_1 : Int) (data_1 : List Aa) : Option (Lp (Int × List Aa) ((List Aa))) :=
 cond (decide (i_1 < b))
  (B6 (fun q' => Av.l2 a cmp i_1 q'.1 q'.2) (i_1, data_1))
  (up (some data_1))
def Av (data : List Aa) (a : Int) (b : Int) (cmp : Aa -> Aa -> Option (Int)) : Option ((List Aa)) :=
 B6 (fun q' => Av.l1 a b cmp q'.1 q'.2) (W (a + 1), data)
def Aw.j3 (first : Int) (cmp : Aa -> Aa -> Option (Int)) (root_1 : Int) (data_1 : List Aa) (child_3 : Int) : Option (Lp (Int × List Aa) ((List Aa))) :=
 (Bo data_1 (W (first + root_1))).bind fun e_3 =>
 (Bo data_1 (W (first + child_3))).bind fun e_4 =>
 (cmp e_3 e_4).bind fun y_2 =>
 cond (!(decide (y_2 < 0)))
  (up (some data_1))
  ((Bo (Bi data_1 ((W (first + root_1)).toNat) e_4) (W (first + child_3))).bind fun e_5 =>
  some (.next (child_3, Bi (Bi data_1 ((W (first + root_1)).toNat) e_4) ((W (first + child_3)).toNat) e_3)))
def Aw.j2 (first : Int) (cmp : Aa -> Aa -> Option (Int)) (root_1 : Int) (data_1 : List Aa) (x40_2 : Bool) : Option (Lp (Int × List Aa) ((List Aa))) :=
 cond (x40_2)
  (Aw.j3 first cmp root_1 data_1 (W ((W ((W (2 * root_1)) + 1)) + 1)))
  (Aw.j3 first cmp root_1 data_1 (W ((W (2 * root_1)) + 1)))
def Aw.l1 (hi : Int) (first : Int) (cmp : Aa -> Aa -> Option (Int)) (root_1 : Int) (data_1 : List Aa) : Option (Lp (Int × List Aa) ((List Aa))) :=
 cond (decide (hi <= (W ((W (2 * root_1)) + 1))))
  (up (some data_1))
  (cond (decide ((W ((W ((W (2 * root_1)) + 1)) + 1)) < hi))
   ((Bo data_1 (W (first + (W ((W (2 * root_1)) + 1))))).bind fun e =>
   (Bo data_1 (W ((W (first + (W ((W (2 * root_1)) + 1)))) + 1))).bind fun e_2 =>
   (cmp e e_2).bind fun y =>
   Aw.j2 first cmp root_1 data_1 (decide (y < 0)))
   (Aw.j2 first cmp root_1 data_1 false))
def Aw (data : List Aa) (lo : Int) (hi : Int) (first : Int) (cmp : Aa -> Aa -> Option (Int)) : Option ((List Aa)) :=
 B6 (fun q' => Aw.l1 hi first cmp q'.1 q'.2) (lo, data)
def A6.l2 (a : Int) (cmp : Aa -> Aa -> Option (Int)) (i_2 : Int) (data_2 : List Aa) : Option (Lp (Int × List Aa) ((List Aa))) :=
 cond (decide (0 <= i_2))
  ((Bo data_2 (W (a + i_2))).bind fun e =>
  (Bo data_2 a).bind fun e_2 =>
  (Bo (Bi data_2 ((a).toNat) e) (W (a + i_2))).bind fun e_3 =>
  (Aw (Bi (Bi data_2 ((a).toNat) e) ((W (a + i_2)).toNat) e_2) 0 i_2 a cmp).bind fun y_2 =>
  some (.next (W (i_2 - 1), y_2)))
  (up (some data_2))
def A6.l1 (a : Int) (b : Int) (cmp : Aa -> Aa -> Option (Int)) (i_1 : Int) (data_1 : List Aa) : Option (Lp (Int × List Aa) ((List Aa))) :=
 cond (decide (0 <= i_1))
  ((Aw data_1 i_1 (W (b - a)) a cmp).bind fun y =>
  some (.next (W (i_1 - 1), y)))
  (up (
   B6 (fun q' => A6.l2 a cmp q'.1 q'.2) (W ((W (b - a)) - 1), data_1)))
def A6 (data : List Aa) (a : Int) (b : Int) (cmp : Aa -> Aa -> Option (Int)) : Option ((List Aa)) :=
 (Ia (W ((W (b - a)) - 1)) 2).bind fun q =>
 B6 (fun q' => A6.l1 a b cmp q'.1 q'.2) (q, data)
def A1.j2 (a : Int) (idx_1 : Int) (data_1 : List Aa) (y_2 : Int × Int) (other_2 : Int) : Option (Lp (Int × List Aa × Int) ((List Aa))) :=
 (Bo data_1 (W (a + other_2))).bind fun e =>
 (Bo data_1 idx_1).bind fun e_2 =>
 (Bo (Bi data_1 ((idx_1).toNat) e) (W (a + other_2))).bind fun e_3 =>
 some (.next (W (idx_1 + 1), Bi (Bi data_1 ((idx_1).toNat) e) ((W (a + other_2)).toNat) e_2, y_2.2))
def A1.l1 (a : Int) (b : Int) (y : Int) (idx_1 : Int) (data_1 : List Aa) (random_1 : Int) : Option (Lp (Int × List Aa × Int) ((List Aa))) :=
 (Ia (W (b - a)) 4).bind fun q_2 =>
 cond (decide (idx_1 <= (W ((W (a + (W (q_2 * 2)))) + 1))))
  ((Ez random_1).bind fun y_2 =>
  cond (decide ((W (b - a)) <= (W (Rx .u64 y_2.1 (IntKind.wrap .u64 (y - 1))))))
   (A1.j2 a idx_1 data_1 y_2 (W ((W (Rx .u64 y_2.1 (IntKind.wrap .u64 (y - 1)))) - (W (b - a)))))
   (A1.j2 a idx_1 data_1 y_2 (W (Rx .u64 y_2.1 (IntKind.wrap .u64 (y - 1))))))
  (up (some data_1))
def A1 (data : List Aa) (a : Int) (b : Int) (cmp : Aa -> Aa -> Option (Int)) : Option ((List Aa)) :=
 cond (decide (8 <= (W (b - a))))
  ((Es (W (b - a))).bind fun y =>
  (Ia (W (b - a)) 4).bind fun q =>
  B6 (fun q' => A1.l1 a b y q'.1 q'.2.1 q'.2.2) (W ((W (a + (W (q * 2)))) - 1), data, IntKind.wrap .u64 (W (b - a))))
  (some data)
def De (data : (List Aa)) (a : Int) (b : Int) (swaps : Int) (cmp : Aa -> Aa -> Option (Int)) : Option (Int × Int × Int) :=
 (Bo data b).bind fun e =>
 (Bo data a).bind fun e_2 =>
 (cmp e e_2).bind fun y =>
 cond (decide (y < 0))
  (some (b, a, W (swaps + 1)))
  (some (a, b, swaps))
def Ds (data : (List Aa)) (a : Int) (b : Int) (c : Int) (swaps : Int) (cmp : Aa -> Aa -> Option (Int)) : Option (Int × Int) :=
 (De data a b swaps cmp).bind fun y =>
 (De data y.2.1 c y.2.2 cmp).bind fun y_2 =>
 (De data y.1 y_2.1 y_2.2.2 cmp).bind fun y_3 =>
 some (y_3.2.1, y_3.2.2)
def Ct (data : (List Aa)) (a : Int) (swaps : Int) (cmp : Aa -> Aa -> Option (Int)) : Option (Int × Int) :=
 (Ds data (W (a - 1)) a (W (a + 1)) swaps cmp).bind fun y =>
 some (y.1, y.2)
def Bb.j2 (j_2 : Int) (swaps_2 : Int) : Option (Int × Int) :=
 cond (decide (swaps_2 = 0))
  (some (j_2, 1))
  (cond (decide (swaps_2 = 12))
   (some (j_2, 2))
   (some (j_2, 0)))
def Bb.j1 (data : (List Aa)) (cmp : Aa -> Aa -> Option (Int)) (i_1 : Int) (j_1 : Int) (k_1 : Int) (swaps_1 : Int) : Option (Int × Int) :=
 (Ds data i_1 j_1 k_1 swaps_1 cmp).bind fun y_4 =>
 Bb.j2 y_4.1 y_4.2
def Bb (data : (List Aa)) (a : Int) (b : Int) (cmp : Aa -> Aa -> Option (Int)) : Option (Int × Int) :=
 (Ia (W (b - a)) 4).bind fun q =>
 (Ia (W (b - a)) 4).bind fun q_2 =>
 (Ia (W (b - a)) 4).bind fun q_3 =>
 cond (decide (8 <= (W (b - a))))
  (cond (decide (50 <= (W (b - a))))
   ((Ct data (W (a + (W (q * 1)))) 0 cmp).bind fun y =>
   (Ct data (W (a + (W (q_2 * 2)))) y.2 cmp).bind fun y_2 =>
   (Ct data (W (a + (W (q_3 * 3)))) y_2.2 cmp).bind fun y_3 =>
   Bb.j1 data cmp y.1 y_2.1 y_3.1 y_3.2)
   (Bb.j1 data cmp (W (a + (W (q * 1)))) (W (a + (W (q_2 * 2)))) (W (a + (W (q_3 * 3)))) 0))
  (Bb.j2 (W (a + (W (q_2 * 2)))) 0)
def Bk.l1 (i_1 : Int) (j_1 : Int) (data_1 : List Aa) : Option (Lp (Int × Int × List Aa) ((List Aa))) :=
 cond (decide (i_1 < j_1))
  ((Bo data_1 j_1).bind fun e =>
  (Bo data_1 i_1).bind fun e_2 =>
  (Bo (Bi data_1 ((i_1).toNat) e) j_1).bind fun e_3 =>
  some (.next (W (i_1 + 1), W (j_1 - 1), Bi (Bi data_1 ((i_1).toNat) e) ((j_1).toNat) e_2)))
  (up (some data_1))
def Bk (data : List Aa) (a : Int) (b : Int) (cmp : Aa -> Aa -> Option (Int)) : Option ((List Aa)) :=
 B6 (fun q' => Bk.l1 q'.1 q'.2.1 q'.2.2) (a, W (b - 1), data)
def Ad.j7 (j_1 : Int) (i_7 : Int) (data_7 : List Aa) : Option (Lp (Int × Int × List Aa) (Bool × (List Aa))) :=
 some (.next (i_7, W (j_1 + 1), data_7))
def Ad.l6 (b : Int) (cmp : Aa -> Aa -> Option (Int)) (j_1 : Int) (i_2 : Int) (j_6 : Int) (data_6 : List Aa) : Option (Lp (Int × List Aa) (Lp (Int × Int × List Aa) (Bool × (List Aa)))) :=
 cond (decide (j_6 < b))
  ((Bo data_6 j_6).bind fun e_9 =>
  (Bo data_6 (W (j_6 - 1))).bind fun e_10 =>
  (cmp e_9 e_10).bind fun y_3 =>
  cond (!(decide (y_3 < 0)))
   (up (
    Ad.j7 j_1 i_2 data_6))
   ((Bo (Bi data_6 ((j_6).toNat) e_10) (W (j_6 - 1))).bind fun e_11 =>
   some (.next (W (j_6 + 1), Bi (Bi data_6 ((j_6).toNat) e_10) ((W (j_6 - 1)).toNat) e_9))))
  (up (
   Ad.j7 j_1 i_2 data_6))
def Ad.j5 (b : Int) (cmp : Aa -> Aa -> Option (Int)) (j_1 : Int) (i_2 : Int) (data_5 : List Aa) : Option (Lp (Int × Int × List Aa) (Bool × (List Aa))) :=
 cond (decide (2 <= (W (b - i_2))))
  (B6 (fun q' => Ad.l6 b cmp j_1 i_2 q'.1 q'.2) (W (i_2 + 1), data_5))
  (Ad.j7 j_1 i_2 data_5)
def Ad.l4 (b : Int) (cmp : Aa -> Aa -> Option (Int)) (j_1 : Int) (i_2 : Int) (j_4 : Int) (data_4 : List Aa) : Option (Lp (Int × List Aa) (Lp (Int × Int × List Aa) (Bool × (List Aa)))) :=
 cond (decide (1 <= j_4))
  ((Bo data_4 j_4).bind fun e_6 =>
  (Bo data_4 (W (j_4 - 1))).bind fun e_7 =>
  (cmp e_6 e_7).bind fun y_2 =>
  cond (!(decide (y_2 < 0)))
   (up (
    Ad.j5 b cmp j_1 i_2 data_4))
   ((Bo (Bi data_4 ((j_4).toNat) e_7) (W (j_4 - 1))).bind fun e_8 =>
   some (.next (W (j_4 - 1), Bi (Bi data_4 ((j_4).toNat) e_7) ((W (j_4 - 1)).toNat) e_6))))
  (up (
   Ad.j5 b cmp j_1 i_2 data_4))
def Ad.j3 (a : Int) (b : Int) (cmp : Aa -> Aa -> Option (Int)) (j_1 : Int) (data_1 : List Aa) (i_2 : Int) (x36_3 : Bool) : Option (Lp (Int) (Lp (Int × Int × List Aa) (Bool × (List Aa)))) :=
 cond (x36_3)
  (some (.next (W (i_2 + 1))))
  (up (
   cond (decide (i_2 = b))
    (up (some (true, data_1)))
    (cond (decide ((W (b - a)) < 50))
     (up (some (false, data_1)))
     ((Bo data_1 (W (i_2 - 1))).bind fun e_3 =>
     (Bo data_1 i_2).bind fun e_4 =>
     (Bo (Bi data_1 ((i_2).toNat) e_3) (W (i_2 - 1))).bind fun e_5 =>
     cond (decide (2 <= (W (i_2 - a))))
      (B6 (fun q' => Ad.l4 b cmp j_1 i_2 q'.1 q'.2) (W (i_2 - 1), Bi (Bi data_1 ((i_2).toNat) e_3) ((W (i_2 - 1)).toNat) e_4))
      (Ad.j5 b cmp j_1 i_2 (Bi (Bi data_1 ((i_2).toNat) e_3) ((W (i_2 - 1)).toNat) e_4))))))
def Ad.l2 (a : Int) (b : Int) (cmp : Aa -> Aa -> Option (Int)) (j_1 : Int) (data_1 : List Aa) (i_2 : Int) : Option (Lp (Int) (Lp (Int × Int × List Aa) (Bool × (List Aa)))) :=
 cond (decide (i_2 < b))
  ((Bo data_1 i_2).bind fun e =>
  (Bo data_1 (W (i_2 - 1))).bind fun e_2 =>
  (cmp e e_2).bind fun y =>
  Ad.j3 a b cmp j_1 data_1 i_2 (!(decide (y < 0))))
  (Ad.j3 a b cmp j_1 data_1 i_2 false)
def Ad.l1 (a : Int) (b : Int) (cmp : Aa -> Aa -> Option (Int)) (i_1 : Int) (j_1 : Int) (data_1 : List Aa) : Option (Lp (Int × Int × List Aa) (Bool × (List Aa))) :=
 cond (decide (j_1 < 5))
  (B6 (fun q' => Ad.l2 a b cmp j_1 data_1 q') i_1)
  (up (
   some (false, data_1)))
def Ad (data : List Aa) (a : Int) (b : Int) (cmp : Aa -> Aa -> Option (Int)) : Option (Bool × (List Aa)) :=
 B6 (fun q' => Ad.l1 a b cmp q'.1 q'.2.1 q'.2.2) (W (a + 1), 0, data)
def Ao.j5 (data_1 : List Aa) (i_2 : Int) (j_4 : Int) (x65_5 : Bool) : Option (Lp (Int) (Lp (Int × Int × List Aa) (Int × (List Aa)))) :=
 cond (x65_5)
  (some (.next (W (j_4 - 1))))
  (up (
   cond (decide (j_4 < i_2))
    (up (
     some (i_2, data_1)))
    ((Bo data_1 j_4).bind fun e_8 =>
    (Bo data_1 i_2).bind fun e_9 =>
    (Bo (Bi data_1 ((i_2).toNat) e_8) j_4).bind fun e_10 =>
    some (.next (W (i_2 + 1), W (j_4 - 1), Bi (Bi data_1 ((i_2).toNat) e_8) ((j_4).toNat) e_9)))))
def Ao.l4 (a : Int) (cmp : Aa -> Aa -> Option (Int)) (data_1 : List Aa) (i_2 : Int) (j_4 : Int) : Option (Lp (Int) (Lp (Int × Int × List Aa) (Int × (List Aa)))) :=
 cond (decide (i_2 <= j_4))
  ((Bo data_1 a).bind fun e_6 =>
  (Bo data_1 j_4).bind fun e_7 =>
  (cmp e_6 e_7).bind fun y_2 =>
  Ao.j5 data_1 i_2 j_4 (decide (y_2 < 0)))
  (Ao.j5 data_1 i_2 j_4 false)
def Ao.j3 (a : Int) (cmp : Aa -> Aa -> Option (Int)) (j_1 : Int) (data_1 : List Aa) (i_2 : Int) (x47_3 : Bool) : Option (Lp (Int) (Lp (Int × Int × List Aa) (Int × (List Aa)))) :=
 cond (x47_3)
  (some (.next (W (i_2 + 1))))
  (up (
   B6 (fun q' => Ao.l4 a cmp data_1 i_2 q') j_1))
def Ao.l2 (a : Int) (cmp : Aa -> Aa -> Option (Int)) (j_1 : Int) (data_1 : List Aa) (i_2 : Int) : Option (Lp (Int) (Lp (Int × Int × List Aa) (Int × (List Aa)))) :=
 cond (decide (i_2 <= j_1))
  ((Bo data_1 a).bind fun e_4 =>
  (Bo data_1 i_2).bind fun e_5 =>
  (cmp e_4 e_5).bind fun y =>
  Ao.j3 a cmp j_1 data_1 i_2 (!(decide (y < 0))))
  (Ao.j3 a cmp j_1 data_1 i_2 false)
def Ao.l1 (a : Int) (cmp : Aa -> Aa -> Option (Int)) (i_1 : Int) (j_1 : Int) (data_1 : List Aa) : Option (Lp (Int × Int × List Aa) (Int × (List Aa))) :=
 B6 (fun q' => Ao.l2 a cmp j_1 data_1 q') i_1
def Ao (data : List Aa) (a : Int) (b : Int) (pivot : Int) (cmp : Aa -> Aa -> Option (Int)) : Option (Int × (List Aa)) :=
 (Bo data pivot).bind fun e =>
 (Bo data a).bind fun e_2 =>
 (Bo (Bi data ((a).toNat) e) pivot).bind fun e_3 =>
 B6 (fun q' => Ao.l1 a cmp q'.1 q'.2.1 q'.2.2) (W (a + 1), W (b - 1), Bi (Bi data ((a).toNat) e) ((pivot).toNat) e_2)
def Af.j9 (a : Int) (data_5 : List Aa) (i_6 : Int) (j_8 : Int) (x139_9 : Bool) : Option (Lp (Int) (Lp (Int × Int × List Aa) (Int × Bool × (List Aa)))) :=
 cond (x139_9)
  (some (.next (W (j_8 - 1))))
  (up (
   cond (decide (j_8 < i_6))
    (up (
     (Bo data_5 a).bind fun e_21 =>
     (Bo data_5 j_8).bind fun e_22 =>
     (Bo (Bi data_5 ((j_8).toNat) e_21) a).bind fun e_23 =>
     some (j_8, false, Bi (Bi data_5 ((j_8).toNat) e_21) ((a).toNat) e_22)))
    ((Bo data_5 j_8).bind fun e_18 =>
    (Bo data_5 i_6).bind fun e_19 =>
    (Bo (Bi data_5 ((i_6).toNat) e_18) j_8).bind fun e_20 =>
    some (.next (W (i_6 + 1), W (j_8 - 1), Bi (Bi data_5 ((i_6).toNat) e_18) ((j_8).toNat) e_19)))))
def Af.l8 (a : Int) (cmp : Aa -> Aa -> Option (Int)) (data_5 : List Aa) (i_6 : Int) (j_8 : Int) : Option (Lp (Int) (Lp (Int × Int × List Aa) (Int × Bool × (List Aa)))) :=
 cond (decide (i_6 <= j_8))
  ((Bo data_5 j_8).bind fun e_16 =>
  (Bo data_5 a).bind fun e_17 =>
  (cmp e_16 e_17).bind fun y_4 =>
  Af.j9 a data_5 i_6 j_8 (!(decide (y_4 < 0))))
  (Af.j9 a data_5 i_6 j_8 false)
def Af.j7 (a : Int) (cmp : Aa -> Aa -> Option (Int)) (j_5 : Int) (data_5 : List Aa) (i_6 : Int) (x120_7 : Bool) : Option (Lp (Int) (Lp (Int × Int × List Aa) (Int × Bool × (List Aa)))) :=
 cond (x120_7)
  (some (.next (W (i_6 + 1))))
  (up (
   B6 (fun q' => Af.l8 a cmp data_5 i_6 q') j_5))
def Af.l6 (a : Int) (cmp : Aa -> Aa -> Option (Int)) (j_5 : Int) (data_5 : List Aa) (i_6 : Int) : Option (Lp (Int) (Lp (Int × Int × List Aa) (Int × Bool × (List Aa)))) :=
 cond (decide (i_6 <= j_5))
  ((Bo data_5 i_6).bind fun e_14 =>
  (Bo data_5 a).bind fun e_15 =>
  (cmp e_14 e_15).bind fun y_3 =>
  Af.j7 a cmp j_5 data_5 i_6 (decide (y_3 < 0)))
  (Af.j7 a cmp j_5 data_5 i_6 false)
def Af.l5 (a : Int) (cmp : Aa -> Aa -> Option (Int)) (i_5 : Int) (j_5 : Int) (data_5 : List Aa) : Option (Lp (Int × Int × List Aa) (Int × Bool × (List Aa))) :=
 B6 (fun q' => Af.l6 a cmp j_5 data_5 q') i_5
def Af.j4 (data : List Aa) (a : Int) (pivot : Int) (cmp : Aa -> Aa -> Option (Int)) (e : Aa) (e_2 : Aa) (i_1 : Int) (j_3 : Int) (x66_4 : Bool) : Option (Lp (Int) (Int × Bool × (List Aa))) :=
 cond (x66_4)
  (some (.next (W (j_3 - 1))))
  (up (
   cond (decide (j_3 < i_1))
    ((Bo (Bi (Bi data ((a).toNat) e) ((pivot).toNat) e_2) a).bind fun e_8 =>
    (Bo (Bi (Bi data ((a).toNat) e) ((pivot).toNat) e_2) j_3).bind fun e_9 =>
    (Bo (Bi (Bi (Bi data ((a).toNat) e) ((pivot).toNat) e_2) ((j_3).toNat) e_8) a).bind fun e_10 =>
    some (j_3, true, Bi (Bi (Bi (Bi data ((a).toNat) e) ((pivot).toNat) e_2) ((j_3).toNat) e_8) ((a).toNat) e_9))
    ((Bo (Bi (Bi data ((a).toNat) e) ((pivot).toNat) e_2) j_3).bind fun e_11 =>
    (Bo (Bi (Bi data ((a).toNat) e) ((pivot).toNat) e_2) i_1).bind fun e_12 =>
    (Bo (Bi (Bi (Bi data ((a).toNat) e) ((pivot).toNat) e_2) ((i_1).toNat) e_11) j_3).bind fun e_13 =>
    B6 (fun q' => Af.l5 a cmp q'.1 q'.2.1 q'.2.2) (W (i_1 + 1), W (j_3 - 1), Bi (Bi (Bi (Bi data ((a).toNat) e) ((pivot).toNat) e_2) ((i_1).toNat) e_11) ((j_3).toNat) e_12))))
def Af.l3 (data : List Aa) (a : Int) (pivot : Int) (cmp : Aa -> Aa -> Option (Int)) (e : Aa) (e_2 : Aa) (i_1 : Int) (j_3 : Int) : Option (Lp (Int) (Int × Bool × (List Aa))) :=
 cond (decide (i_1 <= j_3))
  ((Bo (Bi (Bi data ((a).toNat) e) ((pivot).toNat) e_2) j_3).bind fun e_6 =>
  (Bo (Bi (Bi data ((a).toNat) e) ((pivot).toNat) e_2) a).bind fun e_7 =>
  (cmp e_6 e_7).bind fun y_2 =>
  Af.j4 data a pivot cmp e e_2 i_1 j_3 (!(decide (y_2 < 0))))
  (Af.j4 data a pivot cmp e e_2 i_1 j_3 false)
def Af.j2 (data : List Aa) (a : Int) (b : Int) (pivot : Int) (cmp : Aa -> Aa -> Option (Int)) (e : Aa) (e_2 : Aa) (i_1 : Int) (x47_2 : Bool) : Option (Lp (Int) (Int × Bool × (List Aa))) :=
 cond (x47_2)
  (some (.next (W (i_1 + 1))))
  (up (
   B6 (fun q' => Af.l3 data a pivot cmp e e_2 i_1 q') (W (b - 1))))
def Af.l1 (data : List Aa) (a : Int) (b : Int) (pivot : Int) (cmp : Aa -> Aa -> Option (Int)) (e : Aa) (e_2 : Aa) (i_1 : Int) : Option (Lp (Int) (Int × Bool × (List Aa))) :=
 cond (decide (i_1 <= (W (b - 1))))
  ((Bo (Bi (Bi data ((a).toNat) e) ((pivot).toNat) e_2) i_1).bind fun e_4 =>
  (Bo (Bi (Bi data ((a).toNat) e) ((pivot).toNat) e_2) a).bind fun e_5 =>
  (cmp e_4 e_5).bind fun y =>
  Af.j2 data a b pivot cmp e e_2 i_1 (decide (y < 0)))
  (Af.j2 data a b pivot cmp e e_2 i_1 false)
def Af (data : List Aa) (a : Int) (b : Int) (pivot : Int) (cmp : Aa -> Aa -> Option (Int)) : Option (Int × Bool × (List Aa)) :=
 (Bo data pivot).bind fun e =>
 (Bo data a).bind fun e_2 =>
 (Bo (Bi data ((a).toNat) e) pivot).bind fun e_3 =>
 B6 (fun q' => Af.l1 data a b pivot cmp e e_2 q') (W (a + 1))
def Ak.j6 (rec : (List Aa) -> Int -> Int -> Int -> Option ((List Aa))) (cmp : Aa -> Aa -> Option (Int)) (a_1 : Int) (b_1 : Int) (wasBalanced_1 : Bool) (wasPartitioned_1 : Bool) (limit_2 : Int) (pivot_3 : Int) (data_5 : List Aa) (x97_6 : Bool) : Option (Lp (Int × Int × Int × Bool × Bool × List Aa) ((List Aa))) :=
 cond (x97_6)
  ((Ao data_5 a_1 b_1 pivot_3 cmp).bind fun y_8 =>
  some (.next (y_8.1, b_1, limit_2, wasBalanced_1, wasPartitioned_1, y_8.2)))
  ((Af data_5 a_1 b_1 pivot_3 cmp).bind fun y_9 =>
  (Ia (W (b_1 - a_1)) 8).bind fun q =>
  cond (decide ((W (y_9.1 - a_1)) < (W (b_1 - y_9.1))))
   ((rec y_9.2.2 a_1 y_9.1 limit_2).bind fun y_10 =>
   some (.next (W (y_9.1 + 1), b_1, limit_2, decide (q <= (W (y_9.1 - a_1))), y_9.2.1, y_10)))
   ((rec y_9.2.2 (W (y_9.1 + 1)) b_1 limit_2).bind fun y_11 =>
   some (.next (a_1, y_9.1, limit_2, decide (q <= (W (b_1 - y_9.1))), y_9.2.1, y_11))))
def Ak.j5 (rec : (List Aa) -> Int -> Int -> Int -> Option ((List Aa))) (cmp : Aa -> Aa -> Option (Int)) (a_1 : Int) (b_1 : Int) (wasBalanced_1 : Bool) (wasPartitioned_1 : Bool) (limit_2 : Int) (pivot_3 : Int) (data_5 : List Aa) : Option (Lp (Int × Int × Int × Bool × Bool × List Aa) ((List Aa))) :=
 cond (decide (0 < a_1))
  ((Bo data_5 (W (a_1 - 1))).bind fun e =>
  (Bo data_5 pivot_3).bind fun e_2 =>
  (cmp e e_2).bind fun y_7 =>
  Ak.j6 rec cmp a_1 b_1 wasBalanced_1 wasPartitioned_1 limit_2 pivot_3 data_5 (!(decide (y_7 < 0))))
  (Ak.j6 rec cmp a_1 b_1 wasBalanced_1 wasPartitioned_1 limit_2 pivot_3 data_5 false)
def Ak.j4 (rec : (List Aa) -> Int -> Int -> Int -> Option ((List Aa))) (cmp : Aa -> Aa -> Option (Int)) (a_1 : Int) (b_1 : Int) (wasBalanced_1 : Bool) (wasPartitioned_1 : Bool) (limit_2 : Int) (pivot_3 : Int) (data_3 : List Aa) (x75_4 : Bool) : Option (Lp (Int × Int × Int × Bool × Bool × List Aa) ((List Aa))) :=
 cond (x75_4)
  ((Ad data_3 a_1 b_1 cmp).bind fun y_6 =>
  cond (y_6.1)
   (up (some y_6.2))
   (Ak.j5 rec cmp a_1 b_1 wasBalanced_1 wasPartitioned_1 limit_2 pivot_3 y_6.2))
  (Ak.j5 rec cmp a_1 b_1 wasBalanced_1 wasPartitioned_1 limit_2 pivot_3 data_3)
def Ak.j3 (rec : (List Aa) -> Int -> Int -> Int -> Option ((List Aa))) (cmp : Aa -> Aa -> Option (Int)) (a_1 : Int) (b_1 : Int) (wasBalanced_1 : Bool) (wasPartitioned_1 : Bool) (limit_2 : Int) (pivot_3 : Int) (hint_3 : Int) (data_3 : List Aa) : Option (Lp (Int × Int × Int × Bool × Bool × List Aa) ((List Aa))) :=
 cond (wasBalanced_1)
  (cond (wasPartitioned_1)
   (Ak.j4 rec cmp a_1 b_1 wasBalanced_1 wasPartitioned_1 limit_2 pivot_3 data_3 (decide (hint_3 = 1)))
   (Ak.j4 rec cmp a_1 b_1 wasBalanced_1 wasPartitioned_1 limit_2 pivot_3 data_3 false))
  (Ak.j4 rec cmp a_1 b_1 wasBalanced_1 wasPartitioned_1 limit_2 pivot_3 data_3 false)
def Ak.j2 (rec : (List Aa) -> Int -> Int -> Int -> Option ((List Aa))) (cmp : Aa -> Aa -> Option (Int)) (a_1 : Int) (b_1 : Int) (wasBalanced_1 : Bool) (wasPartitioned_1 : Bool) (limit_2 : Int) (data_2 : List Aa) : Option (Lp (Int × Int × Int × Bool × Bool × List Aa) ((List Aa))) :=
 (Bb data_2 a_1 b_1 cmp).bind fun y_4 =>
 cond (decide (y_4.2 = 2))
  ((Bk data_2 a_1 b_1 cmp).bind fun y_5 =>
  Ak.j3 rec cmp a_1 b_1 wasBalanced_1 wasPartitioned_1 limit_2 (W ((W (b_1 - 1)) - (W (y_4.1 - a_1)))) 1 y_5)
  (Ak.j3 rec cmp a_1 b_1 wasBalanced_1 wasPartitioned_1 limit_2 y_4.1 y_4.2 data_2)
def Ak.l1 (rec : (List Aa) -> Int -> Int -> Int -> Option ((List Aa))) (cmp : Aa -> Aa -> Option (Int)) (a_1 : Int) (b_1 : Int) (limit_1 : Int) (wasBalanced_1 : Bool) (wasPartitioned_1 : Bool) (data_1 : List Aa) : Option (Lp (Int × Int × Int × Bool × Bool × List Aa) ((List Aa))) :=
 cond (decide ((W (b_1 - a_1)) <= 12))
  ((Av data_1 a_1 b_1 cmp).bind fun y =>
  up (some y))
  (cond (decide (limit_1 = 0))
   ((A6 data_1 a_1 b_1 cmp).bind fun y_2 =>
   up (some y_2))
   (cond (!wasBalanced_1)
    ((A1 data_1 a_1 b_1 cmp).bind fun y_3 =>
    Ak.j2 rec cmp a_1 b_1 wasBalanced_1 wasPartitioned_1 (W (limit_1 - 1)) y_3)
    (Ak.j2 rec cmp a_1 b_1 wasBalanced_1 wasPartitioned_1 limit_1 data_1)))
def Ak.F (rec : (List Aa) -> Int -> Int -> Int -> Option ((List Aa))) (data : List Aa) (a : Int) (b : Int) (limit : Int) (cmp : Aa -> Aa -> Option (Int)) : Option ((List Aa)) :=
 B6 (fun q' => Ak.l1 rec cmp q'.1 q'.2.1 q'.2.2.1 q'.2.2.2.1 q'.2.2.2.2.1 q'.2.2.2.2.2) (a, b, limit, true, true, data)
def Ak (data : List Aa) (a : Int) (b : Int) (limit : Int) (cmp : Aa -> Aa -> Option (Int)) : Option ((List Aa)) := Zs (fun rec (x : List Aa × Int × Int × Int) => Ak.F (fun data a b limit => rec (data, a, b, limit)) x.1 x.2.1 x.2.2.1 x.2.2.2 cmp) (data, a, b, limit)
def D9 (x' : List Aa) (cmp : Aa -> Aa -> Option (Int)) : Option ((List Aa)) :=
 (Fi (IntKind.wrap .u64 (x'.length : Int))).bind fun y =>
 (Ak x' 0 (x'.length : Int) y cmp).bind fun y_2 =>
 some y_2
def Bl.j3 (k2_2 : Int) (k_3 : Int) (s_3 : List Aa) : Option (Lp (Int × Int × List Aa) (Lp (Int) ((List Aa)))) :=
 some (.next (k_3, W (k2_2 + 1), s_3))
def Bl.l2 (s : List Aa) (k_1 : Int) (k_2 : Int) (k2_2 : Int) (s_2 : List Aa) : Option (Lp (Int × Int × List Aa) (Lp (Int) ((List Aa)))) :=
 cond (decide (k2_2 < (((((s.length : Int) : Int).toNat - (k_1 : Int).toNat) : Nat) : Int)))
  ((Bo ((s_2.drop ((k_1 : Int).toNat)).take (((s.length : Int) : Int).toNat - (k_1 : Int).toNat)) k2_2).bind fun e_3 =>
  (Bo ((s_2.drop ((k_1 : Int).toNat)).take (((s.length : Int) : Int).toNat - (k_1 : Int).toNat)) (W (k2_2 - 1))).bind fun e_4 =>
  cond (!decide (e_3 = e_4))
   ((Bo s_2 k_2).bind fun e_5 =>
   Bl.j3 k2_2 (W (k_2 + 1)) (Bi s_2 ((k_2).toNat) e_3))
   (Bl.j3 k2_2 k_2 s_2))
  (up (
   (Si s_2 k_2 (s_2.length : Int)).bind fun l_2 =>
   (gW s_2 ((k_2 : Int).toNat) (((s_2.length : Int) : Int).toNat - (k_2 : Int).toNat) ((Aa.mk 0 0) : Aa)).bind fun l_3 =>
   (Si l_3 0 k_2).bind fun l_4 =>
   up (some (l_3.take ((k_2 : Int).toNat - (0 : Int).toNat)))))
def Bl.l1 (s : List Aa) (k_1 : Int) : Option (Lp (Int) ((List Aa))) :=
 cond (decide (k_1 < (s.length : Int)))
  ((Bo s k_1).bind fun e =>
  (Bo s (W (k_1 - 1))).bind fun e_2 =>
  cond (decide (e = e_2))
   ((Si s k_1 (s.length : Int)).bind fun l =>
   B6 (fun q' => Bl.l2 s k_1 q'.1 q'.2.1 q'.2.2) (k_1, 1, s))
   (some (.next (W (k_1 + 1)))))
  (up (
   some s))
def Bl (s : List Aa) : Option ((List Aa)) :=
 cond (decide ((s.length : Int) < 2))
  (some s)
  (B6 (fun q' => Bl.l1 s q') 1)
def Cc.j3 (x35_2 : Int) (out_3 : List Aa) : Option (Lp (Int × List Aa) (Lp (Int × List Aa) ((List Aa) × Int))) :=
 some (.next (W (x35_2 + 1), out_3))
def Cc.l2 (p : (List Ai)) (x26_1 : Int) (y_3 : (List Int)) (x35_2 : Int) (out_2 : List Aa) : Option (Lp (Int × List Aa) (Lp (Int × List Aa) ((List Aa) × Int))) :=
 cond (decide (x35_2 < (y_3.length : Int)))
  ((Bo y_3 x35_2).bind fun e_2 =>
  cond (decide (0 <= e_2))
   ((Bo p x35_2).bind fun e_3 =>
   (H7 32 out_2 ([e_3.Use] : List Aa)).bind fun l =>
   Cc.j3 x35_2 l)
   (Cc.j3 x35_2 out_2))
  (up (
   some (.next (W (x26_1 + 1), out_2))))
def Cc.l1 (p : (List Ai)) (i : Bv) (x26_1 : Int) (out_1 : List Aa) : Option (Lp (Int × List Aa) ((List Aa) × Int)) :=
 cond (decide (x26_1 < (i.Sections.length : Int)))
  ((Bo i.Sections x26_1).bind fun e =>
  (D3 p e.Bytes).bind fun y_3 =>
  B6 (fun q' => Cc.l2 p x26_1 y_3 q'.1 q'.2) (0, out_1))
  (up (
   (D9 out_1 (fun x0 x1 => Gb x0 x1)).bind fun y_4 =>
   (Bl y_4).bind fun y_5 =>
   some (y_5, 0)))
def Cc (p : (List Ai)) (i : Bv) : Option ((List Aa) × Int) :=
 (Cy p).bind fun y =>
 cond (!decide (y = 0))
  (some (([] : (List Aa)), y))
  ((Bs i).bind fun y_2 =>
  cond (!decide (y_2 = 0))
   (some (([] : (List Aa)), y_2))
   (B6 (fun q' => Cc.l1 p i q'.1 q'.2) (0, ([] : List Aa))))
def Co.j3 (i_2 : Int) (x27_3 : Bool) : Option (Lp (Int) (Bool)) :=
 cond (x27_3)
  (up (some false))
  (some (.next (W (i_2 + 1))))
def Co.l2 (s : ByteArray) (i_2 : Int) : Option (Lp (Int) (Bool)) :=
 cond (decide (i_2 < (s.size : Int)))
  ((idxT s i_2).bind fun c =>
  cond (decide ((c.toNat : Int) < 33))
   (Co.j3 i_2 true)
   ((idxT s i_2).bind fun c_2 =>
   Co.j3 i_2 (decide (126 < (c_2.toNat : Int)))))
  (up (
   some true))
def Co.j1 (s : ByteArray) (x11_1 : Bool) : Option (Bool) :=
 cond (x11_1)
  (some false)
  (B6 (fun q' => Co.l2 s q') 0)
def Co (s : ByteArray) : Option (Bool) :=
 cond (decide ((s.size : Int) < 1))
  (Co.j1 s true)
  (Co.j1 s (decide (32 < (s.size : Int))))
def Bh.l4 (x' : Bv) (size_2 : Int) (i_2 : Int) (k_4 : Int) : Option (Lp (Int) (Lp (Int × Int) (Int))) :=
 cond (decide (k_4 < i_2))
  ((Bo x'.Sections k_4).bind fun e_2 =>
  (Bo x'.Sections i_2).bind fun e_3 =>
  cond (decide (e_2.Name = e_3.Name))
   (up (up (some 20)))
   (some (.next (W (k_4 + 1)))))
  (up (
   (Bo x'.Sections i_2).bind fun e_4 =>
   some (.next (W ((W ((W (size_2 + 3)) + (e_4.Name.size : Int))) + (e_4.Bytes.length : Int)), W (i_2 + 1)))))
def Bh.j3 (x' : Bv) (size_2 : Int) (i_2 : Int) (x42_3 : Bool) : Option (Lp (Int × Int) (Int)) :=
 cond (x42_3)
  (up (some 20))
  (B6 (fun q' => Bh.l4 x' size_2 i_2 q') 0)
def Bh.l7 (x' : Bv) (size_5 : Int) (i_5 : Int) (k_7 : Int) : Option (Lp (Int) (Lp (Int × Int) (Int))) :=
 cond (decide (k_7 < i_5))
  ((Bo x'.Symbols k_7).bind fun e_6 =>
  (Bo x'.Symbols i_5).bind fun e_7 =>
  cond (decide (e_6.Name = e_7.Name))
   (up (up (some 20)))
   (some (.next (W (k_7 + 1)))))
  (up (
   (Bo x'.Symbols i_5).bind fun e_8 =>
   some (.next (W ((W (size_5 + 5)) + (e_8.Name.size : Int)), W (i_5 + 1)))))
def Bh.j6 (x' : Bv) (size_5 : Int) (i_5 : Int) (x111_6 : Bool) : Option (Lp (Int × Int) (Int)) :=
 cond (x111_6)
  (up (some 20))
  (B6 (fun q' => Bh.l7 x' size_5 i_5 q') 0)
def Bh.l5 (x' : Bv) (size_5 : Int) (i_5 : Int) : Option (Lp (Int × Int) (Int)) :=
 cond (decide (i_5 < (x'.Symbols.length : Int)))
  ((Bo x'.Symbols i_5).bind fun e_5 =>
  (Co e_5.Name).bind fun y_2 =>
  cond (!y_2)
   (Bh.j6 x' size_5 i_5 true)
   (cond (decide (e_5.Value < 0))
    (Bh.j6 x' size_5 i_5 true)
    (Bh.j6 x' size_5 i_5 (decide (4294967296 <= e_5.Value)))))
  (up (
   cond (decide (4096 < size_5))
    (some 20)
    (some 0)))
def Bh.l2 (x' : Bv) (size_2 : Int) (i_2 : Int) : Option (Lp (Int × Int) (Int)) :=
 cond (decide (i_2 < (x'.Sections.length : Int)))
  ((Bo x'.Sections i_2).bind fun e =>
  (Co e.Name).bind fun y =>
  cond (!y)
   (Bh.j3 x' size_2 i_2 true)
   (Bh.j3 x' size_2 i_2 (decide (4096 < (e.Bytes.length : Int)))))
  (up (
   B6 (fun q' => Bh.l5 x' q'.1 q'.2) (size_2, 0)))
def Bh.j1 (x' : Bv) (x17_1 : Bool) : Option (Int) :=
 cond (x17_1)
  (some 20)
  (B6 (fun q' => Bh.l2 x' q'.1 q'.2) (5, 0))
def Bh (x' : Bv) : Option (Int) :=
 cond (decide (16 < (x'.Sections.length : Int)))
  (Bh.j1 x' true)
  (Bh.j1 x' (decide (64 < (x'.Symbols.length : Int))))
def B9.j3 (l : (List Aa)) (u : Aa) (k_1 : Int) (x53_3 : Bool) : Option ((List Aa)) :=
 cond (x53_3)
  (some l)
  ((Si l 0 k_1).bind fun l_2 =>
  (H7 32 ([] : List Aa) l_2).bind fun l_3 =>
  (H7 32 l_3 ([u] : List Aa)).bind fun l_4 =>
  (Si l k_1 (l.length : Int)).bind fun l_5 =>
  (H7 32 l_4 l_5).bind fun l_6 =>
  some l_6)
def B9.j2 (l : (List Aa)) (u : Aa) (k_1 : Int) (x39_2 : Bool) : Option (Lp (Int) ((List Aa))) :=
 cond (x39_2)
  (some (.next (W (k_1 + 1))))
  (up (
   cond (decide (k_1 < (l.length : Int)))
    ((Bo l k_1).bind fun e_2 =>
    B9.j3 l u k_1 (decide (e_2 = u)))
    (B9.j3 l u k_1 false)))
def B9.l1 (l : (List Aa)) (u : Aa) (k_1 : Int) : Option (Lp (Int) ((List Aa))) :=
 cond (decide (k_1 < (l.length : Int)))
  ((Bo l k_1).bind fun e =>
  cond (decide (e.Alg < u.Alg))
   (B9.j2 l u k_1 true)
   (cond (decide (e.Alg = u.Alg))
    (B9.j2 l u k_1 (decide (e.Bits < u.Bits)))
    (B9.j2 l u k_1 false)))
  (B9.j2 l u k_1 false)
def B9 (l : (List Aa)) (u : Aa) : Option ((List Aa)) :=
 B6 (fun q' => B9.l1 l u q') 0
def Cr.j3 (k_2 : Int) (out_3 : List Aa) : Option (Lp (List Aa × Int) (Lp (List Aa × Int) ((List Aa) × Int))) :=
 some (.next (out_3, W (k_2 + 1)))
def Cr.l2 (p : (List Ai)) (i_1 : Int) (y_3 : (List Int) × Int) (out_2 : List Aa) (k_2 : Int) : Option (Lp (List Aa × Int) (Lp (List Aa × Int) ((List Aa) × Int))) :=
 cond (decide (k_2 < (y_3.1.length : Int)))
  ((Bo y_3.1 k_2).bind fun e_2 =>
  cond (decide (0 <= e_2))
   ((Bo p k_2).bind fun e_3 =>
   (B9 out_2 e_3.Use).bind fun y_4 =>
   Cr.j3 k_2 y_4)
   (Cr.j3 k_2 out_2))
  (up (
   some (.next (out_2, W (i_1 + 1)))))
def Cr.l1 (p : (List Ai)) (x' : Bv) (out_1 : List Aa) (i_1 : Int) : Option (Lp (List Aa × Int) ((List Aa) × Int)) :=
 cond (decide (i_1 < (x'.Sections.length : Int)))
  ((Bo x'.Sections i_1).bind fun e =>
  (Cd p e.Bytes).bind fun y_3 =>
  B6 (fun q' => Cr.l2 p i_1 y_3 q'.1 q'.2) (out_1, 0))
  (up (
   some (out_1, 0)))
def Cr (p : (List Ai)) (x' : Bv) : Option ((List Aa) × Int) :=
 (C3 p).bind fun y =>
 cond (!decide (y = 0))
  (some (([] : (List Aa)), y))
  ((Bh x').bind fun y_2 =>
  cond (!decide (y_2 = 0))
   (some (([] : (List Aa)), y_2))
   (B6 (fun q' => Cr.l1 p x' q'.1 q'.2) (([] : List Aa), 0)))
def Di.l1 (a : (List Ab)) (b : (List Ab)) (i_1 : Int) : Option (Lp (Int) (Bool)) :=
 cond (decide (i_1 < (a.length : Int)))
  ((Bo a i_1).bind fun e =>
  (Bo b i_1).bind fun e_2 =>
  cond (!decide (e = e_2))
   (up (some false))
   (some (.next (W (i_1 + 1)))))
  (up (
   some true))
def Di (a : (List Ab)) (b : (List Ab)) : Option (Bool) :=
 cond (!decide ((a.length : Int) = (b.length : Int)))
  (some false)
  (B6 (fun q' => Di.l1 a b q') 0)
def Dj.l1 (a : (List Aa)) (b : (List Aa)) (i_1 : Int) : Option (Lp (Int) (Bool)) :=
 cond (decide (i_1 < (a.length : Int)))
  ((Bo a i_1).bind fun e =>
  (Bo b i_1).bind fun e_2 =>
  cond (!decide (e = e_2))
   (up (some false))
   (some (.next (W (i_1 + 1)))))
  (up (
   some true))
def Dj (a : (List Aa)) (b : (List Aa)) : Option (Bool) :=
 cond (!decide ((a.length : Int) = (b.length : Int)))
  (some false)
  (B6 (fun q' => Dj.l1 a b q') 0)
def Bz.j2 (y_5 : Bv × Am) (p_2 : List Ai) (b_2 : List UInt8) (l_2_2 : List Bc) : Option (Bool) :=
 (Ev p_2 b_2).bind fun y_10 =>
 (Cs p_2 b_2).bind fun y_11 =>
 (Eg p_2 b_2).bind fun y_12 =>
 (Cd p_2 b_2).bind fun y_13 =>
 (Cc p_2 (Bv.mk y_5.1.Sections l_2_2)).bind fun y_14 =>
 (Cr p_2 (Bv.mk y_5.1.Sections l_2_2)).bind fun y_15 =>
 (Cy p_2).bind fun y_16 =>
 (C3 p_2).bind fun y_17 =>
 cond (decide (y_16 = y_17))
  (cond (decide (y_10.2 = y_11.2))
   ((Di y_10.1 y_11.1).bind fun y_18 =>
   cond (y_18)
    (cond (decide (y_12.2 = y_13.2))
     ((Dd y_12.1 y_13.1).bind fun y_19 =>
     cond (y_19)
      (cond (decide (y_14.2 = y_15.2))
       ((Dj y_14.1 y_15.1).bind fun y_20 =>
       cond (y_20)
        ((Hg).bind fun y_21 =>
        some y_21)
        (some false))
       (some false))
      (some false))
     (some false))
    (some false))
   (some false))
  (some false)
def Bz.l1 (y_5 : Bv × Am) (y_6 : (List UInt8) × Am) (d_1 : Am) (p_1 : List Ai) : Option (Lp (Am × List Ai) (Bool)) :=
 (Df d_1 2).bind fun y_8 =>
 cond (decide ((p_1.length : Int) < (W (32 + y_8.1))))
  ((Bo p_1 0).bind fun e_4 =>
  (H7 120 p_1 ([e_4] : List Ai)).bind fun l_2 =>
  some (.next (y_8.2, l_2)))
  (up (
   Bz.j2 y_5 p_1 y_6.1 y_5.1.Symbols))
def Bz (l : (List Int)) (odd : UInt8) : Option (Bool) :=
 (Mo l).bind fun y =>
 cond (!y)
  ((Hg).bind fun y_2 =>
  some y_2)
  ((K9 l).bind fun y_3 =>
  (Dl y_3).bind fun y_4 =>
  (Cn y_4.2).bind fun y_5 =>
  (Ft y_5.2 120).bind fun y_6 =>
  (nM odd (11 : UInt8)).bind fun q =>
  cond (decide ((q.toNat : Int) = 0))
   ((Bo y_4.1 0).bind fun e =>
   Bz.j2 y_5 (Bi y_4.1 ((0 : Int).toNat) (Ai.mk e.Use ([] : (List UInt8)))) y_6.1 y_5.1.Symbols)
   (cond (decide ((q.toNat : Int) = 1))
    ((Bo y_4.1 0).bind fun e_2 =>
    Bz.j2 y_5 (Bi y_4.1 ((0 : Int).toNat) (Ai.mk (Aa.mk 0 0) e_2.Bytes)) y_6.1 y_5.1.Symbols)
    (cond (decide ((q.toNat : Int) = 2))
     ((Df y_6.2 2).bind fun y_7 =>
     (U8 1 (W (64 + y_7.1)) ((0 : UInt8) : UInt8)).bind fun m =>
     (Bo y_4.1 0).bind fun e_3 =>
     Bz.j2 y_5 (Bi y_4.1 ((0 : Int).toNat) (Ai.mk e_3.Use m)) y_6.1 y_5.1.Symbols)
     (cond (decide ((q.toNat : Int) = 3))
      (B6 (fun q' => Bz.l1 y_5 y_6 q'.1 q'.2) (y_6.2, y_4.1))
      (cond (decide ((q.toNat : Int) = 4))
       ((Cj y_6.2 ([999, 1000, 1001, 4096, 4097] : List Int)).bind fun y_9 =>
       (U8 1 y_9.1 ((0 : UInt8) : UInt8)).bind fun m_2 =>
       (Bo y_4.1 0).bind fun e_5 =>
       Bz.j2 y_5 (Bi y_4.1 ((0 : Int).toNat) (Ai.mk e_5.Use ([(0 : UInt8)] : List UInt8))) m_2 y_5.1.Symbols)
       (cond (decide ((q.toNat : Int) = 5))
        ((H7 48 y_5.1.Symbols ([(Bc.mk (⟨#[]⟩ : ByteArray) 0)] : List Bc)).bind fun l_3 =>
        Bz.j2 y_5 y_4.1 y_6.1 l_3)
        (Bz.j2 y_5 y_4.1 y_6.1 y_5.1.Symbols)))))))
end
end Go.Proofs.Ytfkgbfhpibiheaa
