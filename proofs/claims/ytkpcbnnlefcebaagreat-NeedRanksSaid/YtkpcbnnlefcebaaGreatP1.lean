import Derived.Test.YtkpcbnnlefcebaaGreatPU
set_option linter.unusedVariables false
set_option linter.unusedSimpArgs false
namespace Go.Proofs.YtkpcbnnlefcebaaGreat
noncomputable section
structure Ac where
 L : (List Int)
 At : Int
 deriving DecidableEq, Inhabited
structure Az where
 Alg : Int
 Bits : Int
 deriving DecidableEq, Inhabited
structure Ga where
 Key : Int
 Sum : Int
 deriving DecidableEq, Inhabited
structure Am where
 Serial : Int
 Issuer : ByteArray
 Subject : ByteArray
 Key : Az
 KeyId : Int
 Hash : Az
 From : Int
 To : Int
 Authority : Bool
 Path : Int
 Names : (List ByteArray)
 Seal : Ga
 deriving DecidableEq, Inhabited
structure Bq where
 Key : Az
 KeyId : Int
 Chain : (List Am)
 deriving DecidableEq, Inhabited
structure Aw where
 Name : ByteArray
 Least : Int
 Most : Int
 Suites : (List Int)
 OwnOrder : Bool
 Identities : (List Bq)
 Anchors : (List Int)
 Hashes : (List Int)
 Fallback : Bool
 deriving DecidableEq, Inhabited
structure Ba where
 Client : Int
 Server : Int
 deriving DecidableEq, Inhabited
structure Ds where
 Use : Az
 Day : Int
 deriving DecidableEq, Inhabited
structure By where
 Name : ByteArray
 Kind : Int
 Purpose : Int
 Links : (List Ds)
 Until : Int
 deriving DecidableEq, Inhabited
structure Bj where
 Endpoints : (List Aw)
 Edges : (List Ba)
 Items : (List By)
 deriving DecidableEq, Inhabited
structure An where
 Endpoint : Int
 Kind : Int
 Number : Int
 At : Int
 Identity : Bq
 deriving DecidableEq, Inhabited
structure Ae where
 First : Int
 Then : Int
 deriving DecidableEq, Inhabited
structure Aa where
 First : Int
 Then : Int
 deriving DecidableEq, Inhabited
structure Ar where
 name : ByteArray
 kind : Int
 deriving DecidableEq, Inhabited
structure Ah where
 Tag : Int
 Bytes : (List UInt8)
 Nested : Bool
 Elements : (List Ah)
structure A4 where
 Code : Int
 Name : ByteArray
 Exchange : Az
 Sign : Az
 Cipher : Az
 Mac : Az
 Least : Int
 Most : Int
 deriving DecidableEq, Inhabited
structure Bo where
 name : ByteArray
 kind : Int
 way : Int
 sizes : (List Int)
 strengths : (List Int)
 deriving DecidableEq, Inhabited
def Ms (l : (List Int)) : Option (Bool) :=
 some (decide ((l.length : Int) <= 400))
def Cp.j3 (more_3 : Bool) : Option (Int) :=
 cond (more_3)
  (some 2)
  (some 3)
def Cp.j2 (e : Aw) (c : An) (x13_2 : Bool) : Option (Int) :=
 cond (x13_2)
  (Cp.j3 true)
  (cond (decide (c.Kind = 3))
   (Cp.j3 (decide (e.Most < c.Number)))
   (cond (decide (c.Kind = 4))
    (Cp.j3 (decide (c.Number < e.Least)))
    (cond (decide (c.Kind = 11))
     (Cp.j3 (decide (c.Number = 1)))
     (Cp.j3 false))))
def Cp.j1 (e : Aw) (c : An) (x8_1 : Bool) : Option (Int) :=
 cond (x8_1)
  (some 0)
  (cond (decide (c.Kind = 5))
   (some 1)
   (cond (decide (c.Kind = 1))
    (Cp.j2 e c (decide (c.Kind = 1)))
    (Cp.j2 e c (decide (c.Kind = 12)))))
def Cp (e : Aw) (c : An) : Option (Int) :=
 cond (decide (c.Kind = 7))
  (Cp.j1 e c (decide (c.Kind = 7)))
  (Cp.j1 e c (decide (c.Kind = 9)))
def B1.j3 (x_3 : Int) (n_3 : Int) : Option (Int) :=
 (bD (⟨#[0, 1, 2, 2, 3, 3, 3, 3, 4, 4, 4, 4, 4, 4, 4, 4, 5, 5, 5, 5, 5, 5, 5, 5, 5, 5, 5, 5, 5, 5, 5, 5, 6, 6, 6, 6, 6, 6, 6, 6, 6, 6, 6, 6, 6, 6, 6, 6, 6, 6, 6, 6, 6, 6, 6, 6, 6, 6, 6, 6, 6, 6, 6, 6, 7, 7, 7, 7, 7, 7, 7, 7, 7, 7, 7, 7, 7, 7, 7, 7, 7, 7, 7, 7, 7, 7, 7, 7, 7, 7, 7, 7, 7, 7, 7, 7, 7, 7, 7, 7, 7, 7, 7, 7, 7, 7, 7, 7, 7, 7, 7, 7, 7, 7, 7, 7, 7, 7, 7, 7, 7, 7, 7, 7, 7, 7, 7, 7, 8, 8, 8, 8, 8, 8, 8, 8, 8, 8, 8, 8, 8, 8, 8, 8, 8, 8, 8, 8, 8, 8, 8, 8, 8, 8, 8, 8, 8, 8, 8, 8, 8, 8, 8, 8, 8, 8, 8, 8, 8, 8, 8, 8, 8, 8, 8, 8, 8, 8, 8, 8, 8, 8, 8, 8, 8, 8, 8, 8, 8, 8, 8, 8, 8, 8, 8, 8, 8, 8, 8, 8, 8, 8, 8, 8, 8, 8, 8, 8, 8, 8, 8, 8, 8, 8, 8, 8, 8, 8, 8, 8, 8, 8, 8, 8, 8, 8, 8, 8, 8, 8, 8, 8, 8, 8, 8, 8, 8, 8, 8, 8, 8, 8, 8, 8, 8, 8, 8, 8, 8, 8, 8, 8, 8, 8, 8, 8]⟩ : ByteArray) ((u8 x_3).toNat : Int)).bind fun c =>
 some (W (n_3 + (c.toNat : Int)))
def B1.j2 (x_2 : Int) (n_2 : Int) : Option (Int) :=
 cond (decide (256 <= x_2))
  ((Sk .u64 x_2 8).bind fun q_3 =>
  B1.j3 q_3 (W (n_2 + 8)))
  (B1.j3 x_2 n_2)
def B1.j1 (x_1 : Int) (n_1 : Int) : Option (Int) :=
 cond (decide (65536 <= x_1))
  ((Sk .u64 x_1 16).bind fun q_2 =>
  B1.j2 q_2 (W (n_1 + 16)))
  (B1.j2 x_1 n_1)
def B1 (x' : Int) : Option (Int) :=
 cond (decide (4294967296 <= x'))
  ((Sk .u64 x' 32).bind fun q =>
  B1.j1 q 32)
  (B1.j1 x' 0)
def G5 (x' : Int) : Option (Int) :=
 (B1 x').bind fun y =>
 some y
def Iw (x' : Int) : Option (Bool) :=
 some (!decide (x' = x'))
def G2 (x' : Int) (y : Int) : Option (Int) :=
 (Iw x').bind fun y_2 =>
 (Iw y).bind fun y_3 =>
 cond (y_2)
  (cond (y_3)
   (some 0)
   (some (-1)))
  (cond (y_3)
   (some 1)
   (cond (decide (x' < y))
    (some (-1))
    (cond (decide (y < x'))
     (some 1)
     (some 0))))
def Ez.l1 (vals : (List Int)) (x8_1 : Int) : Option (Lp (Int) (Int)) :=
 cond (decide (x8_1 < (vals.length : Int)))
  ((Cb vals x8_1).bind fun e =>
  cond (!decide (e = 0))
   (up (some e))
   (some (.next (W (x8_1 + 1)))))
  (up (
   some 0))
def Ez (vals : (List Int)) : Option (Int) :=
 C2 (fun q' => Ez.l1 vals q') 0
def E1 (r' : Aa) (s : Aa) : Option (Int) :=
 (G2 r'.First s.First).bind fun y =>
 (G2 r'.Then s.Then).bind fun y_2 =>
 (Ez ([y, y_2] : List Int)).bind fun y_3 =>
 some y_3
def Au.j3 (i_1 : Int) (j_2 : Int) (data_2 : List Aa) (x34_3 : Bool) : Option (Lp (Int × List Aa) (Lp (Int × List Aa) ((List Aa)))) :=
 cond (x34_3)
  ((Cb data_2 (W (j_2 - 1))).bind fun e_3 =>
  (Cb data_2 j_2).bind fun e_4 =>
  (Cb (De data_2 ((j_2).toNat) e_3) (W (j_2 - 1))).bind fun e_5 =>
  some (.next (W (j_2 - 1), De (De data_2 ((j_2).toNat) e_3) ((W (j_2 - 1)).toNat) e_4)))
  (up (
   some (.next (W (i_1 + 1), data_2))))
def Au.l2 (a : Int) (cmp : Aa -> Aa -> Option (Int)) (i_1 : Int) (j_2 : Int) (data_2 : List Aa) : Option (Lp (Int × List Aa) (Lp (Int × List Aa) ((List Aa)))) :=
 cond (decide (a < j_2))
  ((Cb data_2 j_2).bind fun e =>
  (Cb data_2 (W (j_2 - 1))).bind fun e_2 =>
  (cmp e e_2).bind fun y =>
  Au.j3 i_1 j_2 data_2 (decide (y < 0)))
  (Au.j3 i_1 j_2 data_2 false)
def Au.l1 (a : Int) (b : Int) (cmp : Aa -> Aa -> Option (Int)) (i_1 : Int) (data_1 : List Aa) : Option (Lp (Int × List Aa) ((List Aa))) :=
 cond (decide (i_1 < b))
  (C2 (fun q' => Au.l2 a cmp i_1 q'.1 q'.2) (i_1, data_1))
  (up (some data_1))
def Au (data : List Aa) (a : Int) (b : Int) (cmp : Aa -> Aa -> Option (Int)) : Option ((List Aa)) :=
 C2 (fun q' => Au.l1 a b cmp q'.1 q'.2) (W (a + 1), data)
def As.j3 (first : Int) (cmp : Aa -> Aa -> Option (Int)) (root_1 : Int) (data_1 : List Aa) (child_3 : Int) : Option (Lp (Int × List Aa) ((List Aa))) :=
 (Cb data_1 (W (first + root_1))).bind fun e_3 =>
 (Cb data_1 (W (first + child_3))).bind fun e_4 =>
 (cmp e_3 e_4).bind fun y_2 =>
 cond (!(decide (y_2 < 0)))
  (up (some data_1))
  ((Cb (De data_1 ((W (first + root_1)).toNat) e_4) (W (first + child_3))).bind fun e_5 =>
  some (.next (child_3, De (De data_1 ((W (first + root_1)).toNat) e_4) ((W (first + child_3)).toNat) e_3)))
def As.j2 (first : Int) (cmp : Aa -> Aa -> Option (Int)) (root_1 : Int) (data_1 : List Aa) (x40_2 : Bool) : Option (Lp (Int × List Aa) ((List Aa))) :=
 cond (x40_2)
  (As.j3 first cmp root_1 data_1 (W ((W ((W (2 * root_1)) + 1)) + 1)))
  (As.j3 first cmp root_1 data_1 (W ((W (2 * root_1)) + 1)))
def As.l1 (hi : Int) (first : Int) (cmp : Aa -> Aa -> Option (Int)) (root_1 : Int) (data_1 : List Aa) : Option (Lp (Int × List Aa) ((List Aa))) :=
 cond (decide (hi <= (W ((W (2 * root_1)) + 1))))
  (up (some data_1))
  (cond (decide ((W ((W ((W (2 * root_1)) + 1)) + 1)) < hi))
   ((Cb data_1 (W (first + (W ((W (2 * root_1)) + 1))))).bind fun e =>
   (Cb data_1 (W ((W (first + (W ((W (2 * root_1)) + 1)))) + 1))).bind fun e_2 =>
   (cmp e e_2).bind fun y =>
   As.j2 first cmp root_1 data_1 (decide (y < 0)))
   (As.j2 first cmp root_1 data_1 false))
def As (data : List Aa) (lo : Int) (hi : Int) (first : Int) (cmp : Aa -> Aa -> Option (Int)) : Option ((List Aa)) :=
 C2 (fun q' => As.l1 hi first cmp q'.1 q'.2) (lo, data)
def A6.l2 (a : Int) (cmp : Aa -> Aa -> Option (Int)) (i_2 : Int) (data_2 : List Aa) : Option (Lp (Int × List Aa) ((List Aa))) :=
 cond (decide (0 <= i_2))
  ((Cb data_2 (W (a + i_2))).bind fun e =>
  (Cb data_2 a).bind fun e_2 =>
  (Cb (De data_2 ((a).toNat) e) (W (a + i_2))).bind fun e_3 =>
  (As (De (De data_2 ((a).toNat) e) ((W (a + i_2)).toNat) e_2) 0 i_2 a cmp).bind fun y_2 =>
  some (.next (W (i_2 - 1), y_2)))
  (up (some data_2))
def A6.l1 (a : Int) (b : Int) (cmp : Aa -> Aa -> Option (Int)) (i_1 : Int) (data_1 : List Aa) : Option (Lp (Int × List Aa) ((List Aa))) :=
 cond (decide (0 <= i_1))
  ((As data_1 i_1 (W (b - a)) a cmp).bind fun y =>
  some (.next (W (i_1 - 1), y)))
  (up (
   C2 (fun q' => A6.l2 a cmp q'.1 q'.2) (W ((W (b - a)) - 1), data_1)))
def A6 (data : List Aa) (a : Int) (b : Int) (cmp : Aa -> Aa -> Option (Int)) : Option ((List Aa)) :=
 (Mb (W ((W (b - a)) - 1)) 2).bind fun q =>
 C2 (fun q' => A6.l1 a b cmp q'.1 q'.2) (q, data)
def F7 (length : Int) : Option (Int) :=
 (G5 (IntKind.wrap .u64 length)).bind fun y =>
 (X3 .u64 1 y).bind fun q =>
 some q
def Gj (r' : Int) : Option (Int × Int) :=
 (X3 .u64 r' 13).bind fun q =>
 (Sk .u64 (Qv .u64 r' q) 7).bind fun q_2 =>
 (X3 .u64 (Qv .u64 (Qv .u64 r' q) q_2) 17).bind fun q_3 =>
 some (Qv .u64 (Qv .u64 (Qv .u64 r' q) q_2) q_3, Qv .u64 (Qv .u64 (Qv .u64 r' q) q_2) q_3)
def A5.j2 (a : Int) (idx_1 : Int) (data_1 : List Aa) (y_2 : Int × Int) (other_2 : Int) : Option (Lp (Int × List Aa × Int) ((List Aa))) :=
 (Cb data_1 (W (a + other_2))).bind fun e =>
 (Cb data_1 idx_1).bind fun e_2 =>
 (Cb (De data_1 ((idx_1).toNat) e) (W (a + other_2))).bind fun e_3 =>
 some (.next (W (idx_1 + 1), De (De data_1 ((idx_1).toNat) e) ((W (a + other_2)).toNat) e_2, y_2.2))
def A5.l1 (a : Int) (b : Int) (y : Int) (idx_1 : Int) (data_1 : List Aa) (random_1 : Int) : Option (Lp (Int × List Aa × Int) ((List Aa))) :=
 (Mb (W (b - a)) 4).bind fun q_2 =>
 cond (decide (idx_1 <= (W ((W (a + (W (q_2 * 2)))) + 1))))
  ((Gj random_1).bind fun y_2 =>
  cond (decide ((W (b - a)) <= (W (aM .u64 y_2.1 (IntKind.wrap .u64 (y - 1))))))
   (A5.j2 a idx_1 data_1 y_2 (W ((W (aM .u64 y_2.1 (IntKind.wrap .u64 (y - 1)))) - (W (b - a)))))
   (A5.j2 a idx_1 data_1 y_2 (W (aM .u64 y_2.1 (IntKind.wrap .u64 (y - 1))))))
  (up (some data_1))
def A5 (data : List Aa) (a : Int) (b : Int) (cmp : Aa -> Aa -> Option (Int)) : Option ((List Aa)) :=
 cond (decide (8 <= (W (b - a))))
  ((F7 (W (b - a))).bind fun y =>
  (Mb (W (b - a)) 4).bind fun q =>
  C2 (fun q' => A5.l1 a b y q'.1 q'.2.1 q'.2.2) (W ((W (a + (W (q * 2)))) - 1), data, IntKind.wrap .u64 (W (b - a))))
  (some data)
def Dr (data : (List Aa)) (a : Int) (b : Int) (swaps : Int) (cmp : Aa -> Aa -> Option (Int)) : Option (Int × Int × Int) :=
 (Cb data b).bind fun e =>
 (Cb data a).bind fun e_2 =>
 (cmp e e_2).bind fun y =>
 cond (decide (y < 0))
  (some (b, a, W (swaps + 1)))
  (some (a, b, swaps))
def D2 (data : (List Aa)) (a : Int) (b : Int) (c : Int) (swaps : Int) (cmp : Aa -> Aa -> Option (Int)) : Option (Int × Int) :=
 (Dr data a b swaps cmp).bind fun y =>
 (Dr data y.2.1 c y.2.2 cmp).bind fun y_2 =>
 (Dr data y.1 y_2.1 y_2.2.2 cmp).bind fun y_3 =>
 some (y_3.2.1, y_3.2.2)
def Cu (data : (List Aa)) (a : Int) (swaps : Int) (cmp : Aa -> Aa -> Option (Int)) : Option (Int × Int) :=
 (D2 data (W (a - 1)) a (W (a + 1)) swaps cmp).bind fun y =>
 some (y.1, y.2)
def A8.j2 (j_2 : Int) (swaps_2 : Int) : Option (Int × Int) :=
 cond (decide (swaps_2 = 0))
  (some (j_2, 1))
  (cond (decide (swaps_2 = 12))
   (some (j_2, 2))
   (some (j_2, 0)))
def A8.j1 (data : (List Aa)) (cmp : Aa -> Aa -> Option (Int)) (i_1 : Int) (j_1 : Int) (k_1 : Int) (swaps_1 : Int) : Option (Int × Int) :=
 (D2 data i_1 j_1 k_1 swaps_1 cmp).bind fun y_4 =>
 A8.j2 y_4.1 y_4.2
def A8 (data : (List Aa)) (a : Int) (b : Int) (cmp : Aa -> Aa -> Option (Int)) : Option (Int × Int) :=
 (Mb (W (b - a)) 4).bind fun q =>
 (Mb (W (b - a)) 4).bind fun q_2 =>
 (Mb (W (b - a)) 4).bind fun q_3 =>
 cond (decide (8 <= (W (b - a))))
  (cond (decide (50 <= (W (b - a))))
   ((Cu data (W (a + (W (q * 1)))) 0 cmp).bind fun y =>
   (Cu data (W (a + (W (q_2 * 2)))) y.2 cmp).bind fun y_2 =>
   (Cu data (W (a + (W (q_3 * 3)))) y_2.2 cmp).bind fun y_3 =>
   A8.j1 data cmp y.1 y_2.1 y_3.1 y_3.2)
   (A8.j1 data cmp (W (a + (W (q * 1)))) (W (a + (W (q_2 * 2)))) (W (a + (W (q_3 * 3)))) 0))
  (A8.j2 (W (a + (W (q_2 * 2)))) 0)
def Bk.l1 (i_1 : Int) (j_1 : Int) (data_1 : List Aa) : Option (Lp (Int × Int × List Aa) ((List Aa))) :=
 cond (decide (i_1 < j_1))
  ((Cb data_1 j_1).bind fun e =>
  (Cb data_1 i_1).bind fun e_2 =>
  (Cb (De data_1 ((i_1).toNat) e) j_1).bind fun e_3 =>
  some (.next (W (i_1 + 1), W (j_1 - 1), De (De data_1 ((i_1).toNat) e) ((j_1).toNat) e_2)))
  (up (some data_1))
def Bk (data : List Aa) (a : Int) (b : Int) (cmp : Aa -> Aa -> Option (Int)) : Option ((List Aa)) :=
 C2 (fun q' => Bk.l1 q'.1 q'.2.1 q'.2.2) (a, W (b - 1), data)
def Ab.j7 (j_1 : Int) (i_7 : Int) (data_7 : List Aa) : Option (Lp (Int × Int × List Aa) (Bool × (List Aa))) :=
 some (.next (i_7, W (j_1 + 1), data_7))
def Ab.l6 (b : Int) (cmp : Aa -> Aa -> Option (Int)) (j_1 : Int) (i_2 : Int) (j_6 : Int) (data_6 : List Aa) : Option (Lp (Int × List Aa) (Lp (Int × Int × List Aa) (Bool × (List Aa)))) :=
 cond (decide (j_6 < b))
  ((Cb data_6 j_6).bind fun e_9 =>
  (Cb data_6 (W (j_6 - 1))).bind fun e_10 =>
  (cmp e_9 e_10).bind fun y_3 =>
  cond (!(decide (y_3 < 0)))
   (up (
    Ab.j7 j_1 i_2 data_6))
   ((Cb (De data_6 ((j_6).toNat) e_10) (W (j_6 - 1))).bind fun e_11 =>
   some (.next (W (j_6 + 1), De (De data_6 ((j_6).toNat) e_10) ((W (j_6 - 1)).toNat) e_9))))
  (up (
   Ab.j7 j_1 i_2 data_6))
def Ab.j5 (b : Int) (cmp : Aa -> Aa -> Option (Int)) (j_1 : Int) (i_2 : Int) (data_5 : List Aa) : Option (Lp (Int × Int × List Aa) (Bool × (List Aa))) :=
 cond (decide (2 <= (W (b - i_2))))
  (C2 (fun q' => Ab.l6 b cmp j_1 i_2 q'.1 q'.2) (W (i_2 + 1), data_5))
  (Ab.j7 j_1 i_2 data_5)
def Ab.l4 (b : Int) (cmp : Aa -> Aa -> Option (Int)) (j_1 : Int) (i_2 : Int) (j_4 : Int) (data_4 : List Aa) : Option (Lp (Int × List Aa) (Lp (Int × Int × List Aa) (Bool × (List Aa)))) :=
 cond (decide (1 <= j_4))
  ((Cb data_4 j_4).bind fun e_6 =>
  (Cb data_4 (W (j_4 - 1))).bind fun e_7 =>
  (cmp e_6 e_7).bind fun y_2 =>
  cond (!(decide (y_2 < 0)))
   (up (
    Ab.j5 b cmp j_1 i_2 data_4))
   ((Cb (De data_4 ((j_4).toNat) e_7) (W (j_4 - 1))).bind fun e_8 =>
   some (.next (W (j_4 - 1), De (De data_4 ((j_4).toNat) e_7) ((W (j_4 - 1)).toNat) e_6))))
  (up (
   Ab.j5 b cmp j_1 i_2 data_4))
def Ab.j3 (a : Int) (b : Int) (cmp : Aa -> Aa -> Option (Int)) (j_1 : Int) (data_1 : List Aa) (i_2 : Int) (x36_3 : Bool) : Option (Lp (Int) (Lp (Int × Int × List Aa) (Bool × (List Aa)))) :=
 cond (x36_3)
  (some (.next (W (i_2 + 1))))
  (up (
   cond (decide (i_2 = b))
    (up (some (true, data_1)))
    (cond (decide ((W (b - a)) < 50))
     (up (some (false, data_1)))
     ((Cb data_1 (W (i_2 - 1))).bind fun e_3 =>
     (Cb data_1 i_2).bind fun e_4 =>
     (Cb (De data_1 ((i_2).toNat) e_3) (W (i_2 - 1))).bind fun e_5 =>
     cond (decide (2 <= (W (i_2 - a))))
      (C2 (fun q' => Ab.l4 b cmp j_1 i_2 q'.1 q'.2) (W (i_2 - 1), De (De data_1 ((i_2).toNat) e_3) ((W (i_2 - 1)).toNat) e_4))
      (Ab.j5 b cmp j_1 i_2 (De (De data_1 ((i_2).toNat) e_3) ((W (i_2 - 1)).toNat) e_4))))))
def Ab.l2 (a : Int) (b : Int) (cmp : Aa -> Aa -> Option (Int)) (j_1 : Int) (data_1 : List Aa) (i_2 : Int) : Option (Lp (Int) (Lp (Int × Int × List Aa) (Bool × (List Aa)))) :=
 cond (decide (i_2 < b))
  ((Cb data_1 i_2).bind fun e =>
  (Cb data_1 (W (i_2 - 1))).bind fun e_2 =>
  (cmp e e_2).bind fun y =>
  Ab.j3 a b cmp j_1 data_1 i_2 (!(decide (y < 0))))
  (Ab.j3 a b cmp j_1 data_1 i_2 false)
def Ab.l1 (a : Int) (b : Int) (cmp : Aa -> Aa -> Option (Int)) (i_1 : Int) (j_1 : Int) (data_1 : List Aa) : Option (Lp (Int × Int × List Aa) (Bool × (List Aa))) :=
 cond (decide (j_1 < 5))
  (C2 (fun q' => Ab.l2 a b cmp j_1 data_1 q') i_1)
  (up (
   some (false, data_1)))
def Ab (data : List Aa) (a : Int) (b : Int) (cmp : Aa -> Aa -> Option (Int)) : Option (Bool × (List Aa)) :=
 C2 (fun q' => Ab.l1 a b cmp q'.1 q'.2.1 q'.2.2) (W (a + 1), 0, data)
def Ap.j5 (data_1 : List Aa) (i_2 : Int) (j_4 : Int) (x65_5 : Bool) : Option (Lp (Int) (Lp (Int × Int × List Aa) (Int × (List Aa)))) :=
 cond (x65_5)
  (some (.next (W (j_4 - 1))))
  (up (
   cond (decide (j_4 < i_2))
    (up (
     some (i_2, data_1)))
    ((Cb data_1 j_4).bind fun e_8 =>
    (Cb data_1 i_2).bind fun e_9 =>
    (Cb (De data_1 ((i_2).toNat) e_8) j_4).bind fun e_10 =>
    some (.next (W (i_2 + 1), W (j_4 - 1), De (De data_1 ((i_2).toNat) e_8) ((j_4).toNat) e_9)))))
def Ap.l4 (a : Int) (cmp : Aa -> Aa -> Option (Int)) (data_1 : List Aa) (i_2 : Int) (j_4 : Int) : Option (Lp (Int) (Lp (Int × Int × List Aa) (Int × (List Aa)))) :=
 cond (decide (i_2 <= j_4))
  ((Cb data_1 a).bind fun e_6 =>
  (Cb data_1 j_4).bind fun e_7 =>
  (cmp e_6 e_7).bind fun y_2 =>
  Ap.j5 data_1 i_2 j_4 (decide (y_2 < 0)))
  (Ap.j5 data_1 i_2 j_4 false)
def Ap.j3 (a : Int) (cmp : Aa -> Aa -> Option (Int)) (j_1 : Int) (data_1 : List Aa) (i_2 : Int) (x47_3 : Bool) : Option (Lp (Int) (Lp (Int × Int × List Aa) (Int × (List Aa)))) :=
 cond (x47_3)
  (some (.next (W (i_2 + 1))))
  (up (
   C2 (fun q' => Ap.l4 a cmp data_1 i_2 q') j_1))
def Ap.l2 (a : Int) (cmp : Aa -> Aa -> Option (Int)) (j_1 : Int) (data_1 : List Aa) (i_2 : Int) : Option (Lp (Int) (Lp (Int × Int × List Aa) (Int × (List Aa)))) :=
 cond (decide (i_2 <= j_1))
  ((Cb data_1 a).bind fun e_4 =>
  (Cb data_1 i_2).bind fun e_5 =>
  (cmp e_4 e_5).bind fun y =>
  Ap.j3 a cmp j_1 data_1 i_2 (!(decide (y < 0))))
  (Ap.j3 a cmp j_1 data_1 i_2 false)
def Ap.l1 (a : Int) (cmp : Aa -> Aa -> Option (Int)) (i_1 : Int) (j_1 : Int) (data_1 : List Aa) : Option (Lp (Int × Int × List Aa) (Int × (List Aa))) :=
 C2 (fun q' => Ap.l2 a cmp j_1 data_1 q') i_1
def Ap (data : List Aa) (a : Int) (b : Int) (pivot : Int) (cmp : Aa -> Aa -> Option (Int)) : Option (Int × (List Aa)) :=
 (Cb data pivot).bind fun e =>
 (Cb data a).bind fun e_2 =>
 (Cb (De data ((a).toNat) e) pivot).bind fun e_3 =>
 C2 (fun q' => Ap.l1 a cmp q'.1 q'.2.1 q'.2.2) (W (a + 1), W (b - 1), De (De data ((a).toNat) e) ((pivot).toNat) e_2)
def Ai.j9 (a : Int) (data_5 : List Aa) (i_6 : Int) (j_8 : Int) (x139_9 : Bool) : Option (Lp (Int) (Lp (Int × Int × List Aa) (Int × Bool × (List Aa)))) :=
 cond (x139_9)
  (some (.next (W (j_8 - 1))))
  (up (
   cond (decide (j_8 < i_6))
    (up (
     (Cb data_5 a).bind fun e_21 =>
     (Cb data_5 j_8).bind fun e_22 =>
     (Cb (De data_5 ((j_8).toNat) e_21) a).bind fun e_23 =>
     some (j_8, false, De (De data_5 ((j_8).toNat) e_21) ((a).toNat) e_22)))
    ((Cb data_5 j_8).bind fun e_18 =>
    (Cb data_5 i_6).bind fun e_19 =>
    (Cb (De data_5 ((i_6).toNat) e_18) j_8).bind fun e_20 =>
    some (.next (W (i_6 + 1), W (j_8 - 1), De (De data_5 ((i_6).toNat) e_18) ((j_8).toNat) e_19)))))
def Ai.l8 (a : Int) (cmp : Aa -> Aa -> Option (Int)) (data_5 : List Aa) (i_6 : Int) (j_8 : Int) : Option (Lp (Int) (Lp (Int × Int × List Aa) (Int × Bool × (List Aa)))) :=
 cond (decide (i_6 <= j_8))
  ((Cb data_5 j_8).bind fun e_16 =>
  (Cb data_5 a).bind fun e_17 =>
  (cmp e_16 e_17).bind fun y_4 =>
  Ai.j9 a data_5 i_6 j_8 (!(decide (y_4 < 0))))
  (Ai.j9 a data_5 i_6 j_8 false)
def Ai.j7 (a : Int) (cmp : Aa -> Aa -> Option (Int)) (j_5 : Int) (data_5 : List Aa) (i_6 : Int) (x120_7 : Bool) : Option (Lp (Int) (Lp (Int × Int × List Aa) (Int × Bool × (List Aa)))) :=
 cond (x120_7)
  (some (.next (W (i_6 + 1))))
  (up (
   C2 (fun q' => Ai.l8 a cmp data_5 i_6 q') j_5))
def Ai.l6 (a : Int) (cmp : Aa -> Aa -> Option (Int)) (j_5 : Int) (data_5 : List Aa) (i_6 : Int) : Option (Lp (Int) (Lp (Int × Int × List Aa) (Int × Bool × (List Aa)))) :=
 cond (decide (i_6 <= j_5))
  ((Cb data_5 i_6).bind fun e_14 =>
  (Cb data_5 a).bind fun e_15 =>
  (cmp e_14 e_15).bind fun y_3 =>
  Ai.j7 a cmp j_5 data_5 i_6 (decide (y_3 < 0)))
  (Ai.j7 a cmp j_5 data_5 i_6 false)
def Ai.l5 (a : Int) (cmp : Aa -> Aa -> Option (Int)) (i_5 : Int) (j_5 : Int) (data_5 : List Aa) : Option (Lp (Int × Int × List Aa) (Int × Bool × (List Aa))) :=
 C2 (fun q' => Ai.l6 a cmp j_5 data_5 q') i_5
def Ai.j4 (data : List Aa) (a : Int) (pivot : Int) (cmp : Aa -> Aa -> Option (Int)) (e : Aa) (e_2 : Aa) (i_1 : Int) (j_3 : Int) (x66_4 : Bool) : Option (Lp (Int) (Int × Bool × (List Aa))) :=
 cond (x66_4)
  (some (.next (W (j_3 - 1))))
  (up (
   cond (decide (j_3 < i_1))
    ((Cb (De (De data ((a).toNat) e) ((pivot).toNat) e_2) a).bind fun e_8 =>
    (Cb (De (De data ((a).toNat) e) ((pivot).toNat) e_2) j_3).bind fun e_9 =>
    (Cb (De (De (De data ((a).toNat) e) ((pivot).toNat) e_2) ((j_3).toNat) e_8) a).bind fun e_10 =>
    some (j_3, true, De (De (De (De data ((a).toNat) e) ((pivot).toNat) e_2) ((j_3).toNat) e_8) ((a).toNat) e_9))
    ((Cb (De (De data ((a).toNat) e) ((pivot).toNat) e_2) j_3).bind fun e_11 =>
    (Cb (De (De data ((a).toNat) e) ((pivot).toNat) e_2) i_1).bind fun e_12 =>
    (Cb (De (De (De data ((a).toNat) e) ((pivot).toNat) e_2) ((i_1).toNat) e_11) j_3).bind fun e_13 =>
    C2 (fun q' => Ai.l5 a cmp q'.1 q'.2.1 q'.2.2) (W (i_1 + 1), W (j_3 - 1), De (De (De (De data ((a).toNat) e) ((pivot).toNat) e_2) ((i_1).toNat) e_11) ((j_3).toNat) e_12))))
def Ai.l3 (data : List Aa) (a : Int) (pivot : Int) (cmp : Aa -> Aa -> Option (Int)) (e : Aa) (e_2 : Aa) (i_1 : Int) (j_3 : Int) : Option (Lp (Int) (Int × Bool × (List Aa))) :=
 cond (decide (i_1 <= j_3))
  ((Cb (De (De data ((a).toNat) e) ((pivot).toNat) e_2) j_3).bind fun e_6 =>
  (Cb (De (De data ((a).toNat) e) ((pivot).toNat) e_2) a).bind fun e_7 =>
  (cmp e_6 e_7).bind fun y_2 =>
  Ai.j4 data a pivot cmp e e_2 i_1 j_3 (!(decide (y_2 < 0))))
  (Ai.j4 data a pivot cmp e e_2 i_1 j_3 false)
def Ai.j2 (data : List Aa) (a : Int) (b : Int) (pivot : Int) (cmp : Aa -> Aa -> Option (Int)) (e : Aa) (e_2 : Aa) (i_1 : Int) (x47_2 : Bool) : Option (Lp (Int) (Int × Bool × (List Aa))) :=
 cond (x47_2)
  (some (.next (W (i_1 + 1))))
  (up (
   C2 (fun q' => Ai.l3 data a pivot cmp e e_2 i_1 q') (W (b - 1))))
def Ai.l1 (data : List Aa) (a : Int) (b : Int) (pivot : Int) (cmp : Aa -> Aa -> Option (Int)) (e : Aa) (e_2 : Aa) (i_1 : Int) : Option (Lp (Int) (Int × Bool × (List Aa))) :=
 cond (decide (i_1 <= (W (b - 1))))
  ((Cb (De (De data ((a).toNat) e) ((pivot).toNat) e_2) i_1).bind fun e_4 =>
  (Cb (De (De data ((a).toNat) e) ((pivot).toNat) e_2) a).bind fun e_5 =>
  (cmp e_4 e_5).bind fun y =>
  Ai.j2 data a b pivot cmp e e_2 i_1 (decide (y < 0)))
  (Ai.j2 data a b pivot cmp e e_2 i_1 false)
def Ai (data : List Aa) (a : Int) (b : Int) (pivot : Int) (cmp : Aa -> Aa -> Option (Int)) : Option (Int × Bool × (List Aa)) :=
 (Cb data pivot).bind fun e =>
 (Cb data a).bind fun e_2 =>
 (Cb (De data ((a).toNat) e) pivot).bind fun e_3 =>
 C2 (fun q' => Ai.l1 data a b pivot cmp e e_2 q') (W (a + 1))
def Ak.j6 (rec : (List Aa) -> Int -> Int -> Int -> Option ((List Aa))) (cmp : Aa -> Aa -> Option (Int)) (a_1 : Int) (b_1 : Int) (wasBalanced_1 : Bool) (wasPartitioned_1 : Bool) (limit_2 : Int) (pivot_3 : Int) (data_5 : List Aa) (x97_6 : Bool) : Option (Lp (Int × Int × Int × Bool × Bool × List Aa) ((List Aa))) :=
 cond (x97_6)
  ((Ap data_5 a_1 b_1 pivot_3 cmp).bind fun y_8 =>
  some (.next (y_8.1, b_1, limit_2, wasBalanced_1, wasPartitioned_1, y_8.2)))
  ((Ai data_5 a_1 b_1 pivot_3 cmp).bind fun y_9 =>
  (Mb (W (b_1 - a_1)) 8).bind fun q =>
  cond (decide ((W (y_9.1 - a_1)) < (W (b_1 - y_9.1))))
   ((rec y_9.2.2 a_1 y_9.1 limit_2).bind fun y_10 =>
   some (.next (W (y_9.1 + 1), b_1, limit_2, decide (q <= (W (y_9.1 - a_1))), y_9.2.1, y_10)))
   ((rec y_9.2.2 (W (y_9.1 + 1)) b_1 limit_2).bind fun y_11 =>
   some (.next (a_1, y_9.1, limit_2, decide (q <= (W (b_1 - y_9.1))), y_9.2.1, y_11))))
def Ak.j5 (rec : (List Aa) -> Int -> Int -> Int -> Option ((List Aa))) (cmp : Aa -> Aa -> Option (Int)) (a_1 : Int) (b_1 : Int) (wasBalanced_1 : Bool) (wasPartitioned_1 : Bool) (limit_2 : Int) (pivot_3 : Int) (data_5 : List Aa) : Option (Lp (Int × Int × Int × Bool × Bool × List Aa) ((List Aa))) :=
 cond (decide (0 < a_1))
  ((Cb data_5 (W (a_1 - 1))).bind fun e =>
  (Cb data_5 pivot_3).bind fun e_2 =>
  (cmp e e_2).bind fun y_7 =>
  Ak.j6 rec cmp a_1 b_1 wasBalanced_1 wasPartitioned_1 limit_2 pivot_3 data_5 (!(decide (y_7 < 0))))
  (Ak.j6 rec cmp a_1 b_1 wasBalanced_1 wasPartitioned_1 limit_2 pivot_3 data_5 false)
def Ak.j4 (rec : (List Aa) -> Int -> Int -> Int -> Option ((List Aa))) (cmp : Aa -> Aa -> Option (Int)) (a_1 : Int) (b_1 : Int) (wasBalanced_1 : Bool) (wasPartitioned_1 : Bool) (limit_2 : Int) (pivot_3 : Int) (data_3 : List Aa) (x75_4 : Bool) : Option (Lp (Int × Int × Int × Bool × Bool × List Aa) ((List Aa))) :=
 cond (x75_4)
  ((Ab data_3 a_1 b_1 cmp).bind fun y_6 =>
  cond (y_6.1)
   (up (some y_6.2))
   (Ak.j5 rec cmp a_1 b_1 wasBalanced_1 wasPartitioned_1 limit_2 pivot_3 y_6.2))
  (Ak.j5 rec cmp a_1 b_1 wasBalanced_1 wasPartitioned_1 limit_2 pivot_3 data_3)
def Ak.j3 (rec : (List Aa) -> Int -> Int -> Int -> Option ((List Aa))) (cmp : Aa -> Aa -> Option (Int)) (a_1 : Int) (b_1 : Int) (wasBalanced_1 : Bool) (wasPartitioned_1 : Bool) (limit_2 : Int) (pivot_3 : Int) (hint_3 : Int) (data_3 : List Aa) : Option (Lp (Int × Int × Int × Bool × Bool × List Aa) ((List Aa))) :=
 cond (wasBalanced_1)
  (cond (wasPartitioned_1)
   (Ak.j4 rec cmp a_1 b_1 wasBalanced_1 wasPartitioned_1 limit_2 pivot_3 data_3 (decide (hint_3 = 1)))
   (Ak.j4 rec cmp a_1 b_1 wasBalanced_1 wasPartitioned_1 limit_2 pivot_3 data_3 false))
  (Ak.j4 rec cmp a_1 b_1 wasBalanced_1 wasPartitioned_1 limit_2 pivot_3 data_3 false)
def Ak.j2 (rec : (List Aa) -> Int -> Int -> Int -> Option ((List Aa))) (cmp : Aa -> Aa -> Option (Int)) (a_1 : Int) (b_1 : Int) (wasBalanced_1 : Bool) (wasPartitioned_1 : Bool) (limit_2 : Int) (data_2 : List Aa) : Option (Lp (Int × Int × Int × Bool × Bool × List Aa) ((List Aa))) :=
 (A8 data_2 a_1 b_1 cmp).bind fun y_4 =>
 cond (decide (y_4.2 = 2))
  ((Bk data_2 a_1 b_1 cmp).bind fun y_5 =>
  Ak.j3 rec cmp a_1 b_1 wasBalanced_1 wasPartitioned_1 limit_2 (W ((W (b_1 - 1)) - (W (y_4.1 - a_1)))) 1 y_5)
  (Ak.j3 rec cmp a_1 b_1 wasBalanced_1 wasPartitioned_1 limit_2 y_4.1 y_4.2 data_2)
def Ak.l1 (rec : (List Aa) -> Int -> Int -> Int -> Option ((List Aa))) (cmp : Aa -> Aa -> Option (Int)) (a_1 : Int) (b_1 : Int) (limit_1 : Int) (wasBalanced_1 : Bool) (wasPartitioned_1 : Bool) (data_1 : List Aa) : Option (Lp (Int × Int × Int × Bool × Bool × List Aa) ((List Aa))) :=
 cond (decide ((W (b_1 - a_1)) <= 12))
  ((Au data_1 a_1 b_1 cmp).bind fun y =>
  up (some y))
  (cond (decide (limit_1 = 0))
   ((A6 data_1 a_1 b_1 cmp).bind fun y_2 =>
   up (some y_2))
   (cond (!wasBalanced_1)
    ((A5 data_1 a_1 b_1 cmp).bind fun y_3 =>
    Ak.j2 rec cmp a_1 b_1 wasBalanced_1 wasPartitioned_1 (W (limit_1 - 1)) y_3)
    (Ak.j2 rec cmp a_1 b_1 wasBalanced_1 wasPartitioned_1 limit_1 data_1)))
def Ak.F (rec : (List Aa) -> Int -> Int -> Int -> Option ((List Aa))) (data : List Aa) (a : Int) (b : Int) (limit : Int) (cmp : Aa -> Aa -> Option (Int)) : Option ((List Aa)) :=
 C2 (fun q' => Ak.l1 rec cmp q'.1 q'.2.1 q'.2.2.1 q'.2.2.2.1 q'.2.2.2.2.1 q'.2.2.2.2.2) (a, b, limit, true, true, data)
def Ak (data : List Aa) (a : Int) (b : Int) (limit : Int) (cmp : Aa -> Aa -> Option (Int)) : Option ((List Aa)) := Vx (fun rec (x : List Aa × Int × Int × Int) => Ak.F (fun data a b limit => rec (data, a, b, limit)) x.1 x.2.1 x.2.2.1 x.2.2.2 cmp) (data, a, b, limit)
def Ed (x' : List Aa) (cmp : Aa -> Aa -> Option (Int)) : Option ((List Aa)) :=
 (G5 (IntKind.wrap .u64 (x'.length : Int))).bind fun y =>
 (Ak x' 0 (x'.length : Int) y cmp).bind fun y_2 =>
 some y_2
def Bf.j3 (k2_2 : Int) (k_3 : Int) (s_3 : List Aa) : Option (Lp (Int × Int × List Aa) (Lp (Int) ((List Aa)))) :=
 some (.next (k_3, W (k2_2 + 1), s_3))
def Bf.l2 (s : List Aa) (k_1 : Int) (k_2 : Int) (k2_2 : Int) (s_2 : List Aa) : Option (Lp (Int × Int × List Aa) (Lp (Int) ((List Aa)))) :=
 cond (decide (k2_2 < (((((s.length : Int) : Int).toNat - (k_1 : Int).toNat) : Nat) : Int)))
  ((Cb ((s_2.drop ((k_1 : Int).toNat)).take (((s.length : Int) : Int).toNat - (k_1 : Int).toNat)) k2_2).bind fun e_3 =>
  (Cb ((s_2.drop ((k_1 : Int).toNat)).take (((s.length : Int) : Int).toNat - (k_1 : Int).toNat)) (W (k2_2 - 1))).bind fun e_4 =>
  cond (!decide (e_3 = e_4))
   ((Cb s_2 k_2).bind fun e_5 =>
   Bf.j3 k2_2 (W (k_2 + 1)) (De s_2 ((k_2).toNat) e_3))
   (Bf.j3 k2_2 k_2 s_2))
  (up (
   (dF s_2 k_2 (s_2.length : Int)).bind fun l_2 =>
   (iI s_2 ((k_2 : Int).toNat) (((s_2.length : Int) : Int).toNat - (k_2 : Int).toNat) ((Aa.mk 0 0) : Aa)).bind fun l_3 =>
   (dF l_3 0 k_2).bind fun l_4 =>
   up (some (l_3.take ((k_2 : Int).toNat - (0 : Int).toNat)))))
def Bf.l1 (s : List Aa) (k_1 : Int) : Option (Lp (Int) ((List Aa))) :=
 cond (decide (k_1 < (s.length : Int)))
  ((Cb s k_1).bind fun e =>
  (Cb s (W (k_1 - 1))).bind fun e_2 =>
  cond (decide (e = e_2))
   ((dF s k_1 (s.length : Int)).bind fun l =>
   C2 (fun q' => Bf.l2 s k_1 q'.1 q'.2.1 q'.2.2) (k_1, 1, s))
   (some (.next (W (k_1 + 1)))))
  (up (
   some s))
def Bf (s : List Aa) : Option ((List Aa)) :=
 cond (decide ((s.length : Int) < 2))
  (some s)
  (C2 (fun q' => Bf.l1 s q') 1)
def C4.l2 (y_2 : (List Aa)) (x25_2 : Int) (out_2 : List Ae) : Option (Lp (Int × List Ae) ((List Ae))) :=
 cond (decide (x25_2 < (y_2.length : Int)))
  ((Cb y_2 x25_2).bind fun e_2 =>
  (Hz 32 out_2 ([(Ae.mk e_2.First e_2.Then)] : List Ae)).bind fun l_3 =>
  some (.next (W (x25_2 + 1), l_3)))
  (up (
   some out_2))
def C4.l1 (l : (List Ae)) (x11_1 : Int) (rows_1 : List Aa) : Option (Lp (Int × List Aa) ((List Ae))) :=
 cond (decide (x11_1 < (l.length : Int)))
  ((Cb l x11_1).bind fun e =>
  (Hz 32 rows_1 ([(Aa.mk e.First e.Then)] : List Aa)).bind fun l_2 =>
  some (.next (W (x11_1 + 1), l_2)))
  (up (
   (Ed rows_1 (fun x0 x1 => E1 x0 x1)).bind fun y =>
   (Bf y).bind fun y_2 =>
   C2 (fun q' => C4.l2 y_2 q'.1 q'.2) (0, ([] : List Ae))))
def C4 (l : (List Ae)) : Option ((List Ae)) :=
 C2 (fun q' => C4.l1 l q'.1 q'.2) (0, ([] : List Aa))
def Gc.l1 (l : (List Int)) (i_1 : Int) (out_1 : List Ae) : Option (Lp (Int × List Ae) ((List Ae))) :=
 cond (decide (i_1 < (l.length : Int)))
  ((Cb l (W (i_1 - 1))).bind fun e =>
  (Cb l i_1).bind fun e_2 =>
  (Hz 32 out_1 ([(Ae.mk e e_2)] : List Ae)).bind fun l_2 =>
  some (.next (W (i_1 + 1), l_2)))
  (up (
   (C4 out_1).bind fun y =>
   some y))
def Gc (l : (List Int)) : Option ((List Ae)) :=
 C2 (fun q' => Gc.l1 l q'.1 q'.2) (1, ([] : List Ae))
def I3 : Option (Bool) :=
 (Cp (Aw.mk (⟨#[]⟩ : ByteArray) 0 0 ([] : (List Int)) false ([] : (List Bq)) ([] : (List Int)) ([] : (List Int)) false) (An.mk 0 5 0 0 (Bq.mk (Az.mk 0 0) 0 ([] : (List Am))))).bind fun y =>
 cond (decide (y = 1))
  ((Cp (Aw.mk (⟨#[]⟩ : ByteArray) 0 0 ([] : (List Int)) false ([] : (List Bq)) ([] : (List Int)) ([] : (List Int)) false) (An.mk 0 2 0 0 (Bq.mk (Az.mk 0 0) 0 ([] : (List Am))))).bind fun y_2 =>
  cond (decide (y_2 = 3))
   ((Gc ([2, 0, 1] : List Int)).bind fun y_3 =>
   some (decide ((y_3.length : Int) = 2)))
   (some false))
  (some false)
def N4 (l : (List Int)) : Option (Ac) :=
 some (Ac.mk l 0)
def Ng (n : Int) (k : Int) : Option (Int) :=
 cond (decide (k < 1))
  (some 0)
  ((V6 n k).bind fun q =>
  (V6 (W (q + k)) k).bind fun q_2 =>
  some q_2)
def Ct (d : Ac) (n : Int) : Option (Int × Ac) :=
 cond (decide ((d.L.length : Int) <= d.At))
  (some (0, d))
  ((Cb d.L (W ((W (d.At + 1)) - 1))).bind fun e =>
  (Ng e n).bind fun y =>
  some (y, (Ac.mk d.L (W (d.At + 1)))))
def Gy (d : Ac) (l : (List Int)) : Option (Int × Ac) :=
 (Ct d (l.length : Int)).bind fun y =>
 (Cb l y.1).bind fun e =>
 some (e, y.2)
def Hx (d : Ac) (n : Int) : Option (Bool × Ac) :=
 (Ct d n).bind fun y =>
 some (decide (y.1 = (W (n - 1))), y.2)
def Po : Option (Az) :=
 some (Az.mk 5 2048)
def Lg (c : Am) : Option (Am) :=
 (Hz 16 ([] : List ByteArray) c.Names).bind fun l =>
 some (Am.mk c.Serial c.Issuer c.Subject c.Key c.KeyId c.Hash c.From c.To c.Authority c.Path l c.Seal)
def C9.j3 (i_2 : Int) (x27_3 : Bool) : Option (Lp (Int) (Bool)) :=
 cond (x27_3)
  (up (some false))
  (some (.next (W (i_2 + 1))))
def C9.l2 (s : ByteArray) (i_2 : Int) : Option (Lp (Int) (Bool)) :=
 cond (decide (i_2 < (s.size : Int)))
  ((bD s i_2).bind fun c =>
  cond (decide ((c.toNat : Int) < 33))
   (C9.j3 i_2 true)
   ((bD s i_2).bind fun c_2 =>
   C9.j3 i_2 (decide (126 < (c_2.toNat : Int)))))
  (up (
   some true))
def C9.j1 (s : ByteArray) (x11_1 : Bool) : Option (Bool) :=
 cond (x11_1)
  (some false)
  (C2 (fun q' => C9.l2 s q') 0)
def C9 (s : ByteArray) : Option (Bool) :=
 cond (decide ((s.size : Int) < 1))
  (C9.j1 s true)
  (C9.j1 s (decide (32 < (s.size : Int))))
def Ek.j1 (b : Int) (x3_1 : Bool) : Option (Int) :=
 cond (x3_1)
  (some 0)
  (cond (decide (b < 1024))
   (some 56)
   (cond (decide (b < 2048))
    (some 80)
    (cond (decide (b < 3072))
     (some 112)
     (cond (decide (b < 7680))
      (some 128)
      (cond (decide (b < 15360))
       (some 192)
       (some 256))))))
def Ek (b : Int) : Option (Int) :=
 cond (decide (b < 512))
  (Ek.j1 b true)
  (Ek.j1 b (decide (16384 < b)))
def Eh.l1 (b : Int) (sizes : (List Int)) (strengths : (List Int)) (i_1 : Int) : Option (Lp (Int) (Int)) :=
 cond (decide (i_1 < (sizes.length : Int)))
  ((Cb sizes i_1).bind fun e =>
  cond (decide (e = b))
   ((Cb strengths i_1).bind fun e_2 =>
   up (some e_2))
   (some (.next (W (i_1 + 1)))))
  (up (
   some 0))
def Eh (b : Int) (sizes : (List Int)) (strengths : (List Int)) : Option (Int) :=
 C2 (fun q' => Eh.l1 b sizes strengths q') 0
def Dp.j2 (alg : Int) (x14_2 : Bool) : Option (Int) :=
 cond (x14_2)
  (some 256)
  (cond (decide (alg = 19))
   (some 64)
   (cond (decide (alg = 20))
    (some 80)
    (some 0)))
def Dp.j1 (alg : Int) (x8_1 : Bool) : Option (Int) :=
 cond (x8_1)
  (some 128)
  (cond (decide (alg = 4))
   (some 192)
   (cond (decide (alg = 18))
    (Dp.j2 alg (decide (alg = 18)))
    (Dp.j2 alg (decide (alg = 22)))))
def Dp (alg : Int) : Option (Int) :=
 cond (decide (alg = 1))
  (some 18)
  (cond (decide (alg = 2))
   (some 60)
   (cond (decide (alg = 3))
    (Dp.j1 alg (decide (alg = 3)))
    (cond (decide (alg = 8))
     (Dp.j1 alg (decide (alg = 8)))
     (Dp.j1 alg (decide (alg = 21))))))
def Br.j3 (u : Az) (x35_3 : Bool) : Option (Int) :=
 cond (x35_3)
  ((Mb u.Bits 2).bind fun q =>
  some q)
  (some 0)
def Br.j4 (u : Az) (x62_4 : Bool) : Option (Int) :=
 cond (x62_4)
  ((Eh u.Bits ([128, 256] : List Int) ([128, 256] : List Int)).bind fun y_6 =>
  some y_6)
  ((Dp u.Alg).bind fun y_7 =>
  (Eh u.Bits ([0] : List Int) ([y_7] : List Int)).bind fun y_8 =>
  some y_8)
def Br.j2 (u : Az) (x15_2 : Bool) : Option (Int) :=
 cond (x15_2)
  (cond (decide (u.Bits = 160))
   (Br.j3 u true)
   (cond (decide (u.Bits = 224))
    (Br.j3 u true)
    (cond (decide (u.Bits = 256))
     (Br.j3 u true)
     (cond (decide (u.Bits = 384))
      (Br.j3 u true)
      (Br.j3 u (decide (u.Bits = 521)))))))
  (cond (decide (u.Alg = 9))
   ((Eh u.Bits ([44, 65, 87] : List Int) ([128, 192, 256] : List Int)).bind fun y_2 =>
   some y_2)
   (cond (decide (u.Alg = 13))
    ((Eh u.Bits ([512, 768, 1024] : List Int) ([128, 192, 256] : List Int)).bind fun y_3 =>
    some y_3)
    (cond (decide (u.Alg = 14))
     ((Eh u.Bits ([40, 128] : List Int) ([40, 60] : List Int)).bind fun y_4 =>
     some y_4)
     (cond (decide (u.Alg = 15))
      ((Eh u.Bits ([112, 168] : List Int) ([80, 112] : List Int)).bind fun y_5 =>
      some y_5)
      (cond (decide (u.Alg = 16))
       (Br.j4 u (decide (u.Alg = 16)))
       (Br.j4 u (decide (u.Alg = 17))))))))
def Br.j1 (u : Az) (x8_1 : Bool) : Option (Int) :=
 cond (x8_1)
  ((Ek u.Bits).bind fun y =>
  some y)
  (cond (decide (u.Alg = 7))
   (Br.j2 u (decide (u.Alg = 7)))
   (Br.j2 u (decide (u.Alg = 12))))
def Br (u : Az) : Option (Int) :=
 cond (decide (u.Alg = 5))
  (Br.j1 u (decide (u.Alg = 5)))
  (cond (decide (u.Alg = 6))
   (Br.j1 u (decide (u.Alg = 6)))
   (cond (decide (u.Alg = 10))
    (Br.j1 u (decide (u.Alg = 10)))
    (Br.j1 u (decide (u.Alg = 11)))))
def I0 (u : Az) : Option (Bool) :=
 (Br u).bind fun y =>
 some (decide (0 < y))
def La : Option ((List Ar)) :=
 some ([(Ar.mk (⟨#[]⟩ : ByteArray) 0), (Ar.mk (⟨#[109, 100, 53]⟩ : ByteArray) 1), (Ar.mk (⟨#[115, 104, 97, 49]⟩ : ByteArray) 1), (Ar.mk (⟨#[115, 104, 97, 50, 53, 54]⟩ : ByteArray) 1), (Ar.mk (⟨#[115, 104, 97, 51, 56, 52]⟩ : ByteArray) 1), (Ar.mk (⟨#[114, 115, 97]⟩ : ByteArray) 2), (Ar.mk (⟨#[100, 115, 97]⟩ : ByteArray) 2), (Ar.mk (⟨#[101, 99, 100, 115, 97]⟩ : ByteArray) 2), (Ar.mk (⟨#[101, 100, 50, 53, 53, 49, 57]⟩ : ByteArray) 2), (Ar.mk (⟨#[109, 108, 100, 115, 97]⟩ : ByteArray) 2), (Ar.mk (⟨#[114, 115, 97, 107, 120]⟩ : ByteArray) 3), (Ar.mk (⟨#[100, 104, 101]⟩ : ByteArray) 3), (Ar.mk (⟨#[101, 99, 100, 104, 101]⟩ : ByteArray) 3), (Ar.mk (⟨#[109, 108, 107, 101, 109]⟩ : ByteArray) 3), (Ar.mk (⟨#[114, 99, 52]⟩ : ByteArray) 4), (Ar.mk (⟨#[100, 101, 115, 51]⟩ : ByteArray) 4), (Ar.mk (⟨#[97, 101, 115, 99, 98, 99]⟩ : ByteArray) 4), (Ar.mk (⟨#[97, 101, 115, 103, 99, 109]⟩ : ByteArray) 4), (Ar.mk (⟨#[99, 104, 97, 99, 104, 97]⟩ : ByteArray) 4), (Ar.mk (⟨#[104, 109, 97, 99, 109, 100, 53]⟩ : ByteArray) 5), (Ar.mk (⟨#[104, 109, 97, 99, 115, 104, 97, 49]⟩ : ByteArray) 5), (Ar.mk (⟨#[104, 109, 97, 99, 115, 104, 97, 50, 53, 54]⟩ : ByteArray) 5), (Ar.mk (⟨#[97, 101, 97, 100]⟩ : ByteArray) 5)] : List Ar)
def Fk.j1 (alg : Int) (x8_1 : Bool) : Option (Int) :=
 cond (x8_1)
  (some 0)
  ((La).bind fun y =>
  (Cb y alg).bind fun e =>
  some e.kind)
def Fk (alg : Int) : Option (Int) :=
 cond (decide (alg < 1))
  (Fk.j1 alg true)
  (Fk.j1 alg (decide (22 < alg)))
def H5 (u : Az) : Option (Bool) :=
 (I0 u).bind fun y =>
 cond (y)
  ((Fk u.Alg).bind fun y_2 =>
  some (decide (y_2 = 2)))
  (some false)
def Be.j5 (i_4 : Int) (x123_5 : Bool) : Option (Lp (Int) (Int)) :=
 cond (x123_5)
  (up (some 9))
  (some (.next (W (i_4 + 1))))
def Be.j6 (x145_6 : Bool) : Option (Int) :=
 cond (x145_6)
  (some 9)
  (some 0)
def Be.l4 (c : Am) (i_4 : Int) : Option (Lp (Int) (Int)) :=
 cond (decide (i_4 < (c.Names.length : Int)))
  ((Cb c.Names i_4).bind fun e =>
  (C9 e).bind fun y_6 =>
  cond (!y_6)
   (Be.j5 i_4 true)
   (cond (decide (0 < i_4))
    ((Cb c.Names (W (i_4 - 1))).bind fun e_2 =>
    Be.j5 i_4 (!gH (Ny e_2) (Ny e)))
    (Be.j5 i_4 false)))
  (up (
   cond (decide (c.Seal.Key < 0))
    (Be.j6 true)
    (cond (decide (2147483648 < c.Seal.Key))
     (Be.j6 true)
     (cond (decide (c.Seal.Sum < 0))
      (Be.j6 true)
      (Be.j6 (decide (4294967296 <= c.Seal.Sum)))))))
def Be.j3 (c : Am) (x91_3 : Bool) : Option (Int) :=
 cond (x91_3)
  (some 9)
  (C2 (fun q' => Be.l4 c q') 0)
def Be.j2 (c : Am) (x67_2 : Bool) : Option (Int) :=
 cond (x67_2)
  (some 9)
  (cond (decide (c.Path < 0))
   (Be.j3 c true)
   (cond (decide (8 < c.Path))
    (Be.j3 c true)
    (cond (!c.Authority)
     (cond (!decide (c.Path = 0))
      (Be.j3 c true)
      (Be.j3 c (decide (8 < (c.Names.length : Int)))))
     (Be.j3 c (decide (8 < (c.Names.length : Int)))))))
def Be.j1 (c : Am) (x39_1 : Bool) : Option (Int) :=
 cond (x39_1)
  (some 9)
  ((I0 c.Hash).bind fun y_4 =>
  cond (!y_4)
   (Be.j2 c true)
   ((Fk c.Hash.Alg).bind fun y_5 =>
   cond (!decide (y_5 = 1))
    (Be.j2 c true)
    (cond (decide (c.From < 0))
     (Be.j2 c true)
     (cond (decide (c.To < c.From))
      (Be.j2 c true)
      (Be.j2 c (decide (40000 < c.To)))))))
def Be (c : Am) : Option (Int) :=
 cond (decide (c.Serial < 0))
  (Be.j1 c true)
  (cond (decide (1099511627776 < c.Serial))
   (Be.j1 c true)
   ((C9 c.Issuer).bind fun y =>
   cond (!y)
    (Be.j1 c true)
    ((C9 c.Subject).bind fun y_2 =>
    cond (!y_2)
     (Be.j1 c true)
     ((H5 c.Key).bind fun y_3 =>
     cond (!y_3)
      (Be.j1 c true)
      (cond (decide (c.KeyId < 0))
       (Be.j1 c true)
       (Be.j1 c (decide (2147483648 < c.KeyId))))))))
def In (s : ByteArray) : Option (Ah) :=
 some (Ah.mk 12 (Ny s) false ([] : (List Ah)))
def C0.j2 (x_1 : Int) (b_1 : List UInt8) (x35_2 : Bool) : Option (Lp (Int × List UInt8) (Ah)) :=
 cond (x35_2)
  ((Hz 1 ([(u8 x_1)] : List UInt8) b_1).bind fun l =>
  (Sk .i64 x_1 8).bind fun q_2 =>
  some (.next (q_2, l)))
  (up (
   some (Ah.mk 2 b_1 false ([] : (List Ah)))))
def C0.l1 (x_1 : Int) (b_1 : List UInt8) : Option (Lp (Int × List UInt8) (Ah)) :=
 cond (!decide (x_1 = 0))
  (cond (!decide (x_1 = (-1)))
   (C0.j2 x_1 b_1 true)
   (cond (decide (x_1 = 0))
    ((Cb b_1 0).bind fun e =>
    cond (decide (128 <= (e.toNat : Int)))
     (C0.j2 x_1 b_1 true)
     (cond (decide (x_1 = (-1)))
      (C0.j2 x_1 b_1 (decide ((e.toNat : Int) < 128)))
      (C0.j2 x_1 b_1 false)))
    (cond (decide (x_1 = (-1)))
     ((Cb b_1 0).bind fun e_2 =>
     C0.j2 x_1 b_1 (decide ((e_2.toNat : Int) < 128)))
     (C0.j2 x_1 b_1 false))))
  (cond (decide (x_1 = 0))
   ((Cb b_1 0).bind fun e_3 =>
   cond (decide (128 <= (e_3.toNat : Int)))
    (C0.j2 x_1 b_1 true)
    (cond (decide (x_1 = (-1)))
     (C0.j2 x_1 b_1 (decide ((e_3.toNat : Int) < 128)))
     (C0.j2 x_1 b_1 false)))
   (cond (decide (x_1 = (-1)))
    ((Cb b_1 0).bind fun e_4 =>
    C0.j2 x_1 b_1 (decide ((e_4.toNat : Int) < 128)))
    (C0.j2 x_1 b_1 false)))
def C0 (n : Int) : Option (Ah) :=
 (Sk .i64 n 8).bind fun q =>
 C2 (fun q' => C0.l1 q'.1 q'.2) (q, ([(u8 n)] : List UInt8))
def Dj.l1 (rec : (List Ah) -> Option ((List Ah))) (l : (List Ah)) (i_1 : Int) (out_1 : List Ah) : Option (Lp (Int × List Ah) ((List Ah))) :=
 cond (decide (i_1 < (l.length : Int)))
  ((Cb l i_1).bind fun e =>
  (Hz 1 ([] : List UInt8) e.Bytes).bind fun l_2 =>
  (rec e.Elements).bind fun y =>
  (Hz 256 out_1 ([(Ah.mk e.Tag l_2 e.Nested y)] : List Ah)).bind fun l_3 =>
  some (.next (W (i_1 + 1), l_3)))
  (up (
   some out_1))
def Dj.F (rec : (List Ah) -> Option ((List Ah))) (l : (List Ah)) : Option ((List Ah)) :=
 C2 (fun q' => Dj.l1 rec l q'.1 q'.2) (0, ([] : List Ah))
def Dj (l : (List Ah)) : Option ((List Ah)) := Vx (fun rec (x : (List Ah)) => Dj.F (fun l => rec l) x) l
def Il (l : (List Ah)) : Option (Ah) :=
 (Dj l).bind fun y =>
 some (Ah.mk 48 ([] : (List UInt8)) true y)
def Kq (u : Az) : Option (Ah) :=
 (C0 u.Alg).bind fun y =>
 (C0 u.Bits).bind fun y_2 =>
 (Il ([y, y_2] : List Ah)).bind fun y_3 =>
 some y_3
def Kz (b : Bool) : Option (Ah) :=
 cond (b)
  (some (Ah.mk 1 ([(255 : UInt8)] : List UInt8) false ([] : (List Ah))))
  (some (Ah.mk 1 ([(0 : UInt8)] : List UInt8) false ([] : (List Ah))))
def Ge.l1 (c : Am) (i_1 : Int) (names_1 : List Ah) : Option (Lp (Int × List Ah) (Ah)) :=
 cond (decide (i_1 < (c.Names.length : Int)))
  ((Cb c.Names i_1).bind fun e =>
  (In e).bind fun y =>
  (Hz 256 names_1 ([y] : List Ah)).bind fun l =>
  some (.next (W (i_1 + 1), l)))
  (up (
   (C0 c.Serial).bind fun y_12 =>
   (In c.Issuer).bind fun y_13 =>
   (In c.Subject).bind fun y_14 =>
   (Kq c.Key).bind fun y_15 =>
   (C0 c.KeyId).bind fun y_16 =>
   (Kq c.Hash).bind fun y_17 =>
   (C0 c.From).bind fun y_18 =>
   (C0 c.To).bind fun y_19 =>
   (Kz c.Authority).bind fun y_20 =>
   (C0 c.Path).bind fun y_21 =>
   (Il names_1).bind fun y_22 =>
   (Il ([y_12, y_13, y_14, y_15, y_16, y_17, y_18, y_19, y_20, y_21, y_22] : List Ah)).bind fun y_23 =>
   some y_23))
def Ge (c : Am) : Option (Ah) :=
 C2 (fun q' => Ge.l1 c q'.1 q'.2) (0, ([] : List Ah))
def L8 (n : Int) : Option (Bool) :=
 cond (decide (1 <= n))
  (cond (decide (n <= 255))
   ((V6 n 32).bind fun q =>
   some (!decide (q = 31)))
   (some false))
  (some false)
def Cc.l2 (rec : Ah -> Option (Bool)) (v : Ah) (i_2 : Int) : Option (Lp (Int) (Bool)) :=
 cond (decide (i_2 < (v.Elements.length : Int)))
  ((Cb v.Elements i_2).bind fun e =>
  (rec e).bind fun y_2 =>
  cond (!y_2)
   (up (some false))
   (some (.next (W (i_2 + 1)))))
  (up (
   some true))
def Cc.j1 (rec : Ah -> Option (Bool)) (v : Ah) (x38_1 : Bool) : Option (Bool) :=
 cond (x38_1)
  (some false)
  (C2 (fun q' => Cc.l2 rec v q') 0)
def Cc.F (rec : Ah -> Option (Bool)) (v : Ah) : Option (Bool) :=
 (L8 v.Tag).bind fun y =>
 cond (!y)
  (Cc.j1 rec v true)
  ((Mb v.Tag 32).bind fun q =>
  (V6 q 2).bind fun q_2 =>
  cond (!decide (v.Nested = (decide (q_2 = 1))))
   (Cc.j1 rec v true)
   (cond (v.Nested)
    (cond (decide (0 < (v.Bytes.length : Int)))
     (Cc.j1 rec v true)
     (Cc.j1 rec v false))
    (Cc.j1 rec v (decide (0 < (v.Elements.length : Int))))))
def Cc (v : Ah) : Option (Bool) := Vx (fun rec (x : Ah) => Cc.F (fun v => rec v) x) v
def Du.l1 (rec : Ah -> Option (Int)) (v : Ah) (d_1 : Int) (i_1 : Int) : Option (Lp (Int × Int) (Int)) :=
 cond (decide (i_1 < (v.Elements.length : Int)))
  ((Cb v.Elements i_1).bind fun e =>
  (rec e).bind fun y =>
  some (.next (max d_1 y, W (i_1 + 1))))
  (up (
   some (W (d_1 + 1))))
def Du.F (rec : Ah -> Option (Int)) (v : Ah) : Option (Int) :=
 C2 (fun q' => Du.l1 rec v q'.1 q'.2) (0, 0)
def Du (v : Ah) : Option (Int) := Vx (fun rec (x : Ah) => Du.F (fun v => rec v) x) v
def Fp.l1 (n_1 : Int) (b_1 : List UInt8) : Option (Lp (Int × List UInt8) ((List UInt8))) :=
 cond (decide (0 < n_1))
  ((V6 n_1 256).bind fun q =>
  (Hz 1 ([(u8 q)] : List UInt8) b_1).bind fun l =>
  (Mb n_1 256).bind fun q_2 =>
  some (.next (q_2, l)))
  (up (
   (Hz 1 ([(u8 (W (128 + (b_1.length : Int))))] : List UInt8) b_1).bind fun l_2 =>
   some l_2))
def Fp (n : Int) : Option ((List UInt8)) :=
 cond (decide (n < 128))
  (some ([(u8 n)] : List UInt8))
  (C2 (fun q' => Fp.l1 q'.1 q'.2) (n, ([] : List UInt8)))
def D7.l1 (rec : Ah -> Option ((List UInt8))) (v : Ah) (i_1 : Int) (b_1 : List UInt8) : Option (Lp (Int × List UInt8) ((List UInt8))) :=
 cond (decide (i_1 < (v.Elements.length : Int)))
  ((Cb v.Elements i_1).bind fun e =>
  (rec e).bind fun y =>
  (Hz 1 b_1 y).bind fun l_2 =>
  some (.next (W (i_1 + 1), l_2)))
  (up (
   (Fp (b_1.length : Int)).bind fun y_2 =>
   (Hz 1 ([(u8 v.Tag)] : List UInt8) y_2).bind fun l_3 =>
   (Hz 1 l_3 b_1).bind fun l_4 =>
   some l_4))
def D7.F (rec : Ah -> Option ((List UInt8))) (v : Ah) : Option ((List UInt8)) :=
 (Hz 1 ([] : List UInt8) v.Bytes).bind fun l =>
 C2 (fun q' => D7.l1 rec v q'.1 q'.2) (0, l)
def D7 (v : Ah) : Option ((List UInt8)) := Vx (fun rec (x : Ah) => D7.F (fun v => rec v) x) v
def Jr (v : Ah) : Option ((List UInt8) × Int) :=
 (Cc v).bind fun y =>
 cond (!y)
  (some (([] : (List UInt8)), 1))
  ((Du v).bind fun y_2 =>
  cond (decide (16 < y_2))
   (some (([] : (List UInt8)), 3))
   ((D7 v).bind fun y_3 =>
   cond (decide (4096 < (y_3.length : Int)))
    (some (([] : (List UInt8)), 3))
    (some (y_3, 0))))
def J1 (c : Am) : Option ((List UInt8) × Int) :=
 (Be c).bind fun y =>
 cond (!decide (y = 0))
  (some (([] : (List UInt8)), 9))
  ((Ge c).bind fun y_2 =>
  (Jr y_2).bind fun y_3 =>
  some (y_3.1, y_3.2))
def G0.l1 (b : (List UInt8)) (h_1 : Int) (i_1 : Int) : Option (Lp (Int × Int) (Int)) :=
 cond (decide (i_1 < (b.length : Int)))
  ((Cb b i_1).bind fun e =>
  some (.next (IntKind.wrap .u32 ((Qv .u32 h_1 (IntKind.wrap .u32 (e.toNat : Int))) * 16777619), W (i_1 + 1))))
  (up (
   some (W h_1)))
def G0 (b : (List UInt8)) : Option (Int) :=
 C2 (fun q' => G0.l1 b q'.1 q'.2) (2166136261, 0)
def Fo.j1 (key : Int) (y : Am) (x22_1 : Bool) : Option (Am × Int) :=
 cond (x22_1)
  (some ((Am.mk 0 (⟨#[]⟩ : ByteArray) (⟨#[]⟩ : ByteArray) (Az.mk 0 0) 0 (Az.mk 0 0) 0 0 false 0 ([] : (List ByteArray)) (Ga.mk 0 0)), 9))
  ((J1 (Am.mk y.Serial y.Issuer y.Subject y.Key y.KeyId y.Hash y.From y.To y.Authority y.Path y.Names (Ga.mk 0 0))).bind fun y_3 =>
  (G0 y_3.1).bind fun y_4 =>
  some ((Am.mk y.Serial y.Issuer y.Subject y.Key y.KeyId y.Hash y.From y.To y.Authority y.Path y.Names (Ga.mk key y_4)), 0))
def Fo (c : Am) (key : Int) : Option (Am × Int) :=
 (Lg c).bind fun y =>
 (Be (Am.mk y.Serial y.Issuer y.Subject y.Key y.KeyId y.Hash y.From y.To y.Authority y.Path y.Names (Ga.mk 0 0))).bind fun y_2 =>
 cond (!decide (y_2 = 0))
  (Fo.j1 key y true)
  (cond (decide (key < 0))
   (Fo.j1 key y true)
   (Fo.j1 key y (decide (2147483648 < key))))
def Gz (name : ByteArray) (key : Az) (id : Int) (anchor : Int) (to : Int) : Option (Bq) :=
 (Fo (Am.mk id (⟨#[114, 111, 111, 116]⟩ : ByteArray) name key id (Az.mk 3 0) 0 to false 0 ([name] : List ByteArray) (Ga.mk 0 0)) anchor).bind fun y =>
 some (Bq.mk key id ([y.1] : List Am))
def Ie (d : Ac) (l : (List ByteArray)) : Option (ByteArray × Ac) :=
 (Ct d (l.length : Int)).bind fun y =>
 (Cb l y.1).bind fun e =>
 some (e, y.2)
def Gx.l1 (name : ByteArray) (y : Int × Ac) (y_2 : Int × Ac) (day_1 : Int) (i_1 : Int) (d_1 : Ac) (l_1 : List Ds) : Option (Lp (Int × Int × Ac × List Ds) (By × Ac)) :=
 cond (decide (0 < i_1))
  ((Ct d_1 6).bind fun y_5 =>
  (Cb ([(Az.mk 2 0), (Az.mk 1 0), (Az.mk 5 2048), (Az.mk 16 128), (Az.mk 3 0), (Az.mk 15 168)] : List Az) y_5.1).bind fun e =>
  (Hz 72 l_1 ([(Ds.mk e day_1)] : List Ds)).bind fun l =>
  (Gy y_5.2 ([5, 30, 0, 100] : List Int)).bind fun y_6 =>
  some (.next (W ((W (day_1 + 1)) + y_6.1), W (i_1 - 1), y_6.2, l)))
  (up (
   (Cb l_1 0).bind fun e_2 =>
   (Gy d_1 ([50, 300, 0, 3000] : List Int)).bind fun y_7 =>
   some ((By.mk name (W (1 + y.1)) (W (1 + y_2.1)) l_1 (W (e_2.Day + y_7.1))), y_7.2)))
def Gx (d : Ac) (name : ByteArray) : Option (By × Ac) :=
 (Ct d 2).bind fun y =>
 (Ct y.2 4).bind fun y_2 =>
 (Ct y_2.2 20).bind fun y_3 =>
 (Ct y_3.2 3).bind fun y_4 =>
 C2 (fun q' => Gx.l1 name y y_2 q'.1 q'.2.1 q'.2.2.1 q'.2.2.2) (y_3.1, W (1 + y_4.1), y_4.2, ([] : List Ds))
def Bm.j2 (x18_1 : Int) (l_1 : List Aw) (e : ByteArray) (y_2 : Int × Ac) (y_4 : Bool × Ac) (y_5 : Bool × Ac) (x_2 : List Int) : Option (Lp (Int × Ac × List Aw) (Bj × Ac)) :=
 (Po).bind fun y_6 =>
 (Gz e y_6 (W (100 + x18_1)) 1 901).bind fun y_7 =>
 (Hz 1296 l_1 ([(Aw.mk e 1 y_2.1 x_2 y_4.1 ([y_7] : List Bq) ([1] : List Int) ([2, 3] : List Int) y_5.1)] : List Aw)).bind fun l_3 =>
 some (.next (W (x18_1 + 1), y_5.2, l_3))
def Bm.j9 (x71_7 : Int) (d_9 : Ac) (l_9 : List Ba) : Option (Lp (Int × Ac × List Ba) (Lp (Int × Ac × List Ba) (Bj × Ac))) :=
 some (.next (W (x71_7 + 1), d_9, l_9))
def Bm.j8 (x66_6 : Int) (x71_7 : Int) (l_7 : List Ba) (x87_8 : Bool) (d_8 : Ac) : Option (Lp (Int × Ac × List Ba) (Lp (Int × Ac × List Ba) (Bj × Ac))) :=
 cond (x87_8)
  ((Hz 32 l_7 ([(Ba.mk x66_6 x71_7)] : List Ba)).bind fun l_4 =>
  Bm.j9 x71_7 d_8 l_4)
  (Bm.j9 x71_7 d_8 l_7)
def Bm.l7 (y : Int × Ac) (x66_6 : Int) (x71_7 : Int) (d_7 : Ac) (l_7 : List Ba) : Option (Lp (Int × Ac × List Ba) (Lp (Int × Ac × List Ba) (Bj × Ac))) :=
 cond (decide (x71_7 < ((((W (2 + y.1) : Int).toNat - (0 : Int).toNat) : Nat) : Int)))
  (cond (!decide (x66_6 = x71_7))
   ((Ct d_7 3).bind fun y_8 =>
   cond (decide (0 < y_8.1))
    (Bm.j8 x66_6 x71_7 l_7 (decide ((l_7.length : Int) < 3)) y_8.2)
    (Bm.j8 x66_6 x71_7 l_7 false y_8.2))
   (Bm.j8 x66_6 x71_7 l_7 false d_7))
  (up (
   some (.next (W (x66_6 + 1), d_7, l_7))))
def Bm.l11 (l_1 : List Aw) (l_10 : List Ba) (i_11 : Int) (d_11 : Ac) (l_11 : List By) : Option (Lp (Int × Ac × List By) (Bj × Ac)) :=
 cond (decide (0 < i_11))
  ((Ie d_11 ([(⟨#[98, 97, 99, 107, 117, 112]⟩ : ByteArray), (⟨#[100, 101, 101, 100]⟩ : ByteArray)] : List ByteArray)).bind fun y_10 =>
  (Gx y_10.2 y_10.1).bind fun y_11 =>
  (Hz 320 l_11 ([y_11.1] : List By)).bind fun l_5 =>
  some (.next (W (i_11 - 1), y_11.2, l_5)))
  (up (
   some ((Bj.mk l_1 l_10 l_11), d_11)))
def Bm.j10 (l_1 : List Aw) (d_6 : Ac) (l_10 : List Ba) : Option (Bj × Ac) :=
 (Ct d_6 3).bind fun y_9 =>
 C2 (fun q' => Bm.l11 l_1 l_10 q'.1 q'.2.1 q'.2.2) (y_9.1, y_9.2, ([] : List By))
def Bm.l6 (y : Int × Ac) (l_1 : List Aw) (x66_6 : Int) (d_6 : Ac) (l_6 : List Ba) : Option (Lp (Int × Ac × List Ba) (Bj × Ac)) :=
 cond (decide (x66_6 < ((((W (2 + y.1) : Int).toNat - (0 : Int).toNat) : Nat) : Int)))
  (C2 (fun q' => Bm.l7 y x66_6 q'.1 q'.2.1 q'.2.2) (0, d_6, l_6))
  (up (
   cond (decide ((l_6.length : Int) = 0))
    (Bm.j10 l_1 d_6 ([(Ba.mk 0 1)] : List Ba))
    (Bm.j10 l_1 d_6 l_6)))
def Bm.l1 (y : Int × Ac) (x18_1 : Int) (d_1 : Ac) (l_1 : List Aw) : Option (Lp (Int × Ac × List Aw) (Bj × Ac)) :=
 cond (decide (x18_1 < ((((W (2 + y.1) : Int).toNat - (0 : Int).toNat) : Nat) : Int)))
  ((Cb ((([(⟨#[97, 112, 112]⟩ : ByteArray), (⟨#[100, 98]⟩ : ByteArray), (⟨#[119, 101, 98]⟩ : ByteArray)] : List ByteArray).drop ((0 : Int).toNat)).take ((W (2 + y.1) : Int).toNat - (0 : Int).toNat)) x18_1).bind fun e =>
  (Gy d_1 ([3, 3, 4] : List Int)).bind fun y_2 =>
  (Ct y_2.2 3).bind fun y_3 =>
  (Cb ([([10, 8, 2] : List Int), ([8, 2] : List Int), ([2, 10, 8, 3] : List Int)] : List (List Int)) y_3.1).bind fun e_2 =>
  (Hx y_3.2 2).bind fun y_4 =>
  (Hx y_4.2 3).bind fun y_5 =>
  cond (decide (y_2.1 = 4))
   ((Hz 8 ([14] : List Int) e_2).bind fun l_2 =>
   Bm.j2 x18_1 l_1 e y_2 y_4 y_5 l_2)
   (Bm.j2 x18_1 l_1 e y_2 y_4 y_5 e_2))
  (up (
   C2 (fun q' => Bm.l6 y l_1 q'.1 q'.2.1 q'.2.2) (0, d_1, ([] : List Ba))))
def Bm (d : Ac) : Option (Bj × Ac) :=
 (Ct d 2).bind fun y =>
 (dF ([(⟨#[97, 112, 112]⟩ : ByteArray), (⟨#[100, 98]⟩ : ByteArray), (⟨#[119, 101, 98]⟩ : ByteArray)] : List ByteArray) 0 (W (2 + y.1))).bind fun l =>
 C2 (fun q' => Bm.l1 y q'.1 q'.2.1 q'.2.2) (0, y.2, ([] : List Aw))
def Gw.l1 (l : (List Int)) (n : Int) (x9_1 : Int) : Option (Lp (Int) (Bool)) :=
 cond (decide (x9_1 < (l.length : Int)))
  ((Cb l x9_1).bind fun e =>
  cond (decide (e = n))
   (up (some true))
   (some (.next (W (x9_1 + 1)))))
  (up (
   some false))
def Gw (l : (List Int)) (n : Int) : Option (Bool) :=
 C2 (fun q' => Gw.l1 l n q') 0
def Rq : Option (Az) :=
 some (Az.mk 7 256)
def A1.j11 (x25_1 : Int) (d_11 : Ac) (l_11 : List An) : Option (Lp (Int × Ac × List An) ((List An) × Ac)) :=
 some (.next (W (x25_1 + 1), d_11, l_11))
def A1.j10 (x25_1 : Int) (d_9 : Ac) (l_9 : List An) (x95_10 : Bool) : Option (Lp (Int × Ac × List An) ((List An) × Ac)) :=
 cond (x95_10)
  ((Hz 640 l_9 ([(An.mk x25_1 3 4 0 (Bq.mk (Az.mk 0 0) 0 ([] : (List Am)))), (An.mk x25_1 1 14 0 (Bq.mk (Az.mk 0 0) 0 ([] : (List Am))))] : List An)).bind fun l_8 =>
  A1.j11 x25_1 d_9 l_8)
  (A1.j11 x25_1 d_9 l_9)
def A1.j9 (y_3 : Int × Ac) (x25_1 : Int) (e_2 : Aw) (d_9 : Ac) (l_9 : List An) : Option (Lp (Int × Ac × List An) ((List An) × Ac)) :=
 cond (decide (y_3.1 = 0))
  (A1.j10 x25_1 d_9 l_9 (decide (e_2.Most < 4)))
  (A1.j10 x25_1 d_9 l_9 false)
def A1.j8 (y_3 : Int × Ac) (x25_1 : Int) (e_2 : Aw) (l_7 : List An) (x84_8 : Bool) (d_8 : Ac) : Option (Lp (Int × Ac × List An) ((List An) × Ac)) :=
 cond (x84_8)
  ((Hz 640 l_7 ([(An.mk x25_1 2 2 0 (Bq.mk (Az.mk 0 0) 0 ([] : (List Am))))] : List An)).bind fun l_6 =>
  A1.j9 y_3 x25_1 e_2 d_8 l_6)
  (A1.j9 y_3 x25_1 e_2 d_8 l_7)
def A1.j7 (y : Int × Ac) (y_3 : Int × Ac) (x25_1 : Int) (e_2 : Aw) (d_7 : Ac) (l_7 : List An) : Option (Lp (Int × Ac × List An) ((List An) × Ac)) :=
 cond (decide (0 < y.1))
  ((Gw e_2.Suites 2).bind fun y_9 =>
  cond (y_9)
   ((Ct d_7 4).bind fun y_10 =>
   A1.j8 y_3 x25_1 e_2 l_7 (decide (0 < y_10.1)) y_10.2)
   (A1.j8 y_3 x25_1 e_2 l_7 false d_7))
  (A1.j8 y_3 x25_1 e_2 l_7 false d_7)
def A1.j6 (y : Int × Ac) (y_3 : Int × Ac) (x25_1 : Int) (e_2 : Aw) (d_3 : Ac) (l_5 : List An) (x58_6 : Bool) : Option (Lp (Int × Ac × List An) ((List An) × Ac)) :=
 cond (x58_6)
  ((Rq).bind fun y_6 =>
  (Gy d_3 ([2, 1] : List Int)).bind fun y_7 =>
  (Gz e_2.Name y_6 201 y_7.1 901).bind fun y_8 =>
  (Hz 640 l_5 ([(An.mk x25_1 5 0 (e_2.Identities.length : Int) y_8)] : List An)).bind fun l_4 =>
  A1.j7 y y_3 x25_1 e_2 y_7.2 l_4)
  (A1.j7 y y_3 x25_1 e_2 d_3 l_5)
def A1.j5 (y : Int × Ac) (y_2 : Int × Ac) (y_3 : Int × Ac) (x25_1 : Int) (e_2 : Aw) (d_3 : Ac) (l_5 : List An) : Option (Lp (Int × Ac × List An) ((List An) × Ac)) :=
 cond (decide (y_2.1 = 0))
  (A1.j6 y y_3 x25_1 e_2 d_3 l_5 (decide (x25_1 = 1)))
  (A1.j6 y y_3 x25_1 e_2 d_3 l_5 false)
def A1.j4 (y : Int × Ac) (y_2 : Int × Ac) (y_3 : Int × Ac) (x25_1 : Int) (e_2 : Aw) (d_3 : Ac) (l_3 : List An) (x48_4 : Bool) : Option (Lp (Int × Ac × List An) ((List An) × Ac)) :=
 cond (x48_4)
  ((Hz 640 l_3 ([(An.mk x25_1 7 2 0 (Bq.mk (Az.mk 0 0) 0 ([] : (List Am))))] : List An)).bind fun l_2 =>
  A1.j5 y y_2 y_3 x25_1 e_2 d_3 l_2)
  (A1.j5 y y_2 y_3 x25_1 e_2 d_3 l_3)
def A1.j3 (y : Int × Ac) (y_2 : Int × Ac) (y_3 : Int × Ac) (x25_1 : Int) (e_2 : Aw) (d_3 : Ac) (l_3 : List An) : Option (Lp (Int × Ac × List An) ((List An) × Ac)) :=
 cond (decide (y_2.1 = 0))
  (A1.j4 y y_2 y_3 x25_1 e_2 d_3 l_3 (decide (x25_1 = 0)))
  (A1.j4 y y_2 y_3 x25_1 e_2 d_3 l_3 false)
def A1.j2 (y : Int × Ac) (y_2 : Int × Ac) (y_3 : Int × Ac) (x25_1 : Int) (d_1 : Ac) (l_1 : List An) (e_2 : Aw) (x36_2 : Bool) : Option (Lp (Int × Ac × List An) ((List An) × Ac)) :=
 cond (x36_2)
  ((Ct d_1 2).bind fun y_5 =>
  (Hz 640 l_1 ([(An.mk x25_1 1 12 y_5.1 (Bq.mk (Az.mk 0 0) 0 ([] : (List Am))))] : List An)).bind fun l =>
  A1.j3 y y_2 y_3 x25_1 e_2 y_5.2 l)
  (A1.j3 y y_2 y_3 x25_1 e_2 d_1 l_1)
def A1.j15 (k_14 : Int) (d_14 : Ac) (l_14 : List An) (x120_15 : Bool) : Option (Lp (Int × Ac × List An) ((List An) × Ac)) :=
 cond (x120_15)
  ((Ct d_14 (W ((l_14.length : Int) - 1))).bind fun y_12 =>
  (Cb l_14 (W (y_12.1 + 1))).bind fun e_3 =>
  (Cb l_14 y_12.1).bind fun e_4 =>
  (Cb (De l_14 ((y_12.1).toNat) e_3) (W (y_12.1 + 1))).bind fun e_5 =>
  some (.next (W (k_14 - 1), y_12.2, De (De l_14 ((y_12.1).toNat) e_3) ((W (y_12.1 + 1)).toNat) e_4)))
  (up (
   some (l_14, d_14)))
def A1.l14 (k_14 : Int) (d_14 : Ac) (l_14 : List An) : Option (Lp (Int × Ac × List An) ((List An) × Ac)) :=
 cond (decide (0 < k_14))
  (A1.j15 k_14 d_14 l_14 (decide (1 < (l_14.length : Int))))
  (A1.j15 k_14 d_14 l_14 false)
def A1.l12 (d_1 : Ac) (l_12 : List An) : Option (Lp (List An) ((List An) × Ac)) :=
 cond (decide (7 < (l_12.length : Int)))
  ((dF l_12 0 (W ((l_12.length : Int) - 1))).bind fun l_10 =>
  some (.next (l_12.take ((W ((l_12.length : Int) - 1) : Int).toNat - (0 : Int).toNat))))
  (up (
   (Ct d_1 4).bind fun y_11 =>
   C2 (fun q' => A1.l14 q'.1 q'.2.1 q'.2.2) (y_11.1, y_11.2, l_12)))
def A1.l1 (e : Bj) (y : Int × Ac) (y_2 : Int × Ac) (y_3 : Int × Ac) (x25_1 : Int) (d_1 : Ac) (l_1 : List An) : Option (Lp (Int × Ac × List An) ((List An) × Ac)) :=
 cond (decide (x25_1 < (e.Endpoints.length : Int)))
  ((Cb e.Endpoints x25_1).bind fun e_2 =>
  cond (decide (0 < y.1))
   ((Gw e_2.Suites 12).bind fun y_4 =>
   A1.j2 y y_2 y_3 x25_1 d_1 l_1 e_2 (!y_4))
   (A1.j2 y y_2 y_3 x25_1 d_1 l_1 e_2 false))
  (up (
   C2 (fun q' => A1.l12 d_1 q') l_1))
def A1 (d : Ac) (e : Bj) : Option ((List An) × Ac) :=
 (Ct d 3).bind fun y =>
 (Ct y.2 3).bind fun y_2 =>
 (Ct y_2.2 4).bind fun y_3 =>
 C2 (fun q' => A1.l1 e y y_2 y_3 q'.1 q'.2.1 q'.2.2) (0, y_3.2, ([] : List An))
def Er (s : ByteArray) (c : UInt8) : Option (Int) :=
 some (aO s c)
def D6 (s : ByteArray) (c : UInt8) : Option (Int) :=
 (Er s c).bind fun y =>
 some y
def H3 (c : UInt8) (others : ByteArray) : Option (Bool) :=
 cond (decide (97 <= (c.toNat : Int)))
  (cond (decide ((c.toNat : Int) <= 122))
   (some true)
   (cond (decide (65 <= (c.toNat : Int)))
    (cond (decide ((c.toNat : Int) <= 90))
     (some true)
     (cond (decide (48 <= (c.toNat : Int)))
      (cond (decide ((c.toNat : Int) <= 57))
       (some true)
       ((D6 others c).bind fun y =>
       some (decide (0 <= y))))
      ((D6 others c).bind fun y_2 =>
      some (decide (0 <= y_2)))))
    (cond (decide (48 <= (c.toNat : Int)))
     (cond (decide ((c.toNat : Int) <= 57))
      (some true)
      ((D6 others c).bind fun y_3 =>
      some (decide (0 <= y_3))))
     ((D6 others c).bind fun y_4 =>
     some (decide (0 <= y_4))))))
  (cond (decide (65 <= (c.toNat : Int)))
   (cond (decide ((c.toNat : Int) <= 90))
    (some true)
    (cond (decide (48 <= (c.toNat : Int)))
     (cond (decide ((c.toNat : Int) <= 57))
      (some true)
      ((D6 others c).bind fun y_5 =>
      some (decide (0 <= y_5))))
     ((D6 others c).bind fun y_6 =>
     some (decide (0 <= y_6)))))
   (cond (decide (48 <= (c.toNat : Int)))
    (cond (decide ((c.toNat : Int) <= 57))
     (some true)
     ((D6 others c).bind fun y_7 =>
     some (decide (0 <= y_7))))
    ((D6 others c).bind fun y_8 =>
    some (decide (0 <= y_8)))))
def Fb.l1 (s : ByteArray) (x8_1 : Int) : Option (Lp (Int) (Bool)) :=
 cond (decide (x8_1 < ((Ny s).length : Int)))
  ((Cb (Ny s) x8_1).bind fun e =>
  (H3 e (⟨#[45, 95, 46]⟩ : ByteArray)).bind fun y =>
  cond (!y)
   (up (some false))
   (some (.next (W (x8_1 + 1)))))
  (up (
   cond (decide (1 <= (s.size : Int)))
    (some (decide ((s.size : Int) <= 32)))
    (some false)))
def Fb (s : ByteArray) : Option (Bool) :=
 C2 (fun q' => Fb.l1 s q') 0
def Db (alg : Int) (bits : Int) : Option (Az) :=
 some (Az.mk alg bits)
def E6.l1 (y : Az) (y_2 : Az) (y_3 : Az) (y_4 : Az) (y_5 : Az) (y_6 : Az) (y_7 : Az) (y_8 : Az) (y_9 : Az) (y_10 : Az) (y_11 : Az) (y_12 : Az) (y_13 : Az) (y_14 : Az) (y_15 : Az) (y_16 : Az) (y_17 : Az) (y_18 : Az) (y_19 : Az) (y_20 : Az) (y_21 : Az) (y_22 : Az) (x114_1 : Int) (l_1 : List A4) : Option (Lp (Int × List A4) ((List A4))) :=
 cond (decide (x114_1 < (([(A4.mk 0 (⟨#[114, 115, 97, 45, 114, 99, 52, 45, 109, 100, 53]⟩ : ByteArray) y y_2 y_14 y_10 1 2), (A4.mk 0 (⟨#[114, 115, 97, 45, 114, 99, 52, 45, 115, 104, 97]⟩ : ByteArray) y y_2 y_15 y_11 1 3), (A4.mk 0 (⟨#[114, 115, 97, 45, 100, 101, 115, 51, 45, 115, 104, 97]⟩ : ByteArray) y y_2 y_5 y_11 1 3), (A4.mk 0 (⟨#[100, 104, 101, 45, 100, 115, 97, 45, 100, 101, 115, 51, 45, 115, 104, 97]⟩ : ByteArray) y_16 y_3 y_5 y_11 1 3), (A4.mk 0 (⟨#[100, 104, 101, 45, 114, 115, 97, 45, 100, 101, 115, 51, 45, 115, 104, 97]⟩ : ByteArray) y_17 y_2 y_5 y_11 1 3), (A4.mk 0 (⟨#[114, 115, 97, 45, 97, 101, 115, 49, 50, 56, 45, 115, 104, 97]⟩ : ByteArray) y y_2 y_6 y_11 1 3), (A4.mk 0 (⟨#[100, 104, 101, 45, 114, 115, 97, 45, 97, 101, 115, 49, 50, 56, 45, 115, 104, 97]⟩ : ByteArray) y_18 y_2 y_6 y_11 1 3), (A4.mk 0 (⟨#[101, 99, 100, 104, 101, 45, 114, 115, 97, 45, 97, 101, 115, 49, 50, 56, 45, 115, 104, 97]⟩ : ByteArray) y_13 y_2 y_6 y_11 1 3), (A4.mk 0 (⟨#[101, 99, 100, 104, 101, 45, 101, 99, 100, 115, 97, 45, 97, 101, 115, 50, 53, 54, 45, 115, 104, 97, 50, 53, 54]⟩ : ByteArray) y_13 y_4 y_19 y_20 3 3), (A4.mk 0 (⟨#[101, 99, 100, 104, 101, 45, 114, 115, 97, 45, 97, 101, 115, 49, 50, 56, 45, 103, 99, 109]⟩ : ByteArray) y_13 y_2 y_7 y_12 3 3), (A4.mk 0 (⟨#[101, 99, 100, 104, 101, 45, 101, 99, 100, 115, 97, 45, 97, 101, 115, 50, 53, 54, 45, 103, 99, 109]⟩ : ByteArray) y_21 y_4 y_8 y_12 3 3), (A4.mk 0 (⟨#[101, 99, 100, 104, 101, 45, 114, 115, 97, 45, 99, 104, 97, 99, 104, 97]⟩ : ByteArray) y_13 y_2 y_9 y_12 3 3), (A4.mk 0 (⟨#[114, 115, 97, 45, 97, 101, 115, 50, 53, 54, 45, 103, 99, 109]⟩ : ByteArray) y y_2 y_8 y_12 3 3), (A4.mk 0 (⟨#[97, 101, 115, 49, 50, 56, 45, 103, 99, 109]⟩ : ByteArray) y_13 (Az.mk 0 0) y_7 y_12 4 4), (A4.mk 0 (⟨#[99, 104, 97, 99, 104, 97]⟩ : ByteArray) y_13 (Az.mk 0 0) y_9 y_12 4 4), (A4.mk 0 (⟨#[109, 108, 107, 101, 109, 45, 97, 101, 115, 50, 53, 54, 45, 103, 99, 109]⟩ : ByteArray) y_22 (Az.mk 0 0) y_8 y_12 4 4)] : List A4).length : Int)))
  ((Cb l_1 x114_1).bind fun e =>
  some (.next (W (x114_1 + 1), De l_1 ((x114_1).toNat) (A4.mk (W (x114_1 + 1)) e.Name e.Exchange e.Sign e.Cipher e.Mac e.Least e.Most))))
  (up (
   some l_1))
def E6 : Option ((List A4)) :=
 (Db 10 0).bind fun y =>
 (Db 5 0).bind fun y_2 =>
 (Db 6 0).bind fun y_3 =>
 (Db 7 0).bind fun y_4 =>
 (Db 15 168).bind fun y_5 =>
 (Db 16 128).bind fun y_6 =>
 (Db 17 128).bind fun y_7 =>
 (Db 17 256).bind fun y_8 =>
 (Db 18 0).bind fun y_9 =>
 (Db 19 0).bind fun y_10 =>
 (Db 20 0).bind fun y_11 =>
 (Db 22 0).bind fun y_12 =>
 (Db 12 256).bind fun y_13 =>
 (Db 14 128).bind fun y_14 =>
 (Db 14 128).bind fun y_15 =>
 (Db 11 1024).bind fun y_16 =>
 (Db 11 1024).bind fun y_17 =>
 (Db 11 2048).bind fun y_18 =>
 (Db 16 256).bind fun y_19 =>
 (Db 21 0).bind fun y_20 =>
 (Db 12 384).bind fun y_21 =>
 (Db 13 768).bind fun y_22 =>
 C2 (fun q' => E6.l1 y y_2 y_3 y_4 y_5 y_6 y_7 y_8 y_9 y_10 y_11 y_12 y_13 y_14 y_15 y_16 y_17 y_18 y_19 y_20 y_21 y_22 q'.1 q'.2) (0, ([(A4.mk 0 (⟨#[114, 115, 97, 45, 114, 99, 52, 45, 109, 100, 53]⟩ : ByteArray) y y_2 y_14 y_10 1 2), (A4.mk 0 (⟨#[114, 115, 97, 45, 114, 99, 52, 45, 115, 104, 97]⟩ : ByteArray) y y_2 y_15 y_11 1 3), (A4.mk 0 (⟨#[114, 115, 97, 45, 100, 101, 115, 51, 45, 115, 104, 97]⟩ : ByteArray) y y_2 y_5 y_11 1 3), (A4.mk 0 (⟨#[100, 104, 101, 45, 100, 115, 97, 45, 100, 101, 115, 51, 45, 115, 104, 97]⟩ : ByteArray) y_16 y_3 y_5 y_11 1 3), (A4.mk 0 (⟨#[100, 104, 101, 45, 114, 115, 97, 45, 100, 101, 115, 51, 45, 115, 104, 97]⟩ : ByteArray) y_17 y_2 y_5 y_11 1 3), (A4.mk 0 (⟨#[114, 115, 97, 45, 97, 101, 115, 49, 50, 56, 45, 115, 104, 97]⟩ : ByteArray) y y_2 y_6 y_11 1 3), (A4.mk 0 (⟨#[100, 104, 101, 45, 114, 115, 97, 45, 97, 101, 115, 49, 50, 56, 45, 115, 104, 97]⟩ : ByteArray) y_18 y_2 y_6 y_11 1 3), (A4.mk 0 (⟨#[101, 99, 100, 104, 101, 45, 114, 115, 97, 45, 97, 101, 115, 49, 50, 56, 45, 115, 104, 97]⟩ : ByteArray) y_13 y_2 y_6 y_11 1 3), (A4.mk 0 (⟨#[101, 99, 100, 104, 101, 45, 101, 99, 100, 115, 97, 45, 97, 101, 115, 50, 53, 54, 45, 115, 104, 97, 50, 53, 54]⟩ : ByteArray) y_13 y_4 y_19 y_20 3 3), (A4.mk 0 (⟨#[101, 99, 100, 104, 101, 45, 114, 115, 97, 45, 97, 101, 115, 49, 50, 56, 45, 103, 99, 109]⟩ : ByteArray) y_13 y_2 y_7 y_12 3 3), (A4.mk 0 (⟨#[101, 99, 100, 104, 101, 45, 101, 99, 100, 115, 97, 45, 97, 101, 115, 50, 53, 54, 45, 103, 99, 109]⟩ : ByteArray) y_21 y_4 y_8 y_12 3 3), (A4.mk 0 (⟨#[101, 99, 100, 104, 101, 45, 114, 115, 97, 45, 99, 104, 97, 99, 104, 97]⟩ : ByteArray) y_13 y_2 y_9 y_12 3 3), (A4.mk 0 (⟨#[114, 115, 97, 45, 97, 101, 115, 50, 53, 54, 45, 103, 99, 109]⟩ : ByteArray) y y_2 y_8 y_12 3 3), (A4.mk 0 (⟨#[97, 101, 115, 49, 50, 56, 45, 103, 99, 109]⟩ : ByteArray) y_13 (Az.mk 0 0) y_7 y_12 4 4), (A4.mk 0 (⟨#[99, 104, 97, 99, 104, 97]⟩ : ByteArray) y_13 (Az.mk 0 0) y_9 y_12 4 4), (A4.mk 0 (⟨#[109, 108, 107, 101, 109, 45, 97, 101, 115, 50, 53, 54, 45, 103, 99, 109]⟩ : ByteArray) y_22 (Az.mk 0 0) y_8 y_12 4 4)] : List A4))
def Ej.j1 (code : Int) (y : (List A4)) (x13_1 : Bool) : Option (A4 × Int) :=
 cond (x13_1)
  (some ((A4.mk 0 (⟨#[]⟩ : ByteArray) (Az.mk 0 0) (Az.mk 0 0) (Az.mk 0 0) (Az.mk 0 0) 0 0), 8))
  ((Cb y (W (code - 1))).bind fun e =>
  some (e, 0))
def Ej (code : Int) : Option (A4 × Int) :=
 (E6).bind fun y =>
 cond (decide (code < 1))
  (Ej.j1 code y true)
  (Ej.j1 code y (decide ((y.length : Int) < code)))
def Cg.l1 (s : (List Int)) (v : Int) (x8_1 : Int) : Option (Lp (Int) (Int)) :=
 cond (decide (x8_1 < (s.length : Int)))
  ((Cb s x8_1).bind fun e =>
  cond (decide (v = e))
   (up (some x8_1))
   (some (.next (W (x8_1 + 1)))))
  (up (
   some (-1)))
def Cg (s : (List Int)) (v : Int) : Option (Int) :=
 C2 (fun q' => Cg.l1 s v q') 0
def Ea (s : (List Int)) (v : Int) : Option (Bool) :=
 (Cg s v).bind fun y =>
 some (decide (0 <= y))
def C8.j2 (x9_1 : Int) (x27_2 : Bool) : Option (Lp (Int) (Bool)) :=
 cond (x27_2)
  (up (some false))
  (some (.next (W (x9_1 + 1))))
def C8.l1 (l : (List Int)) (x9_1 : Int) : Option (Lp (Int) (Bool)) :=
 cond (decide (x9_1 < (l.length : Int)))
  ((Cb l x9_1).bind fun e =>
  (Ej e).bind fun y =>
  cond (!decide (y.2 = 0))
   (C8.j2 x9_1 true)
   ((dF l 0 x9_1).bind fun l_2 =>
   (Ea l_2 e).bind fun y_2 =>
   C8.j2 x9_1 y_2))
  (up (
   some true))
def C8 (l : (List Int)) : Option (Bool) :=
 C2 (fun q' => C8.l1 l q') 0
def Cw.j2 (x6_1 : Int) (x22_2 : Bool) : Option (Lp (Int) (Bool)) :=
 cond (x22_2)
  (up (some false))
  (some (.next (W (x6_1 + 1))))
def Cw.l1 (l : (List Int)) (x6_1 : Int) : Option (Lp (Int) (Bool)) :=
 cond (decide (x6_1 < (l.length : Int)))
  (cond (decide (0 < x6_1))
   ((Cb l (W (x6_1 - 1))).bind fun e =>
   (Cb l x6_1).bind fun e_2 =>
   Cw.j2 x6_1 (decide (e_2 <= e)))
   (Cw.j2 x6_1 false))
  (up (
   some true))
def Cw (l : (List Int)) : Option (Bool) :=
 C2 (fun q' => Cw.l1 l q') 0
def Jg : Option ((List Bo)) :=
 some ([(Bo.mk (⟨#[]⟩ : ByteArray) 0 0 ([] : (List Int)) ([] : (List Int))), (Bo.mk (⟨#[109, 100, 53]⟩ : ByteArray) 1 0 ([] : (List Int)) ([18] : List Int)), (Bo.mk (⟨#[115, 104, 97, 49]⟩ : ByteArray) 1 0 ([] : (List Int)) ([60] : List Int)), (Bo.mk (⟨#[115, 104, 97, 50, 53, 54]⟩ : ByteArray) 1 0 ([] : (List Int)) ([128] : List Int)), (Bo.mk (⟨#[115, 104, 97, 51, 56, 52]⟩ : ByteArray) 1 0 ([] : (List Int)) ([192] : List Int)), (Bo.mk (⟨#[114, 115, 97]⟩ : ByteArray) 2 1 ([] : (List Int)) ([] : (List Int))), (Bo.mk (⟨#[100, 115, 97]⟩ : ByteArray) 2 1 ([] : (List Int)) ([] : (List Int))), (Bo.mk (⟨#[101, 99, 100, 115, 97]⟩ : ByteArray) 2 2 ([] : (List Int)) ([] : (List Int))), (Bo.mk (⟨#[101, 100, 50, 53, 53, 49, 57]⟩ : ByteArray) 2 0 ([] : (List Int)) ([128] : List Int)), (Bo.mk (⟨#[109, 108, 100, 115, 97]⟩ : ByteArray) 2 3 ([44, 65, 87] : List Int) ([128, 192, 256] : List Int)), (Bo.mk (⟨#[114, 115, 97, 107, 120]⟩ : ByteArray) 3 1 ([] : (List Int)) ([] : (List Int))), (Bo.mk (⟨#[100, 104, 101]⟩ : ByteArray) 3 1 ([] : (List Int)) ([] : (List Int))), (Bo.mk (⟨#[101, 99, 100, 104, 101]⟩ : ByteArray) 3 2 ([] : (List Int)) ([] : (List Int))), (Bo.mk (⟨#[109, 108, 107, 101, 109]⟩ : ByteArray) 3 3 ([512, 768, 1024] : List Int) ([128, 192, 256] : List Int)), (Bo.mk (⟨#[114, 99, 52]⟩ : ByteArray) 4 3 ([40, 128] : List Int) ([40, 60] : List Int)), (Bo.mk (⟨#[100, 101, 115, 51]⟩ : ByteArray) 4 3 ([112, 168] : List Int) ([80, 112] : List Int)), (Bo.mk (⟨#[97, 101, 115, 99, 98, 99]⟩ : ByteArray) 4 3 ([128, 256] : List Int) ([128, 256] : List Int)), (Bo.mk (⟨#[97, 101, 115, 103, 99, 109]⟩ : ByteArray) 4 3 ([128, 256] : List Int) ([128, 256] : List Int)), (Bo.mk (⟨#[99, 104, 97, 99, 104, 97]⟩ : ByteArray) 4 0 ([] : (List Int)) ([256] : List Int)), (Bo.mk (⟨#[104, 109, 97, 99, 109, 100, 53]⟩ : ByteArray) 5 0 ([] : (List Int)) ([64] : List Int)), (Bo.mk (⟨#[104, 109, 97, 99, 115, 104, 97, 49]⟩ : ByteArray) 5 0 ([] : (List Int)) ([80] : List Int)), (Bo.mk (⟨#[104, 109, 97, 99, 115, 104, 97, 50, 53, 54]⟩ : ByteArray) 5 0 ([] : (List Int)) ([128] : List Int)), (Bo.mk (⟨#[97, 101, 97, 100]⟩ : ByteArray) 5 0 ([] : (List Int)) ([256] : List Int))] : List Bo)
def En.j1 (alg : Int) (x9_1 : Bool) : Option (Bo × Bool) :=
 cond (x9_1)
  (some ((Bo.mk (⟨#[]⟩ : ByteArray) 0 0 ([] : (List Int)) ([] : (List Int))), false))
  ((Jg).bind fun y =>
  (Cb (tI 23 y) alg).bind fun e =>
  some (e, true))
def En (alg : Int) : Option (Bo × Bool) :=
 cond (decide (alg < 1))
  (En.j1 alg true)
  (En.j1 alg (decide (22 < alg)))
def C6.l1 (bits : Int) (x11_1 : Int) : Option (Lp (Int) (Int)) :=
 cond (decide (x11_1 < 5))
  ((Cb ([([1024, 56] : List Int), ([2048, 80] : List Int), ([3072, 112] : List Int), ([7680, 128] : List Int), ([15360, 192] : List Int)] : List (List Int)) x11_1).bind fun e =>
  cond (decide (bits < (e[0]!)))
   (up (some (e[1]!)))
   (some (.next (W (x11_1 + 1)))))
  (up (
   some 256))
def C6 (bits : Int) : Option (Int) :=
 C2 (fun q' => C6.l1 bits q') 0
def Bb.j1 (u : Az) (x34_1 : Bool) : Option (Int) :=
 cond (x34_1)
  ((C6 u.Bits).bind fun y_2 =>
  some y_2)
  (some 0)
def Bb (u : Az) : Option (Int) :=
 (En u.Alg).bind fun y =>
 cond (!y.2)
  (some 0)
  (cond (decide (y.1.way = 0))
   (cond (decide (u.Bits = 0))
    ((Cb y.1.strengths 0).bind fun e =>
    some e)
    (some 0))
   (cond (decide (y.1.way = 1))
    (cond (decide (512 <= u.Bits))
     (Bb.j1 u (decide (u.Bits <= 16384)))
     (Bb.j1 u false))
    (cond (decide (y.1.way = 2))
     ((Ea ([160, 224, 256, 384, 521] : List Int) u.Bits).bind fun y_3 =>
     cond (y_3)
      ((Mb u.Bits 2).bind fun q =>
      some q)
      (some 0))
     (cond (decide (y.1.way = 3))
      ((Cg y.1.sizes u.Bits).bind fun y_4 =>
      cond (decide (0 <= y_4))
       ((Cb y.1.strengths y_4).bind fun e_2 =>
       some e_2)
       (some 0))
      (some 0)))))
def Fr (u : Az) : Option (Bool) :=
 (Bb u).bind fun y =>
 some (decide (0 < y))
def Hk (alg : Int) : Option (Int) :=
 (En alg).bind fun y =>
 some y.1.kind
def Fy (n : Int) : Option (Bool) :=
 cond (decide (0 <= n))
  (some (decide (n <= 2147483648)))
  (some false)
def Ch.j2 (x8_1 : Int) (x17_2 : Bool) : Option (Lp (Int) (Bool)) :=
 cond (x17_2)
  (up (some false))
  (some (.next (W (x8_1 + 1))))
def Ch.l1 (s : ByteArray) (x8_1 : Int) : Option (Lp (Int) (Bool)) :=
 cond (decide (x8_1 < ((Ny s).length : Int)))
  ((Cb (Ny s) x8_1).bind fun e =>
  cond (decide ((e.toNat : Int) <= 32))
   (Ch.j2 x8_1 true)
   (Ch.j2 x8_1 (decide (126 < (e.toNat : Int)))))
  (up (
   cond (decide (1 <= (s.size : Int)))
    (some (decide ((s.size : Int) <= 32)))
    (some false)))
def Ch (s : ByteArray) : Option (Bool) :=
 C2 (fun q' => Ch.l1 s q') 0
def Co.j2 (x7_1 : Int) (x27_2 : Bool) : Option (Lp (Int) (Bool)) :=
 cond (x27_2)
  (up (some false))
  (some (.next (W (x7_1 + 1))))
def Co.l1 (l : (List ByteArray)) (x7_1 : Int) : Option (Lp (Int) (Bool)) :=
 cond (decide (x7_1 < (l.length : Int)))
  ((Cb l x7_1).bind fun e =>
  (Ch e).bind fun y =>
  cond (!y)
   (Co.j2 x7_1 true)
   (cond (decide (0 < x7_1))
    ((Cb l (W (x7_1 - 1))).bind fun e_2 =>
    Co.j2 x7_1 (!gH (Ny e_2) (Ny e)))
    (Co.j2 x7_1 false)))
  (up (
   some (decide ((l.length : Int) <= 8))))
def Co (l : (List ByteArray)) : Option (Bool) :=
 C2 (fun q' => Co.l1 l q') 0
def Hi (u : Az) (kind : Int) : Option (Bool) :=
 (Fr u).bind fun y =>
 cond (y)
  ((Hk u.Alg).bind fun y_2 =>
  some (decide (y_2 = kind)))
  (some false)
def Hy (n : Int) : Option (Bool) :=
 cond (decide (0 <= n))
  (some (decide (n < 4294967296)))
  (some false)
def Bp.j3 (c : Am) (x73_3 : Bool) : Option (Bool) :=
 cond (x73_3)
  (some false)
  (cond (decide (0 <= c.Path))
   (cond (decide (c.Path <= 8))
    (cond (c.Authority)
     (some true)
     (some (decide (c.Path = 0))))
    (some false))
   (some false))
def Bp.j2 (c : Am) (x58_2 : Bool) : Option (Bool) :=
 cond (x58_2)
  (some false)
  (cond (decide (c.From < 0))
   (Bp.j3 c true)
   (cond (decide (c.To < c.From))
    (Bp.j3 c true)
    (Bp.j3 c (decide (40000 < c.To)))))
def Bp.j1 (c : Am) (x28_1 : Bool) : Option (Bool) :=
 cond (x28_1)
  (some false)
  ((Hi c.Key 2).bind fun y_4 =>
  cond (!y_4)
   (Bp.j2 c true)
   ((Fy c.KeyId).bind fun y_5 =>
   cond (!y_5)
    (Bp.j2 c true)
    ((Hi c.Hash 1).bind fun y_6 =>
    cond (!y_6)
     (Bp.j2 c true)
     ((Fy c.Seal.Key).bind fun y_7 =>
     cond (!y_7)
      (Bp.j2 c true)
      ((Hy c.Seal.Sum).bind fun y_8 =>
      Bp.j2 c (!y_8))))))
def Bp (c : Am) : Option (Bool) :=
 cond (decide (c.Serial < 0))
  (Bp.j1 c true)
  (cond (decide (1099511627776 < c.Serial))
   (Bp.j1 c true)
   ((Ch c.Issuer).bind fun y =>
   cond (!y)
    (Bp.j1 c true)
    ((Ch c.Subject).bind fun y_2 =>
    cond (!y_2)
     (Bp.j1 c true)
     ((Co c.Names).bind fun y_3 =>
     Bp.j1 c (!y_3)))))
def G7 (c : Am) : Option (Int) :=
 (Bp c).bind fun y =>
 cond (!y)
  (some 9)
  (some 0)
def C3.l2 (key : Az) (id : Int) (l : (List Am)) (x30_2 : Int) : Option (Lp (Int) (Bool)) :=
 cond (decide (x30_2 < (l.length : Int)))
  ((Cb l x30_2).bind fun e =>
  (G7 e).bind fun y_4 =>
  cond (!decide (y_4 = 0))
   (up (some false))
   (some (.next (W (x30_2 + 1)))))
  (up (
   cond (decide ((l.length : Int) = 0))
    (some true)
    ((Cb l 0).bind fun e_2 =>
    cond (decide (e_2.Key = key))
     (some (decide (e_2.KeyId = id)))
     (some false))))
def C3.j1 (key : Az) (id : Int) (l : (List Am)) (x27_1 : Bool) : Option (Bool) :=
 cond (x27_1)
  (some false)
  (C2 (fun q' => C3.l2 key id l q') 0)
def C3 (key : Az) (id : Int) (l : (List Am)) : Option (Bool) :=
 (Fr key).bind fun y =>
 cond (!y)
  (C3.j1 key id l true)
  ((Hk key.Alg).bind fun y_2 =>
  cond (!decide (y_2 = 2))
   (C3.j1 key id l true)
   ((Fy id).bind fun y_3 =>
   cond (!y_3)
    (C3.j1 key id l true)
    (C3.j1 key id l (decide (8 < (l.length : Int))))))
def F6 : Option (Unit) :=
 some ()
def E0 (n : Int) : Option (Bool) :=
 (Fy n).bind fun y =>
 some (!y)
def Cf.l1 (s : (List Int)) (f : Int -> Option (Bool)) (x8_1 : Int) : Option (Lp (Int) (Int)) :=
 cond (decide (x8_1 < (s.length : Int)))
  ((Cb s x8_1).bind fun e =>
  (f e).bind fun y =>
  cond (y)
   (up (some x8_1))
   (some (.next (W (x8_1 + 1)))))
  (up (
   some (-1)))
def Cf (s : (List Int)) (f : Int -> Option (Bool)) : Option (Int) :=
 C2 (fun q' => Cf.l1 s f q') 0
def Ec (s : (List Int)) (f : Int -> Option (Bool)) : Option (Bool) :=
 (Cf s f).bind fun y =>
 some (decide (0 <= y))
def F9 : Option (Unit) :=
 some ()
def Iv (alg : Int) : Option (Bool) :=
 (Hk alg).bind fun y =>
 some (decide (y = 1))
def E7 (n : Int) : Option (Bool) :=
 (Iv n).bind fun y =>
 some (!y)
def Bs.j4 (x82_4 : Bool) : Option (Int) :=
 cond (x82_4)
  (some 19)
  (some 0)
def Bs.l3 (e : Aw) (x58_3 : Int) : Option (Lp (Int) (Int)) :=
 cond (decide (x58_3 < (e.Identities.length : Int)))
  ((Cb e.Identities x58_3).bind fun e_2 =>
  (C3 e_2.Key e_2.KeyId e_2.Chain).bind fun y_5 =>
  cond (!y_5)
   (up (some 19))
   (some (.next (W (x58_3 + 1)))))
  (up (
   (F6).bind fun y_6 =>
   (Ec e.Anchors (fun x0 => E0 x0)).bind fun y_7 =>
   cond (y_7)
    (Bs.j4 true)
    ((F9).bind fun y_8 =>
    (Ec e.Hashes (fun x0 => E7 x0)).bind fun y_9 =>
    Bs.j4 y_9)))
def Bs.j2 (e : Aw) (x54_2 : Bool) : Option (Int) :=
 cond (x54_2)
  (some 19)
  (C2 (fun q' => Bs.l3 e q') 0)
def Bs.j1 (e : Aw) (x32_1 : Bool) : Option (Int) :=
 cond (x32_1)
  (some 19)
  (cond (decide (4 < (e.Identities.length : Int)))
   (Bs.j2 e true)
   (cond (decide (16 < (e.Anchors.length : Int)))
    (Bs.j2 e true)
    ((Cw e.Anchors).bind fun y_3 =>
    cond (!y_3)
     (Bs.j2 e true)
     ((Cw e.Hashes).bind fun y_4 =>
     Bs.j2 e (!y_4)))))
def Bs (e : Aw) : Option (Int) :=
 (Fb e.Name).bind fun y =>
 cond (!y)
  (Bs.j1 e true)
  (cond (decide (e.Least < 1))
   (Bs.j1 e true)
   (cond (decide (e.Most < e.Least))
    (Bs.j1 e true)
    (cond (decide (4 < e.Most))
     (Bs.j1 e true)
     ((C8 e.Suites).bind fun y_2 =>
     Bs.j1 e (!y_2)))))
def Bi.j4 (x47_3 : Int) (x81_4 : Bool) : Option (Lp (Int) (Int)) :=
 cond (x81_4)
  (up (some 30))
  (some (.next (W (x47_3 + 1))))
def Bi.j5 (x95_5 : Bool) : Option (Int) :=
 cond (x95_5)
  (some 30)
  (some 0)
def Bi.l3 (i : By) (x47_3 : Int) : Option (Lp (Int) (Int)) :=
 cond (decide (x47_3 < (i.Links.length : Int)))
  ((Cb i.Links x47_3).bind fun e =>
  (Fr e.Use).bind fun y_2 =>
  cond (!y_2)
   (Bi.j4 x47_3 true)
   (cond (decide (e.Day < 0))
    (Bi.j4 x47_3 true)
    (cond (decide (40000 < e.Day))
     (Bi.j4 x47_3 true)
     (cond (decide (0 < x47_3))
      ((Cb i.Links (W (x47_3 - 1))).bind fun e_2 =>
      Bi.j4 x47_3 (decide (e.Day <= e_2.Day)))
      (Bi.j4 x47_3 false)))))
  (up (
   (Cb i.Links 0).bind fun e_3 =>
   cond (decide (i.Until < e_3.Day))
    (Bi.j5 true)
    (Bi.j5 (decide (40000 < i.Until)))))
def Bi.j2 (i : By) (x43_2 : Bool) : Option (Int) :=
 cond (x43_2)
  (some 30)
  (C2 (fun q' => Bi.l3 i q') 0)
def Bi.j1 (i : By) (known_1 : Bool) : Option (Int) :=
 (Ch i.Name).bind fun y =>
 cond (!y)
  (Bi.j2 i true)
  (cond (!known_1)
   (Bi.j2 i true)
   (cond (decide (i.Purpose < 1))
    (Bi.j2 i true)
    (cond (decide (4 < i.Purpose))
     (Bi.j2 i true)
     (cond (decide ((i.Links.length : Int) < 1))
      (Bi.j2 i true)
      (Bi.j2 i (decide (8 < (i.Links.length : Int))))))))
def Bi (i : By) : Option (Int) :=
 cond (decide (i.Kind = 1))
  (Bi.j1 i true)
  (Bi.j1 i (decide (i.Kind = 2)))
def Gl (x' : By) : Option (Bool) :=
 (Bi x').bind fun y =>
 some (!decide (y = 0))
def B4.l1 (s : (List By)) (f : By -> Option (Bool)) (x8_1 : Int) : Option (Lp (Int) (Int)) :=
 cond (decide (x8_1 < (s.length : Int)))
  ((Cb s x8_1).bind fun e =>
  (f e).bind fun y =>
  cond (y)
   (up (some x8_1))
   (some (.next (W (x8_1 + 1)))))
  (up (
   some (-1)))
def B4 (s : (List By)) (f : By -> Option (Bool)) : Option (Int) :=
 C2 (fun q' => B4.l1 s f q') 0
def E2 (s : (List By)) (f : By -> Option (Bool)) : Option (Bool) :=
 (B4 s f).bind fun y =>
 some (decide (0 <= y))
def B9.j3 (x9_1 : Int) (x75_3 : Bool) : Option (Lp (Int) (Bool)) :=
 cond (x75_3)
  (up (some false))
  (some (.next (W (x9_1 + 1))))
def B9.j2 (l : (List Ba)) (x9_1 : Int) (e : Ba) (x40_2 : Bool) : Option (Lp (Int) (Bool)) :=
 cond (x40_2)
  (up (some false))
  (cond (decide (0 < x9_1))
   ((Cb l (W (x9_1 - 1))).bind fun e_2 =>
   cond (decide (e.Client < e_2.Client))
    (B9.j3 x9_1 true)
    (cond (decide (e_2.Client = e.Client))
     (B9.j3 x9_1 (decide (e.Server <= e_2.Server)))
     (B9.j3 x9_1 false)))
   (B9.j3 x9_1 false))
def B9.l1 (l : (List Ba)) (size : Int) (x9_1 : Int) : Option (Lp (Int) (Bool)) :=
 cond (decide (x9_1 < (l.length : Int)))
  ((Cb l x9_1).bind fun e =>
  cond (decide (e.Client < 0))
   (B9.j2 l x9_1 e true)
   (cond (decide (size <= e.Client))
    (B9.j2 l x9_1 e true)
    (cond (decide (e.Server < 0))
     (B9.j2 l x9_1 e true)
     (cond (decide (size <= e.Server))
      (B9.j2 l x9_1 e true)
      (B9.j2 l x9_1 e (decide (e.Client = e.Server)))))))
  (up (
   some (decide ((l.length : Int) <= 40))))
def B9 (l : (List Ba)) (size : Int) : Option (Bool) :=
 C2 (fun q' => B9.l1 l size q') 0
def Ce.j2 (x9_1 : Int) (x32_2 : Bool) : Option (Lp (Int) (Int)) :=
 cond (x32_2)
  (up (some 31))
  (some (.next (W (x9_1 + 1))))
def Ce.j3 (x58_3 : Bool) : Option (Int) :=
 cond (x58_3)
  (some 31)
  (some 0)
def Ce.l1 (e : Bj) (x9_1 : Int) : Option (Lp (Int) (Int)) :=
 cond (decide (x9_1 < (e.Endpoints.length : Int)))
  ((Cb e.Endpoints x9_1).bind fun e_2 =>
  (Bs e_2).bind fun y =>
  cond (!decide (y = 0))
   (Ce.j2 x9_1 true)
   (cond (decide (0 < x9_1))
    ((Cb e.Endpoints (W (x9_1 - 1))).bind fun e_3 =>
    Ce.j2 x9_1 (!gH (Ny e_3.Name) (Ny e_2.Name)))
    (Ce.j2 x9_1 false)))
  (up (
   (E2 e.Items (fun x0 => Gl x0)).bind fun y_2 =>
   cond (y_2)
    (Ce.j3 true)
    (cond (decide (16 < (e.Endpoints.length : Int)))
     (Ce.j3 true)
     (cond (decide (30 < (e.Items.length : Int)))
      (Ce.j3 true)
      ((B9 e.Edges (e.Endpoints.length : Int)).bind fun y_3 =>
      Ce.j3 (!y_3))))))
def Ce (e : Bj) : Option (Int) :=
 C2 (fun q' => Ce.l1 e q') 0
def Is (e : Bj) (c : An) : Option (Bool) :=
 cond (decide (0 <= c.Endpoint))
  (some (decide (c.Endpoint < (e.Endpoints.length : Int))))
  (some false)
def Hg (c : An) (c0 : Bj) : Option (Bool) :=
 (Is c0 c).bind fun y =>
 some (!y)
def Bz.l1 (s : (List An)) (f : An -> Option (Bool)) (x8_1 : Int) : Option (Lp (Int) (Int)) :=
 cond (decide (x8_1 < (s.length : Int)))
  ((Cb s x8_1).bind fun e =>
  (f e).bind fun y =>
  cond (y)
   (up (some x8_1))
   (some (.next (W (x8_1 + 1)))))
  (up (
   some (-1)))
def Bz (s : (List An)) (f : An -> Option (Bool)) : Option (Int) :=
 C2 (fun q' => Bz.l1 s f q') 0
def El (s : (List An)) (f : An -> Option (Bool)) : Option (Bool) :=
 (Bz s f).bind fun y =>
 some (decide (0 <= y))
def Dc.l1 (s : (List Ba)) (v : Ba) (x8_1 : Int) : Option (Lp (Int) (Int)) :=
 cond (decide (x8_1 < (s.length : Int)))
  ((Cb s x8_1).bind fun e =>
  cond (decide (v = e))
   (up (some x8_1))
   (some (.next (W (x8_1 + 1)))))
  (up (
   some (-1)))
def Dc (s : (List Ba)) (v : Ba) : Option (Int) :=
 C2 (fun q' => Dc.l1 s v q') 0
def E5 (s : (List Ba)) (v : Ba) : Option (Bool) :=
 (Dc s v).bind fun y =>
 some (decide (0 <= y))
def Kf (e : Bj) (a : Int) (b : Int) : Option (Bool) :=
 cond (decide (a = b))
  (some true)
  ((E5 e.Edges (Ba.mk a b)).bind fun y =>
  cond (y)
   (some true)
   ((E5 e.Edges (Ba.mk b a)).bind fun y_2 =>
   some y_2))
def Cm.j5 (x32_3 : Int) (out_5 : List Ae) : Option (Lp (Int × List Ae) (Lp (Int × List Ae) ((List Ae) × Int))) :=
 some (.next (W (x32_3 + 1), out_5))
def Cm.j4 (x25_2 : Int) (x32_3 : Int) (out_3 : List Ae) (x61_4 : Bool) : Option (Lp (Int × List Ae) (Lp (Int × List Ae) ((List Ae) × Int))) :=
 cond (x61_4)
  ((Hz 32 out_3 ([(Ae.mk x25_2 x32_3)] : List Ae)).bind fun l_2 =>
  Cm.j5 x32_3 l_2)
  (Cm.j5 x32_3 out_3)
def Cm.l3 (e : Bj) (l : (List An)) (x25_2 : Int) (e_2 : An) (x32_3 : Int) (out_3 : List Ae) : Option (Lp (Int × List Ae) (Lp (Int × List Ae) ((List Ae) × Int))) :=
 cond (decide (x32_3 < (l.length : Int)))
  ((Cb l x32_3).bind fun e_3 =>
  (Cb e.Endpoints e_2.Endpoint).bind fun e_4 =>
  (Cp e_4 e_2).bind fun y_3 =>
  (Cb e.Endpoints e_3.Endpoint).bind fun e_5 =>
  (Cp e_5 e_3).bind fun y_4 =>
  cond (decide (y_3 < y_4))
   ((Kf e e_2.Endpoint e_3.Endpoint).bind fun y_5 =>
   Cm.j4 x25_2 x32_3 out_3 y_5)
   (Cm.j4 x25_2 x32_3 out_3 false))
  (up (
   some (.next (W (x25_2 + 1), out_3))))
def Cm.l2 (e : Bj) (l : (List An)) (x25_2 : Int) (out_2 : List Ae) : Option (Lp (Int × List Ae) ((List Ae) × Int)) :=
 cond (decide (x25_2 < (l.length : Int)))
  ((Cb l x25_2).bind fun e_2 =>
  C2 (fun q' => Cm.l3 e l x25_2 e_2 q'.1 q'.2) (0, out_2))
  (up (
   (C4 out_2).bind fun y_6 =>
   some (y_6, 0)))
def Cm (e : Bj) (l : (List An)) : Option ((List Ae) × Int) :=
 (Ce e).bind fun y =>
 cond (!decide (y = 0))
  (some (([] : (List Ae)), 31))
  (cond (decide (24 < (l.length : Int)))
   (some (([] : (List Ae)), 3))
   ((El l (fun x0 => Hg x0 e)).bind fun y_2 =>
   cond (y_2)
    (some (([] : (List Ae)), 40))
    (C2 (fun q' => Cm.l2 e l q'.1 q'.2) (0, ([] : List Ae)))))
def Fh (r' : Ae) (c0 : Int) : Option (Bool) :=
 cond (decide (r'.First < 0))
  (some true)
  (cond (decide (c0 <= r'.First))
   (some true)
   (cond (decide (r'.Then < 0))
    (some true)
    (cond (decide (c0 <= r'.Then))
     (some true)
     (some (decide (r'.First = r'.Then))))))
def B2.l1 (s : (List Ae)) (f : Ae -> Option (Bool)) (x8_1 : Int) : Option (Lp (Int) (Int)) :=
 cond (decide (x8_1 < (s.length : Int)))
  ((Cb s x8_1).bind fun e =>
  (f e).bind fun y =>
  cond (y)
   (up (some x8_1))
   (some (.next (W (x8_1 + 1)))))
  (up (
   some (-1)))
def B2 (s : (List Ae)) (f : Ae -> Option (Bool)) : Option (Int) :=
 C2 (fun q' => B2.l1 s f q') 0
def Eg (s : (List Ae)) (f : Ae -> Option (Bool)) : Option (Bool) :=
 (B2 s f).bind fun y =>
 some (decide (0 <= y))
def C7.l1 (s1 : (List Ae)) (s2 : (List Ae)) (x13_1 : Int) : Option (Lp (Int) (Bool)) :=
 cond (decide (x13_1 < (s1.length : Int)))
  ((Cb s1 x13_1).bind fun e =>
  (Cb s2 x13_1).bind fun e_2 =>
  cond (!decide (e = e_2))
   (up (some false))
   (some (.next (W (x13_1 + 1)))))
  (up (
   some true))
def C7 (s1 : (List Ae)) (s2 : (List Ae)) : Option (Bool) :=
 cond (!decide ((s1.length : Int) = (s2.length : Int)))
  (some false)
  (C2 (fun q' => C7.l1 s1 s2 q') 0)
def B6.j6 (x30_4 : Int) (ways_6 : (List (Ae × Bool))) : Option (Lp (Int × (List (Ae × Bool))) (Lp (Int × (List (Ae × Bool))) (Lp (Int × (List (Ae × Bool))) ((List (Ae × Bool)))))) :=
 some (.next (W (x30_4 + 1), ways_6))
def B6.j5 (x26_3 : Int) (x30_4 : Int) (ways_4 : (List (Ae × Bool))) (x44_5 : Bool) : Option (Lp (Int × (List (Ae × Bool))) (Lp (Int × (List (Ae × Bool))) (Lp (Int × (List (Ae × Bool))) ((List (Ae × Bool)))))) :=
 cond (x44_5)
  (B6.j6 x30_4 (Ir ways_4 (Ae.mk x26_3 x30_4) true))
  (B6.j6 x30_4 ways_4)
def B6.l4 (n : Int) (x22_2 : Int) (x26_3 : Int) (x30_4 : Int) (ways_4 : (List (Ae × Bool))) : Option (Lp (Int × (List (Ae × Bool))) (Lp (Int × (List (Ae × Bool))) (Lp (Int × (List (Ae × Bool))) ((List (Ae × Bool)))))) :=
 cond (decide (x30_4 < n))
  (cond ((F0 ways_4 (Ae.mk x26_3 x22_2) false))
   (B6.j5 x26_3 x30_4 ways_4 (F0 ways_4 (Ae.mk x22_2 x30_4) false))
   (B6.j5 x26_3 x30_4 ways_4 false))
  (up (
   some (.next (W (x26_3 + 1), ways_4))))
def B6.l3 (n : Int) (x22_2 : Int) (x26_3 : Int) (ways_3 : (List (Ae × Bool))) : Option (Lp (Int × (List (Ae × Bool))) (Lp (Int × (List (Ae × Bool))) ((List (Ae × Bool))))) :=
 cond (decide (x26_3 < n))
  (C2 (fun q' => B6.l4 n x22_2 x26_3 q'.1 q'.2) (0, ways_3))
  (up (
   some (.next (W (x22_2 + 1), ways_3))))
def B6.l2 (n : Int) (x22_2 : Int) (ways_2 : (List (Ae × Bool))) : Option (Lp (Int × (List (Ae × Bool))) ((List (Ae × Bool)))) :=
 cond (decide (x22_2 < n))
  (C2 (fun q' => B6.l3 n x22_2 q'.1 q'.2) (0, ways_2))
  (up (
   some ways_2))
def B6.l1 (n : Int) (l : (List Ae)) (x14_1 : Int) (ways_1 : (List (Ae × Bool))) : Option (Lp (Int × (List (Ae × Bool))) ((List (Ae × Bool)))) :=
 cond (decide (x14_1 < (l.length : Int)))
  ((Cb l x14_1).bind fun e =>
  some (.next (W (x14_1 + 1), Ir ways_1 e true)))
  (up (
   C2 (fun q' => B6.l2 n q'.1 q'.2) (0, ways_1)))
def B6 (n : Int) (l : (List Ae)) : Option ((List (Ae × Bool))) :=
 C2 (fun q' => B6.l1 n l q'.1 q'.2) (0, ([] : (List (Ae × Bool))))
def B0.j7 (x47_4 : Int) (out_7 : List Ae) : Option (Lp (Int × List Ae) ((List Ae) × Int)) :=
 some (.next (W (x47_4 + 1), out_7))
def B0.j6 (x52_5 : Int) (longer_6 : Bool) : Option (Lp (Bool × Int) (Lp (Int × List Ae) ((List Ae) × Int))) :=
 some (.next (longer_6, W (x52_5 + 1)))
def B0.l5 (n : Int) (y_4 : (List (Ae × Bool))) (x47_4 : Int) (out_4 : List Ae) (e : Ae) (longer_5 : Bool) (x52_5 : Int) : Option (Lp (Bool × Int) (Lp (Int × List Ae) ((List Ae) × Int))) :=
 cond (decide (x52_5 < n))
  (cond (longer_5)
   (B0.j6 x52_5 true)
   (cond ((F0 y_4 (Ae.mk e.First x52_5) false))
    (B0.j6 x52_5 (F0 y_4 (Ae.mk x52_5 e.Then) false))
    (B0.j6 x52_5 false)))
  (up (
   cond (!longer_5)
    ((Hz 32 out_4 ([e] : List Ae)).bind fun l_2 =>
    B0.j7 x47_4 l_2)
    (B0.j7 x47_4 out_4)))
def B0.l4 (n : Int) (l : (List Ae)) (y_4 : (List (Ae × Bool))) (x47_4 : Int) (out_4 : List Ae) : Option (Lp (Int × List Ae) ((List Ae) × Int)) :=
 cond (decide (x47_4 < (l.length : Int)))
  ((Cb l x47_4).bind fun e =>
  C2 (fun q' => B0.l5 n y_4 x47_4 out_4 e q'.1 q'.2) (false, 0))
  (up (
   some (out_4, 0)))
def B0.l3 (n : Int) (l : (List Ae)) (y_4 : (List (Ae × Bool))) (x36_3 : Int) : Option (Lp (Int) ((List Ae) × Int)) :=
 cond (decide (x36_3 < n))
  (cond ((F0 y_4 (Ae.mk x36_3 x36_3) false))
   (up (some (([] : (List Ae)), 45)))
   (some (.next (W (x36_3 + 1)))))
  (up (
   C2 (fun q' => B0.l4 n l y_4 q'.1 q'.2) (0, ([] : List Ae))))
def B0.j2 (n : Int) (l : (List Ae)) (x15_2 : Bool) : Option ((List Ae) × Int) :=
 cond (x15_2)
  (some (([] : (List Ae)), 2))
  ((Eg l (fun x0 => Fh x0 n)).bind fun y =>
  cond (y)
   (some (([] : (List Ae)), 44))
   ((C4 l).bind fun y_2 =>
   (C7 y_2 l).bind fun y_3 =>
   cond (!y_3)
    (some (([] : (List Ae)), 6))
    ((B6 n l).bind fun y_4 =>
    C2 (fun q' => B0.l3 n l y_4 q') 0)))
def B0 (n : Int) (l : (List Ae)) : Option ((List Ae) × Int) :=
 cond (decide (n < 0))
  (B0.j2 n l true)
  (B0.j2 n l (decide (24 < n)))
def I4 (i : Int) (c0 : (List An)) : Option (Bool) :=
 cond (decide (0 <= i))
  (some (decide (i < (c0.length : Int))))
  (some false)
def Cs.j6 (x70_4 : Int) (out_6 : List Int) : Option (Lp (Int × List Int) ((List Int) × Int)) :=
 some (.next (W (x70_4 + 1), out_6))
def Cs.j5 (x70_4 : Int) (out_4 : List Int) (x86_5 : Bool) : Option (Lp (Int × List Int) ((List Int) × Int)) :=
 cond (x86_5)
  ((Hz 8 out_4 ([x70_4] : List Int)).bind fun l_2 =>
  Cs.j6 x70_4 l_2)
  (Cs.j6 x70_4 out_4)
def Cs.l4 (e : Bj) (e_4 : An) (e_5 : An) (x70_4 : Int) (out_4 : List Int) : Option (Lp (Int × List Int) ((List Int) × Int)) :=
 cond (decide (x70_4 < (e.Edges.length : Int)))
  ((Cb e.Edges x70_4).bind fun e_6 =>
  cond (decide (e_6 = (Ba.mk e_4.Endpoint e_5.Endpoint)))
   (Cs.j5 x70_4 out_4 true)
   (Cs.j5 x70_4 out_4 (decide (e_6 = (Ba.mk e_5.Endpoint e_4.Endpoint)))))
  (up (
   some (out_4, 0)))
def Cs.j3 (e : Bj) (l : (List An)) (r' : Ae) (x36_3 : Bool) : Option ((List Int) × Int) :=
 cond (x36_3)
  (some (([] : (List Int)), 40))
  ((Cb l r'.First).bind fun e_4 =>
  (Cb l r'.Then).bind fun e_5 =>
  C2 (fun q' => Cs.l4 e e_4 e_5 q'.1 q'.2) (0, ([] : List Int)))
def Cs.j2 (e : Bj) (l : (List An)) (r' : Ae) (x23_2 : Bool) : Option ((List Int) × Int) :=
 cond (x23_2)
  (some (([] : (List Int)), 44))
  ((Cb l r'.First).bind fun e_2 =>
  (Is e e_2).bind fun y_4 =>
  cond (!y_4)
   (Cs.j3 e l r' true)
   ((Cb l r'.Then).bind fun e_3 =>
   (Is e e_3).bind fun y_5 =>
   Cs.j3 e l r' (!y_5)))
def Cs (e : Bj) (l : (List An)) (r' : Ae) : Option ((List Int) × Int) :=
 (Ce e).bind fun y =>
 cond (!decide (y = 0))
  (some (([] : (List Int)), 31))
  (cond (decide (24 < (l.length : Int)))
   (some (([] : (List Int)), 3))
   ((I4 r'.First l).bind fun y_2 =>
   cond (!y_2)
    (Cs.j2 e l r' true)
    ((I4 r'.Then l).bind fun y_3 =>
    Cs.j2 e l r' (!y_3))))
def Bx.j5 (x48_3 : Int) (x113_5 : Bool) : Option (Lp (Int) (Bool)) :=
 cond (x113_5)
  (up (some false))
  (some (.next (W (x48_3 + 1))))
def Bx.j4 (y_4 : Bj × Ac) (y_5 : (List An) × Ac) (x48_3 : Int) (e : Ae) (x63_4 : Bool) : Option (Lp (Int) (Bool)) :=
 cond (x63_4)
  (up (some false))
  ((Cb y_5.1 e.First).bind fun e_2 =>
  (Cb y_5.1 e.Then).bind fun e_3 =>
  (Cs y_4.1 y_5.1 e).bind fun y_8 =>
  cond (!decide (y_8.2 = 0))
   (Bx.j5 x48_3 true)
   ((Cb y_4.1.Endpoints e_2.Endpoint).bind fun e_4 =>
   (Cp e_4 e_2).bind fun y_9 =>
   (Cb y_4.1.Endpoints e_3.Endpoint).bind fun e_5 =>
   (Cp e_5 e_3).bind fun y_10 =>
   cond (decide (y_10 <= y_9))
    (Bx.j5 x48_3 true)
    (cond (!decide (e_2.Endpoint = e_3.Endpoint))
     (Bx.j5 x48_3 (decide ((y_8.1.length : Int) = 0)))
     (Bx.j5 x48_3 false))))
def Bx.l3 (y_4 : Bj × Ac) (y_5 : (List An) × Ac) (y_6 : (List Ae) × Int) (x48_3 : Int) : Option (Lp (Int) (Bool)) :=
 cond (decide (x48_3 < (y_6.1.length : Int)))
  ((Cb y_6.1 x48_3).bind fun e =>
  cond (decide ((y_5.1.length : Int) <= e.First))
   (Bx.j4 y_4 y_5 x48_3 e true)
   (Bx.j4 y_4 y_5 x48_3 e (decide ((y_5.1.length : Int) <= e.Then))))
  (up (
   (I3).bind fun y_11 =>
   some y_11))
def Bx.j2 (y_4 : Bj × Ac) (y_5 : (List An) × Ac) (y_6 : (List Ae) × Int) (x45_2 : Bool) : Option (Bool) :=
 cond (x45_2)
  (some false)
  (C2 (fun q' => Bx.l3 y_4 y_5 y_6 q') 0)
def Bx (t : (List Int)) : Option (Bool) :=
 (Ms t).bind fun y =>
 cond (!y)
  ((I3).bind fun y_2 =>
  some y_2)
  ((N4 t).bind fun y_3 =>
  (Bm y_3).bind fun y_4 =>
  (A1 y_4.2 y_4.1).bind fun y_5 =>
  (Cm y_4.1 y_5.1).bind fun y_6 =>
  (B0 (y_5.1.length : Int) y_6.1).bind fun y_7 =>
  cond (!decide (y_6.2 = 0))
   (Bx.j2 y_4 y_5 y_6 true)
   (Bx.j2 y_4 y_5 y_6 (!decide (y_7.2 = 0))))
end
end Go.Proofs.YtkpcbnnlefcebaaGreat
