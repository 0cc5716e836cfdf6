import Derived.Test.YtkoflhimdenjaaaGreatPU
set_option linter.unusedVariables false
set_option linter.unusedSimpArgs false
namespace Go.Proofs.YtkoflhimdenjaaaGreat
noncomputable section
structure Ah where
 L : (List Int)
 At : Int
 deriving DecidableEq, Inhabited
structure Aw where
 Alg : Int
 Bits : Int
 deriving DecidableEq, Inhabited
structure D2 where
 Key : Int
 Sum : Int
 deriving DecidableEq, Inhabited
structure Ai where
 Serial : Int
 Issuer : ByteArray
 Subject : ByteArray
 Key : Aw
 KeyId : Int
 Hash : Aw
 From : Int
 To : Int
 Authority : Bool
 Path : Int
 Names : (List ByteArray)
 Seal : D2
 deriving DecidableEq, Inhabited
structure A5 where
 Key : Aw
 KeyId : Int
 Chain : (List Ai)
 deriving DecidableEq, Inhabited
structure Ao where
 Name : ByteArray
 Least : Int
 Most : Int
 Suites : (List Int)
 OwnOrder : Bool
 Identities : (List A5)
 Anchors : (List Int)
 Hashes : (List Int)
 Fallback : Bool
 deriving DecidableEq, Inhabited
structure Bo where
 Client : Int
 Server : Int
 deriving DecidableEq, Inhabited
structure C2 where
 Use : Aw
 Day : Int
 deriving DecidableEq, Inhabited
structure Di where
 Name : ByteArray
 Kind : Int
 Purpose : Int
 Links : (List C2)
 Until : Int
 deriving DecidableEq, Inhabited
structure C1 where
 Endpoints : (List Ao)
 Edges : (List Bo)
 Items : (List Di)
 deriving DecidableEq, Inhabited
structure Aa where
 Source : Int
 Host : ByteArray
 Machine : Int
 Day : Int
 Confidence : Int
 Kind : Int
 Subject : ByteArray
 Use : Aw
 Number : Int
 Text : ByteArray
 deriving DecidableEq, Inhabited
structure Ap where
 name : ByteArray
 kind : Int
 deriving DecidableEq, Inhabited
structure Ae where
 Tag : Int
 Bytes : (List UInt8)
 Nested : Bool
 Elements : (List Ae)
structure C8 where
 at_ : Aa
 l : (List Aa)
 deriving DecidableEq, Inhabited
structure Bu where
 name : ByteArray
 kind : Int
 way : Int
 sizes : (List Int)
 strengths : (List Int)
 deriving DecidableEq, Inhabited
structure A7 where
 Code : Int
 Name : ByteArray
 Exchange : Aw
 Sign : Aw
 Cipher : Aw
 Mac : Aw
 Least : Int
 Most : Int
 deriving DecidableEq, Inhabited
structure Cu where
 host : ByteArray
 day : Int
 kind : Int
 use : Aw
 number : Int
 text : ByteArray
 deriving DecidableEq, Inhabited
def Ma (l : (List Int)) : Option (Bool) :=
 some (decide ((l.length : Int) <= 400))
def K0 (host : ByteArray) (day : Int) : Option (Aa) :=
 some (Aa.mk 3 host 1 day 90 4 (⟨#[116, 108, 115]⟩ : ByteArray) (Aw.mk 0 0) 1 (⟨#[]⟩ : ByteArray))
def By.l1 (s : (List Int)) (v : Int) (x8_1 : Int) : Option (Lp (Int) (Int)) :=
 cond (decide (x8_1 < (s.length : Int)))
  ((B3 s x8_1).bind fun e =>
  cond (decide (v = e))
   (up (some x8_1))
   (some (.next (W (x8_1 + 1)))))
  (up (
   some (-1)))
def By (s : (List Int)) (v : Int) : Option (Int) :=
 Ch (fun q' => By.l1 s v q') 0
def Cg (s : (List Int)) (v : Int) : Option (Bool) :=
 (By s v).bind fun y =>
 some (decide (0 <= y))
def El (x' : A5) (c0 : Aa) : Option (Bool) :=
 cond (decide (x'.Key = c0.Use))
  (some (decide (x'.KeyId = c0.Number)))
  (some false)
def Bg.l1 (s : (List A5)) (f : A5 -> Option (Bool)) (x8_1 : Int) : Option (Lp (Int) (Int)) :=
 cond (decide (x8_1 < (s.length : Int)))
  ((B3 s x8_1).bind fun e =>
  (f e).bind fun y =>
  cond (y)
   (up (some x8_1))
   (some (.next (W (x8_1 + 1)))))
  (up (
   some (-1)))
def Bg (s : (List A5)) (f : A5 -> Option (Bool)) : Option (Int) :=
 Ch (fun q' => Bg.l1 s f q') 0
def Ew (s : (List A5)) (f : A5 -> Option (Bool)) : Option (Bool) :=
 (Bg s f).bind fun y =>
 some (decide (0 <= y))
def D8 (e : Ao) (f : Aa) : Option (Bool) :=
 cond (!decide (f.Host = e.Name))
  (some false)
  (cond (decide (f.Kind = 2))
   ((Cg e.Suites f.Number).bind fun y =>
   some (!y))
   (cond (decide (f.Kind = 3))
    ((Ew e.Identities (fun x0 => El x0 f)).bind fun y_2 =>
    some (!y_2))
    (cond (decide (f.Kind = 4))
     (some (!decide (f.Number = e.Most)))
     (cond (decide (f.Kind = 5))
      (some (!decide (f.Number = e.Least)))
      (cond (decide (f.Kind = 6))
       ((Cg e.Anchors f.Number).bind fun y_3 =>
       some (!y_3))
       (some false))))))
def Iz : Option (Bool) :=
 (K0 (⟨#[97, 112, 112]⟩ : ByteArray) 3).bind fun y =>
 (D8 (Ao.mk (⟨#[97, 112, 112]⟩ : ByteArray) 1 3 ([10] : List Int) false ([] : (List A5)) ([] : (List Int)) ([] : (List Int)) false) (Aa.mk y.Source y.Host y.Machine y.Day y.Confidence 2 y.Subject y.Use 2 y.Text)).bind fun y_2 =>
 cond (y_2)
  ((D8 (Ao.mk (⟨#[97, 112, 112]⟩ : ByteArray) 1 3 ([10] : List Int) false ([] : (List A5)) ([] : (List Int)) ([] : (List Int)) false) (Aa.mk y.Source y.Host y.Machine y.Day y.Confidence 2 y.Subject y.Use 10 y.Text)).bind fun y_3 =>
  some (!y_3))
  (some false)
def N0 (l : (List Int)) : Option (Ah) :=
 some (Ah.mk l 0)
def Mx (n : Int) (k : Int) : Option (Int) :=
 cond (decide (k < 1))
  (some 0)
  ((R4 n k).bind fun q =>
  (R4 (W (q + k)) k).bind fun q_2 =>
  some q_2)
def Cw (d : Ah) (n : Int) : Option (Int × Ah) :=
 cond (decide ((d.L.length : Int) <= d.At))
  (some (0, d))
  ((B3 d.L (W ((W (d.At + 1)) - 1))).bind fun e =>
  (Mx e n).bind fun y =>
  some (y, (Ah.mk d.L (W (d.At + 1)))))
def Hi (d : Ah) (l : (List Int)) : Option (Int × Ah) :=
 (Cw d (l.length : Int)).bind fun y =>
 (B3 l y.1).bind fun e =>
 some (e, y.2)
def Hx (d : Ah) (n : Int) : Option (Bool × Ah) :=
 (Cw d n).bind fun y =>
 some (decide (y.1 = (W (n - 1))), y.2)
def O8 : Option (Aw) :=
 some (Aw.mk 5 2048)
def Kb (c : Ai) : Option (Ai) :=
 (Lr 16 ([] : List ByteArray) c.Names).bind fun l =>
 some (Ai.mk c.Serial c.Issuer c.Subject c.Key c.KeyId c.Hash c.From c.To c.Authority c.Path l c.Seal)
def B6.j3 (i_2 : Int) (x27_3 : Bool) : Option (Lp (Int) (Bool)) :=
 cond (x27_3)
  (up (some false))
  (some (.next (W (i_2 + 1))))
def B6.l2 (s : ByteArray) (i_2 : Int) : Option (Lp (Int) (Bool)) :=
 cond (decide (i_2 < (s.size : Int)))
  ((bX s i_2).bind fun c =>
  cond (decide ((c.toNat : Int) < 33))
   (B6.j3 i_2 true)
   ((bX s i_2).bind fun c_2 =>
   B6.j3 i_2 (decide (126 < (c_2.toNat : Int)))))
  (up (
   some true))
def B6.j1 (s : ByteArray) (x11_1 : Bool) : Option (Bool) :=
 cond (x11_1)
  (some false)
  (Ch (fun q' => B6.l2 s q') 0)
def B6 (s : ByteArray) : Option (Bool) :=
 cond (decide ((s.size : Int) < 1))
  (B6.j1 s true)
  (B6.j1 s (decide (32 < (s.size : Int))))
def C4.j1 (b : Int) (x3_1 : Bool) : Option (Int) :=
 cond (x3_1)
  (some 0)
  (cond (decide (b < 1024))
   (some 56)
   (cond (decide (b < 2048))
    (some 80)
    (cond (decide (b < 3072))
     (some 112)
     (cond (decide (b < 7680))
      (some 128)
      (cond (decide (b < 15360))
       (some 192)
       (some 256))))))
def C4 (b : Int) : Option (Int) :=
 cond (decide (b < 512))
  (C4.j1 b true)
  (C4.j1 b (decide (16384 < b)))
def Bs.l1 (b : Int) (sizes : (List Int)) (strengths : (List Int)) (i_1 : Int) : Option (Lp (Int) (Int)) :=
 cond (decide (i_1 < (sizes.length : Int)))
  ((B3 sizes i_1).bind fun e =>
  cond (decide (e = b))
   ((B3 strengths i_1).bind fun e_2 =>
   up (some e_2))
   (some (.next (W (i_1 + 1)))))
  (up (
   some 0))
def Bs (b : Int) (sizes : (List Int)) (strengths : (List Int)) : Option (Int) :=
 Ch (fun q' => Bs.l1 b sizes strengths q') 0
def Cs.j2 (alg : Int) (x14_2 : Bool) : Option (Int) :=
 cond (x14_2)
  (some 256)
  (cond (decide (alg = 19))
   (some 64)
   (cond (decide (alg = 20))
    (some 80)
    (some 0)))
def Cs.j1 (alg : Int) (x8_1 : Bool) : Option (Int) :=
 cond (x8_1)
  (some 128)
  (cond (decide (alg = 4))
   (some 192)
   (cond (decide (alg = 18))
    (Cs.j2 alg (decide (alg = 18)))
    (Cs.j2 alg (decide (alg = 22)))))
def Cs (alg : Int) : Option (Int) :=
 cond (decide (alg = 1))
  (some 18)
  (cond (decide (alg = 2))
   (some 60)
   (cond (decide (alg = 3))
    (Cs.j1 alg (decide (alg = 3)))
    (cond (decide (alg = 8))
     (Cs.j1 alg (decide (alg = 8)))
     (Cs.j1 alg (decide (alg = 21))))))
def As.j3 (u : Aw) (x35_3 : Bool) : Option (Int) :=
 cond (x35_3)
  ((Lg u.Bits 2).bind fun q =>
  some q)
  (some 0)
def As.j4 (u : Aw) (x62_4 : Bool) : Option (Int) :=
 cond (x62_4)
  ((Bs u.Bits ([128, 256] : List Int) ([128, 256] : List Int)).bind fun y_6 =>
  some y_6)
  ((Cs u.Alg).bind fun y_7 =>
  (Bs u.Bits ([0] : List Int) ([y_7] : List Int)).bind fun y_8 =>
  some y_8)
def As.j2 (u : Aw) (x15_2 : Bool) : Option (Int) :=
 cond (x15_2)
  (cond (decide (u.Bits = 160))
   (As.j3 u true)
   (cond (decide (u.Bits = 224))
    (As.j3 u true)
    (cond (decide (u.Bits = 256))
     (As.j3 u true)
     (cond (decide (u.Bits = 384))
      (As.j3 u true)
      (As.j3 u (decide (u.Bits = 521)))))))
  (cond (decide (u.Alg = 9))
   ((Bs u.Bits ([44, 65, 87] : List Int) ([128, 192, 256] : List Int)).bind fun y_2 =>
   some y_2)
   (cond (decide (u.Alg = 13))
    ((Bs u.Bits ([512, 768, 1024] : List Int) ([128, 192, 256] : List Int)).bind fun y_3 =>
    some y_3)
    (cond (decide (u.Alg = 14))
     ((Bs u.Bits ([40, 128] : List Int) ([40, 60] : List Int)).bind fun y_4 =>
     some y_4)
     (cond (decide (u.Alg = 15))
      ((Bs u.Bits ([112, 168] : List Int) ([80, 112] : List Int)).bind fun y_5 =>
      some y_5)
      (cond (decide (u.Alg = 16))
       (As.j4 u (decide (u.Alg = 16)))
       (As.j4 u (decide (u.Alg = 17))))))))
def As.j1 (u : Aw) (x8_1 : Bool) : Option (Int) :=
 cond (x8_1)
  ((C4 u.Bits).bind fun y =>
  some y)
  (cond (decide (u.Alg = 7))
   (As.j2 u (decide (u.Alg = 7)))
   (As.j2 u (decide (u.Alg = 12))))
def As (u : Aw) : Option (Int) :=
 cond (decide (u.Alg = 5))
  (As.j1 u (decide (u.Alg = 5)))
  (cond (decide (u.Alg = 6))
   (As.j1 u (decide (u.Alg = 6)))
   (cond (decide (u.Alg = 10))
    (As.j1 u (decide (u.Alg = 10)))
    (As.j1 u (decide (u.Alg = 11)))))
def I0 (u : Aw) : Option (Bool) :=
 (As u).bind fun y =>
 some (decide (0 < y))
def Pf : Option ((List Ap)) :=
 some ([(Ap.mk (⟨#[]⟩ : ByteArray) 0), (Ap.mk (⟨#[109, 100, 53]⟩ : ByteArray) 1), (Ap.mk (⟨#[115, 104, 97, 49]⟩ : ByteArray) 1), (Ap.mk (⟨#[115, 104, 97, 50, 53, 54]⟩ : ByteArray) 1), (Ap.mk (⟨#[115, 104, 97, 51, 56, 52]⟩ : ByteArray) 1), (Ap.mk (⟨#[114, 115, 97]⟩ : ByteArray) 2), (Ap.mk (⟨#[100, 115, 97]⟩ : ByteArray) 2), (Ap.mk (⟨#[101, 99, 100, 115, 97]⟩ : ByteArray) 2), (Ap.mk (⟨#[101, 100, 50, 53, 53, 49, 57]⟩ : ByteArray) 2), (Ap.mk (⟨#[109, 108, 100, 115, 97]⟩ : ByteArray) 2), (Ap.mk (⟨#[114, 115, 97, 107, 120]⟩ : ByteArray) 3), (Ap.mk (⟨#[100, 104, 101]⟩ : ByteArray) 3), (Ap.mk (⟨#[101, 99, 100, 104, 101]⟩ : ByteArray) 3), (Ap.mk (⟨#[109, 108, 107, 101, 109]⟩ : ByteArray) 3), (Ap.mk (⟨#[114, 99, 52]⟩ : ByteArray) 4), (Ap.mk (⟨#[100, 101, 115, 51]⟩ : ByteArray) 4), (Ap.mk (⟨#[97, 101, 115, 99, 98, 99]⟩ : ByteArray) 4), (Ap.mk (⟨#[97, 101, 115, 103, 99, 109]⟩ : ByteArray) 4), (Ap.mk (⟨#[99, 104, 97, 99, 104, 97]⟩ : ByteArray) 4), (Ap.mk (⟨#[104, 109, 97, 99, 109, 100, 53]⟩ : ByteArray) 5), (Ap.mk (⟨#[104, 109, 97, 99, 115, 104, 97, 49]⟩ : ByteArray) 5), (Ap.mk (⟨#[104, 109, 97, 99, 115, 104, 97, 50, 53, 54]⟩ : ByteArray) 5), (Ap.mk (⟨#[97, 101, 97, 100]⟩ : ByteArray) 5)] : List Ap)
def D9.j1 (alg : Int) (x8_1 : Bool) : Option (Int) :=
 cond (x8_1)
  (some 0)
  ((Pf).bind fun y =>
  (B3 y alg).bind fun e =>
  some e.kind)
def D9 (alg : Int) : Option (Int) :=
 cond (decide (alg < 1))
  (D9.j1 alg true)
  (D9.j1 alg (decide (22 < alg)))
def H5 (u : Aw) : Option (Bool) :=
 (I0 u).bind fun y =>
 cond (y)
  ((D9 u.Alg).bind fun y_2 =>
  some (decide (y_2 = 2)))
  (some false)
def A1.j5 (i_4 : Int) (x123_5 : Bool) : Option (Lp (Int) (Int)) :=
 cond (x123_5)
  (up (some 9))
  (some (.next (W (i_4 + 1))))
def A1.j6 (x145_6 : Bool) : Option (Int) :=
 cond (x145_6)
  (some 9)
  (some 0)
def A1.l4 (c : Ai) (i_4 : Int) : Option (Lp (Int) (Int)) :=
 cond (decide (i_4 < (c.Names.length : Int)))
  ((B3 c.Names i_4).bind fun e =>
  (B6 e).bind fun y_6 =>
  cond (!y_6)
   (A1.j5 i_4 true)
   (cond (decide (0 < i_4))
    ((B3 c.Names (W (i_4 - 1))).bind fun e_2 =>
    A1.j5 i_4 (!Lu (Jc e_2) (Jc e)))
    (A1.j5 i_4 false)))
  (up (
   cond (decide (c.Seal.Key < 0))
    (A1.j6 true)
    (cond (decide (2147483648 < c.Seal.Key))
     (A1.j6 true)
     (cond (decide (c.Seal.Sum < 0))
      (A1.j6 true)
      (A1.j6 (decide (4294967296 <= c.Seal.Sum)))))))
def A1.j3 (c : Ai) (x91_3 : Bool) : Option (Int) :=
 cond (x91_3)
  (some 9)
  (Ch (fun q' => A1.l4 c q') 0)
def A1.j2 (c : Ai) (x67_2 : Bool) : Option (Int) :=
 cond (x67_2)
  (some 9)
  (cond (decide (c.Path < 0))
   (A1.j3 c true)
   (cond (decide (8 < c.Path))
    (A1.j3 c true)
    (cond (!c.Authority)
     (cond (!decide (c.Path = 0))
      (A1.j3 c true)
      (A1.j3 c (decide (8 < (c.Names.length : Int)))))
     (A1.j3 c (decide (8 < (c.Names.length : Int)))))))
def A1.j1 (c : Ai) (x39_1 : Bool) : Option (Int) :=
 cond (x39_1)
  (some 9)
  ((I0 c.Hash).bind fun y_4 =>
  cond (!y_4)
   (A1.j2 c true)
   ((D9 c.Hash.Alg).bind fun y_5 =>
   cond (!decide (y_5 = 1))
    (A1.j2 c true)
    (cond (decide (c.From < 0))
     (A1.j2 c true)
     (cond (decide (c.To < c.From))
      (A1.j2 c true)
      (A1.j2 c (decide (40000 < c.To)))))))
def A1 (c : Ai) : Option (Int) :=
 cond (decide (c.Serial < 0))
  (A1.j1 c true)
  (cond (decide (1099511627776 < c.Serial))
   (A1.j1 c true)
   ((B6 c.Issuer).bind fun y =>
   cond (!y)
    (A1.j1 c true)
    ((B6 c.Subject).bind fun y_2 =>
    cond (!y_2)
     (A1.j1 c true)
     ((H5 c.Key).bind fun y_3 =>
     cond (!y_3)
      (A1.j1 c true)
      (cond (decide (c.KeyId < 0))
       (A1.j1 c true)
       (A1.j1 c (decide (2147483648 < c.KeyId))))))))
def Iq (s : ByteArray) : Option (Ae) :=
 some (Ae.mk 12 (Jc s) false ([] : (List Ae)))
def B5.j2 (x_1 : Int) (b_1 : List UInt8) (x35_2 : Bool) : Option (Lp (Int × List UInt8) (Ae)) :=
 cond (x35_2)
  ((Lr 1 ([(u8 x_1)] : List UInt8) b_1).bind fun l =>
  (Px .i64 x_1 8).bind fun q_2 =>
  some (.next (q_2, l)))
  (up (
   some (Ae.mk 2 b_1 false ([] : (List Ae)))))
def B5.l1 (x_1 : Int) (b_1 : List UInt8) : Option (Lp (Int × List UInt8) (Ae)) :=
 cond (!decide (x_1 = 0))
  (cond (!decide (x_1 = (-1)))
   (B5.j2 x_1 b_1 true)
   (cond (decide (x_1 = 0))
    ((B3 b_1 0).bind fun e =>
    cond (decide (128 <= (e.toNat : Int)))
     (B5.j2 x_1 b_1 true)
     (cond (decide (x_1 = (-1)))
      (B5.j2 x_1 b_1 (decide ((e.toNat : Int) < 128)))
      (B5.j2 x_1 b_1 false)))
    (cond (decide (x_1 = (-1)))
     ((B3 b_1 0).bind fun e_2 =>
     B5.j2 x_1 b_1 (decide ((e_2.toNat : Int) < 128)))
     (B5.j2 x_1 b_1 false))))
  (cond (decide (x_1 = 0))
   ((B3 b_1 0).bind fun e_3 =>
   cond (decide (128 <= (e_3.toNat : Int)))
    (B5.j2 x_1 b_1 true)
    (cond (decide (x_1 = (-1)))
     (B5.j2 x_1 b_1 (decide ((e_3.toNat : Int) < 128)))
     (B5.j2 x_1 b_1 false)))
   (cond (decide (x_1 = (-1)))
    ((B3 b_1 0).bind fun e_4 =>
    B5.j2 x_1 b_1 (decide ((e_4.toNat : Int) < 128)))
    (B5.j2 x_1 b_1 false)))
def B5 (n : Int) : Option (Ae) :=
 (Px .i64 n 8).bind fun q =>
 Ch (fun q' => B5.l1 q'.1 q'.2) (q, ([(u8 n)] : List UInt8))
def Ca.l1 (rec : (List Ae) -> Option ((List Ae))) (l : (List Ae)) (i_1 : Int) (out_1 : List Ae) : Option (Lp (Int × List Ae) ((List Ae))) :=
 cond (decide (i_1 < (l.length : Int)))
  ((B3 l i_1).bind fun e =>
  (Lr 1 ([] : List UInt8) e.Bytes).bind fun l_2 =>
  (rec e.Elements).bind fun y =>
  (Lr 256 out_1 ([(Ae.mk e.Tag l_2 e.Nested y)] : List Ae)).bind fun l_3 =>
  some (.next (W (i_1 + 1), l_3)))
  (up (
   some out_1))
def Ca.F (rec : (List Ae) -> Option ((List Ae))) (l : (List Ae)) : Option ((List Ae)) :=
 Ch (fun q' => Ca.l1 rec l q'.1 q'.2) (0, ([] : List Ae))
def Ca (l : (List Ae)) : Option ((List Ae)) := V6 (fun rec (x : (List Ae)) => Ca.F (fun l => rec l) x) l
def H4 (l : (List Ae)) : Option (Ae) :=
 (Ca l).bind fun y =>
 some (Ae.mk 48 ([] : (List UInt8)) true y)
def J1 (u : Aw) : Option (Ae) :=
 (B5 u.Alg).bind fun y =>
 (B5 u.Bits).bind fun y_2 =>
 (H4 ([y, y_2] : List Ae)).bind fun y_3 =>
 some y_3
def L6 (b : Bool) : Option (Ae) :=
 cond (b)
  (some (Ae.mk 1 ([(255 : UInt8)] : List UInt8) false ([] : (List Ae))))
  (some (Ae.mk 1 ([(0 : UInt8)] : List UInt8) false ([] : (List Ae))))
def D1.l1 (c : Ai) (i_1 : Int) (names_1 : List Ae) : Option (Lp (Int × List Ae) (Ae)) :=
 cond (decide (i_1 < (c.Names.length : Int)))
  ((B3 c.Names i_1).bind fun e =>
  (Iq e).bind fun y =>
  (Lr 256 names_1 ([y] : List Ae)).bind fun l =>
  some (.next (W (i_1 + 1), l)))
  (up (
   (B5 c.Serial).bind fun y_12 =>
   (Iq c.Issuer).bind fun y_13 =>
   (Iq c.Subject).bind fun y_14 =>
   (J1 c.Key).bind fun y_15 =>
   (B5 c.KeyId).bind fun y_16 =>
   (J1 c.Hash).bind fun y_17 =>
   (B5 c.From).bind fun y_18 =>
   (B5 c.To).bind fun y_19 =>
   (L6 c.Authority).bind fun y_20 =>
   (B5 c.Path).bind fun y_21 =>
   (H4 names_1).bind fun y_22 =>
   (H4 ([y_12, y_13, y_14, y_15, y_16, y_17, y_18, y_19, y_20, y_21, y_22] : List Ae)).bind fun y_23 =>
   some y_23))
def D1 (c : Ai) : Option (Ae) :=
 Ch (fun q' => D1.l1 c q'.1 q'.2) (0, ([] : List Ae))
def La (n : Int) : Option (Bool) :=
 cond (decide (1 <= n))
  (cond (decide (n <= 255))
   ((R4 n 32).bind fun q =>
   some (!decide (q = 31)))
   (some false))
  (some false)
def Bn.l2 (rec : Ae -> Option (Bool)) (v : Ae) (i_2 : Int) : Option (Lp (Int) (Bool)) :=
 cond (decide (i_2 < (v.Elements.length : Int)))
  ((B3 v.Elements i_2).bind fun e =>
  (rec e).bind fun y_2 =>
  cond (!y_2)
   (up (some false))
   (some (.next (W (i_2 + 1)))))
  (up (
   some true))
def Bn.j1 (rec : Ae -> Option (Bool)) (v : Ae) (x38_1 : Bool) : Option (Bool) :=
 cond (x38_1)
  (some false)
  (Ch (fun q' => Bn.l2 rec v q') 0)
def Bn.F (rec : Ae -> Option (Bool)) (v : Ae) : Option (Bool) :=
 (La v.Tag).bind fun y =>
 cond (!y)
  (Bn.j1 rec v true)
  ((Lg v.Tag 32).bind fun q =>
  (R4 q 2).bind fun q_2 =>
  cond (!decide (v.Nested = (decide (q_2 = 1))))
   (Bn.j1 rec v true)
   (cond (v.Nested)
    (cond (decide (0 < (v.Bytes.length : Int)))
     (Bn.j1 rec v true)
     (Bn.j1 rec v false))
    (Bn.j1 rec v (decide (0 < (v.Elements.length : Int))))))
def Bn (v : Ae) : Option (Bool) := V6 (fun rec (x : Ae) => Bn.F (fun v => rec v) x) v
def Cl.l1 (rec : Ae -> Option (Int)) (v : Ae) (d_1 : Int) (i_1 : Int) : Option (Lp (Int × Int) (Int)) :=
 cond (decide (i_1 < (v.Elements.length : Int)))
  ((B3 v.Elements i_1).bind fun e =>
  (rec e).bind fun y =>
  some (.next (max d_1 y, W (i_1 + 1))))
  (up (
   some (W (d_1 + 1))))
def Cl.F (rec : Ae -> Option (Int)) (v : Ae) : Option (Int) :=
 Ch (fun q' => Cl.l1 rec v q'.1 q'.2) (0, 0)
def Cl (v : Ae) : Option (Int) := V6 (fun rec (x : Ae) => Cl.F (fun v => rec v) x) v
def Dq.l1 (n_1 : Int) (b_1 : List UInt8) : Option (Lp (Int × List UInt8) ((List UInt8))) :=
 cond (decide (0 < n_1))
  ((R4 n_1 256).bind fun q =>
  (Lr 1 ([(u8 q)] : List UInt8) b_1).bind fun l =>
  (Lg n_1 256).bind fun q_2 =>
  some (.next (q_2, l)))
  (up (
   (Lr 1 ([(u8 (W (128 + (b_1.length : Int))))] : List UInt8) b_1).bind fun l_2 =>
   some l_2))
def Dq (n : Int) : Option ((List UInt8)) :=
 cond (decide (n < 128))
  (some ([(u8 n)] : List UInt8))
  (Ch (fun q' => Dq.l1 q'.1 q'.2) (n, ([] : List UInt8)))
def Cz.l1 (rec : Ae -> Option ((List UInt8))) (v : Ae) (i_1 : Int) (b_1 : List UInt8) : Option (Lp (Int × List UInt8) ((List UInt8))) :=
 cond (decide (i_1 < (v.Elements.length : Int)))
  ((B3 v.Elements i_1).bind fun e =>
  (rec e).bind fun y =>
  (Lr 1 b_1 y).bind fun l_2 =>
  some (.next (W (i_1 + 1), l_2)))
  (up (
   (Dq (b_1.length : Int)).bind fun y_2 =>
   (Lr 1 ([(u8 v.Tag)] : List UInt8) y_2).bind fun l_3 =>
   (Lr 1 l_3 b_1).bind fun l_4 =>
   some l_4))
def Cz.F (rec : Ae -> Option ((List UInt8))) (v : Ae) : Option ((List UInt8)) :=
 (Lr 1 ([] : List UInt8) v.Bytes).bind fun l =>
 Ch (fun q' => Cz.l1 rec v q'.1 q'.2) (0, l)
def Cz (v : Ae) : Option ((List UInt8)) := V6 (fun rec (x : Ae) => Cz.F (fun v => rec v) x) v
def Jd (v : Ae) : Option ((List UInt8) × Int) :=
 (Bn v).bind fun y =>
 cond (!y)
  (some (([] : (List UInt8)), 1))
  ((Cl v).bind fun y_2 =>
  cond (decide (16 < y_2))
   (some (([] : (List UInt8)), 3))
   ((Cz v).bind fun y_3 =>
   cond (decide (4096 < (y_3.length : Int)))
    (some (([] : (List UInt8)), 3))
    (some (y_3, 0))))
def I1 (c : Ai) : Option ((List UInt8) × Int) :=
 (A1 c).bind fun y =>
 cond (!decide (y = 0))
  (some (([] : (List UInt8)), 9))
  ((D1 c).bind fun y_2 =>
  (Jd y_2).bind fun y_3 =>
  some (y_3.1, y_3.2))
def En.l1 (b : (List UInt8)) (h_1 : Int) (i_1 : Int) : Option (Lp (Int × Int) (Int)) :=
 cond (decide (i_1 < (b.length : Int)))
  ((B3 b i_1).bind fun e =>
  some (.next (IntKind.wrap .u32 ((Ow .u32 h_1 (IntKind.wrap .u32 (e.toNat : Int))) * 16777619), W (i_1 + 1))))
  (up (
   some (W h_1)))
def En (b : (List UInt8)) : Option (Int) :=
 Ch (fun q' => En.l1 b q'.1 q'.2) (2166136261, 0)
def Ee.j1 (key : Int) (y : Ai) (x22_1 : Bool) : Option (Ai × Int) :=
 cond (x22_1)
  (some ((Ai.mk 0 (⟨#[]⟩ : ByteArray) (⟨#[]⟩ : ByteArray) (Aw.mk 0 0) 0 (Aw.mk 0 0) 0 0 false 0 ([] : (List ByteArray)) (D2.mk 0 0)), 9))
  ((I1 (Ai.mk y.Serial y.Issuer y.Subject y.Key y.KeyId y.Hash y.From y.To y.Authority y.Path y.Names (D2.mk 0 0))).bind fun y_3 =>
  (En y_3.1).bind fun y_4 =>
  some ((Ai.mk y.Serial y.Issuer y.Subject y.Key y.KeyId y.Hash y.From y.To y.Authority y.Path y.Names (D2.mk key y_4)), 0))
def Ee (c : Ai) (key : Int) : Option (Ai × Int) :=
 (Kb c).bind fun y =>
 (A1 (Ai.mk y.Serial y.Issuer y.Subject y.Key y.KeyId y.Hash y.From y.To y.Authority y.Path y.Names (D2.mk 0 0))).bind fun y_2 =>
 cond (!decide (y_2 = 0))
  (Ee.j1 key y true)
  (cond (decide (key < 0))
   (Ee.j1 key y true)
   (Ee.j1 key y (decide (2147483648 < key))))
def J6 (name : ByteArray) (key : Aw) (id : Int) (anchor : Int) (to : Int) : Option (A5) :=
 (Ee (Ai.mk id (⟨#[114, 111, 111, 116]⟩ : ByteArray) name key id (Aw.mk 3 0) 0 to false 0 ([name] : List ByteArray) (D2.mk 0 0)) anchor).bind fun y =>
 some (A5.mk key id ([y.1] : List Ai))
def Ik (d : Ah) (l : (List ByteArray)) : Option (ByteArray × Ah) :=
 (Cw d (l.length : Int)).bind fun y =>
 (B3 l y.1).bind fun e =>
 some (e, y.2)
def F6.l1 (name : ByteArray) (y : Int × Ah) (y_2 : Int × Ah) (day_1 : Int) (i_1 : Int) (d_1 : Ah) (l_1 : List C2) : Option (Lp (Int × Int × Ah × List C2) (Di × Ah)) :=
 cond (decide (0 < i_1))
  ((Cw d_1 6).bind fun y_5 =>
  (B3 ([(Aw.mk 2 0), (Aw.mk 1 0), (Aw.mk 5 2048), (Aw.mk 16 128), (Aw.mk 3 0), (Aw.mk 15 168)] : List Aw) y_5.1).bind fun e =>
  (Lr 72 l_1 ([(C2.mk e day_1)] : List C2)).bind fun l =>
  (Hi y_5.2 ([5, 30, 0, 100] : List Int)).bind fun y_6 =>
  some (.next (W ((W (day_1 + 1)) + y_6.1), W (i_1 - 1), y_6.2, l)))
  (up (
   (B3 l_1 0).bind fun e_2 =>
   (Hi d_1 ([50, 300, 0, 3000] : List Int)).bind fun y_7 =>
   some ((Di.mk name (W (1 + y.1)) (W (1 + y_2.1)) l_1 (W (e_2.Day + y_7.1))), y_7.2)))
def F6 (d : Ah) (name : ByteArray) : Option (Di × Ah) :=
 (Cw d 2).bind fun y =>
 (Cw y.2 4).bind fun y_2 =>
 (Cw y_2.2 20).bind fun y_3 =>
 (Cw y_3.2 3).bind fun y_4 =>
 Ch (fun q' => F6.l1 name y y_2 q'.1 q'.2.1 q'.2.2.1 q'.2.2.2) (y_3.1, W (1 + y_4.1), y_4.2, ([] : List C2))
def Bd.j2 (x18_1 : Int) (l_1 : List Ao) (e : ByteArray) (y_2 : Int × Ah) (y_4 : Bool × Ah) (y_5 : Bool × Ah) (x_2 : List Int) : Option (Lp (Int × Ah × List Ao) (C1 × Ah)) :=
 (O8).bind fun y_6 =>
 (J6 e y_6 (W (100 + x18_1)) 1 901).bind fun y_7 =>
 (Lr 1296 l_1 ([(Ao.mk e 1 y_2.1 x_2 y_4.1 ([y_7] : List A5) ([1] : List Int) ([2, 3] : List Int) y_5.1)] : List Ao)).bind fun l_3 =>
 some (.next (W (x18_1 + 1), y_5.2, l_3))
def Bd.j9 (x71_7 : Int) (d_9 : Ah) (l_9 : List Bo) : Option (Lp (Int × Ah × List Bo) (Lp (Int × Ah × List Bo) (C1 × Ah))) :=
 some (.next (W (x71_7 + 1), d_9, l_9))
def Bd.j8 (x66_6 : Int) (x71_7 : Int) (l_7 : List Bo) (x87_8 : Bool) (d_8 : Ah) : Option (Lp (Int × Ah × List Bo) (Lp (Int × Ah × List Bo) (C1 × Ah))) :=
 cond (x87_8)
  ((Lr 32 l_7 ([(Bo.mk x66_6 x71_7)] : List Bo)).bind fun l_4 =>
  Bd.j9 x71_7 d_8 l_4)
  (Bd.j9 x71_7 d_8 l_7)
def Bd.l7 (y : Int × Ah) (x66_6 : Int) (x71_7 : Int) (d_7 : Ah) (l_7 : List Bo) : Option (Lp (Int × Ah × List Bo) (Lp (Int × Ah × List Bo) (C1 × Ah))) :=
 cond (decide (x71_7 < ((((W (2 + y.1) : Int).toNat - (0 : Int).toNat) : Nat) : Int)))
  (cond (!decide (x66_6 = x71_7))
   ((Cw d_7 3).bind fun y_8 =>
   cond (decide (0 < y_8.1))
    (Bd.j8 x66_6 x71_7 l_7 (decide ((l_7.length : Int) < 3)) y_8.2)
    (Bd.j8 x66_6 x71_7 l_7 false y_8.2))
   (Bd.j8 x66_6 x71_7 l_7 false d_7))
  (up (
   some (.next (W (x66_6 + 1), d_7, l_7))))
def Bd.l11 (l_1 : List Ao) (l_10 : List Bo) (i_11 : Int) (d_11 : Ah) (l_11 : List Di) : Option (Lp (Int × Ah × List Di) (C1 × Ah)) :=
 cond (decide (0 < i_11))
  ((Ik d_11 ([(⟨#[98, 97, 99, 107, 117, 112]⟩ : ByteArray), (⟨#[100, 101, 101, 100]⟩ : ByteArray)] : List ByteArray)).bind fun y_10 =>
  (F6 y_10.2 y_10.1).bind fun y_11 =>
  (Lr 320 l_11 ([y_11.1] : List Di)).bind fun l_5 =>
  some (.next (W (i_11 - 1), y_11.2, l_5)))
  (up (
   some ((C1.mk l_1 l_10 l_11), d_11)))
def Bd.j10 (l_1 : List Ao) (d_6 : Ah) (l_10 : List Bo) : Option (C1 × Ah) :=
 (Cw d_6 3).bind fun y_9 =>
 Ch (fun q' => Bd.l11 l_1 l_10 q'.1 q'.2.1 q'.2.2) (y_9.1, y_9.2, ([] : List Di))
def Bd.l6 (y : Int × Ah) (l_1 : List Ao) (x66_6 : Int) (d_6 : Ah) (l_6 : List Bo) : Option (Lp (Int × Ah × List Bo) (C1 × Ah)) :=
 cond (decide (x66_6 < ((((W (2 + y.1) : Int).toNat - (0 : Int).toNat) : Nat) : Int)))
  (Ch (fun q' => Bd.l7 y x66_6 q'.1 q'.2.1 q'.2.2) (0, d_6, l_6))
  (up (
   cond (decide ((l_6.length : Int) = 0))
    (Bd.j10 l_1 d_6 ([(Bo.mk 0 1)] : List Bo))
    (Bd.j10 l_1 d_6 l_6)))
def Bd.l1 (y : Int × Ah) (x18_1 : Int) (d_1 : Ah) (l_1 : List Ao) : Option (Lp (Int × Ah × List Ao) (C1 × Ah)) :=
 cond (decide (x18_1 < ((((W (2 + y.1) : Int).toNat - (0 : Int).toNat) : Nat) : Int)))
  ((B3 ((([(⟨#[97, 112, 112]⟩ : ByteArray), (⟨#[100, 98]⟩ : ByteArray), (⟨#[119, 101, 98]⟩ : ByteArray)] : List ByteArray).drop ((0 : Int).toNat)).take ((W (2 + y.1) : Int).toNat - (0 : Int).toNat)) x18_1).bind fun e =>
  (Hi d_1 ([3, 3, 4] : List Int)).bind fun y_2 =>
  (Cw y_2.2 3).bind fun y_3 =>
  (B3 ([([10, 8, 2] : List Int), ([8, 2] : List Int), ([2, 10, 8, 3] : List Int)] : List (List Int)) y_3.1).bind fun e_2 =>
  (Hx y_3.2 2).bind fun y_4 =>
  (Hx y_4.2 3).bind fun y_5 =>
  cond (decide (y_2.1 = 4))
   ((Lr 8 ([14] : List Int) e_2).bind fun l_2 =>
   Bd.j2 x18_1 l_1 e y_2 y_4 y_5 l_2)
   (Bd.j2 x18_1 l_1 e y_2 y_4 y_5 e_2))
  (up (
   Ch (fun q' => Bd.l6 y l_1 q'.1 q'.2.1 q'.2.2) (0, d_1, ([] : List Bo))))
def Bd (d : Ah) : Option (C1 × Ah) :=
 (Cw d 2).bind fun y =>
 (bV ([(⟨#[97, 112, 112]⟩ : ByteArray), (⟨#[100, 98]⟩ : ByteArray), (⟨#[119, 101, 98]⟩ : ByteArray)] : List ByteArray) 0 (W (2 + y.1))).bind fun l =>
 Ch (fun q' => Bd.l1 y q'.1 q'.2.1 q'.2.2) (0, y.2, ([] : List Ao))
def Bz.j2 (x8_1 : Int) (x17_2 : Bool) : Option (Lp (Int) (Bool)) :=
 cond (x17_2)
  (up (some false))
  (some (.next (W (x8_1 + 1))))
def Bz.l1 (s : ByteArray) (x8_1 : Int) : Option (Lp (Int) (Bool)) :=
 cond (decide (x8_1 < ((Jc s).length : Int)))
  ((B3 (Jc s) x8_1).bind fun e =>
  cond (decide ((e.toNat : Int) <= 32))
   (Bz.j2 x8_1 true)
   (Bz.j2 x8_1 (decide (126 < (e.toNat : Int)))))
  (up (
   cond (decide (1 <= (s.size : Int)))
    (some (decide ((s.size : Int) <= 32)))
    (some false)))
def Bz (s : ByteArray) : Option (Bool) :=
 Ch (fun q' => Bz.l1 s q') 0
def M8 : Option ((List Bu)) :=
 some ([(Bu.mk (⟨#[]⟩ : ByteArray) 0 0 ([] : (List Int)) ([] : (List Int))), (Bu.mk (⟨#[109, 100, 53]⟩ : ByteArray) 1 0 ([] : (List Int)) ([18] : List Int)), (Bu.mk (⟨#[115, 104, 97, 49]⟩ : ByteArray) 1 0 ([] : (List Int)) ([60] : List Int)), (Bu.mk (⟨#[115, 104, 97, 50, 53, 54]⟩ : ByteArray) 1 0 ([] : (List Int)) ([128] : List Int)), (Bu.mk (⟨#[115, 104, 97, 51, 56, 52]⟩ : ByteArray) 1 0 ([] : (List Int)) ([192] : List Int)), (Bu.mk (⟨#[114, 115, 97]⟩ : ByteArray) 2 1 ([] : (List Int)) ([] : (List Int))), (Bu.mk (⟨#[100, 115, 97]⟩ : ByteArray) 2 1 ([] : (List Int)) ([] : (List Int))), (Bu.mk (⟨#[101, 99, 100, 115, 97]⟩ : ByteArray) 2 2 ([] : (List Int)) ([] : (List Int))), (Bu.mk (⟨#[101, 100, 50, 53, 53, 49, 57]⟩ : ByteArray) 2 0 ([] : (List Int)) ([128] : List Int)), (Bu.mk (⟨#[109, 108, 100, 115, 97]⟩ : ByteArray) 2 3 ([44, 65, 87] : List Int) ([128, 192, 256] : List Int)), (Bu.mk (⟨#[114, 115, 97, 107, 120]⟩ : ByteArray) 3 1 ([] : (List Int)) ([] : (List Int))), (Bu.mk (⟨#[100, 104, 101]⟩ : ByteArray) 3 1 ([] : (List Int)) ([] : (List Int))), (Bu.mk (⟨#[101, 99, 100, 104, 101]⟩ : ByteArray) 3 2 ([] : (List Int)) ([] : (List Int))), (Bu.mk (⟨#[109, 108, 107, 101, 109]⟩ : ByteArray) 3 3 ([512, 768, 1024] : List Int) ([128, 192, 256] : List Int)), (Bu.mk (⟨#[114, 99, 52]⟩ : ByteArray) 4 3 ([40, 128] : List Int) ([40, 60] : List Int)), (Bu.mk (⟨#[100, 101, 115, 51]⟩ : ByteArray) 4 3 ([112, 168] : List Int) ([80, 112] : List Int)), (Bu.mk (⟨#[97, 101, 115, 99, 98, 99]⟩ : ByteArray) 4 3 ([128, 256] : List Int) ([128, 256] : List Int)), (Bu.mk (⟨#[97, 101, 115, 103, 99, 109]⟩ : ByteArray) 4 3 ([128, 256] : List Int) ([128, 256] : List Int)), (Bu.mk (⟨#[99, 104, 97, 99, 104, 97]⟩ : ByteArray) 4 0 ([] : (List Int)) ([256] : List Int)), (Bu.mk (⟨#[104, 109, 97, 99, 109, 100, 53]⟩ : ByteArray) 5 0 ([] : (List Int)) ([64] : List Int)), (Bu.mk (⟨#[104, 109, 97, 99, 115, 104, 97, 49]⟩ : ByteArray) 5 0 ([] : (List Int)) ([80] : List Int)), (Bu.mk (⟨#[104, 109, 97, 99, 115, 104, 97, 50, 53, 54]⟩ : ByteArray) 5 0 ([] : (List Int)) ([128] : List Int)), (Bu.mk (⟨#[97, 101, 97, 100]⟩ : ByteArray) 5 0 ([] : (List Int)) ([256] : List Int))] : List Bu)
def Dv.j1 (alg : Int) (x9_1 : Bool) : Option (Bu × Bool) :=
 cond (x9_1)
  (some ((Bu.mk (⟨#[]⟩ : ByteArray) 0 0 ([] : (List Int)) ([] : (List Int))), false))
  ((M8).bind fun y =>
  (B3 (aB3 23 y) alg).bind fun e =>
  some (e, true))
def Dv (alg : Int) : Option (Bu × Bool) :=
 cond (decide (alg < 1))
  (Dv.j1 alg true)
  (Dv.j1 alg (decide (22 < alg)))
def Ct.l1 (bits : Int) (x11_1 : Int) : Option (Lp (Int) (Int)) :=
 cond (decide (x11_1 < 5))
  ((B3 ([([1024, 56] : List Int), ([2048, 80] : List Int), ([3072, 112] : List Int), ([7680, 128] : List Int), ([15360, 192] : List Int)] : List (List Int)) x11_1).bind fun e =>
  cond (decide (bits < (e[0]!)))
   (up (some (e[1]!)))
   (some (.next (W (x11_1 + 1)))))
  (up (
   some 256))
def Ct (bits : Int) : Option (Int) :=
 Ch (fun q' => Ct.l1 bits q') 0
def A3.j1 (u : Aw) (x34_1 : Bool) : Option (Int) :=
 cond (x34_1)
  ((Ct u.Bits).bind fun y_2 =>
  some y_2)
  (some 0)
def A3 (u : Aw) : Option (Int) :=
 (Dv u.Alg).bind fun y =>
 cond (!y.2)
  (some 0)
  (cond (decide (y.1.way = 0))
   (cond (decide (u.Bits = 0))
    ((B3 y.1.strengths 0).bind fun e =>
    some e)
    (some 0))
   (cond (decide (y.1.way = 1))
    (cond (decide (512 <= u.Bits))
     (A3.j1 u (decide (u.Bits <= 16384)))
     (A3.j1 u false))
    (cond (decide (y.1.way = 2))
     ((Cg ([160, 224, 256, 384, 521] : List Int) u.Bits).bind fun y_3 =>
     cond (y_3)
      ((Lg u.Bits 2).bind fun q =>
      some q)
      (some 0))
     (cond (decide (y.1.way = 3))
      ((By y.1.sizes u.Bits).bind fun y_4 =>
      cond (decide (0 <= y_4))
       ((B3 y.1.strengths y_4).bind fun e_2 =>
       some e_2)
       (some 0))
      (some 0)))))
def Fo (u : Aw) : Option (Bool) :=
 (A3 u).bind fun y =>
 some (decide (0 < y))
def F1 (alg : Int) : Option (Int) :=
 (Dv alg).bind fun y =>
 some y.1.kind
def Br.j3 (f : Aa) (bare_1 : Bool) (x71_3 : Bool) : Option (Bool) :=
 cond (x71_3)
  (cond (bare_1)
   (cond (decide (1 <= f.Number))
    (some (decide (f.Number <= 4)))
    (some false))
   (some false))
  (cond (decide (f.Kind = 6))
   (cond (bare_1)
    (cond (decide (0 <= f.Number))
     (some (decide (f.Number <= 2147483648)))
     (some false))
    (some false))
   (cond (decide (f.Kind = 7))
    (cond (decide (f.Use = (Aw.mk 0 0)))
     (cond (decide (f.Number = 0))
      ((Bz f.Text).bind fun y_4 =>
      some y_4)
      (some false))
     (some false))
    (some false)))
def Br.j2 (f : Aa) (bare_1 : Bool) (x15_2 : Bool) : Option (Bool) :=
 cond (x15_2)
  ((Fo f.Use).bind fun y =>
  cond (y)
   (cond (decide (f.Number = 0))
    (some (decide (f.Text = (⟨#[]⟩ : ByteArray))))
    (some false))
   (some false))
  (cond (decide (f.Kind = 2))
   (cond (bare_1)
    (cond (decide (0 <= f.Number))
     (some (decide (f.Number <= 65535)))
     (some false))
    (some false))
   (cond (decide (f.Kind = 3))
    ((Fo f.Use).bind fun y_2 =>
    cond (y_2)
     ((F1 f.Use.Alg).bind fun y_3 =>
     cond (decide (y_3 = 2))
      (cond (decide (0 <= f.Number))
       (cond (decide (f.Number <= 2147483648))
        (some (decide (f.Text = (⟨#[]⟩ : ByteArray))))
        (some false))
       (some false))
      (some false))
     (some false))
    (cond (decide (f.Kind = 4))
     (Br.j3 f bare_1 (decide (f.Kind = 4)))
     (Br.j3 f bare_1 (decide (f.Kind = 5))))))
def Br.j1 (f : Aa) (bare_1 : Bool) : Option (Bool) :=
 cond (decide (f.Kind = 1))
  (Br.j2 f bare_1 (decide (f.Kind = 1)))
  (Br.j2 f bare_1 (decide (f.Kind = 8)))
def Br (f : Aa) : Option (Bool) :=
 cond (decide (f.Use = (Aw.mk 0 0)))
  (Br.j1 f (decide (f.Text = (⟨#[]⟩ : ByteArray))))
  (Br.j1 f false)
def Bl.j3 (x61_3 : Bool) : Option (Int) :=
 cond (x61_3)
  (some 24)
  (some 0)
def Bl.j2 (f : Aa) (where_1 : Bool) (when_2 : Bool) : Option (Int) :=
 cond (!where_1)
  (Bl.j3 true)
  (cond (!when_2)
   (Bl.j3 true)
   (cond (decide (f.Source < 1))
    (Bl.j3 true)
    (cond (decide (7 < f.Source))
     (Bl.j3 true)
     ((Br f).bind fun y_3 =>
     Bl.j3 (!y_3)))))
def Bl.j1 (f : Aa) (where_1 : Bool) : Option (Int) :=
 cond (decide (0 <= f.Day))
  (cond (decide (f.Day <= 40000))
   (cond (decide (1 <= f.Confidence))
    (Bl.j2 f where_1 (decide (f.Confidence <= 100)))
    (Bl.j2 f where_1 false))
   (Bl.j2 f where_1 false))
  (Bl.j2 f where_1 false)
def Bl (f : Aa) : Option (Int) :=
 (Bz f.Host).bind fun y =>
 cond (y)
  ((Bz f.Subject).bind fun y_2 =>
  cond (y_2)
   (cond (decide (0 <= f.Machine))
    (Bl.j1 f (decide (f.Machine <= 1099511627776)))
    (Bl.j1 f false))
   (Bl.j1 f false))
  (Bl.j1 f false)
def Jg (at' : Aa) : Option (C8 × Int) :=
 (Bl (Aa.mk at'.Source at'.Host at'.Machine at'.Day at'.Confidence 4 at'.Subject (Aw.mk 0 0) 1 (⟨#[]⟩ : ByteArray))).bind fun y =>
 some ((C8.mk (Aa.mk at'.Source at'.Host at'.Machine at'.Day at'.Confidence 4 at'.Subject (Aw.mk 0 0) 1 (⟨#[]⟩ : ByteArray)) ([] : (List Aa))), y)
def Fg (s : ByteArray) (c : UInt8) : Option (Int) :=
 some (bJ s c)
def Da (s : ByteArray) (c : UInt8) : Option (Int) :=
 (Fg s c).bind fun y =>
 some y
def Hz (c : UInt8) (others : ByteArray) : Option (Bool) :=
 cond (decide (97 <= (c.toNat : Int)))
  (cond (decide ((c.toNat : Int) <= 122))
   (some true)
   (cond (decide (65 <= (c.toNat : Int)))
    (cond (decide ((c.toNat : Int) <= 90))
     (some true)
     (cond (decide (48 <= (c.toNat : Int)))
      (cond (decide ((c.toNat : Int) <= 57))
       (some true)
       ((Da others c).bind fun y =>
       some (decide (0 <= y))))
      ((Da others c).bind fun y_2 =>
      some (decide (0 <= y_2)))))
    (cond (decide (48 <= (c.toNat : Int)))
     (cond (decide ((c.toNat : Int) <= 57))
      (some true)
      ((Da others c).bind fun y_3 =>
      some (decide (0 <= y_3))))
     ((Da others c).bind fun y_4 =>
     some (decide (0 <= y_4))))))
  (cond (decide (65 <= (c.toNat : Int)))
   (cond (decide ((c.toNat : Int) <= 90))
    (some true)
    (cond (decide (48 <= (c.toNat : Int)))
     (cond (decide ((c.toNat : Int) <= 57))
      (some true)
      ((Da others c).bind fun y_5 =>
      some (decide (0 <= y_5))))
     ((Da others c).bind fun y_6 =>
     some (decide (0 <= y_6)))))
   (cond (decide (48 <= (c.toNat : Int)))
    (cond (decide ((c.toNat : Int) <= 57))
     (some true)
     ((Da others c).bind fun y_7 =>
     some (decide (0 <= y_7))))
    ((Da others c).bind fun y_8 =>
    some (decide (0 <= y_8)))))
def Df.l1 (s : ByteArray) (x8_1 : Int) : Option (Lp (Int) (Bool)) :=
 cond (decide (x8_1 < ((Jc s).length : Int)))
  ((B3 (Jc s) x8_1).bind fun e =>
  (Hz e (⟨#[45, 95, 46]⟩ : ByteArray)).bind fun y =>
  cond (!y)
   (up (some false))
   (some (.next (W (x8_1 + 1)))))
  (up (
   cond (decide (1 <= (s.size : Int)))
    (some (decide ((s.size : Int) <= 32)))
    (some false)))
def Df (s : ByteArray) : Option (Bool) :=
 Ch (fun q' => Df.l1 s q') 0
def Ce (alg : Int) (bits : Int) : Option (Aw) :=
 some (Aw.mk alg bits)
def Do.l1 (y : Aw) (y_2 : Aw) (y_3 : Aw) (y_4 : Aw) (y_5 : Aw) (y_6 : Aw) (y_7 : Aw) (y_8 : Aw) (y_9 : Aw) (y_10 : Aw) (y_11 : Aw) (y_12 : Aw) (y_13 : Aw) (y_14 : Aw) (y_15 : Aw) (y_16 : Aw) (y_17 : Aw) (y_18 : Aw) (y_19 : Aw) (y_20 : Aw) (y_21 : Aw) (y_22 : Aw) (x114_1 : Int) (l_1 : List A7) : Option (Lp (Int × List A7) ((List A7))) :=
 cond (decide (x114_1 < (([(A7.mk 0 (⟨#[114, 115, 97, 45, 114, 99, 52, 45, 109, 100, 53]⟩ : ByteArray) y y_2 y_14 y_10 1 2), (A7.mk 0 (⟨#[114, 115, 97, 45, 114, 99, 52, 45, 115, 104, 97]⟩ : ByteArray) y y_2 y_15 y_11 1 3), (A7.mk 0 (⟨#[114, 115, 97, 45, 100, 101, 115, 51, 45, 115, 104, 97]⟩ : ByteArray) y y_2 y_5 y_11 1 3), (A7.mk 0 (⟨#[100, 104, 101, 45, 100, 115, 97, 45, 100, 101, 115, 51, 45, 115, 104, 97]⟩ : ByteArray) y_16 y_3 y_5 y_11 1 3), (A7.mk 0 (⟨#[100, 104, 101, 45, 114, 115, 97, 45, 100, 101, 115, 51, 45, 115, 104, 97]⟩ : ByteArray) y_17 y_2 y_5 y_11 1 3), (A7.mk 0 (⟨#[114, 115, 97, 45, 97, 101, 115, 49, 50, 56, 45, 115, 104, 97]⟩ : ByteArray) y y_2 y_6 y_11 1 3), (A7.mk 0 (⟨#[100, 104, 101, 45, 114, 115, 97, 45, 97, 101, 115, 49, 50, 56, 45, 115, 104, 97]⟩ : ByteArray) y_18 y_2 y_6 y_11 1 3), (A7.mk 0 (⟨#[101, 99, 100, 104, 101, 45, 114, 115, 97, 45, 97, 101, 115, 49, 50, 56, 45, 115, 104, 97]⟩ : ByteArray) y_13 y_2 y_6 y_11 1 3), (A7.mk 0 (⟨#[101, 99, 100, 104, 101, 45, 101, 99, 100, 115, 97, 45, 97, 101, 115, 50, 53, 54, 45, 115, 104, 97, 50, 53, 54]⟩ : ByteArray) y_13 y_4 y_19 y_20 3 3), (A7.mk 0 (⟨#[101, 99, 100, 104, 101, 45, 114, 115, 97, 45, 97, 101, 115, 49, 50, 56, 45, 103, 99, 109]⟩ : ByteArray) y_13 y_2 y_7 y_12 3 3), (A7.mk 0 (⟨#[101, 99, 100, 104, 101, 45, 101, 99, 100, 115, 97, 45, 97, 101, 115, 50, 53, 54, 45, 103, 99, 109]⟩ : ByteArray) y_21 y_4 y_8 y_12 3 3), (A7.mk 0 (⟨#[101, 99, 100, 104, 101, 45, 114, 115, 97, 45, 99, 104, 97, 99, 104, 97]⟩ : ByteArray) y_13 y_2 y_9 y_12 3 3), (A7.mk 0 (⟨#[114, 115, 97, 45, 97, 101, 115, 50, 53, 54, 45, 103, 99, 109]⟩ : ByteArray) y y_2 y_8 y_12 3 3), (A7.mk 0 (⟨#[97, 101, 115, 49, 50, 56, 45, 103, 99, 109]⟩ : ByteArray) y_13 (Aw.mk 0 0) y_7 y_12 4 4), (A7.mk 0 (⟨#[99, 104, 97, 99, 104, 97]⟩ : ByteArray) y_13 (Aw.mk 0 0) y_9 y_12 4 4), (A7.mk 0 (⟨#[109, 108, 107, 101, 109, 45, 97, 101, 115, 50, 53, 54, 45, 103, 99, 109]⟩ : ByteArray) y_22 (Aw.mk 0 0) y_8 y_12 4 4)] : List A7).length : Int)))
  ((B3 l_1 x114_1).bind fun e =>
  some (.next (W (x114_1 + 1), Cd l_1 ((x114_1).toNat) (A7.mk (W (x114_1 + 1)) e.Name e.Exchange e.Sign e.Cipher e.Mac e.Least e.Most))))
  (up (
   some l_1))
def Do : Option ((List A7)) :=
 (Ce 10 0).bind fun y =>
 (Ce 5 0).bind fun y_2 =>
 (Ce 6 0).bind fun y_3 =>
 (Ce 7 0).bind fun y_4 =>
 (Ce 15 168).bind fun y_5 =>
 (Ce 16 128).bind fun y_6 =>
 (Ce 17 128).bind fun y_7 =>
 (Ce 17 256).bind fun y_8 =>
 (Ce 18 0).bind fun y_9 =>
 (Ce 19 0).bind fun y_10 =>
 (Ce 20 0).bind fun y_11 =>
 (Ce 22 0).bind fun y_12 =>
 (Ce 12 256).bind fun y_13 =>
 (Ce 14 128).bind fun y_14 =>
 (Ce 14 128).bind fun y_15 =>
 (Ce 11 1024).bind fun y_16 =>
 (Ce 11 1024).bind fun y_17 =>
 (Ce 11 2048).bind fun y_18 =>
 (Ce 16 256).bind fun y_19 =>
 (Ce 21 0).bind fun y_20 =>
 (Ce 12 384).bind fun y_21 =>
 (Ce 13 768).bind fun y_22 =>
 Ch (fun q' => Do.l1 y y_2 y_3 y_4 y_5 y_6 y_7 y_8 y_9 y_10 y_11 y_12 y_13 y_14 y_15 y_16 y_17 y_18 y_19 y_20 y_21 y_22 q'.1 q'.2) (0, ([(A7.mk 0 (⟨#[114, 115, 97, 45, 114, 99, 52, 45, 109, 100, 53]⟩ : ByteArray) y y_2 y_14 y_10 1 2), (A7.mk 0 (⟨#[114, 115, 97, 45, 114, 99, 52, 45, 115, 104, 97]⟩ : ByteArray) y y_2 y_15 y_11 1 3), (A7.mk 0 (⟨#[114, 115, 97, 45, 100, 101, 115, 51, 45, 115, 104, 97]⟩ : ByteArray) y y_2 y_5 y_11 1 3), (A7.mk 0 (⟨#[100, 104, 101, 45, 100, 115, 97, 45, 100, 101, 115, 51, 45, 115, 104, 97]⟩ : ByteArray) y_16 y_3 y_5 y_11 1 3), (A7.mk 0 (⟨#[100, 104, 101, 45, 114, 115, 97, 45, 100, 101, 115, 51, 45, 115, 104, 97]⟩ : ByteArray) y_17 y_2 y_5 y_11 1 3), (A7.mk 0 (⟨#[114, 115, 97, 45, 97, 101, 115, 49, 50, 56, 45, 115, 104, 97]⟩ : ByteArray) y y_2 y_6 y_11 1 3), (A7.mk 0 (⟨#[100, 104, 101, 45, 114, 115, 97, 45, 97, 101, 115, 49, 50, 56, 45, 115, 104, 97]⟩ : ByteArray) y_18 y_2 y_6 y_11 1 3), (A7.mk 0 (⟨#[101, 99, 100, 104, 101, 45, 114, 115, 97, 45, 97, 101, 115, 49, 50, 56, 45, 115, 104, 97]⟩ : ByteArray) y_13 y_2 y_6 y_11 1 3), (A7.mk 0 (⟨#[101, 99, 100, 104, 101, 45, 101, 99, 100, 115, 97, 45, 97, 101, 115, 50, 53, 54, 45, 115, 104, 97, 50, 53, 54]⟩ : ByteArray) y_13 y_4 y_19 y_20 3 3), (A7.mk 0 (⟨#[101, 99, 100, 104, 101, 45, 114, 115, 97, 45, 97, 101, 115, 49, 50, 56, 45, 103, 99, 109]⟩ : ByteArray) y_13 y_2 y_7 y_12 3 3), (A7.mk 0 (⟨#[101, 99, 100, 104, 101, 45, 101, 99, 100, 115, 97, 45, 97, 101, 115, 50, 53, 54, 45, 103, 99, 109]⟩ : ByteArray) y_21 y_4 y_8 y_12 3 3), (A7.mk 0 (⟨#[101, 99, 100, 104, 101, 45, 114, 115, 97, 45, 99, 104, 97, 99, 104, 97]⟩ : ByteArray) y_13 y_2 y_9 y_12 3 3), (A7.mk 0 (⟨#[114, 115, 97, 45, 97, 101, 115, 50, 53, 54, 45, 103, 99, 109]⟩ : ByteArray) y y_2 y_8 y_12 3 3), (A7.mk 0 (⟨#[97, 101, 115, 49, 50, 56, 45, 103, 99, 109]⟩ : ByteArray) y_13 (Aw.mk 0 0) y_7 y_12 4 4), (A7.mk 0 (⟨#[99, 104, 97, 99, 104, 97]⟩ : ByteArray) y_13 (Aw.mk 0 0) y_9 y_12 4 4), (A7.mk 0 (⟨#[109, 108, 107, 101, 109, 45, 97, 101, 115, 50, 53, 54, 45, 103, 99, 109]⟩ : ByteArray) y_22 (Aw.mk 0 0) y_8 y_12 4 4)] : List A7))
def D3.j1 (code : Int) (y : (List A7)) (x13_1 : Bool) : Option (A7 × Int) :=
 cond (x13_1)
  (some ((A7.mk 0 (⟨#[]⟩ : ByteArray) (Aw.mk 0 0) (Aw.mk 0 0) (Aw.mk 0 0) (Aw.mk 0 0) 0 0), 8))
  ((B3 y (W (code - 1))).bind fun e =>
  some (e, 0))
def D3 (code : Int) : Option (A7 × Int) :=
 (Do).bind fun y =>
 cond (decide (code < 1))
  (D3.j1 code y true)
  (D3.j1 code y (decide ((y.length : Int) < code)))
def Cb.j2 (x9_1 : Int) (x27_2 : Bool) : Option (Lp (Int) (Bool)) :=
 cond (x27_2)
  (up (some false))
  (some (.next (W (x9_1 + 1))))
def Cb.l1 (l : (List Int)) (x9_1 : Int) : Option (Lp (Int) (Bool)) :=
 cond (decide (x9_1 < (l.length : Int)))
  ((B3 l x9_1).bind fun e =>
  (D3 e).bind fun y =>
  cond (!decide (y.2 = 0))
   (Cb.j2 x9_1 true)
   ((bV l 0 x9_1).bind fun l_2 =>
   (Cg l_2 e).bind fun y_2 =>
   Cb.j2 x9_1 y_2))
  (up (
   some true))
def Cb (l : (List Int)) : Option (Bool) :=
 Ch (fun q' => Cb.l1 l q') 0
def B1.j2 (x6_1 : Int) (x22_2 : Bool) : Option (Lp (Int) (Bool)) :=
 cond (x22_2)
  (up (some false))
  (some (.next (W (x6_1 + 1))))
def B1.l1 (l : (List Int)) (x6_1 : Int) : Option (Lp (Int) (Bool)) :=
 cond (decide (x6_1 < (l.length : Int)))
  (cond (decide (0 < x6_1))
   ((B3 l (W (x6_1 - 1))).bind fun e =>
   (B3 l x6_1).bind fun e_2 =>
   B1.j2 x6_1 (decide (e_2 <= e)))
   (B1.j2 x6_1 false))
  (up (
   some true))
def B1 (l : (List Int)) : Option (Bool) :=
 Ch (fun q' => B1.l1 l q') 0
def Eb (n : Int) : Option (Bool) :=
 cond (decide (0 <= n))
  (some (decide (n <= 2147483648)))
  (some false)
def Bt.j2 (x7_1 : Int) (x27_2 : Bool) : Option (Lp (Int) (Bool)) :=
 cond (x27_2)
  (up (some false))
  (some (.next (W (x7_1 + 1))))
def Bt.l1 (l : (List ByteArray)) (x7_1 : Int) : Option (Lp (Int) (Bool)) :=
 cond (decide (x7_1 < (l.length : Int)))
  ((B3 l x7_1).bind fun e =>
  (Bz e).bind fun y =>
  cond (!y)
   (Bt.j2 x7_1 true)
   (cond (decide (0 < x7_1))
    ((B3 l (W (x7_1 - 1))).bind fun e_2 =>
    Bt.j2 x7_1 (!Lu (Jc e_2) (Jc e)))
    (Bt.j2 x7_1 false)))
  (up (
   some (decide ((l.length : Int) <= 8))))
def Bt (l : (List ByteArray)) : Option (Bool) :=
 Ch (fun q' => Bt.l1 l q') 0
def G8 (u : Aw) (kind : Int) : Option (Bool) :=
 (Fo u).bind fun y =>
 cond (y)
  ((F1 u.Alg).bind fun y_2 =>
  some (decide (y_2 = kind)))
  (some false)
def H2 (n : Int) : Option (Bool) :=
 cond (decide (0 <= n))
  (some (decide (n < 4294967296)))
  (some false)
def Bf.j3 (c : Ai) (x73_3 : Bool) : Option (Bool) :=
 cond (x73_3)
  (some false)
  (cond (decide (0 <= c.Path))
   (cond (decide (c.Path <= 8))
    (cond (c.Authority)
     (some true)
     (some (decide (c.Path = 0))))
    (some false))
   (some false))
def Bf.j2 (c : Ai) (x58_2 : Bool) : Option (Bool) :=
 cond (x58_2)
  (some false)
  (cond (decide (c.From < 0))
   (Bf.j3 c true)
   (cond (decide (c.To < c.From))
    (Bf.j3 c true)
    (Bf.j3 c (decide (40000 < c.To)))))
def Bf.j1 (c : Ai) (x28_1 : Bool) : Option (Bool) :=
 cond (x28_1)
  (some false)
  ((G8 c.Key 2).bind fun y_4 =>
  cond (!y_4)
   (Bf.j2 c true)
   ((Eb c.KeyId).bind fun y_5 =>
   cond (!y_5)
    (Bf.j2 c true)
    ((G8 c.Hash 1).bind fun y_6 =>
    cond (!y_6)
     (Bf.j2 c true)
     ((Eb c.Seal.Key).bind fun y_7 =>
     cond (!y_7)
      (Bf.j2 c true)
      ((H2 c.Seal.Sum).bind fun y_8 =>
      Bf.j2 c (!y_8))))))
def Bf (c : Ai) : Option (Bool) :=
 cond (decide (c.Serial < 0))
  (Bf.j1 c true)
  (cond (decide (1099511627776 < c.Serial))
   (Bf.j1 c true)
   ((Bz c.Issuer).bind fun y =>
   cond (!y)
    (Bf.j1 c true)
    ((Bz c.Subject).bind fun y_2 =>
    cond (!y_2)
     (Bf.j1 c true)
     ((Bt c.Names).bind fun y_3 =>
     Bf.j1 c (!y_3)))))
def Gt (c : Ai) : Option (Int) :=
 (Bf c).bind fun y =>
 cond (!y)
  (some 9)
  (some 0)
def B0.l2 (key : Aw) (id : Int) (l : (List Ai)) (x30_2 : Int) : Option (Lp (Int) (Bool)) :=
 cond (decide (x30_2 < (l.length : Int)))
  ((B3 l x30_2).bind fun e =>
  (Gt e).bind fun y_4 =>
  cond (!decide (y_4 = 0))
   (up (some false))
   (some (.next (W (x30_2 + 1)))))
  (up (
   cond (decide ((l.length : Int) = 0))
    (some true)
    ((B3 l 0).bind fun e_2 =>
    cond (decide (e_2.Key = key))
     (some (decide (e_2.KeyId = id)))
     (some false))))
def B0.j1 (key : Aw) (id : Int) (l : (List Ai)) (x27_1 : Bool) : Option (Bool) :=
 cond (x27_1)
  (some false)
  (Ch (fun q' => B0.l2 key id l q') 0)
def B0 (key : Aw) (id : Int) (l : (List Ai)) : Option (Bool) :=
 (Fo key).bind fun y =>
 cond (!y)
  (B0.j1 key id l true)
  ((F1 key.Alg).bind fun y_2 =>
  cond (!decide (y_2 = 2))
   (B0.j1 key id l true)
   ((Eb id).bind fun y_3 =>
   cond (!y_3)
    (B0.j1 key id l true)
    (B0.j1 key id l (decide (8 < (l.length : Int))))))
def H9 : Option (Unit) :=
 some ()
def E1 (n : Int) : Option (Bool) :=
 (Eb n).bind fun y =>
 some (!y)
def Bm.l1 (s : (List Int)) (f : Int -> Option (Bool)) (x8_1 : Int) : Option (Lp (Int) (Int)) :=
 cond (decide (x8_1 < (s.length : Int)))
  ((B3 s x8_1).bind fun e =>
  (f e).bind fun y =>
  cond (y)
   (up (some x8_1))
   (some (.next (W (x8_1 + 1)))))
  (up (
   some (-1)))
def Bm (s : (List Int)) (f : Int -> Option (Bool)) : Option (Int) :=
 Ch (fun q' => Bm.l1 s f q') 0
def C9 (s : (List Int)) (f : Int -> Option (Bool)) : Option (Bool) :=
 (Bm s f).bind fun y =>
 some (decide (0 <= y))
def H8 : Option (Unit) :=
 some ()
def Iu (alg : Int) : Option (Bool) :=
 (F1 alg).bind fun y =>
 some (decide (y = 1))
def E2 (n : Int) : Option (Bool) :=
 (Iu n).bind fun y =>
 some (!y)
def Bi.j4 (x82_4 : Bool) : Option (Int) :=
 cond (x82_4)
  (some 19)
  (some 0)
def Bi.l3 (e : Ao) (x58_3 : Int) : Option (Lp (Int) (Int)) :=
 cond (decide (x58_3 < (e.Identities.length : Int)))
  ((B3 e.Identities x58_3).bind fun e_2 =>
  (B0 e_2.Key e_2.KeyId e_2.Chain).bind fun y_5 =>
  cond (!y_5)
   (up (some 19))
   (some (.next (W (x58_3 + 1)))))
  (up (
   (H9).bind fun y_6 =>
   (C9 e.Anchors (fun x0 => E1 x0)).bind fun y_7 =>
   cond (y_7)
    (Bi.j4 true)
    ((H8).bind fun y_8 =>
    (C9 e.Hashes (fun x0 => E2 x0)).bind fun y_9 =>
    Bi.j4 y_9)))
def Bi.j2 (e : Ao) (x54_2 : Bool) : Option (Int) :=
 cond (x54_2)
  (some 19)
  (Ch (fun q' => Bi.l3 e q') 0)
def Bi.j1 (e : Ao) (x32_1 : Bool) : Option (Int) :=
 cond (x32_1)
  (some 19)
  (cond (decide (4 < (e.Identities.length : Int)))
   (Bi.j2 e true)
   (cond (decide (16 < (e.Anchors.length : Int)))
    (Bi.j2 e true)
    ((B1 e.Anchors).bind fun y_3 =>
    cond (!y_3)
     (Bi.j2 e true)
     ((B1 e.Hashes).bind fun y_4 =>
     Bi.j2 e (!y_4)))))
def Bi (e : Ao) : Option (Int) :=
 (Df e.Name).bind fun y =>
 cond (!y)
  (Bi.j1 e true)
  (cond (decide (e.Least < 1))
   (Bi.j1 e true)
   (cond (decide (e.Most < e.Least))
    (Bi.j1 e true)
    (cond (decide (4 < e.Most))
     (Bi.j1 e true)
     ((Cb e.Suites).bind fun y_2 =>
     Bi.j1 e (!y_2)))))
def C7 (p : C8) (kind : Int) (u : Aw) (number : Int) : Option (C8) :=
 (Lr 1232 p.l ([(Aa.mk p.at_.Source p.at_.Host p.at_.Machine p.at_.Day p.at_.Confidence kind p.at_.Subject u number p.at_.Text)] : List Aa)).bind fun l =>
 some (C8.mk p.at_ l)
def B2.j1 (s : (List Aa)) (x4_1 : Bool) : Option ((List Aa)) :=
 cond (x4_1)
  (some ([] : (List Aa)))
  ((Lr 1232 ([] : List Aa) s).bind fun l =>
  some l)
def B2 (s : (List Aa)) : Option ((List Aa)) :=
 dY (s)
  (B2.j1 s true)
  (B2.j1 s false)
def Bj.j3 (x_3 : Int) (n_3 : Int) : Option (Int) :=
 (bX (⟨#[0, 1, 2, 2, 3, 3, 3, 3, 4, 4, 4, 4, 4, 4, 4, 4, 5, 5, 5, 5, 5, 5, 5, 5, 5, 5, 5, 5, 5, 5, 5, 5, 6, 6, 6, 6, 6, 6, 6, 6, 6, 6, 6, 6, 6, 6, 6, 6, 6, 6, 6, 6, 6, 6, 6, 6, 6, 6, 6, 6, 6, 6, 6, 6, 7, 7, 7, 7, 7, 7, 7, 7, 7, 7, 7, 7, 7, 7, 7, 7, 7, 7, 7, 7, 7, 7, 7, 7, 7, 7, 7, 7, 7, 7, 7, 7, 7, 7, 7, 7, 7, 7, 7, 7, 7, 7, 7, 7, 7, 7, 7, 7, 7, 7, 7, 7, 7, 7, 7, 7, 7, 7, 7, 7, 7, 7, 7, 7, 8, 8, 8, 8, 8, 8, 8, 8, 8, 8, 8, 8, 8, 8, 8, 8, 8, 8, 8, 8, 8, 8, 8, 8, 8, 8, 8, 8, 8, 8, 8, 8, 8, 8, 8, 8, 8, 8, 8, 8, 8, 8, 8, 8, 8, 8, 8, 8, 8, 8, 8, 8, 8, 8, 8, 8, 8, 8, 8, 8, 8, 8, 8, 8, 8, 8, 8, 8, 8, 8, 8, 8, 8, 8, 8, 8, 8, 8, 8, 8, 8, 8, 8, 8, 8, 8, 8, 8, 8, 8, 8, 8, 8, 8, 8, 8, 8, 8, 8, 8, 8, 8, 8, 8, 8, 8, 8, 8, 8, 8, 8, 8, 8, 8, 8, 8, 8, 8, 8, 8, 8, 8, 8, 8, 8, 8, 8, 8]⟩ : ByteArray) ((u8 x_3).toNat : Int)).bind fun c =>
 some (W (n_3 + (c.toNat : Int)))
def Bj.j2 (x_2 : Int) (n_2 : Int) : Option (Int) :=
 cond (decide (256 <= x_2))
  ((Px .u64 x_2 8).bind fun q_3 =>
  Bj.j3 q_3 (W (n_2 + 8)))
  (Bj.j3 x_2 n_2)
def Bj.j1 (x_1 : Int) (n_1 : Int) : Option (Int) :=
 cond (decide (65536 <= x_1))
  ((Px .u64 x_1 16).bind fun q_2 =>
  Bj.j2 q_2 (W (n_1 + 16)))
  (Bj.j2 x_1 n_1)
def Bj (x' : Int) : Option (Int) :=
 cond (decide (4294967296 <= x'))
  ((Px .u64 x' 32).bind fun q =>
  Bj.j1 q 32)
  (Bj.j1 x' 0)
def Gk (x' : Int) : Option (Int) :=
 (Bj x').bind fun y =>
 some y
def Ga (c0 : Aa) (c1 : Aa) : Option ((Aa × Aa)) :=
 some (c0, c1)
def Gi (c0 : Aa) (c1 : Aa) : Option ((Aa × Aa)) :=
 some (c0, c1)
def Gc (c0 : Aa) (c1 : Aa) : Option ((Aa × Aa)) :=
 some (c0, c1)
def Ge (c0 : Aa) (c1 : Aa) : Option ((Aa × Aa)) :=
 some (c0, c1)
def Gd (c0 : Aa) (c1 : Aa) : Option ((Aa × Aa)) :=
 some (c0, c1)
def Gj (c0 : Aa) (c1 : Aa) : Option ((Aa × Aa)) :=
 some (c0, c1)
def Gf (c0 : Aa) (c1 : Aa) : Option ((Aa × Aa)) :=
 some (c0, c1)
def Gb (c0 : Aa) (c1 : Aa) : Option ((Aa × Aa)) :=
 some (c0, c1)
def Gg (c0 : Aa) (c1 : Aa) : Option ((Aa × Aa)) :=
 some (c0, c1)
def F8 (c0 : Aa) (c1 : Aa) : Option ((Aa × Aa)) :=
 some (c0, c1)
def Gh (c0 : Aa) (c1 : Aa) : Option ((Aa × Aa)) :=
 some (c0, c1)
def Hk (f : Aa) : Option (ByteArray) :=
 some f.Host
def Ea (a : ByteArray) (b : ByteArray) : Option (Int) :=
 some (kH a b)
def E7 (a : ByteArray) (b : ByteArray) : Option (Int) :=
 (Ea a b).bind fun y =>
 some y
def Fc (c1 : Aa) (c2 : Aa) : Option (Int) :=
 (Hk c1).bind fun y =>
 (Hk c2).bind fun y_2 =>
 (E7 y y_2).bind fun y_3 =>
 some y_3
def Hm (f : Aa) : Option (Int) :=
 some f.Machine
def Iw (x' : Int) : Option (Bool) :=
 some (!decide (x' = x'))
def De (x' : Int) (y : Int) : Option (Int) :=
 (Iw x').bind fun y_2 =>
 (Iw y).bind fun y_3 =>
 cond (y_2)
  (cond (y_3)
   (some 0)
   (some (-1)))
  (cond (y_3)
   (some 1)
   (cond (decide (x' < y))
    (some (-1))
    (cond (decide (y < x'))
     (some 1)
     (some 0))))
def Ff (c1 : Aa) (c2 : Aa) : Option (Int) :=
 (Hm c1).bind fun y =>
 (Hm c2).bind fun y_2 =>
 (De y y_2).bind fun y_3 =>
 some y_3
def Ha (f : Aa) : Option (Int) :=
 some f.Day
def Fh (c1 : Aa) (c2 : Aa) : Option (Int) :=
 (Ha c1).bind fun y =>
 (Ha c2).bind fun y_2 =>
 (De y y_2).bind fun y_3 =>
 some y_3
def Hb (f : Aa) : Option (ByteArray) :=
 some f.Subject
def Fj (c1 : Aa) (c2 : Aa) : Option (Int) :=
 (Hb c1).bind fun y =>
 (Hb c2).bind fun y_2 =>
 (E7 y y_2).bind fun y_3 =>
 some y_3
def He (f : Aa) : Option (Int) :=
 some f.Kind
def Fk (c1 : Aa) (c2 : Aa) : Option (Int) :=
 (He c1).bind fun y =>
 (He c2).bind fun y_2 =>
 (De y y_2).bind fun y_3 =>
 some y_3
def Hd (f : Aa) : Option (Int) :=
 some f.Use.Alg
def E5 (c1 : Aa) (c2 : Aa) : Option (Int) :=
 (Hd c1).bind fun y =>
 (Hd c2).bind fun y_2 =>
 (De y y_2).bind fun y_3 =>
 some y_3
def Hl (f : Aa) : Option (Int) :=
 some f.Use.Bits
def Fi (c1 : Aa) (c2 : Aa) : Option (Int) :=
 (Hl c1).bind fun y =>
 (Hl c2).bind fun y_2 =>
 (De y y_2).bind fun y_3 =>
 some y_3
def Gs (f : Aa) : Option (Int) :=
 some f.Number
def E4 (c1 : Aa) (c2 : Aa) : Option (Int) :=
 (Gs c1).bind fun y =>
 (Gs c2).bind fun y_2 =>
 (De y y_2).bind fun y_3 =>
 some y_3
def Gw (f : Aa) : Option (ByteArray) :=
 some f.Text
def Fa (c1 : Aa) (c2 : Aa) : Option (Int) :=
 (Gw c1).bind fun y =>
 (Gw c2).bind fun y_2 =>
 (E7 y y_2).bind fun y_3 =>
 some y_3
def Gu (f : Aa) : Option (Int) :=
 some f.Source
def E6 (c1 : Aa) (c2 : Aa) : Option (Int) :=
 (Gu c1).bind fun y =>
 (Gu c2).bind fun y_2 =>
 (De y y_2).bind fun y_3 =>
 some y_3
def Gy (f : Aa) : Option (Int) :=
 some f.Confidence
def E8 (c1 : Aa) (c2 : Aa) : Option (Int) :=
 (Gy c1).bind fun y =>
 (Gy c2).bind fun y_2 =>
 (De y y_2).bind fun y_3 =>
 some y_3
def Gp (a : Aa) (b : Aa) : Option (Int) :=
 (Ga a b).bind fun y =>
 (Gi a b).bind fun y_2 =>
 (Gc a b).bind fun y_3 =>
 (Ge a b).bind fun y_4 =>
 (Gd a b).bind fun y_5 =>
 (Gj a b).bind fun y_6 =>
 (Gf a b).bind fun y_7 =>
 (Gb a b).bind fun y_8 =>
 (Gg a b).bind fun y_9 =>
 (F8 a b).bind fun y_10 =>
 (Gh a b).bind fun y_11 =>
 (Fc y.1 y.2).bind fun y_12 =>
 cond (!decide (y_12 = 0))
  (some y_12)
  ((Ff y_2.1 y_2.2).bind fun y_13 =>
  cond (!decide (y_13 = 0))
   (some y_13)
   ((Fh y_3.1 y_3.2).bind fun y_14 =>
   cond (!decide (y_14 = 0))
    (some y_14)
    ((Fj y_4.1 y_4.2).bind fun y_15 =>
    cond (!decide (y_15 = 0))
     (some y_15)
     ((Fk y_5.1 y_5.2).bind fun y_16 =>
     cond (!decide (y_16 = 0))
      (some y_16)
      ((E5 y_6.1 y_6.2).bind fun y_17 =>
      cond (!decide (y_17 = 0))
       (some y_17)
       ((Fi y_7.1 y_7.2).bind fun y_18 =>
       cond (!decide (y_18 = 0))
        (some y_18)
        ((E4 y_8.1 y_8.2).bind fun y_19 =>
        cond (!decide (y_19 = 0))
         (some y_19)
         ((Fa y_9.1 y_9.2).bind fun y_20 =>
         cond (!decide (y_20 = 0))
          (some y_20)
          ((E6 y_10.1 y_10.2).bind fun y_21 =>
          cond (!decide (y_21 = 0))
           (some y_21)
           ((E8 y_11.1 y_11.2).bind fun y_22 =>
           cond (!decide (y_22 = 0))
            (some y_22)
            (some 0)))))))))))
def Al.j3 (i_1 : Int) (j_2 : Int) (data_2 : List Aa) (x34_3 : Bool) : Option (Lp (Int × List Aa) (Lp (Int × List Aa) ((List Aa)))) :=
 cond (x34_3)
  ((B3 data_2 (W (j_2 - 1))).bind fun e_3 =>
  (B3 data_2 j_2).bind fun e_4 =>
  (B3 (Cd data_2 ((j_2).toNat) e_3) (W (j_2 - 1))).bind fun e_5 =>
  some (.next (W (j_2 - 1), Cd (Cd data_2 ((j_2).toNat) e_3) ((W (j_2 - 1)).toNat) e_4)))
  (up (
   some (.next (W (i_1 + 1), data_2))))
def Al.l2 (a : Int) (cmp : Aa -> Aa -> Option (Int)) (i_1 : Int) (j_2 : Int) (data_2 : List Aa) : Option (Lp (Int × List Aa) (Lp (Int × List Aa) ((List Aa)))) :=
 cond (decide (a < j_2))
  ((B3 data_2 j_2).bind fun e =>
  (B3 data_2 (W (j_2 - 1))).bind fun e_2 =>
  (cmp e e_2).bind fun y =>
  Al.j3 i_1 j_2 data_2 (decide (y < 0)))
  (Al.j3 i_1 j_2 data_2 false)
def Al.l1 (a : Int) (b : Int) (cmp : Aa -> Aa -> Option (Int)) (i_1 : Int) (data_1 : List Aa) : Option (Lp (Int × List Aa) ((List Aa))) :=
 cond (decide (i_1 < b))
  (Ch (fun q' => Al.l2 a cmp i_1 q'.1 q'.2) (i_1, data_1))
  (up (some data_1))
def Al (data : List Aa) (a : Int) (b : Int) (cmp : Aa -> Aa -> Option (Int)) : Option ((List Aa)) :=
 Ch (fun q' => Al.l1 a b cmp q'.1 q'.2) (W (a + 1), data)
def Am.j3 (first : Int) (cmp : Aa -> Aa -> Option (Int)) (root_1 : Int) (data_1 : List Aa) (child_3 : Int) : Option (Lp (Int × List Aa) ((List Aa))) :=
 (B3 data_1 (W (first + root_1))).bind fun e_3 =>
 (B3 data_1 (W (first + child_3))).bind fun e_4 =>
 (cmp e_3 e_4).bind fun y_2 =>
 cond (!(decide (y_2 < 0)))
  (up (some data_1))
  ((B3 (Cd data_1 ((W (first + root_1)).toNat) e_4) (W (first + child_3))).bind fun e_5 =>
  some (.next (child_3, Cd (Cd data_1 ((W (first + root_1)).toNat) e_4) ((W (first + child_3)).toNat) e_3)))
def Am.j2 (first : Int) (cmp : Aa -> Aa -> Option (Int)) (root_1 : Int) (data_1 : List Aa) (x40_2 : Bool) : Option (Lp (Int × List Aa) ((List Aa))) :=
 cond (x40_2)
  (Am.j3 first cmp root_1 data_1 (W ((W ((W (2 * root_1)) + 1)) + 1)))
  (Am.j3 first cmp root_1 data_1 (W ((W (2 * root_1)) + 1)))
def Am.l1 (hi : Int) (first : Int) (cmp : Aa -> Aa -> Option (Int)) (root_1 : Int) (data_1 : List Aa) : Option (Lp (Int × List Aa) ((List Aa))) :=
 cond (decide (hi <= (W ((W (2 * root_1)) + 1))))
  (up (some data_1))
  (cond (decide ((W ((W ((W (2 * root_1)) + 1)) + 1)) < hi))
   ((B3 data_1 (W (first + (W ((W (2 * root_1)) + 1))))).bind fun e =>
   (B3 data_1 (W ((W (first + (W ((W (2 * root_1)) + 1)))) + 1))).bind fun e_2 =>
   (cmp e e_2).bind fun y =>
   Am.j2 first cmp root_1 data_1 (decide (y < 0)))
   (Am.j2 first cmp root_1 data_1 false))
def Am (data : List Aa) (lo : Int) (hi : Int) (first : Int) (cmp : Aa -> Aa -> Option (Int)) : Option ((List Aa)) :=
 Ch (fun q' => Am.l1 hi first cmp q'.1 q'.2) (lo, data)
def Av.l2 (a : Int) (cmp : Aa -> Aa -> Option (Int)) (i_2 : Int) (data_2 : List Aa) : Option (Lp (Int × List Aa) ((List Aa))) :=
 cond (decide (0 <= i_2))
  ((B3 data_2 (W (a + i_2))).bind fun e =>
  (B3 data_2 a).bind fun e_2 =>
  (B3 (Cd data_2 ((a).toNat) e) (W (a + i_2))).bind fun e_3 =>
  (Am (Cd (Cd data_2 ((a).toNat) e) ((W (a + i_2)).toNat) e_2) 0 i_2 a cmp).bind fun y_2 =>
  some (.next (W (i_2 - 1), y_2)))
  (up (some data_2))
def Av.l1 (a : Int) (b : Int) (cmp : Aa -> Aa -> Option (Int)) (i_1 : Int) (data_1 : List Aa) : Option (Lp (Int × List Aa) ((List Aa))) :=
 cond (decide (0 <= i_1))
  ((Am data_1 i_1 (W (b - a)) a cmp).bind fun y =>
  some (.next (W (i_1 - 1), y)))
  (up (
   Ch (fun q' => Av.l2 a cmp q'.1 q'.2) (W ((W (b - a)) - 1), data_1)))
def Av (data : List Aa) (a : Int) (b : Int) (cmp : Aa -> Aa -> Option (Int)) : Option ((List Aa)) :=
 (Lg (W ((W (b - a)) - 1)) 2).bind fun q =>
 Ch (fun q' => Av.l1 a b cmp q'.1 q'.2) (q, data)
def Ez (length : Int) : Option (Int) :=
 (Gk (IntKind.wrap .u64 length)).bind fun y =>
 (Yn .u64 1 y).bind fun q =>
 some q
def Fe (r' : Int) : Option (Int × Int) :=
 (Yn .u64 r' 13).bind fun q =>
 (Px .u64 (Ow .u64 r' q) 7).bind fun q_2 =>
 (Yn .u64 (Ow .u64 (Ow .u64 r' q) q_2) 17).bind fun q_3 =>
 some (Ow .u64 (Ow .u64 (Ow .u64 r' q) q_2) q_3, Ow .u64 (Ow .u64 (Ow .u64 r' q) q_2) q_3)
def Au.j2 (a : Int) (idx_1 : Int) (data_1 : List Aa) (y_2 : Int × Int) (other_2 : Int) : Option (Lp (Int × List Aa × Int) ((List Aa))) :=
 (B3 data_1 (W (a + other_2))).bind fun e =>
 (B3 data_1 idx_1).bind fun e_2 =>
 (B3 (Cd data_1 ((idx_1).toNat) e) (W (a + other_2))).bind fun e_3 =>
 some (.next (W (idx_1 + 1), Cd (Cd data_1 ((idx_1).toNat) e) ((W (a + other_2)).toNat) e_2, y_2.2))
def Au.l1 (a : Int) (b : Int) (y : Int) (idx_1 : Int) (data_1 : List Aa) (random_1 : Int) : Option (Lp (Int × List Aa × Int) ((List Aa))) :=
 (Lg (W (b - a)) 4).bind fun q_2 =>
 cond (decide (idx_1 <= (W ((W (a + (W (q_2 * 2)))) + 1))))
  ((Fe random_1).bind fun y_2 =>
  cond (decide ((W (b - a)) <= (W (Vx .u64 y_2.1 (IntKind.wrap .u64 (y - 1))))))
   (Au.j2 a idx_1 data_1 y_2 (W ((W (Vx .u64 y_2.1 (IntKind.wrap .u64 (y - 1)))) - (W (b - a)))))
   (Au.j2 a idx_1 data_1 y_2 (W (Vx .u64 y_2.1 (IntKind.wrap .u64 (y - 1))))))
  (up (some data_1))
def Au (data : List Aa) (a : Int) (b : Int) (cmp : Aa -> Aa -> Option (Int)) : Option ((List Aa)) :=
 cond (decide (8 <= (W (b - a))))
  ((Ez (W (b - a))).bind fun y =>
  (Lg (W (b - a)) 4).bind fun q =>
  Ch (fun q' => Au.l1 a b y q'.1 q'.2.1 q'.2.2) (W ((W (a + (W (q * 2)))) - 1), data, IntKind.wrap .u64 (W (b - a))))
  (some data)
def Co (data : (List Aa)) (a : Int) (b : Int) (swaps : Int) (cmp : Aa -> Aa -> Option (Int)) : Option (Int × Int × Int) :=
 (B3 data b).bind fun e =>
 (B3 data a).bind fun e_2 =>
 (cmp e e_2).bind fun y =>
 cond (decide (y < 0))
  (some (b, a, W (swaps + 1)))
  (some (a, b, swaps))
def C0 (data : (List Aa)) (a : Int) (b : Int) (c : Int) (swaps : Int) (cmp : Aa -> Aa -> Option (Int)) : Option (Int × Int) :=
 (Co data a b swaps cmp).bind fun y =>
 (Co data y.2.1 c y.2.2 cmp).bind fun y_2 =>
 (Co data y.1 y_2.1 y_2.2.2 cmp).bind fun y_3 =>
 some (y_3.2.1, y_3.2.2)
def B7 (data : (List Aa)) (a : Int) (swaps : Int) (cmp : Aa -> Aa -> Option (Int)) : Option (Int × Int) :=
 (C0 data (W (a - 1)) a (W (a + 1)) swaps cmp).bind fun y =>
 some (y.1, y.2)
def Ax.j2 (j_2 : Int) (swaps_2 : Int) : Option (Int × Int) :=
 cond (decide (swaps_2 = 0))
  (some (j_2, 1))
  (cond (decide (swaps_2 = 12))
   (some (j_2, 2))
   (some (j_2, 0)))
def Ax.j1 (data : (List Aa)) (cmp : Aa -> Aa -> Option (Int)) (i_1 : Int) (j_1 : Int) (k_1 : Int) (swaps_1 : Int) : Option (Int × Int) :=
 (C0 data i_1 j_1 k_1 swaps_1 cmp).bind fun y_4 =>
 Ax.j2 y_4.1 y_4.2
def Ax (data : (List Aa)) (a : Int) (b : Int) (cmp : Aa -> Aa -> Option (Int)) : Option (Int × Int) :=
 (Lg (W (b - a)) 4).bind fun q =>
 (Lg (W (b - a)) 4).bind fun q_2 =>
 (Lg (W (b - a)) 4).bind fun q_3 =>
 cond (decide (8 <= (W (b - a))))
  (cond (decide (50 <= (W (b - a))))
   ((B7 data (W (a + (W (q * 1)))) 0 cmp).bind fun y =>
   (B7 data (W (a + (W (q_2 * 2)))) y.2 cmp).bind fun y_2 =>
   (B7 data (W (a + (W (q_3 * 3)))) y_2.2 cmp).bind fun y_3 =>
   Ax.j1 data cmp y.1 y_2.1 y_3.1 y_3.2)
   (Ax.j1 data cmp (W (a + (W (q * 1)))) (W (a + (W (q_2 * 2)))) (W (a + (W (q_3 * 3)))) 0))
  (Ax.j2 (W (a + (W (q_2 * 2)))) 0)
def Be.l1 (i_1 : Int) (j_1 : Int) (data_1 : List Aa) : Option (Lp (Int × Int × List Aa) ((List Aa))) :=
 cond (decide (i_1 < j_1))
  ((B3 data_1 j_1).bind fun e =>
  (B3 data_1 i_1).bind fun e_2 =>
  (B3 (Cd data_1 ((i_1).toNat) e) j_1).bind fun e_3 =>
  some (.next (W (i_1 + 1), W (j_1 - 1), Cd (Cd data_1 ((i_1).toNat) e) ((j_1).toNat) e_2)))
  (up (some data_1))
def Be (data : List Aa) (a : Int) (b : Int) (cmp : Aa -> Aa -> Option (Int)) : Option ((List Aa)) :=
 Ch (fun q' => Be.l1 q'.1 q'.2.1 q'.2.2) (a, W (b - 1), data)
def Ab.j7 (j_1 : Int) (i_7 : Int) (data_7 : List Aa) : Option (Lp (Int × Int × List Aa) (Bool × (List Aa))) :=
 some (.next (i_7, W (j_1 + 1), data_7))
def Ab.l6 (b : Int) (cmp : Aa -> Aa -> Option (Int)) (j_1 : Int) (i_2 : Int) (j_6 : Int) (data_6 : List Aa) : Option (Lp (Int × List Aa) (Lp (Int × Int × List Aa) (Bool × (List Aa)))) :=
 cond (decide (j_6 < b))
  ((B3 data_6 j_6).bind fun e_9 =>
  (B3 data_6 (W (j_6 - 1))).bind fun e_10 =>
  (cmp e_9 e_10).bind fun y_3 =>
  cond (!(decide (y_3 < 0)))
   (up (
    Ab.j7 j_1 i_2 data_6))
   ((B3 (Cd data_6 ((j_6).toNat) e_10) (W (j_6 - 1))).bind fun e_11 =>
   some (.next (W (j_6 + 1), Cd (Cd data_6 ((j_6).toNat) e_10) ((W (j_6 - 1)).toNat) e_9))))
  (up (
   Ab.j7 j_1 i_2 data_6))
def Ab.j5 (b : Int) (cmp : Aa -> Aa -> Option (Int)) (j_1 : Int) (i_2 : Int) (data_5 : List Aa) : Option (Lp (Int × Int × List Aa) (Bool × (List Aa))) :=
 cond (decide (2 <= (W (b - i_2))))
  (Ch (fun q' => Ab.l6 b cmp j_1 i_2 q'.1 q'.2) (W (i_2 + 1), data_5))
  (Ab.j7 j_1 i_2 data_5)
def Ab.l4 (b : Int) (cmp : Aa -> Aa -> Option (Int)) (j_1 : Int) (i_2 : Int) (j_4 : Int) (data_4 : List Aa) : Option (Lp (Int × List Aa) (Lp (Int × Int × List Aa) (Bool × (List Aa)))) :=
 cond (decide (1 <= j_4))
  ((B3 data_4 j_4).bind fun e_6 =>
  (B3 data_4 (W (j_4 - 1))).bind fun e_7 =>
  (cmp e_6 e_7).bind fun y_2 =>
  cond (!(decide (y_2 < 0)))
   (up (
    Ab.j5 b cmp j_1 i_2 data_4))
   ((B3 (Cd data_4 ((j_4).toNat) e_7) (W (j_4 - 1))).bind fun e_8 =>
   some (.next (W (j_4 - 1), Cd (Cd data_4 ((j_4).toNat) e_7) ((W (j_4 - 1)).toNat) e_6))))
  (up (
   Ab.j5 b cmp j_1 i_2 data_4))
def Ab.j3 (a : Int) (b : Int) (cmp : Aa -> Aa -> Option (Int)) (j_1 : Int) (data_1 : List Aa) (i_2 : Int) (x36_3 : Bool) : Option (Lp (Int) (Lp (Int × Int × List Aa) (Bool × (List Aa)))) :=
 cond (x36_3)
  (some (.next (W (i_2 + 1))))
  (up (
   cond (decide (i_2 = b))
    (up (some (true, data_1)))
    (cond (decide ((W (b - a)) < 50))
     (up (some (false, data_1)))
     ((B3 data_1 (W (i_2 - 1))).bind fun e_3 =>
     (B3 data_1 i_2).bind fun e_4 =>
     (B3 (Cd data_1 ((i_2).toNat) e_3) (W (i_2 - 1))).bind fun e_5 =>
     cond (decide (2 <= (W (i_2 - a))))
      (Ch (fun q' => Ab.l4 b cmp j_1 i_2 q'.1 q'.2) (W (i_2 - 1), Cd (Cd data_1 ((i_2).toNat) e_3) ((W (i_2 - 1)).toNat) e_4))
      (Ab.j5 b cmp j_1 i_2 (Cd (Cd data_1 ((i_2).toNat) e_3) ((W (i_2 - 1)).toNat) e_4))))))
def Ab.l2 (a : Int) (b : Int) (cmp : Aa -> Aa -> Option (Int)) (j_1 : Int) (data_1 : List Aa) (i_2 : Int) : Option (Lp (Int) (Lp (Int × Int × List Aa) (Bool × (List Aa)))) :=
 cond (decide (i_2 < b))
  ((B3 data_1 i_2).bind fun e =>
  (B3 data_1 (W (i_2 - 1))).bind fun e_2 =>
  (cmp e e_2).bind fun y =>
  Ab.j3 a b cmp j_1 data_1 i_2 (!(decide (y < 0))))
  (Ab.j3 a b cmp j_1 data_1 i_2 false)
def Ab.l1 (a : Int) (b : Int) (cmp : Aa -> Aa -> Option (Int)) (i_1 : Int) (j_1 : Int) (data_1 : List Aa) : Option (Lp (Int × Int × List Aa) (Bool × (List Aa))) :=
 cond (decide (j_1 < 5))
  (Ch (fun q' => Ab.l2 a b cmp j_1 data_1 q') i_1)
  (up (
   some (false, data_1)))
def Ab (data : List Aa) (a : Int) (b : Int) (cmp : Aa -> Aa -> Option (Int)) : Option (Bool × (List Aa)) :=
 Ch (fun q' => Ab.l1 a b cmp q'.1 q'.2.1 q'.2.2) (W (a + 1), 0, data)
def Aj.j5 (data_1 : List Aa) (i_2 : Int) (j_4 : Int) (x65_5 : Bool) : Option (Lp (Int) (Lp (Int × Int × List Aa) (Int × (List Aa)))) :=
 cond (x65_5)
  (some (.next (W (j_4 - 1))))
  (up (
   cond (decide (j_4 < i_2))
    (up (
     some (i_2, data_1)))
    ((B3 data_1 j_4).bind fun e_8 =>
    (B3 data_1 i_2).bind fun e_9 =>
    (B3 (Cd data_1 ((i_2).toNat) e_8) j_4).bind fun e_10 =>
    some (.next (W (i_2 + 1), W (j_4 - 1), Cd (Cd data_1 ((i_2).toNat) e_8) ((j_4).toNat) e_9)))))
def Aj.l4 (a : Int) (cmp : Aa -> Aa -> Option (Int)) (data_1 : List Aa) (i_2 : Int) (j_4 : Int) : Option (Lp (Int) (Lp (Int × Int × List Aa) (Int × (List Aa)))) :=
 cond (decide (i_2 <= j_4))
  ((B3 data_1 a).bind fun e_6 =>
  (B3 data_1 j_4).bind fun e_7 =>
  (cmp e_6 e_7).bind fun y_2 =>
  Aj.j5 data_1 i_2 j_4 (decide (y_2 < 0)))
  (Aj.j5 data_1 i_2 j_4 false)
def Aj.j3 (a : Int) (cmp : Aa -> Aa -> Option (Int)) (j_1 : Int) (data_1 : List Aa) (i_2 : Int) (x47_3 : Bool) : Option (Lp (Int) (Lp (Int × Int × List Aa) (Int × (List Aa)))) :=
 cond (x47_3)
  (some (.next (W (i_2 + 1))))
  (up (
   Ch (fun q' => Aj.l4 a cmp data_1 i_2 q') j_1))
def Aj.l2 (a : Int) (cmp : Aa -> Aa -> Option (Int)) (j_1 : Int) (data_1 : List Aa) (i_2 : Int) : Option (Lp (Int) (Lp (Int × Int × List Aa) (Int × (List Aa)))) :=
 cond (decide (i_2 <= j_1))
  ((B3 data_1 a).bind fun e_4 =>
  (B3 data_1 i_2).bind fun e_5 =>
  (cmp e_4 e_5).bind fun y =>
  Aj.j3 a cmp j_1 data_1 i_2 (!(decide (y < 0))))
  (Aj.j3 a cmp j_1 data_1 i_2 false)
def Aj.l1 (a : Int) (cmp : Aa -> Aa -> Option (Int)) (i_1 : Int) (j_1 : Int) (data_1 : List Aa) : Option (Lp (Int × Int × List Aa) (Int × (List Aa))) :=
 Ch (fun q' => Aj.l2 a cmp j_1 data_1 q') i_1
def Aj (data : List Aa) (a : Int) (b : Int) (pivot : Int) (cmp : Aa -> Aa -> Option (Int)) : Option (Int × (List Aa)) :=
 (B3 data pivot).bind fun e =>
 (B3 data a).bind fun e_2 =>
 (B3 (Cd data ((a).toNat) e) pivot).bind fun e_3 =>
 Ch (fun q' => Aj.l1 a cmp q'.1 q'.2.1 q'.2.2) (W (a + 1), W (b - 1), Cd (Cd data ((a).toNat) e) ((pivot).toNat) e_2)
def Ad.j9 (a : Int) (data_5 : List Aa) (i_6 : Int) (j_8 : Int) (x139_9 : Bool) : Option (Lp (Int) (Lp (Int × Int × List Aa) (Int × Bool × (List Aa)))) :=
 cond (x139_9)
  (some (.next (W (j_8 - 1))))
  (up (
   cond (decide (j_8 < i_6))
    (up (
     (B3 data_5 a).bind fun e_21 =>
     (B3 data_5 j_8).bind fun e_22 =>
     (B3 (Cd data_5 ((j_8).toNat) e_21) a).bind fun e_23 =>
     some (j_8, false, Cd (Cd data_5 ((j_8).toNat) e_21) ((a).toNat) e_22)))
    ((B3 data_5 j_8).bind fun e_18 =>
    (B3 data_5 i_6).bind fun e_19 =>
    (B3 (Cd data_5 ((i_6).toNat) e_18) j_8).bind fun e_20 =>
    some (.next (W (i_6 + 1), W (j_8 - 1), Cd (Cd data_5 ((i_6).toNat) e_18) ((j_8).toNat) e_19)))))
def Ad.l8 (a : Int) (cmp : Aa -> Aa -> Option (Int)) (data_5 : List Aa) (i_6 : Int) (j_8 : Int) : Option (Lp (Int) (Lp (Int × Int × List Aa) (Int × Bool × (List Aa)))) :=
 cond (decide (i_6 <= j_8))
  ((B3 data_5 j_8).bind fun e_16 =>
  (B3 data_5 a).bind fun e_17 =>
  (cmp e_16 e_17).bind fun y_4 =>
  Ad.j9 a data_5 i_6 j_8 (!(decide (y_4 < 0))))
  (Ad.j9 a data_5 i_6 j_8 false)
def Ad.j7 (a : Int) (cmp : Aa -> Aa -> Option (Int)) (j_5 : Int) (data_5 : List Aa) (i_6 : Int) (x120_7 : Bool) : Option (Lp (Int) (Lp (Int × Int × List Aa) (Int × Bool × (List Aa)))) :=
 cond (x120_7)
  (some (.next (W (i_6 + 1))))
  (up (
   Ch (fun q' => Ad.l8 a cmp data_5 i_6 q') j_5))
def Ad.l6 (a : Int) (cmp : Aa -> Aa -> Option (Int)) (j_5 : Int) (data_5 : List Aa) (i_6 : Int) : Option (Lp (Int) (Lp (Int × Int × List Aa) (Int × Bool × (List Aa)))) :=
 cond (decide (i_6 <= j_5))
  ((B3 data_5 i_6).bind fun e_14 =>
  (B3 data_5 a).bind fun e_15 =>
  (cmp e_14 e_15).bind fun y_3 =>
  Ad.j7 a cmp j_5 data_5 i_6 (decide (y_3 < 0)))
  (Ad.j7 a cmp j_5 data_5 i_6 false)
def Ad.l5 (a : Int) (cmp : Aa -> Aa -> Option (Int)) (i_5 : Int) (j_5 : Int) (data_5 : List Aa) : Option (Lp (Int × Int × List Aa) (Int × Bool × (List Aa))) :=
 Ch (fun q' => Ad.l6 a cmp j_5 data_5 q') i_5
def Ad.j4 (data : List Aa) (a : Int) (pivot : Int) (cmp : Aa -> Aa -> Option (Int)) (e : Aa) (e_2 : Aa) (i_1 : Int) (j_3 : Int) (x66_4 : Bool) : Option (Lp (Int) (Int × Bool × (List Aa))) :=
 cond (x66_4)
  (some (.next (W (j_3 - 1))))
  (up (
   cond (decide (j_3 < i_1))
    ((B3 (Cd (Cd data ((a).toNat) e) ((pivot).toNat) e_2) a).bind fun e_8 =>
    (B3 (Cd (Cd data ((a).toNat) e) ((pivot).toNat) e_2) j_3).bind fun e_9 =>
    (B3 (Cd (Cd (Cd data ((a).toNat) e) ((pivot).toNat) e_2) ((j_3).toNat) e_8) a).bind fun e_10 =>
    some (j_3, true, Cd (Cd (Cd (Cd data ((a).toNat) e) ((pivot).toNat) e_2) ((j_3).toNat) e_8) ((a).toNat) e_9))
    ((B3 (Cd (Cd data ((a).toNat) e) ((pivot).toNat) e_2) j_3).bind fun e_11 =>
    (B3 (Cd (Cd data ((a).toNat) e) ((pivot).toNat) e_2) i_1).bind fun e_12 =>
    (B3 (Cd (Cd (Cd data ((a).toNat) e) ((pivot).toNat) e_2) ((i_1).toNat) e_11) j_3).bind fun e_13 =>
    Ch (fun q' => Ad.l5 a cmp q'.1 q'.2.1 q'.2.2) (W (i_1 + 1), W (j_3 - 1), Cd (Cd (Cd (Cd data ((a).toNat) e) ((pivot).toNat) e_2) ((i_1).toNat) e_11) ((j_3).toNat) e_12))))
def Ad.l3 (data : List Aa) (a : Int) (pivot : Int) (cmp : Aa -> Aa -> Option (Int)) (e : Aa) (e_2 : Aa) (i_1 : Int) (j_3 : Int) : Option (Lp (Int) (Int × Bool × (List Aa))) :=
 cond (decide (i_1 <= j_3))
  ((B3 (Cd (Cd data ((a).toNat) e) ((pivot).toNat) e_2) j_3).bind fun e_6 =>
  (B3 (Cd (Cd data ((a).toNat) e) ((pivot).toNat) e_2) a).bind fun e_7 =>
  (cmp e_6 e_7).bind fun y_2 =>
  Ad.j4 data a pivot cmp e e_2 i_1 j_3 (!(decide (y_2 < 0))))
  (Ad.j4 data a pivot cmp e e_2 i_1 j_3 false)
def Ad.j2 (data : List Aa) (a : Int) (b : Int) (pivot : Int) (cmp : Aa -> Aa -> Option (Int)) (e : Aa) (e_2 : Aa) (i_1 : Int) (x47_2 : Bool) : Option (Lp (Int) (Int × Bool × (List Aa))) :=
 cond (x47_2)
  (some (.next (W (i_1 + 1))))
  (up (
   Ch (fun q' => Ad.l3 data a pivot cmp e e_2 i_1 q') (W (b - 1))))
def Ad.l1 (data : List Aa) (a : Int) (b : Int) (pivot : Int) (cmp : Aa -> Aa -> Option (Int)) (e : Aa) (e_2 : Aa) (i_1 : Int) : Option (Lp (Int) (Int × Bool × (List Aa))) :=
 cond (decide (i_1 <= (W (b - 1))))
  ((B3 (Cd (Cd data ((a).toNat) e) ((pivot).toNat) e_2) i_1).bind fun e_4 =>
  (B3 (Cd (Cd data ((a).toNat) e) ((pivot).toNat) e_2) a).bind fun e_5 =>
  (cmp e_4 e_5).bind fun y =>
  Ad.j2 data a b pivot cmp e e_2 i_1 (decide (y < 0)))
  (Ad.j2 data a b pivot cmp e e_2 i_1 false)
def Ad (data : List Aa) (a : Int) (b : Int) (pivot : Int) (cmp : Aa -> Aa -> Option (Int)) : Option (Int × Bool × (List Aa)) :=
 (B3 data pivot).bind fun e =>
 (B3 data a).bind fun e_2 =>
 (B3 (Cd data ((a).toNat) e) pivot).bind fun e_3 =>
 Ch (fun q' => Ad.l1 data a b pivot cmp e e_2 q') (W (a + 1))
def Af.j6 (rec : (List Aa) -> Int -> Int -> Int -> Option ((List Aa))) (cmp : Aa -> Aa -> Option (Int)) (a_1 : Int) (b_1 : Int) (wasBalanced_1 : Bool) (wasPartitioned_1 : Bool) (limit_2 : Int) (pivot_3 : Int) (data_5 : List Aa) (x97_6 : Bool) : Option (Lp (Int × Int × Int × Bool × Bool × List Aa) ((List Aa))) :=
 cond (x97_6)
  ((Aj data_5 a_1 b_1 pivot_3 cmp).bind fun y_8 =>
  some (.next (y_8.1, b_1, limit_2, wasBalanced_1, wasPartitioned_1, y_8.2)))
  ((Ad data_5 a_1 b_1 pivot_3 cmp).bind fun y_9 =>
  (Lg (W (b_1 - a_1)) 8).bind fun q =>
  cond (decide ((W (y_9.1 - a_1)) < (W (b_1 - y_9.1))))
   ((rec y_9.2.2 a_1 y_9.1 limit_2).bind fun y_10 =>
   some (.next (W (y_9.1 + 1), b_1, limit_2, decide (q <= (W (y_9.1 - a_1))), y_9.2.1, y_10)))
   ((rec y_9.2.2 (W (y_9.1 + 1)) b_1 limit_2).bind fun y_11 =>
   some (.next (a_1, y_9.1, limit_2, decide (q <= (W (b_1 - y_9.1))), y_9.2.1, y_11))))
def Af.j5 (rec : (List Aa) -> Int -> Int -> Int -> Option ((List Aa))) (cmp : Aa -> Aa -> Option (Int)) (a_1 : Int) (b_1 : Int) (wasBalanced_1 : Bool) (wasPartitioned_1 : Bool) (limit_2 : Int) (pivot_3 : Int) (data_5 : List Aa) : Option (Lp (Int × Int × Int × Bool × Bool × List Aa) ((List Aa))) :=
 cond (decide (0 < a_1))
  ((B3 data_5 (W (a_1 - 1))).bind fun e =>
  (B3 data_5 pivot_3).bind fun e_2 =>
  (cmp e e_2).bind fun y_7 =>
  Af.j6 rec cmp a_1 b_1 wasBalanced_1 wasPartitioned_1 limit_2 pivot_3 data_5 (!(decide (y_7 < 0))))
  (Af.j6 rec cmp a_1 b_1 wasBalanced_1 wasPartitioned_1 limit_2 pivot_3 data_5 false)
def Af.j4 (rec : (List Aa) -> Int -> Int -> Int -> Option ((List Aa))) (cmp : Aa -> Aa -> Option (Int)) (a_1 : Int) (b_1 : Int) (wasBalanced_1 : Bool) (wasPartitioned_1 : Bool) (limit_2 : Int) (pivot_3 : Int) (data_3 : List Aa) (x75_4 : Bool) : Option (Lp (Int × Int × Int × Bool × Bool × List Aa) ((List Aa))) :=
 cond (x75_4)
  ((Ab data_3 a_1 b_1 cmp).bind fun y_6 =>
  cond (y_6.1)
   (up (some y_6.2))
   (Af.j5 rec cmp a_1 b_1 wasBalanced_1 wasPartitioned_1 limit_2 pivot_3 y_6.2))
  (Af.j5 rec cmp a_1 b_1 wasBalanced_1 wasPartitioned_1 limit_2 pivot_3 data_3)
def Af.j3 (rec : (List Aa) -> Int -> Int -> Int -> Option ((List Aa))) (cmp : Aa -> Aa -> Option (Int)) (a_1 : Int) (b_1 : Int) (wasBalanced_1 : Bool) (wasPartitioned_1 : Bool) (limit_2 : Int) (pivot_3 : Int) (hint_3 : Int) (data_3 : List Aa) : Option (Lp (Int × Int × Int × Bool × Bool × List Aa) ((List Aa))) :=
 cond (wasBalanced_1)
  (cond (wasPartitioned_1)
   (Af.j4 rec cmp a_1 b_1 wasBalanced_1 wasPartitioned_1 limit_2 pivot_3 data_3 (decide (hint_3 = 1)))
   (Af.j4 rec cmp a_1 b_1 wasBalanced_1 wasPartitioned_1 limit_2 pivot_3 data_3 false))
  (Af.j4 rec cmp a_1 b_1 wasBalanced_1 wasPartitioned_1 limit_2 pivot_3 data_3 false)
def Af.j2 (rec : (List Aa) -> Int -> Int -> Int -> Option ((List Aa))) (cmp : Aa -> Aa -> Option (Int)) (a_1 : Int) (b_1 : Int) (wasBalanced_1 : Bool) (wasPartitioned_1 : Bool) (limit_2 : Int) (data_2 : List Aa) : Option (Lp (Int × Int × Int × Bool × Bool × List Aa) ((List Aa))) :=
 (Ax data_2 a_1 b_1 cmp).bind fun y_4 =>
 cond (decide (y_4.2 = 2))
  ((Be data_2 a_1 b_1 cmp).bind fun y_5 =>
  Af.j3 rec cmp a_1 b_1 wasBalanced_1 wasPartitioned_1 limit_2 (W ((W (b_1 - 1)) - (W (y_4.1 - a_1)))) 1 y_5)
  (Af.j3 rec cmp a_1 b_1 wasBalanced_1 wasPartitioned_1 limit_2 y_4.1 y_4.2 data_2)
def Af.l1 (rec : (List Aa) -> Int -> Int -> Int -> Option ((List Aa))) (cmp : Aa -> Aa -> Option (Int)) (a_1 : Int) (b_1 : Int) (limit_1 : Int) (wasBalanced_1 : Bool) (wasPartitioned_1 : Bool) (data_1 : List Aa) : Option (Lp (Int × Int × Int × Bool × Bool × List Aa) ((List Aa))) :=
 cond (decide ((W (b_1 - a_1)) <= 12))
  ((Al data_1 a_1 b_1 cmp).bind fun y =>
  up (some y))
  (cond (decide (limit_1 = 0))
   ((Av data_1 a_1 b_1 cmp).bind fun y_2 =>
   up (some y_2))
   (cond (!wasBalanced_1)
    ((Au data_1 a_1 b_1 cmp).bind fun y_3 =>
    Af.j2 rec cmp a_1 b_1 wasBalanced_1 wasPartitioned_1 (W (limit_1 - 1)) y_3)
    (Af.j2 rec cmp a_1 b_1 wasBalanced_1 wasPartitioned_1 limit_1 data_1)))
def Af.F (rec : (List Aa) -> Int -> Int -> Int -> Option ((List Aa))) (data : List Aa) (a : Int) (b : Int) (limit : Int) (cmp : Aa -> Aa -> Option (Int)) : Option ((List Aa)) :=
 Ch (fun q' => Af.l1 rec cmp q'.1 q'.2.1 q'.2.2.1 q'.2.2.2.1 q'.2.2.2.2.1 q'.2.2.2.2.2) (a, b, limit, true, true, data)
def Af (data : List Aa) (a : Int) (b : Int) (limit : Int) (cmp : Aa -> Aa -> Option (Int)) : Option ((List Aa)) := V6 (fun rec (x : List Aa × Int × Int × Int) => Af.F (fun data a b limit => rec (data, a, b, limit)) x.1 x.2.1 x.2.2.1 x.2.2.2 cmp) (data, a, b, limit)
def Dk (x' : List Aa) (cmp : Aa -> Aa -> Option (Int)) : Option ((List Aa)) :=
 (Gk (IntKind.wrap .u64 (x'.length : Int))).bind fun y =>
 (Af x' 0 (x'.length : Int) y cmp).bind fun y_2 =>
 some y_2
def Bb.j3 (k2_2 : Int) (k_3 : Int) (s_3 : List Aa) : Option (Lp (Int × Int × List Aa) (Lp (Int) ((List Aa)))) :=
 some (.next (k_3, W (k2_2 + 1), s_3))
def Bb.l2 (s : List Aa) (k_1 : Int) (k_2 : Int) (k2_2 : Int) (s_2 : List Aa) : Option (Lp (Int × Int × List Aa) (Lp (Int) ((List Aa)))) :=
 cond (decide (k2_2 < (((((s.length : Int) : Int).toNat - (k_1 : Int).toNat) : Nat) : Int)))
  ((B3 ((s_2.drop ((k_1 : Int).toNat)).take (((s.length : Int) : Int).toNat - (k_1 : Int).toNat)) k2_2).bind fun e_3 =>
  (B3 ((s_2.drop ((k_1 : Int).toNat)).take (((s.length : Int) : Int).toNat - (k_1 : Int).toNat)) (W (k2_2 - 1))).bind fun e_4 =>
  cond (!decide (e_3 = e_4))
   ((B3 s_2 k_2).bind fun e_5 =>
   Bb.j3 k2_2 (W (k_2 + 1)) (Cd s_2 ((k_2).toNat) e_3))
   (Bb.j3 k2_2 k_2 s_2))
  (up (
   (bV s_2 k_2 (s_2.length : Int)).bind fun l_2 =>
   (fY s_2 ((k_2 : Int).toNat) (((s_2.length : Int) : Int).toNat - (k_2 : Int).toNat) ((Aa.mk 0 (⟨#[]⟩ : ByteArray) 0 0 0 0 (⟨#[]⟩ : ByteArray) (Aw.mk 0 0) 0 (⟨#[]⟩ : ByteArray)) : Aa)).bind fun l_3 =>
   (bV l_3 0 k_2).bind fun l_4 =>
   up (some (l_3.take ((k_2 : Int).toNat - (0 : Int).toNat)))))
def Bb.l1 (s : List Aa) (k_1 : Int) : Option (Lp (Int) ((List Aa))) :=
 cond (decide (k_1 < (s.length : Int)))
  ((B3 s k_1).bind fun e =>
  (B3 s (W (k_1 - 1))).bind fun e_2 =>
  cond (decide (e = e_2))
   ((bV s k_1 (s.length : Int)).bind fun l =>
   Ch (fun q' => Bb.l2 s k_1 q'.1 q'.2.1 q'.2.2) (k_1, 1, s))
   (some (.next (W (k_1 + 1)))))
  (up (
   some s))
def Bb (s : List Aa) : Option ((List Aa)) :=
 cond (decide ((s.length : Int) < 2))
  (some s)
  (Ch (fun q' => Bb.l1 s q') 1)
def Dh.l1 (l : (List Aa)) (x10_1 : Int) : Option (Lp (Int) ((List Aa) × Int)) :=
 cond (decide (x10_1 < (l.length : Int)))
  ((B3 l x10_1).bind fun e =>
  (Bl e).bind fun y =>
  cond (!decide (y = 0))
   (up (some (([] : (List Aa)), y)))
   (some (.next (W (x10_1 + 1)))))
  (up (
   (B2 l).bind fun y_2 =>
   (Dk y_2 (fun x0 x1 => Gp x0 x1)).bind fun y_3 =>
   (Bb y_3).bind fun y_4 =>
   cond (decide (400 < (y_4.length : Int)))
    (some (([] : (List Aa)), 3))
    (some (y_4, 0))))
def Dh (l : (List Aa)) : Option ((List Aa) × Int) :=
 Ch (fun q' => Dh.l1 l q') 0
def Ba.l5 (e : Ao) (x79_5 : Int) (p_5 : Int) (p_5_2 : ByteArray) (p_5_3 : Int) (p_5_4 : Int) (p_5_5 : Int) (p_5_6 : Int) (p_5_7 : ByteArray) (p_5_8 : Int) (p_5_9 : Int) (p_5_10 : Int) (p_5_11 : ByteArray) (l_5 : List Aa) : Option (Lp (Int × Int × ByteArray × Int × Int × Int × Int × ByteArray × Int × Int × Int × ByteArray × List Aa) ((List Aa) × Int)) :=
 cond (decide (x79_5 < (e.Hashes.length : Int)))
  ((B3 e.Hashes x79_5).bind fun e_5 =>
  (C7 (C8.mk (Aa.mk p_5 p_5_2 p_5_3 p_5_4 p_5_5 p_5_6 p_5_7 (Aw.mk p_5_8 p_5_9) p_5_10 p_5_11) l_5) 1 (Aw.mk e_5 0) 0).bind fun y_8 =>
  some (.next (W (x79_5 + 1), y_8.at_.Source, y_8.at_.Host, y_8.at_.Machine, y_8.at_.Day, y_8.at_.Confidence, y_8.at_.Kind, y_8.at_.Subject, y_8.at_.Use.Alg, y_8.at_.Use.Bits, y_8.at_.Number, y_8.at_.Text, y_8.l)))
  (up (
   (Dh l_5).bind fun y_9 =>
   some (y_9.1, y_9.2)))
def Ba.l4 (e : Ao) (x67_4 : Int) (p_4 : Int) (p_4_2 : ByteArray) (p_4_3 : Int) (p_4_4 : Int) (p_4_5 : Int) (p_4_6 : Int) (p_4_7 : ByteArray) (p_4_8 : Int) (p_4_9 : Int) (p_4_10 : Int) (p_4_11 : ByteArray) (l_4 : List Aa) : Option (Lp (Int × Int × ByteArray × Int × Int × Int × Int × ByteArray × Int × Int × Int × ByteArray × List Aa) ((List Aa) × Int)) :=
 cond (decide (x67_4 < (e.Anchors.length : Int)))
  ((B3 e.Anchors x67_4).bind fun e_4 =>
  (C7 (C8.mk (Aa.mk p_4 p_4_2 p_4_3 p_4_4 p_4_5 p_4_6 p_4_7 (Aw.mk p_4_8 p_4_9) p_4_10 p_4_11) l_4) 6 (Aw.mk 0 0) e_4).bind fun y_7 =>
  some (.next (W (x67_4 + 1), y_7.at_.Source, y_7.at_.Host, y_7.at_.Machine, y_7.at_.Day, y_7.at_.Confidence, y_7.at_.Kind, y_7.at_.Subject, y_7.at_.Use.Alg, y_7.at_.Use.Bits, y_7.at_.Number, y_7.at_.Text, y_7.l)))
  (up (
   Ch (fun q' => Ba.l5 e q'.1 q'.2.1 q'.2.2.1 q'.2.2.2.1 q'.2.2.2.2.1 q'.2.2.2.2.2.1 q'.2.2.2.2.2.2.1 q'.2.2.2.2.2.2.2.1 q'.2.2.2.2.2.2.2.2.1 q'.2.2.2.2.2.2.2.2.2.1 q'.2.2.2.2.2.2.2.2.2.2.1 q'.2.2.2.2.2.2.2.2.2.2.2.1 q'.2.2.2.2.2.2.2.2.2.2.2.2) (0, p_4, p_4_2, p_4_3, p_4_4, p_4_5, p_4_6, p_4_7, p_4_8, p_4_9, p_4_10, p_4_11, l_4)))
def Ba.l3 (e : Ao) (x53_3 : Int) (p_3 : Int) (p_3_2 : ByteArray) (p_3_3 : Int) (p_3_4 : Int) (p_3_5 : Int) (p_3_6 : Int) (p_3_7 : ByteArray) (p_3_8 : Int) (p_3_9 : Int) (p_3_10 : Int) (p_3_11 : ByteArray) (l_3 : List Aa) : Option (Lp (Int × Int × ByteArray × Int × Int × Int × Int × ByteArray × Int × Int × Int × ByteArray × List Aa) ((List Aa) × Int)) :=
 cond (decide (x53_3 < (e.Identities.length : Int)))
  ((B3 e.Identities x53_3).bind fun e_3 =>
  (C7 (C8.mk (Aa.mk p_3 p_3_2 p_3_3 p_3_4 p_3_5 p_3_6 p_3_7 (Aw.mk p_3_8 p_3_9) p_3_10 p_3_11) l_3) 3 e_3.Key e_3.KeyId).bind fun y_6 =>
  some (.next (W (x53_3 + 1), y_6.at_.Source, y_6.at_.Host, y_6.at_.Machine, y_6.at_.Day, y_6.at_.Confidence, y_6.at_.Kind, y_6.at_.Subject, y_6.at_.Use.Alg, y_6.at_.Use.Bits, y_6.at_.Number, y_6.at_.Text, y_6.l)))
  (up (
   Ch (fun q' => Ba.l4 e q'.1 q'.2.1 q'.2.2.1 q'.2.2.2.1 q'.2.2.2.2.1 q'.2.2.2.2.2.1 q'.2.2.2.2.2.2.1 q'.2.2.2.2.2.2.2.1 q'.2.2.2.2.2.2.2.2.1 q'.2.2.2.2.2.2.2.2.2.1 q'.2.2.2.2.2.2.2.2.2.2.1 q'.2.2.2.2.2.2.2.2.2.2.2.1 q'.2.2.2.2.2.2.2.2.2.2.2.2) (0, p_3, p_3_2, p_3_3, p_3_4, p_3_5, p_3_6, p_3_7, p_3_8, p_3_9, p_3_10, p_3_11, l_3)))
def Ba.l2 (e : Ao) (x41_2 : Int) (p_2 : Int) (p_2_2 : ByteArray) (p_2_3 : Int) (p_2_4 : Int) (p_2_5 : Int) (p_2_6 : Int) (p_2_7 : ByteArray) (p_2_8 : Int) (p_2_9 : Int) (p_2_10 : Int) (p_2_11 : ByteArray) (l_2 : List Aa) : Option (Lp (Int × Int × ByteArray × Int × Int × Int × Int × ByteArray × Int × Int × Int × ByteArray × List Aa) ((List Aa) × Int)) :=
 cond (decide (x41_2 < (e.Suites.length : Int)))
  ((B3 e.Suites x41_2).bind fun e_2 =>
  (C7 (C8.mk (Aa.mk p_2 p_2_2 p_2_3 p_2_4 p_2_5 p_2_6 p_2_7 (Aw.mk p_2_8 p_2_9) p_2_10 p_2_11) l_2) 2 (Aw.mk 0 0) e_2).bind fun y_5 =>
  some (.next (W (x41_2 + 1), y_5.at_.Source, y_5.at_.Host, y_5.at_.Machine, y_5.at_.Day, y_5.at_.Confidence, y_5.at_.Kind, y_5.at_.Subject, y_5.at_.Use.Alg, y_5.at_.Use.Bits, y_5.at_.Number, y_5.at_.Text, y_5.l)))
  (up (
   Ch (fun q' => Ba.l3 e q'.1 q'.2.1 q'.2.2.1 q'.2.2.2.1 q'.2.2.2.2.1 q'.2.2.2.2.2.1 q'.2.2.2.2.2.2.1 q'.2.2.2.2.2.2.2.1 q'.2.2.2.2.2.2.2.2.1 q'.2.2.2.2.2.2.2.2.2.1 q'.2.2.2.2.2.2.2.2.2.2.1 q'.2.2.2.2.2.2.2.2.2.2.2.1 q'.2.2.2.2.2.2.2.2.2.2.2.2) (0, p_2, p_2_2, p_2_3, p_2_4, p_2_5, p_2_6, p_2_7, p_2_8, p_2_9, p_2_10, p_2_11, l_2)))
def Ba.j1 (e : Ao) (y : C8 × Int) (errno_1 : Int) : Option ((List Aa) × Int) :=
 cond (!decide (errno_1 = 0))
  (some (([] : (List Aa)), errno_1))
  ((C7 y.1 5 (Aw.mk 0 0) e.Least).bind fun y_3 =>
  (C7 y_3 4 (Aw.mk 0 0) e.Most).bind fun y_4 =>
  Ch (fun q' => Ba.l2 e q'.1 q'.2.1 q'.2.2.1 q'.2.2.2.1 q'.2.2.2.2.1 q'.2.2.2.2.2.1 q'.2.2.2.2.2.2.1 q'.2.2.2.2.2.2.2.1 q'.2.2.2.2.2.2.2.2.1 q'.2.2.2.2.2.2.2.2.2.1 q'.2.2.2.2.2.2.2.2.2.2.1 q'.2.2.2.2.2.2.2.2.2.2.2.1 q'.2.2.2.2.2.2.2.2.2.2.2.2) (0, y_4.at_.Source, y_4.at_.Host, y_4.at_.Machine, y_4.at_.Day, y_4.at_.Confidence, y_4.at_.Kind, y_4.at_.Subject, y_4.at_.Use.Alg, y_4.at_.Use.Bits, y_4.at_.Number, y_4.at_.Text, y_4.l))
def Ba (at' : Aa) (e : Ao) : Option ((List Aa) × Int) :=
 (Jg at').bind fun y =>
 cond (decide (y.2 = 0))
  ((Bi e).bind fun y_2 =>
  Ba.j1 e y y_2)
  (Ba.j1 e y y.2)
def Fz (e : Ao) (at' : Aa) : Option ((List Aa) × Int) :=
 (Ba at' e).bind fun y =>
 some (y.1, y.2)
def Mm (f : Aa) : Option (Cu) :=
 some (Cu.mk f.Host f.Day f.Kind f.Use f.Number f.Text)
def Fx (x' : Aa) (c0 : (List (Cu × Bool))) : Option (Bool) :=
 (Mm x').bind fun y =>
 some (F4 c0 y false)
def A9.l1 (s : (List Aa)) (f : Aa -> Option (Bool)) (x8_1 : Int) : Option (Lp (Int) (Int)) :=
 cond (decide (x8_1 < (s.length : Int)))
  ((B3 s x8_1).bind fun e =>
  (f e).bind fun y =>
  cond (y)
   (up (some x8_1))
   (some (.next (W (x8_1 + 1)))))
  (up (
   some (-1)))
def A9 (s : (List Aa)) (f : Aa -> Option (Bool)) : Option (Int) :=
 Ch (fun q' => A9.l1 s f q') 0
def A4.j2 (j_1 : Int) (i_2 : Int) (s_2 : List Aa) : Option (Lp (Int × Int × List Aa) ((List Aa))) :=
 some (.next (i_2, W (j_1 + 1), s_2))
def A4.l1 (del : Aa -> Option (Bool)) (i_1 : Int) (j_1 : Int) (s_1 : List Aa) : Option (Lp (Int × Int × List Aa) ((List Aa))) :=
 cond (decide (j_1 < (s_1.length : Int)))
  ((B3 s_1 j_1).bind fun e =>
  (del e).bind fun y_2 =>
  cond (!y_2)
   ((B3 s_1 i_1).bind fun e_2 =>
   A4.j2 j_1 (W (i_1 + 1)) (Cd s_1 ((i_1).toNat) e))
   (A4.j2 j_1 i_1 s_1))
  (up (
   (bV s_1 i_1 (s_1.length : Int)).bind fun l =>
   (fY s_1 ((i_1 : Int).toNat) (((s_1.length : Int) : Int).toNat - (i_1 : Int).toNat) ((Aa.mk 0 (⟨#[]⟩ : ByteArray) 0 0 0 0 (⟨#[]⟩ : ByteArray) (Aw.mk 0 0) 0 (⟨#[]⟩ : ByteArray)) : Aa)).bind fun l_2 =>
   (bV l_2 0 i_1).bind fun l_3 =>
   some (l_2.take ((i_1 : Int).toNat - (0 : Int).toNat))))
def A4 (s : List Aa) (del : Aa -> Option (Bool)) : Option ((List Aa)) :=
 (A9 s del).bind fun y =>
 cond (decide (y = (-1)))
  (some s)
  (Ch (fun q' => A4.l1 del q'.1 q'.2.1 q'.2.2) (y, W (y + 1), s))
def C3.l1 (l : (List Aa)) (y : (List Aa) × Int) (x25_1 : Int) (m_1 : (List (Cu × Bool))) : Option (Lp (Int × (List (Cu × Bool))) ((List Aa) × Int)) :=
 cond (decide (x25_1 < (l.length : Int)))
  ((B3 l x25_1).bind fun e_2 =>
  (Mm e_2).bind fun y_2 =>
  some (.next (W (x25_1 + 1), Jo m_1 y_2 true)))
  (up (
   (A4 y.1 (fun x0 => Fx x0 m_1)).bind fun y_3 =>
   some (y_3, 0)))
def C3 (e : Ao) (at' : Aa) (l : (List Aa)) : Option ((List Aa) × Int) :=
 (Fz e at').bind fun y =>
 cond (!decide (y.2 = 0))
  (some (([] : (List Aa)), y.2))
  (Ch (fun q' => C3.l1 l y q'.1 q'.2) (0, ([] : (List (Cu × Bool)))))
def F9 (x' : Aa) (c0 : Aa) (c1 : Ao) : Option (Bool) :=
 cond (decide (x'.Day = c0.Day))
  ((D8 c1 x').bind fun y =>
  some y)
  (some false)
def Dl (s : (List Aa)) (f : Aa -> Option (Bool)) : Option (Bool) :=
 (A9 s f).bind fun y =>
 some (decide (0 <= y))
def Je (e : Ao) (at' : Aa) (l : (List Aa)) : Option (Bool × Int) :=
 (C3 e at' l).bind fun y =>
 cond (!decide (y.2 = 0))
  (some (false, y.2))
  (cond (decide ((y.1.length : Int) = 0))
   ((Dl l (fun x0 => F9 x0 at' e)).bind fun y_2 =>
   some (!y_2, 0))
   (some (false, 0)))
def Ay.j3 (x48_2 : Int) (n_3 : Int) (some_3 : List Aa) : Option (Lp (Int × Int × List Aa) (Bool)) :=
 some (.next (n_3, W (x48_2 + 1), some_3))
def Ay.l5 (e : Ao) (y_5 : Aa) (y_6 : (List Aa) × Int) (some_2 : List Aa) (x105_5 : Int) (some_5 : List Aa) : Option (Lp (Int × List Aa) (Bool)) :=
 cond (decide (x105_5 < (some_2.length : Int)))
  ((B3 some_5 x105_5).bind fun e_3 =>
  some (.next (W (x105_5 + 1), Cd some_5 ((x105_5).toNat) (Aa.mk e_3.Source e_3.Host e_3.Machine 5 e_3.Confidence e_3.Kind e_3.Subject e_3.Use e_3.Number e_3.Text))))
  (up (
   (C3 e y_5 some_5).bind fun y_9 =>
   cond (decide (y_9.2 = 0))
    (cond (decide ((y_9.1.length : Int) = (y_6.1.length : Int)))
     ((Iz).bind fun y_10 =>
     some y_10)
     (some false))
    (some false)))
def Ay.j4 (e : Ao) (y_5 : Aa) (y_6 : (List Aa) × Int) (some_2 : List Aa) (x102_4 : Bool) : Option (Bool) :=
 cond (x102_4)
  (some false)
  (Ch (fun q' => Ay.l5 e y_5 y_6 some_2 q'.1 q'.2) (0, some_2))
def Ay.l2 (mask : Int) (e : Ao) (y_5 : Aa) (y_6 : (List Aa) × Int) (n_2 : Int) (x48_2 : Int) (some_2 : List Aa) : Option (Lp (Int × Int × List Aa) (Bool)) :=
 cond (decide (x48_2 < (y_6.1.length : Int)))
  ((B3 y_6.1 x48_2).bind fun e_2 =>
  (R4 x48_2 16).bind fun q =>
  (Px .u16 mask q).bind fun q_2 =>
  cond (decide ((Vx .u16 q_2 1) = 1))
   ((Lr 1232 some_2 ([(Aa.mk 7 e_2.Host 7 e_2.Day (W (1 + x48_2)) e_2.Kind e_2.Subject e_2.Use e_2.Number e_2.Text)] : List Aa)).bind fun l =>
   Ay.j3 x48_2 n_2 l)
   (Ay.j3 x48_2 (W (n_2 + 1)) some_2))
  (up (
   (C3 e y_5 some_2).bind fun y_7 =>
   (Je e y_5 some_2).bind fun y_8 =>
   cond (!decide (y_7.2 = 0))
    (Ay.j4 e y_5 y_6 some_2 true)
    (cond (!decide (y_8.2 = 0))
     (Ay.j4 e y_5 y_6 some_2 true)
     (cond (!decide ((y_7.1.length : Int) = n_2))
      (Ay.j4 e y_5 y_6 some_2 true)
      (Ay.j4 e y_5 y_6 some_2 (!decide (y_8.1 = (decide (n_2 = 0)))))))))
def Ay.j1 (mask : Int) (e : Ao) (y_5 : Aa) (y_6 : (List Aa) × Int) (x45_1 : Bool) : Option (Bool) :=
 cond (x45_1)
  (some false)
  (Ch (fun q' => Ay.l2 mask e y_5 y_6 q'.1 q'.2.1 q'.2.2) (0, 0, ([] : List Aa)))
def Ay (t : (List Int)) (mask : Int) : Option (Bool) :=
 (Ma t).bind fun y =>
 cond (!y)
  ((Iz).bind fun y_2 =>
  some y_2)
  ((N0 t).bind fun y_3 =>
  (Bd y_3).bind fun y_4 =>
  (B3 y_4.1.Endpoints 0).bind fun e =>
  (K0 e.Name 4).bind fun y_5 =>
  (Fz e y_5).bind fun y_6 =>
  cond (!decide (y_6.2 = 0))
   (Ay.j1 mask e y_5 y_6 true)
   (Ay.j1 mask e y_5 y_6 (decide ((y_6.1.length : Int) = 0))))
end
end Go.Proofs.YtkoflhimdenjaaaGreat
