import Derived.Test.YtidpkjdkfkkgiaaGreatPU
set_option linter.unusedVariables false
set_option linter.unusedSimpArgs false
namespace Go.Proofs.YtidpkjdkfkkgiaaGreat
noncomputable section
structure Ad where
 L : (List Int)
 At : Int
 deriving DecidableEq, Inhabited
structure As where
 Alg : Int
 Bits : Int
 deriving DecidableEq, Inhabited
structure Aa where
 Source : Int
 Host : ByteArray
 Machine : Int
 Day : Int
 Confidence : Int
 Kind : Int
 Subject : ByteArray
 Use : As
 Number : Int
 Text : ByteArray
 deriving DecidableEq, Inhabited
structure D4 where
 Key : Int
 Sum : Int
 deriving DecidableEq, Inhabited
structure Af where
 Serial : Int
 Issuer : ByteArray
 Subject : ByteArray
 Key : As
 KeyId : Int
 Hash : As
 From : Int
 To : Int
 Authority : Bool
 Path : Int
 Names : (List ByteArray)
 Seal : D4
 deriving DecidableEq, Inhabited
structure Be where
 Key : As
 KeyId : Int
 Chain : (List Af)
 deriving DecidableEq, Inhabited
structure A6 where
 Name : ByteArray
 Least : Int
 Most : Int
 Suites : (List Int)
 OwnOrder : Bool
 Identities : (List Be)
 Anchors : (List Int)
 Hashes : (List Int)
 Fallback : Bool
 deriving DecidableEq, Inhabited
structure C7 where
 Most : Int
 Suites : (List Int)
 Hashes : (List Int)
 deriving DecidableEq, Inhabited
structure Cz where
 Version : Int
 Suite : Int
 KeyId : Int
 deriving DecidableEq, Inhabited
structure C9 where
 Alias : ByteArray
 Key : As
 KeyId : Int
 Secret : Bool
 Chain : (List Af)
 deriving DecidableEq, Inhabited
structure Dh where
 at_ : Aa
 l : (List Aa)
 deriving DecidableEq, Inhabited
structure Bv where
 name : ByteArray
 kind : Int
 way : Int
 sizes : (List Int)
 strengths : (List Int)
 deriving DecidableEq, Inhabited
structure Ay where
 Code : Int
 Name : ByteArray
 Exchange : As
 Sign : As
 Cipher : As
 Mac : As
 Least : Int
 Most : Int
 deriving DecidableEq, Inhabited
structure Ar where
 name : ByteArray
 kind : Int
 deriving DecidableEq, Inhabited
structure Ah where
 Tag : Int
 Bytes : (List UInt8)
 Nested : Bool
 Elements : (List Ah)
def Mo (l : (List Int)) : Option (Bool) :=
 some (decide ((l.length : Int) <= 400))
def Bs.j2 (x8_1 : Int) (x17_2 : Bool) : Option (Lp (Int) (Bool)) :=
 cond (x17_2)
  (up (some false))
  (some (.next (W (x8_1 + 1))))
def Bs.l1 (s : ByteArray) (x8_1 : Int) : Option (Lp (Int) (Bool)) :=
 cond (decide (x8_1 < ((Im s).length : Int)))
  ((B1 (Im s) x8_1).bind fun e =>
  cond (decide ((e.toNat : Int) <= 32))
   (Bs.j2 x8_1 true)
   (Bs.j2 x8_1 (decide (126 < (e.toNat : Int)))))
  (up (
   cond (decide (1 <= (s.size : Int)))
    (some (decide ((s.size : Int) <= 32)))
    (some false)))
def Bs (s : ByteArray) : Option (Bool) :=
 Cf (fun q' => Bs.l1 s q') 0
def N7 : Option ((List Bv)) :=
 some ([(Bv.mk (⟨#[]⟩ : ByteArray) 0 0 ([] : (List Int)) ([] : (List Int))), (Bv.mk (⟨#[109, 100, 53]⟩ : ByteArray) 1 0 ([] : (List Int)) ([18] : List Int)), (Bv.mk (⟨#[115, 104, 97, 49]⟩ : ByteArray) 1 0 ([] : (List Int)) ([60] : List Int)), (Bv.mk (⟨#[115, 104, 97, 50, 53, 54]⟩ : ByteArray) 1 0 ([] : (List Int)) ([128] : List Int)), (Bv.mk (⟨#[115, 104, 97, 51, 56, 52]⟩ : ByteArray) 1 0 ([] : (List Int)) ([192] : List Int)), (Bv.mk (⟨#[114, 115, 97]⟩ : ByteArray) 2 1 ([] : (List Int)) ([] : (List Int))), (Bv.mk (⟨#[100, 115, 97]⟩ : ByteArray) 2 1 ([] : (List Int)) ([] : (List Int))), (Bv.mk (⟨#[101, 99, 100, 115, 97]⟩ : ByteArray) 2 2 ([] : (List Int)) ([] : (List Int))), (Bv.mk (⟨#[101, 100, 50, 53, 53, 49, 57]⟩ : ByteArray) 2 0 ([] : (List Int)) ([128] : List Int)), (Bv.mk (⟨#[109, 108, 100, 115, 97]⟩ : ByteArray) 2 3 ([44, 65, 87] : List Int) ([128, 192, 256] : List Int)), (Bv.mk (⟨#[114, 115, 97, 107, 120]⟩ : ByteArray) 3 1 ([] : (List Int)) ([] : (List Int))), (Bv.mk (⟨#[100, 104, 101]⟩ : ByteArray) 3 1 ([] : (List Int)) ([] : (List Int))), (Bv.mk (⟨#[101, 99, 100, 104, 101]⟩ : ByteArray) 3 2 ([] : (List Int)) ([] : (List Int))), (Bv.mk (⟨#[109, 108, 107, 101, 109]⟩ : ByteArray) 3 3 ([512, 768, 1024] : List Int) ([128, 192, 256] : List Int)), (Bv.mk (⟨#[114, 99, 52]⟩ : ByteArray) 4 3 ([40, 128] : List Int) ([40, 60] : List Int)), (Bv.mk (⟨#[100, 101, 115, 51]⟩ : ByteArray) 4 3 ([112, 168] : List Int) ([80, 112] : List Int)), (Bv.mk (⟨#[97, 101, 115, 99, 98, 99]⟩ : ByteArray) 4 3 ([128, 256] : List Int) ([128, 256] : List Int)), (Bv.mk (⟨#[97, 101, 115, 103, 99, 109]⟩ : ByteArray) 4 3 ([128, 256] : List Int) ([128, 256] : List Int)), (Bv.mk (⟨#[99, 104, 97, 99, 104, 97]⟩ : ByteArray) 4 0 ([] : (List Int)) ([256] : List Int)), (Bv.mk (⟨#[104, 109, 97, 99, 109, 100, 53]⟩ : ByteArray) 5 0 ([] : (List Int)) ([64] : List Int)), (Bv.mk (⟨#[104, 109, 97, 99, 115, 104, 97, 49]⟩ : ByteArray) 5 0 ([] : (List Int)) ([80] : List Int)), (Bv.mk (⟨#[104, 109, 97, 99, 115, 104, 97, 50, 53, 54]⟩ : ByteArray) 5 0 ([] : (List Int)) ([128] : List Int)), (Bv.mk (⟨#[97, 101, 97, 100]⟩ : ByteArray) 5 0 ([] : (List Int)) ([256] : List Int))] : List Bv)
def Ef.j1 (alg : Int) (x9_1 : Bool) : Option (Bv × Bool) :=
 cond (x9_1)
  (some ((Bv.mk (⟨#[]⟩ : ByteArray) 0 0 ([] : (List Int)) ([] : (List Int))), false))
  ((N7).bind fun y =>
  (B1 (aB0 23 y) alg).bind fun e =>
  some (e, true))
def Ef (alg : Int) : Option (Bv × Bool) :=
 cond (decide (alg < 1))
  (Ef.j1 alg true)
  (Ef.j1 alg (decide (22 < alg)))
def Db.l1 (bits : Int) (x11_1 : Int) : Option (Lp (Int) (Int)) :=
 cond (decide (x11_1 < 5))
  ((B1 ([([1024, 56] : List Int), ([2048, 80] : List Int), ([3072, 112] : List Int), ([7680, 128] : List Int), ([15360, 192] : List Int)] : List (List Int)) x11_1).bind fun e =>
  cond (decide (bits < (e[0]!)))
   (up (some (e[1]!)))
   (some (.next (W (x11_1 + 1)))))
  (up (
   some 256))
def Db (bits : Int) : Option (Int) :=
 Cf (fun q' => Db.l1 bits q') 0
def B3.l1 (s : (List Int)) (v : Int) (x8_1 : Int) : Option (Lp (Int) (Int)) :=
 cond (decide (x8_1 < (s.length : Int)))
  ((B1 s x8_1).bind fun e =>
  cond (decide (v = e))
   (up (some x8_1))
   (some (.next (W (x8_1 + 1)))))
  (up (
   some (-1)))
def B3 (s : (List Int)) (v : Int) : Option (Int) :=
 Cf (fun q' => B3.l1 s v q') 0
def D0 (s : (List Int)) (v : Int) : Option (Bool) :=
 (B3 s v).bind fun y =>
 some (decide (0 <= y))
def A8.j1 (u : As) (x34_1 : Bool) : Option (Int) :=
 cond (x34_1)
  ((Db u.Bits).bind fun y_2 =>
  some y_2)
  (some 0)
def A8 (u : As) : Option (Int) :=
 (Ef u.Alg).bind fun y =>
 cond (!y.2)
  (some 0)
  (cond (decide (y.1.way = 0))
   (cond (decide (u.Bits = 0))
    ((B1 y.1.strengths 0).bind fun e =>
    some e)
    (some 0))
   (cond (decide (y.1.way = 1))
    (cond (decide (512 <= u.Bits))
     (A8.j1 u (decide (u.Bits <= 16384)))
     (A8.j1 u false))
    (cond (decide (y.1.way = 2))
     ((D0 ([160, 224, 256, 384, 521] : List Int) u.Bits).bind fun y_3 =>
     cond (y_3)
      ((Ly u.Bits 2).bind fun q =>
      some q)
      (some 0))
     (cond (decide (y.1.way = 3))
      ((B3 y.1.sizes u.Bits).bind fun y_4 =>
      cond (decide (0 <= y_4))
       ((B1 y.1.strengths y_4).bind fun e_2 =>
       some e_2)
       (some 0))
      (some 0)))))
def Gc (u : As) : Option (Bool) :=
 (A8 u).bind fun y =>
 some (decide (0 < y))
def Gv (alg : Int) : Option (Int) :=
 (Ef alg).bind fun y =>
 some y.1.kind
def A3.j3 (f : Aa) (bare_1 : Bool) (x71_3 : Bool) : Option (Bool) :=
 cond (x71_3)
  (cond (bare_1)
   (cond (decide (1 <= f.Number))
    (some (decide (f.Number <= 4)))
    (some false))
   (some false))
  (cond (decide (f.Kind = 6))
   (cond (bare_1)
    (cond (decide (0 <= f.Number))
     (some (decide (f.Number <= 2147483648)))
     (some false))
    (some false))
   (cond (decide (f.Kind = 7))
    (cond (decide (f.Use = (As.mk 0 0)))
     (cond (decide (f.Number = 0))
      ((Bs f.Text).bind fun y_4 =>
      some y_4)
      (some false))
     (some false))
    (some false)))
def A3.j2 (f : Aa) (bare_1 : Bool) (x15_2 : Bool) : Option (Bool) :=
 cond (x15_2)
  ((Gc f.Use).bind fun y =>
  cond (y)
   (cond (decide (f.Number = 0))
    (some (decide (f.Text = (⟨#[]⟩ : ByteArray))))
    (some false))
   (some false))
  (cond (decide (f.Kind = 2))
   (cond (bare_1)
    (cond (decide (0 <= f.Number))
     (some (decide (f.Number <= 65535)))
     (some false))
    (some false))
   (cond (decide (f.Kind = 3))
    ((Gc f.Use).bind fun y_2 =>
    cond (y_2)
     ((Gv f.Use.Alg).bind fun y_3 =>
     cond (decide (y_3 = 2))
      (cond (decide (0 <= f.Number))
       (cond (decide (f.Number <= 2147483648))
        (some (decide (f.Text = (⟨#[]⟩ : ByteArray))))
        (some false))
       (some false))
      (some false))
     (some false))
    (cond (decide (f.Kind = 4))
     (A3.j3 f bare_1 (decide (f.Kind = 4)))
     (A3.j3 f bare_1 (decide (f.Kind = 5))))))
def A3.j1 (f : Aa) (bare_1 : Bool) : Option (Bool) :=
 cond (decide (f.Kind = 1))
  (A3.j2 f bare_1 (decide (f.Kind = 1)))
  (A3.j2 f bare_1 (decide (f.Kind = 8)))
def A3 (f : Aa) : Option (Bool) :=
 cond (decide (f.Use = (As.mk 0 0)))
  (A3.j1 f (decide (f.Text = (⟨#[]⟩ : ByteArray))))
  (A3.j1 f false)
def Bd.j3 (x61_3 : Bool) : Option (Int) :=
 cond (x61_3)
  (some 24)
  (some 0)
def Bd.j2 (f : Aa) (where_1 : Bool) (when_2 : Bool) : Option (Int) :=
 cond (!where_1)
  (Bd.j3 true)
  (cond (!when_2)
   (Bd.j3 true)
   (cond (decide (f.Source < 1))
    (Bd.j3 true)
    (cond (decide (7 < f.Source))
     (Bd.j3 true)
     ((A3 f).bind fun y_3 =>
     Bd.j3 (!y_3)))))
def Bd.j1 (f : Aa) (where_1 : Bool) : Option (Int) :=
 cond (decide (0 <= f.Day))
  (cond (decide (f.Day <= 40000))
   (cond (decide (1 <= f.Confidence))
    (Bd.j2 f where_1 (decide (f.Confidence <= 100)))
    (Bd.j2 f where_1 false))
   (Bd.j2 f where_1 false))
  (Bd.j2 f where_1 false)
def Bd (f : Aa) : Option (Int) :=
 (Bs f.Host).bind fun y =>
 cond (y)
  ((Bs f.Subject).bind fun y_2 =>
  cond (y_2)
   (cond (decide (0 <= f.Machine))
    (Bd.j1 f (decide (f.Machine <= 1099511627776)))
    (Bd.j1 f false))
   (Bd.j1 f false))
  (Bd.j1 f false)
def Gu (at' : Aa) : Option (Dh × Int) :=
 (Bd (Aa.mk at'.Source at'.Host at'.Machine at'.Day at'.Confidence 4 at'.Subject (As.mk 0 0) 1 (⟨#[]⟩ : ByteArray))).bind fun y =>
 some ((Dh.mk (Aa.mk at'.Source at'.Host at'.Machine at'.Day at'.Confidence 4 at'.Subject (As.mk 0 0) 1 (⟨#[]⟩ : ByteArray)) ([] : (List Aa))), y)
def Ej (n : Int) : Option (Bool) :=
 cond (decide (0 <= n))
  (some (decide (n <= 2147483648)))
  (some false)
def Bu.j2 (x7_1 : Int) (x27_2 : Bool) : Option (Lp (Int) (Bool)) :=
 cond (x27_2)
  (up (some false))
  (some (.next (W (x7_1 + 1))))
def Bu.l1 (l : (List ByteArray)) (x7_1 : Int) : Option (Lp (Int) (Bool)) :=
 cond (decide (x7_1 < (l.length : Int)))
  ((B1 l x7_1).bind fun e =>
  (Bs e).bind fun y =>
  cond (!y)
   (Bu.j2 x7_1 true)
   (cond (decide (0 < x7_1))
    ((B1 l (W (x7_1 - 1))).bind fun e_2 =>
    Bu.j2 x7_1 (!K1 (Im e_2) (Im e)))
    (Bu.j2 x7_1 false)))
  (up (
   some (decide ((l.length : Int) <= 8))))
def Bu (l : (List ByteArray)) : Option (Bool) :=
 Cf (fun q' => Bu.l1 l q') 0
def Hq (u : As) (kind : Int) : Option (Bool) :=
 (Gc u).bind fun y =>
 cond (y)
  ((Gv u.Alg).bind fun y_2 =>
  some (decide (y_2 = kind)))
  (some false)
def Ib (n : Int) : Option (Bool) :=
 cond (decide (0 <= n))
  (some (decide (n < 4294967296)))
  (some false)
def Bc.j3 (c : Af) (x73_3 : Bool) : Option (Bool) :=
 cond (x73_3)
  (some false)
  (cond (decide (0 <= c.Path))
   (cond (decide (c.Path <= 8))
    (cond (c.Authority)
     (some true)
     (some (decide (c.Path = 0))))
    (some false))
   (some false))
def Bc.j2 (c : Af) (x58_2 : Bool) : Option (Bool) :=
 cond (x58_2)
  (some false)
  (cond (decide (c.From < 0))
   (Bc.j3 c true)
   (cond (decide (c.To < c.From))
    (Bc.j3 c true)
    (Bc.j3 c (decide (40000 < c.To)))))
def Bc.j1 (c : Af) (x28_1 : Bool) : Option (Bool) :=
 cond (x28_1)
  (some false)
  ((Hq c.Key 2).bind fun y_4 =>
  cond (!y_4)
   (Bc.j2 c true)
   ((Ej c.KeyId).bind fun y_5 =>
   cond (!y_5)
    (Bc.j2 c true)
    ((Hq c.Hash 1).bind fun y_6 =>
    cond (!y_6)
     (Bc.j2 c true)
     ((Ej c.Seal.Key).bind fun y_7 =>
     cond (!y_7)
      (Bc.j2 c true)
      ((Ib c.Seal.Sum).bind fun y_8 =>
      Bc.j2 c (!y_8))))))
def Bc (c : Af) : Option (Bool) :=
 cond (decide (c.Serial < 0))
  (Bc.j1 c true)
  (cond (decide (1099511627776 < c.Serial))
   (Bc.j1 c true)
   ((Bs c.Issuer).bind fun y =>
   cond (!y)
    (Bc.j1 c true)
    ((Bs c.Subject).bind fun y_2 =>
    cond (!y_2)
     (Bc.j1 c true)
     ((Bu c.Names).bind fun y_3 =>
     Bc.j1 c (!y_3)))))
def Hh (c : Af) : Option (Int) :=
 (Bc c).bind fun y =>
 cond (!y)
  (some 9)
  (some 0)
def Bn.l2 (key : As) (id : Int) (l : (List Af)) (x30_2 : Int) : Option (Lp (Int) (Bool)) :=
 cond (decide (x30_2 < (l.length : Int)))
  ((B1 l x30_2).bind fun e =>
  (Hh e).bind fun y_4 =>
  cond (!decide (y_4 = 0))
   (up (some false))
   (some (.next (W (x30_2 + 1)))))
  (up (
   cond (decide ((l.length : Int) = 0))
    (some true)
    ((B1 l 0).bind fun e_2 =>
    cond (decide (e_2.Key = key))
     (some (decide (e_2.KeyId = id)))
     (some false))))
def Bn.j1 (key : As) (id : Int) (l : (List Af)) (x27_1 : Bool) : Option (Bool) :=
 cond (x27_1)
  (some false)
  (Cf (fun q' => Bn.l2 key id l q') 0)
def Bn (key : As) (id : Int) (l : (List Af)) : Option (Bool) :=
 (Gc key).bind fun y =>
 cond (!y)
  (Bn.j1 key id l true)
  ((Gv key.Alg).bind fun y_2 =>
  cond (!decide (y_2 = 2))
   (Bn.j1 key id l true)
   ((Ej id).bind fun y_3 =>
   cond (!y_3)
    (Bn.j1 key id l true)
    (Bn.j1 key id l (decide (8 < (l.length : Int))))))
def B4.j2 (x7_1 : Int) (x40_2 : Bool) : Option (Lp (Int) (Int)) :=
 cond (x40_2)
  (up (some 16))
  (some (.next (W (x7_1 + 1))))
def B4.l1 (l : (List C9)) (x7_1 : Int) : Option (Lp (Int) (Int)) :=
 cond (decide (x7_1 < (l.length : Int)))
  ((B1 l x7_1).bind fun e =>
  (Bs e.Alias).bind fun y =>
  cond (!y)
   (B4.j2 x7_1 true)
   (cond (decide (0 < x7_1))
    ((B1 l (W (x7_1 - 1))).bind fun e_2 =>
    cond (!K1 (Im e_2.Alias) (Im e.Alias))
     (B4.j2 x7_1 true)
     ((Bn e.Key e.KeyId e.Chain).bind fun y_2 =>
     B4.j2 x7_1 (!y_2)))
    ((Bn e.Key e.KeyId e.Chain).bind fun y_3 =>
    B4.j2 x7_1 (!y_3))))
  (up (
   cond (decide (64 < (l.length : Int)))
    (some 16)
    (some 0)))
def B4 (l : (List C9)) : Option (Int) :=
 Cf (fun q' => B4.l1 l q') 0
def Cp (p : Dh) (kind : Int) (u : As) (number : Int) : Option (Dh) :=
 (Jn 1232 p.l ([(Aa.mk p.at_.Source p.at_.Host p.at_.Machine p.at_.Day p.at_.Confidence kind p.at_.Subject u number p.at_.Text)] : List Aa)).bind fun l =>
 some (Dh.mk p.at_ l)
def B6.j1 (s : (List Aa)) (x4_1 : Bool) : Option ((List Aa)) :=
 cond (x4_1)
  (some ([] : (List Aa)))
  ((Jn 1232 ([] : List Aa) s).bind fun l =>
  some l)
def B6 (s : (List Aa)) : Option ((List Aa)) :=
 eX (s)
  (B6.j1 s true)
  (B6.j1 s false)
def Bi.j3 (x_3 : Int) (n_3 : Int) : Option (Int) :=
 (dI (⟨#[0, 1, 2, 2, 3, 3, 3, 3, 4, 4, 4, 4, 4, 4, 4, 4, 5, 5, 5, 5, 5, 5, 5, 5, 5, 5, 5, 5, 5, 5, 5, 5, 6, 6, 6, 6, 6, 6, 6, 6, 6, 6, 6, 6, 6, 6, 6, 6, 6, 6, 6, 6, 6, 6, 6, 6, 6, 6, 6, 6, 6, 6, 6, 6, 7, 7, 7, 7, 7, 7, 7, 7, 7, 7, 7, 7, 7, 7, 7, 7, 7, 7, 7, 7, 7, 7, 7, 7, 7, 7, 7, 7, 7, 7, 7, 7, 7, 7, 7, 7, 7, 7, 7, 7, 7, 7, 7, 7, 7, 7, 7, 7, 7, 7, 7, 7, 7, 7, 7, 7, 7, 7, 7, 7, 7, 7, 7, 7, 8, 8, 8, 8, 8, 8, 8, 8, 8, 8, 8, 8, 8, 8, 8, 8, 8, 8, 8, 8, 8, 8, 8, 8, 8, 8, 8, 8, 8, 8, 8, 8, 8, 8, 8, 8, 8, 8, 8, 8, 8, 8, 8, 8, 8, 8, 8, 8, 8, 8, 8, 8, 8, 8, 8, 8, 8, 8, 8, 8, 8, 8, 8, 8, 8, 8, 8, 8, 8, 8, 8, 8, 8, 8, 8, 8, 8, 8, 8, 8, 8, 8, 8, 8, 8, 8, 8, 8, 8, 8, 8, 8, 8, 8, 8, 8, 8, 8, 8, 8, 8, 8, 8, 8, 8, 8, 8, 8, 8, 8, 8, 8, 8, 8, 8, 8, 8, 8, 8, 8, 8, 8, 8, 8, 8, 8, 8, 8]⟩ : ByteArray) ((u8 x_3).toNat : Int)).bind fun c =>
 some (W (n_3 + (c.toNat : Int)))
def Bi.j2 (x_2 : Int) (n_2 : Int) : Option (Int) :=
 cond (decide (256 <= x_2))
  ((Ov .u64 x_2 8).bind fun q_3 =>
  Bi.j3 q_3 (W (n_2 + 8)))
  (Bi.j3 x_2 n_2)
def Bi.j1 (x_1 : Int) (n_1 : Int) : Option (Int) :=
 cond (decide (65536 <= x_1))
  ((Ov .u64 x_1 16).bind fun q_2 =>
  Bi.j2 q_2 (W (n_1 + 16)))
  (Bi.j2 x_1 n_1)
def Bi (x' : Int) : Option (Int) :=
 cond (decide (4294967296 <= x'))
  ((Ov .u64 x' 32).bind fun q =>
  Bi.j1 q 32)
  (Bi.j1 x' 0)
def Hc (x' : Int) : Option (Int) :=
 (Bi x').bind fun y =>
 some y
def G0 (c0 : Aa) (c1 : Aa) : Option ((Aa × Aa)) :=
 some (c0, c1)
def G6 (c0 : Aa) (c1 : Aa) : Option ((Aa × Aa)) :=
 some (c0, c1)
def G7 (c0 : Aa) (c1 : Aa) : Option ((Aa × Aa)) :=
 some (c0, c1)
def Gy (c0 : Aa) (c1 : Aa) : Option ((Aa × Aa)) :=
 some (c0, c1)
def G5 (c0 : Aa) (c1 : Aa) : Option ((Aa × Aa)) :=
 some (c0, c1)
def G8 (c0 : Aa) (c1 : Aa) : Option ((Aa × Aa)) :=
 some (c0, c1)
def G4 (c0 : Aa) (c1 : Aa) : Option ((Aa × Aa)) :=
 some (c0, c1)
def Gz (c0 : Aa) (c1 : Aa) : Option ((Aa × Aa)) :=
 some (c0, c1)
def G1 (c0 : Aa) (c1 : Aa) : Option ((Aa × Aa)) :=
 some (c0, c1)
def G2 (c0 : Aa) (c1 : Aa) : Option ((Aa × Aa)) :=
 some (c0, c1)
def G3 (c0 : Aa) (c1 : Aa) : Option ((Aa × Aa)) :=
 some (c0, c1)
def Hu (f : Aa) : Option (ByteArray) :=
 some f.Host
def E0 (a : ByteArray) (b : ByteArray) : Option (Int) :=
 some (kU a b)
def Fs (a : ByteArray) (b : ByteArray) : Option (Int) :=
 (E0 a b).bind fun y =>
 some y
def Ft (c1 : Aa) (c2 : Aa) : Option (Int) :=
 (Hu c1).bind fun y =>
 (Hu c2).bind fun y_2 =>
 (Fs y y_2).bind fun y_3 =>
 some y_3
def H1 (f : Aa) : Option (Int) :=
 some f.Machine
def I3 (x' : Int) : Option (Bool) :=
 some (!decide (x' = x'))
def Dv (x' : Int) (y : Int) : Option (Int) :=
 (I3 x').bind fun y_2 =>
 (I3 y).bind fun y_3 =>
 cond (y_2)
  (cond (y_3)
   (some 0)
   (some (-1)))
  (cond (y_3)
   (some 1)
   (cond (decide (x' < y))
    (some (-1))
    (cond (decide (y < x'))
     (some 1)
     (some 0))))
def Fw (c1 : Aa) (c2 : Aa) : Option (Int) :=
 (H1 c1).bind fun y =>
 (H1 c2).bind fun y_2 =>
 (Dv y y_2).bind fun y_3 =>
 some y_3
def Hz (f : Aa) : Option (Int) :=
 some f.Day
def Fv (c1 : Aa) (c2 : Aa) : Option (Int) :=
 (Hz c1).bind fun y =>
 (Hz c2).bind fun y_2 =>
 (Dv y y_2).bind fun y_3 =>
 some y_3
def H3 (f : Aa) : Option (ByteArray) :=
 some f.Subject
def F9 (c1 : Aa) (c2 : Aa) : Option (Int) :=
 (H3 c1).bind fun y =>
 (H3 c2).bind fun y_2 =>
 (Fs y y_2).bind fun y_3 =>
 some y_3
def Hw (f : Aa) : Option (Int) :=
 some f.Kind
def Fr (c1 : Aa) (c2 : Aa) : Option (Int) :=
 (Hw c1).bind fun y =>
 (Hw c2).bind fun y_2 =>
 (Dv y y_2).bind fun y_3 =>
 some y_3
def Hv (f : Aa) : Option (Int) :=
 some f.Use.Alg
def Fz (c1 : Aa) (c2 : Aa) : Option (Int) :=
 (Hv c1).bind fun y =>
 (Hv c2).bind fun y_2 =>
 (Dv y y_2).bind fun y_3 =>
 some y_3
def Hx (f : Aa) : Option (Int) :=
 some f.Use.Bits
def Fy (c1 : Aa) (c2 : Aa) : Option (Int) :=
 (Hx c1).bind fun y =>
 (Hx c2).bind fun y_2 =>
 (Dv y y_2).bind fun y_3 =>
 some y_3
def Hg (f : Aa) : Option (Int) :=
 some f.Number
def F2 (c1 : Aa) (c2 : Aa) : Option (Int) :=
 (Hg c1).bind fun y =>
 (Hg c2).bind fun y_2 =>
 (Dv y y_2).bind fun y_3 =>
 some y_3
def Hi (f : Aa) : Option (ByteArray) :=
 some f.Text
def F3 (c1 : Aa) (c2 : Aa) : Option (Int) :=
 (Hi c1).bind fun y =>
 (Hi c2).bind fun y_2 =>
 (Fs y y_2).bind fun y_3 =>
 some y_3
def Hj (f : Aa) : Option (Int) :=
 some f.Source
def Ga (c1 : Aa) (c2 : Aa) : Option (Int) :=
 (Hj c1).bind fun y =>
 (Hj c2).bind fun y_2 =>
 (Dv y y_2).bind fun y_3 =>
 some y_3
def Hf (f : Aa) : Option (Int) :=
 some f.Confidence
def Fx (c1 : Aa) (c2 : Aa) : Option (Int) :=
 (Hf c1).bind fun y =>
 (Hf c2).bind fun y_2 =>
 (Dv y y_2).bind fun y_3 =>
 some y_3
def Ha (a : Aa) (b : Aa) : Option (Int) :=
 (G0 a b).bind fun y =>
 (G6 a b).bind fun y_2 =>
 (G7 a b).bind fun y_3 =>
 (Gy a b).bind fun y_4 =>
 (G5 a b).bind fun y_5 =>
 (G8 a b).bind fun y_6 =>
 (G4 a b).bind fun y_7 =>
 (Gz a b).bind fun y_8 =>
 (G1 a b).bind fun y_9 =>
 (G2 a b).bind fun y_10 =>
 (G3 a b).bind fun y_11 =>
 (Ft y.1 y.2).bind fun y_12 =>
 cond (!decide (y_12 = 0))
  (some y_12)
  ((Fw y_2.1 y_2.2).bind fun y_13 =>
  cond (!decide (y_13 = 0))
   (some y_13)
   ((Fv y_3.1 y_3.2).bind fun y_14 =>
   cond (!decide (y_14 = 0))
    (some y_14)
    ((F9 y_4.1 y_4.2).bind fun y_15 =>
    cond (!decide (y_15 = 0))
     (some y_15)
     ((Fr y_5.1 y_5.2).bind fun y_16 =>
     cond (!decide (y_16 = 0))
      (some y_16)
      ((Fz y_6.1 y_6.2).bind fun y_17 =>
      cond (!decide (y_17 = 0))
       (some y_17)
       ((Fy y_7.1 y_7.2).bind fun y_18 =>
       cond (!decide (y_18 = 0))
        (some y_18)
        ((F2 y_8.1 y_8.2).bind fun y_19 =>
        cond (!decide (y_19 = 0))
         (some y_19)
         ((F3 y_9.1 y_9.2).bind fun y_20 =>
         cond (!decide (y_20 = 0))
          (some y_20)
          ((Ga y_10.1 y_10.2).bind fun y_21 =>
          cond (!decide (y_21 = 0))
           (some y_21)
           ((Fx y_11.1 y_11.2).bind fun y_22 =>
           cond (!decide (y_22 = 0))
            (some y_22)
            (some 0)))))))))))
def Am.j3 (i_1 : Int) (j_2 : Int) (data_2 : List Aa) (x34_3 : Bool) : Option (Lp (Int × List Aa) (Lp (Int × List Aa) ((List Aa)))) :=
 cond (x34_3)
  ((B1 data_2 (W (j_2 - 1))).bind fun e_3 =>
  (B1 data_2 j_2).bind fun e_4 =>
  (B1 (Cs data_2 ((j_2).toNat) e_3) (W (j_2 - 1))).bind fun e_5 =>
  some (.next (W (j_2 - 1), Cs (Cs data_2 ((j_2).toNat) e_3) ((W (j_2 - 1)).toNat) e_4)))
  (up (
   some (.next (W (i_1 + 1), data_2))))
def Am.l2 (a : Int) (cmp : Aa -> Aa -> Option (Int)) (i_1 : Int) (j_2 : Int) (data_2 : List Aa) : Option (Lp (Int × List Aa) (Lp (Int × List Aa) ((List Aa)))) :=
 cond (decide (a < j_2))
  ((B1 data_2 j_2).bind fun e =>
  (B1 data_2 (W (j_2 - 1))).bind fun e_2 =>
  (cmp e e_2).bind fun y =>
  Am.j3 i_1 j_2 data_2 (decide (y < 0)))
  (Am.j3 i_1 j_2 data_2 false)
def Am.l1 (a : Int) (b : Int) (cmp : Aa -> Aa -> Option (Int)) (i_1 : Int) (data_1 : List Aa) : Option (Lp (Int × List Aa) ((List Aa))) :=
 cond (decide (i_1 < b))
  (Cf (fun q' => Am.l2 a cmp i_1 q'.1 q'.2) (i_1, data_1))
  (up (some data_1))
def Am (data : List Aa) (a : Int) (b : Int) (cmp : Aa -> Aa -> Option (Int)) : Option ((List Aa)) :=
 Cf (fun q' => Am.l1 a b cmp q'.1 q'.2) (W (a + 1), data)
def An.j3 (first : Int) (cmp : Aa -> Aa -> Option (Int)) (root_1 : Int) (data_1 : List Aa) (child_3 : Int) : Option (Lp (Int × List Aa) ((List Aa))) :=
 (B1 data_1 (W (first + root_1))).bind fun e_3 =>
 (B1 data_1 (W (first + child_3))).bind fun e_4 =>
 (cmp e_3 e_4).bind fun y_2 =>
 cond (!(decide (y_2 < 0)))
  (up (some data_1))
  ((B1 (Cs data_1 ((W (first + root_1)).toNat) e_4) (W (first + child_3))).bind fun e_5 =>
  some (.next (child_3, Cs (Cs data_1 ((W (first + root_1)).toNat) e_4) ((W (first + child_3)).toNat) e_3)))
def An.j2 (first : Int) (cmp : Aa -> Aa -> Option (Int)) (root_1 : Int) (data_1 : List Aa) (x40_2 : Bool) : Option (Lp (Int × List Aa) ((List Aa))) :=
 cond (x40_2)
  (An.j3 first cmp root_1 data_1 (W ((W ((W (2 * root_1)) + 1)) + 1)))
  (An.j3 first cmp root_1 data_1 (W ((W (2 * root_1)) + 1)))
def An.l1 (hi : Int) (first : Int) (cmp : Aa -> Aa -> Option (Int)) (root_1 : Int) (data_1 : List Aa) : Option (Lp (Int × List Aa) ((List Aa))) :=
 cond (decide (hi <= (W ((W (2 * root_1)) + 1))))
  (up (some data_1))
  (cond (decide ((W ((W ((W (2 * root_1)) + 1)) + 1)) < hi))
   ((B1 data_1 (W (first + (W ((W (2 * root_1)) + 1))))).bind fun e =>
   (B1 data_1 (W ((W (first + (W ((W (2 * root_1)) + 1)))) + 1))).bind fun e_2 =>
   (cmp e e_2).bind fun y =>
   An.j2 first cmp root_1 data_1 (decide (y < 0)))
   (An.j2 first cmp root_1 data_1 false))
def An (data : List Aa) (lo : Int) (hi : Int) (first : Int) (cmp : Aa -> Aa -> Option (Int)) : Option ((List Aa)) :=
 Cf (fun q' => An.l1 hi first cmp q'.1 q'.2) (lo, data)
def Ax.l2 (a : Int) (cmp : Aa -> Aa -> Option (Int)) (i_2 : Int) (data_2 : List Aa) : Option (Lp (Int × List Aa) ((List Aa))) :=
 cond (decide (0 <= i_2))
  ((B1 data_2 (W (a + i_2))).bind fun e =>
  (B1 data_2 a).bind fun e_2 =>
  (B1 (Cs data_2 ((a).toNat) e) (W (a + i_2))).bind fun e_3 =>
  (An (Cs (Cs data_2 ((a).toNat) e) ((W (a + i_2)).toNat) e_2) 0 i_2 a cmp).bind fun y_2 =>
  some (.next (W (i_2 - 1), y_2)))
  (up (some data_2))
def Ax.l1 (a : Int) (b : Int) (cmp : Aa -> Aa -> Option (Int)) (i_1 : Int) (data_1 : List Aa) : Option (Lp (Int × List Aa) ((List Aa))) :=
 cond (decide (0 <= i_1))
  ((An data_1 i_1 (W (b - a)) a cmp).bind fun y =>
  some (.next (W (i_1 - 1), y)))
  (up (
   Cf (fun q' => Ax.l2 a cmp q'.1 q'.2) (W ((W (b - a)) - 1), data_1)))
def Ax (data : List Aa) (a : Int) (b : Int) (cmp : Aa -> Aa -> Option (Int)) : Option ((List Aa)) :=
 (Ly (W ((W (b - a)) - 1)) 2).bind fun q =>
 Cf (fun q' => Ax.l1 a b cmp q'.1 q'.2) (q, data)
def Fl (length : Int) : Option (Int) :=
 (Hc (IntKind.wrap .u64 length)).bind fun y =>
 (Zm .u64 1 y).bind fun q =>
 some q
def F1 (r' : Int) : Option (Int × Int) :=
 (Zm .u64 r' 13).bind fun q =>
 (Ov .u64 (Pa .u64 r' q) 7).bind fun q_2 =>
 (Zm .u64 (Pa .u64 (Pa .u64 r' q) q_2) 17).bind fun q_3 =>
 some (Pa .u64 (Pa .u64 (Pa .u64 r' q) q_2) q_3, Pa .u64 (Pa .u64 (Pa .u64 r' q) q_2) q_3)
def Av.j2 (a : Int) (idx_1 : Int) (data_1 : List Aa) (y_2 : Int × Int) (other_2 : Int) : Option (Lp (Int × List Aa × Int) ((List Aa))) :=
 (B1 data_1 (W (a + other_2))).bind fun e =>
 (B1 data_1 idx_1).bind fun e_2 =>
 (B1 (Cs data_1 ((idx_1).toNat) e) (W (a + other_2))).bind fun e_3 =>
 some (.next (W (idx_1 + 1), Cs (Cs data_1 ((idx_1).toNat) e) ((W (a + other_2)).toNat) e_2, y_2.2))
def Av.l1 (a : Int) (b : Int) (y : Int) (idx_1 : Int) (data_1 : List Aa) (random_1 : Int) : Option (Lp (Int × List Aa × Int) ((List Aa))) :=
 (Ly (W (b - a)) 4).bind fun q_2 =>
 cond (decide (idx_1 <= (W ((W (a + (W (q_2 * 2)))) + 1))))
  ((F1 random_1).bind fun y_2 =>
  cond (decide ((W (b - a)) <= (W (fD .u64 y_2.1 (IntKind.wrap .u64 (y - 1))))))
   (Av.j2 a idx_1 data_1 y_2 (W ((W (fD .u64 y_2.1 (IntKind.wrap .u64 (y - 1)))) - (W (b - a)))))
   (Av.j2 a idx_1 data_1 y_2 (W (fD .u64 y_2.1 (IntKind.wrap .u64 (y - 1))))))
  (up (some data_1))
def Av (data : List Aa) (a : Int) (b : Int) (cmp : Aa -> Aa -> Option (Int)) : Option ((List Aa)) :=
 cond (decide (8 <= (W (b - a))))
  ((Fl (W (b - a))).bind fun y =>
  (Ly (W (b - a)) 4).bind fun q =>
  Cf (fun q' => Av.l1 a b y q'.1 q'.2.1 q'.2.2) (W ((W (a + (W (q * 2)))) - 1), data, IntKind.wrap .u64 (W (b - a))))
  (some data)
def C5 (data : (List Aa)) (a : Int) (b : Int) (swaps : Int) (cmp : Aa -> Aa -> Option (Int)) : Option (Int × Int × Int) :=
 (B1 data b).bind fun e =>
 (B1 data a).bind fun e_2 =>
 (cmp e e_2).bind fun y =>
 cond (decide (y < 0))
  (some (b, a, W (swaps + 1)))
  (some (a, b, swaps))
def Dl (data : (List Aa)) (a : Int) (b : Int) (c : Int) (swaps : Int) (cmp : Aa -> Aa -> Option (Int)) : Option (Int × Int) :=
 (C5 data a b swaps cmp).bind fun y =>
 (C5 data y.2.1 c y.2.2 cmp).bind fun y_2 =>
 (C5 data y.1 y_2.1 y_2.2.2 cmp).bind fun y_3 =>
 some (y_3.2.1, y_3.2.2)
def Cc (data : (List Aa)) (a : Int) (swaps : Int) (cmp : Aa -> Aa -> Option (Int)) : Option (Int × Int) :=
 (Dl data (W (a - 1)) a (W (a + 1)) swaps cmp).bind fun y =>
 some (y.1, y.2)
def Az.j2 (j_2 : Int) (swaps_2 : Int) : Option (Int × Int) :=
 cond (decide (swaps_2 = 0))
  (some (j_2, 1))
  (cond (decide (swaps_2 = 12))
   (some (j_2, 2))
   (some (j_2, 0)))
def Az.j1 (data : (List Aa)) (cmp : Aa -> Aa -> Option (Int)) (i_1 : Int) (j_1 : Int) (k_1 : Int) (swaps_1 : Int) : Option (Int × Int) :=
 (Dl data i_1 j_1 k_1 swaps_1 cmp).bind fun y_4 =>
 Az.j2 y_4.1 y_4.2
def Az (data : (List Aa)) (a : Int) (b : Int) (cmp : Aa -> Aa -> Option (Int)) : Option (Int × Int) :=
 (Ly (W (b - a)) 4).bind fun q =>
 (Ly (W (b - a)) 4).bind fun q_2 =>
 (Ly (W (b - a)) 4).bind fun q_3 =>
 cond (decide (8 <= (W (b - a))))
  (cond (decide (50 <= (W (b - a))))
   ((Cc data (W (a + (W (q * 1)))) 0 cmp).bind fun y =>
   (Cc data (W (a + (W (q_2 * 2)))) y.2 cmp).bind fun y_2 =>
   (Cc data (W (a + (W (q_3 * 3)))) y_2.2 cmp).bind fun y_3 =>
   Az.j1 data cmp y.1 y_2.1 y_3.1 y_3.2)
   (Az.j1 data cmp (W (a + (W (q * 1)))) (W (a + (W (q_2 * 2)))) (W (a + (W (q_3 * 3)))) 0))
  (Az.j2 (W (a + (W (q_2 * 2)))) 0)
def Bb.l1 (i_1 : Int) (j_1 : Int) (data_1 : List Aa) : Option (Lp (Int × Int × List Aa) ((List Aa))) :=
 cond (decide (i_1 < j_1))
  ((B1 data_1 j_1).bind fun e =>
  (B1 data_1 i_1).bind fun e_2 =>
  (B1 (Cs data_1 ((i_1).toNat) e) j_1).bind fun e_3 =>
  some (.next (W (i_1 + 1), W (j_1 - 1), Cs (Cs data_1 ((i_1).toNat) e) ((j_1).toNat) e_2)))
  (up (some data_1))
def Bb (data : List Aa) (a : Int) (b : Int) (cmp : Aa -> Aa -> Option (Int)) : Option ((List Aa)) :=
 Cf (fun q' => Bb.l1 q'.1 q'.2.1 q'.2.2) (a, W (b - 1), data)
def Ac.j7 (j_1 : Int) (i_7 : Int) (data_7 : List Aa) : Option (Lp (Int × Int × List Aa) (Bool × (List Aa))) :=
 some (.next (i_7, W (j_1 + 1), data_7))
def Ac.l6 (b : Int) (cmp : Aa -> Aa -> Option (Int)) (j_1 : Int) (i_2 : Int) (j_6 : Int) (data_6 : List Aa) : Option (Lp (Int × List Aa) (Lp (Int × Int × List Aa) (Bool × (List Aa)))) :=
 cond (decide (j_6 < b))
  ((B1 data_6 j_6).bind fun e_9 =>
  (B1 data_6 (W (j_6 - 1))).bind fun e_10 =>
  (cmp e_9 e_10).bind fun y_3 =>
  cond (!(decide (y_3 < 0)))
   (up (
    Ac.j7 j_1 i_2 data_6))
   ((B1 (Cs data_6 ((j_6).toNat) e_10) (W (j_6 - 1))).bind fun e_11 =>
   some (.next (W (j_6 + 1), Cs (Cs data_6 ((j_6).toNat) e_10) ((W (j_6 - 1)).toNat) e_9))))
  (up (
   Ac.j7 j_1 i_2 data_6))
def Ac.j5 (b : Int) (cmp : Aa -> Aa -> Option (Int)) (j_1 : Int) (i_2 : Int) (data_5 : List Aa) : Option (Lp (Int × Int × List Aa) (Bool × (List Aa))) :=
 cond (decide (2 <= (W (b - i_2))))
  (Cf (fun q' => Ac.l6 b cmp j_1 i_2 q'.1 q'.2) (W (i_2 + 1), data_5))
  (Ac.j7 j_1 i_2 data_5)
def Ac.l4 (b : Int) (cmp : Aa -> Aa -> Option (Int)) (j_1 : Int) (i_2 : Int) (j_4 : Int) (data_4 : List Aa) : Option (Lp (Int × List Aa) (Lp (Int × Int × List Aa) (Bool × (List Aa)))) :=
 cond (decide (1 <= j_4))
  ((B1 data_4 j_4).bind fun e_6 =>
  (B1 data_4 (W (j_4 - 1))).bind fun e_7 =>
  (cmp e_6 e_7).bind fun y_2 =>
  cond (!(decide (y_2 < 0)))
   (up (
    Ac.j5 b cmp j_1 i_2 data_4))
   ((B1 (Cs data_4 ((j_4).toNat) e_7) (W (j_4 - 1))).bind fun e_8 =>
   some (.next (W (j_4 - 1), Cs (Cs data_4 ((j_4).toNat) e_7) ((W (j_4 - 1)).toNat) e_6))))
  (up (
   Ac.j5 b cmp j_1 i_2 data_4))
def Ac.j3 (a : Int) (b : Int) (cmp : Aa -> Aa -> Option (Int)) (j_1 : Int) (data_1 : List Aa) (i_2 : Int) (x36_3 : Bool) : Option (Lp (Int) (Lp (Int × Int × List Aa) (Bool × (List Aa)))) :=
 cond (x36_3)
  (some (.next (W (i_2 + 1))))
  (up (
   cond (decide (i_2 = b))
    (up (some (true, data_1)))
    (cond (decide ((W (b - a)) < 50))
     (up (some (false, data_1)))
     ((B1 data_1 (W (i_2 - 1))).bind fun e_3 =>
     (B1 data_1 i_2).bind fun e_4 =>
     (B1 (Cs data_1 ((i_2).toNat) e_3) (W (i_2 - 1))).bind fun e_5 =>
     cond (decide (2 <= (W (i_2 - a))))
      (Cf (fun q' => Ac.l4 b cmp j_1 i_2 q'.1 q'.2) (W (i_2 - 1), Cs (Cs data_1 ((i_2).toNat) e_3) ((W (i_2 - 1)).toNat) e_4))
      (Ac.j5 b cmp j_1 i_2 (Cs (Cs data_1 ((i_2).toNat) e_3) ((W (i_2 - 1)).toNat) e_4))))))
def Ac.l2 (a : Int) (b : Int) (cmp : Aa -> Aa -> Option (Int)) (j_1 : Int) (data_1 : List Aa) (i_2 : Int) : Option (Lp (Int) (Lp (Int × Int × List Aa) (Bool × (List Aa)))) :=
 cond (decide (i_2 < b))
  ((B1 data_1 i_2).bind fun e =>
  (B1 data_1 (W (i_2 - 1))).bind fun e_2 =>
  (cmp e e_2).bind fun y =>
  Ac.j3 a b cmp j_1 data_1 i_2 (!(decide (y < 0))))
  (Ac.j3 a b cmp j_1 data_1 i_2 false)
def Ac.l1 (a : Int) (b : Int) (cmp : Aa -> Aa -> Option (Int)) (i_1 : Int) (j_1 : Int) (data_1 : List Aa) : Option (Lp (Int × Int × List Aa) (Bool × (List Aa))) :=
 cond (decide (j_1 < 5))
  (Cf (fun q' => Ac.l2 a b cmp j_1 data_1 q') i_1)
  (up (
   some (false, data_1)))
def Ac (data : List Aa) (a : Int) (b : Int) (cmp : Aa -> Aa -> Option (Int)) : Option (Bool × (List Aa)) :=
 Cf (fun q' => Ac.l1 a b cmp q'.1 q'.2.1 q'.2.2) (W (a + 1), 0, data)
def Al.j5 (data_1 : List Aa) (i_2 : Int) (j_4 : Int) (x65_5 : Bool) : Option (Lp (Int) (Lp (Int × Int × List Aa) (Int × (List Aa)))) :=
 cond (x65_5)
  (some (.next (W (j_4 - 1))))
  (up (
   cond (decide (j_4 < i_2))
    (up (
     some (i_2, data_1)))
    ((B1 data_1 j_4).bind fun e_8 =>
    (B1 data_1 i_2).bind fun e_9 =>
    (B1 (Cs data_1 ((i_2).toNat) e_8) j_4).bind fun e_10 =>
    some (.next (W (i_2 + 1), W (j_4 - 1), Cs (Cs data_1 ((i_2).toNat) e_8) ((j_4).toNat) e_9)))))
def Al.l4 (a : Int) (cmp : Aa -> Aa -> Option (Int)) (data_1 : List Aa) (i_2 : Int) (j_4 : Int) : Option (Lp (Int) (Lp (Int × Int × List Aa) (Int × (List Aa)))) :=
 cond (decide (i_2 <= j_4))
  ((B1 data_1 a).bind fun e_6 =>
  (B1 data_1 j_4).bind fun e_7 =>
  (cmp e_6 e_7).bind fun y_2 =>
  Al.j5 data_1 i_2 j_4 (decide (y_2 < 0)))
  (Al.j5 data_1 i_2 j_4 false)
def Al.j3 (a : Int) (cmp : Aa -> Aa -> Option (Int)) (j_1 : Int) (data_1 : List Aa) (i_2 : Int) (x47_3 : Bool) : Option (Lp (Int) (Lp (Int × Int × List Aa) (Int × (List Aa)))) :=
 cond (x47_3)
  (some (.next (W (i_2 + 1))))
  (up (
   Cf (fun q' => Al.l4 a cmp data_1 i_2 q') j_1))
def Al.l2 (a : Int) (cmp : Aa -> Aa -> Option (Int)) (j_1 : Int) (data_1 : List Aa) (i_2 : Int) : Option (Lp (Int) (Lp (Int × Int × List Aa) (Int × (List Aa)))) :=
 cond (decide (i_2 <= j_1))
  ((B1 data_1 a).bind fun e_4 =>
  (B1 data_1 i_2).bind fun e_5 =>
  (cmp e_4 e_5).bind fun y =>
  Al.j3 a cmp j_1 data_1 i_2 (!(decide (y < 0))))
  (Al.j3 a cmp j_1 data_1 i_2 false)
def Al.l1 (a : Int) (cmp : Aa -> Aa -> Option (Int)) (i_1 : Int) (j_1 : Int) (data_1 : List Aa) : Option (Lp (Int × Int × List Aa) (Int × (List Aa))) :=
 Cf (fun q' => Al.l2 a cmp j_1 data_1 q') i_1
def Al (data : List Aa) (a : Int) (b : Int) (pivot : Int) (cmp : Aa -> Aa -> Option (Int)) : Option (Int × (List Aa)) :=
 (B1 data pivot).bind fun e =>
 (B1 data a).bind fun e_2 =>
 (B1 (Cs data ((a).toNat) e) pivot).bind fun e_3 =>
 Cf (fun q' => Al.l1 a cmp q'.1 q'.2.1 q'.2.2) (W (a + 1), W (b - 1), Cs (Cs data ((a).toNat) e) ((pivot).toNat) e_2)
def Ae.j9 (a : Int) (data_5 : List Aa) (i_6 : Int) (j_8 : Int) (x139_9 : Bool) : Option (Lp (Int) (Lp (Int × Int × List Aa) (Int × Bool × (List Aa)))) :=
 cond (x139_9)
  (some (.next (W (j_8 - 1))))
  (up (
   cond (decide (j_8 < i_6))
    (up (
     (B1 data_5 a).bind fun e_21 =>
     (B1 data_5 j_8).bind fun e_22 =>
     (B1 (Cs data_5 ((j_8).toNat) e_21) a).bind fun e_23 =>
     some (j_8, false, Cs (Cs data_5 ((j_8).toNat) e_21) ((a).toNat) e_22)))
    ((B1 data_5 j_8).bind fun e_18 =>
    (B1 data_5 i_6).bind fun e_19 =>
    (B1 (Cs data_5 ((i_6).toNat) e_18) j_8).bind fun e_20 =>
    some (.next (W (i_6 + 1), W (j_8 - 1), Cs (Cs data_5 ((i_6).toNat) e_18) ((j_8).toNat) e_19)))))
def Ae.l8 (a : Int) (cmp : Aa -> Aa -> Option (Int)) (data_5 : List Aa) (i_6 : Int) (j_8 : Int) : Option (Lp (Int) (Lp (Int × Int × List Aa) (Int × Bool × (List Aa)))) :=
 cond (decide (i_6 <= j_8))
  ((B1 data_5 j_8).bind fun e_16 =>
  (B1 data_5 a).bind fun e_17 =>
  (cmp e_16 e_17).bind fun y_4 =>
  Ae.j9 a data_5 i_6 j_8 (!(decide (y_4 < 0))))
  (Ae.j9 a data_5 i_6 j_8 false)
def Ae.j7 (a : Int) (cmp : Aa -> Aa -> Option (Int)) (j_5 : Int) (data_5 : List Aa) (i_6 : Int) (x120_7 : Bool) : Option (Lp (Int) (Lp (Int × Int × List Aa) (Int × Bool × (List Aa)))) :=
 cond (x120_7)
  (some (.next (W (i_6 + 1))))
  (up (
   Cf (fun q' => Ae.l8 a cmp data_5 i_6 q') j_5))
def Ae.l6 (a : Int) (cmp : Aa -> Aa -> Option (Int)) (j_5 : Int) (data_5 : List Aa) (i_6 : Int) : Option (Lp (Int) (Lp (Int × Int × List Aa) (Int × Bool × (List Aa)))) :=
 cond (decide (i_6 <= j_5))
  ((B1 data_5 i_6).bind fun e_14 =>
  (B1 data_5 a).bind fun e_15 =>
  (cmp e_14 e_15).bind fun y_3 =>
  Ae.j7 a cmp j_5 data_5 i_6 (decide (y_3 < 0)))
  (Ae.j7 a cmp j_5 data_5 i_6 false)
def Ae.l5 (a : Int) (cmp : Aa -> Aa -> Option (Int)) (i_5 : Int) (j_5 : Int) (data_5 : List Aa) : Option (Lp (Int × Int × List Aa) (Int × Bool × (List Aa))) :=
 Cf (fun q' => Ae.l6 a cmp j_5 data_5 q') i_5
def Ae.j4 (data : List Aa) (a : Int) (pivot : Int) (cmp : Aa -> Aa -> Option (Int)) (e : Aa) (e_2 : Aa) (i_1 : Int) (j_3 : Int) (x66_4 : Bool) : Option (Lp (Int) (Int × Bool × (List Aa))) :=
 cond (x66_4)
  (some (.next (W (j_3 - 1))))
  (up (
   cond (decide (j_3 < i_1))
    ((B1 (Cs (Cs data ((a).toNat) e) ((pivot).toNat) e_2) a).bind fun e_8 =>
    (B1 (Cs (Cs data ((a).toNat) e) ((pivot).toNat) e_2) j_3).bind fun e_9 =>
    (B1 (Cs (Cs (Cs data ((a).toNat) e) ((pivot).toNat) e_2) ((j_3).toNat) e_8) a).bind fun e_10 =>
    some (j_3, true, Cs (Cs (Cs (Cs data ((a).toNat) e) ((pivot).toNat) e_2) ((j_3).toNat) e_8) ((a).toNat) e_9))
    ((B1 (Cs (Cs data ((a).toNat) e) ((pivot).toNat) e_2) j_3).bind fun e_11 =>
    (B1 (Cs (Cs data ((a).toNat) e) ((pivot).toNat) e_2) i_1).bind fun e_12 =>
    (B1 (Cs (Cs (Cs data ((a).toNat) e) ((pivot).toNat) e_2) ((i_1).toNat) e_11) j_3).bind fun e_13 =>
    Cf (fun q' => Ae.l5 a cmp q'.1 q'.2.1 q'.2.2) (W (i_1 + 1), W (j_3 - 1), Cs (Cs (Cs (Cs data ((a).toNat) e) ((pivot).toNat) e_2) ((i_1).toNat) e_11) ((j_3).toNat) e_12))))
def Ae.l3 (data : List Aa) (a : Int) (pivot : Int) (cmp : Aa -> Aa -> Option (Int)) (e : Aa) (e_2 : Aa) (i_1 : Int) (j_3 : Int) : Option (Lp (Int) (Int × Bool × (List Aa))) :=
 cond (decide (i_1 <= j_3))
  ((B1 (Cs (Cs data ((a).toNat) e) ((pivot).toNat) e_2) j_3).bind fun e_6 =>
  (B1 (Cs (Cs data ((a).toNat) e) ((pivot).toNat) e_2) a).bind fun e_7 =>
  (cmp e_6 e_7).bind fun y_2 =>
  Ae.j4 data a pivot cmp e e_2 i_1 j_3 (!(decide (y_2 < 0))))
  (Ae.j4 data a pivot cmp e e_2 i_1 j_3 false)
def Ae.j2 (data : List Aa) (a : Int) (b : Int) (pivot : Int) (cmp : Aa -> Aa -> Option (Int)) (e : Aa) (e_2 : Aa) (i_1 : Int) (x47_2 : Bool) : Option (Lp (Int) (Int × Bool × (List Aa))) :=
 cond (x47_2)
  (some (.next (W (i_1 + 1))))
  (up (
   Cf (fun q' => Ae.l3 data a pivot cmp e e_2 i_1 q') (W (b - 1))))
def Ae.l1 (data : List Aa) (a : Int) (b : Int) (pivot : Int) (cmp : Aa -> Aa -> Option (Int)) (e : Aa) (e_2 : Aa) (i_1 : Int) : Option (Lp (Int) (Int × Bool × (List Aa))) :=
 cond (decide (i_1 <= (W (b - 1))))
  ((B1 (Cs (Cs data ((a).toNat) e) ((pivot).toNat) e_2) i_1).bind fun e_4 =>
  (B1 (Cs (Cs data ((a).toNat) e) ((pivot).toNat) e_2) a).bind fun e_5 =>
  (cmp e_4 e_5).bind fun y =>
  Ae.j2 data a b pivot cmp e e_2 i_1 (decide (y < 0)))
  (Ae.j2 data a b pivot cmp e e_2 i_1 false)
def Ae (data : List Aa) (a : Int) (b : Int) (pivot : Int) (cmp : Aa -> Aa -> Option (Int)) : Option (Int × Bool × (List Aa)) :=
 (B1 data pivot).bind fun e =>
 (B1 data a).bind fun e_2 =>
 (B1 (Cs data ((a).toNat) e) pivot).bind fun e_3 =>
 Cf (fun q' => Ae.l1 data a b pivot cmp e e_2 q') (W (a + 1))
def Ai.j6 (rec : (List Aa) -> Int -> Int -> Int -> Option ((List Aa))) (cmp : Aa -> Aa -> Option (Int)) (a_1 : Int) (b_1 : Int) (wasBalanced_1 : Bool) (wasPartitioned_1 : Bool) (limit_2 : Int) (pivot_3 : Int) (data_5 : List Aa) (x97_6 : Bool) : Option (Lp (Int × Int × Int × Bool × Bool × List Aa) ((List Aa))) :=
 cond (x97_6)
  ((Al data_5 a_1 b_1 pivot_3 cmp).bind fun y_8 =>
  some (.next (y_8.1, b_1, limit_2, wasBalanced_1, wasPartitioned_1, y_8.2)))
  ((Ae data_5 a_1 b_1 pivot_3 cmp).bind fun y_9 =>
  (Ly (W (b_1 - a_1)) 8).bind fun q =>
  cond (decide ((W (y_9.1 - a_1)) < (W (b_1 - y_9.1))))
   ((rec y_9.2.2 a_1 y_9.1 limit_2).bind fun y_10 =>
   some (.next (W (y_9.1 + 1), b_1, limit_2, decide (q <= (W (y_9.1 - a_1))), y_9.2.1, y_10)))
   ((rec y_9.2.2 (W (y_9.1 + 1)) b_1 limit_2).bind fun y_11 =>
   some (.next (a_1, y_9.1, limit_2, decide (q <= (W (b_1 - y_9.1))), y_9.2.1, y_11))))
def Ai.j5 (rec : (List Aa) -> Int -> Int -> Int -> Option ((List Aa))) (cmp : Aa -> Aa -> Option (Int)) (a_1 : Int) (b_1 : Int) (wasBalanced_1 : Bool) (wasPartitioned_1 : Bool) (limit_2 : Int) (pivot_3 : Int) (data_5 : List Aa) : Option (Lp (Int × Int × Int × Bool × Bool × List Aa) ((List Aa))) :=
 cond (decide (0 < a_1))
  ((B1 data_5 (W (a_1 - 1))).bind fun e =>
  (B1 data_5 pivot_3).bind fun e_2 =>
  (cmp e e_2).bind fun y_7 =>
  Ai.j6 rec cmp a_1 b_1 wasBalanced_1 wasPartitioned_1 limit_2 pivot_3 data_5 (!(decide (y_7 < 0))))
  (Ai.j6 rec cmp a_1 b_1 wasBalanced_1 wasPartitioned_1 limit_2 pivot_3 data_5 false)
def Ai.j4 (rec : (List Aa) -> Int -> Int -> Int -> Option ((List Aa))) (cmp : Aa -> Aa -> Option (Int)) (a_1 : Int) (b_1 : Int) (wasBalanced_1 : Bool) (wasPartitioned_1 : Bool) (limit_2 : Int) (pivot_3 : Int) (data_3 : List Aa) (x75_4 : Bool) : Option (Lp (Int × Int × Int × Bool × Bool × List Aa) ((List Aa))) :=
 cond (x75_4)
  ((Ac data_3 a_1 b_1 cmp).bind fun y_6 =>
  cond (y_6.1)
   (up (some y_6.2))
   (Ai.j5 rec cmp a_1 b_1 wasBalanced_1 wasPartitioned_1 limit_2 pivot_3 y_6.2))
  (Ai.j5 rec cmp a_1 b_1 wasBalanced_1 wasPartitioned_1 limit_2 pivot_3 data_3)
def Ai.j3 (rec : (List Aa) -> Int -> Int -> Int -> Option ((List Aa))) (cmp : Aa -> Aa -> Option (Int)) (a_1 : Int) (b_1 : Int) (wasBalanced_1 : Bool) (wasPartitioned_1 : Bool) (limit_2 : Int) (pivot_3 : Int) (hint_3 : Int) (data_3 : List Aa) : Option (Lp (Int × Int × Int × Bool × Bool × List Aa) ((List Aa))) :=
 cond (wasBalanced_1)
  (cond (wasPartitioned_1)
   (Ai.j4 rec cmp a_1 b_1 wasBalanced_1 wasPartitioned_1 limit_2 pivot_3 data_3 (decide (hint_3 = 1)))
   (Ai.j4 rec cmp a_1 b_1 wasBalanced_1 wasPartitioned_1 limit_2 pivot_3 data_3 false))
  (Ai.j4 rec cmp a_1 b_1 wasBalanced_1 wasPartitioned_1 limit_2 pivot_3 data_3 false)
def Ai.j2 (rec : (List Aa) -> Int -> Int -> Int -> Option ((List Aa))) (cmp : Aa -> Aa -> Option (Int)) (a_1 : Int) (b_1 : Int) (wasBalanced_1 : Bool) (wasPartitioned_1 : Bool) (limit_2 : Int) (data_2 : List Aa) : Option (Lp (Int × Int × Int × Bool × Bool × List Aa) ((List Aa))) :=
 (Az data_2 a_1 b_1 cmp).bind fun y_4 =>
 cond (decide (y_4.2 = 2))
  ((Bb data_2 a_1 b_1 cmp).bind fun y_5 =>
  Ai.j3 rec cmp a_1 b_1 wasBalanced_1 wasPartitioned_1 limit_2 (W ((W (b_1 - 1)) - (W (y_4.1 - a_1)))) 1 y_5)
  (Ai.j3 rec cmp a_1 b_1 wasBalanced_1 wasPartitioned_1 limit_2 y_4.1 y_4.2 data_2)
def Ai.l1 (rec : (List Aa) -> Int -> Int -> Int -> Option ((List Aa))) (cmp : Aa -> Aa -> Option (Int)) (a_1 : Int) (b_1 : Int) (limit_1 : Int) (wasBalanced_1 : Bool) (wasPartitioned_1 : Bool) (data_1 : List Aa) : Option (Lp (Int × Int × Int × Bool × Bool × List Aa) ((List Aa))) :=
 cond (decide ((W (b_1 - a_1)) <= 12))
  ((Am data_1 a_1 b_1 cmp).bind fun y =>
  up (some y))
  (cond (decide (limit_1 = 0))
   ((Ax data_1 a_1 b_1 cmp).bind fun y_2 =>
   up (some y_2))
   (cond (!wasBalanced_1)
    ((Av data_1 a_1 b_1 cmp).bind fun y_3 =>
    Ai.j2 rec cmp a_1 b_1 wasBalanced_1 wasPartitioned_1 (W (limit_1 - 1)) y_3)
    (Ai.j2 rec cmp a_1 b_1 wasBalanced_1 wasPartitioned_1 limit_1 data_1)))
def Ai.F (rec : (List Aa) -> Int -> Int -> Int -> Option ((List Aa))) (data : List Aa) (a : Int) (b : Int) (limit : Int) (cmp : Aa -> Aa -> Option (Int)) : Option ((List Aa)) :=
 Cf (fun q' => Ai.l1 rec cmp q'.1 q'.2.1 q'.2.2.1 q'.2.2.2.1 q'.2.2.2.2.1 q'.2.2.2.2.2) (a, b, limit, true, true, data)
def Ai (data : List Aa) (a : Int) (b : Int) (limit : Int) (cmp : Aa -> Aa -> Option (Int)) : Option ((List Aa)) := Wy (fun rec (x : List Aa × Int × Int × Int) => Ai.F (fun data a b limit => rec (data, a, b, limit)) x.1 x.2.1 x.2.2.1 x.2.2.2 cmp) (data, a, b, limit)
def D1 (x' : List Aa) (cmp : Aa -> Aa -> Option (Int)) : Option ((List Aa)) :=
 (Hc (IntKind.wrap .u64 (x'.length : Int))).bind fun y =>
 (Ai x' 0 (x'.length : Int) y cmp).bind fun y_2 =>
 some y_2
def Ba.j3 (k2_2 : Int) (k_3 : Int) (s_3 : List Aa) : Option (Lp (Int × Int × List Aa) (Lp (Int) ((List Aa)))) :=
 some (.next (k_3, W (k2_2 + 1), s_3))
def Ba.l2 (s : List Aa) (k_1 : Int) (k_2 : Int) (k2_2 : Int) (s_2 : List Aa) : Option (Lp (Int × Int × List Aa) (Lp (Int) ((List Aa)))) :=
 cond (decide (k2_2 < (((((s.length : Int) : Int).toNat - (k_1 : Int).toNat) : Nat) : Int)))
  ((B1 ((s_2.drop ((k_1 : Int).toNat)).take (((s.length : Int) : Int).toNat - (k_1 : Int).toNat)) k2_2).bind fun e_3 =>
  (B1 ((s_2.drop ((k_1 : Int).toNat)).take (((s.length : Int) : Int).toNat - (k_1 : Int).toNat)) (W (k2_2 - 1))).bind fun e_4 =>
  cond (!decide (e_3 = e_4))
   ((B1 s_2 k_2).bind fun e_5 =>
   Ba.j3 k2_2 (W (k_2 + 1)) (Cs s_2 ((k_2).toNat) e_3))
   (Ba.j3 k2_2 k_2 s_2))
  (up (
   (dC s_2 k_2 (s_2.length : Int)).bind fun l_2 =>
   (qV s_2 ((k_2 : Int).toNat) (((s_2.length : Int) : Int).toNat - (k_2 : Int).toNat) ((Aa.mk 0 (⟨#[]⟩ : ByteArray) 0 0 0 0 (⟨#[]⟩ : ByteArray) (As.mk 0 0) 0 (⟨#[]⟩ : ByteArray)) : Aa)).bind fun l_3 =>
   (dC l_3 0 k_2).bind fun l_4 =>
   up (some (l_3.take ((k_2 : Int).toNat - (0 : Int).toNat)))))
def Ba.l1 (s : List Aa) (k_1 : Int) : Option (Lp (Int) ((List Aa))) :=
 cond (decide (k_1 < (s.length : Int)))
  ((B1 s k_1).bind fun e =>
  (B1 s (W (k_1 - 1))).bind fun e_2 =>
  cond (decide (e = e_2))
   ((dC s k_1 (s.length : Int)).bind fun l =>
   Cf (fun q' => Ba.l2 s k_1 q'.1 q'.2.1 q'.2.2) (k_1, 1, s))
   (some (.next (W (k_1 + 1)))))
  (up (
   some s))
def Ba (s : List Aa) : Option ((List Aa)) :=
 cond (decide ((s.length : Int) < 2))
  (some s)
  (Cf (fun q' => Ba.l1 s q') 1)
def Ce.l1 (l : (List Aa)) (x10_1 : Int) : Option (Lp (Int) ((List Aa) × Int)) :=
 cond (decide (x10_1 < (l.length : Int)))
  ((B1 l x10_1).bind fun e =>
  (Bd e).bind fun y =>
  cond (!decide (y = 0))
   (up (some (([] : (List Aa)), y)))
   (some (.next (W (x10_1 + 1)))))
  (up (
   (B6 l).bind fun y_2 =>
   (D1 y_2 (fun x0 x1 => Ha x0 x1)).bind fun y_3 =>
   (Ba y_3).bind fun y_4 =>
   cond (decide (400 < (y_4.length : Int)))
    (some (([] : (List Aa)), 3))
    (some (y_4, 0))))
def Ce (l : (List Aa)) : Option ((List Aa) × Int) :=
 Cf (fun q' => Ce.l1 l q') 0
def Ci.l2 (l : (List C9)) (x24_2 : Int) (p_2 : Int) (p_2_2 : ByteArray) (p_2_3 : Int) (p_2_4 : Int) (p_2_5 : Int) (p_2_6 : Int) (p_2_7 : ByteArray) (p_2_8 : Int) (p_2_9 : Int) (p_2_10 : Int) (p_2_11 : ByteArray) (l_2 : List Aa) : Option (Lp (Int × Int × ByteArray × Int × Int × Int × Int × ByteArray × Int × Int × Int × ByteArray × List Aa) ((List Aa) × Int)) :=
 cond (decide (x24_2 < (l.length : Int)))
  ((B1 l x24_2).bind fun e =>
  (Cp (Dh.mk (Aa.mk p_2 p_2_2 p_2_3 p_2_4 p_2_5 p_2_6 p_2_7 (As.mk p_2_8 p_2_9) p_2_10 p_2_11) l_2) 3 e.Key e.KeyId).bind fun y_3 =>
  some (.next (W (x24_2 + 1), y_3.at_.Source, y_3.at_.Host, y_3.at_.Machine, y_3.at_.Day, y_3.at_.Confidence, y_3.at_.Kind, y_3.at_.Subject, y_3.at_.Use.Alg, y_3.at_.Use.Bits, y_3.at_.Number, y_3.at_.Text, y_3.l)))
  (up (
   (Ce l_2).bind fun y_4 =>
   some (y_4.1, y_4.2)))
def Ci.j1 (l : (List C9)) (y : Dh × Int) (errno_1 : Int) : Option ((List Aa) × Int) :=
 cond (!decide (errno_1 = 0))
  (some (([] : (List Aa)), errno_1))
  (Cf (fun q' => Ci.l2 l q'.1 q'.2.1 q'.2.2.1 q'.2.2.2.1 q'.2.2.2.2.1 q'.2.2.2.2.2.1 q'.2.2.2.2.2.2.1 q'.2.2.2.2.2.2.2.1 q'.2.2.2.2.2.2.2.2.1 q'.2.2.2.2.2.2.2.2.2.1 q'.2.2.2.2.2.2.2.2.2.2.1 q'.2.2.2.2.2.2.2.2.2.2.2.1 q'.2.2.2.2.2.2.2.2.2.2.2.2) (0, y.1.at_.Source, y.1.at_.Host, y.1.at_.Machine, y.1.at_.Day, y.1.at_.Confidence, y.1.at_.Kind, y.1.at_.Subject, y.1.at_.Use.Alg, y.1.at_.Use.Bits, y.1.at_.Number, y.1.at_.Text, y.1.l))
def Ci (at' : Aa) (l : (List C9)) : Option ((List Aa) × Int) :=
 (Gu at').bind fun y =>
 cond (decide (y.2 = 0))
  ((B4 l).bind fun y_2 =>
  Ci.j1 l y y_2)
  (Ci.j1 l y y.2)
def Ij : Option (Bool) :=
 (Ci (Aa.mk 2 (⟨#[97]⟩ : ByteArray) 0 3 90 0 (⟨#[115]⟩ : ByteArray) (As.mk 0 0) 0 (⟨#[]⟩ : ByteArray)) ([(C9.mk (⟨#[120]⟩ : ByteArray) (As.mk 5 2048) 7 false ([] : (List Af))), (C9.mk (⟨#[121]⟩ : ByteArray) (As.mk 5 2048) 7 false ([] : (List Af)))] : List C9)).bind fun y =>
 cond (decide (y.2 = 0))
  (cond (decide ((y.1.length : Int) = 1))
   ((B1 y.1 0).bind fun e =>
   cond (decide (e.Number = 7))
    (cond (decide (e.Kind = 3))
     ((Bd e).bind fun y_2 =>
     some (decide (y_2 = 0)))
     (some false))
    (some false))
   (some false))
  (some false)
def Ol (l : (List Int)) : Option (Ad) :=
 some (Ad.mk l 0)
def M5 (n : Int) (k : Int) : Option (Int) :=
 cond (decide (k < 1))
  (some 0)
  ((Vl n k).bind fun q =>
  (Vl (W (q + k)) k).bind fun q_2 =>
  some q_2)
def Bz (d : Ad) (n : Int) : Option (Int × Ad) :=
 cond (decide ((d.L.length : Int) <= d.At))
  (some (0, d))
  ((B1 d.L (W ((W (d.At + 1)) - 1))).bind fun e =>
  (M5 e n).bind fun y =>
  some (y, (Ad.mk d.L (W (d.At + 1)))))
def Gh (d : Ad) (l : (List ByteArray)) : Option (ByteArray × Ad) :=
 (Bz d (l.length : Int)).bind fun y =>
 (B1 l y.1).bind fun e =>
 some (e, y.2)
def Cb (d : Ad) (l : (List Int)) : Option (Int × Ad) :=
 (Bz d (l.length : Int)).bind fun y =>
 (B1 l y.1).bind fun e =>
 some (e, y.2)
def Br.j3 (b_3 : Ad) (f_3 : Aa) : Option (Aa × Ad) :=
 some (f_3, b_3)
def Br.j2 (y : Int × Ad) (y_2 : ByteArray × Ad) (y_3 : Int × Ad) (y_4 : Int × Ad) (y_5 : Int × Ad) (y_6 : Int × Ad) (y_7 : ByteArray × Ad) (x57_2 : Bool) : Option (Aa × Ad) :=
 cond (x57_2)
  ((Bz y_7.2 4).bind fun y_12 =>
  Br.j3 y_12.2 (Aa.mk (W (1 + y.1)) y_2.1 y_3.1 y_4.1 y_5.1 (W (1 + y_6.1)) y_7.1 (As.mk 0 0) (W (1 + y_12.1)) (⟨#[]⟩ : ByteArray)))
  (cond (decide ((W (1 + y_6.1)) = 6))
   ((Bz y_7.2 3).bind fun y_13 =>
   Br.j3 y_13.2 (Aa.mk (W (1 + y.1)) y_2.1 y_3.1 y_4.1 y_5.1 (W (1 + y_6.1)) y_7.1 (As.mk 0 0) y_13.1 (⟨#[]⟩ : ByteArray)))
   (cond (decide ((W (1 + y_6.1)) = 7))
    ((Gh y_7.2 ([(⟨#[97]⟩ : ByteArray), (⟨#[98]⟩ : ByteArray)] : List ByteArray)).bind fun y_14 =>
    Br.j3 y_14.2 (Aa.mk (W (1 + y.1)) y_2.1 y_3.1 y_4.1 y_5.1 (W (1 + y_6.1)) y_7.1 (As.mk 0 0) 0 y_14.1))
    (Br.j3 y_7.2 (Aa.mk (W (1 + y.1)) y_2.1 y_3.1 y_4.1 y_5.1 (W (1 + y_6.1)) y_7.1 (As.mk 0 0) 0 (⟨#[]⟩ : ByteArray)))))
def Br.j1 (y : Int × Ad) (y_2 : ByteArray × Ad) (y_3 : Int × Ad) (y_4 : Int × Ad) (y_5 : Int × Ad) (y_6 : Int × Ad) (y_7 : ByteArray × Ad) (x27_1 : Bool) : Option (Aa × Ad) :=
 cond (x27_1)
  ((Bz y_7.2 4).bind fun y_8 =>
  (B1 ([(As.mk 1 0), (As.mk 2 0), (As.mk 5 1024), (As.mk 14 128)] : List As) y_8.1).bind fun e =>
  Br.j3 y_8.2 (Aa.mk (W (1 + y.1)) y_2.1 y_3.1 y_4.1 y_5.1 (W (1 + y_6.1)) y_7.1 e 0 (⟨#[]⟩ : ByteArray)))
  (cond (decide ((W (1 + y_6.1)) = 2))
   ((Bz y_7.2 5).bind fun y_9 =>
   Br.j3 y_9.2 (Aa.mk (W (1 + y.1)) y_2.1 y_3.1 y_4.1 y_5.1 (W (1 + y_6.1)) y_7.1 (As.mk 0 0) (W (1 + y_9.1)) (⟨#[]⟩ : ByteArray)))
   (cond (decide ((W (1 + y_6.1)) = 3))
    ((Cb y_7.2 ([1024, 2048] : List Int)).bind fun y_10 =>
    (Bz y_10.2 3).bind fun y_11 =>
    Br.j3 y_11.2 (Aa.mk (W (1 + y.1)) y_2.1 y_3.1 y_4.1 y_5.1 (W (1 + y_6.1)) y_7.1 (As.mk 5 y_10.1) (W (100 + y_11.1)) (⟨#[]⟩ : ByteArray)))
    (cond (decide ((W (1 + y_6.1)) = 4))
     (Br.j2 y y_2 y_3 y_4 y_5 y_6 y_7 (decide ((W (1 + y_6.1)) = 4)))
     (Br.j2 y y_2 y_3 y_4 y_5 y_6 y_7 (decide ((W (1 + y_6.1)) = 5))))))
def Br (d : Ad) : Option (Aa × Ad) :=
 (Bz d 7).bind fun y =>
 (Gh y.2 ([(⟨#[97]⟩ : ByteArray), (⟨#[98]⟩ : ByteArray), (⟨#[99]⟩ : ByteArray)] : List ByteArray)).bind fun y_2 =>
 (Cb y_2.2 ([0, 1, 2, 0, 3] : List Int)).bind fun y_3 =>
 (Bz y_3.2 12).bind fun y_4 =>
 (Cb y_4.2 ([90, 50, 100, 1] : List Int)).bind fun y_5 =>
 (Bz y_5.2 8).bind fun y_6 =>
 (Gh y_6.2 ([(⟨#[115]⟩ : ByteArray), (⟨#[116]⟩ : ByteArray)] : List ByteArray)).bind fun y_7 =>
 cond (decide ((W (1 + y_6.1)) = 1))
  (Br.j1 y y_2 y_3 y_4 y_5 y_6 y_7 (decide ((W (1 + y_6.1)) = 1)))
  (Br.j1 y y_2 y_3 y_4 y_5 y_6 y_7 (decide ((W (1 + y_6.1)) = 8)))
def E6.l1 (l : (List Int)) (n : Int) (i_1 : Int) : Option (Lp (Int) (Bool)) :=
 cond (decide (i_1 < (l.length : Int)))
  ((B1 l i_1).bind fun e =>
  cond (decide (e = n))
   (up (some true))
   (some (.next (W (i_1 + 1)))))
  (up (
   some false))
def E6 (l : (List Int)) (n : Int) : Option (Bool) :=
 Cf (fun q' => E6.l1 l n q') 0
def Ff (d : Ad) (n : Int) : Option (Bool × Ad) :=
 (Bz d n).bind fun y =>
 some (decide (y.1 = (W (n - 1))), y.2)
def Dk (alg : Int) (bits : Int) : Option (As) :=
 some (As.mk alg bits)
def Dp (code : Int) (name : ByteArray) (exchange : As) (sign : As) (cipher : As) (mac : As) (least : Int) (most : Int) : Option (Ay) :=
 some (Ay.mk code name exchange sign cipher mac least most)
def Jq : Option ((List Ay)) :=
 (Dk 10 0).bind fun y =>
 (Dk 5 0).bind fun y_2 =>
 (Dk 14 128).bind fun y_3 =>
 (Dk 15 168).bind fun y_4 =>
 (Dk 16 128).bind fun y_5 =>
 (Dk 17 128).bind fun y_6 =>
 (Dk 17 256).bind fun y_7 =>
 (Dk 19 0).bind fun y_8 =>
 (Dk 20 0).bind fun y_9 =>
 (Dk 21 0).bind fun y_10 =>
 (Dk 22 0).bind fun y_11 =>
 (Dk 12 256).bind fun y_12 =>
 (Dk 18 0).bind fun y_13 =>
 (Dp 1 (⟨#[114, 115, 97, 45, 114, 99, 52, 45, 109, 100, 53]⟩ : ByteArray) y y_2 y_3 y_8 1 2).bind fun y_14 =>
 (Dp 2 (⟨#[114, 115, 97, 45, 114, 99, 52, 45, 115, 104, 97]⟩ : ByteArray) y y_2 y_3 y_9 1 3).bind fun y_15 =>
 (Dp 3 (⟨#[114, 115, 97, 45, 100, 101, 115, 51, 45, 115, 104, 97]⟩ : ByteArray) y y_2 y_4 y_9 1 3).bind fun y_16 =>
 (Dk 11 1024).bind fun y_17 =>
 (Dk 6 0).bind fun y_18 =>
 (Dp 4 (⟨#[100, 104, 101, 45, 100, 115, 97, 45, 100, 101, 115, 51, 45, 115, 104, 97]⟩ : ByteArray) y_17 y_18 y_4 y_9 1 3).bind fun y_19 =>
 (Dk 11 1024).bind fun y_20 =>
 (Dp 5 (⟨#[100, 104, 101, 45, 114, 115, 97, 45, 100, 101, 115, 51, 45, 115, 104, 97]⟩ : ByteArray) y_20 y_2 y_4 y_9 1 3).bind fun y_21 =>
 (Dp 6 (⟨#[114, 115, 97, 45, 97, 101, 115, 49, 50, 56, 45, 115, 104, 97]⟩ : ByteArray) y y_2 y_5 y_9 1 3).bind fun y_22 =>
 (Dk 11 2048).bind fun y_23 =>
 (Dp 7 (⟨#[100, 104, 101, 45, 114, 115, 97, 45, 97, 101, 115, 49, 50, 56, 45, 115, 104, 97]⟩ : ByteArray) y_23 y_2 y_5 y_9 1 3).bind fun y_24 =>
 (Dp 8 (⟨#[101, 99, 100, 104, 101, 45, 114, 115, 97, 45, 97, 101, 115, 49, 50, 56, 45, 115, 104, 97]⟩ : ByteArray) y_12 y_2 y_5 y_9 1 3).bind fun y_25 =>
 (Dk 7 0).bind fun y_26 =>
 (Dk 16 256).bind fun y_27 =>
 (Dp 9 (⟨#[101, 99, 100, 104, 101, 45, 101, 99, 100, 115, 97, 45, 97, 101, 115, 50, 53, 54, 45, 115, 104, 97, 50, 53, 54]⟩ : ByteArray) y_12 y_26 y_27 y_10 3 3).bind fun y_28 =>
 (Dp 10 (⟨#[101, 99, 100, 104, 101, 45, 114, 115, 97, 45, 97, 101, 115, 49, 50, 56, 45, 103, 99, 109]⟩ : ByteArray) y_12 y_2 y_6 y_11 3 3).bind fun y_29 =>
 (Dk 12 384).bind fun y_30 =>
 (Dk 7 0).bind fun y_31 =>
 (Dp 11 (⟨#[101, 99, 100, 104, 101, 45, 101, 99, 100, 115, 97, 45, 97, 101, 115, 50, 53, 54, 45, 103, 99, 109]⟩ : ByteArray) y_30 y_31 y_7 y_11 3 3).bind fun y_32 =>
 (Dp 12 (⟨#[101, 99, 100, 104, 101, 45, 114, 115, 97, 45, 99, 104, 97, 99, 104, 97]⟩ : ByteArray) y_12 y_2 y_13 y_11 3 3).bind fun y_33 =>
 (Dp 13 (⟨#[114, 115, 97, 45, 97, 101, 115, 50, 53, 54, 45, 103, 99, 109]⟩ : ByteArray) y y_2 y_7 y_11 3 3).bind fun y_34 =>
 (Dp 14 (⟨#[97, 101, 115, 49, 50, 56, 45, 103, 99, 109]⟩ : ByteArray) y_12 (As.mk 0 0) y_6 y_11 4 4).bind fun y_35 =>
 (Dp 15 (⟨#[99, 104, 97, 99, 104, 97]⟩ : ByteArray) y_12 (As.mk 0 0) y_13 y_11 4 4).bind fun y_36 =>
 (Dk 13 768).bind fun y_37 =>
 (Dp 16 (⟨#[109, 108, 107, 101, 109, 45, 97, 101, 115, 50, 53, 54, 45, 103, 99, 109]⟩ : ByteArray) y_37 (As.mk 0 0) y_7 y_11 4 4).bind fun y_38 =>
 some ([y_14, y_15, y_16, y_19, y_21, y_22, y_24, y_25, y_28, y_29, y_32, y_33, y_34, y_35, y_36, y_38] : List Ay)
def Fa.j1 (code : Int) (x9_1 : Bool) : Option (Ay × Int) :=
 cond (x9_1)
  (some ((Ay.mk 0 (⟨#[]⟩ : ByteArray) (As.mk 0 0) (As.mk 0 0) (As.mk 0 0) (As.mk 0 0) 0 0), 8))
  ((Jq).bind fun y =>
  (B1 y (W (code - 1))).bind fun e =>
  some (e, 0))
def Fa (code : Int) : Option (Ay × Int) :=
 cond (decide (code < 1))
  (Fa.j1 code true)
  (Fa.j1 code (decide (16 < code)))
def Dm.j1 (b : Int) (x3_1 : Bool) : Option (Int) :=
 cond (x3_1)
  (some 0)
  (cond (decide (b < 1024))
   (some 56)
   (cond (decide (b < 2048))
    (some 80)
    (cond (decide (b < 3072))
     (some 112)
     (cond (decide (b < 7680))
      (some 128)
      (cond (decide (b < 15360))
       (some 192)
       (some 256))))))
def Dm (b : Int) : Option (Int) :=
 cond (decide (b < 512))
  (Dm.j1 b true)
  (Dm.j1 b (decide (16384 < b)))
def Bt.l1 (b : Int) (sizes : (List Int)) (strengths : (List Int)) (i_1 : Int) : Option (Lp (Int) (Int)) :=
 cond (decide (i_1 < (sizes.length : Int)))
  ((B1 sizes i_1).bind fun e =>
  cond (decide (e = b))
   ((B1 strengths i_1).bind fun e_2 =>
   up (some e_2))
   (some (.next (W (i_1 + 1)))))
  (up (
   some 0))
def Bt (b : Int) (sizes : (List Int)) (strengths : (List Int)) : Option (Int) :=
 Cf (fun q' => Bt.l1 b sizes strengths q') 0
def Da.j2 (alg : Int) (x14_2 : Bool) : Option (Int) :=
 cond (x14_2)
  (some 256)
  (cond (decide (alg = 19))
   (some 64)
   (cond (decide (alg = 20))
    (some 80)
    (some 0)))
def Da.j1 (alg : Int) (x8_1 : Bool) : Option (Int) :=
 cond (x8_1)
  (some 128)
  (cond (decide (alg = 4))
   (some 192)
   (cond (decide (alg = 18))
    (Da.j2 alg (decide (alg = 18)))
    (Da.j2 alg (decide (alg = 22)))))
def Da (alg : Int) : Option (Int) :=
 cond (decide (alg = 1))
  (some 18)
  (cond (decide (alg = 2))
   (some 60)
   (cond (decide (alg = 3))
    (Da.j1 alg (decide (alg = 3)))
    (cond (decide (alg = 8))
     (Da.j1 alg (decide (alg = 8)))
     (Da.j1 alg (decide (alg = 21))))))
def Au.j3 (u : As) (x35_3 : Bool) : Option (Int) :=
 cond (x35_3)
  ((Ly u.Bits 2).bind fun q =>
  some q)
  (some 0)
def Au.j4 (u : As) (x62_4 : Bool) : Option (Int) :=
 cond (x62_4)
  ((Bt u.Bits ([128, 256] : List Int) ([128, 256] : List Int)).bind fun y_6 =>
  some y_6)
  ((Da u.Alg).bind fun y_7 =>
  (Bt u.Bits ([0] : List Int) ([y_7] : List Int)).bind fun y_8 =>
  some y_8)
def Au.j2 (u : As) (x15_2 : Bool) : Option (Int) :=
 cond (x15_2)
  (cond (decide (u.Bits = 160))
   (Au.j3 u true)
   (cond (decide (u.Bits = 224))
    (Au.j3 u true)
    (cond (decide (u.Bits = 256))
     (Au.j3 u true)
     (cond (decide (u.Bits = 384))
      (Au.j3 u true)
      (Au.j3 u (decide (u.Bits = 521)))))))
  (cond (decide (u.Alg = 9))
   ((Bt u.Bits ([44, 65, 87] : List Int) ([128, 192, 256] : List Int)).bind fun y_2 =>
   some y_2)
   (cond (decide (u.Alg = 13))
    ((Bt u.Bits ([512, 768, 1024] : List Int) ([128, 192, 256] : List Int)).bind fun y_3 =>
    some y_3)
    (cond (decide (u.Alg = 14))
     ((Bt u.Bits ([40, 128] : List Int) ([40, 60] : List Int)).bind fun y_4 =>
     some y_4)
     (cond (decide (u.Alg = 15))
      ((Bt u.Bits ([112, 168] : List Int) ([80, 112] : List Int)).bind fun y_5 =>
      some y_5)
      (cond (decide (u.Alg = 16))
       (Au.j4 u (decide (u.Alg = 16)))
       (Au.j4 u (decide (u.Alg = 17))))))))
def Au.j1 (u : As) (x8_1 : Bool) : Option (Int) :=
 cond (x8_1)
  ((Dm u.Bits).bind fun y =>
  some y)
  (cond (decide (u.Alg = 7))
   (Au.j2 u (decide (u.Alg = 7)))
   (Au.j2 u (decide (u.Alg = 12))))
def Au (u : As) : Option (Int) :=
 cond (decide (u.Alg = 5))
  (Au.j1 u (decide (u.Alg = 5)))
  (cond (decide (u.Alg = 6))
   (Au.j1 u (decide (u.Alg = 6)))
   (cond (decide (u.Alg = 10))
    (Au.j1 u (decide (u.Alg = 10)))
    (Au.j1 u (decide (u.Alg = 11)))))
def Ho (code : Int) : Option (Int) :=
 (Fa code).bind fun y =>
 cond (!decide (y.2 = 0))
  (some 0)
  ((Au y.1.Cipher).bind fun y_2 =>
  some y_2)
def C2.j3 (l : (List Int)) (i_1 : Int) (out_1 : List Int) (k_2 : Int) (x29_3 : Bool) : Option (Lp (Int) (Lp (Int × List Int) ((List Int)))) :=
 cond (x29_3)
  (some (.next (W (k_2 - 1))))
  (up (
   (dC out_1 0 k_2).bind fun l_2 =>
   (Jn 8 ([] : List Int) ((out_1.drop ((0 : Int).toNat)).take ((k_2 : Int).toNat - (0 : Int).toNat))).bind fun l_3 =>
   (B1 l i_1).bind fun e_3 =>
   (Jn 8 l_3 ([e_3] : List Int)).bind fun l_4 =>
   (dC out_1 k_2 (out_1.length : Int)).bind fun l_5 =>
   (Jn 8 l_4 ((out_1.drop ((k_2 : Int).toNat)).take (((out_1.length : Int) : Int).toNat - (k_2 : Int).toNat))).bind fun l_6 =>
   some (.next (W (i_1 + 1), l_6))))
def C2.l2 (l : (List Int)) (i_1 : Int) (out_1 : List Int) (k_2 : Int) : Option (Lp (Int) (Lp (Int × List Int) ((List Int)))) :=
 cond (decide (0 < k_2))
  ((B1 out_1 (W (k_2 - 1))).bind fun e =>
  (Ho e).bind fun y =>
  (B1 l i_1).bind fun e_2 =>
  (Ho e_2).bind fun y_2 =>
  C2.j3 l i_1 out_1 k_2 (decide (y < y_2)))
  (C2.j3 l i_1 out_1 k_2 false)
def C2.l1 (l : (List Int)) (i_1 : Int) (out_1 : List Int) : Option (Lp (Int × List Int) ((List Int))) :=
 cond (decide (i_1 < (l.length : Int)))
  (Cf (fun q' => C2.l2 l i_1 out_1 q') (out_1.length : Int))
  (up (
   some out_1))
def C2 (l : (List Int)) : Option ((List Int)) :=
 Cf (fun q' => C2.l1 l q'.1 q'.2) (0, ([] : List Int))
def Dn.j2 (i_1 : Int) (d_2 : Ad) (l_2 : List Int) : Option (Lp (Int × Ad × List Int) ((List Int) × Ad)) :=
 some (.next (W (i_1 - 1), d_2, l_2))
def Dn.l1 (i_1 : Int) (d_1 : Ad) (l_1 : List Int) : Option (Lp (Int × Ad × List Int) ((List Int) × Ad)) :=
 cond (decide (0 < i_1))
  ((Bz d_1 16).bind fun y_2 =>
  (E6 l_1 (W (1 + y_2.1))).bind fun y_3 =>
  cond (!y_3)
   ((Jn 8 l_1 ([W (1 + y_2.1)] : List Int)).bind fun l =>
   Dn.j2 i_1 y_2.2 l)
   (Dn.j2 i_1 y_2.2 l_1))
  (up (
   (Ff d_1 4).bind fun y_4 =>
   cond (y_4.1)
    ((C2 l_1).bind fun y_5 =>
    some (y_5, y_4.2))
    (some (l_1, y_4.2))))
def Dn (d : Ad) : Option ((List Int) × Ad) :=
 (Bz d 9).bind fun y =>
 Cf (fun q' => Dn.l1 q'.1 q'.2.1 q'.2.2) (W (2 + y.1), y.2, ([] : List Int))
def B7.j3 (d : Ad) (x40_3 : Bool) : Option (Int × Ad) :=
 cond (x40_3)
  ((Cb d ([128, 256] : List Int)).bind fun y_7 =>
  some (y_7.1, y_7.2))
  (some (0, d))
def B7.j2 (d : Ad) (a : Int) (x14_2 : Bool) : Option (Int × Ad) :=
 cond (x14_2)
  ((Cb d ([256, 160, 224, 384, 521] : List Int)).bind fun y_2 =>
  some (y_2.1, y_2.2))
  (cond (decide (a = 9))
   ((Cb d ([65, 44, 87] : List Int)).bind fun y_3 =>
   some (y_3.1, y_3.2))
   (cond (decide (a = 13))
    ((Cb d ([768, 512, 1024] : List Int)).bind fun y_4 =>
    some (y_4.1, y_4.2))
    (cond (decide (a = 14))
     ((Cb d ([128, 40] : List Int)).bind fun y_5 =>
     some (y_5.1, y_5.2))
     (cond (decide (a = 15))
      ((Cb d ([168, 112] : List Int)).bind fun y_6 =>
      some (y_6.1, y_6.2))
      (cond (decide (a = 16))
       (B7.j3 d (decide (a = 16)))
       (B7.j3 d (decide (a = 17))))))))
def B7.j1 (d : Ad) (a : Int) (x6_1 : Bool) : Option (Int × Ad) :=
 cond (x6_1)
  ((Cb d ([2048, 1024, 512, 3072, 1023, 4096, 16384] : List Int)).bind fun y =>
  some (y.1, y.2))
  (cond (decide (a = 7))
   (B7.j2 d a (decide (a = 7)))
   (B7.j2 d a (decide (a = 12))))
def B7 (d : Ad) (a : Int) : Option (Int × Ad) :=
 cond (decide (a = 5))
  (B7.j1 d a (decide (a = 5)))
  (cond (decide (a = 6))
   (B7.j1 d a (decide (a = 6)))
   (cond (decide (a = 10))
    (B7.j1 d a (decide (a = 10)))
    (B7.j1 d a (decide (a = 11)))))
def No (d : Ad) : Option (As × Ad) :=
 (Cb d ([5, 7, 5, 6, 8, 9] : List Int)).bind fun y =>
 (B7 y.2 y.1).bind fun y_2 =>
 some ((As.mk y.1 y_2.1), y_2.2)
def Jx (c : Af) : Option (Af) :=
 (Jn 16 ([] : List ByteArray) c.Names).bind fun l =>
 some (Af.mk c.Serial c.Issuer c.Subject c.Key c.KeyId c.Hash c.From c.To c.Authority c.Path l c.Seal)
def Cd.j3 (i_2 : Int) (x27_3 : Bool) : Option (Lp (Int) (Bool)) :=
 cond (x27_3)
  (up (some false))
  (some (.next (W (i_2 + 1))))
def Cd.l2 (s : ByteArray) (i_2 : Int) : Option (Lp (Int) (Bool)) :=
 cond (decide (i_2 < (s.size : Int)))
  ((dI s i_2).bind fun c =>
  cond (decide ((c.toNat : Int) < 33))
   (Cd.j3 i_2 true)
   ((dI s i_2).bind fun c_2 =>
   Cd.j3 i_2 (decide (126 < (c_2.toNat : Int)))))
  (up (
   some true))
def Cd.j1 (s : ByteArray) (x11_1 : Bool) : Option (Bool) :=
 cond (x11_1)
  (some false)
  (Cf (fun q' => Cd.l2 s q') 0)
def Cd (s : ByteArray) : Option (Bool) :=
 cond (decide ((s.size : Int) < 1))
  (Cd.j1 s true)
  (Cd.j1 s (decide (32 < (s.size : Int))))
def I6 (u : As) : Option (Bool) :=
 (Au u).bind fun y =>
 some (decide (0 < y))
def Qn : Option ((List Ar)) :=
 some ([(Ar.mk (⟨#[]⟩ : ByteArray) 0), (Ar.mk (⟨#[109, 100, 53]⟩ : ByteArray) 1), (Ar.mk (⟨#[115, 104, 97, 49]⟩ : ByteArray) 1), (Ar.mk (⟨#[115, 104, 97, 50, 53, 54]⟩ : ByteArray) 1), (Ar.mk (⟨#[115, 104, 97, 51, 56, 52]⟩ : ByteArray) 1), (Ar.mk (⟨#[114, 115, 97]⟩ : ByteArray) 2), (Ar.mk (⟨#[100, 115, 97]⟩ : ByteArray) 2), (Ar.mk (⟨#[101, 99, 100, 115, 97]⟩ : ByteArray) 2), (Ar.mk (⟨#[101, 100, 50, 53, 53, 49, 57]⟩ : ByteArray) 2), (Ar.mk (⟨#[109, 108, 100, 115, 97]⟩ : ByteArray) 2), (Ar.mk (⟨#[114, 115, 97, 107, 120]⟩ : ByteArray) 3), (Ar.mk (⟨#[100, 104, 101]⟩ : ByteArray) 3), (Ar.mk (⟨#[101, 99, 100, 104, 101]⟩ : ByteArray) 3), (Ar.mk (⟨#[109, 108, 107, 101, 109]⟩ : ByteArray) 3), (Ar.mk (⟨#[114, 99, 52]⟩ : ByteArray) 4), (Ar.mk (⟨#[100, 101, 115, 51]⟩ : ByteArray) 4), (Ar.mk (⟨#[97, 101, 115, 99, 98, 99]⟩ : ByteArray) 4), (Ar.mk (⟨#[97, 101, 115, 103, 99, 109]⟩ : ByteArray) 4), (Ar.mk (⟨#[99, 104, 97, 99, 104, 97]⟩ : ByteArray) 4), (Ar.mk (⟨#[104, 109, 97, 99, 109, 100, 53]⟩ : ByteArray) 5), (Ar.mk (⟨#[104, 109, 97, 99, 115, 104, 97, 49]⟩ : ByteArray) 5), (Ar.mk (⟨#[104, 109, 97, 99, 115, 104, 97, 50, 53, 54]⟩ : ByteArray) 5), (Ar.mk (⟨#[97, 101, 97, 100]⟩ : ByteArray) 5)] : List Ar)
def Ez.j1 (alg : Int) (x8_1 : Bool) : Option (Int) :=
 cond (x8_1)
  (some 0)
  ((Qn).bind fun y =>
  (B1 y alg).bind fun e =>
  some e.kind)
def Ez (alg : Int) : Option (Int) :=
 cond (decide (alg < 1))
  (Ez.j1 alg true)
  (Ez.j1 alg (decide (22 < alg)))
def If (u : As) : Option (Bool) :=
 (I6 u).bind fun y =>
 cond (y)
  ((Ez u.Alg).bind fun y_2 =>
  some (decide (y_2 = 2)))
  (some false)
def A7.j5 (i_4 : Int) (x123_5 : Bool) : Option (Lp (Int) (Int)) :=
 cond (x123_5)
  (up (some 9))
  (some (.next (W (i_4 + 1))))
def A7.j6 (x145_6 : Bool) : Option (Int) :=
 cond (x145_6)
  (some 9)
  (some 0)
def A7.l4 (c : Af) (i_4 : Int) : Option (Lp (Int) (Int)) :=
 cond (decide (i_4 < (c.Names.length : Int)))
  ((B1 c.Names i_4).bind fun e =>
  (Cd e).bind fun y_6 =>
  cond (!y_6)
   (A7.j5 i_4 true)
   (cond (decide (0 < i_4))
    ((B1 c.Names (W (i_4 - 1))).bind fun e_2 =>
    A7.j5 i_4 (!K1 (Im e_2) (Im e)))
    (A7.j5 i_4 false)))
  (up (
   cond (decide (c.Seal.Key < 0))
    (A7.j6 true)
    (cond (decide (2147483648 < c.Seal.Key))
     (A7.j6 true)
     (cond (decide (c.Seal.Sum < 0))
      (A7.j6 true)
      (A7.j6 (decide (4294967296 <= c.Seal.Sum)))))))
def A7.j3 (c : Af) (x91_3 : Bool) : Option (Int) :=
 cond (x91_3)
  (some 9)
  (Cf (fun q' => A7.l4 c q') 0)
def A7.j2 (c : Af) (x67_2 : Bool) : Option (Int) :=
 cond (x67_2)
  (some 9)
  (cond (decide (c.Path < 0))
   (A7.j3 c true)
   (cond (decide (8 < c.Path))
    (A7.j3 c true)
    (cond (!c.Authority)
     (cond (!decide (c.Path = 0))
      (A7.j3 c true)
      (A7.j3 c (decide (8 < (c.Names.length : Int)))))
     (A7.j3 c (decide (8 < (c.Names.length : Int)))))))
def A7.j1 (c : Af) (x39_1 : Bool) : Option (Int) :=
 cond (x39_1)
  (some 9)
  ((I6 c.Hash).bind fun y_4 =>
  cond (!y_4)
   (A7.j2 c true)
   ((Ez c.Hash.Alg).bind fun y_5 =>
   cond (!decide (y_5 = 1))
    (A7.j2 c true)
    (cond (decide (c.From < 0))
     (A7.j2 c true)
     (cond (decide (c.To < c.From))
      (A7.j2 c true)
      (A7.j2 c (decide (40000 < c.To)))))))
def A7 (c : Af) : Option (Int) :=
 cond (decide (c.Serial < 0))
  (A7.j1 c true)
  (cond (decide (1099511627776 < c.Serial))
   (A7.j1 c true)
   ((Cd c.Issuer).bind fun y =>
   cond (!y)
    (A7.j1 c true)
    ((Cd c.Subject).bind fun y_2 =>
    cond (!y_2)
     (A7.j1 c true)
     ((If c.Key).bind fun y_3 =>
     cond (!y_3)
      (A7.j1 c true)
      (cond (decide (c.KeyId < 0))
       (A7.j1 c true)
       (A7.j1 c (decide (2147483648 < c.KeyId))))))))
def Iy (s : ByteArray) : Option (Ah) :=
 some (Ah.mk 12 (Im s) false ([] : (List Ah)))
def Ca.j2 (x_1 : Int) (b_1 : List UInt8) (x35_2 : Bool) : Option (Lp (Int × List UInt8) (Ah)) :=
 cond (x35_2)
  ((Jn 1 ([(u8 x_1)] : List UInt8) b_1).bind fun l =>
  (Ov .i64 x_1 8).bind fun q_2 =>
  some (.next (q_2, l)))
  (up (
   some (Ah.mk 2 b_1 false ([] : (List Ah)))))
def Ca.l1 (x_1 : Int) (b_1 : List UInt8) : Option (Lp (Int × List UInt8) (Ah)) :=
 cond (!decide (x_1 = 0))
  (cond (!decide (x_1 = (-1)))
   (Ca.j2 x_1 b_1 true)
   (cond (decide (x_1 = 0))
    ((B1 b_1 0).bind fun e =>
    cond (decide (128 <= (e.toNat : Int)))
     (Ca.j2 x_1 b_1 true)
     (cond (decide (x_1 = (-1)))
      (Ca.j2 x_1 b_1 (decide ((e.toNat : Int) < 128)))
      (Ca.j2 x_1 b_1 false)))
    (cond (decide (x_1 = (-1)))
     ((B1 b_1 0).bind fun e_2 =>
     Ca.j2 x_1 b_1 (decide ((e_2.toNat : Int) < 128)))
     (Ca.j2 x_1 b_1 false))))
  (cond (decide (x_1 = 0))
   ((B1 b_1 0).bind fun e_3 =>
   cond (decide (128 <= (e_3.toNat : Int)))
    (Ca.j2 x_1 b_1 true)
    (cond (decide (x_1 = (-1)))
     (Ca.j2 x_1 b_1 (decide ((e_3.toNat : Int) < 128)))
     (Ca.j2 x_1 b_1 false)))
   (cond (decide (x_1 = (-1)))
    ((B1 b_1 0).bind fun e_4 =>
    Ca.j2 x_1 b_1 (decide ((e_4.toNat : Int) < 128)))
    (Ca.j2 x_1 b_1 false)))
def Ca (n : Int) : Option (Ah) :=
 (Ov .i64 n 8).bind fun q =>
 Cf (fun q' => Ca.l1 q'.1 q'.2) (q, ([(u8 n)] : List UInt8))
def Cj.l1 (rec : (List Ah) -> Option ((List Ah))) (l : (List Ah)) (i_1 : Int) (out_1 : List Ah) : Option (Lp (Int × List Ah) ((List Ah))) :=
 cond (decide (i_1 < (l.length : Int)))
  ((B1 l i_1).bind fun e =>
  (Jn 1 ([] : List UInt8) e.Bytes).bind fun l_2 =>
  (rec e.Elements).bind fun y =>
  (Jn 256 out_1 ([(Ah.mk e.Tag l_2 e.Nested y)] : List Ah)).bind fun l_3 =>
  some (.next (W (i_1 + 1), l_3)))
  (up (
   some out_1))
def Cj.F (rec : (List Ah) -> Option ((List Ah))) (l : (List Ah)) : Option ((List Ah)) :=
 Cf (fun q' => Cj.l1 rec l q'.1 q'.2) (0, ([] : List Ah))
def Cj (l : (List Ah)) : Option ((List Ah)) := Wy (fun rec (x : (List Ah)) => Cj.F (fun l => rec l) x) l
def Ie (l : (List Ah)) : Option (Ah) :=
 (Cj l).bind fun y =>
 some (Ah.mk 48 ([] : (List UInt8)) true y)
def Ki (u : As) : Option (Ah) :=
 (Ca u.Alg).bind fun y =>
 (Ca u.Bits).bind fun y_2 =>
 (Ie ([y, y_2] : List Ah)).bind fun y_3 =>
 some y_3
def Mn (b : Bool) : Option (Ah) :=
 cond (b)
  (some (Ah.mk 1 ([(255 : UInt8)] : List UInt8) false ([] : (List Ah))))
  (some (Ah.mk 1 ([(0 : UInt8)] : List UInt8) false ([] : (List Ah))))
def Er.l1 (c : Af) (i_1 : Int) (names_1 : List Ah) : Option (Lp (Int × List Ah) (Ah)) :=
 cond (decide (i_1 < (c.Names.length : Int)))
  ((B1 c.Names i_1).bind fun e =>
  (Iy e).bind fun y =>
  (Jn 256 names_1 ([y] : List Ah)).bind fun l =>
  some (.next (W (i_1 + 1), l)))
  (up (
   (Ca c.Serial).bind fun y_12 =>
   (Iy c.Issuer).bind fun y_13 =>
   (Iy c.Subject).bind fun y_14 =>
   (Ki c.Key).bind fun y_15 =>
   (Ca c.KeyId).bind fun y_16 =>
   (Ki c.Hash).bind fun y_17 =>
   (Ca c.From).bind fun y_18 =>
   (Ca c.To).bind fun y_19 =>
   (Mn c.Authority).bind fun y_20 =>
   (Ca c.Path).bind fun y_21 =>
   (Ie names_1).bind fun y_22 =>
   (Ie ([y_12, y_13, y_14, y_15, y_16, y_17, y_18, y_19, y_20, y_21, y_22] : List Ah)).bind fun y_23 =>
   some y_23))
def Er (c : Af) : Option (Ah) :=
 Cf (fun q' => Er.l1 c q'.1 q'.2) (0, ([] : List Ah))
def Lr (n : Int) : Option (Bool) :=
 cond (decide (1 <= n))
  (cond (decide (n <= 255))
   ((Vl n 32).bind fun q =>
   some (!decide (q = 31)))
   (some false))
  (some false)
def Bl.l2 (rec : Ah -> Option (Bool)) (v : Ah) (i_2 : Int) : Option (Lp (Int) (Bool)) :=
 cond (decide (i_2 < (v.Elements.length : Int)))
  ((B1 v.Elements i_2).bind fun e =>
  (rec e).bind fun y_2 =>
  cond (!y_2)
   (up (some false))
   (some (.next (W (i_2 + 1)))))
  (up (
   some true))
def Bl.j1 (rec : Ah -> Option (Bool)) (v : Ah) (x38_1 : Bool) : Option (Bool) :=
 cond (x38_1)
  (some false)
  (Cf (fun q' => Bl.l2 rec v q') 0)
def Bl.F (rec : Ah -> Option (Bool)) (v : Ah) : Option (Bool) :=
 (Lr v.Tag).bind fun y =>
 cond (!y)
  (Bl.j1 rec v true)
  ((Ly v.Tag 32).bind fun q =>
  (Vl q 2).bind fun q_2 =>
  cond (!decide (v.Nested = (decide (q_2 = 1))))
   (Bl.j1 rec v true)
   (cond (v.Nested)
    (cond (decide (0 < (v.Bytes.length : Int)))
     (Bl.j1 rec v true)
     (Bl.j1 rec v false))
    (Bl.j1 rec v (decide (0 < (v.Elements.length : Int))))))
def Bl (v : Ah) : Option (Bool) := Wy (fun rec (x : Ah) => Bl.F (fun v => rec v) x) v
def Cu.l1 (rec : Ah -> Option (Int)) (v : Ah) (d_1 : Int) (i_1 : Int) : Option (Lp (Int × Int) (Int)) :=
 cond (decide (i_1 < (v.Elements.length : Int)))
  ((B1 v.Elements i_1).bind fun e =>
  (rec e).bind fun y =>
  some (.next (max d_1 y, W (i_1 + 1))))
  (up (
   some (W (d_1 + 1))))
def Cu.F (rec : Ah -> Option (Int)) (v : Ah) : Option (Int) :=
 Cf (fun q' => Cu.l1 rec v q'.1 q'.2) (0, 0)
def Cu (v : Ah) : Option (Int) := Wy (fun rec (x : Ah) => Cu.F (fun v => rec v) x) v
def D6.l1 (n_1 : Int) (b_1 : List UInt8) : Option (Lp (Int × List UInt8) ((List UInt8))) :=
 cond (decide (0 < n_1))
  ((Vl n_1 256).bind fun q =>
  (Jn 1 ([(u8 q)] : List UInt8) b_1).bind fun l =>
  (Ly n_1 256).bind fun q_2 =>
  some (.next (q_2, l)))
  (up (
   (Jn 1 ([(u8 (W (128 + (b_1.length : Int))))] : List UInt8) b_1).bind fun l_2 =>
   some l_2))
def D6 (n : Int) : Option ((List UInt8)) :=
 cond (decide (n < 128))
  (some ([(u8 n)] : List UInt8))
  (Cf (fun q' => D6.l1 q'.1 q'.2) (n, ([] : List UInt8)))
def Dj.l1 (rec : Ah -> Option ((List UInt8))) (v : Ah) (i_1 : Int) (b_1 : List UInt8) : Option (Lp (Int × List UInt8) ((List UInt8))) :=
 cond (decide (i_1 < (v.Elements.length : Int)))
  ((B1 v.Elements i_1).bind fun e =>
  (rec e).bind fun y =>
  (Jn 1 b_1 y).bind fun l_2 =>
  some (.next (W (i_1 + 1), l_2)))
  (up (
   (D6 (b_1.length : Int)).bind fun y_2 =>
   (Jn 1 ([(u8 v.Tag)] : List UInt8) y_2).bind fun l_3 =>
   (Jn 1 l_3 b_1).bind fun l_4 =>
   some l_4))
def Dj.F (rec : Ah -> Option ((List UInt8))) (v : Ah) : Option ((List UInt8)) :=
 (Jn 1 ([] : List UInt8) v.Bytes).bind fun l =>
 Cf (fun q' => Dj.l1 rec v q'.1 q'.2) (0, l)
def Dj (v : Ah) : Option ((List UInt8)) := Wy (fun rec (x : Ah) => Dj.F (fun v => rec v) x) v
def Jr (v : Ah) : Option ((List UInt8) × Int) :=
 (Bl v).bind fun y =>
 cond (!y)
  (some (([] : (List UInt8)), 1))
  ((Cu v).bind fun y_2 =>
  cond (decide (16 < y_2))
   (some (([] : (List UInt8)), 3))
   ((Dj v).bind fun y_3 =>
   cond (decide (4096 < (y_3.length : Int)))
    (some (([] : (List UInt8)), 3))
    (some (y_3, 0))))
def I8 (c : Af) : Option ((List UInt8) × Int) :=
 (A7 c).bind fun y =>
 cond (!decide (y = 0))
  (some (([] : (List UInt8)), 9))
  ((Er c).bind fun y_2 =>
  (Jr y_2).bind fun y_3 =>
  some (y_3.1, y_3.2))
def E8.l1 (b : (List UInt8)) (h_1 : Int) (i_1 : Int) : Option (Lp (Int × Int) (Int)) :=
 cond (decide (i_1 < (b.length : Int)))
  ((B1 b i_1).bind fun e =>
  some (.next (IntKind.wrap .u32 ((Pa .u32 h_1 (IntKind.wrap .u32 (e.toNat : Int))) * 16777619), W (i_1 + 1))))
  (up (
   some (W h_1)))
def E8 (b : (List UInt8)) : Option (Int) :=
 Cf (fun q' => E8.l1 b q'.1 q'.2) (2166136261, 0)
def E1.j1 (key : Int) (y : Af) (x22_1 : Bool) : Option (Af × Int) :=
 cond (x22_1)
  (some ((Af.mk 0 (⟨#[]⟩ : ByteArray) (⟨#[]⟩ : ByteArray) (As.mk 0 0) 0 (As.mk 0 0) 0 0 false 0 ([] : (List ByteArray)) (D4.mk 0 0)), 9))
  ((I8 (Af.mk y.Serial y.Issuer y.Subject y.Key y.KeyId y.Hash y.From y.To y.Authority y.Path y.Names (D4.mk 0 0))).bind fun y_3 =>
  (E8 y_3.1).bind fun y_4 =>
  some ((Af.mk y.Serial y.Issuer y.Subject y.Key y.KeyId y.Hash y.From y.To y.Authority y.Path y.Names (D4.mk key y_4)), 0))
def E1 (c : Af) (key : Int) : Option (Af × Int) :=
 (Jx c).bind fun y =>
 (A7 (Af.mk y.Serial y.Issuer y.Subject y.Key y.KeyId y.Hash y.From y.To y.Authority y.Path y.Names (D4.mk 0 0))).bind fun y_2 =>
 cond (!decide (y_2 = 0))
  (E1.j1 key y true)
  (cond (decide (key < 0))
   (E1.j1 key y true)
   (E1.j1 key y (decide (2147483648 < key))))
def By.j2 (issuer : ByteArray) (subject : ByteArray) (key : As) (id : Int) (signer : Int) (authority : Bool) (y : Int × Ad) (y_2 : Int × Ad) (y_3 : Int × Ad) (y_4 : Int × Ad) (c_1 : Int) (b_2 : Ad) (l_2 : List ByteArray) : Option (Af × Ad) :=
 (E1 (Af.mk y.1 issuer subject key id (As.mk y_2.1 0) y_3.1 y_4.1 authority c_1 l_2 (D4.mk 0 0)) signer).bind fun y_7 =>
 some (y_7.1, b_2)
def By.j1 (issuer : ByteArray) (subject : ByteArray) (key : As) (id : Int) (signer : Int) (authority : Bool) (y : Int × Ad) (y_2 : Int × Ad) (y_3 : Int × Ad) (y_4 : Int × Ad) (d_1 : Ad) (c_1 : Int) : Option (Af × Ad) :=
 (Ff d_1 3).bind fun y_6 =>
 cond (y_6.1)
  ((nJ subject (⟨#[120]⟩ : ByteArray)).bind fun s =>
  (Jn 16 ([subject] : List ByteArray) ([s] : List ByteArray)).bind fun l =>
  By.j2 issuer subject key id signer authority y y_2 y_3 y_4 c_1 y_6.2 l)
  (By.j2 issuer subject key id signer authority y y_2 y_3 y_4 c_1 y_6.2 ([subject] : List ByteArray))
def By (d : Ad) (issuer : ByteArray) (subject : ByteArray) (key : As) (id : Int) (signer : Int) (authority : Bool) : Option (Af × Ad) :=
 (Bz d 1000).bind fun y =>
 (Cb y.2 ([3, 2, 4, 1] : List Int)).bind fun y_2 =>
 (Cb y_2.2 ([0, 5, 10] : List Int)).bind fun y_3 =>
 (Cb y_3.2 ([1000, 100, 50, 20] : List Int)).bind fun y_4 =>
 cond (authority)
  ((Cb y_4.2 ([3, 0, 1] : List Int)).bind fun y_5 =>
  By.j1 issuer subject key id signer authority y y_2 y_3 y_4 y_5.2 y_5.1)
  (By.j1 issuer subject key id signer authority y y_2 y_3 y_4 y_4.2 0)
def F5.l1 (name : ByteArray) (key : As) (id : Int) (y : Int × Ad) (signer_1 : Int) (issuer_1 : ByteArray) (i_1 : Int) (d_1 : Ad) (above_1 : List Af) : Option (Lp (Int × ByteArray × Int × Ad × List Af) ((List Af) × Ad)) :=
 cond (decide (i_1 < y.1))
  ((B1 ([(⟨#[99, 97]⟩ : ByteArray), (⟨#[99, 98]⟩ : ByteArray), (⟨#[99, 99]⟩ : ByteArray)] : List ByteArray) i_1).bind fun e =>
  (By d_1 issuer_1 e (As.mk 5 2048) (W (11 + i_1)) signer_1 true).bind fun y_3 =>
  (Jn 2280 ([y_3.1] : List Af) above_1).bind fun l =>
  some (.next (W (11 + i_1), e, W (i_1 + 1), y_3.2, l)))
  (up (
   (By d_1 issuer_1 name key id signer_1 false).bind fun y_4 =>
   (Jn 2280 ([y_4.1] : List Af) above_1).bind fun l_2 =>
   some (l_2, y_4.2)))
def F5 (d : Ad) (name : ByteArray) (key : As) (id : Int) : Option ((List Af) × Ad) :=
 (Cb d ([1, 0, 2] : List Int)).bind fun y =>
 (Bz y.2 2).bind fun y_2 =>
 Cf (fun q' => F5.l1 name key id y q'.1 q'.2.1 q'.2.2.1 q'.2.2.2.1 q'.2.2.2.2) (W (1 + y_2.1), (⟨#[114, 111, 111, 116]⟩ : ByteArray), 0, y_2.2, ([] : List Af))
def Bm.j4 (i_2 : Int) (l_2 : List Be) (key_3 : Int) (key_3_2 : Int) (y_13 : Int × Ad) (d_4 : List Int) (d_4_2 : Int) (l_4 : List Af) : Option (Lp (Int × List Int × Int × List Be) (A6 × Ad)) :=
 (Jn 192 l_2 ([(Be.mk (As.mk key_3 key_3_2) (W (100 + y_13.1)) l_4)] : List Be)).bind fun l =>
 some (.next (W (i_2 - 1), d_4, d_4_2, l))
def Bm.j3 (name : ByteArray) (i_2 : Int) (l_2 : List Be) (d_3 : List Int) (d_3_2 : Int) (key_3 : Int) (key_3_2 : Int) : Option (Lp (Int × List Int × Int × List Be) (A6 × Ad)) :=
 (Bz (Ad.mk d_3 d_3_2) 20).bind fun y_13 =>
 (Ff y_13.2 9).bind fun y_14 =>
 cond (!y_14.1)
  ((F5 y_14.2 name (As.mk key_3 key_3_2) (W (100 + y_13.1))).bind fun y_15 =>
  Bm.j4 i_2 l_2 key_3 key_3_2 y_13 y_15.2.L y_15.2.At y_15.1)
  (Bm.j4 i_2 l_2 key_3 key_3_2 y_13 y_14.2.L y_14.2.At ([] : List Af))
def Bm.l2 (name : ByteArray) (y_2 : (List Int) × Ad) (y_3 : Bool × Ad) (y_4 : Bool × Ad) (e_1 : Int) (e_1_2 : Int) (i_2 : Int) (d_2 : List Int) (d_2_2 : Int) (l_2 : List Be) : Option (Lp (Int × List Int × Int × List Be) (A6 × Ad)) :=
 cond (decide (0 < i_2))
  ((No (Ad.mk d_2 d_2_2)).bind fun y_9 =>
  (Bz y_9.2 3).bind fun y_10 =>
  cond (decide (0 < y_10.1))
   ((Cb y_10.2 ([5, 7] : List Int)).bind fun y_11 =>
   (B7 y_11.2 y_11.1).bind fun y_12 =>
   Bm.j3 name i_2 l_2 y_12.2.L y_12.2.At y_11.1 y_12.1)
   (Bm.j3 name i_2 l_2 y_10.2.L y_10.2.At y_9.1.Alg y_9.1.Bits))
  (up (
   (Bz (Ad.mk d_2 d_2_2) 5).bind fun y_16 =>
   (B1 ([([1, 2] : List Int), ([1, 2] : List Int), ([1] : List Int), ([2, 11] : List Int), ([] : (List Int))] : List (List Int)) y_16.1).bind fun e =>
   (Bz y_16.2 3).bind fun y_17 =>
   (B1 ([([1, 2, 3, 4] : List Int), ([2, 3, 4] : List Int), ([3, 4] : List Int)] : List (List Int)) y_17.1).bind fun e_2 =>
   some ((A6.mk name e_1 e_1_2 y_2.1 y_3.1 l_2 e e_2 y_4.1), y_17.2)))
def Bm.j1 (name : ByteArray) (y_2 : (List Int) × Ad) (y_3 : Bool × Ad) (y_4 : Bool × Ad) (d_1 : List Int) (d_1_2 : Int) (e_1 : Int) (e_1_2 : Int) : Option (A6 × Ad) :=
 (Cb (Ad.mk d_1 d_1_2) ([1, 2, 1, 3, 0] : List Int)).bind fun y_8 =>
 Cf (fun q' => Bm.l2 name y_2 y_3 y_4 e_1 e_1_2 q'.1 q'.2.1 q'.2.2.1 q'.2.2.2) (y_8.1, y_8.2.L, y_8.2.At, ([] : List Be))
def Bm (d : Ad) (name : ByteArray) : Option (A6 × Ad) :=
 (Cb d ([1, 1, 2, 3] : List Int)).bind fun y =>
 (Dn y.2).bind fun y_2 =>
 (Ff y_2.2 2).bind fun y_3 =>
 (Ff y_3.2 2).bind fun y_4 =>
 (Bz y_4.2 (W (5 - y.1))).bind fun y_5 =>
 (Bz y_5.2 3).bind fun y_6 =>
 cond (decide (0 < y_6.1))
  ((Cb y_6.2 ([3, 4, 2] : List Int)).bind fun y_7 =>
  Bm.j1 name y_2 y_3 y_4 y_7.2.L y_7.2.At 1 y_7.1)
  (Bm.j1 name y_2 y_3 y_4 y_6.2.L y_6.2.At y.1 (W (y.1 + y_5.1)))
def Di.l1 (l : (List Af)) (i_1 : Int) (out_1 : List Af) : Option (Lp (Int × List Af) ((List Af))) :=
 cond (decide (i_1 < (l.length : Int)))
  ((B1 l i_1).bind fun e =>
  (Jx e).bind fun y =>
  (Jn 2280 out_1 ([y] : List Af)).bind fun l_2 =>
  some (.next (W (i_1 + 1), l_2)))
  (up (
   some out_1))
def Di (l : (List Af)) : Option ((List Af)) :=
 Cf (fun q' => Di.l1 l q'.1 q'.2) (0, ([] : List Af))
def Ey.l1 (e : A6) (l : List Int) (l_2 : List Int) (l_3 : List Int) (i_1 : Int) (l_1 : List Be) : Option (Lp (Int × List Be) (A6)) :=
 cond (decide (i_1 < (e.Identities.length : Int)))
  ((B1 e.Identities i_1).bind fun e_2 =>
  (Di e_2.Chain).bind fun y =>
  (Jn 192 l_1 ([(Be.mk e_2.Key e_2.KeyId y)] : List Be)).bind fun l_4 =>
  some (.next (W (i_1 + 1), l_4)))
  (up (
   some (A6.mk e.Name e.Least e.Most l e.OwnOrder l_1 l_2 l_3 e.Fallback)))
def Ey (e : A6) : Option (A6) :=
 (Jn 8 ([] : List Int) e.Suites).bind fun l =>
 (Jn 8 ([] : List Int) e.Anchors).bind fun l_2 =>
 (Jn 8 ([] : List Int) e.Hashes).bind fun l_3 =>
 Cf (fun q' => Ey.l1 e l l_2 l_3 q'.1 q'.2) (0, ([] : List Be))
def F4 (s : ByteArray) (c : UInt8) : Option (Int) :=
 some (bD s c)
def Dt (s : ByteArray) (c : UInt8) : Option (Int) :=
 (F4 s c).bind fun y =>
 some y
def Ic (c : UInt8) (others : ByteArray) : Option (Bool) :=
 cond (decide (97 <= (c.toNat : Int)))
  (cond (decide ((c.toNat : Int) <= 122))
   (some true)
   (cond (decide (65 <= (c.toNat : Int)))
    (cond (decide ((c.toNat : Int) <= 90))
     (some true)
     (cond (decide (48 <= (c.toNat : Int)))
      (cond (decide ((c.toNat : Int) <= 57))
       (some true)
       ((Dt others c).bind fun y =>
       some (decide (0 <= y))))
      ((Dt others c).bind fun y_2 =>
      some (decide (0 <= y_2)))))
    (cond (decide (48 <= (c.toNat : Int)))
     (cond (decide ((c.toNat : Int) <= 57))
      (some true)
      ((Dt others c).bind fun y_3 =>
      some (decide (0 <= y_3))))
     ((Dt others c).bind fun y_4 =>
     some (decide (0 <= y_4))))))
  (cond (decide (65 <= (c.toNat : Int)))
   (cond (decide ((c.toNat : Int) <= 90))
    (some true)
    (cond (decide (48 <= (c.toNat : Int)))
     (cond (decide ((c.toNat : Int) <= 57))
      (some true)
      ((Dt others c).bind fun y_5 =>
      some (decide (0 <= y_5))))
     ((Dt others c).bind fun y_6 =>
     some (decide (0 <= y_6)))))
   (cond (decide (48 <= (c.toNat : Int)))
    (cond (decide ((c.toNat : Int) <= 57))
     (some true)
     ((Dt others c).bind fun y_7 =>
     some (decide (0 <= y_7))))
    ((Dt others c).bind fun y_8 =>
    some (decide (0 <= y_8)))))
def Dw.l1 (s : ByteArray) (x8_1 : Int) : Option (Lp (Int) (Bool)) :=
 cond (decide (x8_1 < ((Im s).length : Int)))
  ((B1 (Im s) x8_1).bind fun e =>
  (Ic e (⟨#[45, 95, 46]⟩ : ByteArray)).bind fun y =>
  cond (!y)
   (up (some false))
   (some (.next (W (x8_1 + 1)))))
  (up (
   cond (decide (1 <= (s.size : Int)))
    (some (decide ((s.size : Int) <= 32)))
    (some false)))
def Dw (s : ByteArray) : Option (Bool) :=
 Cf (fun q' => Dw.l1 s q') 0
def Co (alg : Int) (bits : Int) : Option (As) :=
 some (As.mk alg bits)
def Dd.l1 (y : As) (y_2 : As) (y_3 : As) (y_4 : As) (y_5 : As) (y_6 : As) (y_7 : As) (y_8 : As) (y_9 : As) (y_10 : As) (y_11 : As) (y_12 : As) (y_13 : As) (y_14 : As) (y_15 : As) (y_16 : As) (y_17 : As) (y_18 : As) (y_19 : As) (y_20 : As) (y_21 : As) (y_22 : As) (x114_1 : Int) (l_1 : List Ay) : Option (Lp (Int × List Ay) ((List Ay))) :=
 cond (decide (x114_1 < (([(Ay.mk 0 (⟨#[114, 115, 97, 45, 114, 99, 52, 45, 109, 100, 53]⟩ : ByteArray) y y_2 y_14 y_10 1 2), (Ay.mk 0 (⟨#[114, 115, 97, 45, 114, 99, 52, 45, 115, 104, 97]⟩ : ByteArray) y y_2 y_15 y_11 1 3), (Ay.mk 0 (⟨#[114, 115, 97, 45, 100, 101, 115, 51, 45, 115, 104, 97]⟩ : ByteArray) y y_2 y_5 y_11 1 3), (Ay.mk 0 (⟨#[100, 104, 101, 45, 100, 115, 97, 45, 100, 101, 115, 51, 45, 115, 104, 97]⟩ : ByteArray) y_16 y_3 y_5 y_11 1 3), (Ay.mk 0 (⟨#[100, 104, 101, 45, 114, 115, 97, 45, 100, 101, 115, 51, 45, 115, 104, 97]⟩ : ByteArray) y_17 y_2 y_5 y_11 1 3), (Ay.mk 0 (⟨#[114, 115, 97, 45, 97, 101, 115, 49, 50, 56, 45, 115, 104, 97]⟩ : ByteArray) y y_2 y_6 y_11 1 3), (Ay.mk 0 (⟨#[100, 104, 101, 45, 114, 115, 97, 45, 97, 101, 115, 49, 50, 56, 45, 115, 104, 97]⟩ : ByteArray) y_18 y_2 y_6 y_11 1 3), (Ay.mk 0 (⟨#[101, 99, 100, 104, 101, 45, 114, 115, 97, 45, 97, 101, 115, 49, 50, 56, 45, 115, 104, 97]⟩ : ByteArray) y_13 y_2 y_6 y_11 1 3), (Ay.mk 0 (⟨#[101, 99, 100, 104, 101, 45, 101, 99, 100, 115, 97, 45, 97, 101, 115, 50, 53, 54, 45, 115, 104, 97, 50, 53, 54]⟩ : ByteArray) y_13 y_4 y_19 y_20 3 3), (Ay.mk 0 (⟨#[101, 99, 100, 104, 101, 45, 114, 115, 97, 45, 97, 101, 115, 49, 50, 56, 45, 103, 99, 109]⟩ : ByteArray) y_13 y_2 y_7 y_12 3 3), (Ay.mk 0 (⟨#[101, 99, 100, 104, 101, 45, 101, 99, 100, 115, 97, 45, 97, 101, 115, 50, 53, 54, 45, 103, 99, 109]⟩ : ByteArray) y_21 y_4 y_8 y_12 3 3), (Ay.mk 0 (⟨#[101, 99, 100, 104, 101, 45, 114, 115, 97, 45, 99, 104, 97, 99, 104, 97]⟩ : ByteArray) y_13 y_2 y_9 y_12 3 3), (Ay.mk 0 (⟨#[114, 115, 97, 45, 97, 101, 115, 50, 53, 54, 45, 103, 99, 109]⟩ : ByteArray) y y_2 y_8 y_12 3 3), (Ay.mk 0 (⟨#[97, 101, 115, 49, 50, 56, 45, 103, 99, 109]⟩ : ByteArray) y_13 (As.mk 0 0) y_7 y_12 4 4), (Ay.mk 0 (⟨#[99, 104, 97, 99, 104, 97]⟩ : ByteArray) y_13 (As.mk 0 0) y_9 y_12 4 4), (Ay.mk 0 (⟨#[109, 108, 107, 101, 109, 45, 97, 101, 115, 50, 53, 54, 45, 103, 99, 109]⟩ : ByteArray) y_22 (As.mk 0 0) y_8 y_12 4 4)] : List Ay).length : Int)))
  ((B1 l_1 x114_1).bind fun e =>
  some (.next (W (x114_1 + 1), Cs l_1 ((x114_1).toNat) (Ay.mk (W (x114_1 + 1)) e.Name e.Exchange e.Sign e.Cipher e.Mac e.Least e.Most))))
  (up (
   some l_1))
def Dd : Option ((List Ay)) :=
 (Co 10 0).bind fun y =>
 (Co 5 0).bind fun y_2 =>
 (Co 6 0).bind fun y_3 =>
 (Co 7 0).bind fun y_4 =>
 (Co 15 168).bind fun y_5 =>
 (Co 16 128).bind fun y_6 =>
 (Co 17 128).bind fun y_7 =>
 (Co 17 256).bind fun y_8 =>
 (Co 18 0).bind fun y_9 =>
 (Co 19 0).bind fun y_10 =>
 (Co 20 0).bind fun y_11 =>
 (Co 22 0).bind fun y_12 =>
 (Co 12 256).bind fun y_13 =>
 (Co 14 128).bind fun y_14 =>
 (Co 14 128).bind fun y_15 =>
 (Co 11 1024).bind fun y_16 =>
 (Co 11 1024).bind fun y_17 =>
 (Co 11 2048).bind fun y_18 =>
 (Co 16 256).bind fun y_19 =>
 (Co 21 0).bind fun y_20 =>
 (Co 12 384).bind fun y_21 =>
 (Co 13 768).bind fun y_22 =>
 Cf (fun q' => Dd.l1 y y_2 y_3 y_4 y_5 y_6 y_7 y_8 y_9 y_10 y_11 y_12 y_13 y_14 y_15 y_16 y_17 y_18 y_19 y_20 y_21 y_22 q'.1 q'.2) (0, ([(Ay.mk 0 (⟨#[114, 115, 97, 45, 114, 99, 52, 45, 109, 100, 53]⟩ : ByteArray) y y_2 y_14 y_10 1 2), (Ay.mk 0 (⟨#[114, 115, 97, 45, 114, 99, 52, 45, 115, 104, 97]⟩ : ByteArray) y y_2 y_15 y_11 1 3), (Ay.mk 0 (⟨#[114, 115, 97, 45, 100, 101, 115, 51, 45, 115, 104, 97]⟩ : ByteArray) y y_2 y_5 y_11 1 3), (Ay.mk 0 (⟨#[100, 104, 101, 45, 100, 115, 97, 45, 100, 101, 115, 51, 45, 115, 104, 97]⟩ : ByteArray) y_16 y_3 y_5 y_11 1 3), (Ay.mk 0 (⟨#[100, 104, 101, 45, 114, 115, 97, 45, 100, 101, 115, 51, 45, 115, 104, 97]⟩ : ByteArray) y_17 y_2 y_5 y_11 1 3), (Ay.mk 0 (⟨#[114, 115, 97, 45, 97, 101, 115, 49, 50, 56, 45, 115, 104, 97]⟩ : ByteArray) y y_2 y_6 y_11 1 3), (Ay.mk 0 (⟨#[100, 104, 101, 45, 114, 115, 97, 45, 97, 101, 115, 49, 50, 56, 45, 115, 104, 97]⟩ : ByteArray) y_18 y_2 y_6 y_11 1 3), (Ay.mk 0 (⟨#[101, 99, 100, 104, 101, 45, 114, 115, 97, 45, 97, 101, 115, 49, 50, 56, 45, 115, 104, 97]⟩ : ByteArray) y_13 y_2 y_6 y_11 1 3), (Ay.mk 0 (⟨#[101, 99, 100, 104, 101, 45, 101, 99, 100, 115, 97, 45, 97, 101, 115, 50, 53, 54, 45, 115, 104, 97, 50, 53, 54]⟩ : ByteArray) y_13 y_4 y_19 y_20 3 3), (Ay.mk 0 (⟨#[101, 99, 100, 104, 101, 45, 114, 115, 97, 45, 97, 101, 115, 49, 50, 56, 45, 103, 99, 109]⟩ : ByteArray) y_13 y_2 y_7 y_12 3 3), (Ay.mk 0 (⟨#[101, 99, 100, 104, 101, 45, 101, 99, 100, 115, 97, 45, 97, 101, 115, 50, 53, 54, 45, 103, 99, 109]⟩ : ByteArray) y_21 y_4 y_8 y_12 3 3), (Ay.mk 0 (⟨#[101, 99, 100, 104, 101, 45, 114, 115, 97, 45, 99, 104, 97, 99, 104, 97]⟩ : ByteArray) y_13 y_2 y_9 y_12 3 3), (Ay.mk 0 (⟨#[114, 115, 97, 45, 97, 101, 115, 50, 53, 54, 45, 103, 99, 109]⟩ : ByteArray) y y_2 y_8 y_12 3 3), (Ay.mk 0 (⟨#[97, 101, 115, 49, 50, 56, 45, 103, 99, 109]⟩ : ByteArray) y_13 (As.mk 0 0) y_7 y_12 4 4), (Ay.mk 0 (⟨#[99, 104, 97, 99, 104, 97]⟩ : ByteArray) y_13 (As.mk 0 0) y_9 y_12 4 4), (Ay.mk 0 (⟨#[109, 108, 107, 101, 109, 45, 97, 101, 115, 50, 53, 54, 45, 103, 99, 109]⟩ : ByteArray) y_22 (As.mk 0 0) y_8 y_12 4 4)] : List Ay))
def Dq.j1 (code : Int) (y : (List Ay)) (x13_1 : Bool) : Option (Ay × Int) :=
 cond (x13_1)
  (some ((Ay.mk 0 (⟨#[]⟩ : ByteArray) (As.mk 0 0) (As.mk 0 0) (As.mk 0 0) (As.mk 0 0) 0 0), 8))
  ((B1 y (W (code - 1))).bind fun e =>
  some (e, 0))
def Dq (code : Int) : Option (Ay × Int) :=
 (Dd).bind fun y =>
 cond (decide (code < 1))
  (Dq.j1 code y true)
  (Dq.j1 code y (decide ((y.length : Int) < code)))
def Ck.j2 (x9_1 : Int) (x27_2 : Bool) : Option (Lp (Int) (Bool)) :=
 cond (x27_2)
  (up (some false))
  (some (.next (W (x9_1 + 1))))
def Ck.l1 (l : (List Int)) (x9_1 : Int) : Option (Lp (Int) (Bool)) :=
 cond (decide (x9_1 < (l.length : Int)))
  ((B1 l x9_1).bind fun e =>
  (Dq e).bind fun y =>
  cond (!decide (y.2 = 0))
   (Ck.j2 x9_1 true)
   ((dC l 0 x9_1).bind fun l_2 =>
   (D0 l_2 e).bind fun y_2 =>
   Ck.j2 x9_1 y_2))
  (up (
   some true))
def Ck (l : (List Int)) : Option (Bool) :=
 Cf (fun q' => Ck.l1 l q') 0
def B5.j2 (x6_1 : Int) (x22_2 : Bool) : Option (Lp (Int) (Bool)) :=
 cond (x22_2)
  (up (some false))
  (some (.next (W (x6_1 + 1))))
def B5.l1 (l : (List Int)) (x6_1 : Int) : Option (Lp (Int) (Bool)) :=
 cond (decide (x6_1 < (l.length : Int)))
  (cond (decide (0 < x6_1))
   ((B1 l (W (x6_1 - 1))).bind fun e =>
   (B1 l x6_1).bind fun e_2 =>
   B5.j2 x6_1 (decide (e_2 <= e)))
   (B5.j2 x6_1 false))
  (up (
   some true))
def B5 (l : (List Int)) : Option (Bool) :=
 Cf (fun q' => B5.l1 l q') 0
def Iq : Option (Unit) :=
 some ()
def Fu (n : Int) : Option (Bool) :=
 (Ej n).bind fun y =>
 some (!y)
def Bk.l1 (s : (List Int)) (f : Int -> Option (Bool)) (x8_1 : Int) : Option (Lp (Int) (Int)) :=
 cond (decide (x8_1 < (s.length : Int)))
  ((B1 s x8_1).bind fun e =>
  (f e).bind fun y =>
  cond (y)
   (up (some x8_1))
   (some (.next (W (x8_1 + 1)))))
  (up (
   some (-1)))
def Bk (s : (List Int)) (f : Int -> Option (Bool)) : Option (Int) :=
 Cf (fun q' => Bk.l1 s f q') 0
def Dr (s : (List Int)) (f : Int -> Option (Bool)) : Option (Bool) :=
 (Bk s f).bind fun y =>
 some (decide (0 <= y))
def Is : Option (Unit) :=
 some ()
def I1 (alg : Int) : Option (Bool) :=
 (Gv alg).bind fun y =>
 some (decide (y = 1))
def F0 (n : Int) : Option (Bool) :=
 (I1 n).bind fun y =>
 some (!y)
def Bg.j4 (x82_4 : Bool) : Option (Int) :=
 cond (x82_4)
  (some 19)
  (some 0)
def Bg.l3 (e : A6) (x58_3 : Int) : Option (Lp (Int) (Int)) :=
 cond (decide (x58_3 < (e.Identities.length : Int)))
  ((B1 e.Identities x58_3).bind fun e_2 =>
  (Bn e_2.Key e_2.KeyId e_2.Chain).bind fun y_5 =>
  cond (!y_5)
   (up (some 19))
   (some (.next (W (x58_3 + 1)))))
  (up (
   (Iq).bind fun y_6 =>
   (Dr e.Anchors (fun x0 => Fu x0)).bind fun y_7 =>
   cond (y_7)
    (Bg.j4 true)
    ((Is).bind fun y_8 =>
    (Dr e.Hashes (fun x0 => F0 x0)).bind fun y_9 =>
    Bg.j4 y_9)))
def Bg.j2 (e : A6) (x54_2 : Bool) : Option (Int) :=
 cond (x54_2)
  (some 19)
  (Cf (fun q' => Bg.l3 e q') 0)
def Bg.j1 (e : A6) (x32_1 : Bool) : Option (Int) :=
 cond (x32_1)
  (some 19)
  (cond (decide (4 < (e.Identities.length : Int)))
   (Bg.j2 e true)
   (cond (decide (16 < (e.Anchors.length : Int)))
    (Bg.j2 e true)
    ((B5 e.Anchors).bind fun y_3 =>
    cond (!y_3)
     (Bg.j2 e true)
     ((B5 e.Hashes).bind fun y_4 =>
     Bg.j2 e (!y_4)))))
def Bg (e : A6) : Option (Int) :=
 (Dw e.Name).bind fun y =>
 cond (!y)
  (Bg.j1 e true)
  (cond (decide (e.Least < 1))
   (Bg.j1 e true)
   (cond (decide (e.Most < e.Least))
    (Bg.j1 e true)
    (cond (decide (4 < e.Most))
     (Bg.j1 e true)
     ((Ck e.Suites).bind fun y_2 =>
     Bg.j1 e (!y_2)))))
def A9.l5 (e : A6) (x79_5 : Int) (p_5 : Int) (p_5_2 : ByteArray) (p_5_3 : Int) (p_5_4 : Int) (p_5_5 : Int) (p_5_6 : Int) (p_5_7 : ByteArray) (p_5_8 : Int) (p_5_9 : Int) (p_5_10 : Int) (p_5_11 : ByteArray) (l_5 : List Aa) : Option (Lp (Int × Int × ByteArray × Int × Int × Int × Int × ByteArray × Int × Int × Int × ByteArray × List Aa) ((List Aa) × Int)) :=
 cond (decide (x79_5 < (e.Hashes.length : Int)))
  ((B1 e.Hashes x79_5).bind fun e_5 =>
  (Cp (Dh.mk (Aa.mk p_5 p_5_2 p_5_3 p_5_4 p_5_5 p_5_6 p_5_7 (As.mk p_5_8 p_5_9) p_5_10 p_5_11) l_5) 1 (As.mk e_5 0) 0).bind fun y_8 =>
  some (.next (W (x79_5 + 1), y_8.at_.Source, y_8.at_.Host, y_8.at_.Machine, y_8.at_.Day, y_8.at_.Confidence, y_8.at_.Kind, y_8.at_.Subject, y_8.at_.Use.Alg, y_8.at_.Use.Bits, y_8.at_.Number, y_8.at_.Text, y_8.l)))
  (up (
   (Ce l_5).bind fun y_9 =>
   some (y_9.1, y_9.2)))
def A9.l4 (e : A6) (x67_4 : Int) (p_4 : Int) (p_4_2 : ByteArray) (p_4_3 : Int) (p_4_4 : Int) (p_4_5 : Int) (p_4_6 : Int) (p_4_7 : ByteArray) (p_4_8 : Int) (p_4_9 : Int) (p_4_10 : Int) (p_4_11 : ByteArray) (l_4 : List Aa) : Option (Lp (Int × Int × ByteArray × Int × Int × Int × Int × ByteArray × Int × Int × Int × ByteArray × List Aa) ((List Aa) × Int)) :=
 cond (decide (x67_4 < (e.Anchors.length : Int)))
  ((B1 e.Anchors x67_4).bind fun e_4 =>
  (Cp (Dh.mk (Aa.mk p_4 p_4_2 p_4_3 p_4_4 p_4_5 p_4_6 p_4_7 (As.mk p_4_8 p_4_9) p_4_10 p_4_11) l_4) 6 (As.mk 0 0) e_4).bind fun y_7 =>
  some (.next (W (x67_4 + 1), y_7.at_.Source, y_7.at_.Host, y_7.at_.Machine, y_7.at_.Day, y_7.at_.Confidence, y_7.at_.Kind, y_7.at_.Subject, y_7.at_.Use.Alg, y_7.at_.Use.Bits, y_7.at_.Number, y_7.at_.Text, y_7.l)))
  (up (
   Cf (fun q' => A9.l5 e q'.1 q'.2.1 q'.2.2.1 q'.2.2.2.1 q'.2.2.2.2.1 q'.2.2.2.2.2.1 q'.2.2.2.2.2.2.1 q'.2.2.2.2.2.2.2.1 q'.2.2.2.2.2.2.2.2.1 q'.2.2.2.2.2.2.2.2.2.1 q'.2.2.2.2.2.2.2.2.2.2.1 q'.2.2.2.2.2.2.2.2.2.2.2.1 q'.2.2.2.2.2.2.2.2.2.2.2.2) (0, p_4, p_4_2, p_4_3, p_4_4, p_4_5, p_4_6, p_4_7, p_4_8, p_4_9, p_4_10, p_4_11, l_4)))
def A9.l3 (e : A6) (x53_3 : Int) (p_3 : Int) (p_3_2 : ByteArray) (p_3_3 : Int) (p_3_4 : Int) (p_3_5 : Int) (p_3_6 : Int) (p_3_7 : ByteArray) (p_3_8 : Int) (p_3_9 : Int) (p_3_10 : Int) (p_3_11 : ByteArray) (l_3 : List Aa) : Option (Lp (Int × Int × ByteArray × Int × Int × Int × Int × ByteArray × Int × Int × Int × ByteArray × List Aa) ((List Aa) × Int)) :=
 cond (decide (x53_3 < (e.Identities.length : Int)))
  ((B1 e.Identities x53_3).bind fun e_3 =>
  (Cp (Dh.mk (Aa.mk p_3 p_3_2 p_3_3 p_3_4 p_3_5 p_3_6 p_3_7 (As.mk p_3_8 p_3_9) p_3_10 p_3_11) l_3) 3 e_3.Key e_3.KeyId).bind fun y_6 =>
  some (.next (W (x53_3 + 1), y_6.at_.Source, y_6.at_.Host, y_6.at_.Machine, y_6.at_.Day, y_6.at_.Confidence, y_6.at_.Kind, y_6.at_.Subject, y_6.at_.Use.Alg, y_6.at_.Use.Bits, y_6.at_.Number, y_6.at_.Text, y_6.l)))
  (up (
   Cf (fun q' => A9.l4 e q'.1 q'.2.1 q'.2.2.1 q'.2.2.2.1 q'.2.2.2.2.1 q'.2.2.2.2.2.1 q'.2.2.2.2.2.2.1 q'.2.2.2.2.2.2.2.1 q'.2.2.2.2.2.2.2.2.1 q'.2.2.2.2.2.2.2.2.2.1 q'.2.2.2.2.2.2.2.2.2.2.1 q'.2.2.2.2.2.2.2.2.2.2.2.1 q'.2.2.2.2.2.2.2.2.2.2.2.2) (0, p_3, p_3_2, p_3_3, p_3_4, p_3_5, p_3_6, p_3_7, p_3_8, p_3_9, p_3_10, p_3_11, l_3)))
def A9.l2 (e : A6) (x41_2 : Int) (p_2 : Int) (p_2_2 : ByteArray) (p_2_3 : Int) (p_2_4 : Int) (p_2_5 : Int) (p_2_6 : Int) (p_2_7 : ByteArray) (p_2_8 : Int) (p_2_9 : Int) (p_2_10 : Int) (p_2_11 : ByteArray) (l_2 : List Aa) : Option (Lp (Int × Int × ByteArray × Int × Int × Int × Int × ByteArray × Int × Int × Int × ByteArray × List Aa) ((List Aa) × Int)) :=
 cond (decide (x41_2 < (e.Suites.length : Int)))
  ((B1 e.Suites x41_2).bind fun e_2 =>
  (Cp (Dh.mk (Aa.mk p_2 p_2_2 p_2_3 p_2_4 p_2_5 p_2_6 p_2_7 (As.mk p_2_8 p_2_9) p_2_10 p_2_11) l_2) 2 (As.mk 0 0) e_2).bind fun y_5 =>
  some (.next (W (x41_2 + 1), y_5.at_.Source, y_5.at_.Host, y_5.at_.Machine, y_5.at_.Day, y_5.at_.Confidence, y_5.at_.Kind, y_5.at_.Subject, y_5.at_.Use.Alg, y_5.at_.Use.Bits, y_5.at_.Number, y_5.at_.Text, y_5.l)))
  (up (
   Cf (fun q' => A9.l3 e q'.1 q'.2.1 q'.2.2.1 q'.2.2.2.1 q'.2.2.2.2.1 q'.2.2.2.2.2.1 q'.2.2.2.2.2.2.1 q'.2.2.2.2.2.2.2.1 q'.2.2.2.2.2.2.2.2.1 q'.2.2.2.2.2.2.2.2.2.1 q'.2.2.2.2.2.2.2.2.2.2.1 q'.2.2.2.2.2.2.2.2.2.2.2.1 q'.2.2.2.2.2.2.2.2.2.2.2.2) (0, p_2, p_2_2, p_2_3, p_2_4, p_2_5, p_2_6, p_2_7, p_2_8, p_2_9, p_2_10, p_2_11, l_2)))
def A9.j1 (e : A6) (y : Dh × Int) (errno_1 : Int) : Option ((List Aa) × Int) :=
 cond (!decide (errno_1 = 0))
  (some (([] : (List Aa)), errno_1))
  ((Cp y.1 5 (As.mk 0 0) e.Least).bind fun y_3 =>
  (Cp y_3 4 (As.mk 0 0) e.Most).bind fun y_4 =>
  Cf (fun q' => A9.l2 e q'.1 q'.2.1 q'.2.2.1 q'.2.2.2.1 q'.2.2.2.2.1 q'.2.2.2.2.2.1 q'.2.2.2.2.2.2.1 q'.2.2.2.2.2.2.2.1 q'.2.2.2.2.2.2.2.2.1 q'.2.2.2.2.2.2.2.2.2.1 q'.2.2.2.2.2.2.2.2.2.2.1 q'.2.2.2.2.2.2.2.2.2.2.2.1 q'.2.2.2.2.2.2.2.2.2.2.2.2) (0, y_4.at_.Source, y_4.at_.Host, y_4.at_.Machine, y_4.at_.Day, y_4.at_.Confidence, y_4.at_.Kind, y_4.at_.Subject, y_4.at_.Use.Alg, y_4.at_.Use.Bits, y_4.at_.Number, y_4.at_.Text, y_4.l))
def A9 (at' : Aa) (e : A6) : Option ((List Aa) × Int) :=
 (Gu at').bind fun y =>
 cond (decide (y.2 = 0))
  ((Bg e).bind fun y_2 =>
  A9.j1 e y y_2)
  (A9.j1 e y y.2)
def D7.l1 (a : (List Aa)) (b : (List Aa)) (i_1 : Int) : Option (Lp (Int) (Bool)) :=
 cond (decide (i_1 < (a.length : Int)))
  ((B1 a i_1).bind fun e =>
  (B1 b i_1).bind fun e_2 =>
  cond (!decide (e = e_2))
   (up (some false))
   (some (.next (W (i_1 + 1)))))
  (up (
   some true))
def D7 (a : (List Aa)) (b : (List Aa)) : Option (Bool) :=
 cond (!decide ((a.length : Int) = (b.length : Int)))
  (some false)
  (Cf (fun q' => D7.l1 a b q') 0)
def Bx.j2 (x11_1 : Int) (x30_2 : Bool) : Option (Lp (Int) (Bool)) :=
 cond (x30_2)
  (up (some false))
  (some (.next (W (x11_1 + 1))))
def Bx.l1 (l : (List Int)) (low : Int) (high : Int) (x11_1 : Int) : Option (Lp (Int) (Bool)) :=
 cond (decide (x11_1 < (l.length : Int)))
  ((B1 l x11_1).bind fun e =>
  cond (decide (e < low))
   (Bx.j2 x11_1 true)
   (cond (decide (high < e))
    (Bx.j2 x11_1 true)
    ((dC l 0 x11_1).bind fun l_2 =>
    (D0 l_2 e).bind fun y =>
    Bx.j2 x11_1 y)))
  (up (
   some true))
def Bx (l : (List Int)) (low : Int) (high : Int) : Option (Bool) :=
 Cf (fun q' => Bx.l1 l low high q') 0
def Cl.j1 (h' : C7) (x28_1 : Bool) : Option (Bool) :=
 cond (x28_1)
  (some false)
  ((Bx h'.Suites 0 65535).bind fun y =>
  cond (y)
   ((Bx h'.Hashes 1 255).bind fun y_2 =>
   some y_2)
   (some false))
def Cl (h' : C7) : Option (Bool) :=
 cond (decide (h'.Most < 1))
  (Cl.j1 h' true)
  (cond (decide (4 < h'.Most))
   (Cl.j1 h' true)
   (cond (decide ((h'.Suites.length : Int) < 1))
    (Cl.j1 h' true)
    (cond (decide (16 < (h'.Suites.length : Int)))
     (Cl.j1 h' true)
     (Cl.j1 h' (decide (16 < (h'.Hashes.length : Int)))))))
def Bw.l2 (h' : C7) (x46_2 : Int) (b_2 : List UInt8) : Option (Lp (Int × List UInt8) ((List UInt8) × Int)) :=
 cond (decide (x46_2 < (h'.Hashes.length : Int)))
  ((B1 h'.Hashes x46_2).bind fun e_2 =>
  (Jn 1 b_2 ([(u8 e_2)] : List UInt8)).bind fun l_3 =>
  some (.next (W (x46_2 + 1), l_3)))
  (up (
   some (b_2, 0)))
def Bw.l1 (h' : C7) (x23_1 : Int) (b_1 : List UInt8) : Option (Lp (Int × List UInt8) ((List UInt8) × Int)) :=
 cond (decide (x23_1 < (h'.Suites.length : Int)))
  ((B1 h'.Suites x23_1).bind fun e =>
  (Ov .i64 e 8).bind fun q =>
  (Jn 1 b_1 ([(u8 q), (u8 e)] : List UInt8)).bind fun l =>
  some (.next (W (x23_1 + 1), l)))
  (up (
   (Jn 1 b_1 ([(u8 (h'.Hashes.length : Int))] : List UInt8)).bind fun l_2 =>
   Cf (fun q' => Bw.l2 h' q'.1 q'.2) (0, l_2)))
def Bw (h' : C7) : Option ((List UInt8) × Int) :=
 (Cl h').bind fun y =>
 cond (!y)
  (some (([] : (List UInt8)), 23))
  (Cf (fun q' => Bw.l1 h' q'.1 q'.2) (0, ([(1 : UInt8), (u8 h'.Most), (u8 (h'.Suites.length : Int))] : List UInt8)))
def Fo (c : Cz) : Option (Bool) :=
 cond (decide (1 <= c.Version))
  (cond (decide (c.Version <= 4))
   (cond (decide (0 <= c.Suite))
    (cond (decide (c.Suite <= 65535))
     (cond (decide (0 <= c.KeyId))
      (some (decide (c.KeyId <= 2147483648)))
      (some false))
     (some false))
    (some false))
   (some false))
  (some false)
def Fb (c : Cz) : Option ((List UInt8) × Int) :=
 (Fo c).bind fun y =>
 cond (!y)
  (some (([] : (List UInt8)), 23))
  ((Ov .i64 c.Suite 8).bind fun q =>
  (Ov .i64 c.KeyId 24).bind fun q_2 =>
  (Ov .i64 c.KeyId 16).bind fun q_3 =>
  (Ov .i64 c.KeyId 8).bind fun q_4 =>
  some (([(2 : UInt8), (u8 c.Version), (u8 q), (u8 c.Suite), (u8 q_2), (u8 q_3), (u8 q_4), (u8 c.KeyId)] : List UInt8), 0))
def C1.j1 (p_1 : Int) (p_1_2 : ByteArray) (p_1_3 : Int) (p_1_4 : Int) (p_1_5 : Int) (p_1_6 : Int) (p_1_7 : ByteArray) (p_1_8 : Int) (p_1_9 : Int) (p_1_10 : Int) (p_1_11 : ByteArray) (l_1 : List Aa) : Option ((List Aa) × Int) :=
 (Ce l_1).bind fun y_9 =>
 some (y_9.1, y_9.2)
def C1 (at' : Aa) (h' : C7) (c : Cz) : Option ((List Aa) × Int) :=
 (Gu at').bind fun y =>
 cond (!decide (y.2 = 0))
  (some (([] : (List Aa)), y.2))
  ((Bw h').bind fun y_2 =>
  cond (!decide (y_2.2 = 0))
   (some (([] : (List Aa)), y_2.2))
   ((Fb c).bind fun y_3 =>
   cond (!decide (y_3.2 = 0))
    (some (([] : (List Aa)), y_3.2))
    ((Cp y.1 2 (As.mk 0 0) c.Suite).bind fun y_4 =>
    (Cp y_4 4 (As.mk 0 0) c.Version).bind fun y_5 =>
    (Dq c.Suite).bind fun y_6 =>
    cond (decide (y_6.2 = 0))
     ((Cp y_5 1 y_6.1.Cipher 0).bind fun y_7 =>
     (Cp y_7 1 y_6.1.Mac 0).bind fun y_8 =>
     C1.j1 y_8.at_.Source y_8.at_.Host y_8.at_.Machine y_8.at_.Day y_8.at_.Confidence y_8.at_.Kind y_8.at_.Subject y_8.at_.Use.Alg y_8.at_.Use.Bits y_8.at_.Number y_8.at_.Text y_8.l)
     (C1.j1 y_5.at_.Source y_5.at_.Host y_5.at_.Machine y_5.at_.Day y_5.at_.Confidence y_5.at_.Kind y_5.at_.Subject y_5.at_.Use.Alg y_5.at_.Use.Bits y_5.at_.Number y_5.at_.Text y_5.l))))
def Ch.j2 (i_1 : Int) (x37_2 : Bool) : Option (Lp (Int) (Bool)) :=
 cond (x37_2)
  (up (some false))
  (some (.next (W (i_1 + 1))))
def Ch.l1 (l : (List Int)) (low : Int) (high : Int) (i_1 : Int) : Option (Lp (Int) (Bool)) :=
 cond (decide (i_1 < (l.length : Int)))
  ((B1 l i_1).bind fun e =>
  cond (decide (e < low))
   (Ch.j2 i_1 true)
   (cond (decide (high < e))
    (Ch.j2 i_1 true)
    ((dC l 0 i_1).bind fun l_2 =>
    (E6 l_2 e).bind fun y =>
    Ch.j2 i_1 y)))
  (up (
   some true))
def Ch (l : (List Int)) (low : Int) (high : Int) : Option (Bool) :=
 Cf (fun q' => Ch.l1 l low high q') 0
def Kc (h' : C7) : Option (Bool) :=
 cond (decide (1 <= h'.Most))
  (cond (decide (h'.Most <= 4))
   (cond (decide (1 <= (h'.Suites.length : Int)))
    (cond (decide ((h'.Suites.length : Int) <= 16))
     (cond (decide ((h'.Hashes.length : Int) <= 16))
      ((Ch h'.Suites 0 65535).bind fun y =>
      cond (y)
       ((Ch h'.Hashes 1 255).bind fun y_2 =>
       some y_2)
       (some false))
      (some false))
     (some false))
    (some false))
   (some false))
  (some false)
def Ao.j9 (k_6 : Int) : Option (Lp (Int) (Bool)) :=
 some (.next (W (k_6 + 1)))
def Ao.j8 (m_7 : Int) (found_8 : Bool) : Option (Lp (Bool × Int) (Lp (Int) (Bool))) :=
 some (.next (found_8, W (m_7 + 1)))
def Ao.l7 (y_7 : (List Aa) × Int) (k_6 : Int) (e_6 : Aa) (found_7 : Bool) (m_7 : Int) : Option (Lp (Bool × Int) (Lp (Int) (Bool))) :=
 cond (decide (m_7 < (y_7.1.length : Int)))
  (cond (found_7)
   (Ao.j8 m_7 true)
   ((B1 y_7.1 m_7).bind fun e_7 =>
   Ao.j8 m_7 (decide (e_7 = e_6))))
  (up (
   cond (!found_7)
    (up (some false))
    (Ao.j9 k_6)))
def Ao.l6 (y_5 : A6 × Ad) (y_7 : (List Aa) × Int) (y_11 : (List Aa) × Int) (k_6 : Int) : Option (Lp (Int) (Bool)) :=
 cond (decide (k_6 < (y_11.1.length : Int)))
  ((B1 y_11.1 k_6).bind fun e_6 =>
  cond (!decide (e_6.Kind = 2))
   (Ao.j9 k_6)
   (Cf (fun q' => Ao.l7 y_7 k_6 e_6 q'.1 q'.2) (false, 0)))
  (up (
   cond (decide (y_11.2 = 0))
    ((Kc (C7.mk 4 y_5.1.Suites ([] : (List Int)))).bind fun y_12 =>
    cond (y_12)
     (cond (decide (2 <= (y_11.1.length : Int)))
      ((Ij).bind fun y_13 =>
      some y_13)
      (some false))
     (some false))
    (some false)))
def Ao.j5 (y_4 : Aa × Ad) (y_5 : A6 × Ad) (y_7 : (List Aa) × Int) (y_8 : (List Aa) × Int) (x111_5 : Bool) : Option (Bool) :=
 cond (x111_5)
  (cond (decide (y_7.2 = y_8.2))
   (cond (decide ((y_5.1.Suites.length : Int) = 0))
    ((Ij).bind fun y_10 =>
    some y_10)
    (some false))
   (some false))
  ((B1 y_5.1.Suites 0).bind fun e_5 =>
  (C1 y_4.1 (C7.mk 4 y_5.1.Suites ([] : (List Int))) (Cz.mk y_5.1.Most e_5 5)).bind fun y_11 =>
  Cf (fun q' => Ao.l6 y_5 y_7 y_11 q') 0)
def Ao.l2 (y_4 : Aa × Ad) (y_5 : A6 × Ad) (y_6 : A6) (l_1 : List Int) (i_2 : Int) (l_2 : List Be) : Option (Lp (Int × List Be) (Bool)) :=
 cond (decide (i_2 < (l_2.length : Int)))
  ((B1 y_5.1.Identities (W ((W ((y_5.1.Identities.length : Int) - 1)) - i_2))).bind fun e_3 =>
  (B1 l_2 i_2).bind fun e_4 =>
  some (.next (W (i_2 + 1), Cs l_2 ((i_2).toNat) e_3)))
  (up (
   (A9 y_4.1 y_5.1).bind fun y_7 =>
   (A9 y_4.1 (A6.mk y_6.Name y_6.Least y_6.Most l_1 (!y_5.1.OwnOrder) l_2 y_6.Anchors y_6.Hashes (!y_5.1.Fallback))).bind fun y_8 =>
   cond (!decide (y_7.2 = 0))
    (Ao.j5 y_4 y_5 y_7 y_8 true)
    (cond (!decide (y_8.2 = 0))
     (Ao.j5 y_4 y_5 y_7 y_8 true)
     ((D7 y_7.1 y_8.1).bind fun y_9 =>
     cond (!y_9)
      (Ao.j5 y_4 y_5 y_7 y_8 true)
      (Ao.j5 y_4 y_5 y_7 y_8 (decide ((y_5.1.Suites.length : Int) = 0)))))))
def Ao.l1 (y_4 : Aa × Ad) (y_5 : A6 × Ad) (y_6 : A6) (i_1 : Int) (l_1 : List Int) : Option (Lp (Int × List Int) (Bool)) :=
 cond (decide (i_1 < (l_1.length : Int)))
  ((B1 y_5.1.Suites (W ((W ((y_5.1.Suites.length : Int) - 1)) - i_1))).bind fun e =>
  (B1 l_1 i_1).bind fun e_2 =>
  some (.next (W (i_1 + 1), Cs l_1 ((i_1).toNat) e)))
  (up (
   Cf (fun q' => Ao.l2 y_4 y_5 y_6 l_1 q'.1 q'.2) (0, y_6.Identities)))
def Ao (l : (List Int)) : Option (Bool) :=
 (Mo l).bind fun y =>
 cond (!y)
  ((Ij).bind fun y_2 =>
  some y_2)
  ((Ol l).bind fun y_3 =>
  (Br y_3).bind fun y_4 =>
  (Bm y_4.2 (⟨#[119, 101, 98]⟩ : ByteArray)).bind fun y_5 =>
  (Ey y_5.1).bind fun y_6 =>
  Cf (fun q' => Ao.l1 y_4 y_5 y_6 q'.1 q'.2) (0, y_6.Suites))
end
end Go.Proofs.YtidpkjdkfkkgiaaGreat
