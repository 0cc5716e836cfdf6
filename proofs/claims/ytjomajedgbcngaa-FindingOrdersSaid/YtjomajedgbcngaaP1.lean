import Derived.Test.YtjomajedgbcngaaPU
set_option linter.unusedVariables false
set_option linter.unusedSimpArgs false
namespace Go.Proofs.Ytjomajedgbcngaa
noncomputable section
structure Aj where
 L : (List Int)
 At : Int
 deriving DecidableEq, Inhabited
structure Bk where
 Alg : Int
 Bits : Int
 deriving DecidableEq, Inhabited
structure Aa where
 Source : Int
 Host : ByteArray
 Machine : Int
 Day : Int
 Confidence : Int
 Kind : Int
 Subject : ByteArray
 Use : Bk
 Number : Int
 Text : ByteArray
 deriving DecidableEq, Inhabited
structure H4 where
 Key : Int
 Sum : Int
 deriving DecidableEq, Inhabited
structure Bc where
 Serial : Int
 Issuer : ByteArray
 Subject : ByteArray
 Key : Bk
 KeyId : Int
 Hash : Bk
 From : Int
 To : Int
 Authority : Bool
 Path : Int
 Names : (List ByteArray)
 Seal : H4
 deriving DecidableEq, Inhabited
structure Ce where
 Alias : ByteArray
 Key : Bk
 KeyId : Int
 Secret : Bool
 Chain : (List Bc)
 deriving DecidableEq, Inhabited
structure Dk where
 at_ : Aa
 l : (List Aa)
 deriving DecidableEq, Inhabited
structure Bu where
 name : ByteArray
 kind : Int
 way : Int
 sizes : (List Int)
 strengths : (List Int)
 deriving DecidableEq, Inhabited
structure Ar where
 name : ByteArray
 kind : Int
 deriving DecidableEq, Inhabited
def Gr (l : (List Int)) : Option (Bool) :=
 some (decide ((l.length : Int) <= 400))
def Br.j2 (x8_1 : Int) (x17_2 : Bool) : Option (Lp (Int) (Bool)) :=
 cond (x17_2)
  (up (some false))
  (some (.next (W (x8_1 + 1))))
def Br.l1 (s : ByteArray) (x8_1 : Int) : Option (Lp (Int) (Bool)) :=
 cond (decide (x8_1 < ((Hk s).length : Int)))
  ((Cc (Hk s) x8_1).bind fun e =>
  cond (decide ((e.toNat : Int) <= 32))
   (Br.j2 x8_1 true)
   (Br.j2 x8_1 (decide (126 < (e.toNat : Int)))))
  (up (
   cond (decide (1 <= (s.size : Int)))
    (some (decide ((s.size : Int) <= 32)))
    (some false)))
def Br (s : ByteArray) : Option (Bool) :=
 Cy (fun q' => Br.l1 s q') 0
def Kl : Option ((List Bu)) :=
 some ([(Bu.mk (⟨#[]⟩ : ByteArray) 0 0 ([] : (List Int)) ([] : (List Int))), (Bu.mk (⟨#[109, 100, 53]⟩ : ByteArray) 1 0 ([] : (List Int)) ([18] : List Int)), (Bu.mk (⟨#[115, 104, 97, 49]⟩ : ByteArray) 1 0 ([] : (List Int)) ([60] : List Int)), (Bu.mk (⟨#[115, 104, 97, 50, 53, 54]⟩ : ByteArray) 1 0 ([] : (List Int)) ([128] : List Int)), (Bu.mk (⟨#[115, 104, 97, 51, 56, 52]⟩ : ByteArray) 1 0 ([] : (List Int)) ([192] : List Int)), (Bu.mk (⟨#[114, 115, 97]⟩ : ByteArray) 2 1 ([] : (List Int)) ([] : (List Int))), (Bu.mk (⟨#[100, 115, 97]⟩ : ByteArray) 2 1 ([] : (List Int)) ([] : (List Int))), (Bu.mk (⟨#[101, 99, 100, 115, 97]⟩ : ByteArray) 2 2 ([] : (List Int)) ([] : (List Int))), (Bu.mk (⟨#[101, 100, 50, 53, 53, 49, 57]⟩ : ByteArray) 2 0 ([] : (List Int)) ([128] : List Int)), (Bu.mk (⟨#[109, 108, 100, 115, 97]⟩ : ByteArray) 2 3 ([44, 65, 87] : List Int) ([128, 192, 256] : List Int)), (Bu.mk (⟨#[114, 115, 97, 107, 120]⟩ : ByteArray) 3 1 ([] : (List Int)) ([] : (List Int))), (Bu.mk (⟨#[100, 104, 101]⟩ : ByteArray) 3 1 ([] : (List Int)) ([] : (List Int))), (Bu.mk (⟨#[101, 99, 100, 104, 101]⟩ : ByteArray) 3 2 ([] : (List Int)) ([] : (List Int))), (Bu.mk (⟨#[109, 108, 107, 101, 109]⟩ : ByteArray) 3 3 ([512, 768, 1024] : List Int) ([128, 192, 256] : List Int)), (Bu.mk (⟨#[114, 99, 52]⟩ : ByteArray) 4 3 ([40, 128] : List Int) ([40, 60] : List Int)), (Bu.mk (⟨#[100, 101, 115, 51]⟩ : ByteArray) 4 3 ([112, 168] : List Int) ([80, 112] : List Int)), (Bu.mk (⟨#[97, 101, 115, 99, 98, 99]⟩ : ByteArray) 4 3 ([128, 256] : List Int) ([128, 256] : List Int)), (Bu.mk (⟨#[97, 101, 115, 103, 99, 109]⟩ : ByteArray) 4 3 ([128, 256] : List Int) ([128, 256] : List Int)), (Bu.mk (⟨#[99, 104, 97, 99, 104, 97]⟩ : ByteArray) 4 0 ([] : (List Int)) ([256] : List Int)), (Bu.mk (⟨#[104, 109, 97, 99, 109, 100, 53]⟩ : ByteArray) 5 0 ([] : (List Int)) ([64] : List Int)), (Bu.mk (⟨#[104, 109, 97, 99, 115, 104, 97, 49]⟩ : ByteArray) 5 0 ([] : (List Int)) ([80] : List Int)), (Bu.mk (⟨#[104, 109, 97, 99, 115, 104, 97, 50, 53, 54]⟩ : ByteArray) 5 0 ([] : (List Int)) ([128] : List Int)), (Bu.mk (⟨#[97, 101, 97, 100]⟩ : ByteArray) 5 0 ([] : (List Int)) ([256] : List Int))] : List Bu)
def Dn.j1 (alg : Int) (x9_1 : Bool) : Option (Bu × Bool) :=
 cond (x9_1)
  (some ((Bu.mk (⟨#[]⟩ : ByteArray) 0 0 ([] : (List Int)) ([] : (List Int))), false))
  ((Kl).bind fun y =>
  (Cc (mS 23 y) alg).bind fun e =>
  some (e, true))
def Dn (alg : Int) : Option (Bu × Bool) :=
 cond (decide (alg < 1))
  (Dn.j1 alg true)
  (Dn.j1 alg (decide (22 < alg)))
def Cs.l1 (bits : Int) (x11_1 : Int) : Option (Lp (Int) (Int)) :=
 cond (decide (x11_1 < 5))
  ((Cc ([([1024, 56] : List Int), ([2048, 80] : List Int), ([3072, 112] : List Int), ([7680, 128] : List Int), ([15360, 192] : List Int)] : List (List Int)) x11_1).bind fun e =>
  cond (decide (bits < (e[0]!)))
   (up (some (e[1]!)))
   (some (.next (W (x11_1 + 1)))))
  (up (
   some 256))
def Cs (bits : Int) : Option (Int) :=
 Cy (fun q' => Cs.l1 bits q') 0
def Bx.l1 (s : (List Int)) (v : Int) (x8_1 : Int) : Option (Lp (Int) (Int)) :=
 cond (decide (x8_1 < (s.length : Int)))
  ((Cc s x8_1).bind fun e =>
  cond (decide (v = e))
   (up (some x8_1))
   (some (.next (W (x8_1 + 1)))))
  (up (
   some (-1)))
def Bx (s : (List Int)) (v : Int) : Option (Int) :=
 Cy (fun q' => Bx.l1 s v q') 0
def Dw (s : (List Int)) (v : Int) : Option (Bool) :=
 (Bx s v).bind fun y =>
 some (decide (0 <= y))
def A7.j1 (u : Bk) (x34_1 : Bool) : Option (Int) :=
 cond (x34_1)
  ((Cs u.Bits).bind fun y_2 =>
  some y_2)
  (some 0)
def A7 (u : Bk) : Option (Int) :=
 (Dn u.Alg).bind fun y =>
 cond (!y.2)
  (some 0)
  (cond (decide (y.1.way = 0))
   (cond (decide (u.Bits = 0))
    ((Cc y.1.strengths 0).bind fun e =>
    some e)
    (some 0))
   (cond (decide (y.1.way = 1))
    (cond (decide (512 <= u.Bits))
     (A7.j1 u (decide (u.Bits <= 16384)))
     (A7.j1 u false))
    (cond (decide (y.1.way = 2))
     ((Dw ([160, 224, 256, 384, 521] : List Int) u.Bits).bind fun y_3 =>
     cond (y_3)
      ((Md u.Bits 2).bind fun q =>
      some q)
      (some 0))
     (cond (decide (y.1.way = 3))
      ((Bx y.1.sizes u.Bits).bind fun y_4 =>
      cond (decide (0 <= y_4))
       ((Cc y.1.strengths y_4).bind fun e_2 =>
       some e_2)
       (some 0))
      (some 0)))))
def Ek (u : Bk) : Option (Bool) :=
 (A7 u).bind fun y =>
 some (decide (0 < y))
def F8 (alg : Int) : Option (Int) :=
 (Dn alg).bind fun y =>
 some y.1.kind
def A3.j3 (f : Aa) (bare_1 : Bool) (x71_3 : Bool) : Option (Bool) :=
 cond (x71_3)
  (cond (bare_1)
   (cond (decide (1 <= f.Number))
    (some (decide (f.Number <= 4)))
    (some false))
   (some false))
  (cond (decide (f.Kind = 6))
   (cond (bare_1)
    (cond (decide (0 <= f.Number))
     (some (decide (f.Number <= 2147483648)))
     (some false))
    (some false))
   (cond (decide (f.Kind = 7))
    (cond (decide (f.Use = (Bk.mk 0 0)))
     (cond (decide (f.Number = 0))
      ((Br f.Text).bind fun y_4 =>
      some y_4)
      (some false))
     (some false))
    (some false)))
def A3.j2 (f : Aa) (bare_1 : Bool) (x15_2 : Bool) : Option (Bool) :=
 cond (x15_2)
  ((Ek f.Use).bind fun y =>
  cond (y)
   (cond (decide (f.Number = 0))
    (some (decide (f.Text = (⟨#[]⟩ : ByteArray))))
    (some false))
   (some false))
  (cond (decide (f.Kind = 2))
   (cond (bare_1)
    (cond (decide (0 <= f.Number))
     (some (decide (f.Number <= 65535)))
     (some false))
    (some false))
   (cond (decide (f.Kind = 3))
    ((Ek f.Use).bind fun y_2 =>
    cond (y_2)
     ((F8 f.Use.Alg).bind fun y_3 =>
     cond (decide (y_3 = 2))
      (cond (decide (0 <= f.Number))
       (cond (decide (f.Number <= 2147483648))
        (some (decide (f.Text = (⟨#[]⟩ : ByteArray))))
        (some false))
       (some false))
      (some false))
     (some false))
    (cond (decide (f.Kind = 4))
     (A3.j3 f bare_1 (decide (f.Kind = 4)))
     (A3.j3 f bare_1 (decide (f.Kind = 5))))))
def A3.j1 (f : Aa) (bare_1 : Bool) : Option (Bool) :=
 cond (decide (f.Kind = 1))
  (A3.j2 f bare_1 (decide (f.Kind = 1)))
  (A3.j2 f bare_1 (decide (f.Kind = 8)))
def A3 (f : Aa) : Option (Bool) :=
 cond (decide (f.Use = (Bk.mk 0 0)))
  (A3.j1 f (decide (f.Text = (⟨#[]⟩ : ByteArray))))
  (A3.j1 f false)
def Be.j3 (x61_3 : Bool) : Option (Int) :=
 cond (x61_3)
  (some 24)
  (some 0)
def Be.j2 (f : Aa) (where_1 : Bool) (when_2 : Bool) : Option (Int) :=
 cond (!where_1)
  (Be.j3 true)
  (cond (!when_2)
   (Be.j3 true)
   (cond (decide (f.Source < 1))
    (Be.j3 true)
    (cond (decide (7 < f.Source))
     (Be.j3 true)
     ((A3 f).bind fun y_3 =>
     Be.j3 (!y_3)))))
def Be.j1 (f : Aa) (where_1 : Bool) : Option (Int) :=
 cond (decide (0 <= f.Day))
  (cond (decide (f.Day <= 40000))
   (cond (decide (1 <= f.Confidence))
    (Be.j2 f where_1 (decide (f.Confidence <= 100)))
    (Be.j2 f where_1 false))
   (Be.j2 f where_1 false))
  (Be.j2 f where_1 false)
def Be (f : Aa) : Option (Int) :=
 (Br f.Host).bind fun y =>
 cond (y)
  ((Br f.Subject).bind fun y_2 =>
  cond (y_2)
   (cond (decide (0 <= f.Machine))
    (Be.j1 f (decide (f.Machine <= 1099511627776)))
    (Be.j1 f false))
   (Be.j1 f false))
  (Be.j1 f false)
def Ik (at' : Aa) : Option (Dk × Int) :=
 (Be (Aa.mk at'.Source at'.Host at'.Machine at'.Day at'.Confidence 4 at'.Subject (Bk.mk 0 0) 1 (⟨#[]⟩ : ByteArray))).bind fun y =>
 some ((Dk.mk (Aa.mk at'.Source at'.Host at'.Machine at'.Day at'.Confidence 4 at'.Subject (Bk.mk 0 0) 1 (⟨#[]⟩ : ByteArray)) ([] : (List Aa))), y)
def E9 (n : Int) : Option (Bool) :=
 cond (decide (0 <= n))
  (some (decide (n <= 2147483648)))
  (some false)
def Co.j2 (x7_1 : Int) (x27_2 : Bool) : Option (Lp (Int) (Bool)) :=
 cond (x27_2)
  (up (some false))
  (some (.next (W (x7_1 + 1))))
def Co.l1 (l : (List ByteArray)) (x7_1 : Int) : Option (Lp (Int) (Bool)) :=
 cond (decide (x7_1 < (l.length : Int)))
  ((Cc l x7_1).bind fun e =>
  (Br e).bind fun y =>
  cond (!y)
   (Co.j2 x7_1 true)
   (cond (decide (0 < x7_1))
    ((Cc l (W (x7_1 - 1))).bind fun e_2 =>
    Co.j2 x7_1 (!Iz (Hk e_2) (Hk e)))
    (Co.j2 x7_1 false)))
  (up (
   some (decide ((l.length : Int) <= 8))))
def Co (l : (List ByteArray)) : Option (Bool) :=
 Cy (fun q' => Co.l1 l q') 0
def Hv (u : Bk) (kind : Int) : Option (Bool) :=
 (Ek u).bind fun y =>
 cond (y)
  ((F8 u.Alg).bind fun y_2 =>
  some (decide (y_2 = kind)))
  (some false)
def In (n : Int) : Option (Bool) :=
 cond (decide (0 <= n))
  (some (decide (n < 4294967296)))
  (some false)
def Bl.j3 (c : Bc) (x73_3 : Bool) : Option (Bool) :=
 cond (x73_3)
  (some false)
  (cond (decide (0 <= c.Path))
   (cond (decide (c.Path <= 8))
    (cond (c.Authority)
     (some true)
     (some (decide (c.Path = 0))))
    (some false))
   (some false))
def Bl.j2 (c : Bc) (x58_2 : Bool) : Option (Bool) :=
 cond (x58_2)
  (some false)
  (cond (decide (c.From < 0))
   (Bl.j3 c true)
   (cond (decide (c.To < c.From))
    (Bl.j3 c true)
    (Bl.j3 c (decide (40000 < c.To)))))
def Bl.j1 (c : Bc) (x28_1 : Bool) : Option (Bool) :=
 cond (x28_1)
  (some false)
  ((Hv c.Key 2).bind fun y_4 =>
  cond (!y_4)
   (Bl.j2 c true)
   ((E9 c.KeyId).bind fun y_5 =>
   cond (!y_5)
    (Bl.j2 c true)
    ((Hv c.Hash 1).bind fun y_6 =>
    cond (!y_6)
     (Bl.j2 c true)
     ((E9 c.Seal.Key).bind fun y_7 =>
     cond (!y_7)
      (Bl.j2 c true)
      ((In c.Seal.Sum).bind fun y_8 =>
      Bl.j2 c (!y_8))))))
def Bl (c : Bc) : Option (Bool) :=
 cond (decide (c.Serial < 0))
  (Bl.j1 c true)
  (cond (decide (1099511627776 < c.Serial))
   (Bl.j1 c true)
   ((Br c.Issuer).bind fun y =>
   cond (!y)
    (Bl.j1 c true)
    ((Br c.Subject).bind fun y_2 =>
    cond (!y_2)
     (Bl.j1 c true)
     ((Co c.Names).bind fun y_3 =>
     Bl.j1 c (!y_3)))))
def Hz (c : Bc) : Option (Int) :=
 (Bl c).bind fun y =>
 cond (!y)
  (some 9)
  (some 0)
def B5.l2 (key : Bk) (id : Int) (l : (List Bc)) (x30_2 : Int) : Option (Lp (Int) (Bool)) :=
 cond (decide (x30_2 < (l.length : Int)))
  ((Cc l x30_2).bind fun e =>
  (Hz e).bind fun y_4 =>
  cond (!decide (y_4 = 0))
   (up (some false))
   (some (.next (W (x30_2 + 1)))))
  (up (
   cond (decide ((l.length : Int) = 0))
    (some true)
    ((Cc l 0).bind fun e_2 =>
    cond (decide (e_2.Key = key))
     (some (decide (e_2.KeyId = id)))
     (some false))))
def B5.j1 (key : Bk) (id : Int) (l : (List Bc)) (x27_1 : Bool) : Option (Bool) :=
 cond (x27_1)
  (some false)
  (Cy (fun q' => B5.l2 key id l q') 0)
def B5 (key : Bk) (id : Int) (l : (List Bc)) : Option (Bool) :=
 (Ek key).bind fun y =>
 cond (!y)
  (B5.j1 key id l true)
  ((F8 key.Alg).bind fun y_2 =>
  cond (!decide (y_2 = 2))
   (B5.j1 key id l true)
   ((E9 id).bind fun y_3 =>
   cond (!y_3)
    (B5.j1 key id l true)
    (B5.j1 key id l (decide (8 < (l.length : Int))))))
def B0.j2 (x7_1 : Int) (x40_2 : Bool) : Option (Lp (Int) (Int)) :=
 cond (x40_2)
  (up (some 16))
  (some (.next (W (x7_1 + 1))))
def B0.l1 (l : (List Ce)) (x7_1 : Int) : Option (Lp (Int) (Int)) :=
 cond (decide (x7_1 < (l.length : Int)))
  ((Cc l x7_1).bind fun e =>
  (Br e.Alias).bind fun y =>
  cond (!y)
   (B0.j2 x7_1 true)
   (cond (decide (0 < x7_1))
    ((Cc l (W (x7_1 - 1))).bind fun e_2 =>
    cond (!Iz (Hk e_2.Alias) (Hk e.Alias))
     (B0.j2 x7_1 true)
     ((B5 e.Key e.KeyId e.Chain).bind fun y_2 =>
     B0.j2 x7_1 (!y_2)))
    ((B5 e.Key e.KeyId e.Chain).bind fun y_3 =>
    B0.j2 x7_1 (!y_3))))
  (up (
   cond (decide (64 < (l.length : Int)))
    (some 16)
    (some 0)))
def B0 (l : (List Ce)) : Option (Int) :=
 Cy (fun q' => B0.l1 l q') 0
def H9 (p : Dk) (kind : Int) (u : Bk) (number : Int) : Option (Dk) :=
 (N4 1232 p.l ([(Aa.mk p.at_.Source p.at_.Host p.at_.Machine p.at_.Day p.at_.Confidence kind p.at_.Subject u number p.at_.Text)] : List Aa)).bind fun l =>
 some (Dk.mk p.at_ l)
def Bz.j1 (s : (List Aa)) (x4_1 : Bool) : Option ((List Aa)) :=
 cond (x4_1)
  (some ([] : (List Aa)))
  ((N4 1232 ([] : List Aa) s).bind fun l =>
  some l)
def Bz (s : (List Aa)) : Option ((List Aa)) :=
 Wn (s)
  (Bz.j1 s true)
  (Bz.j1 s false)
def Bh.j3 (x_3 : Int) (n_3 : Int) : Option (Int) :=
 (Wq (⟨#[0, 1, 2, 2, 3, 3, 3, 3, 4, 4, 4, 4, 4, 4, 4, 4, 5, 5, 5, 5, 5, 5, 5, 5, 5, 5, 5, 5, 5, 5, 5, 5, 6, 6, 6, 6, 6, 6, 6, 6, 6, 6, 6, 6, 6, 6, 6, 6, 6, 6, 6, 6, 6, 6, 6, 6, 6, 6, 6, 6, 6, 6, 6, 6, 7, 7, 7, 7, 7, 7, 7, 7, 7, 7, 7, 7, 7, 7, 7, 7, 7, 7, 7, 7, 7, 7, 7, 7, 7, 7, 7, 7, 7, 7, 7, 7, 7, 7, 7, 7, 7, 7, 7, 7, 7, 7, 7, 7, 7, 7, 7, 7, 7, 7, 7, 7, 7, 7, 7, 7, 7, 7, 7, 7, 7, 7, 7, 7, 8, 8, 8, 8, 8, 8, 8, 8, 8, 8, 8, 8, 8, 8, 8, 8, 8, 8, 8, 8, 8, 8, 8, 8, 8, 8, 8, 8, 8, 8, 8, 8, 8, 8, 8, 8, 8, 8, 8, 8, 8, 8, 8, 8, 8, 8, 8, 8, 8, 8, 8, 8, 8, 8, 8, 8, 8, 8, 8, 8, 8, 8, 8, 8, 8, 8, 8, 8, 8, 8, 8, 8, 8, 8, 8, 8, 8, 8, 8, 8, 8, 8, 8, 8, 8, 8, 8, 8, 8, 8, 8, 8, 8, 8, 8, 8, 8, 8, 8, 8, 8, 8, 8, 8, 8, 8, 8, 8, 8, 8, 8, 8, 8, 8, 8, 8, 8, 8, 8, 8, 8, 8, 8, 8, 8, 8, 8, 8]⟩ : ByteArray) ((u8 x_3).toNat : Int)).bind fun c =>
 some (W (n_3 + (c.toNat : Int)))
def Bh.j2 (x_2 : Int) (n_2 : Int) : Option (Int) :=
 cond (decide (256 <= x_2))
  ((S0 .u64 x_2 8).bind fun q_3 =>
  Bh.j3 q_3 (W (n_2 + 8)))
  (Bh.j3 x_2 n_2)
def Bh.j1 (x_1 : Int) (n_1 : Int) : Option (Int) :=
 cond (decide (65536 <= x_1))
  ((S0 .u64 x_1 16).bind fun q_2 =>
  Bh.j2 q_2 (W (n_1 + 16)))
  (Bh.j2 x_1 n_1)
def Bh (x' : Int) : Option (Int) :=
 cond (decide (4294967296 <= x'))
  ((S0 .u64 x' 32).bind fun q =>
  Bh.j1 q 32)
  (Bh.j1 x' 0)
def Fb (x' : Int) : Option (Int) :=
 (Bh x').bind fun y =>
 some y
def F2 (c0 : Aa) (c1 : Aa) : Option ((Aa × Aa)) :=
 some (c0, c1)
def Fs (c0 : Aa) (c1 : Aa) : Option ((Aa × Aa)) :=
 some (c0, c1)
def F1 (c0 : Aa) (c1 : Aa) : Option ((Aa × Aa)) :=
 some (c0, c1)
def F0 (c0 : Aa) (c1 : Aa) : Option ((Aa × Aa)) :=
 some (c0, c1)
def Fu (c0 : Aa) (c1 : Aa) : Option ((Aa × Aa)) :=
 some (c0, c1)
def Fx (c0 : Aa) (c1 : Aa) : Option ((Aa × Aa)) :=
 some (c0, c1)
def Fq (c0 : Aa) (c1 : Aa) : Option ((Aa × Aa)) :=
 some (c0, c1)
def Fv (c0 : Aa) (c1 : Aa) : Option ((Aa × Aa)) :=
 some (c0, c1)
def Ft (c0 : Aa) (c1 : Aa) : Option ((Aa × Aa)) :=
 some (c0, c1)
def Fw (c0 : Aa) (c1 : Aa) : Option ((Aa × Aa)) :=
 some (c0, c1)
def Fr (c0 : Aa) (c1 : Aa) : Option ((Aa × Aa)) :=
 some (c0, c1)
def F7 (f : Aa) : Option (ByteArray) :=
 some f.Host
def Dy (a : ByteArray) (b : ByteArray) : Option (Int) :=
 some (Y7 a b)
def Ei (a : ByteArray) (b : ByteArray) : Option (Int) :=
 (Dy a b).bind fun y =>
 some y
def Ez (c1 : Aa) (c2 : Aa) : Option (Int) :=
 (F7 c1).bind fun y =>
 (F7 c2).bind fun y_2 =>
 (Ei y y_2).bind fun y_3 =>
 some y_3
def F9 (f : Aa) : Option (Int) :=
 some f.Machine
def Hb (x' : Int) : Option (Bool) :=
 some (!decide (x' = x'))
def De (x' : Int) (y : Int) : Option (Int) :=
 (Hb x').bind fun y_2 =>
 (Hb y).bind fun y_3 =>
 cond (y_2)
  (cond (y_3)
   (some 0)
   (some (-1)))
  (cond (y_3)
   (some 1)
   (cond (decide (x' < y))
    (some (-1))
    (cond (decide (y < x'))
     (some 1)
     (some 0))))
def Ev (c1 : Aa) (c2 : Aa) : Option (Int) :=
 (F9 c1).bind fun y =>
 (F9 c2).bind fun y_2 =>
 (De y y_2).bind fun y_3 =>
 some y_3
def Ga (f : Aa) : Option (Int) :=
 some f.Day
def Er (c1 : Aa) (c2 : Aa) : Option (Int) :=
 (Ga c1).bind fun y =>
 (Ga c2).bind fun y_2 =>
 (De y y_2).bind fun y_3 =>
 some y_3
def F5 (f : Aa) : Option (ByteArray) :=
 some f.Subject
def Eu (c1 : Aa) (c2 : Aa) : Option (Int) :=
 (F5 c1).bind fun y =>
 (F5 c2).bind fun y_2 =>
 (Ei y y_2).bind fun y_3 =>
 some y_3
def Gf (f : Aa) : Option (Int) :=
 some f.Kind
def Ex (c1 : Aa) (c2 : Aa) : Option (Int) :=
 (Gf c1).bind fun y =>
 (Gf c2).bind fun y_2 =>
 (De y y_2).bind fun y_3 =>
 some y_3
def Gg (f : Aa) : Option (Int) :=
 some f.Use.Alg
def Eo (c1 : Aa) (c2 : Aa) : Option (Int) :=
 (Gg c1).bind fun y =>
 (Gg c2).bind fun y_2 =>
 (De y y_2).bind fun y_3 =>
 some y_3
def Ge (f : Aa) : Option (Int) :=
 some f.Use.Bits
def Et (c1 : Aa) (c2 : Aa) : Option (Int) :=
 (Ge c1).bind fun y =>
 (Ge c2).bind fun y_2 =>
 (De y y_2).bind fun y_3 =>
 some y_3
def Fm (f : Aa) : Option (Int) :=
 some f.Number
def Ew (c1 : Aa) (c2 : Aa) : Option (Int) :=
 (Fm c1).bind fun y =>
 (Fm c2).bind fun y_2 =>
 (De y y_2).bind fun y_3 =>
 some y_3
def Fi (f : Aa) : Option (ByteArray) :=
 some f.Text
def En (c1 : Aa) (c2 : Aa) : Option (Int) :=
 (Fi c1).bind fun y =>
 (Fi c2).bind fun y_2 =>
 (Ei y y_2).bind fun y_3 =>
 some y_3
def Fo (f : Aa) : Option (Int) :=
 some f.Source
def Es (c1 : Aa) (c2 : Aa) : Option (Int) :=
 (Fo c1).bind fun y =>
 (Fo c2).bind fun y_2 =>
 (De y y_2).bind fun y_3 =>
 some y_3
def Fl (f : Aa) : Option (Int) :=
 some f.Confidence
def Ey (c1 : Aa) (c2 : Aa) : Option (Int) :=
 (Fl c1).bind fun y =>
 (Fl c2).bind fun y_2 =>
 (De y y_2).bind fun y_3 =>
 some y_3
def Df (a : Aa) (b : Aa) : Option (Int) :=
 (F2 a b).bind fun y =>
 (Fs a b).bind fun y_2 =>
 (F1 a b).bind fun y_3 =>
 (F0 a b).bind fun y_4 =>
 (Fu a b).bind fun y_5 =>
 (Fx a b).bind fun y_6 =>
 (Fq a b).bind fun y_7 =>
 (Fv a b).bind fun y_8 =>
 (Ft a b).bind fun y_9 =>
 (Fw a b).bind fun y_10 =>
 (Fr a b).bind fun y_11 =>
 (Ez y.1 y.2).bind fun y_12 =>
 cond (!decide (y_12 = 0))
  (some y_12)
  ((Ev y_2.1 y_2.2).bind fun y_13 =>
  cond (!decide (y_13 = 0))
   (some y_13)
   ((Er y_3.1 y_3.2).bind fun y_14 =>
   cond (!decide (y_14 = 0))
    (some y_14)
    ((Eu y_4.1 y_4.2).bind fun y_15 =>
    cond (!decide (y_15 = 0))
     (some y_15)
     ((Ex y_5.1 y_5.2).bind fun y_16 =>
     cond (!decide (y_16 = 0))
      (some y_16)
      ((Eo y_6.1 y_6.2).bind fun y_17 =>
      cond (!decide (y_17 = 0))
       (some y_17)
       ((Et y_7.1 y_7.2).bind fun y_18 =>
       cond (!decide (y_18 = 0))
        (some y_18)
        ((Ew y_8.1 y_8.2).bind fun y_19 =>
        cond (!decide (y_19 = 0))
         (some y_19)
         ((En y_9.1 y_9.2).bind fun y_20 =>
         cond (!decide (y_20 = 0))
          (some y_20)
          ((Es y_10.1 y_10.2).bind fun y_21 =>
          cond (!decide (y_21 = 0))
           (some y_21)
           ((Ey y_11.1 y_11.2).bind fun y_22 =>
           cond (!decide (y_22 = 0))
            (some y_22)
            (some 0)))))))))))
def Am.j3 (i_1 : Int) (j_2 : Int) (data_2 : List Aa) (x34_3 : Bool) : Option (Lp (Int × List Aa) (Lp (Int × List Aa) ((List Aa)))) :=
 cond (x34_3)
  ((Cc data_2 (W (j_2 - 1))).bind fun e_3 =>
  (Cc data_2 j_2).bind fun e_4 =>
  (Cc (Cq data_2 ((j_2).toNat) e_3) (W (j_2 - 1))).bind fun e_5 =>
  some (.next (W (j_2 - 1), Cq (Cq data_2 ((j_2).toNat) e_3) ((W (j_2 - 1)).toNat) e_4)))
  (up (
   some (.next (W (i_1 + 1), data_2))))
def Am.l2 (a : Int) (cmp : Aa -> Aa -> Option (Int)) (i_1 : Int) (j_2 : Int) (data_2 : List Aa) : Option (Lp (Int × List Aa) (Lp (Int × List Aa) ((List Aa)))) :=
 cond (decide (a < j_2))
  ((Cc data_2 j_2).bind fun e =>
  (Cc data_2 (W (j_2 - 1))).bind fun e_2 =>
  (cmp e e_2).bind fun y =>
  Am.j3 i_1 j_2 data_2 (decide (y < 0)))
  (Am.j3 i_1 j_2 data_2 false)
def Am.l1 (a : Int) (b : Int) (cmp : Aa -> Aa -> Option (Int)) (i_1 : Int) (data_1 : List Aa) : Option (Lp (Int × List Aa) ((List Aa))) :=
 cond (decide (i_1 < b))
  (Cy (fun q' => Am.l2 a cmp i_1 q'.1 q'.2) (i_1, data_1))
  (up (some data_1))
def Am (data : List Aa) (a : Int) (b : Int) (cmp : Aa -> Aa -> Option (Int)) : Option ((List Aa)) :=
 Cy (fun q' => Am.l1 a b cmp q'.1 q'.2) (W (a + 1), data)
def An.j3 (first : Int) (cmp : Aa -> Aa -> Option (Int)) (root_1 : Int) (data_1 : List Aa) (child_3 : Int) : Option (Lp (Int × List Aa) ((List Aa))) :=
 (Cc data_1 (W (first + root_1))).bind fun e_3 =>
 (Cc data_1 (W (first + child_3))).bind fun e_4 =>
 (cmp e_3 e_4).bind fun y_2 =>
 cond (!(decide (y_2 < 0)))
  (up (some data_1))
  ((Cc (Cq data_1 ((W (first + root_1)).toNat) e_4) (W (first + child_3))).bind fun e_5 =>
  some (.next (child_3, Cq (Cq data_1 ((W (first + root_1)).toNat) e_4) ((W (first + child_3)).toNat) e_3)))
def An.j2 (first : Int) (cmp : Aa -> Aa -> Option (Int)) (root_1 : Int) (data_1 : List Aa) (x40_2 : Bool) : Option (Lp (Int × List Aa) ((List Aa))) :=
 cond (x40_2)
  (An.j3 first cmp root_1 data_1 (W ((W ((W (2 * root_1)) + 1)) + 1)))
  (An.j3 first cmp root_1 data_1 (W ((W (2 * root_1)) + 1)))
def An.l1 (hi : Int) (first : Int) (cmp : Aa -> Aa -> Option (Int)) (root_1 : Int) (data_1 : List Aa) : Option (Lp (Int × List Aa) ((List Aa))) :=
 cond (decide (hi <= (W ((W (2 * root_1)) + 1))))
  (up (some data_1))
  (cond (decide ((W ((W ((W (2 * root_1)) + 1)) + 1)) < hi))
   ((Cc data_1 (W (first + (W ((W (2 * root_1)) + 1))))).bind fun e =>
   (Cc data_1 (W ((W (first + (W ((W (2 * root_1)) + 1)))) + 1))).bind fun e_2 =>
   (cmp e e_2).bind fun y =>
   An.j2 first cmp root_1 data_1 (decide (y < 0)))
   (An.j2 first cmp root_1 data_1 false))
def An (data : List Aa) (lo : Int) (hi : Int) (first : Int) (cmp : Aa -> Aa -> Option (Int)) : Option ((List Aa)) :=
 Cy (fun q' => An.l1 hi first cmp q'.1 q'.2) (lo, data)
def Aw.l2 (a : Int) (cmp : Aa -> Aa -> Option (Int)) (i_2 : Int) (data_2 : List Aa) : Option (Lp (Int × List Aa) ((List Aa))) :=
 cond (decide (0 <= i_2))
  ((Cc data_2 (W (a + i_2))).bind fun e =>
  (Cc data_2 a).bind fun e_2 =>
  (Cc (Cq data_2 ((a).toNat) e) (W (a + i_2))).bind fun e_3 =>
  (An (Cq (Cq data_2 ((a).toNat) e) ((W (a + i_2)).toNat) e_2) 0 i_2 a cmp).bind fun y_2 =>
  some (.next (W (i_2 - 1), y_2)))
  (up (some data_2))
def Aw.l1 (a : Int) (b : Int) (cmp : Aa -> Aa -> Option (Int)) (i_1 : Int) (data_1 : List Aa) : Option (Lp (Int × List Aa) ((List Aa))) :=
 cond (decide (0 <= i_1))
  ((An data_1 i_1 (W (b - a)) a cmp).bind fun y =>
  some (.next (W (i_1 - 1), y)))
  (up (
   Cy (fun q' => Aw.l2 a cmp q'.1 q'.2) (W ((W (b - a)) - 1), data_1)))
def Aw (data : List Aa) (a : Int) (b : Int) (cmp : Aa -> Aa -> Option (Int)) : Option ((List Aa)) :=
 (Md (W ((W (b - a)) - 1)) 2).bind fun q =>
 Cy (fun q' => Aw.l1 a b cmp q'.1 q'.2) (q, data)
def Ef (length : Int) : Option (Int) :=
 (Fb (IntKind.wrap .u64 length)).bind fun y =>
 (Ug .u64 1 y).bind fun q =>
 some q
def Ej (r' : Int) : Option (Int × Int) :=
 (Ug .u64 r' 13).bind fun q =>
 (S0 .u64 (Qa .u64 r' q) 7).bind fun q_2 =>
 (Ug .u64 (Qa .u64 (Qa .u64 r' q) q_2) 17).bind fun q_3 =>
 some (Qa .u64 (Qa .u64 (Qa .u64 r' q) q_2) q_3, Qa .u64 (Qa .u64 (Qa .u64 r' q) q_2) q_3)
def Av.j2 (a : Int) (idx_1 : Int) (data_1 : List Aa) (y_2 : Int × Int) (other_2 : Int) : Option (Lp (Int × List Aa × Int) ((List Aa))) :=
 (Cc data_1 (W (a + other_2))).bind fun e =>
 (Cc data_1 idx_1).bind fun e_2 =>
 (Cc (Cq data_1 ((idx_1).toNat) e) (W (a + other_2))).bind fun e_3 =>
 some (.next (W (idx_1 + 1), Cq (Cq data_1 ((idx_1).toNat) e) ((W (a + other_2)).toNat) e_2, y_2.2))
def Av.l1 (a : Int) (b : Int) (y : Int) (idx_1 : Int) (data_1 : List Aa) (random_1 : Int) : Option (Lp (Int × List Aa × Int) ((List Aa))) :=
 (Md (W (b - a)) 4).bind fun q_2 =>
 cond (decide (idx_1 <= (W ((W (a + (W (q_2 * 2)))) + 1))))
  ((Ej random_1).bind fun y_2 =>
  cond (decide ((W (b - a)) <= (W (Wa .u64 y_2.1 (IntKind.wrap .u64 (y - 1))))))
   (Av.j2 a idx_1 data_1 y_2 (W ((W (Wa .u64 y_2.1 (IntKind.wrap .u64 (y - 1)))) - (W (b - a)))))
   (Av.j2 a idx_1 data_1 y_2 (W (Wa .u64 y_2.1 (IntKind.wrap .u64 (y - 1))))))
  (up (some data_1))
def Av (data : List Aa) (a : Int) (b : Int) (cmp : Aa -> Aa -> Option (Int)) : Option ((List Aa)) :=
 cond (decide (8 <= (W (b - a))))
  ((Ef (W (b - a))).bind fun y =>
  (Md (W (b - a)) 4).bind fun q =>
  Cy (fun q' => Av.l1 a b y q'.1 q'.2.1 q'.2.2) (W ((W (a + (W (q * 2)))) - 1), data, IntKind.wrap .u64 (W (b - a))))
  (some data)
def Cn (data : (List Aa)) (a : Int) (b : Int) (swaps : Int) (cmp : Aa -> Aa -> Option (Int)) : Option (Int × Int × Int) :=
 (Cc data b).bind fun e =>
 (Cc data a).bind fun e_2 =>
 (cmp e e_2).bind fun y =>
 cond (decide (y < 0))
  (some (b, a, W (swaps + 1)))
  (some (a, b, swaps))
def C0 (data : (List Aa)) (a : Int) (b : Int) (c : Int) (swaps : Int) (cmp : Aa -> Aa -> Option (Int)) : Option (Int × Int) :=
 (Cn data a b swaps cmp).bind fun y =>
 (Cn data y.2.1 c y.2.2 cmp).bind fun y_2 =>
 (Cn data y.1 y_2.1 y_2.2.2 cmp).bind fun y_3 =>
 some (y_3.2.1, y_3.2.2)
def B2 (data : (List Aa)) (a : Int) (swaps : Int) (cmp : Aa -> Aa -> Option (Int)) : Option (Int × Int) :=
 (C0 data (W (a - 1)) a (W (a + 1)) swaps cmp).bind fun y =>
 some (y.1, y.2)
def A1.j2 (j_2 : Int) (swaps_2 : Int) : Option (Int × Int) :=
 cond (decide (swaps_2 = 0))
  (some (j_2, 1))
  (cond (decide (swaps_2 = 12))
   (some (j_2, 2))
   (some (j_2, 0)))
def A1.j1 (data : (List Aa)) (cmp : Aa -> Aa -> Option (Int)) (i_1 : Int) (j_1 : Int) (k_1 : Int) (swaps_1 : Int) : Option (Int × Int) :=
 (C0 data i_1 j_1 k_1 swaps_1 cmp).bind fun y_4 =>
 A1.j2 y_4.1 y_4.2
def A1 (data : (List Aa)) (a : Int) (b : Int) (cmp : Aa -> Aa -> Option (Int)) : Option (Int × Int) :=
 (Md (W (b - a)) 4).bind fun q =>
 (Md (W (b - a)) 4).bind fun q_2 =>
 (Md (W (b - a)) 4).bind fun q_3 =>
 cond (decide (8 <= (W (b - a))))
  (cond (decide (50 <= (W (b - a))))
   ((B2 data (W (a + (W (q * 1)))) 0 cmp).bind fun y =>
   (B2 data (W (a + (W (q_2 * 2)))) y.2 cmp).bind fun y_2 =>
   (B2 data (W (a + (W (q_3 * 3)))) y_2.2 cmp).bind fun y_3 =>
   A1.j1 data cmp y.1 y_2.1 y_3.1 y_3.2)
   (A1.j1 data cmp (W (a + (W (q * 1)))) (W (a + (W (q_2 * 2)))) (W (a + (W (q_3 * 3)))) 0))
  (A1.j2 (W (a + (W (q_2 * 2)))) 0)
def A9.l1 (i_1 : Int) (j_1 : Int) (data_1 : List Aa) : Option (Lp (Int × Int × List Aa) ((List Aa))) :=
 cond (decide (i_1 < j_1))
  ((Cc data_1 j_1).bind fun e =>
  (Cc data_1 i_1).bind fun e_2 =>
  (Cc (Cq data_1 ((i_1).toNat) e) j_1).bind fun e_3 =>
  some (.next (W (i_1 + 1), W (j_1 - 1), Cq (Cq data_1 ((i_1).toNat) e) ((j_1).toNat) e_2)))
  (up (some data_1))
def A9 (data : List Aa) (a : Int) (b : Int) (cmp : Aa -> Aa -> Option (Int)) : Option ((List Aa)) :=
 Cy (fun q' => A9.l1 q'.1 q'.2.1 q'.2.2) (a, W (b - 1), data)
def Ab.j7 (j_1 : Int) (i_7 : Int) (data_7 : List Aa) : Option (Lp (Int × Int × List Aa) (Bool × (List Aa))) :=
 some (.next (i_7, W (j_1 + 1), data_7))
def Ab.l6 (b : Int) (cmp : Aa -> Aa -> Option (Int)) (j_1 : Int) (i_2 : Int) (j_6 : Int) (data_6 : List Aa) : Option (Lp (Int × List Aa) (Lp (Int × Int × List Aa) (Bool × (List Aa)))) :=
 cond (decide (j_6 < b))
  ((Cc data_6 j_6).bind fun e_9 =>
  (Cc data_6 (W (j_6 - 1))).bind fun e_10 =>
  (cmp e_9 e_10).bind fun y_3 =>
  cond (!(decide (y_3 < 0)))
   (up (
    Ab.j7 j_1 i_2 data_6))
   ((Cc (Cq data_6 ((j_6).toNat) e_10) (W (j_6 - 1))).bind fun e_11 =>
   some (.next (W (j_6 + 1), Cq (Cq data_6 ((j_6).toNat) e_10) ((W (j_6 - 1)).toNat) e_9))))
  (up (
   Ab.j7 j_1 i_2 data_6))
def Ab.j5 (b : Int) (cmp : Aa -> Aa -> Option (Int)) (j_1 : Int) (i_2 : Int) (data_5 : List Aa) : Option (Lp (Int × Int × List Aa) (Bool × (List Aa))) :=
 cond (decide (2 <= (W (b - i_2))))
  (Cy (fun q' => Ab.l6 b cmp j_1 i_2 q'.1 q'.2) (W (i_2 + 1), data_5))
  (Ab.j7 j_1 i_2 data_5)
def Ab.l4 (b : Int) (cmp : Aa -> Aa -> Option (Int)) (j_1 : Int) (i_2 : Int) (j_4 : Int) (data_4 : List Aa) : Option (Lp (Int × List Aa) (Lp (Int × Int × List Aa) (Bool × (List Aa)))) :=
 cond (decide (1 <= j_4))
  ((Cc data_4 j_4).bind fun e_6 =>
  (Cc data_4 (W (j_4 - 1))).bind fun e_7 =>
  (cmp e_6 e_7).bind fun y_2 =>
  cond (!(decide (y_2 < 0)))
   (up (
    Ab.j5 b cmp j_1 i_2 data_4))
   ((Cc (Cq data_4 ((j_4).toNat) e_7) (W (j_4 - 1))).bind fun e_8 =>
   some (.next (W (j_4 - 1), Cq (Cq data_4 ((j_4).toNat) e_7) ((W (j_4 - 1)).toNat) e_6))))
  (up (
   Ab.j5 b cmp j_1 i_2 data_4))
def Ab.j3 (a : Int) (b : Int) (cmp : Aa -> Aa -> Option (Int)) (j_1 : Int) (data_1 : List Aa) (i_2 : Int) (x36_3 : Bool) : Option (Lp (Int) (Lp (Int × Int × List Aa) (Bool × (List Aa)))) :=
 cond (x36_3)
  (some (.next (W (i_2 + 1))))
  (up (
   cond (decide (i_2 = b))
    (up (some (true, data_1)))
    (cond (decide ((W (b - a)) < 50))
     (up (some (false, data_1)))
     ((Cc data_1 (W (i_2 - 1))).bind fun e_3 =>
     (Cc data_1 i_2).bind fun e_4 =>
     (Cc (Cq data_1 ((i_2).toNat) e_3) (W (i_2 - 1))).bind fun e_5 =>
     cond (decide (2 <= (W (i_2 - a))))
      (Cy (fun q' => Ab.l4 b cmp j_1 i_2 q'.1 q'.2) (W (i_2 - 1), Cq (Cq data_1 ((i_2).toNat) e_3) ((W (i_2 - 1)).toNat) e_4))
      (Ab.j5 b cmp j_1 i_2 (Cq (Cq data_1 ((i_2).toNat) e_3) ((W (i_2 - 1)).toNat) e_4))))))
def Ab.l2 (a : Int) (b : Int) (cmp : Aa -> Aa -> Option (Int)) (j_1 : Int) (data_1 : List Aa) (i_2 : Int) : Option (Lp (Int) (Lp (Int × Int × List Aa) (Bool × (List Aa)))) :=
 cond (decide (i_2 < b))
  ((Cc data_1 i_2).bind fun e =>
  (Cc data_1 (W (i_2 - 1))).bind fun e_2 =>
  (cmp e e_2).bind fun y =>
  Ab.j3 a b cmp j_1 data_1 i_2 (!(decide (y < 0))))
  (Ab.j3 a b cmp j_1 data_1 i_2 false)
def Ab.l1 (a : Int) (b : Int) (cmp : Aa -> Aa -> Option (Int)) (i_1 : Int) (j_1 : Int) (data_1 : List Aa) : Option (Lp (Int × Int × List Aa) (Bool × (List Aa))) :=
 cond (decide (j_1 < 5))
  (Cy (fun q' => Ab.l2 a b cmp j_1 data_1 q') i_1)
  (up (
   some (false, data_1)))
def Ab (data : List Aa) (a : Int) (b : Int) (cmp : Aa -> Aa -> Option (Int)) : Option (Bool × (List Aa)) :=
 Cy (fun q' => Ab.l1 a b cmp q'.1 q'.2.1 q'.2.2) (W (a + 1), 0, data)
def Ak.j5 (data_1 : List Aa) (i_2 : Int) (j_4 : Int) (x65_5 : Bool) : Option (Lp (Int) (Lp (Int × Int × List Aa) (Int × (List Aa)))) :=
 cond (x65_5)
  (some (.next (W (j_4 - 1))))
  (up (
   cond (decide (j_4 < i_2))
    (up (
     some (i_2, data_1)))
    ((Cc data_1 j_4).bind fun e_8 =>
    (Cc data_1 i_2).bind fun e_9 =>
    (Cc (Cq data_1 ((i_2).toNat) e_8) j_4).bind fun e_10 =>
    some (.next (W (i_2 + 1), W (j_4 - 1), Cq (Cq data_1 ((i_2).toNat) e_8) ((j_4).toNat) e_9)))))
def Ak.l4 (a : Int) (cmp : Aa -> Aa -> Option (Int)) (data_1 : List Aa) (i_2 : Int) (j_4 : Int) : Option (Lp (Int) (Lp (Int × Int × List Aa) (Int × (List Aa)))) :=
 cond (decide (i_2 <= j_4))
  ((Cc data_1 a).bind fun e_6 =>
  (Cc data_1 j_4).bind fun e_7 =>
  (cmp e_6 e_7).bind fun y_2 =>
  Ak.j5 data_1 i_2 j_4 (decide (y_2 < 0)))
  (Ak.j5 data_1 i_2 j_4 false)
def Ak.j3 (a : Int) (cmp : Aa -> Aa -> Option (Int)) (j_1 : Int) (data_1 : List Aa) (i_2 : Int) (x47_3 : Bool) : Option (Lp (Int) (Lp (Int × Int × List Aa) (Int × (List Aa)))) :=
 cond (x47_3)
  (some (.next (W (i_2 + 1))))
  (up (
   Cy (fun q' => Ak.l4 a cmp data_1 i_2 q') j_1))
def Ak.l2 (a : Int) (cmp : Aa -> Aa -> Option (Int)) (j_1 : Int) (data_1 : List Aa) (i_2 : Int) : Option (Lp (Int) (Lp (Int × Int × List Aa) (Int × (List Aa)))) :=
 cond (decide (i_2 <= j_1))
  ((Cc data_1 a).bind fun e_4 =>
  (Cc data_1 i_2).bind fun e_5 =>
  (cmp e_4 e_5).bind fun y =>
  Ak.j3 a cmp j_1 data_1 i_2 (!(decide (y < 0))))
  (Ak.j3 a cmp j_1 data_1 i_2 false)
def Ak.l1 (a : Int) (cmp : Aa -> Aa -> Option (Int)) (i_1 : Int) (j_1 : Int) (data_1 : List Aa) : Option (Lp (Int × Int × List Aa) (Int × (List Aa))) :=
 Cy (fun q' => Ak.l2 a cmp j_1 data_1 q') i_1
def Ak (data : List Aa) (a : Int) (b : Int) (pivot : Int) (cmp : Aa -> Aa -> Option (Int)) : Option (Int × (List Aa)) :=
 (Cc data pivot).bind fun e =>
 (Cc data a).bind fun e_2 =>
 (Cc (Cq data ((a).toNat) e) pivot).bind fun e_3 =>
 Cy (fun q' => Ak.l1 a cmp q'.1 q'.2.1 q'.2.2) (W (a + 1), W (b - 1), Cq (Cq data ((a).toNat) e) ((pivot).toNat) e_2)
def Ae.j9 (a : Int) (data_5 : List Aa) (i_6 : Int) (j_8 : Int) (x139_9 : Bool) : Option (Lp (Int) (Lp (Int × Int × List Aa) (Int × Bool × (List Aa)))) :=
 cond (x139_9)
  (some (.next (W (j_8 - 1))))
  (up (
   cond (decide (j_8 < i_6))
    (up (
     (Cc data_5 a).bind fun e_21 =>
     (Cc data_5 j_8).bind fun e_22 =>
     (Cc (Cq data_5 ((j_8).toNat) e_21) a).bind fun e_23 =>
     some (j_8, false, Cq (Cq data_5 ((j_8).toNat) e_21) ((a).toNat) e_22)))
    ((Cc data_5 j_8).bind fun e_18 =>
    (Cc data_5 i_6).bind fun e_19 =>
    (Cc (Cq data_5 ((i_6).toNat) e_18) j_8).bind fun e_20 =>
    some (.next (W (i_6 + 1), W (j_8 - 1), Cq (Cq data_5 ((i_6).toNat) e_18) ((j_8).toNat) e_19)))))
def Ae.l8 (a : Int) (cmp : Aa -> Aa -> Option (Int)) (data_5 : List Aa) (i_6 : Int) (j_8 : Int) : Option (Lp (Int) (Lp (Int × Int × List Aa) (Int × Bool × (List Aa)))) :=
 cond (decide (i_6 <= j_8))
  ((Cc data_5 j_8).bind fun e_16 =>
  (Cc data_5 a).bind fun e_17 =>
  (cmp e_16 e_17).bind fun y_4 =>
  Ae.j9 a data_5 i_6 j_8 (!(decide (y_4 < 0))))
  (Ae.j9 a data_5 i_6 j_8 false)
def Ae.j7 (a : Int) (cmp : Aa -> Aa -> Option (Int)) (j_5 : Int) (data_5 : List Aa) (i_6 : Int) (x120_7 : Bool) : Option (Lp (Int) (Lp (Int × Int × List Aa) (Int × Bool × (List Aa)))) :=
 cond (x120_7)
  (some (.next (W (i_6 + 1))))
  (up (
   Cy (fun q' => Ae.l8 a cmp data_5 i_6 q') j_5))
def Ae.l6 (a : Int) (cmp : Aa -> Aa -> Option (Int)) (j_5 : Int) (data_5 : List Aa) (i_6 : Int) : Option (Lp (Int) (Lp (Int × Int × List Aa) (Int × Bool × (List Aa)))) :=
 cond (decide (i_6 <= j_5))
  ((Cc data_5 i_6).bind fun e_14 =>
  (Cc data_5 a).bind fun e_15 =>
  (cmp e_14 e_15).bind fun y_3 =>
  Ae.j7 a cmp j_5 data_5 i_6 (decide (y_3 < 0)))
  (Ae.j7 a cmp j_5 data_5 i_6 false)
def Ae.l5 (a : Int) (cmp : Aa -> Aa -> Option (Int)) (i_5 : Int) (j_5 : Int) (data_5 : List Aa) : Option (Lp (Int × Int × List Aa) (Int × Bool × (List Aa))) :=
 Cy (fun q' => Ae.l6 a cmp j_5 data_5 q') i_5
def Ae.j4 (data : List Aa) (a : Int) (pivot : Int) (cmp : Aa -> Aa -> Option (Int)) (e : Aa) (e_2 : Aa) (i_1 : Int) (j_3 : Int) (x66_4 : Bool) : Option (Lp (Int) (Int × Bool × (List Aa))) :=
 cond (x66_4)
  (some (.next (W (j_3 - 1))))
  (up (
   cond (decide (j_3 < i_1))
    ((Cc (Cq (Cq data ((a).toNat) e) ((pivot).toNat) e_2) a).bind fun e_8 =>
    (Cc (Cq (Cq data ((a).toNat) e) ((pivot).toNat) e_2) j_3).bind fun e_9 =>
    (Cc (Cq (Cq (Cq data ((a).toNat) e) ((pivot).toNat) e_2) ((j_3).toNat) e_8) a).bind fun e_10 =>
    some (j_3, true, Cq (Cq (Cq (Cq data ((a).toNat) e) ((pivot).toNat) e_2) ((j_3).toNat) e_8) ((a).toNat) e_9))
    ((Cc (Cq (Cq data ((a).toNat) e) ((pivot).toNat) e_2) j_3).bind fun e_11 =>
    (Cc (Cq (Cq data ((a).toNat) e) ((pivot).toNat) e_2) i_1).bind fun e_12 =>
    (Cc (Cq (Cq (Cq data ((a).toNat) e) ((pivot).toNat) e_2) ((i_1).toNat) e_11) j_3).bind fun e_13 =>
    Cy (fun q' => Ae.l5 a cmp q'.1 q'.2.1 q'.2.2) (W (i_1 + 1), W (j_3 - 1), Cq (Cq (Cq (Cq data ((a).toNat) e) ((pivot).toNat) e_2) ((i_1).toNat) e_11) ((j_3).toNat) e_12))))
def Ae.l3 (data : List Aa) (a : Int) (pivot : Int) (cmp : Aa -> Aa -> Option (Int)) (e : Aa) (e_2 : Aa) (i_1 : Int) (j_3 : Int) : Option (Lp (Int) (Int × Bool × (List Aa))) :=
 cond (decide (i_1 <= j_3))
  ((Cc (Cq (Cq data ((a).toNat) e) ((pivot).toNat) e_2) j_3).bind fun e_6 =>
  (Cc (Cq (Cq data ((a).toNat) e) ((pivot).toNat) e_2) a).bind fun e_7 =>
  (cmp e_6 e_7).bind fun y_2 =>
  Ae.j4 data a pivot cmp e e_2 i_1 j_3 (!(decide (y_2 < 0))))
  (Ae.j4 data a pivot cmp e e_2 i_1 j_3 false)
def Ae.j2 (data : List Aa) (a : Int) (b : Int) (pivot : Int) (cmp : Aa -> Aa -> Option (Int)) (e : Aa) (e_2 : Aa) (i_1 : Int) (x47_2 : Bool) : Option (Lp (Int) (Int × Bool × (List Aa))) :=
 cond (x47_2)
  (some (.next (W (i_1 + 1))))
  (up (
   Cy (fun q' => Ae.l3 data a pivot cmp e e_2 i_1 q') (W (b - 1))))
def Ae.l1 (data : List Aa) (a : Int) (b : Int) (pivot : Int) (cmp : Aa -> Aa -> Option (Int)) (e : Aa) (e_2 : Aa) (i_1 : Int) : Option (Lp (Int) (Int × Bool × (List Aa))) :=
 cond (decide (i_1 <= (W (b - 1))))
  ((Cc (Cq (Cq data ((a).toNat) e) ((pivot).toNat) e_2) i_1).bind fun e_4 =>
  (Cc (Cq (Cq data ((a).toNat) e) ((pivot).toNat) e_2) a).bind fun e_5 =>
  (cmp e_4 e_5).bind fun y =>
  Ae.j2 data a b pivot cmp e e_2 i_1 (decide (y < 0)))
  (Ae.j2 data a b pivot cmp e e_2 i_1 false)
def Ae (data : List Aa) (a : Int) (b : Int) (pivot : Int) (cmp : Aa -> Aa -> Option (Int)) : Option (Int × Bool × (List Aa)) :=
 (Cc data pivot).bind fun e =>
 (Cc data a).bind fun e_2 =>
 (Cc (Cq data ((a).toNat) e) pivot).bind fun e_3 =>
 Cy (fun q' => Ae.l1 data a b pivot cmp e e_2 q') (W (a + 1))
def Af.j6 (rec : (List Aa) -> Int -> Int -> Int -> Option ((List Aa))) (cmp : Aa -> Aa -> Option (Int)) (a_1 : Int) (b_1 : Int) (wasBalanced_1 : Bool) (wasPartitioned_1 : Bool) (limit_2 : Int) (pivot_3 : Int) (data_5 : List Aa) (x97_6 : Bool) : Option (Lp (Int × Int × Int × Bool × Bool × List Aa) ((List Aa))) :=
 cond (x97_6)
  ((Ak data_5 a_1 b_1 pivot_3 cmp).bind fun y_8 =>
  some (.next (y_8.1, b_1, limit_2, wasBalanced_1, wasPartitioned_1, y_8.2)))
  ((Ae data_5 a_1 b_1 pivot_3 cmp).bind fun y_9 =>
  (Md (W (b_1 - a_1)) 8).bind fun q =>
  cond (decide ((W (y_9.1 - a_1)) < (W (b_1 - y_9.1))))
   ((rec y_9.2.2 a_1 y_9.1 limit_2).bind fun y_10 =>
   some (.next (W (y_9.1 + 1), b_1, limit_2, decide (q <= (W (y_9.1 - a_1))), y_9.2.1, y_10)))
   ((rec y_9.2.2 (W (y_9.1 + 1)) b_1 limit_2).bind fun y_11 =>
   some (.next (a_1, y_9.1, limit_2, decide (q <= (W (b_1 - y_9.1))), y_9.2.1, y_11))))
def Af.j5 (rec : (List Aa) -> Int -> Int -> Int -> Option ((List Aa))) (cmp : Aa -> Aa -> Option (Int)) (a_1 : Int) (b_1 : Int) (wasBalanced_1 : Bool) (wasPartitioned_1 : Bool) (limit_2 : Int) (pivot_3 : Int) (data_5 : List Aa) : Option (Lp (Int × Int × Int × Bool × Bool × List Aa) ((List Aa))) :=
 cond (decide (0 < a_1))
  ((Cc data_5 (W (a_1 - 1))).bind fun e =>
  (Cc data_5 pivot_3).bind fun e_2 =>
  (cmp e e_2).bind fun y_7 =>
  Af.j6 rec cmp a_1 b_1 wasBalanced_1 wasPartitioned_1 limit_2 pivot_3 data_5 (!(decide (y_7 < 0))))
  (Af.j6 rec cmp a_1 b_1 wasBalanced_1 wasPartitioned_1 limit_2 pivot_3 data_5 false)
def Af.j4 (rec : (List Aa) -> Int -> Int -> Int -> Option ((List Aa))) (cmp : Aa -> Aa -> Option (Int)) (a_1 : Int) (b_1 : Int) (wasBalanced_1 : Bool) (wasPartitioned_1 : Bool) (limit_2 : Int) (pivot_3 : Int) (data_3 : List Aa) (x75_4 : Bool) : Option (Lp (Int × Int × Int × Bool × Bool × List Aa) ((List Aa))) :=
 cond (x75_4)
  ((Ab data_3 a_1 b_1 cmp).bind fun y_6 =>
  cond (y_6.1)
   (up (some y_6.2))
   (Af.j5 rec cmp a_1 b_1 wasBalanced_1 wasPartitioned_1 limit_2 pivot_3 y_6.2))
  (Af.j5 rec cmp a_1 b_1 wasBalanced_1 wasPartitioned_1 limit_2 pivot_3 data_3)
def Af.j3 (rec : (List Aa) -> Int -> Int -> Int -> Option ((List Aa))) (cmp : Aa -> Aa -> Option (Int)) (a_1 : Int) (b_1 : Int) (wasBalanced_1 : Bool) (wasPartitioned_1 : Bool) (limit_2 : Int) (pivot_3 : Int) (hint_3 : Int) (data_3 : List Aa) : Option (Lp (Int × Int × Int × Bool × Bool × List Aa) ((List Aa))) :=
 cond (wasBalanced_1)
  (cond (wasPartitioned_1)
   (Af.j4 rec cmp a_1 b_1 wasBalanced_1 wasPartitioned_1 limit_2 pivot_3 data_3 (decide (hint_3 = 1)))
   (Af.j4 rec cmp a_1 b_1 wasBalanced_1 wasPartitioned_1 limit_2 pivot_3 data_3 false))
  (Af.j4 rec cmp a_1 b_1 wasBalanced_1 wasPartitioned_1 limit_2 pivot_3 data_3 false)
def Af.j2 (rec : (List Aa) -> Int -> Int -> Int -> Option ((List Aa))) (cmp : Aa -> Aa -> Option (Int)) (a_1 : Int) (b_1 : Int) (wasBalanced_1 : Bool) (wasPartitioned_1 : Bool) (limit_2 : Int) (data_2 : List Aa) : Option (Lp (Int × Int × Int × Bool × Bool × List Aa) ((List Aa))) :=
 (A1 data_2 a_1 b_1 cmp).bind fun y_4 =>
 cond (decide (y_4.2 = 2))
  ((A9 data_2 a_1 b_1 cmp).bind fun y_5 =>
  Af.j3 rec cmp a_1 b_1 wasBalanced_1 wasPartitioned_1 limit_2 (W ((W (b_1 - 1)) - (W (y_4.1 - a_1)))) 1 y_5)
  (Af.j3 rec cmp a_1 b_1 wasBalanced_1 wasPartitioned_1 limit_2 y_4.1 y_4.2 data_2)
def Af.l1 (rec : (List Aa) -> Int -> Int -> Int -> Option ((List Aa))) (cmp : Aa -> Aa -> Option (Int)) (a_1 : Int) (b_1 : Int) (limit_1 : Int) (wasBalanced_1 : Bool) (wasPartitioned_1 : Bool) (data_1 : List Aa) : Option (Lp (Int × Int × Int × Bool × Bool × List Aa) ((List Aa))) :=
 cond (decide ((W (b_1 - a_1)) <= 12))
  ((Am data_1 a_1 b_1 cmp).bind fun y =>
  up (some y))
  (cond (decide (limit_1 = 0))
   ((Aw data_1 a_1 b_1 cmp).bind fun y_2 =>
   up (some y_2))
   (cond (!wasBalanced_1)
    ((Av data_1 a_1 b_1 cmp).bind fun y_3 =>
    Af.j2 rec cmp a_1 b_1 wasBalanced_1 wasPartitioned_1 (W (limit_1 - 1)) y_3)
    (Af.j2 rec cmp a_1 b_1 wasBalanced_1 wasPartitioned_1 limit_1 data_1)))
def Af.F (rec : (List Aa) -> Int -> Int -> Int -> Option ((List Aa))) (data : List Aa) (a : Int) (b : Int) (limit : Int) (cmp : Aa -> Aa -> Option (Int)) : Option ((List Aa)) :=
 Cy (fun q' => Af.l1 rec cmp q'.1 q'.2.1 q'.2.2.1 q'.2.2.2.1 q'.2.2.2.2.1 q'.2.2.2.2.2) (a, b, limit, true, true, data)
def Af (data : List Aa) (a : Int) (b : Int) (limit : Int) (cmp : Aa -> Aa -> Option (Int)) : Option ((List Aa)) := W0 (fun rec (x : List Aa × Int × Int × Int) => Af.F (fun data a b limit => rec (data, a, b, limit)) x.1 x.2.1 x.2.2.1 x.2.2.2 cmp) (data, a, b, limit)
def Di (x' : List Aa) (cmp : Aa -> Aa -> Option (Int)) : Option ((List Aa)) :=
 (Fb (IntKind.wrap .u64 (x'.length : Int))).bind fun y =>
 (Af x' 0 (x'.length : Int) y cmp).bind fun y_2 =>
 some y_2
def A8.j3 (k2_2 : Int) (k_3 : Int) (s_3 : List Aa) : Option (Lp (Int × Int × List Aa) (Lp (Int) ((List Aa)))) :=
 some (.next (k_3, W (k2_2 + 1), s_3))
def A8.l2 (s : List Aa) (k_1 : Int) (k_2 : Int) (k2_2 : Int) (s_2 : List Aa) : Option (Lp (Int × Int × List Aa) (Lp (Int) ((List Aa)))) :=
 cond (decide (k2_2 < (((((s.length : Int) : Int).toNat - (k_1 : Int).toNat) : Nat) : Int)))
  ((Cc ((s_2.drop ((k_1 : Int).toNat)).take (((s.length : Int) : Int).toNat - (k_1 : Int).toNat)) k2_2).bind fun e_3 =>
  (Cc ((s_2.drop ((k_1 : Int).toNat)).take (((s.length : Int) : Int).toNat - (k_1 : Int).toNat)) (W (k2_2 - 1))).bind fun e_4 =>
  cond (!decide (e_3 = e_4))
   ((Cc s_2 k_2).bind fun e_5 =>
   A8.j3 k2_2 (W (k_2 + 1)) (Cq s_2 ((k_2).toNat) e_3))
   (A8.j3 k2_2 k_2 s_2))
  (up (
   (X9 s_2 k_2 (s_2.length : Int)).bind fun l_2 =>
   (bQ s_2 ((k_2 : Int).toNat) (((s_2.length : Int) : Int).toNat - (k_2 : Int).toNat) ((Aa.mk 0 (⟨#[]⟩ : ByteArray) 0 0 0 0 (⟨#[]⟩ : ByteArray) (Bk.mk 0 0) 0 (⟨#[]⟩ : ByteArray)) : Aa)).bind fun l_3 =>
   (X9 l_3 0 k_2).bind fun l_4 =>
   up (some (l_3.take ((k_2 : Int).toNat - (0 : Int).toNat)))))
def A8.l1 (s : List Aa) (k_1 : Int) : Option (Lp (Int) ((List Aa))) :=
 cond (decide (k_1 < (s.length : Int)))
  ((Cc s k_1).bind fun e =>
  (Cc s (W (k_1 - 1))).bind fun e_2 =>
  cond (decide (e = e_2))
   ((X9 s k_1 (s.length : Int)).bind fun l =>
   Cy (fun q' => A8.l2 s k_1 q'.1 q'.2.1 q'.2.2) (k_1, 1, s))
   (some (.next (W (k_1 + 1)))))
  (up (
   some s))
def A8 (s : List Aa) : Option ((List Aa)) :=
 cond (decide ((s.length : Int) < 2))
  (some s)
  (Cy (fun q' => A8.l1 s q') 1)
def B4.l1 (l : (List Aa)) (x10_1 : Int) : Option (Lp (Int) ((List Aa) × Int)) :=
 cond (decide (x10_1 < (l.length : Int)))
  ((Cc l x10_1).bind fun e =>
  (Be e).bind fun y =>
  cond (!decide (y = 0))
   (up (some (([] : (List Aa)), y)))
   (some (.next (W (x10_1 + 1)))))
  (up (
   (Bz l).bind fun y_2 =>
   (Di y_2 (fun x0 x1 => Df x0 x1)).bind fun y_3 =>
   (A8 y_3).bind fun y_4 =>
   cond (decide (400 < (y_4.length : Int)))
    (some (([] : (List Aa)), 3))
    (some (y_4, 0))))
def B4 (l : (List Aa)) : Option ((List Aa) × Int) :=
 Cy (fun q' => B4.l1 l q') 0
def B6.l2 (l : (List Ce)) (x24_2 : Int) (p_2 : Int) (p_2_2 : ByteArray) (p_2_3 : Int) (p_2_4 : Int) (p_2_5 : Int) (p_2_6 : Int) (p_2_7 : ByteArray) (p_2_8 : Int) (p_2_9 : Int) (p_2_10 : Int) (p_2_11 : ByteArray) (l_2 : List Aa) : Option (Lp (Int × Int × ByteArray × Int × Int × Int × Int × ByteArray × Int × Int × Int × ByteArray × List Aa) ((List Aa) × Int)) :=
 cond (decide (x24_2 < (l.length : Int)))
  ((Cc l x24_2).bind fun e =>
  (H9 (Dk.mk (Aa.mk p_2 p_2_2 p_2_3 p_2_4 p_2_5 p_2_6 p_2_7 (Bk.mk p_2_8 p_2_9) p_2_10 p_2_11) l_2) 3 e.Key e.KeyId).bind fun y_3 =>
  some (.next (W (x24_2 + 1), y_3.at_.Source, y_3.at_.Host, y_3.at_.Machine, y_3.at_.Day, y_3.at_.Confidence, y_3.at_.Kind, y_3.at_.Subject, y_3.at_.Use.Alg, y_3.at_.Use.Bits, y_3.at_.Number, y_3.at_.Text, y_3.l)))
  (up (
   (B4 l_2).bind fun y_4 =>
   some (y_4.1, y_4.2)))
def B6.j1 (l : (List Ce)) (y : Dk × Int) (errno_1 : Int) : Option ((List Aa) × Int) :=
 cond (!decide (errno_1 = 0))
  (some (([] : (List Aa)), errno_1))
  (Cy (fun q' => B6.l2 l q'.1 q'.2.1 q'.2.2.1 q'.2.2.2.1 q'.2.2.2.2.1 q'.2.2.2.2.2.1 q'.2.2.2.2.2.2.1 q'.2.2.2.2.2.2.2.1 q'.2.2.2.2.2.2.2.2.1 q'.2.2.2.2.2.2.2.2.2.1 q'.2.2.2.2.2.2.2.2.2.2.1 q'.2.2.2.2.2.2.2.2.2.2.2.1 q'.2.2.2.2.2.2.2.2.2.2.2.2) (0, y.1.at_.Source, y.1.at_.Host, y.1.at_.Machine, y.1.at_.Day, y.1.at_.Confidence, y.1.at_.Kind, y.1.at_.Subject, y.1.at_.Use.Alg, y.1.at_.Use.Bits, y.1.at_.Number, y.1.at_.Text, y.1.l))
def B6 (at' : Aa) (l : (List Ce)) : Option ((List Aa) × Int) :=
 (Ik at').bind fun y =>
 cond (decide (y.2 = 0))
  ((B0 l).bind fun y_2 =>
  B6.j1 l y y_2)
  (B6.j1 l y y.2)
def Eh : Option (Bool) :=
 (B6 (Aa.mk 2 (⟨#[97]⟩ : ByteArray) 0 3 90 0 (⟨#[115]⟩ : ByteArray) (Bk.mk 0 0) 0 (⟨#[]⟩ : ByteArray)) ([(Ce.mk (⟨#[120]⟩ : ByteArray) (Bk.mk 5 2048) 7 false ([] : (List Bc))), (Ce.mk (⟨#[121]⟩ : ByteArray) (Bk.mk 5 2048) 7 false ([] : (List Bc)))] : List Ce)).bind fun y =>
 cond (decide (y.2 = 0))
  (cond (decide ((y.1.length : Int) = 1))
   ((Cc y.1 0).bind fun e =>
   cond (decide (e.Number = 7))
    (cond (decide (e.Kind = 3))
     ((Be e).bind fun y_2 =>
     some (decide (y_2 = 0)))
     (some false))
    (some false))
   (some false))
  (some false)
def Ib (l : (List Int)) : Option (Aj) :=
 some (Aj.mk l 0)
def Kt (n : Int) (k : Int) : Option (Int) :=
 cond (decide (k < 1))
  (some 0)
  ((Y8 n k).bind fun q =>
  (Y8 (W (q + k)) k).bind fun q_2 =>
  some q_2)
def Cp (d : Aj) (n : Int) : Option (Int × Aj) :=
 cond (decide ((d.L.length : Int) <= d.At))
  (some (0, d))
  ((Cc d.L (W ((W (d.At + 1)) - 1))).bind fun e =>
  (Kt e n).bind fun y =>
  some (y, (Aj.mk d.L (W (d.At + 1)))))
def D3 (d : Aj) (l : (List ByteArray)) : Option (ByteArray × Aj) :=
 (Cp d (l.length : Int)).bind fun y =>
 (Cc l y.1).bind fun e =>
 some (e, y.2)
def Dg (d : Aj) (l : (List Int)) : Option (Int × Aj) :=
 (Cp d (l.length : Int)).bind fun y =>
 (Cc l y.1).bind fun e =>
 some (e, y.2)
def Bm.j3 (b_3 : Aj) (f_3 : Aa) : Option (Aa × Aj) :=
 some (f_3, b_3)
def Bm.j2 (y : Int × Aj) (y_2 : ByteArray × Aj) (y_3 : Int × Aj) (y_4 : Int × Aj) (y_5 : Int × Aj) (y_6 : Int × Aj) (y_7 : ByteArray × Aj) (x57_2 : Bool) : Option (Aa × Aj) :=
 cond (x57_2)
  ((Cp y_7.2 4).bind fun y_12 =>
  Bm.j3 y_12.2 (Aa.mk (W (1 + y.1)) y_2.1 y_3.1 y_4.1 y_5.1 (W (1 + y_6.1)) y_7.1 (Bk.mk 0 0) (W (1 + y_12.1)) (⟨#[]⟩ : ByteArray)))
  (cond (decide ((W (1 + y_6.1)) = 6))
   ((Cp y_7.2 3).bind fun y_13 =>
   Bm.j3 y_13.2 (Aa.mk (W (1 + y.1)) y_2.1 y_3.1 y_4.1 y_5.1 (W (1 + y_6.1)) y_7.1 (Bk.mk 0 0) y_13.1 (⟨#[]⟩ : ByteArray)))
   (cond (decide ((W (1 + y_6.1)) = 7))
    ((D3 y_7.2 ([(⟨#[97]⟩ : ByteArray), (⟨#[98]⟩ : ByteArray)] : List ByteArray)).bind fun y_14 =>
    Bm.j3 y_14.2 (Aa.mk (W (1 + y.1)) y_2.1 y_3.1 y_4.1 y_5.1 (W (1 + y_6.1)) y_7.1 (Bk.mk 0 0) 0 y_14.1))
    (Bm.j3 y_7.2 (Aa.mk (W (1 + y.1)) y_2.1 y_3.1 y_4.1 y_5.1 (W (1 + y_6.1)) y_7.1 (Bk.mk 0 0) 0 (⟨#[]⟩ : ByteArray)))))
def Bm.j1 (y : Int × Aj) (y_2 : ByteArray × Aj) (y_3 : Int × Aj) (y_4 : Int × Aj) (y_5 : Int × Aj) (y_6 : Int × Aj) (y_7 : ByteArray × Aj) (x27_1 : Bool) : Option (Aa × Aj) :=
 cond (x27_1)
  ((Cp y_7.2 4).bind fun y_8 =>
  (Cc ([(Bk.mk 1 0), (Bk.mk 2 0), (Bk.mk 5 1024), (Bk.mk 14 128)] : List Bk) y_8.1).bind fun e =>
  Bm.j3 y_8.2 (Aa.mk (W (1 + y.1)) y_2.1 y_3.1 y_4.1 y_5.1 (W (1 + y_6.1)) y_7.1 e 0 (⟨#[]⟩ : ByteArray)))
  (cond (decide ((W (1 + y_6.1)) = 2))
   ((Cp y_7.2 5).bind fun y_9 =>
   Bm.j3 y_9.2 (Aa.mk (W (1 + y.1)) y_2.1 y_3.1 y_4.1 y_5.1 (W (1 + y_6.1)) y_7.1 (Bk.mk 0 0) (W (1 + y_9.1)) (⟨#[]⟩ : ByteArray)))
   (cond (decide ((W (1 + y_6.1)) = 3))
    ((Dg y_7.2 ([1024, 2048] : List Int)).bind fun y_10 =>
    (Cp y_10.2 3).bind fun y_11 =>
    Bm.j3 y_11.2 (Aa.mk (W (1 + y.1)) y_2.1 y_3.1 y_4.1 y_5.1 (W (1 + y_6.1)) y_7.1 (Bk.mk 5 y_10.1) (W (100 + y_11.1)) (⟨#[]⟩ : ByteArray)))
    (cond (decide ((W (1 + y_6.1)) = 4))
     (Bm.j2 y y_2 y_3 y_4 y_5 y_6 y_7 (decide ((W (1 + y_6.1)) = 4)))
     (Bm.j2 y y_2 y_3 y_4 y_5 y_6 y_7 (decide ((W (1 + y_6.1)) = 5))))))
def Bm (d : Aj) : Option (Aa × Aj) :=
 (Cp d 7).bind fun y =>
 (D3 y.2 ([(⟨#[97]⟩ : ByteArray), (⟨#[98]⟩ : ByteArray), (⟨#[99]⟩ : ByteArray)] : List ByteArray)).bind fun y_2 =>
 (Dg y_2.2 ([0, 1, 2, 0, 3] : List Int)).bind fun y_3 =>
 (Cp y_3.2 12).bind fun y_4 =>
 (Dg y_4.2 ([90, 50, 100, 1] : List Int)).bind fun y_5 =>
 (Cp y_5.2 8).bind fun y_6 =>
 (D3 y_6.2 ([(⟨#[115]⟩ : ByteArray), (⟨#[116]⟩ : ByteArray)] : List ByteArray)).bind fun y_7 =>
 cond (decide ((W (1 + y_6.1)) = 1))
  (Bm.j1 y y_2 y_3 y_4 y_5 y_6 y_7 (decide ((W (1 + y_6.1)) = 1)))
  (Bm.j1 y y_2 y_3 y_4 y_5 y_6 y_7 (decide ((W (1 + y_6.1)) = 8)))
def Bq.l2 (y_11 : (List Aa) × Int) (i_2 : Int) : Option (Lp (Int) (Bool)) :=
 cond (decide (i_2 < (y_11.1.length : Int)))
  ((Cc y_11.1 (W (i_2 - 1))).bind fun e =>
  (Cc y_11.1 i_2).bind fun e_2 =>
  (Df e e_2).bind fun y_12 =>
  cond (decide (0 <= y_12))
   (up (some false))
   (some (.next (W (i_2 + 1)))))
  (up (
   cond (decide (y_11.2 = 0))
    (cond (decide (1 <= (y_11.1.length : Int)))
     (cond (decide ((y_11.1.length : Int) <= 3))
      ((Eh).bind fun y_13 =>
      some y_13)
      (some false))
     (some false))
    (some false)))
def Bq.j1 (y_4 : Aa × Aj) (y_5 : Aa × Aj) (y_6 : Aa × Aj) (x59_1 : Bool) : Option (Bool) :=
 cond (x59_1)
  (some false)
  ((B4 ([y_4.1, y_5.1, y_6.1, y_4.1] : List Aa)).bind fun y_11 =>
  Cy (fun q' => Bq.l2 y_11 q') 1)
def Bq (l : (List Int)) : Option (Bool) :=
 (Gr l).bind fun y =>
 cond (!y)
  ((Eh).bind fun y_2 =>
  some y_2)
  ((Ib l).bind fun y_3 =>
  (Bm y_3).bind fun y_4 =>
  (Bm y_4.2).bind fun y_5 =>
  (Bm y_5.2).bind fun y_6 =>
  (Df y_4.1 y_5.1).bind fun y_7 =>
  (Df y_5.1 y_6.1).bind fun y_8 =>
  (Df y_4.1 y_6.1).bind fun y_9 =>
  (Df y_5.1 y_4.1).bind fun y_10 =>
  cond (!decide (y_7 = (W (-y_10))))
   (Bq.j1 y_4 y_5 y_6 true)
   (cond (decide (y_7 <= 0))
    (cond (decide (y_8 <= 0))
     (cond (decide (0 < y_9))
      (Bq.j1 y_4 y_5 y_6 true)
      (Bq.j1 y_4 y_5 y_6 (!decide ((decide (y_7 = 0)) = (decide (y_4.1 = y_5.1))))))
     (Bq.j1 y_4 y_5 y_6 (!decide ((decide (y_7 = 0)) = (decide (y_4.1 = y_5.1))))))
    (Bq.j1 y_4 y_5 y_6 (!decide ((decide (y_7 = 0)) = (decide (y_4.1 = y_5.1)))))))
def B3.j3 (i_2 : Int) (x27_3 : Bool) : Option (Lp (Int) (Bool)) :=
 cond (x27_3)
  (up (some false))
  (some (.next (W (i_2 + 1))))
def B3.l2 (s : ByteArray) (i_2 : Int) : Option (Lp (Int) (Bool)) :=
 cond (decide (i_2 < (s.size : Int)))
  ((Wq s i_2).bind fun c =>
  cond (decide ((c.toNat : Int) < 33))
   (B3.j3 i_2 true)
   ((Wq s i_2).bind fun c_2 =>
   B3.j3 i_2 (decide (126 < (c_2.toNat : Int)))))
  (up (
   some true))
def B3.j1 (s : ByteArray) (x11_1 : Bool) : Option (Bool) :=
 cond (x11_1)
  (some false)
  (Cy (fun q' => B3.l2 s q') 0)
def B3 (s : ByteArray) : Option (Bool) :=
 cond (decide ((s.size : Int) < 1))
  (B3.j1 s true)
  (B3.j1 s (decide (32 < (s.size : Int))))
def C2.j1 (b : Int) (x3_1 : Bool) : Option (Int) :=
 cond (x3_1)
  (some 0)
  (cond (decide (b < 1024))
   (some 56)
   (cond (decide (b < 2048))
    (some 80)
    (cond (decide (b < 3072))
     (some 112)
     (cond (decide (b < 7680))
      (some 128)
      (cond (decide (b < 15360))
       (some 192)
       (some 256))))))
def C2 (b : Int) : Option (Int) :=
 cond (decide (b < 512))
  (C2.j1 b true)
  (C2.j1 b (decide (16384 < b)))
def Bs.l1 (b : Int) (sizes : (List Int)) (strengths : (List Int)) (i_1 : Int) : Option (Lp (Int) (Int)) :=
 cond (decide (i_1 < (sizes.length : Int)))
  ((Cc sizes i_1).bind fun e =>
  cond (decide (e = b))
   ((Cc strengths i_1).bind fun e_2 =>
   up (some e_2))
   (some (.next (W (i_1 + 1)))))
  (up (
   some 0))
def Bs (b : Int) (sizes : (List Int)) (strengths : (List Int)) : Option (Int) :=
 Cy (fun q' => Bs.l1 b sizes strengths q') 0
def Ct.j2 (alg : Int) (x14_2 : Bool) : Option (Int) :=
 cond (x14_2)
  (some 256)
  (cond (decide (alg = 19))
   (some 64)
   (cond (decide (alg = 20))
    (some 80)
    (some 0)))
def Ct.j1 (alg : Int) (x8_1 : Bool) : Option (Int) :=
 cond (x8_1)
  (some 128)
  (cond (decide (alg = 4))
   (some 192)
   (cond (decide (alg = 18))
    (Ct.j2 alg (decide (alg = 18)))
    (Ct.j2 alg (decide (alg = 22)))))
def Ct (alg : Int) : Option (Int) :=
 cond (decide (alg = 1))
  (some 18)
  (cond (decide (alg = 2))
   (some 60)
   (cond (decide (alg = 3))
    (Ct.j1 alg (decide (alg = 3)))
    (cond (decide (alg = 8))
     (Ct.j1 alg (decide (alg = 8)))
     (Ct.j1 alg (decide (alg = 21))))))
def Au.j3 (u : Bk) (x35_3 : Bool) : Option (Int) :=
 cond (x35_3)
  ((Md u.Bits 2).bind fun q =>
  some q)
  (some 0)
def Au.j4 (u : Bk) (x62_4 : Bool) : Option (Int) :=
 cond (x62_4)
  ((Bs u.Bits ([128, 256] : List Int) ([128, 256] : List Int)).bind fun y_6 =>
  some y_6)
  ((Ct u.Alg).bind fun y_7 =>
  (Bs u.Bits ([0] : List Int) ([y_7] : List Int)).bind fun y_8 =>
  some y_8)
def Au.j2 (u : Bk) (x15_2 : Bool) : Option (Int) :=
 cond (x15_2)
  (cond (decide (u.Bits = 160))
   (Au.j3 u true)
   (cond (decide (u.Bits = 224))
    (Au.j3 u true)
    (cond (decide (u.Bits = 256))
     (Au.j3 u true)
     (cond (decide (u.Bits = 384))
      (Au.j3 u true)
      (Au.j3 u (decide (u.Bits = 521)))))))
  (cond (decide (u.Alg = 9))
   ((Bs u.Bits ([44, 65, 87] : List Int) ([128, 192, 256] : List Int)).bind fun y_2 =>
   some y_2)
   (cond (decide (u.Alg = 13))
    ((Bs u.Bits ([512, 768, 1024] : List Int) ([128, 192, 256] : List Int)).bind fun y_3 =>
    some y_3)
    (cond (decide (u.Alg = 14))
     ((Bs u.Bits ([40, 128] : List Int) ([40, 60] : List Int)).bind fun y_4 =>
     some y_4)
     (cond (decide (u.Alg = 15))
      ((Bs u.Bits ([112, 168] : List Int) ([80, 112] : List Int)).bind fun y_5 =>
      some y_5)
      (cond (decide (u.Alg = 16))
       (Au.j4 u (decide (u.Alg = 16)))
       (Au.j4 u (decide (u.Alg = 17))))))))
def Au.j1 (u : Bk) (x8_1 : Bool) : Option (Int) :=
 cond (x8_1)
  ((C2 u.Bits).bind fun y =>
  some y)
  (cond (decide (u.Alg = 7))
   (Au.j2 u (decide (u.Alg = 7)))
   (Au.j2 u (decide (u.Alg = 12))))
def Au (u : Bk) : Option (Int) :=
 cond (decide (u.Alg = 5))
  (Au.j1 u (decide (u.Alg = 5)))
  (cond (decide (u.Alg = 6))
   (Au.j1 u (decide (u.Alg = 6)))
   (cond (decide (u.Alg = 10))
    (Au.j1 u (decide (u.Alg = 10)))
    (Au.j1 u (decide (u.Alg = 11)))))
def Hd (u : Bk) : Option (Bool) :=
 (Au u).bind fun y =>
 some (decide (0 < y))
def M3 : Option ((List Ar)) :=
 some ([(Ar.mk (⟨#[]⟩ : ByteArray) 0), (Ar.mk (⟨#[109, 100, 53]⟩ : ByteArray) 1), (Ar.mk (⟨#[115, 104, 97, 49]⟩ : ByteArray) 1), (Ar.mk (⟨#[115, 104, 97, 50, 53, 54]⟩ : ByteArray) 1), (Ar.mk (⟨#[115, 104, 97, 51, 56, 52]⟩ : ByteArray) 1), (Ar.mk (⟨#[114, 115, 97]⟩ : ByteArray) 2), (Ar.mk (⟨#[100, 115, 97]⟩ : ByteArray) 2), (Ar.mk (⟨#[101, 99, 100, 115, 97]⟩ : ByteArray) 2), (Ar.mk (⟨#[101, 100, 50, 53, 53, 49, 57]⟩ : ByteArray) 2), (Ar.mk (⟨#[109, 108, 100, 115, 97]⟩ : ByteArray) 2), (Ar.mk (⟨#[114, 115, 97, 107, 120]⟩ : ByteArray) 3), (Ar.mk (⟨#[100, 104, 101]⟩ : ByteArray) 3), (Ar.mk (⟨#[101, 99, 100, 104, 101]⟩ : ByteArray) 3), (Ar.mk (⟨#[109, 108, 107, 101, 109]⟩ : ByteArray) 3), (Ar.mk (⟨#[114, 99, 52]⟩ : ByteArray) 4), (Ar.mk (⟨#[100, 101, 115, 51]⟩ : ByteArray) 4), (Ar.mk (⟨#[97, 101, 115, 99, 98, 99]⟩ : ByteArray) 4), (Ar.mk (⟨#[97, 101, 115, 103, 99, 109]⟩ : ByteArray) 4), (Ar.mk (⟨#[99, 104, 97, 99, 104, 97]⟩ : ByteArray) 4), (Ar.mk (⟨#[104, 109, 97, 99, 109, 100, 53]⟩ : ByteArray) 5), (Ar.mk (⟨#[104, 109, 97, 99, 115, 104, 97, 49]⟩ : ByteArray) 5), (Ar.mk (⟨#[104, 109, 97, 99, 115, 104, 97, 50, 53, 54]⟩ : ByteArray) 5), (Ar.mk (⟨#[97, 101, 97, 100]⟩ : ByteArray) 5)] : List Ar)
def D4.j1 (alg : Int) (x8_1 : Bool) : Option (Int) :=
 cond (x8_1)
  (some 0)
  ((M3).bind fun y =>
  (Cc y alg).bind fun e =>
  some e.kind)
def D4 (alg : Int) : Option (Int) :=
 cond (decide (alg < 1))
  (D4.j1 alg true)
  (D4.j1 alg (decide (22 < alg)))
def Gq (u : Bk) : Option (Bool) :=
 (Hd u).bind fun y =>
 cond (y)
  ((D4 u.Alg).bind fun y_2 =>
  some (decide (y_2 = 2)))
  (some false)
def Ay.j4 (ok_4 : Bool) : Option (Int) :=
 cond (!ok_4)
  (some 24)
  (some 0)
def Ay.j3 (f : Aa) (x115_3 : Bool) : Option (Int) :=
 cond (x115_3)
  (cond (decide (f.Use = (Bk.mk 0 0)))
   (cond (decide (1 <= f.Number))
    (cond (decide (f.Number <= 4))
     (Ay.j4 (decide (f.Text = (⟨#[]⟩ : ByteArray))))
     (Ay.j4 false))
    (Ay.j4 false))
   (Ay.j4 false))
  (cond (decide (f.Kind = 6))
   (cond (decide (f.Use = (Bk.mk 0 0)))
    (cond (decide (0 <= f.Number))
     (cond (decide (f.Number <= 2147483648))
      (Ay.j4 (decide (f.Text = (⟨#[]⟩ : ByteArray))))
      (Ay.j4 false))
     (Ay.j4 false))
    (Ay.j4 false))
   (cond (decide (f.Kind = 7))
    (cond (decide (f.Use = (Bk.mk 0 0)))
     (cond (decide (f.Number = 0))
      ((B3 f.Text).bind fun y_5 =>
      Ay.j4 y_5)
      (Ay.j4 false))
     (Ay.j4 false))
    (Ay.j4 false)))
def Ay.j2 (f : Aa) (x69_2 : Bool) : Option (Int) :=
 cond (x69_2)
  ((Hd f.Use).bind fun y_3 =>
  cond (y_3)
   (cond (decide (f.Number = 0))
    (Ay.j4 (decide (f.Text = (⟨#[]⟩ : ByteArray))))
    (Ay.j4 false))
   (Ay.j4 false))
  (cond (decide (f.Kind = 2))
   (cond (decide (f.Use = (Bk.mk 0 0)))
    (cond (decide (0 <= f.Number))
     (cond (decide (f.Number <= 65535))
      (Ay.j4 (decide (f.Text = (⟨#[]⟩ : ByteArray))))
      (Ay.j4 false))
     (Ay.j4 false))
    (Ay.j4 false))
   (cond (decide (f.Kind = 3))
    ((Gq f.Use).bind fun y_4 =>
    cond (y_4)
     (cond (decide (0 <= f.Number))
      (cond (decide (f.Number <= 2147483648))
       (Ay.j4 (decide (f.Text = (⟨#[]⟩ : ByteArray))))
       (Ay.j4 false))
      (Ay.j4 false))
     (Ay.j4 false))
    (cond (decide (f.Kind = 4))
     (Ay.j3 f (decide (f.Kind = 4)))
     (Ay.j3 f (decide (f.Kind = 5))))))
def Ay.j1 (f : Aa) (x56_1 : Bool) : Option (Int) :=
 cond (x56_1)
  (some 24)
  (cond (decide (f.Kind = 1))
   (Ay.j2 f (decide (f.Kind = 1)))
   (Ay.j2 f (decide (f.Kind = 8))))
def Ay (f : Aa) : Option (Int) :=
 cond (decide (f.Source < 1))
  (Ay.j1 f true)
  (cond (decide (7 < f.Source))
   (Ay.j1 f true)
   ((B3 f.Host).bind fun y =>
   cond (!y)
    (Ay.j1 f true)
    (cond (decide (f.Machine < 0))
     (Ay.j1 f true)
     (cond (decide (1099511627776 < f.Machine))
      (Ay.j1 f true)
      (cond (decide (f.Day < 0))
       (Ay.j1 f true)
       (cond (decide (40000 < f.Day))
        (Ay.j1 f true)
        (cond (decide (f.Confidence < 1))
         (Ay.j1 f true)
         (cond (decide (100 < f.Confidence))
          (Ay.j1 f true)
          ((B3 f.Subject).bind fun y_2 =>
          Ay.j1 f (!y_2))))))))))
def Gt (a : ByteArray) (b : ByteArray) : Option (Int) :=
 cond (Iz (Hk a) (Hk b))
  (some (-1))
  (cond (Iz (Hk b) (Hk a))
   (some 1)
   (some 0))
def C7.l1 (a : (List Int)) (b : (List Int)) (i_1 : Int) : Option (Lp (Int) (Int)) :=
 cond (decide (i_1 < (a.length : Int)))
  ((Cc a i_1).bind fun e =>
  (Cc b i_1).bind fun e_2 =>
  cond (decide (e < e_2))
   (up (some (-1)))
   (cond (decide (e_2 < e))
    (up (some 1))
    (some (.next (W (i_1 + 1))))))
  (up (
   some 0))
def C7 (a : (List Int)) (b : (List Int)) : Option (Int) :=
 Cy (fun q' => C7.l1 a b q') 0
def Gv (a : Aa) (b : Aa) : Option (Int) :=
 (Gt a.Host b.Host).bind fun y =>
 cond (!decide (y = 0))
  (some y)
  ((C7 ([a.Machine, a.Day] : List Int) ([b.Machine, b.Day] : List Int)).bind fun y_2 =>
  cond (!decide (y_2 = 0))
   (some y_2)
   ((Gt a.Subject b.Subject).bind fun y_3 =>
   cond (!decide (y_3 = 0))
    (some y_3)
    ((C7 ([a.Kind, a.Use.Alg, a.Use.Bits, a.Number] : List Int) ([b.Kind, b.Use.Alg, b.Use.Bits, b.Number] : List Int)).bind fun y_4 =>
    cond (!decide (y_4 = 0))
     (some y_4)
     ((Gt a.Text b.Text).bind fun y_5 =>
     cond (!decide (y_5 = 0))
      (some y_5)
      ((C7 ([a.Source, a.Confidence] : List Int) ([b.Source, b.Confidence] : List Int)).bind fun y_6 =>
      some y_6)))))
def B1.j3 (l : List Aa) (f : Aa) (k_1 : Int) (x33_3 : Bool) : Option ((List Aa)) :=
 cond (x33_3)
  (some l)
  ((X9 l 0 k_1).bind fun l_2 =>
  (N4 1232 ([] : List Aa) ((l.drop ((0 : Int).toNat)).take ((k_1 : Int).toNat - (0 : Int).toNat))).bind fun l_3 =>
  (N4 1232 l_3 ([f] : List Aa)).bind fun l_4 =>
  (X9 l k_1 (l.length : Int)).bind fun l_5 =>
  (N4 1232 l_4 ((l.drop ((k_1 : Int).toNat)).take (((l.length : Int) : Int).toNat - (k_1 : Int).toNat))).bind fun l_6 =>
  some l_6)
def B1.j2 (l : List Aa) (f : Aa) (k_1 : Int) (x19_2 : Bool) : Option (Lp (Int) ((List Aa))) :=
 cond (x19_2)
  (some (.next (W (k_1 - 1))))
  (up (
   cond (decide (0 < k_1))
    ((Cc l (W (k_1 - 1))).bind fun e_2 =>
    (Gv e_2 f).bind fun y_2 =>
    B1.j3 l f k_1 (decide (y_2 = 0)))
    (B1.j3 l f k_1 false)))
def B1.l1 (l : List Aa) (f : Aa) (k_1 : Int) : Option (Lp (Int) ((List Aa))) :=
 cond (decide (0 < k_1))
  ((Cc l (W (k_1 - 1))).bind fun e =>
  (Gv e f).bind fun y =>
  B1.j2 l f k_1 (decide (0 < y)))
  (B1.j2 l f k_1 false)
def B1 (l : List Aa) (f : Aa) : Option ((List Aa)) :=
 Cy (fun q' => B1.l1 l f q') (l.length : Int)
def Cj.l2 (l : (List Aa)) (i_2 : Int) (out_2 : List Aa) : Option (Lp (Int × List Aa) ((List Aa) × Int)) :=
 cond (decide (i_2 < (l.length : Int)))
  ((Cc l i_2).bind fun e_2 =>
  (B1 out_2 e_2).bind fun y_2 =>
  cond (decide (400 < (y_2.length : Int)))
   (up (some (([] : (List Aa)), 3)))
   (some (.next (W (i_2 + 1), y_2))))
  (up (
   some (out_2, 0)))
def Cj.l1 (l : (List Aa)) (i_1 : Int) : Option (Lp (Int) ((List Aa) × Int)) :=
 cond (decide (i_1 < (l.length : Int)))
  ((Cc l i_1).bind fun e =>
  (Ay e).bind fun y =>
  cond (!decide (y = 0))
   (up (some (([] : (List Aa)), y)))
   (some (.next (W (i_1 + 1)))))
  (up (
   Cy (fun q' => Cj.l2 l q'.1 q'.2) (0, ([] : List Aa))))
def Cj (l : (List Aa)) : Option ((List Aa) × Int) :=
 Cy (fun q' => Cj.l1 l q') 0
def C9.l1 (i_1 : Int) (d_1 : Aj) (l_1 : List Aa) : Option (Lp (Int × Aj × List Aa) ((List Aa) × Aj)) :=
 cond (decide (0 < i_1))
  ((Bm d_1).bind fun y_2 =>
  (N4 1232 l_1 ([y_2.1] : List Aa)).bind fun l =>
  some (.next (W (i_1 - 1), y_2.2, l)))
  (up (
   (Cj l_1).bind fun y_3 =>
   some (y_3.1, d_1)))
def C9 (d : Aj) (most : Int) : Option ((List Aa) × Aj) :=
 (Cp d (W (most + 1))).bind fun y =>
 Cy (fun q' => C9.l1 q'.1 q'.2.1 q'.2.2) (y.1, y.2, ([] : List Aa))
def Hc (d : Aj) (n : Int) : Option (Bool × Aj) :=
 (Cp d n).bind fun y =>
 some (decide (y.1 = (W (n - 1))), y.2)
def Db.j1 (b_1 : Aj) (f_1 : Aa) : Option (Aa × Aj) :=
 some (f_1, b_1)
def Db (d : Aj) : Option (Aa × Aj) :=
 (Bm d).bind fun y =>
 (Cp y.2 16).bind fun y_2 =>
 cond (decide (y_2.1 = 0))
  ((Dg y_2.2 ([0, 8] : List Int)).bind fun y_3 =>
  Db.j1 y_3.2 (Aa.mk y_3.1 y.1.Host y.1.Machine y.1.Day y.1.Confidence y.1.Kind y.1.Subject y.1.Use y.1.Number y.1.Text))
  (cond (decide (y_2.1 = 1))
   ((D3 y_2.2 ([(⟨#[]⟩ : ByteArray), (⟨#[97, 32, 98]⟩ : ByteArray)] : List ByteArray)).bind fun y_4 =>
   Db.j1 y_4.2 (Aa.mk y.1.Source y_4.1 y.1.Machine y.1.Day y.1.Confidence y.1.Kind y.1.Subject y.1.Use y.1.Number y.1.Text))
   (cond (decide (y_2.1 = 2))
    ((Dg y_2.2 ([-1, 1099511627777] : List Int)).bind fun y_5 =>
    Db.j1 y_5.2 (Aa.mk y.1.Source y.1.Host y_5.1 y.1.Day y.1.Confidence y.1.Kind y.1.Subject y.1.Use y.1.Number y.1.Text))
    (cond (decide (y_2.1 = 3))
     ((Dg y_2.2 ([-1, 40001, 40000] : List Int)).bind fun y_6 =>
     Db.j1 y_6.2 (Aa.mk y.1.Source y.1.Host y.1.Machine y_6.1 y.1.Confidence y.1.Kind y.1.Subject y.1.Use y.1.Number y.1.Text))
     (cond (decide (y_2.1 = 4))
      ((Dg y_2.2 ([0, 101] : List Int)).bind fun y_7 =>
      Db.j1 y_7.2 (Aa.mk y.1.Source y.1.Host y.1.Machine y.1.Day y_7.1 y.1.Kind y.1.Subject y.1.Use y.1.Number y.1.Text))
      (cond (decide (y_2.1 = 5))
       ((Dg y_2.2 ([0, 9, 3, 1] : List Int)).bind fun y_8 =>
       Db.j1 y_8.2 (Aa.mk y.1.Source y.1.Host y.1.Machine y.1.Day y.1.Confidence y_8.1 y.1.Subject y.1.Use y.1.Number y.1.Text))
       (cond (decide (y_2.1 = 6))
        (Db.j1 y_2.2 (Aa.mk y.1.Source y.1.Host y.1.Machine y.1.Day y.1.Confidence y.1.Kind (⟨#[]⟩ : ByteArray) y.1.Use y.1.Number y.1.Text))
        (cond (decide (y_2.1 = 7))
         ((Dg y_2.2 ([1, 99, 5] : List Int)).bind fun y_9 =>
         (Dg y_9.2 ([0, 2048] : List Int)).bind fun y_10 =>
         Db.j1 y_10.2 (Aa.mk y.1.Source y.1.Host y.1.Machine y.1.Day y.1.Confidence y.1.Kind y.1.Subject (Bk.mk y_9.1 y_10.1) y.1.Number y.1.Text))
         (cond (decide (y_2.1 = 8))
          ((Dg y_2.2 ([1, 65536, -1, 2147483649] : List Int)).bind fun y_11 =>
          Db.j1 y_11.2 (Aa.mk y.1.Source y.1.Host y.1.Machine y.1.Day y.1.Confidence y.1.Kind y.1.Subject y.1.Use y_11.1 y.1.Text))
          (cond (decide (y_2.1 = 9))
           ((D3 y_2.2 ([(⟨#[120]⟩ : ByteArray), (⟨#[97, 32, 98]⟩ : ByteArray), (⟨#[]⟩ : ByteArray)] : List ByteArray)).bind fun y_12 =>
           Db.j1 y_12.2 (Aa.mk y.1.Source y.1.Host y.1.Machine y.1.Day y.1.Confidence y.1.Kind y.1.Subject y.1.Use y.1.Number y_12.1))
           (Db.j1 y_2.2 y.1))))))))))
def Dq (n : Int) : Option ((List Aa)) :=
 cond (decide (n < 0))
  (none)
  (cond (decide (0 < (W (n - (W (0 - 0))))))
   ((cM 112 (W (n - (W (0 - 0)))) ((Aa.mk 0 (⟨#[]⟩ : ByteArray) 0 0 0 0 (⟨#[]⟩ : ByteArray) (Bk.mk 0 0) 0 (⟨#[]⟩ : ByteArray)) : Aa)).bind fun l =>
   (X9 l 0 0).bind fun l_2 =>
   some (l.take ((0 : Int).toNat - (0 : Int).toNat)))
   (some ([] : (List Aa))))
def Ax.l2 (slices : (List (List Aa))) (x27_2 : Int) (newslice_2 : List Aa) : Option (Lp (Int × List Aa) ((List Aa))) :=
 cond (decide (x27_2 < (slices.length : Int)))
  ((Cc slices x27_2).bind fun e_2 =>
  (N4 1232 newslice_2 e_2).bind fun l =>
  some (.next (W (x27_2 + 1), l)))
  (up (
   some newslice_2))
def Ax.l1 (slices : (List (List Aa))) (size_1 : Int) (x11_1 : Int) : Option (Lp (Int × Int) ((List Aa))) :=
 cond (decide (x11_1 < (slices.length : Int)))
  ((Cc slices x11_1).bind fun e =>
  cond (decide ((W (size_1 + (e.length : Int))) < 0))
   (none)
   (some (.next (W (size_1 + (e.length : Int)), W (x11_1 + 1)))))
  (up (
   (Dq size_1).bind fun y =>
   Cy (fun q' => Ax.l2 slices q'.1 q'.2) (0, y)))
def Ax (slices : (List (List Aa))) : Option ((List Aa)) :=
 Cy (fun q' => Ax.l1 slices q'.1 q'.2) (0, 0)
def C8 (a : (List Aa)) (b : (List Aa)) : Option ((List Aa) × Int) :=
 (Ax ([a, b] : List (List Aa))).bind fun y =>
 (B4 y).bind fun y_2 =>
 some (y_2.1, y_2.2)
def H3 (a : (List Aa)) (b : (List Aa)) : Option ((List Aa) × Int) :=
 (N4 1232 ([] : List Aa) a).bind fun l =>
 (N4 1232 l b).bind fun l_2 =>
 (Cj l_2).bind fun y =>
 some (y.1, y.2)
def C6.l1 (a : (List Aa)) (b : (List Aa)) (i_1 : Int) : Option (Lp (Int) (Bool)) :=
 cond (decide (i_1 < (a.length : Int)))
  ((Cc a i_1).bind fun e =>
  (Cc b i_1).bind fun e_2 =>
  cond (!decide (e = e_2))
   (up (some false))
   (some (.next (W (i_1 + 1)))))
  (up (
   some true))
def C6 (a : (List Aa)) (b : (List Aa)) : Option (Bool) :=
 cond (!decide ((a.length : Int) = (b.length : Int)))
  (some false)
  (Cy (fun q' => C6.l1 a b q') 0)
def As.j6 (k_5 : Int) (x146_6 : Bool) : Option (Lp (Int) (Lp (List Aa × Int) (Bool))) :=
 cond (x146_6)
  (up (up (some false)))
  (some (.next (W (k_5 + 1))))
def As.l5 (raw : (List Aa)) (x_3 : List Aa) (i_3 : Int) (k_5 : Int) : Option (Lp (Int) (Lp (List Aa × Int) (Bool))) :=
 cond (decide (k_5 < (x_3.length : Int)))
  ((Cc x_3 k_5).bind fun e =>
  (Be e).bind fun y_15 =>
  (Ay e).bind fun y_16 =>
  cond (!decide (y_15 = y_16))
   (As.j6 k_5 true)
   (cond (decide (0 < k_5))
    ((Cc x_3 (W (k_5 - 1))).bind fun e_2 =>
    (Df e_2 e).bind fun y_17 =>
    (Gv e_2 e).bind fun y_18 =>
    cond (!decide (y_17 = y_18))
     (As.j6 k_5 true)
     ((Df e e).bind fun y_19 =>
     As.j6 k_5 (!decide (y_19 = 0))))
    (As.j6 k_5 false)))
  (up (
   some (.next (raw, W (i_3 + 1)))))
def As.j4 (raw : (List Aa)) (x_3 : List Aa) (i_3 : Int) (x90_4 : Bool) : Option (Lp (List Aa × Int) (Bool)) :=
 cond (x90_4)
  (up (some false))
  (Cy (fun q' => As.l5 raw x_3 i_3 q') 0)
def As.l3 (raw : (List Aa)) (y_5 : (List Aa) × Aj) (x_3 : List Aa) (i_3 : Int) : Option (Lp (List Aa × Int) (Bool)) :=
 cond (decide (i_3 < 2))
  ((B4 x_3).bind fun y_9 =>
  (Cj x_3).bind fun y_10 =>
  (C8 x_3 y_5.1).bind fun y_11 =>
  (H3 x_3 y_5.1).bind fun y_12 =>
  cond (!decide (y_9.2 = y_10.2))
   (As.j4 raw x_3 i_3 true)
   (cond (!decide (y_11.2 = y_12.2))
    (As.j4 raw x_3 i_3 true)
    ((C6 y_9.1 y_10.1).bind fun y_13 =>
    cond (!y_13)
     (As.j4 raw x_3 i_3 true)
     ((C6 y_11.1 y_12.1).bind fun y_14 =>
     As.j4 raw x_3 i_3 (!y_14)))))
  (up (
   (Eh).bind fun y_20 =>
   some y_20))
def As.j2 (raw : (List Aa)) (y_5 : (List Aa) × Aj) (d_2 : Aj) (x_2 : List Aa) : Option (Bool) :=
 (Bm d_2).bind fun y_8 =>
 (N4 1232 x_2 ([y_8.1] : List Aa)).bind fun l_3 =>
 Cy (fun q' => As.l3 raw y_5 q'.1 q'.2) (l_3, 0)
def As.j1 (l : (List Int)) (raw : (List Aa)) (x25_1 : Bool) : Option (Bool) :=
 cond (x25_1)
  ((Eh).bind fun y_2 =>
  some y_2)
  ((Ib l).bind fun y_3 =>
  (C9 y_3 14).bind fun y_4 =>
  (C9 y_4.2 6).bind fun y_5 =>
  (Hc y_5.2 3).bind fun y_6 =>
  cond (y_6.1)
   ((Db y_6.2).bind fun y_7 =>
   (N4 1232 y_4.1 ([y_7.1] : List Aa)).bind fun l_2 =>
   As.j2 raw y_5 y_7.2 l_2)
   (As.j2 raw y_5 y_6.2 y_4.1))
def As (l : (List Int)) (raw : (List Aa)) : Option (Bool) :=
 (Gr l).bind fun y =>
 cond (!y)
  (As.j1 l raw true)
  (As.j1 l raw (decide (20 < (raw.length : Int))))
def A6.j7 (m_6 : Int) (found_7 : Bool) : Option (Lp (Bool × Int) (Lp (Int) (Bool))) :=
 some (.next (found_7, W (m_6 + 1)))
def A6.l6 (y_6 : (List Aa) × Aj) (y_10 : (List Aa) × Int) (n_5 : Int) (found_6 : Bool) (m_6 : Int) : Option (Lp (Bool × Int) (Lp (Int) (Bool))) :=
 cond (decide (m_6 < (y_10.1.length : Int)))
  (cond (found_6)
   (A6.j7 m_6 true)
   ((Cc y_10.1 m_6).bind fun e =>
   (Cc y_6.1 n_5).bind fun e_2 =>
   A6.j7 m_6 (decide (e = e_2))))
  (up (
   cond (!found_6)
    (up (some false))
    (some (.next (W (n_5 + 1))))))
def A6.l5 (y_4 : (List Aa) × Aj) (y_5 : (List Aa) × Aj) (y_6 : (List Aa) × Aj) (y_10 : (List Aa) × Int) (n_5 : Int) : Option (Lp (Int) (Bool)) :=
 cond (decide (n_5 < (y_6.1.length : Int)))
  (Cy (fun q' => A6.l6 y_6 y_10 n_5 q'.1 q'.2) (false, 0))
  (up (
   cond (decide ((y_10.1.length : Int) <= (W ((W ((y_4.1.length : Int) + (y_5.1.length : Int))) + (y_6.1.length : Int)))))
    ((Eh).bind fun y_16 =>
    some y_16)
    (some false)))
def A6.j4 (y_4 : (List Aa) × Aj) (y_5 : (List Aa) × Aj) (y_6 : (List Aa) × Aj) (y_10 : (List Aa) × Int) (x109_4 : Bool) : Option (Bool) :=
 cond (x109_4)
  (some false)
  (Cy (fun q' => A6.l5 y_4 y_5 y_6 y_10 q') 0)
def A6 (l : (List Int)) : Option (Bool) :=
 (Gr l).bind fun y =>
 cond (!y)
  ((Eh).bind fun y_2 =>
  some y_2)
  ((Ib l).bind fun y_3 =>
  (C9 y_3 8).bind fun y_4 =>
  (C9 y_4.2 8).bind fun y_5 =>
  (C9 y_5.2 8).bind fun y_6 =>
  (C8 y_4.1 y_5.1).bind fun y_7 =>
  (C8 y_5.1 y_4.1).bind fun y_8 =>
  (C8 y_5.1 y_6.1).bind fun y_9 =>
  (C8 y_7.1 y_6.1).bind fun y_10 =>
  (C8 y_4.1 y_9.1).bind fun y_11 =>
  (C8 y_10.1 y_10.1).bind fun y_12 =>
  cond (!decide (y_7.2 = 0))
   (A6.j4 y_4 y_5 y_6 y_10 true)
   (cond (!decide (y_8.2 = 0))
    (A6.j4 y_4 y_5 y_6 y_10 true)
    (cond (!decide (y_9.2 = 0))
     (A6.j4 y_4 y_5 y_6 y_10 true)
     (cond (!decide (y_10.2 = 0))
      (A6.j4 y_4 y_5 y_6 y_10 true)
      (cond (!decide (y_11.2 = 0))
       (A6.j4 y_4 y_5 y_6 y_10 true)
       (cond (!decide (y_12.2 = 0))
        (A6.j4 y_4 y_5 y_6 y_10 true)
        ((C6 y_7.1 y_8.1).bind fun y_13 =>
        cond (!y_13)
         (A6.j4 y_4 y_5 y_6 y_10 true)
         ((C6 y_10.1 y_11.1).bind fun y_14 =>
         cond (!y_14)
          (A6.j4 y_4 y_5 y_6 y_10 true)
          ((C6 y_10.1 y_12.1).bind fun y_15 =>
          A6.j4 y_4 y_5 y_6 y_10 (!y_15))))))))))
end
end Go.Proofs.Ytjomajedgbcngaa
