import Derived.Test.YtbpchmikjiinpaaGreatPU
set_option linter.unusedVariables false
set_option linter.unusedSimpArgs false
namespace Go.Proofs.YtbpchmikjiinpaaGreat
noncomputable section
structure Aq where
 Alg:Int
 Bits:Int
 deriving DecidableEq,Inhabited
structure Aa where
 Source:Int
 Host:ByteArray
 Machine:Int
 Day:Int
 Confidence:Int
 Kind:Int
 Subject:ByteArray
 Use:Aq
 Number:Int
 Text:ByteArray
 deriving DecidableEq,Inhabited
structure Ab where
 L:(List Int)
 At:Int
 deriving DecidableEq,Inhabited
structure Dy where
 Key:Int
 Sum:Int
 deriving DecidableEq,Inhabited
structure Ah where
 Serial:Int
 Issuer:ByteArray
 Subject:ByteArray
 Key:Aq
 KeyId:Int
 Hash:Aq
 From:Int
 To:Int
 Authority:Bool
 Path:Int
 Names:(List ByteArray)
 Seal:Dy
 deriving DecidableEq,Inhabited
structure Am where
 Key:Aq
 KeyId:Int
 Chain:(List Ah)
 deriving DecidableEq,Inhabited
structure Ad where
 Name:ByteArray
 Least:Int
 Most:Int
 Suites:(List Int)
 OwnOrder:Bool
 Identities:(List Am)
 Anchors:(List Int)
 Hashes:(List Int)
 Fallback:Bool
 deriving DecidableEq,Inhabited
structure A3 where
 Client:Int
 Server:Int
 deriving DecidableEq,Inhabited
structure Dh where
 Use:Aq
 Day:Int
 deriving DecidableEq,Inhabited
structure Bf where
 Name:ByteArray
 Kind:Int
 Purpose:Int
 Links:(List Dh)
 Until:Int
 deriving DecidableEq,Inhabited
structure Ap where
 Endpoints:(List Ad)
 Edges:(List A3)
 Items:(List Bf)
 deriving DecidableEq,Inhabited
structure As where
 name:ByteArray
 kind:Int
 deriving DecidableEq,Inhabited
structure Ae where
 Tag:Int
 Bytes:(List UInt8)
 Nested:Bool
 Elements:(List Ae)
structure A1 where
 Code:Int
 Name:ByteArray
 Exchange:Aq
 Sign:Aq
 Cipher:Aq
 Mac:Aq
 Least:Int
 Most:Int
 deriving DecidableEq,Inhabited
structure Ey where
 at_:Aa
 l:(List Aa)
 deriving DecidableEq,Inhabited
structure Cd where
 name:ByteArray
 kind:Int
 way:Int
 sizes:(List Int)
 strengths:(List Int)
 deriving DecidableEq,Inhabited
structure Dp where
 host:ByteArray
 day:Int
 kind:Int
 use:Aq
 number:Int
 text:ByteArray
 deriving DecidableEq,Inhabited
def O6 (l:(List Int)):Option (Bool):=
 some (decide ((l.length:Int)<=400))
def Mv (host:ByteArray) (day:Int):Option (Aa):=
 some (Aa.mk 3 host 1 day 90 4 (⟨#[116,108,115]⟩:ByteArray) (Aq.mk 0 0) 1 (⟨#[]⟩:ByteArray))
def Ch.l1 (s:(List Int)) (v:Int) (x8_1:Int):Option (Lp (Int) (Int)):=
 cond (decide (x8_1 < (s.length:Int)))
  ((Bu s x8_1).bind fun e=>
  cond (decide (v=e))
   (up (some x8_1))
   (some (.next (W (x8_1 + 1)))))
  (up (
   some (-1)))
def Ch (s:(List Int)) (v:Int):Option (Int):=
 B2 (fun q'=>Ch.l1 s v q') 0
def Db (s:(List Int)) (v:Int):Option (Bool):=
 (Ch s v).bind fun y=>
 some (decide (0<=y))
def F0 (x':Am) (c0:Aa):Option (Bool):=
 cond (decide (x'.Key=c0.Use))
  (some (decide (x'.KeyId=c0.Number)))
  (some false)
def Bo.l1 (s:(List Am)) (f:Am->Option (Bool)) (x8_1:Int):Option (Lp (Int) (Int)):=
 cond (decide (x8_1 < (s.length:Int)))
  ((Bu s x8_1).bind fun e=>
  (f e).bind fun y=>
  cond (y)
   (up (some x8_1))
   (some (.next (W (x8_1 + 1)))))
  (up (
   some (-1)))
def Bo (s:(List Am)) (f:Am->Option (Bool)):Option (Int):=
 B2 (fun q'=>Bo.l1 s f q') 0
def Eh (s:(List Am)) (f:Am->Option (Bool)):Option (Bool):=
 (Bo s f).bind fun y=>
 some (decide (0<=y))
def El (e:Ad) (f:Aa):Option (Bool):=
 cond (!decide (f.Host=e.Name))
  (some false)
  (cond (decide (f.Kind=2))
   ((Db e.Suites f.Number).bind fun y=>
   some (!y))
   (cond (decide (f.Kind=3))
    ((Eh e.Identities (fun x0=>F0 x0 f)).bind fun y_2=>
    some (!y_2))
    (cond (decide (f.Kind=4))
     (some (!decide (f.Number=e.Most)))
     (cond (decide (f.Kind=5))
      (some (!decide (f.Number=e.Least)))
      (cond (decide (f.Kind=6))
       ((Db e.Anchors f.Number).bind fun y_3=>
       some (!y_3))
       (some false))))))
def Ky:Option (Bool):=
 (Mv (⟨#[97,112,112]⟩:ByteArray) 3).bind fun y=>
 (El (Ad.mk (⟨#[97,112,112]⟩:ByteArray) 1 3 ([10]:List Int) false ([]:(List Am)) ([]:(List Int)) ([]:(List Int)) false) (Aa.mk y.Source y.Host y.Machine y.Day y.Confidence 2 y.Subject y.Use 2 y.Text)).bind fun y_2=>
 cond (y_2)
  ((El (Ad.mk (⟨#[97,112,112]⟩:ByteArray) 1 3 ([10]:List Int) false ([]:(List Am)) ([]:(List Int)) ([]:(List Int)) false) (Aa.mk y.Source y.Host y.Machine y.Day y.Confidence 2 y.Subject y.Use 10 y.Text)).bind fun y_3=>
  some (!y_3))
  (some false)
def Q6 (l:(List Int)):Option (Ab):=
 some (Ab.mk l 0)
def P8 (n:Int) (k:Int):Option (Int):=
 cond (decide (k < 1))
  (some 0)
  ((Yg n k).bind fun q=>
  (Yg (W (q + k)) k).bind fun q_2=>
  some q_2)
def Bi (d:Ab) (n:Int):Option (Int×Ab):=
 cond (decide ((d.L.length:Int)<=d.At))
  (some (0,d))
  ((Bu d.L (W ((W (d.At + 1)) - 1))).bind fun e=>
  (P8 e n).bind fun y=>
  some (y,(Ab.mk d.L (W (d.At + 1)))))
def B3 (d:Ab) (l:(List Int)):Option (Int×Ab):=
 (Bi d (l.length:Int)).bind fun y=>
 (Bu l y.1).bind fun e=>
 some (e,y.2)
def E3 (d:Ab) (n:Int):Option (Bool×Ab):=
 (Bi d n).bind fun y=>
 some (decide (y.1=(W (n - 1))),y.2)
def Sz:Option (Aq):=
 some (Aq.mk 5 2048)
def M3 (c:Ah):Option (Ah):=
 (F3 16 ([]:List ByteArray) c.Names).bind fun l=>
 some (Ah.mk c.Serial c.Issuer c.Subject c.Key c.KeyId c.Hash c.From c.To c.Authority c.Path l c.Seal)
def Cj.j3 (i_2:Int) (x27_3:Bool):Option (Lp (Int) (Bool)):=
 cond (x27_3)
  (up (some false))
  (some (.next (W (i_2 + 1))))
def Cj.l2 (s:ByteArray) (i_2:Int):Option (Lp (Int) (Bool)):=
 cond (decide (i_2 < (s.size:Int)))
  ((iE s i_2).bind fun c=>
  cond (decide ((c.toNat:Int) < 33))
   (Cj.j3 i_2 true)
   ((iE s i_2).bind fun c_2=>
   Cj.j3 i_2 (decide (126 < (c_2.toNat:Int)))))
  (up (
   some true))
def Cj.j1 (s:ByteArray) (x11_1:Bool):Option (Bool):=
 cond (x11_1)
  (some false)
  (B2 (fun q'=>Cj.l2 s q') 0)
def Cj (s:ByteArray):Option (Bool):=
 cond (decide ((s.size:Int) < 1))
  (Cj.j1 s true)
  (Cj.j1 s (decide (32 < (s.size:Int))))
def D1.j1 (b:Int) (x3_1:Bool):Option (Int):=
 cond (x3_1)
  (some 0)
  (cond (decide (b < 1024))
   (some 56)
   (cond (decide (b < 2048))
    (some 80)
    (cond (decide (b < 3072))
     (some 112)
     (cond (decide (b < 7680))
      (some 128)
      (cond (decide (b < 15360))
       (some 192)
       (some 256))))))
def D1 (b:Int):Option (Int):=
 cond (decide (b < 512))
  (D1.j1 b true)
  (D1.j1 b (decide (16384 < b)))
def B7.l1 (b:Int) (sizes:(List Int)) (strengths:(List Int)) (i_1:Int):Option (Lp (Int) (Int)):=
 cond (decide (i_1 < (sizes.length:Int)))
  ((Bu sizes i_1).bind fun e=>
  cond (decide (e=b))
   ((Bu strengths i_1).bind fun e_2=>
   up (some e_2))
   (some (.next (W (i_1 + 1)))))
  (up (
   some 0))
def B7 (b:Int) (sizes:(List Int)) (strengths:(List Int)):Option (Int):=
 B2 (fun q'=>B7.l1 b sizes strengths q') 0
def Dt.j2 (alg:Int) (x14_2:Bool):Option (Int):=
 cond (x14_2)
  (some 256)
  (cond (decide (alg=19))
   (some 64)
   (cond (decide (alg=20))
    (some 80)
    (some 0)))
def Dt.j1 (alg:Int) (x8_1:Bool):Option (Int):=
 cond (x8_1)
  (some 128)
  (cond (decide (alg=4))
   (some 192)
   (cond (decide (alg=18))
    (Dt.j2 alg (decide (alg=18)))
    (Dt.j2 alg (decide (alg=22)))))
def Dt (alg:Int):Option (Int):=
 cond (decide (alg=1))
  (some 18)
  (cond (decide (alg=2))
   (some 60)
   (cond (decide (alg=3))
    (Dt.j1 alg (decide (alg=3)))
    (cond (decide (alg=8))
     (Dt.j1 alg (decide (alg=8)))
     (Dt.j1 alg (decide (alg=21))))))
def Av.j3 (u:Aq) (x35_3:Bool):Option (Int):=
 cond (x35_3)
  ((Og u.Bits 2).bind fun q=>
  some q)
  (some 0)
def Av.j4 (u:Aq) (x62_4:Bool):Option (Int):=
 cond (x62_4)
  ((B7 u.Bits ([128,256]:List Int) ([128,256]:List Int)).bind fun y_6=>
  some y_6)
  ((Dt u.Alg).bind fun y_7=>
  (B7 u.Bits ([0]:List Int) ([y_7]:List Int)).bind fun y_8=>
  some y_8)
def Av.j2 (u:Aq) (x15_2:Bool):Option (Int):=
 cond (x15_2)
  (cond (decide (u.Bits=160))
   (Av.j3 u true)
   (cond (decide (u.Bits=224))
    (Av.j3 u true)
    (cond (decide (u.Bits=256))
     (Av.j3 u true)
     (cond (decide (u.Bits=384))
      (Av.j3 u true)
      (Av.j3 u (decide (u.Bits=521)))))))
  (cond (decide (u.Alg=9))
   ((B7 u.Bits ([44,65,87]:List Int) ([128,192,256]:List Int)).bind fun y_2=>
   some y_2)
   (cond (decide (u.Alg=13))
    ((B7 u.Bits ([512,768,1024]:List Int) ([128,192,256]:List Int)).bind fun y_3=>
    some y_3)
    (cond (decide (u.Alg=14))
     ((B7 u.Bits ([40,128]:List Int) ([40,60]:List Int)).bind fun y_4=>
     some y_4)
     (cond (decide (u.Alg=15))
      ((B7 u.Bits ([112,168]:List Int) ([80,112]:List Int)).bind fun y_5=>
      some y_5)
      (cond (decide (u.Alg=16))
       (Av.j4 u (decide (u.Alg=16)))
       (Av.j4 u (decide (u.Alg=17))))))))
def Av.j1 (u:Aq) (x8_1:Bool):Option (Int):=
 cond (x8_1)
  ((D1 u.Bits).bind fun y=>
  some y)
  (cond (decide (u.Alg=7))
   (Av.j2 u (decide (u.Alg=7)))
   (Av.j2 u (decide (u.Alg=12))))
def Av (u:Aq):Option (Int):=
 cond (decide (u.Alg=5))
  (Av.j1 u (decide (u.Alg=5)))
  (cond (decide (u.Alg=6))
   (Av.j1 u (decide (u.Alg=6)))
   (cond (decide (u.Alg=10))
    (Av.j1 u (decide (u.Alg=10)))
    (Av.j1 u (decide (u.Alg=11)))))
def Ik (u:Aq):Option (Bool):=
 (Av u).bind fun y=>
 some (decide (0 < y))
def S3:Option ((List As)):=
 some ([(As.mk (⟨#[]⟩:ByteArray) 0),(As.mk (⟨#[109,100,53]⟩:ByteArray) 1),(As.mk (⟨#[115,104,97,49]⟩:ByteArray) 1),(As.mk (⟨#[115,104,97,50,53,54]⟩:ByteArray) 1),(As.mk (⟨#[115,104,97,51,56,52]⟩:ByteArray) 1),(As.mk (⟨#[114,115,97]⟩:ByteArray) 2),(As.mk (⟨#[100,115,97]⟩:ByteArray) 2),(As.mk (⟨#[101,99,100,115,97]⟩:ByteArray) 2),(As.mk (⟨#[101,100,50,53,53,49,57]⟩:ByteArray) 2),(As.mk (⟨#[109,108,100,115,97]⟩:ByteArray) 2),(As.mk (⟨#[114,115,97,107,120]⟩:ByteArray) 3),(As.mk (⟨#[100,104,101]⟩:ByteArray) 3),(As.mk (⟨#[101,99,100,104,101]⟩:ByteArray) 3),(As.mk (⟨#[109,108,107,101,109]⟩:ByteArray) 3),(As.mk (⟨#[114,99,52]⟩:ByteArray) 4),(As.mk (⟨#[100,101,115,51]⟩:ByteArray) 4),(As.mk (⟨#[97,101,115,99,98,99]⟩:ByteArray) 4),(As.mk (⟨#[97,101,115,103,99,109]⟩:ByteArray) 4),(As.mk (⟨#[99,104,97,99,104,97]⟩:ByteArray) 4),(As.mk (⟨#[104,109,97,99,109,100,53]⟩:ByteArray) 5),(As.mk (⟨#[104,109,97,99,115,104,97,49]⟩:ByteArray) 5),(As.mk (⟨#[104,109,97,99,115,104,97,50,53,54]⟩:ByteArray) 5),(As.mk (⟨#[97,101,97,100]⟩:ByteArray) 5)]:List As)
def Fq.j1 (alg:Int) (x8_1:Bool):Option (Int):=
 cond (x8_1)
  (some 0)
  ((S3).bind fun y=>
  (Bu y alg).bind fun e=>
  some e.kind)
def Fq (alg:Int):Option (Int):=
 cond (decide (alg < 1))
  (Fq.j1 alg true)
  (Fq.j1 alg (decide (22 < alg)))
def Fp (u:Aq):Option (Bool):=
 (Ik u).bind fun y=>
 cond (y)
  ((Fq u.Alg).bind fun y_2=>
  some (decide (y_2=2)))
  (some false)
def A8.j5 (i_4:Int) (x123_5:Bool):Option (Lp (Int) (Int)):=
 cond (x123_5)
  (up (some 9))
  (some (.next (W (i_4 + 1))))
def A8.j6 (x145_6:Bool):Option (Int):=
 cond (x145_6)
  (some 9)
  (some 0)
def A8.l4 (c:Ah) (i_4:Int):Option (Lp (Int) (Int)):=
 cond (decide (i_4 < (c.Names.length:Int)))
  ((Bu c.Names i_4).bind fun e=>
  (Cj e).bind fun y_6=>
  cond (!y_6)
   (A8.j5 i_4 true)
   (cond (decide (0 < i_4))
    ((Bu c.Names (W (i_4 - 1))).bind fun e_2=>
    A8.j5 i_4 (!Mc (Hq e_2) (Hq e)))
    (A8.j5 i_4 false)))
  (up (
   cond (decide (c.Seal.Key < 0))
    (A8.j6 true)
    (cond (decide (2147483648 < c.Seal.Key))
     (A8.j6 true)
     (cond (decide (c.Seal.Sum < 0))
      (A8.j6 true)
      (A8.j6 (decide (4294967296<=c.Seal.Sum)))))))
def A8.j3 (c:Ah) (x91_3:Bool):Option (Int):=
 cond (x91_3)
  (some 9)
  (B2 (fun q'=>A8.l4 c q') 0)
def A8.j2 (c:Ah) (x67_2:Bool):Option (Int):=
 cond (x67_2)
  (some 9)
  (cond (decide (c.Path < 0))
   (A8.j3 c true)
   (cond (decide (8 < c.Path))
    (A8.j3 c true)
    (cond (!c.Authority)
     (cond (!decide (c.Path=0))
      (A8.j3 c true)
      (A8.j3 c (decide (8 < (c.Names.length:Int)))))
     (A8.j3 c (decide (8 < (c.Names.length:Int)))))))
def A8.j1 (c:Ah) (x39_1:Bool):Option (Int):=
 cond (x39_1)
  (some 9)
  ((Ik c.Hash).bind fun y_4=>
  cond (!y_4)
   (A8.j2 c true)
   ((Fq c.Hash.Alg).bind fun y_5=>
   cond (!decide (y_5=1))
    (A8.j2 c true)
    (cond (decide (c.From < 0))
     (A8.j2 c true)
     (cond (decide (c.To < c.From))
      (A8.j2 c true)
      (A8.j2 c (decide (40000 < c.To)))))))
def A8 (c:Ah):Option (Int):=
 cond (decide (c.Serial < 0))
  (A8.j1 c true)
  (cond (decide (1099511627776 < c.Serial))
   (A8.j1 c true)
   ((Cj c.Issuer).bind fun y=>
   cond (!y)
    (A8.j1 c true)
    ((Cj c.Subject).bind fun y_2=>
    cond (!y_2)
     (A8.j1 c true)
     ((Fp c.Key).bind fun y_3=>
     cond (!y_3)
      (A8.j1 c true)
      (cond (decide (c.KeyId < 0))
       (A8.j1 c true)
       (A8.j1 c (decide (2147483648 < c.KeyId))))))))
def Kp (s:ByteArray):Option (Ae):=
 some (Ae.mk 12 (Hq s) false ([]:(List Ae)))
def Cr.j2 (x_1:Int) (b_1:List UInt8) (x35_2:Bool):Option (Lp (Int×List UInt8) (Ae)):=
 cond (x35_2)
  ((F3 1 ([(u8 x_1)]:List UInt8) b_1).bind fun l=>
  (Vd .i64 x_1 8).bind fun q_2=>
  some (.next (q_2,l)))
  (up (
   some (Ae.mk 2 b_1 false ([]:(List Ae)))))
def Cr.l1 (x_1:Int) (b_1:List UInt8):Option (Lp (Int×List UInt8) (Ae)):=
 cond (!decide (x_1=0))
  (cond (!decide (x_1=(-1)))
   (Cr.j2 x_1 b_1 true)
   (cond (decide (x_1=0))
    ((Bu b_1 0).bind fun e=>
    cond (decide (128<=(e.toNat:Int)))
     (Cr.j2 x_1 b_1 true)
     (cond (decide (x_1=(-1)))
      (Cr.j2 x_1 b_1 (decide ((e.toNat:Int) < 128)))
      (Cr.j2 x_1 b_1 false)))
    (cond (decide (x_1=(-1)))
     ((Bu b_1 0).bind fun e_2=>
     Cr.j2 x_1 b_1 (decide ((e_2.toNat:Int) < 128)))
     (Cr.j2 x_1 b_1 false))))
  (cond (decide (x_1=0))
   ((Bu b_1 0).bind fun e_3=>
   cond (decide (128<=(e_3.toNat:Int)))
    (Cr.j2 x_1 b_1 true)
    (cond (decide (x_1=(-1)))
     (Cr.j2 x_1 b_1 (decide ((e_3.toNat:Int) < 128)))
     (Cr.j2 x_1 b_1 false)))
   (cond (decide (x_1=(-1)))
    ((Bu b_1 0).bind fun e_4=>
    Cr.j2 x_1 b_1 (decide ((e_4.toNat:Int) < 128)))
    (Cr.j2 x_1 b_1 false)))
def Cr (n:Int):Option (Ae):=
 (Vd .i64 n 8).bind fun q=>
 B2 (fun q'=>Cr.l1 q'.1 q'.2) (q,([(u8 n)]:List UInt8))
def Cz.l1 (rec:(List Ae)->Option ((List Ae))) (l:(List Ae)) (i_1:Int) (out_1:List Ae):Option (Lp (Int×List Ae) ((List Ae))):=
 cond (decide (i_1 < (l.length:Int)))
  ((Bu l i_1).bind fun e=>
  (F3 1 ([]:List UInt8) e.Bytes).bind fun l_2=>
  (rec e.Elements).bind fun y=>
  (F3 256 out_1 ([(Ae.mk e.Tag l_2 e.Nested y)]:List Ae)).bind fun l_3=>
  some (.next (W (i_1 + 1),l_3)))
  (up (
   some out_1))
def Cz.F (rec:(List Ae)->Option ((List Ae))) (l:(List Ae)):Option ((List Ae)):=
 B2 (fun q'=>Cz.l1 rec l q'.1 q'.2) (0,([]:List Ae))
def Cz (l:(List Ae)):Option ((List Ae)):=Z2 (fun rec (x:(List Ae))=>Cz.F (fun l=>rec l) x) l
def Jk (l:(List Ae)):Option (Ae):=
 (Cz l).bind fun y=>
 some (Ae.mk 48 ([]:(List UInt8)) true y)
def My (u:Aq):Option (Ae):=
 (Cr u.Alg).bind fun y=>
 (Cr u.Bits).bind fun y_2=>
 (Jk ([y,y_2]:List Ae)).bind fun y_3=>
 some y_3
def O2 (b:Bool):Option (Ae):=
 cond (b)
  (some (Ae.mk 1 ([(255:UInt8)]:List UInt8) false ([]:(List Ae))))
  (some (Ae.mk 1 ([(0:UInt8)]:List UInt8) false ([]:(List Ae))))
def Fs.l1 (c:Ah) (i_1:Int) (names_1:List Ae):Option (Lp (Int×List Ae) (Ae)):=
 cond (decide (i_1 < (c.Names.length:Int)))
  ((Bu c.Names i_1).bind fun e=>
  (Kp e).bind fun y=>
  (F3 256 names_1 ([y]:List Ae)).bind fun l=>
  some (.next (W (i_1 + 1),l)))
  (up (
   (Cr c.Serial).bind fun y_12=>
   (Kp c.Issuer).bind fun y_13=>
   (Kp c.Subject).bind fun y_14=>
   (My c.Key).bind fun y_15=>
   (Cr c.KeyId).bind fun y_16=>
   (My c.Hash).bind fun y_17=>
   (Cr c.From).bind fun y_18=>
   (Cr c.To).bind fun y_19=>
   (O2 c.Authority).bind fun y_20=>
   (Cr c.Path).bind fun y_21=>
   (Jk names_1).bind fun y_22=>
   (Jk ([y_12,y_13,y_14,y_15,y_16,y_17,y_18,y_19,y_20,y_21,y_22]:List Ae)).bind fun y_23=>
   some y_23))
def Fs (c:Ah):Option (Ae):=
 B2 (fun q'=>Fs.l1 c q'.1 q'.2) (0,([]:List Ae))
def Oe (n:Int):Option (Bool):=
 cond (decide (1<=n))
  (cond (decide (n<=255))
   ((Yg n 32).bind fun q=>
   some (!decide (q=31)))
   (some false))
  (some false)
def By.l2 (rec:Ae->Option (Bool)) (v:Ae) (i_2:Int):Option (Lp (Int) (Bool)):=
 cond (decide (i_2 < (v.Elements.length:Int)))
  ((Bu v.Elements i_2).bind fun e=>
  (rec e).bind fun y_2=>
  cond (!y_2)
   (up (some false))
   (some (.next (W (i_2 + 1)))))
  (up (
   some true))
def By.j1 (rec:Ae->Option (Bool)) (v:Ae) (x38_1:Bool):Option (Bool):=
 cond (x38_1)
  (some false)
  (B2 (fun q'=>By.l2 rec v q') 0)
def By.F (rec:Ae->Option (Bool)) (v:Ae):Option (Bool):=
 (Oe v.Tag).bind fun y=>
 cond (!y)
  (By.j1 rec v true)
  ((Og v.Tag 32).bind fun q=>
  (Yg q 2).bind fun q_2=>
  cond (!decide (v.Nested=(decide (q_2=1))))
   (By.j1 rec v true)
   (cond (v.Nested)
    (cond (decide (0 < (v.Bytes.length:Int)))
     (By.j1 rec v true)
     (By.j1 rec v false))
    (By.j1 rec v (decide (0 < (v.Elements.length:Int))))))
def By (v:Ae):Option (Bool):=Z2 (fun rec (x:Ae)=>By.F (fun v=>rec v) x) v
def C5.l1 (rec:Ae->Option (Int)) (v:Ae) (d_1:Int) (i_1:Int):Option (Lp (Int×Int) (Int)):=
 cond (decide (i_1 < (v.Elements.length:Int)))
  ((Bu v.Elements i_1).bind fun e=>
  (rec e).bind fun y=>
  some (.next (max d_1 y,W (i_1 + 1))))
  (up (
   some (W (d_1 + 1))))
def C5.F (rec:Ae->Option (Int)) (v:Ae):Option (Int):=
 B2 (fun q'=>C5.l1 rec v q'.1 q'.2) (0,0)
def C5 (v:Ae):Option (Int):=Z2 (fun rec (x:Ae)=>C5.F (fun v=>rec v) x) v
def E4.l1 (n_1:Int) (b_1:List UInt8):Option (Lp (Int×List UInt8) ((List UInt8))):=
 cond (decide (0 < n_1))
  ((Yg n_1 256).bind fun q=>
  (F3 1 ([(u8 q)]:List UInt8) b_1).bind fun l=>
  (Og n_1 256).bind fun q_2=>
  some (.next (q_2,l)))
  (up (
   (F3 1 ([(u8 (W (128 + (b_1.length:Int))))]:List UInt8) b_1).bind fun l_2=>
   some l_2))
def E4 (n:Int):Option ((List UInt8)):=
 cond (decide (n < 128))
  (some ([(u8 n)]:List UInt8))
  (B2 (fun q'=>E4.l1 q'.1 q'.2) (n,([]:List UInt8)))
def Du.l1 (rec:Ae->Option ((List UInt8))) (v:Ae) (i_1:Int) (b_1:List UInt8):Option (Lp (Int×List UInt8) ((List UInt8))):=
 cond (decide (i_1 < (v.Elements.length:Int)))
  ((Bu v.Elements i_1).bind fun e=>
  (rec e).bind fun y=>
  (F3 1 b_1 y).bind fun l_2=>
  some (.next (W (i_1 + 1),l_2)))
  (up (
   (E4 (b_1.length:Int)).bind fun y_2=>
   (F3 1 ([(u8 v.Tag)]:List UInt8) y_2).bind fun l_3=>
   (F3 1 l_3 b_1).bind fun l_4=>
   some l_4))
def Du.F (rec:Ae->Option ((List UInt8))) (v:Ae):Option ((List UInt8)):=
 (F3 1 ([]:List UInt8) v.Bytes).bind fun l=>
 B2 (fun q'=>Du.l1 rec v q'.1 q'.2) (0,l)
def Du (v:Ae):Option ((List UInt8)):=Z2 (fun rec (x:Ae)=>Du.F (fun v=>rec v) x) v
def Lq (v:Ae):Option ((List UInt8)×Int):=
 (By v).bind fun y=>
 cond (!y)
  (some (([]:(List UInt8)),1))
  ((C5 v).bind fun y_2=>
  cond (decide (16 < y_2))
   (some (([]:(List UInt8)),3))
   ((Du v).bind fun y_3=>
   cond (decide (4096 < (y_3.length:Int)))
    (some (([]:(List UInt8)),3))
    (some (y_3,0))))
def K0 (c:Ah):Option ((List UInt8)×Int):=
 (A8 c).bind fun y=>
 cond (!decide (y=0))
  (some (([]:(List UInt8)),9))
  ((Fs c).bind fun y_2=>
  (Lq y_2).bind fun y_3=>
  some (y_3.1,y_3.2))
def Gh.l1 (b:(List UInt8)) (h_1:Int) (i_1:Int):Option (Lp (Int×Int) (Int)):=
 cond (decide (i_1 < (b.length:Int)))
  ((Bu b i_1).bind fun e=>
  some (.next (IntKind.wrap .u32 ((S0 .u32 h_1 (IntKind.wrap .u32 (e.toNat:Int))) * 16777619),W (i_1 + 1))))
  (up (
   some (W h_1)))
def Gh (b:(List UInt8)):Option (Int):=
 B2 (fun q'=>Gh.l1 b q'.1 q'.2) (2166136261,0)
def Fo.j1 (key:Int) (y:Ah) (x22_1:Bool):Option (Ah×Int):=
 cond (x22_1)
  (some ((Ah.mk 0 (⟨#[]⟩:ByteArray) (⟨#[]⟩:ByteArray) (Aq.mk 0 0) 0 (Aq.mk 0 0) 0 0 false 0 ([]:(List ByteArray)) (Dy.mk 0 0)),9))
  ((K0 (Ah.mk y.Serial y.Issuer y.Subject y.Key y.KeyId y.Hash y.From y.To y.Authority y.Path y.Names (Dy.mk 0 0))).bind fun y_3=>
  (Gh y_3.1).bind fun y_4=>
  some ((Ah.mk y.Serial y.Issuer y.Subject y.Key y.KeyId y.Hash y.From y.To y.Authority y.Path y.Names (Dy.mk key y_4)),0))
def Fo (c:Ah) (key:Int):Option (Ah×Int):=
 (M3 c).bind fun y=>
 (A8 (Ah.mk y.Serial y.Issuer y.Subject y.Key y.KeyId y.Hash y.From y.To y.Authority y.Path y.Names (Dy.mk 0 0))).bind fun y_2=>
 cond (!decide (y_2=0))
  (Fo.j1 key y true)
  (cond (decide (key < 0))
   (Fo.j1 key y true)
   (Fo.j1 key y (decide (2147483648 < key))))
def Mt (name:ByteArray) (key:Aq) (id:Int) (anchor:Int) (to:Int):Option (Am):=
 (Fo (Ah.mk id (⟨#[114,111,111,116]⟩:ByteArray) name key id (Aq.mk 3 0) 0 to false 0 ([name]:List ByteArray) (Dy.mk 0 0)) anchor).bind fun y=>
 some (Am.mk key id ([y.1]:List Ah))
def Ff (d:Ab) (l:(List ByteArray)):Option (ByteArray×Ab):=
 (Bi d (l.length:Int)).bind fun y=>
 (Bu l y.1).bind fun e=>
 some (e,y.2)
def Hn.l1 (name:ByteArray) (y:Int×Ab) (y_2:Int×Ab) (day_1:Int) (i_1:Int) (d_1:Ab) (l_1:List Dh):Option (Lp (Int×Int×Ab×List Dh) (Bf×Ab)):=
 cond (decide (0 < i_1))
  ((Bi d_1 6).bind fun y_5=>
  (Bu ([(Aq.mk 2 0),(Aq.mk 1 0),(Aq.mk 5 2048),(Aq.mk 16 128),(Aq.mk 3 0),(Aq.mk 15 168)]:List Aq) y_5.1).bind fun e=>
  (F3 72 l_1 ([(Dh.mk e day_1)]:List Dh)).bind fun l=>
  (B3 y_5.2 ([5,30,0,100]:List Int)).bind fun y_6=>
  some (.next (W ((W (day_1 + 1)) + y_6.1),W (i_1 - 1),y_6.2,l)))
  (up (
   (Bu l_1 0).bind fun e_2=>
   (B3 d_1 ([50,300,0,3000]:List Int)).bind fun y_7=>
   some ((Bf.mk name (W (1 + y.1)) (W (1 + y_2.1)) l_1 (W (e_2.Day + y_7.1))),y_7.2)))
def Hn (d:Ab) (name:ByteArray):Option (Bf×Ab):=
 (Bi d 2).bind fun y=>
 (Bi y.2 4).bind fun y_2=>
 (Bi y_2.2 20).bind fun y_3=>
 (Bi y_3.2 3).bind fun y_4=>
 B2 (fun q'=>Hn.l1 name y y_2 q'.1 q'.2.1 q'.2.2.1 q'.2.2.2) (y_3.1,W (1 + y_4.1),y_4.2,([]:List Dh))
def Bk.j2 (x18_1:Int) (l_1:List Ad) (e:ByteArray) (y_2:Int×Ab) (y_4:Bool×Ab) (y_5:Bool×Ab) (x_2:List Int):Option (Lp (Int×Ab×List Ad) (Ap×Ab)):=
 (Sz).bind fun y_6=>
 (Mt e y_6 (W (100 + x18_1)) 1 901).bind fun y_7=>
 (F3 1296 l_1 ([(Ad.mk e 1 y_2.1 x_2 y_4.1 ([y_7]:List Am) ([1]:List Int) ([2,3]:List Int) y_5.1)]:List Ad)).bind fun l_3=>
 some (.next (W (x18_1 + 1),y_5.2,l_3))
def Bk.j9 (x71_7:Int) (d_9:Ab) (l_9:List A3):Option (Lp (Int×Ab×List A3) (Lp (Int×Ab×List A3) (Ap×Ab))):=
 some (.next (W (x71_7 + 1),d_9,l_9))
def Bk.j8 (x66_6:Int) (x71_7:Int) (l_7:List A3) (x87_8:Bool) (d_8:Ab):Option (Lp (Int×Ab×List A3) (Lp (Int×Ab×List A3) (Ap×Ab))):=
 cond (x87_8)
  ((F3 32 l_7 ([(A3.mk x66_6 x71_7)]:List A3)).bind fun l_4=>
  Bk.j9 x71_7 d_8 l_4)
  (Bk.j9 x71_7 d_8 l_7)
def Bk.l7 (y:Int×Ab) (x66_6:Int) (x71_7:Int) (d_7:Ab) (l_7:List A3):Option (Lp (Int×Ab×List A3) (Lp (Int×Ab×List A3) (Ap×Ab))):=
 cond (decide (x71_7 < ((((W (2 + y.1):Int).toNat - (0:Int).toNat):Nat):Int)))
  (cond (!decide (x66_6=x71_7))
   ((Bi d_7 3).bind fun y_8=>
   cond (decide (0 < y_8.1))
    (Bk.j8 x66_6 x71_7 l_7 (decide ((l_7.length:Int) < 3)) y_8.2)
    (Bk.j8 x66_6 x71_7 l_7 false y_8.2))
   (Bk.j8 x66_6 x71_7 l_7 false d_7))
  (up (
   some (.next (W (x66_6 + 1),d_7,l_7))))
def Bk.l11 (l_1:List Ad) (l_10:List A3) (i_11:Int) (d_11:Ab) (l_11:List Bf):Option (Lp (Int×Ab×List Bf) (Ap×Ab)):=
 cond (decide (0 < i_11))
  ((Ff d_11 ([(⟨#[98,97,99,107,117,112]⟩:ByteArray),(⟨#[100,101,101,100]⟩:ByteArray)]:List ByteArray)).bind fun y_10=>
  (Hn y_10.2 y_10.1).bind fun y_11=>
  (F3 320 l_11 ([y_11.1]:List Bf)).bind fun l_5=>
  some (.next (W (i_11 - 1),y_11.2,l_5)))
  (up (
   some ((Ap.mk l_1 l_10 l_11),d_11)))
def Bk.j10 (l_1:List Ad) (d_6:Ab) (l_10:List A3):Option (Ap×Ab):=
 (Bi d_6 3).bind fun y_9=>
 B2 (fun q'=>Bk.l11 l_1 l_10 q'.1 q'.2.1 q'.2.2) (y_9.1,y_9.2,([]:List Bf))
def Bk.l6 (y:Int×Ab) (l_1:List Ad) (x66_6:Int) (d_6:Ab) (l_6:List A3):Option (Lp (Int×Ab×List A3) (Ap×Ab)):=
 cond (decide (x66_6 < ((((W (2 + y.1):Int).toNat - (0:Int).toNat):Nat):Int)))
  (B2 (fun q'=>Bk.l7 y x66_6 q'.1 q'.2.1 q'.2.2) (0,d_6,l_6))
  (up (
   cond (decide ((l_6.length:Int)=0))
    (Bk.j10 l_1 d_6 ([(A3.mk 0 1)]:List A3))
    (Bk.j10 l_1 d_6 l_6)))
def Bk.l1 (y:Int×Ab) (x18_1:Int) (d_1:Ab) (l_1:List Ad):Option (Lp (Int×Ab×List Ad) (Ap×Ab)):=
 cond (decide (x18_1 < ((((W (2 + y.1):Int).toNat - (0:Int).toNat):Nat):Int)))
  ((Bu ((([(⟨#[97,112,112]⟩:ByteArray),(⟨#[100,98]⟩:ByteArray),(⟨#[119,101,98]⟩:ByteArray)]:List ByteArray).drop ((0:Int).toNat)).take ((W (2 + y.1):Int).toNat - (0:Int).toNat)) x18_1).bind fun e=>
  (B3 d_1 ([3,3,4]:List Int)).bind fun y_2=>
  (Bi y_2.2 3).bind fun y_3=>
  (Bu ([([10,8,2]:List Int),([8,2]:List Int),([2,10,8,3]:List Int)]:List (List Int)) y_3.1).bind fun e_2=>
  (E3 y_3.2 2).bind fun y_4=>
  (E3 y_4.2 3).bind fun y_5=>
  cond (decide (y_2.1=4))
   ((F3 8 ([14]:List Int) e_2).bind fun l_2=>
   Bk.j2 x18_1 l_1 e y_2 y_4 y_5 l_2)
   (Bk.j2 x18_1 l_1 e y_2 y_4 y_5 e_2))
  (up (
   B2 (fun q'=>Bk.l6 y l_1 q'.1 q'.2.1 q'.2.2) (0,d_1,([]:List A3))))
def Bk (d:Ab):Option (Ap×Ab):=
 (Bi d 2).bind fun y=>
 (Zo ([(⟨#[97,112,112]⟩:ByteArray),(⟨#[100,98]⟩:ByteArray),(⟨#[119,101,98]⟩:ByteArray)]:List ByteArray) 0 (W (2 + y.1))).bind fun l=>
 B2 (fun q'=>Bk.l1 y q'.1 q'.2.1 q'.2.2) (0,y.2,([]:List Ad))
def Gi.l1 (l:(List Int)) (n:Int) (i_1:Int):Option (Lp (Int) (Bool)):=
 cond (decide (i_1 < (l.length:Int)))
  ((Bu l i_1).bind fun e=>
  cond (decide (e=n))
   (up (some true))
   (some (.next (W (i_1 + 1)))))
  (up (
   some false))
def Gi (l:(List Int)) (n:Int):Option (Bool):=
 B2 (fun q'=>Gi.l1 l n q') 0
def Dm (alg:Int) (bits:Int):Option (Aq):=
 some (Aq.mk alg bits)
def D0 (code:Int) (name:ByteArray) (exchange:Aq) (sign:Aq) (cipher:Aq) (mac:Aq) (least:Int) (most:Int):Option (A1):=
 some (A1.mk code name exchange sign cipher mac least most)
def Ln:Option ((List A1)):=
 (Dm 10 0).bind fun y=>
 (Dm 5 0).bind fun y_2=>
 (Dm 14 128).bind fun y_3=>
 (Dm 15 168).bind fun y_4=>
 (Dm 16 128).bind fun y_5=>
 (Dm 17 128).bind fun y_6=>
 (Dm 17 256).bind fun y_7=>
 (Dm 19 0).bind fun y_8=>
 (Dm 20 0).bind fun y_9=>
 (Dm 21 0).bind fun y_10=>
 (Dm 22 0).bind fun y_11=>
 (Dm 12 256).bind fun y_12=>
 (Dm 18 0).bind fun y_13=>
 (D0 1 (⟨#[114,115,97,45,114,99,52,45,109,100,53]⟩:ByteArray) y y_2 y_3 y_8 1 2).bind fun y_14=>
 (D0 2 (⟨#[114,115,97,45,114,99,52,45,115,104,97]⟩:ByteArray) y y_2 y_3 y_9 1 3).bind fun y_15=>
 (D0 3 (⟨#[114,115,97,45,100,101,115,51,45,115,104,97]⟩:ByteArray) y y_2 y_4 y_9 1 3).bind fun y_16=>
 (Dm 11 1024).bind fun y_17=>
 (Dm 6 0).bind fun y_18=>
 (D0 4 (⟨#[100,104,101,45,100,115,97,45,100,101,115,51,45,115,104,97]⟩:ByteArray) y_17 y_18 y_4 y_9 1 3).bind fun y_19=>
 (Dm 11 1024).bind fun y_20=>
 (D0 5 (⟨#[100,104,101,45,114,115,97,45,100,101,115,51,45,115,104,97]⟩:ByteArray) y_20 y_2 y_4 y_9 1 3).bind fun y_21=>
 (D0 6 (⟨#[114,115,97,45,97,101,115,49,50,56,45,115,104,97]⟩:ByteArray) y y_2 y_5 y_9 1 3).bind fun y_22=>
 (Dm 11 2048).bind fun y_23=>
 (D0 7 (⟨#[100,104,101,45,114,115,97,45,97,101,115,49,50,56,45,115,104,97]⟩:ByteArray) y_23 y_2 y_5 y_9 1 3).bind fun y_24=>
 (D0 8 (⟨#[101,99,100,104,101,45,114,115,97,45,97,101,115,49,50,56,45,115,104,97]⟩:ByteArray) y_12 y_2 y_5 y_9 1 3).bind fun y_25=>
 (Dm 7 0).bind fun y_26=>
 (Dm 16 256).bind fun y_27=>
 (D0 9 (⟨#[101,99,100,104,101,45,101,99,100,115,97,45,97,101,115,50,53,54,45,115,104,97,50,53,54]⟩:ByteArray) y_12 y_26 y_27 y_10 3 3).bind fun y_28=>
 (D0 10 (⟨#[101,99,100,104,101,45,114,115,97,45,97,101,115,49,50,56,45,103,99,109]⟩:ByteArray) y_12 y_2 y_6 y_11 3 3).bind fun y_29=>
 (Dm 12 384).bind fun y_30=>
 (Dm 7 0).bind fun y_31=>
 (D0 11 (⟨#[101,99,100,104,101,45,101,99,100,115,97,45,97,101,115,50,53,54,45,103,99,109]⟩:ByteArray) y_30 y_31 y_7 y_11 3 3).bind fun y_32=>
 (D0 12 (⟨#[101,99,100,104,101,45,114,115,97,45,99,104,97,99,104,97]⟩:ByteArray) y_12 y_2 y_13 y_11 3 3).bind fun y_33=>
 (D0 13 (⟨#[114,115,97,45,97,101,115,50,53,54,45,103,99,109]⟩:ByteArray) y y_2 y_7 y_11 3 3).bind fun y_34=>
 (D0 14 (⟨#[97,101,115,49,50,56,45,103,99,109]⟩:ByteArray) y_12 (Aq.mk 0 0) y_6 y_11 4 4).bind fun y_35=>
 (D0 15 (⟨#[99,104,97,99,104,97]⟩:ByteArray) y_12 (Aq.mk 0 0) y_13 y_11 4 4).bind fun y_36=>
 (Dm 13 768).bind fun y_37=>
 (D0 16 (⟨#[109,108,107,101,109,45,97,101,115,50,53,54,45,103,99,109]⟩:ByteArray) y_37 (Aq.mk 0 0) y_7 y_11 4 4).bind fun y_38=>
 some ([y_14,y_15,y_16,y_19,y_21,y_22,y_24,y_25,y_28,y_29,y_32,y_33,y_34,y_35,y_36,y_38]:List A1)
def F8.j1 (code:Int) (x9_1:Bool):Option (A1×Int):=
 cond (x9_1)
  (some ((A1.mk 0 (⟨#[]⟩:ByteArray) (Aq.mk 0 0) (Aq.mk 0 0) (Aq.mk 0 0) (Aq.mk 0 0) 0 0),8))
  ((Ln).bind fun y=>
  (Bu y (W (code - 1))).bind fun e=>
  some (e,0))
def F8 (code:Int):Option (A1×Int):=
 cond (decide (code < 1))
  (F8.j1 code true)
  (F8.j1 code (decide (16 < code)))
def Ip (code:Int):Option (Int):=
 (F8 code).bind fun y=>
 cond (!decide (y.2=0))
  (some 0)
  ((Av y.1.Cipher).bind fun y_2=>
  some y_2)
def Dk.j3 (l:(List Int)) (i_1:Int) (out_1:List Int) (k_2:Int) (x29_3:Bool):Option (Lp (Int) (Lp (Int×List Int) ((List Int)))):=
 cond (x29_3)
  (some (.next (W (k_2 - 1))))
  (up (
   (Zo out_1 0 k_2).bind fun l_2=>
   (F3 8 ([]:List Int) ((out_1.drop ((0:Int).toNat)).take ((k_2:Int).toNat - (0:Int).toNat))).bind fun l_3=>
   (Bu l i_1).bind fun e_3=>
   (F3 8 l_3 ([e_3]:List Int)).bind fun l_4=>
   (Zo out_1 k_2 (out_1.length:Int)).bind fun l_5=>
   (F3 8 l_4 ((out_1.drop ((k_2:Int).toNat)).take (((out_1.length:Int):Int).toNat - (k_2:Int).toNat))).bind fun l_6=>
   some (.next (W (i_1 + 1),l_6))))
def Dk.l2 (l:(List Int)) (i_1:Int) (out_1:List Int) (k_2:Int):Option (Lp (Int) (Lp (Int×List Int) ((List Int)))):=
 cond (decide (0 < k_2))
  ((Bu out_1 (W (k_2 - 1))).bind fun e=>
  (Ip e).bind fun y=>
  (Bu l i_1).bind fun e_2=>
  (Ip e_2).bind fun y_2=>
  Dk.j3 l i_1 out_1 k_2 (decide (y < y_2)))
  (Dk.j3 l i_1 out_1 k_2 false)
def Dk.l1 (l:(List Int)) (i_1:Int) (out_1:List Int):Option (Lp (Int×List Int) ((List Int))):=
 cond (decide (i_1 < (l.length:Int)))
  (B2 (fun q'=>Dk.l2 l i_1 out_1 q') (out_1.length:Int))
  (up (
   some out_1))
def Dk (l:(List Int)):Option ((List Int)):=
 B2 (fun q'=>Dk.l1 l q'.1 q'.2) (0,([]:List Int))
def D9.j2 (i_1:Int) (d_2:Ab) (l_2:List Int):Option (Lp (Int×Ab×List Int) ((List Int)×Ab)):=
 some (.next (W (i_1 - 1),d_2,l_2))
def D9.l1 (i_1:Int) (d_1:Ab) (l_1:List Int):Option (Lp (Int×Ab×List Int) ((List Int)×Ab)):=
 cond (decide (0 < i_1))
  ((Bi d_1 16).bind fun y_2=>
  (Gi l_1 (W (1 + y_2.1))).bind fun y_3=>
  cond (!y_3)
   ((F3 8 l_1 ([W (1 + y_2.1)]:List Int)).bind fun l=>
   D9.j2 i_1 y_2.2 l)
   (D9.j2 i_1 y_2.2 l_1))
  (up (
   (E3 d_1 4).bind fun y_4=>
   cond (y_4.1)
    ((Dk l_1).bind fun y_5=>
    some (y_5,y_4.2))
    (some (l_1,y_4.2))))
def D9 (d:Ab):Option ((List Int)×Ab):=
 (Bi d 9).bind fun y=>
 B2 (fun q'=>D9.l1 q'.1 q'.2.1 q'.2.2) (W (2 + y.1),y.2,([]:List Int))
def Cs.j3 (d:Ab) (x40_3:Bool):Option (Int×Ab):=
 cond (x40_3)
  ((B3 d ([128,256]:List Int)).bind fun y_7=>
  some (y_7.1,y_7.2))
  (some (0,d))
def Cs.j2 (d:Ab) (a:Int) (x14_2:Bool):Option (Int×Ab):=
 cond (x14_2)
  ((B3 d ([256,160,224,384,521]:List Int)).bind fun y_2=>
  some (y_2.1,y_2.2))
  (cond (decide (a=9))
   ((B3 d ([65,44,87]:List Int)).bind fun y_3=>
   some (y_3.1,y_3.2))
   (cond (decide (a=13))
    ((B3 d ([768,512,1024]:List Int)).bind fun y_4=>
    some (y_4.1,y_4.2))
    (cond (decide (a=14))
     ((B3 d ([128,40]:List Int)).bind fun y_5=>
     some (y_5.1,y_5.2))
     (cond (decide (a=15))
      ((B3 d ([168,112]:List Int)).bind fun y_6=>
      some (y_6.1,y_6.2))
      (cond (decide (a=16))
       (Cs.j3 d (decide (a=16)))
       (Cs.j3 d (decide (a=17))))))))
def Cs.j1 (d:Ab) (a:Int) (x6_1:Bool):Option (Int×Ab):=
 cond (x6_1)
  ((B3 d ([2048,1024,512,3072,1023,4096,16384]:List Int)).bind fun y=>
  some (y.1,y.2))
  (cond (decide (a=7))
   (Cs.j2 d a (decide (a=7)))
   (Cs.j2 d a (decide (a=12))))
def Cs (d:Ab) (a:Int):Option (Int×Ab):=
 cond (decide (a=5))
  (Cs.j1 d a (decide (a=5)))
  (cond (decide (a=6))
   (Cs.j1 d a (decide (a=6)))
   (cond (decide (a=10))
    (Cs.j1 d a (decide (a=10)))
    (Cs.j1 d a (decide (a=11)))))
def P1 (d:Ab):Option (Aq×Ab):=
 (B3 d ([5,7,5,6,8,9]:List Int)).bind fun y=>
 (Cs y.2 y.1).bind fun y_2=>
 some ((Aq.mk y.1 y_2.1),y_2.2)
def Ci.j2 (issuer:ByteArray) (subject:ByteArray) (key:Aq) (id:Int) (signer:Int) (authority:Bool) (y:Int×Ab) (y_2:Int×Ab) (y_3:Int×Ab) (y_4:Int×Ab) (c_1:Int) (b_2:Ab) (l_2:List ByteArray):Option (Ah×Ab):=
 (Fo (Ah.mk y.1 issuer subject key id (Aq.mk y_2.1 0) y_3.1 y_4.1 authority c_1 l_2 (Dy.mk 0 0)) signer).bind fun y_7=>
 some (y_7.1,b_2)
def Ci.j1 (issuer:ByteArray) (subject:ByteArray) (key:Aq) (id:Int) (signer:Int) (authority:Bool) (y:Int×Ab) (y_2:Int×Ab) (y_3:Int×Ab) (y_4:Int×Ab) (d_1:Ab) (c_1:Int):Option (Ah×Ab):=
 (E3 d_1 3).bind fun y_6=>
 cond (y_6.1)
  ((uV subject (⟨#[120]⟩:ByteArray)).bind fun s=>
  (F3 16 ([subject]:List ByteArray) ([s]:List ByteArray)).bind fun l=>
  Ci.j2 issuer subject key id signer authority y y_2 y_3 y_4 c_1 y_6.2 l)
  (Ci.j2 issuer subject key id signer authority y y_2 y_3 y_4 c_1 y_6.2 ([subject]:List ByteArray))
def Ci (d:Ab) (issuer:ByteArray) (subject:ByteArray) (key:Aq) (id:Int) (signer:Int) (authority:Bool):Option (Ah×Ab):=
 (Bi d 1000).bind fun y=>
 (B3 y.2 ([3,2,4,1]:List Int)).bind fun y_2=>
 (B3 y_2.2 ([0,5,10]:List Int)).bind fun y_3=>
 (B3 y_3.2 ([1000,100,50,20]:List Int)).bind fun y_4=>
 cond (authority)
  ((B3 y_4.2 ([3,0,1]:List Int)).bind fun y_5=>
  Ci.j1 issuer subject key id signer authority y y_2 y_3 y_4 y_5.2 y_5.1)
  (Ci.j1 issuer subject key id signer authority y y_2 y_3 y_4 y_4.2 0)
def G3.l1 (name:ByteArray) (key:Aq) (id:Int) (y:Int×Ab) (signer_1:Int) (issuer_1:ByteArray) (i_1:Int) (d_1:Ab) (above_1:List Ah):Option (Lp (Int×ByteArray×Int×Ab×List Ah) ((List Ah)×Ab)):=
 cond (decide (i_1 < y.1))
  ((Bu ([(⟨#[99,97]⟩:ByteArray),(⟨#[99,98]⟩:ByteArray),(⟨#[99,99]⟩:ByteArray)]:List ByteArray) i_1).bind fun e=>
  (Ci d_1 issuer_1 e (Aq.mk 5 2048) (W (11 + i_1)) signer_1 true).bind fun y_3=>
  (F3 2280 ([y_3.1]:List Ah) above_1).bind fun l=>
  some (.next (W (11 + i_1),e,W (i_1 + 1),y_3.2,l)))
  (up (
   (Ci d_1 issuer_1 name key id signer_1 false).bind fun y_4=>
   (F3 2280 ([y_4.1]:List Ah) above_1).bind fun l_2=>
   some (l_2,y_4.2)))
def G3 (d:Ab) (name:ByteArray) (key:Aq) (id:Int):Option ((List Ah)×Ab):=
 (B3 d ([1,0,2]:List Int)).bind fun y=>
 (Bi y.2 2).bind fun y_2=>
 B2 (fun q'=>G3.l1 name key id y q'.1 q'.2.1 q'.2.2.1 q'.2.2.2.1 q'.2.2.2.2) (W (1 + y_2.1),(⟨#[114,111,111,116]⟩:ByteArray),0,y_2.2,([]:List Ah))
def B4.j4 (i_2:Int) (l_2:List Am) (key_3:Int) (key_3_2:Int) (y_13:Int×Ab) (d_4:List Int) (d_4_2:Int) (x_4:List Ah):Option (Lp (Int×List Int×Int×List Am) (Ad×Ab)):=
 (F3 192 l_2 ([(Am.mk (Aq.mk key_3 key_3_2) (W (100 + y_13.1)) x_4)]:List Am)).bind fun l=>
 some (.next (W (i_2 - 1),d_4,d_4_2,l))
def B4.j3 (name:ByteArray) (i_2:Int) (l_2:List Am) (d_3:List Int) (d_3_2:Int) (key_3:Int) (key_3_2:Int):Option (Lp (Int×List Int×Int×List Am) (Ad×Ab)):=
 (Bi (Ab.mk d_3 d_3_2) 20).bind fun y_13=>
 (E3 y_13.2 9).bind fun y_14=>
 cond (!y_14.1)
  ((G3 y_14.2 name (Aq.mk key_3 key_3_2) (W (100 + y_13.1))).bind fun y_15=>
  B4.j4 i_2 l_2 key_3 key_3_2 y_13 y_15.2.L y_15.2.At y_15.1)
  (B4.j4 i_2 l_2 key_3 key_3_2 y_13 y_14.2.L y_14.2.At ([]:List Ah))
def B4.l2 (name:ByteArray) (y_2:(List Int)×Ab) (y_3:Bool×Ab) (y_4:Bool×Ab) (e_1:Int) (e_1_2:Int) (i_2:Int) (d_2:List Int) (d_2_2:Int) (l_2:List Am):Option (Lp (Int×List Int×Int×List Am) (Ad×Ab)):=
 cond (decide (0 < i_2))
  ((P1 (Ab.mk d_2 d_2_2)).bind fun y_9=>
  (Bi y_9.2 3).bind fun y_10=>
  cond (decide (0 < y_10.1))
   ((B3 y_10.2 ([5,7]:List Int)).bind fun y_11=>
   (Cs y_11.2 y_11.1).bind fun y_12=>
   B4.j3 name i_2 l_2 y_12.2.L y_12.2.At y_11.1 y_12.1)
   (B4.j3 name i_2 l_2 y_10.2.L y_10.2.At y_9.1.Alg y_9.1.Bits))
  (up (
   (Bi (Ab.mk d_2 d_2_2) 5).bind fun y_16=>
   (Bu ([([1,2]:List Int),([1,2]:List Int),([1]:List Int),([2,11]:List Int),([]:(List Int))]:List (List Int)) y_16.1).bind fun e=>
   (Bi y_16.2 3).bind fun y_17=>
   (Bu ([([1,2,3,4]:List Int),([2,3,4]:List Int),([3,4]:List Int)]:List (List Int)) y_17.1).bind fun e_2=>
   some ((Ad.mk name e_1 e_1_2 y_2.1 y_3.1 l_2 e e_2 y_4.1),y_17.2)))
def B4.j1 (name:ByteArray) (y_2:(List Int)×Ab) (y_3:Bool×Ab) (y_4:Bool×Ab) (d_1:List Int) (d_1_2:Int) (e_1:Int) (e_1_2:Int):Option (Ad×Ab):=
 (B3 (Ab.mk d_1 d_1_2) ([1,2,1,3,0]:List Int)).bind fun y_8=>
 B2 (fun q'=>B4.l2 name y_2 y_3 y_4 e_1 e_1_2 q'.1 q'.2.1 q'.2.2.1 q'.2.2.2) (y_8.1,y_8.2.L,y_8.2.At,([]:List Am))
def B4 (d:Ab) (name:ByteArray):Option (Ad×Ab):=
 (B3 d ([1,1,2,3]:List Int)).bind fun y=>
 (D9 y.2).bind fun y_2=>
 (E3 y_2.2 2).bind fun y_3=>
 (E3 y_3.2 2).bind fun y_4=>
 (Bi y_4.2 (W (5 - y.1))).bind fun y_5=>
 (Bi y_5.2 3).bind fun y_6=>
 cond (decide (0 < y_6.1))
  ((B3 y_6.2 ([3,4,2]:List Int)).bind fun y_7=>
  B4.j1 name y_2 y_3 y_4 y_7.2.L y_7.2.At 1 y_7.1)
  (B4.j1 name y_2 y_3 y_4 y_6.2.L y_6.2.At y.1 (W (y.1 + y_5.1)))
def B1.j5 (k_3:Int) (d_5:Ab) (l_5:List A3):Option (Lp (Int×Ab×List A3) (Lp (Int×Ab×List A3) (Ap×Ab))):=
 some (.next (W (k_3 + 1),d_5,l_5))
def B1.j4 (i_2:Int) (k_3:Int) (l_3:List A3) (x50_4:Bool) (d_4:Ab):Option (Lp (Int×Ab×List A3) (Lp (Int×Ab×List A3) (Ap×Ab))):=
 cond (x50_4)
  ((F3 32 l_3 ([(A3.mk i_2 k_3)]:List A3)).bind fun l_4=>
  B1.j5 k_3 d_4 l_4)
  (B1.j5 k_3 d_4 l_3)
def B1.l3 (y:Int×Ab) (i_2:Int) (k_3:Int) (d_3:Ab) (l_3:List A3):Option (Lp (Int×Ab×List A3) (Lp (Int×Ab×List A3) (Ap×Ab))):=
 cond (decide (k_3 < ((((W (2 + y.1):Int).toNat - (0:Int).toNat):Nat):Int)))
  (cond (!decide (i_2=k_3))
   ((Bi d_3 3).bind fun y_3=>
   B1.j4 i_2 k_3 l_3 (decide (y_3.1=0)) y_3.2)
   (B1.j4 i_2 k_3 l_3 false d_3))
  (up (
   some (.next (W (i_2 + 1),d_3,l_3))))
def B1.l6 (l_1:List Ad) (l_2_2:List A3) (i_6:Int) (d_6:Ab) (l_6:List Bf):Option (Lp (Int×Ab×List Bf) (Ap×Ab)):=
 cond (decide (0 < i_6))
  ((Ff d_6 ([(⟨#[98,97,99,107,117,112]⟩:ByteArray),(⟨#[100,101,101,100]⟩:ByteArray)]:List ByteArray)).bind fun y_5=>
  (Hn y_5.2 y_5.1).bind fun y_6=>
  (F3 320 l_6 ([y_6.1]:List Bf)).bind fun l_7=>
  some (.next (W (i_6 - 1),y_6.2,l_7)))
  (up (
   some ((Ap.mk l_1 l_2_2 l_6),d_6)))
def B1.l2 (y:Int×Ab) (l_1:List Ad) (i_2:Int) (d_2:Ab) (l_2_2:List A3):Option (Lp (Int×Ab×List A3) (Ap×Ab)):=
 cond (decide (i_2 < ((((W (2 + y.1):Int).toNat - (0:Int).toNat):Nat):Int)))
  (B2 (fun q'=>B1.l3 y i_2 q'.1 q'.2.1 q'.2.2) (0,d_2,l_2_2))
  (up (
   (Bi d_2 3).bind fun y_4=>
   B2 (fun q'=>B1.l6 l_1 l_2_2 q'.1 q'.2.1 q'.2.2) (y_4.1,y_4.2,([]:List Bf))))
def B1.l1 (y:Int×Ab) (i_1:Int) (d_1:Ab) (l_1:List Ad):Option (Lp (Int×Ab×List Ad) (Ap×Ab)):=
 cond (decide (i_1 < ((((W (2 + y.1):Int).toNat - (0:Int).toNat):Nat):Int)))
  ((Bu ((([(⟨#[97,112,112]⟩:ByteArray),(⟨#[100,98]⟩:ByteArray),(⟨#[109,97,105,108]⟩:ByteArray),(⟨#[119,101,98]⟩:ByteArray)]:List ByteArray).drop ((0:Int).toNat)).take ((W (2 + y.1):Int).toNat - (0:Int).toNat)) i_1).bind fun e=>
  (B4 d_1 e).bind fun y_2=>
  (F3 1296 l_1 ([y_2.1]:List Ad)).bind fun l_2=>
  some (.next (W (i_1 + 1),y_2.2,l_2)))
  (up (
   B2 (fun q'=>B1.l2 y l_1 q'.1 q'.2.1 q'.2.2) (0,d_1,([]:List A3))))
def B1 (d:Ab):Option (Ap×Ab):=
 (Bi d 3).bind fun y=>
 (Zo ([(⟨#[97,112,112]⟩:ByteArray),(⟨#[100,98]⟩:ByteArray),(⟨#[109,97,105,108]⟩:ByteArray),(⟨#[119,101,98]⟩:ByteArray)]:List ByteArray) 0 (W (2 + y.1))).bind fun l=>
 B2 (fun q'=>B1.l1 y q'.1 q'.2.1 q'.2.2) (0,y.2,([]:List Ad))
def Ax.j4 (ok_4:Bool):Option (Int):=
 cond (!ok_4)
  (some 24)
  (some 0)
def Ax.j3 (f:Aa) (x115_3:Bool):Option (Int):=
 cond (x115_3)
  (cond (decide (f.Use=(Aq.mk 0 0)))
   (cond (decide (1<=f.Number))
    (cond (decide (f.Number<=4))
     (Ax.j4 (decide (f.Text=(⟨#[]⟩:ByteArray))))
     (Ax.j4 false))
    (Ax.j4 false))
   (Ax.j4 false))
  (cond (decide (f.Kind=6))
   (cond (decide (f.Use=(Aq.mk 0 0)))
    (cond (decide (0<=f.Number))
     (cond (decide (f.Number<=2147483648))
      (Ax.j4 (decide (f.Text=(⟨#[]⟩:ByteArray))))
      (Ax.j4 false))
     (Ax.j4 false))
    (Ax.j4 false))
   (cond (decide (f.Kind=7))
    (cond (decide (f.Use=(Aq.mk 0 0)))
     (cond (decide (f.Number=0))
      ((Cj f.Text).bind fun y_5=>
      Ax.j4 y_5)
      (Ax.j4 false))
     (Ax.j4 false))
    (Ax.j4 false)))
def Ax.j2 (f:Aa) (x69_2:Bool):Option (Int):=
 cond (x69_2)
  ((Ik f.Use).bind fun y_3=>
  cond (y_3)
   (cond (decide (f.Number=0))
    (Ax.j4 (decide (f.Text=(⟨#[]⟩:ByteArray))))
    (Ax.j4 false))
   (Ax.j4 false))
  (cond (decide (f.Kind=2))
   (cond (decide (f.Use=(Aq.mk 0 0)))
    (cond (decide (0<=f.Number))
     (cond (decide (f.Number<=65535))
      (Ax.j4 (decide (f.Text=(⟨#[]⟩:ByteArray))))
      (Ax.j4 false))
     (Ax.j4 false))
    (Ax.j4 false))
   (cond (decide (f.Kind=3))
    ((Fp f.Use).bind fun y_4=>
    cond (y_4)
     (cond (decide (0<=f.Number))
      (cond (decide (f.Number<=2147483648))
       (Ax.j4 (decide (f.Text=(⟨#[]⟩:ByteArray))))
       (Ax.j4 false))
      (Ax.j4 false))
     (Ax.j4 false))
    (cond (decide (f.Kind=4))
     (Ax.j3 f (decide (f.Kind=4)))
     (Ax.j3 f (decide (f.Kind=5))))))
def Ax.j1 (f:Aa) (x56_1:Bool):Option (Int):=
 cond (x56_1)
  (some 24)
  (cond (decide (f.Kind=1))
   (Ax.j2 f (decide (f.Kind=1)))
   (Ax.j2 f (decide (f.Kind=8))))
def Ax (f:Aa):Option (Int):=
 cond (decide (f.Source < 1))
  (Ax.j1 f true)
  (cond (decide (7 < f.Source))
   (Ax.j1 f true)
   ((Cj f.Host).bind fun y=>
   cond (!y)
    (Ax.j1 f true)
    (cond (decide (f.Machine < 0))
     (Ax.j1 f true)
     (cond (decide (1099511627776 < f.Machine))
      (Ax.j1 f true)
      (cond (decide (f.Day < 0))
       (Ax.j1 f true)
       (cond (decide (40000 < f.Day))
        (Ax.j1 f true)
        (cond (decide (f.Confidence < 1))
         (Ax.j1 f true)
         (cond (decide (100 < f.Confidence))
          (Ax.j1 f true)
          ((Cj f.Subject).bind fun y_2=>
          Ax.j1 f (!y_2))))))))))
def Nf (at':Aa):Option (Aa×Int):=
 (Ax (Aa.mk at'.Source at'.Host at'.Machine at'.Day at'.Confidence 4 at'.Subject (Aq.mk 0 0) 1 (⟨#[]⟩:ByteArray))).bind fun y=>
 cond (!decide (y=0))
  (some ((Aa.mk 0 (⟨#[]⟩:ByteArray) 0 0 0 0 (⟨#[]⟩:ByteArray) (Aq.mk 0 0) 0 (⟨#[]⟩:ByteArray)),y))
  (some ((Aa.mk at'.Source at'.Host at'.Machine at'.Day at'.Confidence 0 at'.Subject (Aq.mk 0 0) 0 (⟨#[]⟩:ByteArray)),0))
def Bn.j3 (i_2:Int) (x55_3:Bool):Option (Lp (Int) (Bool)):=
 cond (x55_3)
  (up (some false))
  (some (.next (W (i_2 + 1))))
def Bn.l2 (s:ByteArray) (i_2:Int):Option (Lp (Int) (Bool)):=
 cond (decide (i_2 < (s.size:Int)))
  ((iE s i_2).bind fun c=>
  cond (decide ((c.toNat:Int) < 97))
   (cond (decide ((c.toNat:Int) < 65))
    (cond (decide ((c.toNat:Int) < 48))
     (cond (!decide ((c.toNat:Int)=45))
      (cond (!decide ((c.toNat:Int)=95))
       (Bn.j3 i_2 (!decide ((c.toNat:Int)=46)))
       (Bn.j3 i_2 false))
      (Bn.j3 i_2 false))
     (cond (decide (57 < (c.toNat:Int)))
      (cond (!decide ((c.toNat:Int)=45))
       (cond (!decide ((c.toNat:Int)=95))
        (Bn.j3 i_2 (!decide ((c.toNat:Int)=46)))
        (Bn.j3 i_2 false))
       (Bn.j3 i_2 false))
      (Bn.j3 i_2 false)))
    (cond (decide (90 < (c.toNat:Int)))
     (cond (decide ((c.toNat:Int) < 48))
      (cond (!decide ((c.toNat:Int)=45))
       (cond (!decide ((c.toNat:Int)=95))
        (Bn.j3 i_2 (!decide ((c.toNat:Int)=46)))
        (Bn.j3 i_2 false))
       (Bn.j3 i_2 false))
      (cond (decide (57 < (c.toNat:Int)))
       (cond (!decide ((c.toNat:Int)=45))
        (cond (!decide ((c.toNat:Int)=95))
         (Bn.j3 i_2 (!decide ((c.toNat:Int)=46)))
         (Bn.j3 i_2 false))
        (Bn.j3 i_2 false))
       (Bn.j3 i_2 false)))
     (Bn.j3 i_2 false)))
   (cond (decide (122 < (c.toNat:Int)))
    (cond (decide ((c.toNat:Int) < 65))
     (cond (decide ((c.toNat:Int) < 48))
      (cond (!decide ((c.toNat:Int)=45))
       (cond (!decide ((c.toNat:Int)=95))
        (Bn.j3 i_2 (!decide ((c.toNat:Int)=46)))
        (Bn.j3 i_2 false))
       (Bn.j3 i_2 false))
      (cond (decide (57 < (c.toNat:Int)))
       (cond (!decide ((c.toNat:Int)=45))
        (cond (!decide ((c.toNat:Int)=95))
         (Bn.j3 i_2 (!decide ((c.toNat:Int)=46)))
         (Bn.j3 i_2 false))
        (Bn.j3 i_2 false))
       (Bn.j3 i_2 false)))
     (cond (decide (90 < (c.toNat:Int)))
      (cond (decide ((c.toNat:Int) < 48))
       (cond (!decide ((c.toNat:Int)=45))
        (cond (!decide ((c.toNat:Int)=95))
         (Bn.j3 i_2 (!decide ((c.toNat:Int)=46)))
         (Bn.j3 i_2 false))
        (Bn.j3 i_2 false))
       (cond (decide (57 < (c.toNat:Int)))
        (cond (!decide ((c.toNat:Int)=45))
         (cond (!decide ((c.toNat:Int)=95))
          (Bn.j3 i_2 (!decide ((c.toNat:Int)=46)))
          (Bn.j3 i_2 false))
         (Bn.j3 i_2 false))
        (Bn.j3 i_2 false)))
      (Bn.j3 i_2 false)))
    (Bn.j3 i_2 false)))
  (up (
   some true))
def Bn.j1 (s:ByteArray) (x12_1:Bool):Option (Bool):=
 cond (x12_1)
  (some false)
  (B2 (fun q'=>Bn.l2 s q') 0)
def Bn (s:ByteArray):Option (Bool):=
 cond (decide ((s.size:Int) < 1))
  (Bn.j1 s true)
  (Bn.j1 s (decide (32 < (s.size:Int))))
def Da.l2 (key:Aq) (id:Int) (chain:(List Ah)) (i_2:Int):Option (Lp (Int) (Bool)):=
 cond (decide (i_2 < (chain.length:Int)))
  ((Bu chain i_2).bind fun e=>
  (A8 e).bind fun y_2=>
  cond (!decide (y_2=0))
   (up (some false))
   (some (.next (W (i_2 + 1)))))
  (up (
   cond (decide ((chain.length:Int)=0))
    (some true)
    ((Bu chain 0).bind fun e_2=>
    cond (decide (e_2.Key=key))
     (some (decide (e_2.KeyId=id)))
     (some false))))
def Da.j1 (key:Aq) (id:Int) (chain:(List Ah)) (x23_1:Bool):Option (Bool):=
 cond (x23_1)
  (some false)
  (B2 (fun q'=>Da.l2 key id chain q') 0)
def Da (key:Aq) (id:Int) (chain:(List Ah)):Option (Bool):=
 (Fp key).bind fun y=>
 cond (!y)
  (Da.j1 key id chain true)
  (cond (decide (id < 0))
   (Da.j1 key id chain true)
   (cond (decide (2147483648 < id))
    (Da.j1 key id chain true)
    (Da.j1 key id chain (decide (8 < (chain.length:Int))))))
def A7.j3 (i_2:Int) (x77_3:Bool):Option (Lp (Int) (Int)):=
 cond (x77_3)
  (up (some 19))
  (some (.next (W (i_2 + 1))))
def A7.j6 (i_5:Int) (x143_6:Bool):Option (Lp (Int) (Int)):=
 cond (x143_6)
  (up (some 19))
  (some (.next (W (i_5 + 1))))
def A7.j8 (i_7:Int) (x175_8:Bool):Option (Lp (Int) (Int)):=
 cond (x175_8)
  (up (some 19))
  (some (.next (W (i_7 + 1))))
def A7.l7 (e:Ad) (i_7:Int):Option (Lp (Int) (Int)):=
 cond (decide (i_7 < (e.Hashes.length:Int)))
  ((Bu e.Hashes i_7).bind fun e_6=>
  (Fq e_6).bind fun y_5=>
  cond (!decide (y_5=1))
   (A7.j8 i_7 true)
   (cond (decide (0 < i_7))
    ((Bu e.Hashes (W (i_7 - 1))).bind fun e_7=>
    A7.j8 i_7 (decide (e_6<=e_7)))
    (A7.j8 i_7 false)))
  (up (
   some 0))
def A7.l5 (e:Ad) (i_5:Int):Option (Lp (Int) (Int)):=
 cond (decide (i_5 < (e.Anchors.length:Int)))
  ((Bu e.Anchors i_5).bind fun e_4=>
  cond (decide (e_4 < 0))
   (A7.j6 i_5 true)
   (cond (decide (2147483648 < e_4))
    (A7.j6 i_5 true)
    (cond (decide (0 < i_5))
     ((Bu e.Anchors (W (i_5 - 1))).bind fun e_5=>
     A7.j6 i_5 (decide (e_4<=e_5)))
     (A7.j6 i_5 false))))
  (up (
   B2 (fun q'=>A7.l7 e q') 0))
def A7.l4 (e:Ad) (i_4:Int):Option (Lp (Int) (Int)):=
 cond (decide (i_4 < (e.Identities.length:Int)))
  ((Bu e.Identities i_4).bind fun e_3=>
  (Da e_3.Key e_3.KeyId e_3.Chain).bind fun y_4=>
  cond (!y_4)
   (up (some 19))
   (some (.next (W (i_4 + 1)))))
  (up (
   B2 (fun q'=>A7.l5 e q') 0))
def A7.l2 (e:Ad) (i_2:Int):Option (Lp (Int) (Int)):=
 cond (decide (i_2 < (e.Suites.length:Int)))
  ((Bu e.Suites i_2).bind fun e_2=>
  (F8 e_2).bind fun y_2=>
  cond (!decide (y_2.2=0))
   (A7.j3 i_2 true)
   ((Zo e.Suites 0 i_2).bind fun l=>
   (Gi l e_2).bind fun y_3=>
   A7.j3 i_2 y_3))
  (up (
   B2 (fun q'=>A7.l4 e q') 0))
def A7.j1 (e:Ad) (x47_1:Bool):Option (Int):=
 cond (x47_1)
  (some 19)
  (B2 (fun q'=>A7.l2 e q') 0)
def A7 (e:Ad):Option (Int):=
 (Bn e.Name).bind fun y=>
 cond (!y)
  (A7.j1 e true)
  (cond (decide (e.Least < 1))
   (A7.j1 e true)
   (cond (decide (e.Most < e.Least))
    (A7.j1 e true)
    (cond (decide (4 < e.Most))
     (A7.j1 e true)
     (cond (decide (16 < (e.Suites.length:Int)))
      (A7.j1 e true)
      (cond (decide (4 < (e.Identities.length:Int)))
       (A7.j1 e true)
       (A7.j1 e (decide (16 < (e.Anchors.length:Int)))))))))
def Ka (f:Aa) (kind:Int) (n:Int):Option (Aa):=
 some (Aa.mk f.Source f.Host f.Machine f.Day f.Confidence kind f.Subject f.Use n f.Text)
def Q1 (f:Aa) (kind:Int) (u:Aq) (n:Int):Option (Aa):=
 some (Aa.mk f.Source f.Host f.Machine f.Day f.Confidence kind f.Subject u n f.Text)
def Jt (a:ByteArray) (b:ByteArray):Option (Int):=
 cond (Mc (Hq a) (Hq b))
  (some (-1))
  (cond (Mc (Hq b) (Hq a))
   (some 1)
   (some 0))
def D8.l1 (a:(List Int)) (b:(List Int)) (i_1:Int):Option (Lp (Int) (Int)):=
 cond (decide (i_1 < (a.length:Int)))
  ((Bu a i_1).bind fun e=>
  (Bu b i_1).bind fun e_2=>
  cond (decide (e < e_2))
   (up (some (-1)))
   (cond (decide (e_2 < e))
    (up (some 1))
    (some (.next (W (i_1 + 1))))))
  (up (
   some 0))
def D8 (a:(List Int)) (b:(List Int)):Option (Int):=
 B2 (fun q'=>D8.l1 a b q') 0
def Kz (a:Aa) (b:Aa):Option (Int):=
 (Jt a.Host b.Host).bind fun y=>
 cond (!decide (y=0))
  (some y)
  ((D8 ([a.Machine,a.Day]:List Int) ([b.Machine,b.Day]:List Int)).bind fun y_2=>
  cond (!decide (y_2=0))
   (some y_2)
   ((Jt a.Subject b.Subject).bind fun y_3=>
   cond (!decide (y_3=0))
    (some y_3)
    ((D8 ([a.Kind,a.Use.Alg,a.Use.Bits,a.Number]:List Int) ([b.Kind,b.Use.Alg,b.Use.Bits,b.Number]:List Int)).bind fun y_4=>
    cond (!decide (y_4=0))
     (some y_4)
     ((Jt a.Text b.Text).bind fun y_5=>
     cond (!decide (y_5=0))
      (some y_5)
      ((D8 ([a.Source,a.Confidence]:List Int) ([b.Source,b.Confidence]:List Int)).bind fun y_6=>
      some y_6)))))
def Cy.j3 (l:List Aa) (f:Aa) (k_1:Int) (x33_3:Bool):Option ((List Aa)):=
 cond (x33_3)
  (some l)
  ((Zo l 0 k_1).bind fun l_2=>
  (F3 1232 ([]:List Aa) ((l.drop ((0:Int).toNat)).take ((k_1:Int).toNat - (0:Int).toNat))).bind fun l_3=>
  (F3 1232 l_3 ([f]:List Aa)).bind fun l_4=>
  (Zo l k_1 (l.length:Int)).bind fun l_5=>
  (F3 1232 l_4 ((l.drop ((k_1:Int).toNat)).take (((l.length:Int):Int).toNat - (k_1:Int).toNat))).bind fun l_6=>
  some l_6)
def Cy.j2 (l:List Aa) (f:Aa) (k_1:Int) (x19_2:Bool):Option (Lp (Int) ((List Aa))):=
 cond (x19_2)
  (some (.next (W (k_1 - 1))))
  (up (
   cond (decide (0 < k_1))
    ((Bu l (W (k_1 - 1))).bind fun e_2=>
    (Kz e_2 f).bind fun y_2=>
    Cy.j3 l f k_1 (decide (y_2=0)))
    (Cy.j3 l f k_1 false)))
def Cy.l1 (l:List Aa) (f:Aa) (k_1:Int):Option (Lp (Int) ((List Aa))):=
 cond (decide (0 < k_1))
  ((Bu l (W (k_1 - 1))).bind fun e=>
  (Kz e f).bind fun y=>
  Cy.j2 l f k_1 (decide (0 < y)))
  (Cy.j2 l f k_1 false)
def Cy (l:List Aa) (f:Aa):Option ((List Aa)):=
 B2 (fun q'=>Cy.l1 l f q') (l.length:Int)
def C6.l2 (l:(List Aa)) (i_2:Int) (out_2:List Aa):Option (Lp (Int×List Aa) ((List Aa)×Int)):=
 cond (decide (i_2 < (l.length:Int)))
  ((Bu l i_2).bind fun e_2=>
  (Cy out_2 e_2).bind fun y_2=>
  cond (decide (400 < (y_2.length:Int)))
   (up (some (([]:(List Aa)),3)))
   (some (.next (W (i_2 + 1),y_2))))
  (up (
   some (out_2,0)))
def C6.l1 (l:(List Aa)) (i_1:Int):Option (Lp (Int) ((List Aa)×Int)):=
 cond (decide (i_1 < (l.length:Int)))
  ((Bu l i_1).bind fun e=>
  (Ax e).bind fun y=>
  cond (!decide (y=0))
   (up (some (([]:(List Aa)),y)))
   (some (.next (W (i_1 + 1)))))
  (up (
   B2 (fun q'=>C6.l2 l q'.1 q'.2) (0,([]:List Aa))))
def C6 (l:(List Aa)):Option ((List Aa)×Int):=
 B2 (fun q'=>C6.l1 l q') 0
def B6.l4 (e:Ad) (y:Aa×Int) (i_4:Int) (l_4_2:List Aa):Option (Lp (Int×List Aa) ((List Aa)×Int)):=
 cond (decide (i_4 < (e.Hashes.length:Int)))
  ((Bu e.Hashes i_4).bind fun e_5=>
  (Q1 y.1 1 (Aq.mk e_5 0) 0).bind fun y_8=>
  (F3 1232 l_4_2 ([y_8]:List Aa)).bind fun l_5=>
  some (.next (W (i_4 + 1),l_5)))
  (up (
   (C6 l_4_2).bind fun y_9=>
   some (y_9.1,y_9.2)))
def B6.l3 (e:Ad) (y:Aa×Int) (i_3:Int) (l_3_2:List Aa):Option (Lp (Int×List Aa) ((List Aa)×Int)):=
 cond (decide (i_3 < (e.Anchors.length:Int)))
  ((Bu e.Anchors i_3).bind fun e_4=>
  (Ka y.1 6 e_4).bind fun y_7=>
  (F3 1232 l_3_2 ([y_7]:List Aa)).bind fun l_4=>
  some (.next (W (i_3 + 1),l_4)))
  (up (
   B2 (fun q'=>B6.l4 e y q'.1 q'.2) (0,l_3_2)))
def B6.l2 (e:Ad) (y:Aa×Int) (i_2:Int) (l_2:List Aa):Option (Lp (Int×List Aa) ((List Aa)×Int)):=
 cond (decide (i_2 < (e.Identities.length:Int)))
  ((Bu e.Identities i_2).bind fun e_3=>
  (Q1 y.1 3 e_3.Key e_3.KeyId).bind fun y_6=>
  (F3 1232 l_2 ([y_6]:List Aa)).bind fun l_3=>
  some (.next (W (i_2 + 1),l_3)))
  (up (
   B2 (fun q'=>B6.l3 e y q'.1 q'.2) (0,l_2)))
def B6.l1 (e:Ad) (y:Aa×Int) (i_1:Int) (l_1:List Aa):Option (Lp (Int×List Aa) ((List Aa)×Int)):=
 cond (decide (i_1 < (e.Suites.length:Int)))
  ((Bu e.Suites i_1).bind fun e_2=>
  (Ka y.1 2 e_2).bind fun y_5=>
  (F3 1232 l_1 ([y_5]:List Aa)).bind fun l=>
  some (.next (W (i_1 + 1),l)))
  (up (
   B2 (fun q'=>B6.l2 e y q'.1 q'.2) (0,l_1)))
def B6 (at':Aa) (e:Ad):Option ((List Aa)×Int):=
 (Nf at').bind fun y=>
 cond (!decide (y.2=0))
  (some (([]:(List Aa)),y.2))
  ((A7 e).bind fun y_2=>
  cond (!decide (y_2=0))
   (some (([]:(List Aa)),y_2))
   ((Ka y.1 5 e.Least).bind fun y_3=>
   (Ka y.1 4 e.Most).bind fun y_4=>
   B2 (fun q'=>B6.l1 e y q'.1 q'.2) (0,([y_3,y_4]:List Aa))))
def B8.j3 (b_3:Ab) (f_3:Aa):Option (Aa×Ab):=
 some (f_3,b_3)
def B8.j2 (y:Int×Ab) (y_2:ByteArray×Ab) (y_3:Int×Ab) (y_4:Int×Ab) (y_5:Int×Ab) (y_6:Int×Ab) (y_7:ByteArray×Ab) (x57_2:Bool):Option (Aa×Ab):=
 cond (x57_2)
  ((Bi y_7.2 4).bind fun y_12=>
  B8.j3 y_12.2 (Aa.mk (W (1 + y.1)) y_2.1 y_3.1 y_4.1 y_5.1 (W (1 + y_6.1)) y_7.1 (Aq.mk 0 0) (W (1 + y_12.1)) (⟨#[]⟩:ByteArray)))
  (cond (decide ((W (1 + y_6.1))=6))
   ((Bi y_7.2 3).bind fun y_13=>
   B8.j3 y_13.2 (Aa.mk (W (1 + y.1)) y_2.1 y_3.1 y_4.1 y_5.1 (W (1 + y_6.1)) y_7.1 (Aq.mk 0 0) y_13.1 (⟨#[]⟩:ByteArray)))
   (cond (decide ((W (1 + y_6.1))=7))
    ((Ff y_7.2 ([(⟨#[97]⟩:ByteArray),(⟨#[98]⟩:ByteArray)]:List ByteArray)).bind fun y_14=>
    B8.j3 y_14.2 (Aa.mk (W (1 + y.1)) y_2.1 y_3.1 y_4.1 y_5.1 (W (1 + y_6.1)) y_7.1 (Aq.mk 0 0) 0 y_14.1))
    (B8.j3 y_7.2 (Aa.mk (W (1 + y.1)) y_2.1 y_3.1 y_4.1 y_5.1 (W (1 + y_6.1)) y_7.1 (Aq.mk 0 0) 0 (⟨#[]⟩:ByteArray)))))
def B8.j1 (y:Int×Ab) (y_2:ByteArray×Ab) (y_3:Int×Ab) (y_4:Int×Ab) (y_5:Int×Ab) (y_6:Int×Ab) (y_7:ByteArray×Ab) (x27_1:Bool):Option (Aa×Ab):=
 cond (x27_1)
  ((Bi y_7.2 4).bind fun y_8=>
  (Bu ([(Aq.mk 1 0),(Aq.mk 2 0),(Aq.mk 5 1024),(Aq.mk 14 128)]:List Aq) y_8.1).bind fun e=>
  B8.j3 y_8.2 (Aa.mk (W (1 + y.1)) y_2.1 y_3.1 y_4.1 y_5.1 (W (1 + y_6.1)) y_7.1 e 0 (⟨#[]⟩:ByteArray)))
  (cond (decide ((W (1 + y_6.1))=2))
   ((Bi y_7.2 5).bind fun y_9=>
   B8.j3 y_9.2 (Aa.mk (W (1 + y.1)) y_2.1 y_3.1 y_4.1 y_5.1 (W (1 + y_6.1)) y_7.1 (Aq.mk 0 0) (W (1 + y_9.1)) (⟨#[]⟩:ByteArray)))
   (cond (decide ((W (1 + y_6.1))=3))
    ((B3 y_7.2 ([1024,2048]:List Int)).bind fun y_10=>
    (Bi y_10.2 3).bind fun y_11=>
    B8.j3 y_11.2 (Aa.mk (W (1 + y.1)) y_2.1 y_3.1 y_4.1 y_5.1 (W (1 + y_6.1)) y_7.1 (Aq.mk 5 y_10.1) (W (100 + y_11.1)) (⟨#[]⟩:ByteArray)))
    (cond (decide ((W (1 + y_6.1))=4))
     (B8.j2 y y_2 y_3 y_4 y_5 y_6 y_7 (decide ((W (1 + y_6.1))=4)))
     (B8.j2 y y_2 y_3 y_4 y_5 y_6 y_7 (decide ((W (1 + y_6.1))=5))))))
def B8 (d:Ab):Option (Aa×Ab):=
 (Bi d 7).bind fun y=>
 (Ff y.2 ([(⟨#[97]⟩:ByteArray),(⟨#[98]⟩:ByteArray),(⟨#[99]⟩:ByteArray)]:List ByteArray)).bind fun y_2=>
 (B3 y_2.2 ([0,1,2,0,3]:List Int)).bind fun y_3=>
 (Bi y_3.2 12).bind fun y_4=>
 (B3 y_4.2 ([90,50,100,1]:List Int)).bind fun y_5=>
 (Bi y_5.2 8).bind fun y_6=>
 (Ff y_6.2 ([(⟨#[115]⟩:ByteArray),(⟨#[116]⟩:ByteArray)]:List ByteArray)).bind fun y_7=>
 cond (decide ((W (1 + y_6.1))=1))
  (B8.j1 y y_2 y_3 y_4 y_5 y_6 y_7 (decide ((W (1 + y_6.1))=1)))
  (B8.j1 y y_2 y_3 y_4 y_5 y_6 y_7 (decide ((W (1 + y_6.1))=8)))
def Fy.l1 (i_1:Int) (d_1:Ab) (l_1:List Aa):Option (Lp (Int×Ab×List Aa) ((List Aa)×Ab)):=
 cond (decide (0 < i_1))
  ((B8 d_1).bind fun y_2=>
  (F3 1232 l_1 ([y_2.1]:List Aa)).bind fun l=>
  some (.next (W (i_1 - 1),y_2.2,l)))
  (up (
   (C6 l_1).bind fun y_3=>
   some (y_3.1,d_1)))
def Fy (d:Ab) (most:Int):Option ((List Aa)×Ab):=
 (Bi d (W (most + 1))).bind fun y=>
 B2 (fun q'=>Fy.l1 q'.1 q'.2.1 q'.2.2) (y.1,y.2,([]:List Aa))
def Qz (l:(List Aa)):Option ((List Aa)):=
 (C6 l).bind fun y=>
 some y.1
def Co.j3 (x23_1:Int) (d_3:Ab) (out_3:List Aa):Option (Lp (Int×Ab×List Aa) ((List Aa)×Ab)):=
 some (.next (W (x23_1 + 1),d_3,out_3))
def Co.j2 (x23_1:Int) (out_1:List Aa) (d_2:Ab) (f_2:Aa):Option (Lp (Int×Ab×List Aa) ((List Aa)×Ab)):=
 (F3 1232 out_1 ([f_2]:List Aa)).bind fun l=>
 Co.j3 x23_1 d_2 l
def Co.l1 (day:Int) (y_2:(List Aa)×Int) (x23_1:Int) (d_1:Ab) (out_1:List Aa):Option (Lp (Int×Ab×List Aa) ((List Aa)×Ab)):=
 cond (decide (x23_1 < (y_2.1.length:Int)))
  ((Bu y_2.1 x23_1).bind fun e_2=>
  (Bi d_1 8).bind fun y_3=>
  cond (decide (y_3.1=0))
   (Co.j3 x23_1 y_3.2 out_1)
   (cond (decide (y_3.1=1))
    ((B3 y_3.2 ([1,-1,2]:List Int)).bind fun y_4=>
    Co.j2 x23_1 out_1 y_4.2 (Aa.mk e_2.Source e_2.Host e_2.Machine e_2.Day e_2.Confidence e_2.Kind e_2.Subject e_2.Use (W (e_2.Number + y_4.1)) e_2.Text))
    (cond (decide (y_3.1=2))
     (Co.j2 x23_1 out_1 y_3.2 (Aa.mk e_2.Source e_2.Host e_2.Machine e_2.Day 50 e_2.Kind e_2.Subject e_2.Use e_2.Number e_2.Text))
     (cond (decide (y_3.1=3))
      (Co.j2 x23_1 out_1 y_3.2 (Aa.mk e_2.Source e_2.Host e_2.Machine (W (day + 1)) e_2.Confidence e_2.Kind e_2.Subject e_2.Use e_2.Number e_2.Text))
      (Co.j2 x23_1 out_1 y_3.2 e_2)))))
  (up (
   (Fy d_1 4).bind fun y_5=>
   (F3 1232 out_1 y_5.1).bind fun l_2=>
   (Qz l_2).bind fun y_6=>
   some (y_6,y_5.2)))
def Co (d:Ab) (e:Ad) (day:Int):Option ((List Aa)×Ab):=
 (Mv e.Name day).bind fun y=>
 (B6 y e).bind fun y_2=>
 B2 (fun q'=>Co.l1 day y_2 q'.1 q'.2.1 q'.2.2) (0,d,([]:List Aa))
def Gl.l1 (l:(List Int)) (n:Int) (x9_1:Int):Option (Lp (Int) (Bool)):=
 cond (decide (x9_1 < (l.length:Int)))
  ((Bu l x9_1).bind fun e=>
  cond (decide (e=n))
   (up (some true))
   (some (.next (W (x9_1 + 1)))))
  (up (
   some false))
def Gl (l:(List Int)) (n:Int):Option (Bool):=
 B2 (fun q'=>Gl.l1 l n q') 0
def Cc.j2 (x27_1:Int) (x42_2:Bool):Option (Lp (Int) (Bool)):=
 cond (x42_2)
  (up (some false))
  (some (.next (W (x27_1 + 1))))
def Cc.l1 (e:Ad) (f:Aa) (x27_1:Int):Option (Lp (Int) (Bool)):=
 cond (decide (x27_1 < (e.Identities.length:Int)))
  ((Bu e.Identities x27_1).bind fun e_2=>
  cond (decide (e_2.Key=f.Use))
   (Cc.j2 x27_1 (decide (e_2.KeyId=f.Number)))
   (Cc.j2 x27_1 false))
  (up (
   some true))
def Cc (e:Ad) (f:Aa):Option (Bool):=
 cond (!decide (f.Host=e.Name))
  (some false)
  (cond (decide (f.Kind=2))
   ((Gl e.Suites f.Number).bind fun y=>
   some (!y))
   (cond (decide (f.Kind=3))
    (B2 (fun q'=>Cc.l1 e f q') 0)
    (cond (decide (f.Kind=4))
     (some (!decide (f.Number=e.Most)))
     (cond (decide (f.Kind=5))
      (some (!decide (f.Number=e.Least)))
      (cond (decide (f.Kind=6))
       ((Gl e.Anchors f.Number).bind fun y_2=>
       some (!y_2))
       (some false))))))
def Cg.j2 (x8_1:Int) (x17_2:Bool):Option (Lp (Int) (Bool)):=
 cond (x17_2)
  (up (some false))
  (some (.next (W (x8_1 + 1))))
def Cg.l1 (s:ByteArray) (x8_1:Int):Option (Lp (Int) (Bool)):=
 cond (decide (x8_1 < ((Hq s).length:Int)))
  ((Bu (Hq s) x8_1).bind fun e=>
  cond (decide ((e.toNat:Int)<=32))
   (Cg.j2 x8_1 true)
   (Cg.j2 x8_1 (decide (126 < (e.toNat:Int)))))
  (up (
   cond (decide (1<=(s.size:Int)))
    (some (decide ((s.size:Int)<=32)))
    (some false)))
def Cg (s:ByteArray):Option (Bool):=
 B2 (fun q'=>Cg.l1 s q') 0
def Pv:Option ((List Cd)):=
 some ([(Cd.mk (⟨#[]⟩:ByteArray) 0 0 ([]:(List Int)) ([]:(List Int))),(Cd.mk (⟨#[109,100,53]⟩:ByteArray) 1 0 ([]:(List Int)) ([18]:List Int)),(Cd.mk (⟨#[115,104,97,49]⟩:ByteArray) 1 0 ([]:(List Int)) ([60]:List Int)),(Cd.mk (⟨#[115,104,97,50,53,54]⟩:ByteArray) 1 0 ([]:(List Int)) ([128]:List Int)),(Cd.mk (⟨#[115,104,97,51,56,52]⟩:ByteArray) 1 0 ([]:(List Int)) ([192]:List Int)),(Cd.mk (⟨#[114,115,97]⟩:ByteArray) 2 1 ([]:(List Int)) ([]:(List Int))),(Cd.mk (⟨#[100,115,97]⟩:ByteArray) 2 1 ([]:(List Int)) ([]:(List Int))),(Cd.mk (⟨#[101,99,100,115,97]⟩:ByteArray) 2 2 ([]:(List Int)) ([]:(List Int))),(Cd.mk (⟨#[101,100,50,53,53,49,57]⟩:ByteArray) 2 0 ([]:(List Int)) ([128]:List Int)),(Cd.mk (⟨#[109,108,100,115,97]⟩:ByteArray) 2 3 ([44,65,87]:List Int) ([128,192,256]:List Int)),(Cd.mk (⟨#[114,115,97,107,120]⟩:ByteArray) 3 1 ([]:(List Int)) ([]:(List Int))),(Cd.mk (⟨#[100,104,101]⟩:ByteArray) 3 1 ([]:(List Int)) ([]:(List Int))),(Cd.mk (⟨#[101,99,100,104,101]⟩:ByteArray) 3 2 ([]:(List Int)) ([]:(List Int))),(Cd.mk (⟨#[109,108,107,101,109]⟩:ByteArray) 3 3 ([512,768,1024]:List Int) ([128,192,256]:List Int)),(Cd.mk (⟨#[114,99,52]⟩:ByteArray) 4 3 ([40,128]:List Int) ([40,60]:List Int)),(Cd.mk (⟨#[100,101,115,51]⟩:ByteArray) 4 3 ([112,168]:List Int) ([80,112]:List Int)),(Cd.mk (⟨#[97,101,115,99,98,99]⟩:ByteArray) 4 3 ([128,256]:List Int) ([128,256]:List Int)),(Cd.mk (⟨#[97,101,115,103,99,109]⟩:ByteArray) 4 3 ([128,256]:List Int) ([128,256]:List Int)),(Cd.mk (⟨#[99,104,97,99,104,97]⟩:ByteArray) 4 0 ([]:(List Int)) ([256]:List Int)),(Cd.mk (⟨#[104,109,97,99,109,100,53]⟩:ByteArray) 5 0 ([]:(List Int)) ([64]:List Int)),(Cd.mk (⟨#[104,109,97,99,115,104,97,49]⟩:ByteArray) 5 0 ([]:(List Int)) ([80]:List Int)),(Cd.mk (⟨#[104,109,97,99,115,104,97,50,53,54]⟩:ByteArray) 5 0 ([]:(List Int)) ([128]:List Int)),(Cd.mk (⟨#[97,101,97,100]⟩:ByteArray) 5 0 ([]:(List Int)) ([256]:List Int))]:List Cd)
def Fb.j1 (alg:Int) (x9_1:Bool):Option (Cd×Bool):=
 cond (x9_1)
  (some ((Cd.mk (⟨#[]⟩:ByteArray) 0 0 ([]:(List Int)) ([]:(List Int))),false))
  ((Pv).bind fun y=>
  (Bu (aKg 23 y) alg).bind fun e=>
  some (e,true))
def Fb (alg:Int):Option (Cd×Bool):=
 cond (decide (alg < 1))
  (Fb.j1 alg true)
  (Fb.j1 alg (decide (22 < alg)))
def Dn.l1 (bits:Int) (x11_1:Int):Option (Lp (Int) (Int)):=
 cond (decide (x11_1 < 5))
  ((Bu ([([1024,56]:List Int),([2048,80]:List Int),([3072,112]:List Int),([7680,128]:List Int),([15360,192]:List Int)]:List (List Int)) x11_1).bind fun e=>
  cond (decide (bits < (e[0]!)))
   (up (some (e[1]!)))
   (some (.next (W (x11_1 + 1)))))
  (up (
   some 256))
def Dn (bits:Int):Option (Int):=
 B2 (fun q'=>Dn.l1 bits q') 0
def A6.j1 (u:Aq) (x34_1:Bool):Option (Int):=
 cond (x34_1)
  ((Dn u.Bits).bind fun y_2=>
  some y_2)
  (some 0)
def A6 (u:Aq):Option (Int):=
 (Fb u.Alg).bind fun y=>
 cond (!y.2)
  (some 0)
  (cond (decide (y.1.way=0))
   (cond (decide (u.Bits=0))
    ((Bu y.1.strengths 0).bind fun e=>
    some e)
    (some 0))
   (cond (decide (y.1.way=1))
    (cond (decide (512<=u.Bits))
     (A6.j1 u (decide (u.Bits<=16384)))
     (A6.j1 u false))
    (cond (decide (y.1.way=2))
     ((Db ([160,224,256,384,521]:List Int) u.Bits).bind fun y_3=>
     cond (y_3)
      ((Og u.Bits 2).bind fun q=>
      some q)
      (some 0))
     (cond (decide (y.1.way=3))
      ((Ch y.1.sizes u.Bits).bind fun y_4=>
      cond (decide (0<=y_4))
       ((Bu y.1.strengths y_4).bind fun e_2=>
       some e_2)
       (some 0))
      (some 0)))))
def Ga (u:Aq):Option (Bool):=
 (A6 u).bind fun y=>
 some (decide (0 < y))
def Hp (alg:Int):Option (Int):=
 (Fb alg).bind fun y=>
 some y.1.kind
def A4.j3 (f:Aa) (bare_1:Bool) (x71_3:Bool):Option (Bool):=
 cond (x71_3)
  (cond (bare_1)
   (cond (decide (1<=f.Number))
    (some (decide (f.Number<=4)))
    (some false))
   (some false))
  (cond (decide (f.Kind=6))
   (cond (bare_1)
    (cond (decide (0<=f.Number))
     (some (decide (f.Number<=2147483648)))
     (some false))
    (some false))
   (cond (decide (f.Kind=7))
    (cond (decide (f.Use=(Aq.mk 0 0)))
     (cond (decide (f.Number=0))
      ((Cg f.Text).bind fun y_4=>
      some y_4)
      (some false))
     (some false))
    (some false)))
def A4.j2 (f:Aa) (bare_1:Bool) (x15_2:Bool):Option (Bool):=
 cond (x15_2)
  ((Ga f.Use).bind fun y=>
  cond (y)
   (cond (decide (f.Number=0))
    (some (decide (f.Text=(⟨#[]⟩:ByteArray))))
    (some false))
   (some false))
  (cond (decide (f.Kind=2))
   (cond (bare_1)
    (cond (decide (0<=f.Number))
     (some (decide (f.Number<=65535)))
     (some false))
    (some false))
   (cond (decide (f.Kind=3))
    ((Ga f.Use).bind fun y_2=>
    cond (y_2)
     ((Hp f.Use.Alg).bind fun y_3=>
     cond (decide (y_3=2))
      (cond (decide (0<=f.Number))
       (cond (decide (f.Number<=2147483648))
        (some (decide (f.Text=(⟨#[]⟩:ByteArray))))
        (some false))
       (some false))
      (some false))
     (some false))
    (cond (decide (f.Kind=4))
     (A4.j3 f bare_1 (decide (f.Kind=4)))
     (A4.j3 f bare_1 (decide (f.Kind=5))))))
def A4.j1 (f:Aa) (bare_1:Bool):Option (Bool):=
 cond (decide (f.Kind=1))
  (A4.j2 f bare_1 (decide (f.Kind=1)))
  (A4.j2 f bare_1 (decide (f.Kind=8)))
def A4 (f:Aa):Option (Bool):=
 cond (decide (f.Use=(Aq.mk 0 0)))
  (A4.j1 f (decide (f.Text=(⟨#[]⟩:ByteArray))))
  (A4.j1 f false)
def Br.j3 (x61_3:Bool):Option (Int):=
 cond (x61_3)
  (some 24)
  (some 0)
def Br.j2 (f:Aa) (where_1:Bool) (when_2:Bool):Option (Int):=
 cond (!where_1)
  (Br.j3 true)
  (cond (!when_2)
   (Br.j3 true)
   (cond (decide (f.Source < 1))
    (Br.j3 true)
    (cond (decide (7 < f.Source))
     (Br.j3 true)
     ((A4 f).bind fun y_3=>
     Br.j3 (!y_3)))))
def Br.j1 (f:Aa) (where_1:Bool):Option (Int):=
 cond (decide (0<=f.Day))
  (cond (decide (f.Day<=40000))
   (cond (decide (1<=f.Confidence))
    (Br.j2 f where_1 (decide (f.Confidence<=100)))
    (Br.j2 f where_1 false))
   (Br.j2 f where_1 false))
  (Br.j2 f where_1 false)
def Br (f:Aa):Option (Int):=
 (Cg f.Host).bind fun y=>
 cond (y)
  ((Cg f.Subject).bind fun y_2=>
  cond (y_2)
   (cond (decide (0<=f.Machine))
    (Br.j1 f (decide (f.Machine<=1099511627776)))
    (Br.j1 f false))
   (Br.j1 f false))
  (Br.j1 f false)
def Ll (at':Aa):Option (Ey×Int):=
 (Br (Aa.mk at'.Source at'.Host at'.Machine at'.Day at'.Confidence 4 at'.Subject (Aq.mk 0 0) 1 (⟨#[]⟩:ByteArray))).bind fun y=>
 some ((Ey.mk (Aa.mk at'.Source at'.Host at'.Machine at'.Day at'.Confidence 4 at'.Subject (Aq.mk 0 0) 1 (⟨#[]⟩:ByteArray)) ([]:(List Aa))),y)
def Gw (s:ByteArray) (c:UInt8):Option (Int):=
 some (iH s c)
def D5 (s:ByteArray) (c:UInt8):Option (Int):=
 (Gw s c).bind fun y=>
 some y
def Jh (c:UInt8) (others:ByteArray):Option (Bool):=
 cond (decide (97<=(c.toNat:Int)))
  (cond (decide ((c.toNat:Int)<=122))
   (some true)
   (cond (decide (65<=(c.toNat:Int)))
    (cond (decide ((c.toNat:Int)<=90))
     (some true)
     (cond (decide (48<=(c.toNat:Int)))
      (cond (decide ((c.toNat:Int)<=57))
       (some true)
       ((D5 others c).bind fun y=>
       some (decide (0<=y))))
      ((D5 others c).bind fun y_2=>
      some (decide (0<=y_2)))))
    (cond (decide (48<=(c.toNat:Int)))
     (cond (decide ((c.toNat:Int)<=57))
      (some true)
      ((D5 others c).bind fun y_3=>
      some (decide (0<=y_3))))
     ((D5 others c).bind fun y_4=>
     some (decide (0<=y_4))))))
  (cond (decide (65<=(c.toNat:Int)))
   (cond (decide ((c.toNat:Int)<=90))
    (some true)
    (cond (decide (48<=(c.toNat:Int)))
     (cond (decide ((c.toNat:Int)<=57))
      (some true)
      ((D5 others c).bind fun y_5=>
      some (decide (0<=y_5))))
     ((D5 others c).bind fun y_6=>
     some (decide (0<=y_6)))))
   (cond (decide (48<=(c.toNat:Int)))
    (cond (decide ((c.toNat:Int)<=57))
     (some true)
     ((D5 others c).bind fun y_7=>
     some (decide (0<=y_7))))
    ((D5 others c).bind fun y_8=>
    some (decide (0<=y_8)))))
def Ev.l1 (s:ByteArray) (x8_1:Int):Option (Lp (Int) (Bool)):=
 cond (decide (x8_1 < ((Hq s).length:Int)))
  ((Bu (Hq s) x8_1).bind fun e=>
  (Jh e (⟨#[45,95,46]⟩:ByteArray)).bind fun y=>
  cond (!y)
   (up (some false))
   (some (.next (W (x8_1 + 1)))))
  (up (
   cond (decide (1<=(s.size:Int)))
    (some (decide ((s.size:Int)<=32)))
    (some false)))
def Ev (s:ByteArray):Option (Bool):=
 B2 (fun q'=>Ev.l1 s q') 0
def C0 (alg:Int) (bits:Int):Option (Aq):=
 some (Aq.mk alg bits)
def E5.l1 (y:Aq) (y_2:Aq) (y_3:Aq) (y_4:Aq) (y_5:Aq) (y_6:Aq) (y_7:Aq) (y_8:Aq) (y_9:Aq) (y_10:Aq) (y_11:Aq) (y_12:Aq) (y_13:Aq) (y_14:Aq) (y_15:Aq) (y_16:Aq) (y_17:Aq) (y_18:Aq) (y_19:Aq) (y_20:Aq) (y_21:Aq) (y_22:Aq) (x114_1:Int) (l_1:List A1):Option (Lp (Int×List A1) ((List A1))):=
 cond (decide (x114_1 < (([(A1.mk 0 (⟨#[114,115,97,45,114,99,52,45,109,100,53]⟩:ByteArray) y y_2 y_14 y_10 1 2),(A1.mk 0 (⟨#[114,115,97,45,114,99,52,45,115,104,97]⟩:ByteArray) y y_2 y_15 y_11 1 3),(A1.mk 0 (⟨#[114,115,97,45,100,101,115,51,45,115,104,97]⟩:ByteArray) y y_2 y_5 y_11 1 3),(A1.mk 0 (⟨#[100,104,101,45,100,115,97,45,100,101,115,51,45,115,104,97]⟩:ByteArray) y_16 y_3 y_5 y_11 1 3),(A1.mk 0 (⟨#[100,104,101,45,114,115,97,45,100,101,115,51,45,115,104,97]⟩:ByteArray) y_17 y_2 y_5 y_11 1 3),(A1.mk 0 (⟨#[114,115,97,45,97,101,115,49,50,56,45,115,104,97]⟩:ByteArray) y y_2 y_6 y_11 1 3),(A1.mk 0 (⟨#[100,104,101,45,114,115,97,45,97,101,115,49,50,56,45,115,104,97]⟩:ByteArray) y_18 y_2 y_6 y_11 1 3),(A1.mk 0 (⟨#[101,99,100,104,101,45,114,115,97,45,97,101,115,49,50,56,45,115,104,97]⟩:ByteArray) y_13 y_2 y_6 y_11 1 3),(A1.mk 0 (⟨#[101,99,100,104,101,45,101,99,100,115,97,45,97,101,115,50,53,54,45,115,104,97,50,53,54]⟩:ByteArray) y_13 y_4 y_19 y_20 3 3),(A1.mk 0 (⟨#[101,99,100,104,101,45,114,115,97,45,97,101,115,49,50,56,45,103,99,109]⟩:ByteArray) y_13 y_2 y_7 y_12 3 3),(A1.mk 0 (⟨#[101,99,100,104,101,45,101,99,100,115,97,45,97,101,115,50,53,54,45,103,99,109]⟩:ByteArray) y_21 y_4 y_8 y_12 3 3),(A1.mk 0 (⟨#[101,99,100,104,101,45,114,115,97,45,99,104,97,99,104,97]⟩:ByteArray) y_13 y_2 y_9 y_12 3 3),(A1.mk 0 (⟨#[114,115,97,45,97,101,115,50,53,54,45,103,99,109]⟩:ByteArray) y y_2 y_8 y_12 3 3),(A1.mk 0 (⟨#[97,101,115,49,50,56,45,103,99,109]⟩:ByteArray) y_13 (Aq.mk 0 0) y_7 y_12 4 4),(A1.mk 0 (⟨#[99,104,97,99,104,97]⟩:ByteArray) y_13 (Aq.mk 0 0) y_9 y_12 4 4),(A1.mk 0 (⟨#[109,108,107,101,109,45,97,101,115,50,53,54,45,103,99,109]⟩:ByteArray) y_22 (Aq.mk 0 0) y_8 y_12 4 4)]:List A1).length:Int)))
  ((Bu l_1 x114_1).bind fun e=>
  some (.next (W (x114_1 + 1),C3 l_1 ((x114_1).toNat) (A1.mk (W (x114_1 + 1)) e.Name e.Exchange e.Sign e.Cipher e.Mac e.Least e.Most))))
  (up (
   some l_1))
def E5:Option ((List A1)):=
 (C0 10 0).bind fun y=>
 (C0 5 0).bind fun y_2=>
 (C0 6 0).bind fun y_3=>
 (C0 7 0).bind fun y_4=>
 (C0 15 168).bind fun y_5=>
 (C0 16 128).bind fun y_6=>
 (C0 17 128).bind fun y_7=>
 (C0 17 256).bind fun y_8=>
 (C0 18 0).bind fun y_9=>
 (C0 19 0).bind fun y_10=>
 (C0 20 0).bind fun y_11=>
 (C0 22 0).bind fun y_12=>
 (C0 12 256).bind fun y_13=>
 (C0 14 128).bind fun y_14=>
 (C0 14 128).bind fun y_15=>
 (C0 11 1024).bind fun y_16=>
 (C0 11 1024).bind fun y_17=>
 (C0 11 2048).bind fun y_18=>
 (C0 16 256).bind fun y_19=>
 (C0 21 0).bind fun y_20=>
 (C0 12 384).bind fun y_21=>
 (C0 13 768).bind fun y_22=>
 B2 (fun q'=>E5.l1 y y_2 y_3 y_4 y_5 y_6 y_7 y_8 y_9 y_10 y_11 y_12 y_13 y_14 y_15 y_16 y_17 y_18 y_19 y_20 y_21 y_22 q'.1 q'.2) (0,([(A1.mk 0 (⟨#[114,115,97,45,114,99,52,45,109,100,53]⟩:ByteArray) y y_2 y_14 y_10 1 2),(A1.mk 0 (⟨#[114,115,97,45,114,99,52,45,115,104,97]⟩:ByteArray) y y_2 y_15 y_11 1 3),(A1.mk 0 (⟨#[114,115,97,45,100,101,115,51,45,115,104,97]⟩:ByteArray) y y_2 y_5 y_11 1 3),(A1.mk 0 (⟨#[100,104,101,45,100,115,97,45,100,101,115,51,45,115,104,97]⟩:ByteArray) y_16 y_3 y_5 y_11 1 3),(A1.mk 0 (⟨#[100,104,101,45,114,115,97,45,100,101,115,51,45,115,104,97]⟩:ByteArray) y_17 y_2 y_5 y_11 1 3),(A1.mk 0 (⟨#[114,115,97,45,97,101,115,49,50,56,45,115,104,97]⟩:ByteArray) y y_2 y_6 y_11 1 3),(A1.mk 0 (⟨#[100,104,101,45,114,115,97,45,97,101,115,49,50,56,45,115,104,97]⟩:ByteArray) y_18 y_2 y_6 y_11 1 3),(A1.mk 0 (⟨#[101,99,100,104,101,45,114,115,97,45,97,101,115,49,50,56,45,115,104,97]⟩:ByteArray) y_13 y_2 y_6 y_11 1 3),(A1.mk 0 (⟨#[101,99,100,104,101,45,101,99,100,115,97,45,97,101,115,50,53,54,45,115,104,97,50,53,54]⟩:ByteArray) y_13 y_4 y_19 y_20 3 3),(A1.mk 0 (⟨#[101,99,100,104,101,45,114,115,97,45,97,101,115,49,50,56,45,103,99,109]⟩:ByteArray) y_13 y_2 y_7 y_12 3 3),(A1.mk 0 (⟨#[101,99,100,104,101,45,101,99,100,115,97,45,97,101,115,50,53,54,45,103,99,109]⟩:ByteArray) y_21 y_4 y_8 y_12 3 3),(A1.mk 0 (⟨#[101,99,100,104,101,45,114,115,97,45,99,104,97,99,104,97]⟩:ByteArray) y_13 y_2 y_9 y_12 3 3),(A1.mk 0 (⟨#[114,115,97,45,97,101,115,50,53,54,45,103,99,109]⟩:ByteArray) y y_2 y_8 y_12 3 3),(A1.mk 0 (⟨#[97,101,115,49,50,56,45,103,99,109]⟩:ByteArray) y_13 (Aq.mk 0 0) y_7 y_12 4 4),(A1.mk 0 (⟨#[99,104,97,99,104,97]⟩:ByteArray) y_13 (Aq.mk 0 0) y_9 y_12 4 4),(A1.mk 0 (⟨#[109,108,107,101,109,45,97,101,115,50,53,54,45,103,99,109]⟩:ByteArray) y_22 (Aq.mk 0 0) y_8 y_12 4 4)]:List A1))
def Fx.j1 (code:Int) (y:(List A1)) (x13_1:Bool):Option (A1×Int):=
 cond (x13_1)
  (some ((A1.mk 0 (⟨#[]⟩:ByteArray) (Aq.mk 0 0) (Aq.mk 0 0) (Aq.mk 0 0) (Aq.mk 0 0) 0 0),8))
  ((Bu y (W (code - 1))).bind fun e=>
  some (e,0))
def Fx (code:Int):Option (A1×Int):=
 (E5).bind fun y=>
 cond (decide (code < 1))
  (Fx.j1 code y true)
  (Fx.j1 code y (decide ((y.length:Int) < code)))
def C4.j2 (x9_1:Int) (x27_2:Bool):Option (Lp (Int) (Bool)):=
 cond (x27_2)
  (up (some false))
  (some (.next (W (x9_1 + 1))))
def C4.l1 (l:(List Int)) (x9_1:Int):Option (Lp (Int) (Bool)):=
 cond (decide (x9_1 < (l.length:Int)))
  ((Bu l x9_1).bind fun e=>
  (Fx e).bind fun y=>
  cond (!decide (y.2=0))
   (C4.j2 x9_1 true)
   ((Zo l 0 x9_1).bind fun l_2=>
   (Db l_2 e).bind fun y_2=>
   C4.j2 x9_1 y_2))
  (up (
   some true))
def C4 (l:(List Int)):Option (Bool):=
 B2 (fun q'=>C4.l1 l q') 0
def Ct.j2 (x6_1:Int) (x22_2:Bool):Option (Lp (Int) (Bool)):=
 cond (x22_2)
  (up (some false))
  (some (.next (W (x6_1 + 1))))
def Ct.l1 (l:(List Int)) (x6_1:Int):Option (Lp (Int) (Bool)):=
 cond (decide (x6_1 < (l.length:Int)))
  (cond (decide (0 < x6_1))
   ((Bu l (W (x6_1 - 1))).bind fun e=>
   (Bu l x6_1).bind fun e_2=>
   Ct.j2 x6_1 (decide (e_2<=e)))
   (Ct.j2 x6_1 false))
  (up (
   some true))
def Ct (l:(List Int)):Option (Bool):=
 B2 (fun q'=>Ct.l1 l q') 0
def Fv (n:Int):Option (Bool):=
 cond (decide (0<=n))
  (some (decide (n<=2147483648)))
  (some false)
def Ce.j2 (x7_1:Int) (x27_2:Bool):Option (Lp (Int) (Bool)):=
 cond (x27_2)
  (up (some false))
  (some (.next (W (x7_1 + 1))))
def Ce.l1 (l:(List ByteArray)) (x7_1:Int):Option (Lp (Int) (Bool)):=
 cond (decide (x7_1 < (l.length:Int)))
  ((Bu l x7_1).bind fun e=>
  (Cg e).bind fun y=>
  cond (!y)
   (Ce.j2 x7_1 true)
   (cond (decide (0 < x7_1))
    ((Bu l (W (x7_1 - 1))).bind fun e_2=>
    Ce.j2 x7_1 (!Mc (Hq e_2) (Hq e)))
    (Ce.j2 x7_1 false)))
  (up (
   some (decide ((l.length:Int)<=8))))
def Ce (l:(List ByteArray)):Option (Bool):=
 B2 (fun q'=>Ce.l1 l q') 0
def In (u:Aq) (kind:Int):Option (Bool):=
 (Ga u).bind fun y=>
 cond (y)
  ((Hp u.Alg).bind fun y_2=>
  some (decide (y_2=kind)))
  (some false)
def Jo (n:Int):Option (Bool):=
 cond (decide (0<=n))
  (some (decide (n < 4294967296)))
  (some false)
def Bj.j3 (c:Ah) (x73_3:Bool):Option (Bool):=
 cond (x73_3)
  (some false)
  (cond (decide (0<=c.Path))
   (cond (decide (c.Path<=8))
    (cond (c.Authority)
     (some true)
     (some (decide (c.Path=0))))
    (some false))
   (some false))
def Bj.j2 (c:Ah) (x58_2:Bool):Option (Bool):=
 cond (x58_2)
  (some false)
  (cond (decide (c.From < 0))
   (Bj.j3 c true)
   (cond (decide (c.To < c.From))
    (Bj.j3 c true)
    (Bj.j3 c (decide (40000 < c.To)))))
def Bj.j1 (c:Ah) (x28_1:Bool):Option (Bool):=
 cond (x28_1)
  (some false)
  ((In c.Key 2).bind fun y_4=>
  cond (!y_4)
   (Bj.j2 c true)
   ((Fv c.KeyId).bind fun y_5=>
   cond (!y_5)
    (Bj.j2 c true)
    ((In c.Hash 1).bind fun y_6=>
    cond (!y_6)
     (Bj.j2 c true)
     ((Fv c.Seal.Key).bind fun y_7=>
     cond (!y_7)
      (Bj.j2 c true)
      ((Jo c.Seal.Sum).bind fun y_8=>
      Bj.j2 c (!y_8))))))
def Bj (c:Ah):Option (Bool):=
 cond (decide (c.Serial < 0))
  (Bj.j1 c true)
  (cond (decide (1099511627776 < c.Serial))
   (Bj.j1 c true)
   ((Cg c.Issuer).bind fun y=>
   cond (!y)
    (Bj.j1 c true)
    ((Cg c.Subject).bind fun y_2=>
    cond (!y_2)
     (Bj.j1 c true)
     ((Ce c.Names).bind fun y_3=>
     Bj.j1 c (!y_3)))))
def Ic (c:Ah):Option (Int):=
 (Bj c).bind fun y=>
 cond (!y)
  (some 9)
  (some 0)
def Cl.l2 (key:Aq) (id:Int) (l:(List Ah)) (x30_2:Int):Option (Lp (Int) (Bool)):=
 cond (decide (x30_2 < (l.length:Int)))
  ((Bu l x30_2).bind fun e=>
  (Ic e).bind fun y_4=>
  cond (!decide (y_4=0))
   (up (some false))
   (some (.next (W (x30_2 + 1)))))
  (up (
   cond (decide ((l.length:Int)=0))
    (some true)
    ((Bu l 0).bind fun e_2=>
    cond (decide (e_2.Key=key))
     (some (decide (e_2.KeyId=id)))
     (some false))))
def Cl.j1 (key:Aq) (id:Int) (l:(List Ah)) (x27_1:Bool):Option (Bool):=
 cond (x27_1)
  (some false)
  (B2 (fun q'=>Cl.l2 key id l q') 0)
def Cl (key:Aq) (id:Int) (l:(List Ah)):Option (Bool):=
 (Ga key).bind fun y=>
 cond (!y)
  (Cl.j1 key id l true)
  ((Hp key.Alg).bind fun y_2=>
  cond (!decide (y_2=2))
   (Cl.j1 key id l true)
   ((Fv id).bind fun y_3=>
   cond (!y_3)
    (Cl.j1 key id l true)
    (Cl.j1 key id l (decide (8 < (l.length:Int))))))
def Ju:Option (Unit):=
 some ()
def Gn (n:Int):Option (Bool):=
 (Fv n).bind fun y=>
 some (!y)
def Bz.l1 (s:(List Int)) (f:Int->Option (Bool)) (x8_1:Int):Option (Lp (Int) (Int)):=
 cond (decide (x8_1 < (s.length:Int)))
  ((Bu s x8_1).bind fun e=>
  (f e).bind fun y=>
  cond (y)
   (up (some x8_1))
   (some (.next (W (x8_1 + 1)))))
  (up (
   some (-1)))
def Bz (s:(List Int)) (f:Int->Option (Bool)):Option (Int):=
 B2 (fun q'=>Bz.l1 s f q') 0
def D3 (s:(List Int)) (f:Int->Option (Bool)):Option (Bool):=
 (Bz s f).bind fun y=>
 some (decide (0<=y))
def Jx:Option (Unit):=
 some ()
def Kv (alg:Int):Option (Bool):=
 (Hp alg).bind fun y=>
 some (decide (y=1))
def Gp (n:Int):Option (Bool):=
 (Kv n).bind fun y=>
 some (!y)
def Bq.j4 (x82_4:Bool):Option (Int):=
 cond (x82_4)
  (some 19)
  (some 0)
def Bq.l3 (e:Ad) (x58_3:Int):Option (Lp (Int) (Int)):=
 cond (decide (x58_3 < (e.Identities.length:Int)))
  ((Bu e.Identities x58_3).bind fun e_2=>
  (Cl e_2.Key e_2.KeyId e_2.Chain).bind fun y_5=>
  cond (!y_5)
   (up (some 19))
   (some (.next (W (x58_3 + 1)))))
  (up (
   (Ju).bind fun y_6=>
   (D3 e.Anchors (fun x0=>Gn x0)).bind fun y_7=>
   cond (y_7)
    (Bq.j4 true)
    ((Jx).bind fun y_8=>
    (D3 e.Hashes (fun x0=>Gp x0)).bind fun y_9=>
    Bq.j4 y_9)))
def Bq.j2 (e:Ad) (x54_2:Bool):Option (Int):=
 cond (x54_2)
  (some 19)
  (B2 (fun q'=>Bq.l3 e q') 0)
def Bq.j1 (e:Ad) (x32_1:Bool):Option (Int):=
 cond (x32_1)
  (some 19)
  (cond (decide (4 < (e.Identities.length:Int)))
   (Bq.j2 e true)
   (cond (decide (16 < (e.Anchors.length:Int)))
    (Bq.j2 e true)
    ((Ct e.Anchors).bind fun y_3=>
    cond (!y_3)
     (Bq.j2 e true)
     ((Ct e.Hashes).bind fun y_4=>
     Bq.j2 e (!y_4)))))
def Bq (e:Ad):Option (Int):=
 (Ev e.Name).bind fun y=>
 cond (!y)
  (Bq.j1 e true)
  (cond (decide (e.Least < 1))
   (Bq.j1 e true)
   (cond (decide (e.Most < e.Least))
    (Bq.j1 e true)
    (cond (decide (4 < e.Most))
     (Bq.j1 e true)
     ((C4 e.Suites).bind fun y_2=>
     Bq.j1 e (!y_2)))))
def D2 (p:Ey) (kind:Int) (u:Aq) (number:Int):Option (Ey):=
 (F3 1232 p.l ([(Aa.mk p.at_.Source p.at_.Host p.at_.Machine p.at_.Day p.at_.Confidence kind p.at_.Subject u number p.at_.Text)]:List Aa)).bind fun l=>
 some (Ey.mk p.at_ l)
def Cq.j1 (s:(List Aa)) (x4_1:Bool):Option ((List Aa)):=
 cond (x4_1)
  (some ([]:(List Aa)))
  ((F3 1232 ([]:List Aa) s).bind fun l=>
  some l)
def Cq (s:(List Aa)):Option ((List Aa)):=
 lE (s)
  (Cq.j1 s true)
  (Cq.j1 s false)
def Bv.j3 (x_3:Int) (n_3:Int):Option (Int):=
 (iE (⟨#[0,1,2,2,3,3,3,3,4,4,4,4,4,4,4,4,5,5,5,5,5,5,5,5,5,5,5,5,5,5,5,5,6,6,6,6,6,6,6,6,6,6,6,6,6,6,6,6,6,6,6,6,6,6,6,6,6,6,6,6,6,6,6,6,7,7,7,7,7,7,7,7,7,7,7,7,7,7,7,7,7,7,7,7,7,7,7,7,7,7,7,7,7,7,7,7,7,7,7,7,7,7,7,7,7,7,7,7,7,7,7,7,7,7,7,7,7,7,7,7,7,7,7,7,7,7,7,7,8,8,8,8,8,8,8,8,8,8,8,8,8,8,8,8,8,8,8,8,8,8,8,8,8,8,8,8,8,8,8,8,8,8,8,8,8,8,8,8,8,8,8,8,8,8,8,8,8,8,8,8,8,8,8,8,8,8,8,8,8,8,8,8,8,8,8,8,8,8,8,8,8,8,8,8,8,8,8,8,8,8,8,8,8,8,8,8,8,8,8,8,8,8,8,8,8,8,8,8,8,8,8,8,8,8,8,8,8,8,8,8,8,8,8,8,8,8,8,8,8,8,8,8,8,8,8,8]⟩:ByteArray) ((u8 x_3).toNat:Int)).bind fun c=>
 some (W (n_3 + (c.toNat:Int)))
def Bv.j2 (x_2:Int) (n_2:Int):Option (Int):=
 cond (decide (256<=x_2))
  ((Vd .u64 x_2 8).bind fun q_3=>
  Bv.j3 q_3 (W (n_2 + 8)))
  (Bv.j3 x_2 n_2)
def Bv.j1 (x_1:Int) (n_1:Int):Option (Int):=
 cond (decide (65536<=x_1))
  ((Vd .u64 x_1 16).bind fun q_2=>
  Bv.j2 q_2 (W (n_1 + 16)))
  (Bv.j2 x_1 n_1)
def Bv (x':Int):Option (Int):=
 cond (decide (4294967296<=x'))
  ((Vd .u64 x' 32).bind fun q=>
  Bv.j1 q 32)
  (Bv.j1 x' 0)
def H3 (x':Int):Option (Int):=
 (Bv x').bind fun y=>
 some y
def H2 (c0:Aa) (c1:Aa):Option ((Aa×Aa)):=
 some (c0,c1)
def H0 (c0:Aa) (c1:Aa):Option ((Aa×Aa)):=
 some (c0,c1)
def Hr (c0:Aa) (c1:Aa):Option ((Aa×Aa)):=
 some (c0,c1)
def Hu (c0:Aa) (c1:Aa):Option ((Aa×Aa)):=
 some (c0,c1)
def H1 (c0:Aa) (c1:Aa):Option ((Aa×Aa)):=
 some (c0,c1)
def Ht (c0:Aa) (c1:Aa):Option ((Aa×Aa)):=
 some (c0,c1)
def Hy (c0:Aa) (c1:Aa):Option ((Aa×Aa)):=
 some (c0,c1)
def Hx (c0:Aa) (c1:Aa):Option ((Aa×Aa)):=
 some (c0,c1)
def Hs (c0:Aa) (c1:Aa):Option ((Aa×Aa)):=
 some (c0,c1)
def Hw (c0:Aa) (c1:Aa):Option ((Aa×Aa)):=
 some (c0,c1)
def Hz (c0:Aa) (c1:Aa):Option ((Aa×Aa)):=
 some (c0,c1)
def I1 (f:Aa):Option (ByteArray):=
 some f.Host
def Ft (a:ByteArray) (b:ByteArray):Option (Int):=
 some (sY a b)
def G1 (a:ByteArray) (b:ByteArray):Option (Int):=
 (Ft a b).bind fun y=>
 some y
def Gz (c1:Aa) (c2:Aa):Option (Int):=
 (I1 c1).bind fun y=>
 (I1 c2).bind fun y_2=>
 (G1 y y_2).bind fun y_3=>
 some y_3
def Is (f:Aa):Option (Int):=
 some f.Machine
def Kw (x':Int):Option (Bool):=
 some (!decide (x'=x'))
def Ed (x':Int) (y:Int):Option (Int):=
 (Kw x').bind fun y_2=>
 (Kw y).bind fun y_3=>
 cond (y_2)
  (cond (y_3)
   (some 0)
   (some (-1)))
  (cond (y_3)
   (some 1)
   (cond (decide (x' < y))
    (some (-1))
    (cond (decide (y < x'))
     (some 1)
     (some 0))))
def Gs (c1:Aa) (c2:Aa):Option (Int):=
 (Is c1).bind fun y=>
 (Is c2).bind fun y_2=>
 (Ed y y_2).bind fun y_3=>
 some y_3
def I4 (f:Aa):Option (Int):=
 some f.Day
def Gt (c1:Aa) (c2:Aa):Option (Int):=
 (I4 c1).bind fun y=>
 (I4 c2).bind fun y_2=>
 (Ed y y_2).bind fun y_3=>
 some y_3
def Iv (f:Aa):Option (ByteArray):=
 some f.Subject
def G5 (c1:Aa) (c2:Aa):Option (Int):=
 (Iv c1).bind fun y=>
 (Iv c2).bind fun y_2=>
 (G1 y y_2).bind fun y_3=>
 some y_3
def I5 (f:Aa):Option (Int):=
 some f.Kind
def Gv (c1:Aa) (c2:Aa):Option (Int):=
 (I5 c1).bind fun y=>
 (I5 c2).bind fun y_2=>
 (Ed y y_2).bind fun y_3=>
 some y_3
def I3 (f:Aa):Option (Int):=
 some f.Use.Alg
def Gx (c1:Aa) (c2:Aa):Option (Int):=
 (I3 c1).bind fun y=>
 (I3 c2).bind fun y_2=>
 (Ed y y_2).bind fun y_3=>
 some y_3
def Iz (f:Aa):Option (Int):=
 some f.Use.Bits
def Gy (c1:Aa) (c2:Aa):Option (Int):=
 (Iz c1).bind fun y=>
 (Iz c2).bind fun y_2=>
 (Ed y y_2).bind fun y_3=>
 some y_3
def Ie (f:Aa):Option (Int):=
 some f.Number
def G4 (c1:Aa) (c2:Aa):Option (Int):=
 (Ie c1).bind fun y=>
 (Ie c2).bind fun y_2=>
 (Ed y y_2).bind fun y_3=>
 some y_3
def H9 (f:Aa):Option (ByteArray):=
 some f.Text
def Gr (c1:Aa) (c2:Aa):Option (Int):=
 (H9 c1).bind fun y=>
 (H9 c2).bind fun y_2=>
 (G1 y y_2).bind fun y_3=>
 some y_3
def H7 (f:Aa):Option (Int):=
 some f.Source
def G0 (c1:Aa) (c2:Aa):Option (Int):=
 (H7 c1).bind fun y=>
 (H7 c2).bind fun y_2=>
 (Ed y y_2).bind fun y_3=>
 some y_3
def Ib (f:Aa):Option (Int):=
 some f.Confidence
def G6 (c1:Aa) (c2:Aa):Option (Int):=
 (Ib c1).bind fun y=>
 (Ib c2).bind fun y_2=>
 (Ed y y_2).bind fun y_3=>
 some y_3
def H6 (a:Aa) (b:Aa):Option (Int):=
 (H2 a b).bind fun y=>
 (H0 a b).bind fun y_2=>
 (Hr a b).bind fun y_3=>
 (Hu a b).bind fun y_4=>
 (H1 a b).bind fun y_5=>
 (Ht a b).bind fun y_6=>
 (Hy a b).bind fun y_7=>
 (Hx a b).bind fun y_8=>
 (Hs a b).bind fun y_9=>
 (Hw a b).bind fun y_10=>
 (Hz a b).bind fun y_11=>
 (Gz y.1 y.2).bind fun y_12=>
 cond (!decide (y_12=0))
  (some y_12)
  ((Gs y_2.1 y_2.2).bind fun y_13=>
  cond (!decide (y_13=0))
   (some y_13)
   ((Gt y_3.1 y_3.2).bind fun y_14=>
   cond (!decide (y_14=0))
    (some y_14)
    ((G5 y_4.1 y_4.2).bind fun y_15=>
    cond (!decide (y_15=0))
     (some y_15)
     ((Gv y_5.1 y_5.2).bind fun y_16=>
     cond (!decide (y_16=0))
      (some y_16)
      ((Gx y_6.1 y_6.2).bind fun y_17=>
      cond (!decide (y_17=0))
       (some y_17)
       ((Gy y_7.1 y_7.2).bind fun y_18=>
       cond (!decide (y_18=0))
        (some y_18)
        ((G4 y_8.1 y_8.2).bind fun y_19=>
        cond (!decide (y_19=0))
         (some y_19)
         ((Gr y_9.1 y_9.2).bind fun y_20=>
         cond (!decide (y_20=0))
          (some y_20)
          ((G0 y_10.1 y_10.2).bind fun y_21=>
          cond (!decide (y_21=0))
           (some y_21)
           ((G6 y_11.1 y_11.2).bind fun y_22=>
           cond (!decide (y_22=0))
            (some y_22)
            (some 0)))))))))))
def Ao.j3 (i_1:Int) (j_2:Int) (data_2:List Aa) (x34_3:Bool):Option (Lp (Int×List Aa) (Lp (Int×List Aa) ((List Aa)))):=
 cond (x34_3)
  ((Bu data_2 (W (j_2 - 1))).bind fun e_3=>
  (Bu data_2 j_2).bind fun e_4=>
  (Bu (C3 data_2 ((j_2).toNat) e_3) (W (j_2 - 1))).bind fun e_5=>
  some (.next (W (j_2 - 1),C3 (C3 data_2 ((j_2).toNat) e_3) ((W (j_2 - 1)).toNat) e_4)))
  (up (
   some (.next (W (i_1 + 1),data_2))))
def Ao.l2 (a:Int) (cmp:Aa->Aa->Option (Int)) (i_1:Int) (j_2:Int) (data_2:List Aa):Option (Lp (Int×List Aa) (Lp (Int×List Aa) ((List Aa)))):=
 cond (decide (a < j_2))
  ((Bu data_2 j_2).bind fun e=>
  (Bu data_2 (W (j_2 - 1))).bind fun e_2=>
  (cmp e e_2).bind fun y=>
  Ao.j3 i_1 j_2 data_2 (decide (y < 0)))
  (Ao.j3 i_1 j_2 data_2 false)
def Ao.l1 (a:Int) (b:Int) (cmp:Aa->Aa->Option (Int)) (i_1:Int) (data_1:List Aa):Option (Lp (Int×List Aa) ((List Aa))):=
 cond (decide (i_1 < b))
  (B2 (fun q'=>Ao.l2 a cmp i_1 q'.1 q'.2) (i_1,data_1))
  (up (some data_1))
def Ao (data:List Aa) (a:Int) (b:Int) (cmp:Aa->Aa->Option (Int)):Option ((List Aa)):=
 B2 (fun q'=>Ao.l1 a b cmp q'.1 q'.2) (W (a + 1),data)
def An.j3 (first:Int) (cmp:Aa->Aa->Option (Int)) (root_1:Int) (data_1:List Aa) (child_3:Int):Option (Lp (Int×List Aa) ((List Aa))):=
 (Bu data_1 (W (first + root_1))).bind fun e_3=>
 (Bu data_1 (W (first + child_3))).bind fun e_4=>
 (cmp e_3 e_4).bind fun y_2=>
 cond (!(decide (y_2 < 0)))
  (up (some data_1))
  ((Bu (C3 data_1 ((W (first + root_1)).toNat) e_4) (W (first + child_3))).bind fun e_5=>
  some (.next (child_3,C3 (C3 data_1 ((W (first + root_1)).toNat) e_4) ((W (first + child_3)).toNat) e_3)))
def An.j2 (first:Int) (cmp:Aa->Aa->Option (Int)) (root_1:Int) (data_1:List Aa) (x40_2:Bool):Option (Lp (Int×List Aa) ((List Aa))):=
 cond (x40_2)
  (An.j3 first cmp root_1 data_1 (W ((W ((W (2 * root_1)) + 1)) + 1)))
  (An.j3 first cmp root_1 data_1 (W ((W (2 * root_1)) + 1)))
def An.l1 (hi:Int) (first:Int) (cmp:Aa->Aa->Option (Int)) (root_1:Int) (data_1:List Aa):Option (Lp (Int×List Aa) ((List Aa))):=
 cond (decide (hi<=(W ((W (2 * root_1)) + 1))))
  (up (some data_1))
  (cond (decide ((W ((W ((W (2 * root_1)) + 1)) + 1)) < hi))
   ((Bu data_1 (W (first + (W ((W (2 * root_1)) + 1))))).bind fun e=>
   (Bu data_1 (W ((W (first + (W ((W (2 * root_1)) + 1)))) + 1))).bind fun e_2=>
   (cmp e e_2).bind fun y=>
   An.j2 first cmp root_1 data_1 (decide (y < 0)))
   (An.j2 first cmp root_1 data_1 false))
def An (data:List Aa) (lo:Int) (hi:Int) (first:Int) (cmp:Aa->Aa->Option (Int)):Option ((List Aa)):=
 B2 (fun q'=>An.l1 hi first cmp q'.1 q'.2) (lo,data)
def Az.l2 (a:Int) (cmp:Aa->Aa->Option (Int)) (i_2:Int) (data_2:List Aa):Option (Lp (Int×List Aa) ((List Aa))):=
 cond (decide (0<=i_2))
  ((Bu data_2 (W (a + i_2))).bind fun e=>
  (Bu data_2 a).bind fun e_2=>
  (Bu (C3 data_2 ((a).toNat) e) (W (a + i_2))).bind fun e_3=>
  (An (C3 (C3 data_2 ((a).toNat) e) ((W (a + i_2)).toNat) e_2) 0 i_2 a cmp).bind fun y_2=>
  some (.next (W (i_2 - 1),y_2)))
  (up (some data_2))
def Az.l1 (a:Int) (b:Int) (cmp:Aa->Aa->Option (Int)) (i_1:Int) (data_1:List Aa):Option (Lp (Int×List Aa) ((List Aa))):=
 cond (decide (0<=i_1))
  ((An data_1 i_1 (W (b - a)) a cmp).bind fun y=>
  some (.next (W (i_1 - 1),y)))
  (up (
   B2 (fun q'=>Az.l2 a cmp q'.1 q'.2) (W ((W (b - a)) - 1),data_1)))
def Az (data:List Aa) (a:Int) (b:Int) (cmp:Aa->Aa->Option (Int)):Option ((List Aa)):=
 (Og (W ((W (b - a)) - 1)) 2).bind fun q=>
 B2 (fun q'=>Az.l1 a b cmp q'.1 q'.2) (q,data)
def Gj (length:Int):Option (Int):=
 (H3 (IntKind.wrap .u64 length)).bind fun y=>
 (dP .u64 1 y).bind fun q=>
 some q
def G2 (r':Int):Option (Int×Int):=
 (dP .u64 r' 13).bind fun q=>
 (Vd .u64 (S0 .u64 r' q) 7).bind fun q_2=>
 (dP .u64 (S0 .u64 (S0 .u64 r' q) q_2) 17).bind fun q_3=>
 some (S0 .u64 (S0 .u64 (S0 .u64 r' q) q_2) q_3,S0 .u64 (S0 .u64 (S0 .u64 r' q) q_2) q_3)
def Aw.j2 (a:Int) (idx_1:Int) (data_1:List Aa) (y_2:Int×Int) (other_2:Int):Option (Lp (Int×List Aa×Int) ((List Aa))):=
 (Bu data_1 (W (a + other_2))).bind fun e=>
 (Bu data_1 idx_1).bind fun e_2=>
 (Bu (C3 data_1 ((idx_1).toNat) e) (W (a + other_2))).bind fun e_3=>
 some (.next (W (idx_1 + 1),C3 (C3 data_1 ((idx_1).toNat) e) ((W (a + other_2)).toNat) e_2,y_2.2))
def Aw.l1 (a:Int) (b:Int) (y:Int) (idx_1:Int) (data_1:List Aa) (random_1:Int):Option (Lp (Int×List Aa×Int) ((List Aa))):=
 (Og (W (b - a)) 4).bind fun q_2=>
 cond (decide (idx_1<=(W ((W (a + (W (q_2 * 2)))) + 1))))
  ((G2 random_1).bind fun y_2=>
  cond (decide ((W (b - a))<=(W (rK .u64 y_2.1 (IntKind.wrap .u64 (y - 1))))))
   (Aw.j2 a idx_1 data_1 y_2 (W ((W (rK .u64 y_2.1 (IntKind.wrap .u64 (y - 1)))) - (W (b - a)))))
   (Aw.j2 a idx_1 data_1 y_2 (W (rK .u64 y_2.1 (IntKind.wrap .u64 (y - 1))))))
  (up (some data_1))
def Aw (data:List Aa) (a:Int) (b:Int) (cmp:Aa->Aa->Option (Int)):Option ((List Aa)):=
 cond (decide (8<=(W (b - a))))
  ((Gj (W (b - a))).bind fun y=>
  (Og (W (b - a)) 4).bind fun q=>
  B2 (fun q'=>Aw.l1 a b y q'.1 q'.2.1 q'.2.2) (W ((W (a + (W (q * 2)))) - 1),data,IntKind.wrap .u64 (W (b - a))))
  (some data)
def C8 (data:(List Aa)) (a:Int) (b:Int) (swaps:Int) (cmp:Aa->Aa->Option (Int)):Option (Int×Int×Int):=
 (Bu data b).bind fun e=>
 (Bu data a).bind fun e_2=>
 (cmp e e_2).bind fun y=>
 cond (decide (y < 0))
  (some (b,a,W (swaps + 1)))
  (some (a,b,swaps))
def Do (data:(List Aa)) (a:Int) (b:Int) (c:Int) (swaps:Int) (cmp:Aa->Aa->Option (Int)):Option (Int×Int):=
 (C8 data a b swaps cmp).bind fun y=>
 (C8 data y.2.1 c y.2.2 cmp).bind fun y_2=>
 (C8 data y.1 y_2.1 y_2.2.2 cmp).bind fun y_3=>
 some (y_3.2.1,y_3.2.2)
def Cn (data:(List Aa)) (a:Int) (swaps:Int) (cmp:Aa->Aa->Option (Int)):Option (Int×Int):=
 (Do data (W (a - 1)) a (W (a + 1)) swaps cmp).bind fun y=>
 some (y.1,y.2)
def A5.j2 (j_2:Int) (swaps_2:Int):Option (Int×Int):=
 cond (decide (swaps_2=0))
  (some (j_2,1))
  (cond (decide (swaps_2=12))
   (some (j_2,2))
   (some (j_2,0)))
def A5.j1 (data:(List Aa)) (cmp:Aa->Aa->Option (Int)) (i_1:Int) (j_1:Int) (k_1:Int) (swaps_1:Int):Option (Int×Int):=
 (Do data i_1 j_1 k_1 swaps_1 cmp).bind fun y_4=>
 A5.j2 y_4.1 y_4.2
def A5 (data:(List Aa)) (a:Int) (b:Int) (cmp:Aa->Aa->Option (Int)):Option (Int×Int):=
 (Og (W (b - a)) 4).bind fun q=>
 (Og (W (b - a)) 4).bind fun q_2=>
 (Og (W (b - a)) 4).bind fun q_3=>
 cond (decide (8<=(W (b - a))))
  (cond (decide (50<=(W (b - a))))
   ((Cn data (W (a + (W (q * 1)))) 0 cmp).bind fun y=>
   (Cn data (W (a + (W (q_2 * 2)))) y.2 cmp).bind fun y_2=>
   (Cn data (W (a + (W (q_3 * 3)))) y_2.2 cmp).bind fun y_3=>
   A5.j1 data cmp y.1 y_2.1 y_3.1 y_3.2)
   (A5.j1 data cmp (W (a + (W (q * 1)))) (W (a + (W (q_2 * 2)))) (W (a + (W (q_3 * 3)))) 0))
  (A5.j2 (W (a + (W (q_2 * 2)))) 0)
def Bg.l1 (i_1:Int) (j_1:Int) (data_1:List Aa):Option (Lp (Int×Int×List Aa) ((List Aa))):=
 cond (decide (i_1 < j_1))
  ((Bu data_1 j_1).bind fun e=>
  (Bu data_1 i_1).bind fun e_2=>
  (Bu (C3 data_1 ((i_1).toNat) e) j_1).bind fun e_3=>
  some (.next (W (i_1 + 1),W (j_1 - 1),C3 (C3 data_1 ((i_1).toNat) e) ((j_1).toNat) e_2)))
  (up (some data_1))
def Bg (data:List Aa) (a:Int) (b:Int) (cmp:Aa->Aa->Option (Int)):Option ((List Aa)):=
 B2 (fun q'=>Bg.l1 q'.1 q'.2.1 q'.2.2) (a,W (b - 1),data)
def Ac.j7 (j_1:Int) (i_7:Int) (data_7:List Aa):Option (Lp (Int×Int×List Aa) (Bool×(List Aa))):=
 some (.next (i_7,W (j_1 + 1),data_7))
def Ac.l6 (b:Int) (cmp:Aa->Aa->Option (Int)) (j_1:Int) (i_2:Int) (j_6:Int) (data_6:List Aa):Option (Lp (Int×List Aa) (Lp (Int×Int×List Aa) (Bool×(List Aa)))):=
 cond (decide (j_6 < b))
  ((Bu data_6 j_6).bind fun e_9=>
  (Bu data_6 (W (j_6 - 1))).bind fun e_10=>
  (cmp e_9 e_10).bind fun y_3=>
  cond (!(decide (y_3 < 0)))
   (up (
    Ac.j7 j_1 i_2 data_6))
   ((Bu (C3 data_6 ((j_6).toNat) e_10) (W (j_6 - 1))).bind fun e_11=>
   some (.next (W (j_6 + 1),C3 (C3 data_6 ((j_6).toNat) e_10) ((W (j_6 - 1)).toNat) e_9))))
  (up (
   Ac.j7 j_1 i_2 data_6))
def Ac.j5 (b:Int) (cmp:Aa->Aa->Option (Int)) (j_1:Int) (i_2:Int) (data_5:List Aa):Option (Lp (Int×Int×List Aa) (Bool×(List Aa))):=
 cond (decide (2<=(W (b - i_2))))
  (B2 (fun q'=>Ac.l6 b cmp j_1 i_2 q'.1 q'.2) (W (i_2 + 1),data_5))
  (Ac.j7 j_1 i_2 data_5)
def Ac.l4 (b:Int) (cmp:Aa->Aa->Option (Int)) (j_1:Int) (i_2:Int) (j_4:Int) (data_4:List Aa):Option (Lp (Int×List Aa) (Lp (Int×Int×List Aa) (Bool×(List Aa)))):=
 cond (decide (1<=j_4))
  ((Bu data_4 j_4).bind fun e_6=>
  (Bu data_4 (W (j_4 - 1))).bind fun e_7=>
  (cmp e_6 e_7).bind fun y_2=>
  cond (!(decide (y_2 < 0)))
   (up (
    Ac.j5 b cmp j_1 i_2 data_4))
   ((Bu (C3 data_4 ((j_4).toNat) e_7) (W (j_4 - 1))).bind fun e_8=>
   some (.next (W (j_4 - 1),C3 (C3 data_4 ((j_4).toNat) e_7) ((W (j_4 - 1)).toNat) e_6))))
  (up (
   Ac.j5 b cmp j_1 i_2 data_4))
def Ac.j3 (a:Int) (b:Int) (cmp:Aa->Aa->Option (Int)) (j_1:Int) (data_1:List Aa) (i_2:Int) (x36_3:Bool):Option (Lp (Int) (Lp (Int×Int×List Aa) (Bool×(List Aa)))):=
 cond (x36_3)
  (some (.next (W (i_2 + 1))))
  (up (
   cond (decide (i_2=b))
    (up (some (true,data_1)))
    (cond (decide ((W (b - a)) < 50))
     (up (some (false,data_1)))
     ((Bu data_1 (W (i_2 - 1))).bind fun e_3=>
     (Bu data_1 i_2).bind fun e_4=>
     (Bu (C3 data_1 ((i_2).toNat) e_3) (W (i_2 - 1))).bind fun e_5=>
     cond (decide (2<=(W (i_2 - a))))
      (B2 (fun q'=>Ac.l4 b cmp j_1 i_2 q'.1 q'.2) (W (i_2 - 1),C3 (C3 data_1 ((i_2).toNat) e_3) ((W (i_2 - 1)).toNat) e_4))
      (Ac.j5 b cmp j_1 i_2 (C3 (C3 data_1 ((i_2).toNat) e_3) ((W (i_2 - 1)).toNat) e_4))))))
def Ac.l2 (a:Int) (b:Int) (cmp:Aa->Aa->Option (Int)) (j_1:Int) (data_1:List Aa) (i_2:Int):Option (Lp (Int) (Lp (Int×Int×List Aa) (Bool×(List Aa)))):=
 cond (decide (i_2 < b))
  ((Bu data_1 i_2).bind fun e=>
  (Bu data_1 (W (i_2 - 1))).bind fun e_2=>
  (cmp e e_2).bind fun y=>
  Ac.j3 a b cmp j_1 data_1 i_2 (!(decide (y < 0))))
  (Ac.j3 a b cmp j_1 data_1 i_2 false)
def Ac.l1 (a:Int) (b:Int) (cmp:Aa->Aa->Option (Int)) (i_1:Int) (j_1:Int) (data_1:List Aa):Option (Lp (Int×Int×List Aa) (Bool×(List Aa))):=
 cond (decide (j_1 < 5))
  (B2 (fun q'=>Ac.l2 a b cmp j_1 data_1 q') i_1)
  (up (
   some (false,data_1)))
def Ac (data:List Aa) (a:Int) (b:Int) (cmp:Aa->Aa->Option (Int)):Option (Bool×(List Aa)):=
 B2 (fun q'=>Ac.l1 a b cmp q'.1 q'.2.1 q'.2.2) (W (a + 1),0,data)
def Al.j5 (data_1:List Aa) (i_2:Int) (j_4:Int) (x65_5:Bool):Option (Lp (Int) (Lp (Int×Int×List Aa) (Int×(List Aa)))):=
 cond (x65_5)
  (some (.next (W (j_4 - 1))))
  (up (
   cond (decide (j_4 < i_2))
    (up (
     some (i_2,data_1)))
    ((Bu data_1 j_4).bind fun e_8=>
    (Bu data_1 i_2).bind fun e_9=>
    (Bu (C3 data_1 ((i_2).toNat) e_8) j_4).bind fun e_10=>
    some (.next (W (i_2 + 1),W (j_4 - 1),C3 (C3 data_1 ((i_2).toNat) e_8) ((j_4).toNat) e_9)))))
def Al.l4 (a:Int) (cmp:Aa->Aa->Option (Int)) (data_1:List Aa) (i_2:Int) (j_4:Int):Option (Lp (Int) (Lp (Int×Int×List Aa) (Int×(List Aa)))):=
 cond (decide (i_2<=j_4))
  ((Bu data_1 a).bind fun e_6=>
  (Bu data_1 j_4).bind fun e_7=>
  (cmp e_6 e_7).bind fun y_2=>
  Al.j5 data_1 i_2 j_4 (decide (y_2 < 0)))
  (Al.j5 data_1 i_2 j_4 false)
def Al.j3 (a:Int) (cmp:Aa->Aa->Option (Int)) (j_1:Int) (data_1:List Aa) (i_2:Int) (x47_3:Bool):Option (Lp (Int) (Lp (Int×Int×List Aa) (Int×(List Aa)))):=
 cond (x47_3)
  (some (.next (W (i_2 + 1))))
  (up (
   B2 (fun q'=>Al.l4 a cmp data_1 i_2 q') j_1))
def Al.l2 (a:Int) (cmp:Aa->Aa->Option (Int)) (j_1:Int) (data_1:List Aa) (i_2:Int):Option (Lp (Int) (Lp (Int×Int×List Aa) (Int×(List Aa)))):=
 cond (decide (i_2<=j_1))
  ((Bu data_1 a).bind fun e_4=>
  (Bu data_1 i_2).bind fun e_5=>
  (cmp e_4 e_5).bind fun y=>
  Al.j3 a cmp j_1 data_1 i_2 (!(decide (y < 0))))
  (Al.j3 a cmp j_1 data_1 i_2 false)
def Al.l1 (a:Int) (cmp:Aa->Aa->Option (Int)) (i_1:Int) (j_1:Int) (data_1:List Aa):Option (Lp (Int×Int×List Aa) (Int×(List Aa))):=
 B2 (fun q'=>Al.l2 a cmp j_1 data_1 q') i_1
def Al (data:List Aa) (a:Int) (b:Int) (pivot:Int) (cmp:Aa->Aa->Option (Int)):Option (Int×(List Aa)):=
 (Bu data pivot).bind fun e=>
 (Bu data a).bind fun e_2=>
 (Bu (C3 data ((a).toNat) e) pivot).bind fun e_3=>
 B2 (fun q'=>Al.l1 a cmp q'.1 q'.2.1 q'.2.2) (W (a + 1),W (b - 1),C3 (C3 data ((a).toNat) e) ((pivot).toNat) e_2)
def Af.j9 (a:Int) (data_5:List Aa) (i_6:Int) (j_8:Int) (x139_9:Bool):Option (Lp (Int) (Lp (Int×Int×List Aa) (Int×Bool×(List Aa)))):=
 cond (x139_9)
  (some (.next (W (j_8 - 1))))
  (up (
   cond (decide (j_8 < i_6))
    (up (
     (Bu data_5 a).bind fun e_21=>
     (Bu data_5 j_8).bind fun e_22=>
     (Bu (C3 data_5 ((j_8).toNat) e_21) a).bind fun e_23=>
     some (j_8,false,C3 (C3 data_5 ((j_8).toNat) e_21) ((a).toNat) e_22)))
    ((Bu data_5 j_8).bind fun e_18=>
    (Bu data_5 i_6).bind fun e_19=>
    (Bu (C3 data_5 ((i_6).toNat) e_18) j_8).bind fun e_20=>
    some (.next (W (i_6 + 1),W (j_8 - 1),C3 (C3 data_5 ((i_6).toNat) e_18) ((j_8).toNat) e_19)))))
def Af.l8 (a:Int) (cmp:Aa->Aa->Option (Int)) (data_5:List Aa) (i_6:Int) (j_8:Int):Option (Lp (Int) (Lp (Int×Int×List Aa) (Int×Bool×(List Aa)))):=
 cond (decide (i_6<=j_8))
  ((Bu data_5 j_8).bind fun e_16=>
  (Bu data_5 a).bind fun e_17=>
  (cmp e_16 e_17).bind fun y_4=>
  Af.j9 a data_5 i_6 j_8 (!(decide (y_4 < 0))))
  (Af.j9 a data_5 i_6 j_8 false)
def Af.j7 (a:Int) (cmp:Aa->Aa->Option (Int)) (j_5:Int) (data_5:List Aa) (i_6:Int) (x120_7:Bool):Option (Lp (Int) (Lp (Int×Int×List Aa) (Int×Bool×(List Aa)))):=
 cond (x120_7)
  (some (.next (W (i_6 + 1))))
  (up (
   B2 (fun q'=>Af.l8 a cmp data_5 i_6 q') j_5))
def Af.l6 (a:Int) (cmp:Aa->Aa->Option (Int)) (j_5:Int) (data_5:List Aa) (i_6:Int):Option (Lp (Int) (Lp (Int×Int×List Aa) (Int×Bool×(List Aa)))):=
 cond (decide (i_6<=j_5))
  ((Bu data_5 i_6).bind fun e_14=>
  (Bu data_5 a).bind fun e_15=>
  (cmp e_14 e_15).bind fun y_3=>
  Af.j7 a cmp j_5 data_5 i_6 (decide (y_3 < 0)))
  (Af.j7 a cmp j_5 data_5 i_6 false)
def Af.l5 (a:Int) (cmp:Aa->Aa->Option (Int)) (i_5:Int) (j_5:Int) (data_5:List Aa):Option (Lp (Int×Int×List Aa) (Int×Bool×(List Aa))):=
 B2 (fun q'=>Af.l6 a cmp j_5 data_5 q') i_5
def Af.j4 (data:List Aa) (a:Int) (pivot:Int) (cmp:Aa->Aa->Option (Int)) (e:Aa) (e_2:Aa) (i_1:Int) (j_3:Int) (x66_4:Bool):Option (Lp (Int) (Int×Bool×(List Aa))):=
 cond (x66_4)
  (some (.next (W (j_3 - 1))))
  (up (
   cond (decide (j_3 < i_1))
    ((Bu (C3 (C3 data ((a).toNat) e) ((pivot).toNat) e_2) a).bind fun e_8=>
    (Bu (C3 (C3 data ((a).toNat) e) ((pivot).toNat) e_2) j_3).bind fun e_9=>
    (Bu (C3 (C3 (C3 data ((a).toNat) e) ((pivot).toNat) e_2) ((j_3).toNat) e_8) a).bind fun e_10=>
    some (j_3,true,C3 (C3 (C3 (C3 data ((a).toNat) e) ((pivot).toNat) e_2) ((j_3).toNat) e_8) ((a).toNat) e_9))
    ((Bu (C3 (C3 data ((a).toNat) e) ((pivot).toNat) e_2) j_3).bind fun e_11=>
    (Bu (C3 (C3 data ((a).toNat) e) ((pivot).toNat) e_2) i_1).bind fun e_12=>
    (Bu (C3 (C3 (C3 data ((a).toNat) e) ((pivot).toNat) e_2) ((i_1).toNat) e_11) j_3).bind fun e_13=>
    B2 (fun q'=>Af.l5 a cmp q'.1 q'.2.1 q'.2.2) (W (i_1 + 1),W (j_3 - 1),C3 (C3 (C3 (C3 data ((a).toNat) e) ((pivot).toNat) e_2) ((i_1).toNat) e_11) ((j_3).toNat) e_12))))
def Af.l3 (data:List Aa) (a:Int) (pivot:Int) (cmp:Aa->Aa->Option (Int)) (e:Aa) (e_2:Aa) (i_1:Int) (j_3:Int):Option (Lp (Int) (Int×Bool×(List Aa))):=
 cond (decide (i_1<=j_3))
  ((Bu (C3 (C3 data ((a).toNat) e) ((pivot).toNat) e_2) j_3).bind fun e_6=>
  (Bu (C3 (C3 data ((a).toNat) e) ((pivot).toNat) e_2) a).bind fun e_7=>
  (cmp e_6 e_7).bind fun y_2=>
  Af.j4 data a pivot cmp e e_2 i_1 j_3 (!(decide (y_2 < 0))))
  (Af.j4 data a pivot cmp e e_2 i_1 j_3 false)
def Af.j2 (data:List Aa) (a:Int) (b:Int) (pivot:Int) (cmp:Aa->Aa->Option (Int)) (e:Aa) (e_2:Aa) (i_1:Int) (x47_2:Bool):Option (Lp (Int) (Int×Bool×(List Aa))):=
 cond (x47_2)
  (some (.next (W (i_1 + 1))))
  (up (
   B2 (fun q'=>Af.l3 data a pivot cmp e e_2 i_1 q') (W (b - 1))))
def Af.l1 (data:List Aa) (a:Int) (b:Int) (pivot:Int) (cmp:Aa->Aa->Option (Int)) (e:Aa) (e_2:Aa) (i_1:Int):Option (Lp (Int) (Int×Bool×(List Aa))):=
 cond (decide (i_1<=(W (b - 1))))
  ((Bu (C3 (C3 data ((a).toNat) e) ((pivot).toNat) e_2) i_1).bind fun e_4=>
  (Bu (C3 (C3 data ((a).toNat) e) ((pivot).toNat) e_2) a).bind fun e_5=>
  (cmp e_4 e_5).bind fun y=>
  Af.j2 data a b pivot cmp e e_2 i_1 (decide (y < 0)))
  (Af.j2 data a b pivot cmp e e_2 i_1 false)
def Af (data:List Aa) (a:Int) (b:Int) (pivot:Int) (cmp:Aa->Aa->Option (Int)):Option (Int×Bool×(List Aa)):=
 (Bu data pivot).bind fun e=>
 (Bu data a).bind fun e_2=>
 (Bu (C3 data ((a).toNat) e) pivot).bind fun e_3=>
 B2 (fun q'=>Af.l1 data a b pivot cmp e e_2 q') (W (a + 1))
def Ai.j6 (rec:(List Aa)->Int->Int->Int->Option ((List Aa))) (cmp:Aa->Aa->Option (Int)) (a_1:Int) (b_1:Int) (wasBalanced_1:Bool) (wasPartitioned_1:Bool) (limit_2:Int) (pivot_3:Int) (data_5:List Aa) (x97_6:Bool):Option (Lp (Int×Int×Int×Bool×Bool×List Aa) ((List Aa))):=
 cond (x97_6)
  ((Al data_5 a_1 b_1 pivot_3 cmp).bind fun y_8=>
  some (.next (y_8.1,b_1,limit_2,wasBalanced_1,wasPartitioned_1,y_8.2)))
  ((Af data_5 a_1 b_1 pivot_3 cmp).bind fun y_9=>
  (Og (W (b_1 - a_1)) 8).bind fun q=>
  cond (decide ((W (y_9.1 - a_1)) < (W (b_1 - y_9.1))))
   ((rec y_9.2.2 a_1 y_9.1 limit_2).bind fun y_10=>
   some (.next (W (y_9.1 + 1),b_1,limit_2,decide (q<=(W (y_9.1 - a_1))),y_9.2.1,y_10)))
   ((rec y_9.2.2 (W (y_9.1 + 1)) b_1 limit_2).bind fun y_11=>
   some (.next (a_1,y_9.1,limit_2,decide (q<=(W (b_1 - y_9.1))),y_9.2.1,y_11))))
def Ai.j5 (rec:(List Aa)->Int->Int->Int->Option ((List Aa))) (cmp:Aa->Aa->Option (Int)) (a_1:Int) (b_1:Int) (wasBalanced_1:Bool) (wasPartitioned_1:Bool) (limit_2:Int) (pivot_3:Int) (data_5:List Aa):Option (Lp (Int×Int×Int×Bool×Bool×List Aa) ((List Aa))):=
 cond (decide (0 < a_1))
  ((Bu data_5 (W (a_1 - 1))).bind fun e=>
  (Bu data_5 pivot_3).bind fun e_2=>
  (cmp e e_2).bind fun y_7=>
  Ai.j6 rec cmp a_1 b_1 wasBalanced_1 wasPartitioned_1 limit_2 pivot_3 data_5 (!(decide (y_7 < 0))))
  (Ai.j6 rec cmp a_1 b_1 wasBalanced_1 wasPartitioned_1 limit_2 pivot_3 data_5 false)
def Ai.j4 (rec:(List Aa)->Int->Int->Int->Option ((List Aa))) (cmp:Aa->Aa->Option (Int)) (a_1:Int) (b_1:Int) (wasBalanced_1:Bool) (wasPartitioned_1:Bool) (limit_2:Int) (pivot_3:Int) (data_3:List Aa) (x75_4:Bool):Option (Lp (Int×Int×Int×Bool×Bool×List Aa) ((List Aa))):=
 cond (x75_4)
  ((Ac data_3 a_1 b_1 cmp).bind fun y_6=>
  cond (y_6.1)
   (up (some y_6.2))
   (Ai.j5 rec cmp a_1 b_1 wasBalanced_1 wasPartitioned_1 limit_2 pivot_3 y_6.2))
  (Ai.j5 rec cmp a_1 b_1 wasBalanced_1 wasPartitioned_1 limit_2 pivot_3 data_3)
def Ai.j3 (rec:(List Aa)->Int->Int->Int->Option ((List Aa))) (cmp:Aa->Aa->Option (Int)) (a_1:Int) (b_1:Int) (wasBalanced_1:Bool) (wasPartitioned_1:Bool) (limit_2:Int) (pivot_3:Int) (hint_3:Int) (data_3:List Aa):Option (Lp (Int×Int×Int×Bool×Bool×List Aa) ((List Aa))):=
 cond (wasBalanced_1)
  (cond (wasPartitioned_1)
   (Ai.j4 rec cmp a_1 b_1 wasBalanced_1 wasPartitioned_1 limit_2 pivot_3 data_3 (decide (hint_3=1)))
   (Ai.j4 rec cmp a_1 b_1 wasBalanced_1 wasPartitioned_1 limit_2 pivot_3 data_3 false))
  (Ai.j4 rec cmp a_1 b_1 wasBalanced_1 wasPartitioned_1 limit_2 pivot_3 data_3 false)
def Ai.j2 (rec:(List Aa)->Int->Int->Int->Option ((List Aa))) (cmp:Aa->Aa->Option (Int)) (a_1:Int) (b_1:Int) (wasBalanced_1:Bool) (wasPartitioned_1:Bool) (limit_2:Int) (data_2:List Aa):Option (Lp (Int×Int×Int×Bool×Bool×List Aa) ((List Aa))):=
 (A5 data_2 a_1 b_1 cmp).bind fun y_4=>
 cond (decide (y_4.2=2))
  ((Bg data_2 a_1 b_1 cmp).bind fun y_5=>
  Ai.j3 rec cmp a_1 b_1 wasBalanced_1 wasPartitioned_1 limit_2 (W ((W (b_1 - 1)) - (W (y_4.1 - a_1)))) 1 y_5)
  (Ai.j3 rec cmp a_1 b_1 wasBalanced_1 wasPartitioned_1 limit_2 y_4.1 y_4.2 data_2)
def Ai.l1 (rec:(List Aa)->Int->Int->Int->Option ((List Aa))) (cmp:Aa->Aa->Option (Int)) (a_1:Int) (b_1:Int) (limit_1:Int) (wasBalanced_1:Bool) (wasPartitioned_1:Bool) (data_1:List Aa):Option (Lp (Int×Int×Int×Bool×Bool×List Aa) ((List Aa))):=
 cond (decide ((W (b_1 - a_1))<=12))
  ((Ao data_1 a_1 b_1 cmp).bind fun y=>
  up (some y))
  (cond (decide (limit_1=0))
   ((Az data_1 a_1 b_1 cmp).bind fun y_2=>
   up (some y_2))
   (cond (!wasBalanced_1)
    ((Aw data_1 a_1 b_1 cmp).bind fun y_3=>
    Ai.j2 rec cmp a_1 b_1 wasBalanced_1 wasPartitioned_1 (W (limit_1 - 1)) y_3)
    (Ai.j2 rec cmp a_1 b_1 wasBalanced_1 wasPartitioned_1 limit_1 data_1)))
def Ai.F (rec:(List Aa)->Int->Int->Int->Option ((List Aa))) (data:List Aa) (a:Int) (b:Int) (limit:Int) (cmp:Aa->Aa->Option (Int)):Option ((List Aa)):=
 B2 (fun q'=>Ai.l1 rec cmp q'.1 q'.2.1 q'.2.2.1 q'.2.2.2.1 q'.2.2.2.2.1 q'.2.2.2.2.2) (a,b,limit,true,true,data)
def Ai (data:List Aa) (a:Int) (b:Int) (limit:Int) (cmp:Aa->Aa->Option (Int)):Option ((List Aa)):=Z2 (fun rec (x:List Aa×Int×Int×Int)=>Ai.F (fun data a b limit=>rec (data,a,b,limit)) x.1 x.2.1 x.2.2.1 x.2.2.2 cmp) (data,a,b,limit)
def Ek (x':List Aa) (cmp:Aa->Aa->Option (Int)):Option ((List Aa)):=
 (H3 (IntKind.wrap .u64 (x'.length:Int))).bind fun y=>
 (Ai x' 0 (x'.length:Int) y cmp).bind fun y_2=>
 some y_2
def Bh.j3 (k2_2:Int) (k_3:Int) (s_3:List Aa):Option (Lp (Int×Int×List Aa) (Lp (Int) ((List Aa)))):=
 some (.next (k_3,W (k2_2 + 1),s_3))
def Bh.l2 (s:List Aa) (k_1:Int) (k_2:Int) (k2_2:Int) (s_2:List Aa):Option (Lp (Int×Int×List Aa) (Lp (Int) ((List Aa)))):=
 cond (decide (k2_2 < (((((s.length:Int):Int).toNat - (k_1:Int).toNat):Nat):Int)))
  ((Bu ((s_2.drop ((k_1:Int).toNat)).take (((s.length:Int):Int).toNat - (k_1:Int).toNat)) k2_2).bind fun e_3=>
  (Bu ((s_2.drop ((k_1:Int).toNat)).take (((s.length:Int):Int).toNat - (k_1:Int).toNat)) (W (k2_2 - 1))).bind fun e_4=>
  cond (!decide (e_3=e_4))
   ((Bu s_2 k_2).bind fun e_5=>
   Bh.j3 k2_2 (W (k_2 + 1)) (C3 s_2 ((k_2).toNat) e_3))
   (Bh.j3 k2_2 k_2 s_2))
  (up (
   (Zo s_2 k_2 (s_2.length:Int)).bind fun l_2=>
   (nX s_2 ((k_2:Int).toNat) (((s_2.length:Int):Int).toNat - (k_2:Int).toNat) ((Aa.mk 0 (⟨#[]⟩:ByteArray) 0 0 0 0 (⟨#[]⟩:ByteArray) (Aq.mk 0 0) 0 (⟨#[]⟩:ByteArray)):Aa)).bind fun l_3=>
   (Zo l_3 0 k_2).bind fun l_4=>
   up (some (l_3.take ((k_2:Int).toNat - (0:Int).toNat)))))
def Bh.l1 (s:List Aa) (k_1:Int):Option (Lp (Int) ((List Aa))):=
 cond (decide (k_1 < (s.length:Int)))
  ((Bu s k_1).bind fun e=>
  (Bu s (W (k_1 - 1))).bind fun e_2=>
  cond (decide (e=e_2))
   ((Zo s k_1 (s.length:Int)).bind fun l=>
   B2 (fun q'=>Bh.l2 s k_1 q'.1 q'.2.1 q'.2.2) (k_1,1,s))
   (some (.next (W (k_1 + 1)))))
  (up (
   some s))
def Bh (s:List Aa):Option ((List Aa)):=
 cond (decide ((s.length:Int) < 2))
  (some s)
  (B2 (fun q'=>Bh.l1 s q') 1)
def Ex.l1 (l:(List Aa)) (x10_1:Int):Option (Lp (Int) ((List Aa)×Int)):=
 cond (decide (x10_1 < (l.length:Int)))
  ((Bu l x10_1).bind fun e=>
  (Br e).bind fun y=>
  cond (!decide (y=0))
   (up (some (([]:(List Aa)),y)))
   (some (.next (W (x10_1 + 1)))))
  (up (
   (Cq l).bind fun y_2=>
   (Ek y_2 (fun x0 x1=>H6 x0 x1)).bind fun y_3=>
   (Bh y_3).bind fun y_4=>
   cond (decide (400 < (y_4.length:Int)))
    (some (([]:(List Aa)),3))
    (some (y_4,0))))
def Ex (l:(List Aa)):Option ((List Aa)×Int):=
 B2 (fun q'=>Ex.l1 l q') 0
def Bm.l5 (e:Ad) (x79_5:Int) (p_5:Int) (p_5_2:ByteArray) (p_5_3:Int) (p_5_4:Int) (p_5_5:Int) (p_5_6:Int) (p_5_7:ByteArray) (p_5_8:Int) (p_5_9:Int) (p_5_10:Int) (p_5_11:ByteArray) (l_5:List Aa):Option (Lp (Int×Int×ByteArray×Int×Int×Int×Int×ByteArray×Int×Int×Int×ByteArray×List Aa) ((List Aa)×Int)):=
 cond (decide (x79_5 < (e.Hashes.length:Int)))
  ((Bu e.Hashes x79_5).bind fun e_5=>
  (D2 (Ey.mk (Aa.mk p_5 p_5_2 p_5_3 p_5_4 p_5_5 p_5_6 p_5_7 (Aq.mk p_5_8 p_5_9) p_5_10 p_5_11) l_5) 1 (Aq.mk e_5 0) 0).bind fun y_8=>
  some (.next (W (x79_5 + 1),y_8.at_.Source,y_8.at_.Host,y_8.at_.Machine,y_8.at_.Day,y_8.at_.Confidence,y_8.at_.Kind,y_8.at_.Subject,y_8.at_.Use.Alg,y_8.at_.Use.Bits,y_8.at_.Number,y_8.at_.Text,y_8.l)))
  (up (
   (Ex l_5).bind fun y_9=>
   some (y_9.1,y_9.2)))
def Bm.l4 (e:Ad) (x67_4:Int) (p_4:Int) (p_4_2:ByteArray) (p_4_3:Int) (p_4_4:Int) (p_4_5:Int) (p_4_6:Int) (p_4_7:ByteArray) (p_4_8:Int) (p_4_9:Int) (p_4_10:Int) (p_4_11:ByteArray) (l_4:List Aa):Option (Lp (Int×Int×ByteArray×Int×Int×Int×Int×ByteArray×Int×Int×Int×ByteArray×List Aa) ((List Aa)×Int)):=
 cond (decide (x67_4 < (e.Anchors.length:Int)))
  ((Bu e.Anchors x67_4).bind fun e_4=>
  (D2 (Ey.mk (Aa.mk p_4 p_4_2 p_4_3 p_4_4 p_4_5 p_4_6 p_4_7 (Aq.mk p_4_8 p_4_9) p_4_10 p_4_11) l_4) 6 (Aq.mk 0 0) e_4).bind fun y_7=>
  some (.next (W (x67_4 + 1),y_7.at_.Source,y_7.at_.Host,y_7.at_.Machine,y_7.at_.Day,y_7.at_.Confidence,y_7.at_.Kind,y_7.at_.Subject,y_7.at_.Use.Alg,y_7.at_.Use.Bits,y_7.at_.Number,y_7.at_.Text,y_7.l)))
  (up (
   B2 (fun q'=>Bm.l5 e q'.1 q'.2.1 q'.2.2.1 q'.2.2.2.1 q'.2.2.2.2.1 q'.2.2.2.2.2.1 q'.2.2.2.2.2.2.1 q'.2.2.2.2.2.2.2.1 q'.2.2.2.2.2.2.2.2.1 q'.2.2.2.2.2.2.2.2.2.1 q'.2.2.2.2.2.2.2.2.2.2.1 q'.2.2.2.2.2.2.2.2.2.2.2.1 q'.2.2.2.2.2.2.2.2.2.2.2.2) (0,p_4,p_4_2,p_4_3,p_4_4,p_4_5,p_4_6,p_4_7,p_4_8,p_4_9,p_4_10,p_4_11,l_4)))
def Bm.l3 (e:Ad) (x53_3:Int) (p_3:Int) (p_3_2:ByteArray) (p_3_3:Int) (p_3_4:Int) (p_3_5:Int) (p_3_6:Int) (p_3_7:ByteArray) (p_3_8:Int) (p_3_9:Int) (p_3_10:Int) (p_3_11:ByteArray) (l_3:List Aa):Option (Lp (Int×Int×ByteArray×Int×Int×Int×Int×ByteArray×Int×Int×Int×ByteArray×List Aa) ((List Aa)×Int)):=
 cond (decide (x53_3 < (e.Identities.length:Int)))
  ((Bu e.Identities x53_3).bind fun e_3=>
  (D2 (Ey.mk (Aa.mk p_3 p_3_2 p_3_3 p_3_4 p_3_5 p_3_6 p_3_7 (Aq.mk p_3_8 p_3_9) p_3_10 p_3_11) l_3) 3 e_3.Key e_3.KeyId).bind fun y_6=>
  some (.next (W (x53_3 + 1),y_6.at_.Source,y_6.at_.Host,y_6.at_.Machine,y_6.at_.Day,y_6.at_.Confidence,y_6.at_.Kind,y_6.at_.Subject,y_6.at_.Use.Alg,y_6.at_.Use.Bits,y_6.at_.Number,y_6.at_.Text,y_6.l)))
  (up (
   B2 (fun q'=>Bm.l4 e q'.1 q'.2.1 q'.2.2.1 q'.2.2.2.1 q'.2.2.2.2.1 q'.2.2.2.2.2.1 q'.2.2.2.2.2.2.1 q'.2.2.2.2.2.2.2.1 q'.2.2.2.2.2.2.2.2.1 q'.2.2.2.2.2.2.2.2.2.1 q'.2.2.2.2.2.2.2.2.2.2.1 q'.2.2.2.2.2.2.2.2.2.2.2.1 q'.2.2.2.2.2.2.2.2.2.2.2.2) (0,p_3,p_3_2,p_3_3,p_3_4,p_3_5,p_3_6,p_3_7,p_3_8,p_3_9,p_3_10,p_3_11,l_3)))
def Bm.l2 (e:Ad) (x41_2:Int) (p_2:Int) (p_2_2:ByteArray) (p_2_3:Int) (p_2_4:Int) (p_2_5:Int) (p_2_6:Int) (p_2_7:ByteArray) (p_2_8:Int) (p_2_9:Int) (p_2_10:Int) (p_2_11:ByteArray) (l_2:List Aa):Option (Lp (Int×Int×ByteArray×Int×Int×Int×Int×ByteArray×Int×Int×Int×ByteArray×List Aa) ((List Aa)×Int)):=
 cond (decide (x41_2 < (e.Suites.length:Int)))
  ((Bu e.Suites x41_2).bind fun e_2=>
  (D2 (Ey.mk (Aa.mk p_2 p_2_2 p_2_3 p_2_4 p_2_5 p_2_6 p_2_7 (Aq.mk p_2_8 p_2_9) p_2_10 p_2_11) l_2) 2 (Aq.mk 0 0) e_2).bind fun y_5=>
  some (.next (W (x41_2 + 1),y_5.at_.Source,y_5.at_.Host,y_5.at_.Machine,y_5.at_.Day,y_5.at_.Confidence,y_5.at_.Kind,y_5.at_.Subject,y_5.at_.Use.Alg,y_5.at_.Use.Bits,y_5.at_.Number,y_5.at_.Text,y_5.l)))
  (up (
   B2 (fun q'=>Bm.l3 e q'.1 q'.2.1 q'.2.2.1 q'.2.2.2.1 q'.2.2.2.2.1 q'.2.2.2.2.2.1 q'.2.2.2.2.2.2.1 q'.2.2.2.2.2.2.2.1 q'.2.2.2.2.2.2.2.2.1 q'.2.2.2.2.2.2.2.2.2.1 q'.2.2.2.2.2.2.2.2.2.2.1 q'.2.2.2.2.2.2.2.2.2.2.2.1 q'.2.2.2.2.2.2.2.2.2.2.2.2) (0,p_2,p_2_2,p_2_3,p_2_4,p_2_5,p_2_6,p_2_7,p_2_8,p_2_9,p_2_10,p_2_11,l_2)))
def Bm.j1 (e:Ad) (y:Ey×Int) (errno_1:Int):Option ((List Aa)×Int):=
 cond (!decide (errno_1=0))
  (some (([]:(List Aa)),errno_1))
  ((D2 y.1 5 (Aq.mk 0 0) e.Least).bind fun y_3=>
  (D2 y_3 4 (Aq.mk 0 0) e.Most).bind fun y_4=>
  B2 (fun q'=>Bm.l2 e q'.1 q'.2.1 q'.2.2.1 q'.2.2.2.1 q'.2.2.2.2.1 q'.2.2.2.2.2.1 q'.2.2.2.2.2.2.1 q'.2.2.2.2.2.2.2.1 q'.2.2.2.2.2.2.2.2.1 q'.2.2.2.2.2.2.2.2.2.1 q'.2.2.2.2.2.2.2.2.2.2.1 q'.2.2.2.2.2.2.2.2.2.2.2.1 q'.2.2.2.2.2.2.2.2.2.2.2.2) (0,y_4.at_.Source,y_4.at_.Host,y_4.at_.Machine,y_4.at_.Day,y_4.at_.Confidence,y_4.at_.Kind,y_4.at_.Subject,y_4.at_.Use.Alg,y_4.at_.Use.Bits,y_4.at_.Number,y_4.at_.Text,y_4.l))
def Bm (at':Aa) (e:Ad):Option ((List Aa)×Int):=
 (Ll at').bind fun y=>
 cond (decide (y.2=0))
  ((Bq e).bind fun y_2=>
  Bm.j1 e y y_2)
  (Bm.j1 e y y.2)
def Hc (e:Ad) (at':Aa):Option ((List Aa)×Int):=
 (Bm at' e).bind fun y=>
 some (y.1,y.2)
def Io (e:Ad) (at':Aa):Option ((List Aa)×Int):=
 (B6 at' e).bind fun y=>
 some (y.1,y.2)
def P4 (f:Aa):Option (Dp):=
 some (Dp.mk f.Host f.Day f.Kind f.Use f.Number f.Text)
def Hd (x':Aa) (c0:(List (Dp×Bool))):Option (Bool):=
 (P4 x').bind fun y=>
 some (Hm c0 y false)
def Bc.l1 (s:(List Aa)) (f:Aa->Option (Bool)) (x8_1:Int):Option (Lp (Int) (Int)):=
 cond (decide (x8_1 < (s.length:Int)))
  ((Bu s x8_1).bind fun e=>
  (f e).bind fun y=>
  cond (y)
   (up (some x8_1))
   (some (.next (W (x8_1 + 1)))))
  (up (
   some (-1)))
def Bc (s:(List Aa)) (f:Aa->Option (Bool)):Option (Int):=
 B2 (fun q'=>Bc.l1 s f q') 0
def A9.j2 (j_1:Int) (i_2:Int) (s_2:List Aa):Option (Lp (Int×Int×List Aa) ((List Aa))):=
 some (.next (i_2,W (j_1 + 1),s_2))
def A9.l1 (del:Aa->Option (Bool)) (i_1:Int) (j_1:Int) (s_1:List Aa):Option (Lp (Int×Int×List Aa) ((List Aa))):=
 cond (decide (j_1 < (s_1.length:Int)))
  ((Bu s_1 j_1).bind fun e=>
  (del e).bind fun y_2=>
  cond (!y_2)
   ((Bu s_1 i_1).bind fun e_2=>
   A9.j2 j_1 (W (i_1 + 1)) (C3 s_1 ((i_1).toNat) e))
   (A9.j2 j_1 i_1 s_1))
  (up (
   (Zo s_1 i_1 (s_1.length:Int)).bind fun l=>
   (nX s_1 ((i_1:Int).toNat) (((s_1.length:Int):Int).toNat - (i_1:Int).toNat) ((Aa.mk 0 (⟨#[]⟩:ByteArray) 0 0 0 0 (⟨#[]⟩:ByteArray) (Aq.mk 0 0) 0 (⟨#[]⟩:ByteArray)):Aa)).bind fun l_2=>
   (Zo l_2 0 i_1).bind fun l_3=>
   some (l_2.take ((i_1:Int).toNat - (0:Int).toNat))))
def A9 (s:List Aa) (del:Aa->Option (Bool)):Option ((List Aa)):=
 (Bc s del).bind fun y=>
 cond (decide (y=(-1)))
  (some s)
  (B2 (fun q'=>A9.l1 del q'.1 q'.2.1 q'.2.2) (y,W (y + 1),s))
def Ee.l1 (l:(List Aa)) (y:(List Aa)×Int) (x25_1:Int) (m_1:(List (Dp×Bool))):Option (Lp (Int×(List (Dp×Bool))) ((List Aa)×Int)):=
 cond (decide (x25_1 < (l.length:Int)))
  ((Bu l x25_1).bind fun e_2=>
  (P4 e_2).bind fun y_2=>
  some (.next (W (x25_1 + 1),Ma m_1 y_2 true)))
  (up (
   (A9 y.1 (fun x0=>Hd x0 m_1)).bind fun y_3=>
   some (y_3,0)))
def Ee (e:Ad) (at':Aa) (l:(List Aa)):Option ((List Aa)×Int):=
 (Hc e at').bind fun y=>
 cond (!decide (y.2=0))
  (some (([]:(List Aa)),y.2))
  (B2 (fun q'=>Ee.l1 l y q'.1 q'.2) (0,([]:(List (Dp×Bool)))))
def C9.j2 (x9_1:Int) (x52_2:Bool):Option (Lp (Int) (Bool)):=
 cond (x52_2)
  (up (some true))
  (some (.next (W (x9_1 + 1))))
def C9.l1 (l:(List Aa)) (f:Aa) (x9_1:Int):Option (Lp (Int) (Bool)):=
 cond (decide (x9_1 < (l.length:Int)))
  ((Bu l x9_1).bind fun e=>
  cond (decide (e.Host=f.Host))
   (cond (decide (e.Day=f.Day))
    (cond (decide (e.Kind=f.Kind))
     (cond (decide (e.Use=f.Use))
      (cond (decide (e.Number=f.Number))
       (C9.j2 x9_1 (decide (e.Text=f.Text)))
       (C9.j2 x9_1 false))
      (C9.j2 x9_1 false))
     (C9.j2 x9_1 false))
    (C9.j2 x9_1 false))
   (C9.j2 x9_1 false))
  (up (
   some false))
def C9 (l:(List Aa)) (f:Aa):Option (Bool):=
 B2 (fun q'=>C9.l1 l f q') 0
def Dd.j2 (x24_1:Int) (out_2:List Aa):Option (Lp (Int×List Aa) ((List Aa)×Int)):=
 some (.next (W (x24_1 + 1),out_2))
def Dd.l1 (l:(List Aa)) (y:(List Aa)×Int) (x24_1:Int) (out_1:List Aa):Option (Lp (Int×List Aa) ((List Aa)×Int)):=
 cond (decide (x24_1 < (y.1.length:Int)))
  ((Bu y.1 x24_1).bind fun e_2=>
  (C9 l e_2).bind fun y_2=>
  cond (!y_2)
   ((F3 1232 out_1 ([e_2]:List Aa)).bind fun l_2=>
   Dd.j2 x24_1 l_2)
   (Dd.j2 x24_1 out_1))
  (up (
   some (out_1,0)))
def Dd (e:Ad) (at':Aa) (l:(List Aa)):Option ((List Aa)×Int):=
 (Io e at').bind fun y=>
 cond (!decide (y.2=0))
  (some (([]:(List Aa)),y.2))
  (B2 (fun q'=>Dd.l1 l y q'.1 q'.2) (0,([]:List Aa)))
def Hv (x':Aa) (c0:Aa) (c1:Ad):Option (Bool):=
 cond (decide (x'.Day=c0.Day))
  ((El c1 x').bind fun y=>
  some y)
  (some false)
def Em (s:(List Aa)) (f:Aa->Option (Bool)):Option (Bool):=
 (Bc s f).bind fun y=>
 some (decide (0<=y))
def Lf (e:Ad) (at':Aa) (l:(List Aa)):Option (Bool×Int):=
 (Ee e at' l).bind fun y=>
 cond (!decide (y.2=0))
  (some (false,y.2))
  (cond (decide ((y.1.length:Int)=0))
   ((Em l (fun x0=>Hv x0 at' e)).bind fun y_2=>
   some (!y_2,0))
   (some (false,0)))
def Dl.j2 (x24_1:Int) (x37_2:Bool):Option (Lp (Int) (Bool×Int)):=
 cond (x37_2)
  (up (some (false,0)))
  (some (.next (W (x24_1 + 1))))
def Dl.l1 (e:Ad) (at':Aa) (l:(List Aa)) (y:(List Aa)×Int) (x24_1:Int):Option (Lp (Int) (Bool×Int)):=
 cond (decide (x24_1 < (l.length:Int)))
  ((Bu l x24_1).bind fun e_2=>
  cond (decide (e_2.Day=at'.Day))
   ((Cc e e_2).bind fun y_2=>
   Dl.j2 x24_1 y_2)
   (Dl.j2 x24_1 false))
  (up (
   some (decide ((y.1.length:Int)=0),0)))
def Dl (e:Ad) (at':Aa) (l:(List Aa)):Option (Bool×Int):=
 (Dd e at' l).bind fun y=>
 cond (!decide (y.2=0))
  (some (false,y.2))
  (B2 (fun q'=>Dl.l1 e at' l y q') 0)
def Fz.l1 (a:(List Aa)) (b:(List Aa)) (x13_1:Int):Option (Lp (Int) (Bool)):=
 cond (decide (x13_1 < (a.length:Int)))
  ((Bu a x13_1).bind fun e=>
  (Bu b x13_1).bind fun e_2=>
  cond (!decide (e=e_2))
   (up (some false))
   (some (.next (W (x13_1 + 1)))))
  (up (
   some true))
def Fz (a:(List Aa)) (b:(List Aa)):Option (Bool):=
 cond (!decide ((a.length:Int)=(b.length:Int)))
  (some false)
  (B2 (fun q'=>Fz.l1 a b q') 0)
def Dg.l1 (a:Am) (x14_1:Int) (l_1:List Ah):Option (Lp (Int×List Ah) (Am)):=
 cond (decide (x14_1 < (a.Chain.length:Int)))
  ((Bu a.Chain x14_1).bind fun e=>
  (F3 16 ([]:List ByteArray) e.Names).bind fun l=>
  (F3 2280 l_1 ([(Ah.mk e.Serial e.Issuer e.Subject e.Key e.KeyId e.Hash e.From e.To e.Authority e.Path l e.Seal)]:List Ah)).bind fun l_2=>
  some (.next (W (x14_1 + 1),l_2)))
  (up (
   some (Am.mk a.Key a.KeyId l_1)))
def Dg (a:Am):Option (Am):=
 B2 (fun q'=>Dg.l1 a q'.1 q'.2) (0,([]:List Ah))
def Gc.l1 (e:Ad) (l:List Int) (l_2:List Int) (l_3:List Int) (x23_1:Int) (l_1:List Am):Option (Lp (Int×List Am) (Ad)):=
 cond (decide (x23_1 < (e.Identities.length:Int)))
  ((Bu e.Identities x23_1).bind fun e_2=>
  (Dg e_2).bind fun y=>
  (F3 192 l_1 ([y]:List Am)).bind fun l_4=>
  some (.next (W (x23_1 + 1),l_4)))
  (up (
   some (Ad.mk e.Name e.Least e.Most l e.OwnOrder l_1 l_2 l_3 e.Fallback)))
def Gc (e:Ad):Option (Ad):=
 (F3 8 ([]:List Int) e.Suites).bind fun l=>
 (F3 8 ([]:List Int) e.Anchors).bind fun l_2=>
 (F3 8 ([]:List Int) e.Hashes).bind fun l_3=>
 B2 (fun q'=>Gc.l1 e l l_2 l_3 q'.1 q'.2) (0,([]:List Am))
def D7.l2 (e:Ap) (l:List A3) (l_1:List Ad) (x30_2:Int) (l_2_2:List Bf):Option (Lp (Int×List Bf) (Ap)):=
 cond (decide (x30_2 < (e.Items.length:Int)))
  ((Bu e.Items x30_2).bind fun e_3=>
  (F3 72 ([]:List Dh) e_3.Links).bind fun l_3=>
  (F3 320 l_2_2 ([(Bf.mk e_3.Name e_3.Kind e_3.Purpose l_3 e_3.Until)]:List Bf)).bind fun l_4=>
  some (.next (W (x30_2 + 1),l_4)))
  (up (
   some (Ap.mk l_1 l l_2_2)))
def D7.l1 (e:Ap) (l:List A3) (x15_1:Int) (l_1:List Ad):Option (Lp (Int×List Ad) (Ap)):=
 cond (decide (x15_1 < (e.Endpoints.length:Int)))
  ((Bu e.Endpoints x15_1).bind fun e_2=>
  (Gc e_2).bind fun y=>
  (F3 1296 l_1 ([y]:List Ad)).bind fun l_2=>
  some (.next (W (x15_1 + 1),l_2)))
  (up (
   B2 (fun q'=>D7.l2 e l l_1 q'.1 q'.2) (0,([]:List Bf))))
def D7 (e:Ap):Option (Ap):=
 (F3 32 ([]:List A3) e.Edges).bind fun l=>
 B2 (fun q'=>D7.l1 e l q'.1 q'.2) (0,([]:List Ad))
def Fk.j1 (e:Ad) (b_1:List Int) (b_1_2:Int) (e_1:ByteArray) (e_1_2:Int) (e_1_3:Int) (e_1_4:List Int) (e_1_5:List Am) (e_1_6:List Int) (e_1_7:List Int):Option (Ad×Ab):=
 some ((Ad.mk e_1 e_1_2 e_1_3 e_1_4 e.OwnOrder e_1_5 e_1_6 e_1_7 e.Fallback),(Ab.mk b_1 b_1_2))
def Fk (d:Ab) (e:Ad):Option (Ad×Ab):=
 (Bi d 8).bind fun y=>
 cond (decide (y.1=0))
  ((Ff y.2 ([(⟨#[]⟩:ByteArray),(⟨#[97,32,98]⟩:ByteArray),(⟨#[120]⟩:ByteArray)]:List ByteArray)).bind fun y_2=>
  Fk.j1 e y_2.2.L y_2.2.At y_2.1 e.Least e.Most e.Suites e.Identities e.Anchors e.Hashes)
  (cond (decide (y.1=1))
   ((B3 y.2 ([0,5,W (e.Most + 1)]:List Int)).bind fun y_3=>
   Fk.j1 e y_3.2.L y_3.2.At e.Name y_3.1 e.Most e.Suites e.Identities e.Anchors e.Hashes)
   (cond (decide (y.1=2))
    ((B3 y.2 ([5,0]:List Int)).bind fun y_4=>
    Fk.j1 e y_4.2.L y_4.2.At e.Name e.Least y_4.1 e.Suites e.Identities e.Anchors e.Hashes)
    (cond (decide (y.1=3))
     ((F3 8 ([]:List Int) e.Suites).bind fun l=>
     (B3 y.2 ([17,0,3,3]:List Int)).bind fun y_5=>
     (F3 8 l ([y_5.1]:List Int)).bind fun l_2=>
     Fk.j1 e y_5.2.L y_5.2.At e.Name e.Least e.Most l_2 e.Identities e.Anchors e.Hashes)
     (cond (decide (y.1=4))
      (Fk.j1 e y.2.L y.2.At e.Name e.Least e.Most e.Suites e.Identities ([2,1]:List Int) e.Hashes)
      (cond (decide (y.1=5))
       ((B3 y.2 ([5,3,0]:List Int)).bind fun y_6=>
       Fk.j1 e y_6.2.L y_6.2.At e.Name e.Least e.Most e.Suites e.Identities e.Anchors ([y_6.1]:List Int))
       (cond (decide (y.1=6))
        ((F3 192 ([]:List Am) e.Identities).bind fun l_3=>
        (F3 192 l_3 ([(Am.mk (Aq.mk 1 0) 0 ([]:(List Ah)))]:List Am)).bind fun l_4=>
        Fk.j1 e y.2.L y.2.At e.Name e.Least e.Most e.Suites l_4 e.Anchors e.Hashes)
        ((F3 192 ([]:List Am) e.Identities).bind fun l_5=>
        (G3 y.2 (⟨#[97]⟩:ByteArray) (Aq.mk 5 2048) 8).bind fun y_7=>
        (F3 192 l_5 ([(Am.mk (Aq.mk 5 2048) 7 y_7.1)]:List Am)).bind fun l_6=>
        Fk.j1 e y_7.2.L y_7.2.At e.Name e.Least e.Most e.Suites l_6 e.Anchors e.Hashes)))))))
def Be.j4 (x47_3:Int) (x81_4:Bool):Option (Lp (Int) (Int)):=
 cond (x81_4)
  (up (some 30))
  (some (.next (W (x47_3 + 1))))
def Be.j5 (x95_5:Bool):Option (Int):=
 cond (x95_5)
  (some 30)
  (some 0)
def Be.l3 (i:Bf) (x47_3:Int):Option (Lp (Int) (Int)):=
 cond (decide (x47_3 < (i.Links.length:Int)))
  ((Bu i.Links x47_3).bind fun e=>
  (Ga e.Use).bind fun y_2=>
  cond (!y_2)
   (Be.j4 x47_3 true)
   (cond (decide (e.Day < 0))
    (Be.j4 x47_3 true)
    (cond (decide (40000 < e.Day))
     (Be.j4 x47_3 true)
     (cond (decide (0 < x47_3))
      ((Bu i.Links (W (x47_3 - 1))).bind fun e_2=>
      Be.j4 x47_3 (decide (e.Day<=e_2.Day)))
      (Be.j4 x47_3 false)))))
  (up (
   (Bu i.Links 0).bind fun e_3=>
   cond (decide (i.Until < e_3.Day))
    (Be.j5 true)
    (Be.j5 (decide (40000 < i.Until)))))
def Be.j2 (i:Bf) (x43_2:Bool):Option (Int):=
 cond (x43_2)
  (some 30)
  (B2 (fun q'=>Be.l3 i q') 0)
def Be.j1 (i:Bf) (known_1:Bool):Option (Int):=
 (Cg i.Name).bind fun y=>
 cond (!y)
  (Be.j2 i true)
  (cond (!known_1)
   (Be.j2 i true)
   (cond (decide (i.Purpose < 1))
    (Be.j2 i true)
    (cond (decide (4 < i.Purpose))
     (Be.j2 i true)
     (cond (decide ((i.Links.length:Int) < 1))
      (Be.j2 i true)
      (Be.j2 i (decide (8 < (i.Links.length:Int))))))))
def Be (i:Bf):Option (Int):=
 cond (decide (i.Kind=1))
  (Be.j1 i true)
  (Be.j1 i (decide (i.Kind=2)))
def F4 (x':Bf):Option (Bool):=
 (Be x').bind fun y=>
 some (!decide (y=0))
def Bw.l1 (s:(List Bf)) (f:Bf->Option (Bool)) (x8_1:Int):Option (Lp (Int) (Int)):=
 cond (decide (x8_1 < (s.length:Int)))
  ((Bu s x8_1).bind fun e=>
  (f e).bind fun y=>
  cond (y)
   (up (some x8_1))
   (some (.next (W (x8_1 + 1)))))
  (up (
   some (-1)))
def Bw (s:(List Bf)) (f:Bf->Option (Bool)):Option (Int):=
 B2 (fun q'=>Bw.l1 s f q') 0
def E6 (s:(List Bf)) (f:Bf->Option (Bool)):Option (Bool):=
 (Bw s f).bind fun y=>
 some (decide (0<=y))
def Bx.j3 (x9_1:Int) (x75_3:Bool):Option (Lp (Int) (Bool)):=
 cond (x75_3)
  (up (some false))
  (some (.next (W (x9_1 + 1))))
def Bx.j2 (l:(List A3)) (x9_1:Int) (e:A3) (x40_2:Bool):Option (Lp (Int) (Bool)):=
 cond (x40_2)
  (up (some false))
  (cond (decide (0 < x9_1))
   ((Bu l (W (x9_1 - 1))).bind fun e_2=>
   cond (decide (e.Client < e_2.Client))
    (Bx.j3 x9_1 true)
    (cond (decide (e_2.Client=e.Client))
     (Bx.j3 x9_1 (decide (e.Server<=e_2.Server)))
     (Bx.j3 x9_1 false)))
   (Bx.j3 x9_1 false))
def Bx.l1 (l:(List A3)) (size:Int) (x9_1:Int):Option (Lp (Int) (Bool)):=
 cond (decide (x9_1 < (l.length:Int)))
  ((Bu l x9_1).bind fun e=>
  cond (decide (e.Client < 0))
   (Bx.j2 l x9_1 e true)
   (cond (decide (size<=e.Client))
    (Bx.j2 l x9_1 e true)
    (cond (decide (e.Server < 0))
     (Bx.j2 l x9_1 e true)
     (cond (decide (size<=e.Server))
      (Bx.j2 l x9_1 e true)
      (Bx.j2 l x9_1 e (decide (e.Client=e.Server)))))))
  (up (
   some (decide ((l.length:Int)<=40))))
def Bx (l:(List A3)) (size:Int):Option (Bool):=
 B2 (fun q'=>Bx.l1 l size q') 0
def Ca.j2 (x9_1:Int) (x32_2:Bool):Option (Lp (Int) (Int)):=
 cond (x32_2)
  (up (some 31))
  (some (.next (W (x9_1 + 1))))
def Ca.j3 (x58_3:Bool):Option (Int):=
 cond (x58_3)
  (some 31)
  (some 0)
def Ca.l1 (e:Ap) (x9_1:Int):Option (Lp (Int) (Int)):=
 cond (decide (x9_1 < (e.Endpoints.length:Int)))
  ((Bu e.Endpoints x9_1).bind fun e_2=>
  (Bq e_2).bind fun y=>
  cond (!decide (y=0))
   (Ca.j2 x9_1 true)
   (cond (decide (0 < x9_1))
    ((Bu e.Endpoints (W (x9_1 - 1))).bind fun e_3=>
    Ca.j2 x9_1 (!Mc (Hq e_3.Name) (Hq e_2.Name)))
    (Ca.j2 x9_1 false)))
  (up (
   (E6 e.Items (fun x0=>F4 x0)).bind fun y_2=>
   cond (y_2)
    (Ca.j3 true)
    (cond (decide (16 < (e.Endpoints.length:Int)))
     (Ca.j3 true)
     (cond (decide (30 < (e.Items.length:Int)))
      (Ca.j3 true)
      ((Bx e.Edges (e.Endpoints.length:Int)).bind fun y_3=>
      Ca.j3 (!y_3))))))
def Ca (e:Ap):Option (Int):=
 B2 (fun q'=>Ca.l1 e q') 0
def Lb (x':Ad) (c0:Aa):Option (Bool):=
 (El x' c0).bind fun y=>
 some y
def Bp.l1 (s:(List Ad)) (f:Ad->Option (Bool)) (x8_1:Int):Option (Lp (Int) (Int)):=
 cond (decide (x8_1 < (s.length:Int)))
  ((Bu s x8_1).bind fun e=>
  (f e).bind fun y=>
  cond (y)
   (up (some x8_1))
   (some (.next (W (x8_1 + 1)))))
  (up (
   some (-1)))
def Bp (s:(List Ad)) (f:Ad->Option (Bool)):Option (Int):=
 B2 (fun q'=>Bp.l1 s f q') 0
def Eg (s:(List Ad)) (f:Ad->Option (Bool)):Option (Bool):=
 (Bp s f).bind fun y=>
 some (decide (0<=y))
def Cp.j5 (x25_2:Int) (out_5:List Int):Option (Lp (Int×List Int) ((List Int)×Int)):=
 some (.next (W (x25_2 + 1),out_5))
def Cp.j4 (x25_2:Int) (out_2:List Int) (x40_4:Bool):Option (Lp (Int×List Int) ((List Int)×Int)):=
 cond (x40_4)
  ((F3 8 out_2 ([x25_2]:List Int)).bind fun l_2=>
  Cp.j5 x25_2 l_2)
  (Cp.j5 x25_2 out_2)
def Cp.l2 (e:Ap) (l:(List Aa)) (day:Int) (x25_2:Int) (out_2:List Int):Option (Lp (Int×List Int) ((List Int)×Int)):=
 cond (decide (x25_2 < (l.length:Int)))
  ((Bu l x25_2).bind fun e_2=>
  cond (decide (e_2.Day=day))
   ((Eg e.Endpoints (fun x0=>Lb x0 e_2)).bind fun y_2=>
   Cp.j4 x25_2 out_2 y_2)
   (Cp.j4 x25_2 out_2 false))
  (up (
   some (out_2,0)))
def Cp.j1 (e:Ap) (l:(List Aa)) (day:Int) (x16_1:Bool):Option ((List Int)×Int):=
 cond (x16_1)
  (some (([]:(List Int)),2))
  (B2 (fun q'=>Cp.l2 e l day q'.1 q'.2) (0,([]:List Int)))
def Cp (e:Ap) (l:(List Aa)) (day:Int):Option ((List Int)×Int):=
 (Ca e).bind fun y=>
 cond (!decide (y=0))
  (some (([]:(List Int)),31))
  (cond (decide (day < 0))
   (Cp.j1 e l day true)
   (Cp.j1 e l day (decide (40000 < day))))
def Bs.j3 (i_2:Int) (x107_3:Bool):Option (Lp (Int) (Int)):=
 cond (x107_3)
  (up (some 30))
  (some (.next (W (i_2 + 1))))
def Bs.l2 (x':Bf) (i_2:Int):Option (Lp (Int) (Int)):=
 cond (decide (i_2 < (x'.Links.length:Int)))
  ((Bu x'.Links i_2).bind fun e_3=>
  (Ik e_3.Use).bind fun y_2=>
  cond (!y_2)
   (Bs.j3 i_2 true)
   (cond (decide (e_3.Day < 0))
    (Bs.j3 i_2 true)
    (cond (decide (40000 < e_3.Day))
     (Bs.j3 i_2 true)
     (cond (decide (0 < i_2))
      ((Bu x'.Links (W (i_2 - 1))).bind fun e_4=>
      Bs.j3 i_2 (decide (e_3.Day<=e_4.Day)))
      (Bs.j3 i_2 false)))))
  (up (
   some 0))
def Bs.j1 (x':Bf) (x54_1:Bool):Option (Int):=
 cond (x54_1)
  (some 30)
  (B2 (fun q'=>Bs.l2 x' q') 0)
def Bs (x':Bf):Option (Int):=
 (Cj x'.Name).bind fun y=>
 cond (!y)
  (Bs.j1 x' true)
  (cond (!decide (x'.Kind=1))
   (cond (!decide (x'.Kind=2))
    (Bs.j1 x' true)
    (cond (decide (x'.Purpose < 1))
     (Bs.j1 x' true)
     (cond (decide (4 < x'.Purpose))
      (Bs.j1 x' true)
      (cond (decide ((x'.Links.length:Int) < 1))
       (Bs.j1 x' true)
       (cond (decide (8 < (x'.Links.length:Int)))
        (Bs.j1 x' true)
        (cond (decide (40000 < x'.Until))
         (Bs.j1 x' true)
         ((Bu x'.Links 0).bind fun e=>
         Bs.j1 x' (decide (x'.Until < e.Day)))))))))
   (cond (decide (x'.Purpose < 1))
    (Bs.j1 x' true)
    (cond (decide (4 < x'.Purpose))
     (Bs.j1 x' true)
     (cond (decide ((x'.Links.length:Int) < 1))
      (Bs.j1 x' true)
      (cond (decide (8 < (x'.Links.length:Int)))
       (Bs.j1 x' true)
       (cond (decide (40000 < x'.Until))
        (Bs.j1 x' true)
        ((Bu x'.Links 0).bind fun e_2=>
        Bs.j1 x' (decide (x'.Until < e_2.Day)))))))))
def Bd.j3 (i_2:Int) (x56_3:Bool):Option (Lp (Int) (Int)):=
 cond (x56_3)
  (up (some 31))
  (some (.next (W (i_2 + 1))))
def Bd.j6 (i_4:Int) (x137_6:Bool):Option (Lp (Int) (Int)):=
 cond (x137_6)
  (up (some 31))
  (some (.next (W (i_4 + 1))))
def Bd.j5 (e:Ap) (i_4:Int) (e_4:A3) (x99_5:Bool):Option (Lp (Int) (Int)):=
 cond (x99_5)
  (up (some 31))
  (cond (decide (0 < i_4))
   ((Bu e.Edges (W (i_4 - 1))).bind fun e_5=>
   cond (decide (e_4.Client < e_5.Client))
    (Bd.j6 i_4 true)
    (cond (decide (e_5.Client=e_4.Client))
     (Bd.j6 i_4 (decide (e_4.Server<=e_5.Server)))
     (Bd.j6 i_4 false)))
   (Bd.j6 i_4 false))
def Bd.l7 (e:Ap) (i_7:Int):Option (Lp (Int) (Int)):=
 cond (decide (i_7 < (e.Items.length:Int)))
  ((Bu e.Items i_7).bind fun e_6=>
  (Bs e_6).bind fun y_2=>
  cond (!decide (y_2=0))
   (up (some 31))
   (some (.next (W (i_7 + 1)))))
  (up (
   some 0))
def Bd.l4 (e:Ap) (i_4:Int):Option (Lp (Int) (Int)):=
 cond (decide (i_4 < (e.Edges.length:Int)))
  ((Bu e.Edges i_4).bind fun e_4=>
  cond (decide (e_4.Client < 0))
   (Bd.j5 e i_4 e_4 true)
   (cond (decide ((e.Endpoints.length:Int)<=e_4.Client))
    (Bd.j5 e i_4 e_4 true)
    (cond (decide (e_4.Server < 0))
     (Bd.j5 e i_4 e_4 true)
     (cond (decide ((e.Endpoints.length:Int)<=e_4.Server))
      (Bd.j5 e i_4 e_4 true)
      (Bd.j5 e i_4 e_4 (decide (e_4.Client=e_4.Server)))))))
  (up (
   B2 (fun q'=>Bd.l7 e q') 0))
def Bd.l2 (e:Ap) (i_2:Int):Option (Lp (Int) (Int)):=
 cond (decide (i_2 < (e.Endpoints.length:Int)))
  ((Bu e.Endpoints i_2).bind fun e_2=>
  (A7 e_2).bind fun y=>
  cond (!decide (y=0))
   (Bd.j3 i_2 true)
   (cond (decide (0 < i_2))
    ((Bu e.Endpoints (W (i_2 - 1))).bind fun e_3=>
    Bd.j3 i_2 (!Mc (Hq e_3.Name) (Hq e_2.Name)))
    (Bd.j3 i_2 false)))
  (up (
   B2 (fun q'=>Bd.l4 e q') 0))
def Bd.j1 (e:Ap) (x22_1:Bool):Option (Int):=
 cond (x22_1)
  (some 31)
  (B2 (fun q'=>Bd.l2 e q') 0)
def Bd (e:Ap):Option (Int):=
 cond (decide (16 < (e.Endpoints.length:Int)))
  (Bd.j1 e true)
  (cond (decide (40 < (e.Edges.length:Int)))
   (Bd.j1 e true)
   (Bd.j1 e (decide (30 < (e.Items.length:Int)))))
def Fe.l1 (e:Ap) (name:ByteArray) (x11_1:Int):Option (Lp (Int) (Int×Bool)):=
 cond (decide (x11_1 < (e.Endpoints.length:Int)))
  ((Bu e.Endpoints x11_1).bind fun e_2=>
  cond (decide (e_2.Name=name))
   (up (some (x11_1,true)))
   (some (.next (W (x11_1 + 1)))))
  (up (
   some (0,false)))
def Fe (e:Ap) (name:ByteArray):Option (Int×Bool):=
 B2 (fun q'=>Fe.l1 e name q') 0
def Ck.j4 (x24_2:Int) (out_4:List Int):Option (Lp (Int×List Int) ((List Int)×Int)):=
 some (.next (W (x24_2 + 1),out_4))
def Ck.j3 (x24_2:Int) (out_2:List Int) (x51_3:Bool):Option (Lp (Int×List Int) ((List Int)×Int)):=
 cond (x51_3)
  ((F3 8 out_2 ([x24_2]:List Int)).bind fun l_2=>
  Ck.j4 x24_2 l_2)
  (Ck.j4 x24_2 out_2)
def Ck.l2 (e:Ap) (l:(List Aa)) (day:Int) (x24_2:Int) (out_2:List Int):Option (Lp (Int×List Int) ((List Int)×Int)):=
 cond (decide (x24_2 < (l.length:Int)))
  ((Bu l x24_2).bind fun e_2=>
  (Fe e e_2.Host).bind fun y_2=>
  cond (y_2.2)
   (cond (decide (e_2.Day=day))
    ((Bu e.Endpoints y_2.1).bind fun e_3=>
    (Cc e_3 e_2).bind fun y_3=>
    Ck.j3 x24_2 out_2 y_3)
    (Ck.j3 x24_2 out_2 false))
   (Ck.j3 x24_2 out_2 false))
  (up (
   some (out_2,0)))
def Ck.j1 (e:Ap) (l:(List Aa)) (day:Int) (x21_1:Bool):Option ((List Int)×Int):=
 cond (x21_1)
  (some (([]:(List Int)),2))
  (B2 (fun q'=>Ck.l2 e l day q'.1 q'.2) (0,([]:List Int)))
def Ck (e:Ap) (l:(List Aa)) (day:Int):Option ((List Int)×Int):=
 (Bd e).bind fun y=>
 cond (!decide (y=0))
  (some (([]:(List Int)),31))
  (cond (decide (day < 0))
   (Ck.j1 e l day true)
   (Ck.j1 e l day (decide (40000 < day))))
def Eu.l1 (a:(List Int)) (b:(List Int)) (x13_1:Int):Option (Lp (Int) (Bool)):=
 cond (decide (x13_1 < (a.length:Int)))
  ((Bu a x13_1).bind fun e=>
  (Bu b x13_1).bind fun e_2=>
  cond (!decide (e=e_2))
   (up (some false))
   (some (.next (W (x13_1 + 1)))))
  (up (
   some true))
def Eu (a:(List Int)) (b:(List Int)):Option (Bool):=
 cond (!decide ((a.length:Int)=(b.length:Int)))
  (some false)
  (B2 (fun q'=>Eu.l1 a b q') 0)
def Ar.j6 (x100_5:Int) (x173_6:Bool):Option (Lp (Int) (Lp (Int) (Bool))):=
 cond (x173_6)
  (up (up (some false)))
  (some (.next (W (x100_5 + 1))))
def Ar.l5 (raw:Aa) (l_2:List Aa) (x72_3:Int) (e_2:Ad) (y_11:Aa) (x100_5:Int):Option (Lp (Int) (Lp (Int) (Bool))):=
 cond (decide (x100_5 < (([y_11,raw]:List Aa).length:Int)))
  ((Bu ([y_11,raw]:List Aa) x100_5).bind fun e_4=>
  (Hc e_2 e_4).bind fun y_12=>
  (Io e_2 e_4).bind fun y_13=>
  (Ee e_2 e_4 l_2).bind fun y_14=>
  (Dd e_2 e_4 l_2).bind fun y_15=>
  (Lf e_2 e_4 l_2).bind fun y_16=>
  (Dl e_2 e_4 l_2).bind fun y_17=>
  cond (!decide (y_12.2=y_13.2))
   (Ar.j6 x100_5 true)
   (cond (!decide (y_14.2=y_15.2))
    (Ar.j6 x100_5 true)
    (cond (!decide (y_16.2=y_17.2))
     (Ar.j6 x100_5 true)
     (cond (!decide (y_16.1=y_17.1))
      (Ar.j6 x100_5 true)
      ((Fz y_12.1 y_13.1).bind fun y_18=>
      cond (!y_18)
       (Ar.j6 x100_5 true)
       ((Fz y_14.1 y_15.1).bind fun y_19=>
       Ar.j6 x100_5 (!y_19)))))))
  (up (
   some (.next (W (x72_3 + 1)))))
def Ar.l4 (raw:Aa) (y_7:Int×Ab) (l_2:List Aa) (x72_3:Int) (e_2:Ad) (l_4:List Aa) (x81_4:Int):Option (Lp (Int) (Lp (Int) (Bool))):=
 cond (decide (x81_4 < (l_4.length:Int)))
  ((Bu l_4 x81_4).bind fun e_3=>
  (El e_2 e_3).bind fun y_9=>
  (Cc e_2 e_3).bind fun y_10=>
  cond (!decide (y_9=y_10))
   (up (up (some false)))
   (some (.next (W (x81_4 + 1)))))
  (up (
   (Mv e_2.Name y_7.1).bind fun y_11=>
   B2 (fun q'=>Ar.l5 raw l_2 x72_3 e_2 y_11 q') 0))
def Ar.j10 (x201_9:Int) (x227_10:Bool):Option (Lp (Int) (Lp (Int) (Bool))):=
 cond (x227_10)
  (up (up (some false)))
  (some (.next (W (x201_9 + 1))))
def Ar.l9 (day:Int) (y_7:Int×Ab) (l_2:List Aa) (x191_8:Int) (e_6:Ap) (x201_9:Int):Option (Lp (Int) (Lp (Int) (Bool))):=
 cond (decide (x201_9 < (([day,y_7.1,W (y_7.1 + 1)]:List Int).length:Int)))
  ((Bu ([day,y_7.1,W (y_7.1 + 1)]:List Int) x201_9).bind fun e_7=>
  (Cp e_6 l_2 e_7).bind fun y_22=>
  (Ck e_6 l_2 e_7).bind fun y_23=>
  cond (!decide (y_22.2=y_23.2))
   (Ar.j10 x201_9 true)
   ((Eu y_22.1 y_23.1).bind fun y_24=>
   Ar.j10 x201_9 (!y_24)))
  (up (
   some (.next (W (x191_8 + 1)))))
def Ar.l8 (day:Int) (s_2:Ap) (y_7:Int×Ab) (l_2:List Aa) (y_20:Ap) (y_21:Ad×Ab) (x191_8:Int):Option (Lp (Int) (Bool)):=
 cond (decide (x191_8 < (([s_2,(Ap.mk (C3 y_20.Endpoints ((0:Int).toNat) y_21.1) y_20.Edges y_20.Items)]:List Ap).length:Int)))
  ((Bu ([s_2,(Ap.mk (C3 y_20.Endpoints ((0:Int).toNat) y_21.1) y_20.Edges y_20.Items)]:List Ap) x191_8).bind fun e_6=>
  B2 (fun q'=>Ar.l9 day y_7 l_2 x191_8 e_6 q') 0)
  (up (
   (Ky).bind fun y_25=>
   some y_25))
def Ar.l3 (raw:Aa) (day:Int) (l:(List Aa)) (s_2:Ap) (y_7:Int×Ab) (y_8:(List Aa)×Ab) (l_2:List Aa) (x72_3:Int):Option (Lp (Int) (Bool)):=
 cond (decide (x72_3 < (s_2.Endpoints.length:Int)))
  ((Bu s_2.Endpoints x72_3).bind fun e_2=>
  (F3 1232 ([]:List Aa) l_2).bind fun l_3=>
  (F3 1232 l_3 l).bind fun l_4=>
  B2 (fun q'=>Ar.l4 raw y_7 l_2 x72_3 e_2 l_4 q') 0)
  (up (
   (D7 s_2).bind fun y_20=>
   (Bu y_20.Endpoints 0).bind fun e_5=>
   (Fk y_8.2 e_5).bind fun y_21=>
   B2 (fun q'=>Ar.l8 day s_2 y_7 l_2 y_20 y_21 q') 0))
def Ar.j2 (raw:Aa) (day:Int) (l:(List Aa)) (d_2:Ab) (s_2:Ap):Option (Bool):=
 (Bi d_2 9).bind fun y_7=>
 (Bu s_2.Endpoints 0).bind fun e=>
 (Co y_7.2 e y_7.1).bind fun y_8=>
 (F3 1232 y_8.1 ([raw]:List Aa)).bind fun l_2=>
 B2 (fun q'=>Ar.l3 raw day l s_2 y_7 y_8 l_2 q') 0
def Ar.j1 (t:(List Int)) (raw:Aa) (day:Int) (l:(List Aa)) (x47_1:Bool):Option (Bool):=
 cond (x47_1)
  ((Ky).bind fun y_2=>
  some y_2)
  ((Q6 t).bind fun y_3=>
  (Bk y_3).bind fun y_4=>
  (E3 y_4.2 5).bind fun y_5=>
  cond (y_5.1)
   ((B1 y_5.2).bind fun y_6=>
   Ar.j2 raw day l y_6.2 y_6.1)
   (Ar.j2 raw day l y_5.2 y_4.1))
def Ar (t:(List Int)) (raw:Aa) (day:Int) (l:(List Aa)):Option (Bool):=
 (O6 t).bind fun y=>
 cond (!y)
  (Ar.j1 t raw day l true)
  (Ar.j1 t raw day l (decide (60 < (l.length:Int))))
end
end Go.Proofs.YtbpchmikjiinpaaGreat
