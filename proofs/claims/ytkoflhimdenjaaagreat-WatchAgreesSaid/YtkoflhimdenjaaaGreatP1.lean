import Derived.Test.YtkoflhimdenjaaaGreatPU
set_option linter.unusedVariables false
set_option linter.unusedSimpArgs false
namespace Go.Proofs.YtkoflhimdenjaaaGreat
noncomputable section
structure Ah where
 L:(List Int)
 At:Int
 deriving DecidableEq,Inhabited
structure Ar where
 Alg:Int
 Bits:Int
 deriving DecidableEq,Inhabited
structure Er where
 Key:Int
 Sum:Int
 deriving DecidableEq,Inhabited
structure Ae where
 Serial:Int
 Issuer:ByteArray
 Subject:ByteArray
 Key:Ar
 KeyId:Int
 Hash:Ar
 From:Int
 To:Int
 Authority:Bool
 Path:Int
 Names:(List ByteArray)
 Seal:Er
 deriving DecidableEq,Inhabited
structure Am where
 Key:Ar
 KeyId:Int
 Chain:(List Ae)
 deriving DecidableEq,Inhabited
structure Af where
 Name:ByteArray
 Least:Int
 Most:Int
 Suites:(List Int)
 OwnOrder:Bool
 Identities:(List Am)
 Anchors:(List Int)
 Hashes:(List Int)
 Fallback:Bool
 deriving DecidableEq,Inhabited
structure Bq where
 Client:Int
 Server:Int
 deriving DecidableEq,Inhabited
structure Co where
 Use:Ar
 Day:Int
 deriving DecidableEq,Inhabited
structure Cf where
 Name:ByteArray
 Kind:Int
 Purpose:Int
 Links:(List Co)
 Until:Int
 deriving DecidableEq,Inhabited
structure Bb where
 Endpoints:(List Af)
 Edges:(List Bq)
 Items:(List Cf)
 deriving DecidableEq,Inhabited
structure A7 where
 Endpoint:Int
 Kind:Int
 Number:Int
 At:Int
 Identity:Am
 deriving DecidableEq,Inhabited
structure Aa where
 Source:Int
 Host:ByteArray
 Machine:Int
 Day:Int
 Confidence:Int
 Kind:Int
 Subject:ByteArray
 Use:Ar
 Number:Int
 Text:ByteArray
 deriving DecidableEq,Inhabited
structure Au where
 name:ByteArray
 kind:Int
 deriving DecidableEq,Inhabited
structure Ai where
 Tag:Int
 Bytes:(List UInt8)
 Nested:Bool
 Elements:(List Ai)
structure A4 where
 Code:Int
 Name:ByteArray
 Exchange:Ar
 Sign:Ar
 Cipher:Ar
 Mac:Ar
 Least:Int
 Most:Int
 deriving DecidableEq,Inhabited
structure D1 where
 at_:Aa
 l:(List Aa)
 deriving DecidableEq,Inhabited
structure Cc where
 name:ByteArray
 kind:Int
 way:Int
 sizes:(List Int)
 strengths:(List Int)
 deriving DecidableEq,Inhabited
structure Dq where
 host:ByteArray
 day:Int
 kind:Int
 use:Ar
 number:Int
 text:ByteArray
 deriving DecidableEq,Inhabited
def Ny (l:(List Int)):Option (Bool):=
 some (decide ((l.length:Int)<=400))
def Mh (host:ByteArray) (day:Int):Option (Aa):=
 some (Aa.mk 3 host 1 day 90 4 (⟨#[116,108,115]⟩:ByteArray) (Ar.mk 0 0) 1 (⟨#[]⟩:ByteArray))
def Ci.l1 (s:(List Int)) (v:Int) (x8_1:Int):Option (Lp (Int) (Int)):=
 cond (decide (x8_1 < (s.length:Int)))
  ((B5 s x8_1).bind fun e=>
  cond (decide (v=e))
   (up (some x8_1))
   (some (.next (W (x8_1 + 1)))))
  (up (
   some (-1)))
def Ci (s:(List Int)) (v:Int):Option (Int):=
 Cp (fun q'=>Ci.l1 s v q') 0
def C5 (s:(List Int)) (v:Int):Option (Bool):=
 (Ci s v).bind fun y=>
 some (decide (0<=y))
def Ei (x':Am) (c0:Aa):Option (Bool):=
 cond (decide (x'.Key=c0.Use))
  (some (decide (x'.KeyId=c0.Number)))
  (some false)
def Bm.l1 (s:(List Am)) (f:Am->Option (Bool)) (x8_1:Int):Option (Lp (Int) (Int)):=
 cond (decide (x8_1 < (s.length:Int)))
  ((B5 s x8_1).bind fun e=>
  (f e).bind fun y=>
  cond (y)
   (up (some x8_1))
   (some (.next (W (x8_1 + 1)))))
  (up (
   some (-1)))
def Bm (s:(List Am)) (f:Am->Option (Bool)):Option (Int):=
 Cp (fun q'=>Bm.l1 s f q') 0
def Ea (s:(List Am)) (f:Am->Option (Bool)):Option (Bool):=
 (Bm s f).bind fun y=>
 some (decide (0<=y))
def Ef (e:Af) (f:Aa):Option (Bool):=
 cond (!decide (f.Host=e.Name))
  (some false)
  (cond (decide (f.Kind=2))
   ((C5 e.Suites f.Number).bind fun y=>
   some (!y))
   (cond (decide (f.Kind=3))
    ((Ea e.Identities (fun x0=>Ei x0 f)).bind fun y_2=>
    some (!y_2))
    (cond (decide (f.Kind=4))
     (some (!decide (f.Number=e.Most)))
     (cond (decide (f.Kind=5))
      (some (!decide (f.Number=e.Least)))
      (cond (decide (f.Kind=6))
       ((C5 e.Anchors f.Number).bind fun y_3=>
       some (!y_3))
       (some false))))))
def H8:Option (Bool):=
 (Mh (⟨#[97,112,112]⟩:ByteArray) 3).bind fun y=>
 (Ef (Af.mk (⟨#[97,112,112]⟩:ByteArray) 1 3 ([10]:List Int) false ([]:(List Am)) ([]:(List Int)) ([]:(List Int)) false) (Aa.mk y.Source y.Host y.Machine y.Day y.Confidence 2 y.Subject y.Use 2 y.Text)).bind fun y_2=>
 cond (y_2)
  ((Ef (Af.mk (⟨#[97,112,112]⟩:ByteArray) 1 3 ([10]:List Int) false ([]:(List Am)) ([]:(List Int)) ([]:(List Int)) false) (Aa.mk y.Source y.Host y.Machine y.Day y.Confidence 2 y.Subject y.Use 10 y.Text)).bind fun y_3=>
  some (!y_3))
  (some false)
def P3 (l:(List Int)):Option (Ah):=
 some (Ah.mk l 0)
def Pa (n:Int) (k:Int):Option (Int):=
 cond (decide (k < 1))
  (some 0)
  ((Wy n k).bind fun q=>
  (Wy (W (q + k)) k).bind fun q_2=>
  some q_2)
def B0 (d:Ah) (n:Int):Option (Int×Ah):=
 cond (decide ((d.L.length:Int)<=d.At))
  (some (0,d))
  ((B5 d.L (W ((W (d.At + 1)) - 1))).bind fun e=>
  (Pa e n).bind fun y=>
  some (y,(Ah.mk d.L (W (d.At + 1)))))
def Im (d:Ah) (l:(List Int)):Option (Int×Ah):=
 (B0 d (l.length:Int)).bind fun y=>
 (B5 l y.1).bind fun e=>
 some (e,y.2)
def Gr (d:Ah) (n:Int):Option (Bool×Ah):=
 (B0 d n).bind fun y=>
 some (decide (y.1=(W (n - 1))),y.2)
def Ol:Option (Ar):=
 some (Ar.mk 5 2048)
def Lr (c:Ae):Option (Ae):=
 (Ib 16 ([]:List ByteArray) c.Names).bind fun l=>
 some (Ae.mk c.Serial c.Issuer c.Subject c.Key c.KeyId c.Hash c.From c.To c.Authority c.Path l c.Seal)
def Cn.j3 (i_2:Int) (x27_3:Bool):Option (Lp (Int) (Bool)):=
 cond (x27_3)
  (up (some false))
  (some (.next (W (i_2 + 1))))
def Cn.l2 (s:ByteArray) (i_2:Int):Option (Lp (Int) (Bool)):=
 cond (decide (i_2 < (s.size:Int)))
  ((fY s i_2).bind fun c=>
  cond (decide ((c.toNat:Int) < 33))
   (Cn.j3 i_2 true)
   ((fY s i_2).bind fun c_2=>
   Cn.j3 i_2 (decide (126 < (c_2.toNat:Int)))))
  (up (
   some true))
def Cn.j1 (s:ByteArray) (x11_1:Bool):Option (Bool):=
 cond (x11_1)
  (some false)
  (Cp (fun q'=>Cn.l2 s q') 0)
def Cn (s:ByteArray):Option (Bool):=
 cond (decide ((s.size:Int) < 1))
  (Cn.j1 s true)
  (Cn.j1 s (decide (32 < (s.size:Int))))
def Dv.j1 (b:Int) (x3_1:Bool):Option (Int):=
 cond (x3_1)
  (some 0)
  (cond (decide (b < 1024))
   (some 56)
   (cond (decide (b < 2048))
    (some 80)
    (cond (decide (b < 3072))
     (some 112)
     (cond (decide (b < 7680))
      (some 128)
      (cond (decide (b < 15360))
       (some 192)
       (some 256))))))
def Dv (b:Int):Option (Int):=
 cond (decide (b < 512))
  (Dv.j1 b true)
  (Dv.j1 b (decide (16384 < b)))
def B9.l1 (b:Int) (sizes:(List Int)) (strengths:(List Int)) (i_1:Int):Option (Lp (Int) (Int)):=
 cond (decide (i_1 < (sizes.length:Int)))
  ((B5 sizes i_1).bind fun e=>
  cond (decide (e=b))
   ((B5 strengths i_1).bind fun e_2=>
   up (some e_2))
   (some (.next (W (i_1 + 1)))))
  (up (
   some 0))
def B9 (b:Int) (sizes:(List Int)) (strengths:(List Int)):Option (Int):=
 Cp (fun q'=>B9.l1 b sizes strengths q') 0
def Do.j2 (alg:Int) (x14_2:Bool):Option (Int):=
 cond (x14_2)
  (some 256)
  (cond (decide (alg=19))
   (some 64)
   (cond (decide (alg=20))
    (some 80)
    (some 0)))
def Do.j1 (alg:Int) (x8_1:Bool):Option (Int):=
 cond (x8_1)
  (some 128)
  (cond (decide (alg=4))
   (some 192)
   (cond (decide (alg=18))
    (Do.j2 alg (decide (alg=18)))
    (Do.j2 alg (decide (alg=22)))))
def Do (alg:Int):Option (Int):=
 cond (decide (alg=1))
  (some 18)
  (cond (decide (alg=2))
   (some 60)
   (cond (decide (alg=3))
    (Do.j1 alg (decide (alg=3)))
    (cond (decide (alg=8))
     (Do.j1 alg (decide (alg=8)))
     (Do.j1 alg (decide (alg=21))))))
def Az.j3 (u:Ar) (x35_3:Bool):Option (Int):=
 cond (x35_3)
  ((M2 u.Bits 2).bind fun q=>
  some q)
  (some 0)
def Az.j4 (u:Ar) (x62_4:Bool):Option (Int):=
 cond (x62_4)
  ((B9 u.Bits ([128,256]:List Int) ([128,256]:List Int)).bind fun y_6=>
  some y_6)
  ((Do u.Alg).bind fun y_7=>
  (B9 u.Bits ([0]:List Int) ([y_7]:List Int)).bind fun y_8=>
  some y_8)
def Az.j2 (u:Ar) (x15_2:Bool):Option (Int):=
 cond (x15_2)
  (cond (decide (u.Bits=160))
   (Az.j3 u true)
   (cond (decide (u.Bits=224))
    (Az.j3 u true)
    (cond (decide (u.Bits=256))
     (Az.j3 u true)
     (cond (decide (u.Bits=384))
      (Az.j3 u true)
      (Az.j3 u (decide (u.Bits=521)))))))
  (cond (decide (u.Alg=9))
   ((B9 u.Bits ([44,65,87]:List Int) ([128,192,256]:List Int)).bind fun y_2=>
   some y_2)
   (cond (decide (u.Alg=13))
    ((B9 u.Bits ([512,768,1024]:List Int) ([128,192,256]:List Int)).bind fun y_3=>
    some y_3)
    (cond (decide (u.Alg=14))
     ((B9 u.Bits ([40,128]:List Int) ([40,60]:List Int)).bind fun y_4=>
     some y_4)
     (cond (decide (u.Alg=15))
      ((B9 u.Bits ([112,168]:List Int) ([80,112]:List Int)).bind fun y_5=>
      some y_5)
      (cond (decide (u.Alg=16))
       (Az.j4 u (decide (u.Alg=16)))
       (Az.j4 u (decide (u.Alg=17))))))))
def Az.j1 (u:Ar) (x8_1:Bool):Option (Int):=
 cond (x8_1)
  ((Dv u.Bits).bind fun y=>
  some y)
  (cond (decide (u.Alg=7))
   (Az.j2 u (decide (u.Alg=7)))
   (Az.j2 u (decide (u.Alg=12))))
def Az (u:Ar):Option (Int):=
 cond (decide (u.Alg=5))
  (Az.j1 u (decide (u.Alg=5)))
  (cond (decide (u.Alg=6))
   (Az.j1 u (decide (u.Alg=6)))
   (cond (decide (u.Alg=10))
    (Az.j1 u (decide (u.Alg=10)))
    (Az.j1 u (decide (u.Alg=11)))))
def I9 (u:Ar):Option (Bool):=
 (Az u).bind fun y=>
 some (decide (0 < y))
def R1:Option ((List Au)):=
 some ([(Au.mk (⟨#[]⟩:ByteArray) 0),(Au.mk (⟨#[109,100,53]⟩:ByteArray) 1),(Au.mk (⟨#[115,104,97,49]⟩:ByteArray) 1),(Au.mk (⟨#[115,104,97,50,53,54]⟩:ByteArray) 1),(Au.mk (⟨#[115,104,97,51,56,52]⟩:ByteArray) 1),(Au.mk (⟨#[114,115,97]⟩:ByteArray) 2),(Au.mk (⟨#[100,115,97]⟩:ByteArray) 2),(Au.mk (⟨#[101,99,100,115,97]⟩:ByteArray) 2),(Au.mk (⟨#[101,100,50,53,53,49,57]⟩:ByteArray) 2),(Au.mk (⟨#[109,108,100,115,97]⟩:ByteArray) 2),(Au.mk (⟨#[114,115,97,107,120]⟩:ByteArray) 3),(Au.mk (⟨#[100,104,101]⟩:ByteArray) 3),(Au.mk (⟨#[101,99,100,104,101]⟩:ByteArray) 3),(Au.mk (⟨#[109,108,107,101,109]⟩:ByteArray) 3),(Au.mk (⟨#[114,99,52]⟩:ByteArray) 4),(Au.mk (⟨#[100,101,115,51]⟩:ByteArray) 4),(Au.mk (⟨#[97,101,115,99,98,99]⟩:ByteArray) 4),(Au.mk (⟨#[97,101,115,103,99,109]⟩:ByteArray) 4),(Au.mk (⟨#[99,104,97,99,104,97]⟩:ByteArray) 4),(Au.mk (⟨#[104,109,97,99,109,100,53]⟩:ByteArray) 5),(Au.mk (⟨#[104,109,97,99,115,104,97,49]⟩:ByteArray) 5),(Au.mk (⟨#[104,109,97,99,115,104,97,50,53,54]⟩:ByteArray) 5),(Au.mk (⟨#[97,101,97,100]⟩:ByteArray) 5)]:List Au)
def Ew.j1 (alg:Int) (x8_1:Bool):Option (Int):=
 cond (x8_1)
  (some 0)
  ((R1).bind fun y=>
  (B5 y alg).bind fun e=>
  some e.kind)
def Ew (alg:Int):Option (Int):=
 cond (decide (alg < 1))
  (Ew.j1 alg true)
  (Ew.j1 alg (decide (22 < alg)))
def Hh (u:Ar):Option (Bool):=
 (I9 u).bind fun y=>
 cond (y)
  ((Ew u.Alg).bind fun y_2=>
  some (decide (y_2=2)))
  (some false)
def A9.j5 (i_4:Int) (x123_5:Bool):Option (Lp (Int) (Int)):=
 cond (x123_5)
  (up (some 9))
  (some (.next (W (i_4 + 1))))
def A9.j6 (x145_6:Bool):Option (Int):=
 cond (x145_6)
  (some 9)
  (some 0)
def A9.l4 (c:Ae) (i_4:Int):Option (Lp (Int) (Int)):=
 cond (decide (i_4 < (c.Names.length:Int)))
  ((B5 c.Names i_4).bind fun e=>
  (Cn e).bind fun y_6=>
  cond (!y_6)
   (A9.j5 i_4 true)
   (cond (decide (0 < i_4))
    ((B5 c.Names (W (i_4 - 1))).bind fun e_2=>
    A9.j5 i_4 (!L4 (Iv e_2) (Iv e)))
    (A9.j5 i_4 false)))
  (up (
   cond (decide (c.Seal.Key < 0))
    (A9.j6 true)
    (cond (decide (2147483648 < c.Seal.Key))
     (A9.j6 true)
     (cond (decide (c.Seal.Sum < 0))
      (A9.j6 true)
      (A9.j6 (decide (4294967296<=c.Seal.Sum)))))))
def A9.j3 (c:Ae) (x91_3:Bool):Option (Int):=
 cond (x91_3)
  (some 9)
  (Cp (fun q'=>A9.l4 c q') 0)
def A9.j2 (c:Ae) (x67_2:Bool):Option (Int):=
 cond (x67_2)
  (some 9)
  (cond (decide (c.Path < 0))
   (A9.j3 c true)
   (cond (decide (8 < c.Path))
    (A9.j3 c true)
    (cond (!c.Authority)
     (cond (!decide (c.Path=0))
      (A9.j3 c true)
      (A9.j3 c (decide (8 < (c.Names.length:Int)))))
     (A9.j3 c (decide (8 < (c.Names.length:Int)))))))
def A9.j1 (c:Ae) (x39_1:Bool):Option (Int):=
 cond (x39_1)
  (some 9)
  ((I9 c.Hash).bind fun y_4=>
  cond (!y_4)
   (A9.j2 c true)
   ((Ew c.Hash.Alg).bind fun y_5=>
   cond (!decide (y_5=1))
    (A9.j2 c true)
    (cond (decide (c.From < 0))
     (A9.j2 c true)
     (cond (decide (c.To < c.From))
      (A9.j2 c true)
      (A9.j2 c (decide (40000 < c.To)))))))
def A9 (c:Ae):Option (Int):=
 cond (decide (c.Serial < 0))
  (A9.j1 c true)
  (cond (decide (1099511627776 < c.Serial))
   (A9.j1 c true)
   ((Cn c.Issuer).bind fun y=>
   cond (!y)
    (A9.j1 c true)
    ((Cn c.Subject).bind fun y_2=>
    cond (!y_2)
     (A9.j1 c true)
     ((Hh c.Key).bind fun y_3=>
     cond (!y_3)
      (A9.j1 c true)
      (cond (decide (c.KeyId < 0))
       (A9.j1 c true)
       (A9.j1 c (decide (2147483648 < c.KeyId))))))))
def Jt (s:ByteArray):Option (Ai):=
 some (Ai.mk 12 (Iv s) false ([]:(List Ai)))
def Cq.j2 (x_1:Int) (b_1:List UInt8) (x35_2:Bool):Option (Lp (Int×List UInt8) (Ai)):=
 cond (x35_2)
  ((Ib 1 ([(u8 x_1)]:List UInt8) b_1).bind fun l=>
  (Uo .i64 x_1 8).bind fun q_2=>
  some (.next (q_2,l)))
  (up (
   some (Ai.mk 2 b_1 false ([]:(List Ai)))))
def Cq.l1 (x_1:Int) (b_1:List UInt8):Option (Lp (Int×List UInt8) (Ai)):=
 cond (!decide (x_1=0))
  (cond (!decide (x_1=(-1)))
   (Cq.j2 x_1 b_1 true)
   (cond (decide (x_1=0))
    ((B5 b_1 0).bind fun e=>
    cond (decide (128<=(e.toNat:Int)))
     (Cq.j2 x_1 b_1 true)
     (cond (decide (x_1=(-1)))
      (Cq.j2 x_1 b_1 (decide ((e.toNat:Int) < 128)))
      (Cq.j2 x_1 b_1 false)))
    (cond (decide (x_1=(-1)))
     ((B5 b_1 0).bind fun e_2=>
     Cq.j2 x_1 b_1 (decide ((e_2.toNat:Int) < 128)))
     (Cq.j2 x_1 b_1 false))))
  (cond (decide (x_1=0))
   ((B5 b_1 0).bind fun e_3=>
   cond (decide (128<=(e_3.toNat:Int)))
    (Cq.j2 x_1 b_1 true)
    (cond (decide (x_1=(-1)))
     (Cq.j2 x_1 b_1 (decide ((e_3.toNat:Int) < 128)))
     (Cq.j2 x_1 b_1 false)))
   (cond (decide (x_1=(-1)))
    ((B5 b_1 0).bind fun e_4=>
    Cq.j2 x_1 b_1 (decide ((e_4.toNat:Int) < 128)))
    (Cq.j2 x_1 b_1 false)))
def Cq (n:Int):Option (Ai):=
 (Uo .i64 n 8).bind fun q=>
 Cp (fun q'=>Cq.l1 q'.1 q'.2) (q,([(u8 n)]:List UInt8))
def C0.l1 (rec:(List Ai)->Option ((List Ai))) (l:(List Ai)) (i_1:Int) (out_1:List Ai):Option (Lp (Int×List Ai) ((List Ai))):=
 cond (decide (i_1 < (l.length:Int)))
  ((B5 l i_1).bind fun e=>
  (Ib 1 ([]:List UInt8) e.Bytes).bind fun l_2=>
  (rec e.Elements).bind fun y=>
  (Ib 256 out_1 ([(Ai.mk e.Tag l_2 e.Nested y)]:List Ai)).bind fun l_3=>
  some (.next (W (i_1 + 1),l_3)))
  (up (
   some out_1))
def C0.F (rec:(List Ai)->Option ((List Ai))) (l:(List Ai)):Option ((List Ai)):=
 Cp (fun q'=>C0.l1 rec l q'.1 q'.2) (0,([]:List Ai))
def C0 (l:(List Ai)):Option ((List Ai)):=Ys (fun rec (x:(List Ai))=>C0.F (fun l=>rec l) x) l
def I3 (l:(List Ai)):Option (Ai):=
 (C0 l).bind fun y=>
 some (Ai.mk 48 ([]:(List UInt8)) true y)
def Ll (u:Ar):Option (Ai):=
 (Cq u.Alg).bind fun y=>
 (Cq u.Bits).bind fun y_2=>
 (I3 ([y,y_2]:List Ai)).bind fun y_3=>
 some y_3
def Nt (b:Bool):Option (Ai):=
 cond (b)
  (some (Ai.mk 1 ([(255:UInt8)]:List UInt8) false ([]:(List Ai))))
  (some (Ai.mk 1 ([(0:UInt8)]:List UInt8) false ([]:(List Ai))))
def E0.l1 (c:Ae) (i_1:Int) (names_1:List Ai):Option (Lp (Int×List Ai) (Ai)):=
 cond (decide (i_1 < (c.Names.length:Int)))
  ((B5 c.Names i_1).bind fun e=>
  (Jt e).bind fun y=>
  (Ib 256 names_1 ([y]:List Ai)).bind fun l=>
  some (.next (W (i_1 + 1),l)))
  (up (
   (Cq c.Serial).bind fun y_12=>
   (Jt c.Issuer).bind fun y_13=>
   (Jt c.Subject).bind fun y_14=>
   (Ll c.Key).bind fun y_15=>
   (Cq c.KeyId).bind fun y_16=>
   (Ll c.Hash).bind fun y_17=>
   (Cq c.From).bind fun y_18=>
   (Cq c.To).bind fun y_19=>
   (Nt c.Authority).bind fun y_20=>
   (Cq c.Path).bind fun y_21=>
   (I3 names_1).bind fun y_22=>
   (I3 ([y_12,y_13,y_14,y_15,y_16,y_17,y_18,y_19,y_20,y_21,y_22]:List Ai)).bind fun y_23=>
   some y_23))
def E0 (c:Ae):Option (Ai):=
 Cp (fun q'=>E0.l1 c q'.1 q'.2) (0,([]:List Ai))
def Nb (n:Int):Option (Bool):=
 cond (decide (1<=n))
  (cond (decide (n<=255))
   ((Wy n 32).bind fun q=>
   some (!decide (q=31)))
   (some false))
  (some false)
def Bz.l2 (rec:Ai->Option (Bool)) (v:Ai) (i_2:Int):Option (Lp (Int) (Bool)):=
 cond (decide (i_2 < (v.Elements.length:Int)))
  ((B5 v.Elements i_2).bind fun e=>
  (rec e).bind fun y_2=>
  cond (!y_2)
   (up (some false))
   (some (.next (W (i_2 + 1)))))
  (up (
   some true))
def Bz.j1 (rec:Ai->Option (Bool)) (v:Ai) (x38_1:Bool):Option (Bool):=
 cond (x38_1)
  (some false)
  (Cp (fun q'=>Bz.l2 rec v q') 0)
def Bz.F (rec:Ai->Option (Bool)) (v:Ai):Option (Bool):=
 (Nb v.Tag).bind fun y=>
 cond (!y)
  (Bz.j1 rec v true)
  ((M2 v.Tag 32).bind fun q=>
  (Wy q 2).bind fun q_2=>
  cond (!decide (v.Nested=(decide (q_2=1))))
   (Bz.j1 rec v true)
   (cond (v.Nested)
    (cond (decide (0 < (v.Bytes.length:Int)))
     (Bz.j1 rec v true)
     (Bz.j1 rec v false))
    (Bz.j1 rec v (decide (0 < (v.Elements.length:Int))))))
def Bz (v:Ai):Option (Bool):=Ys (fun rec (x:Ai)=>Bz.F (fun v=>rec v) x) v
def Db.l1 (rec:Ai->Option (Int)) (v:Ai) (d_1:Int) (i_1:Int):Option (Lp (Int×Int) (Int)):=
 cond (decide (i_1 < (v.Elements.length:Int)))
  ((B5 v.Elements i_1).bind fun e=>
  (rec e).bind fun y=>
  some (.next (max d_1 y,W (i_1 + 1))))
  (up (
   some (W (d_1 + 1))))
def Db.F (rec:Ai->Option (Int)) (v:Ai):Option (Int):=
 Cp (fun q'=>Db.l1 rec v q'.1 q'.2) (0,0)
def Db (v:Ai):Option (Int):=Ys (fun rec (x:Ai)=>Db.F (fun v=>rec v) x) v
def Eh.l1 (n_1:Int) (b_1:List UInt8):Option (Lp (Int×List UInt8) ((List UInt8))):=
 cond (decide (0 < n_1))
  ((Wy n_1 256).bind fun q=>
  (Ib 1 ([(u8 q)]:List UInt8) b_1).bind fun l=>
  (M2 n_1 256).bind fun q_2=>
  some (.next (q_2,l)))
  (up (
   (Ib 1 ([(u8 (W (128 + (b_1.length:Int))))]:List UInt8) b_1).bind fun l_2=>
   some l_2))
def Eh (n:Int):Option ((List UInt8)):=
 cond (decide (n < 128))
  (some ([(u8 n)]:List UInt8))
  (Cp (fun q'=>Eh.l1 q'.1 q'.2) (n,([]:List UInt8)))
def Dt.l1 (rec:Ai->Option ((List UInt8))) (v:Ai) (i_1:Int) (b_1:List UInt8):Option (Lp (Int×List UInt8) ((List UInt8))):=
 cond (decide (i_1 < (v.Elements.length:Int)))
  ((B5 v.Elements i_1).bind fun e=>
  (rec e).bind fun y=>
  (Ib 1 b_1 y).bind fun l_2=>
  some (.next (W (i_1 + 1),l_2)))
  (up (
   (Eh (b_1.length:Int)).bind fun y_2=>
   (Ib 1 ([(u8 v.Tag)]:List UInt8) y_2).bind fun l_3=>
   (Ib 1 l_3 b_1).bind fun l_4=>
   some l_4))
def Dt.F (rec:Ai->Option ((List UInt8))) (v:Ai):Option ((List UInt8)):=
 (Ib 1 ([]:List UInt8) v.Bytes).bind fun l=>
 Cp (fun q'=>Dt.l1 rec v q'.1 q'.2) (0,l)
def Dt (v:Ai):Option ((List UInt8)):=Ys (fun rec (x:Ai)=>Dt.F (fun v=>rec v) x) v
def Ko (v:Ai):Option ((List UInt8)×Int):=
 (Bz v).bind fun y=>
 cond (!y)
  (some (([]:(List UInt8)),1))
  ((Db v).bind fun y_2=>
  cond (decide (16 < y_2))
   (some (([]:(List UInt8)),3))
   ((Dt v).bind fun y_3=>
   cond (decide (4096 < (y_3.length:Int)))
    (some (([]:(List UInt8)),3))
    (some (y_3,0))))
def J9 (c:Ae):Option ((List UInt8)×Int):=
 (A9 c).bind fun y=>
 cond (!decide (y=0))
  (some (([]:(List UInt8)),9))
  ((E0 c).bind fun y_2=>
  (Ko y_2).bind fun y_3=>
  some (y_3.1,y_3.2))
def Fq.l1 (b:(List UInt8)) (h_1:Int) (i_1:Int):Option (Lp (Int×Int) (Int)):=
 cond (decide (i_1 < (b.length:Int)))
  ((B5 b i_1).bind fun e=>
  some (.next (IntKind.wrap .u32 ((Qy .u32 h_1 (IntKind.wrap .u32 (e.toNat:Int))) * 16777619),W (i_1 + 1))))
  (up (
   some (W h_1)))
def Fq (b:(List UInt8)):Option (Int):=
 Cp (fun q'=>Fq.l1 b q'.1 q'.2) (2166136261,0)
def Fb.j1 (key:Int) (y:Ae) (x22_1:Bool):Option (Ae×Int):=
 cond (x22_1)
  (some ((Ae.mk 0 (⟨#[]⟩:ByteArray) (⟨#[]⟩:ByteArray) (Ar.mk 0 0) 0 (Ar.mk 0 0) 0 0 false 0 ([]:(List ByteArray)) (Er.mk 0 0)),9))
  ((J9 (Ae.mk y.Serial y.Issuer y.Subject y.Key y.KeyId y.Hash y.From y.To y.Authority y.Path y.Names (Er.mk 0 0))).bind fun y_3=>
  (Fq y_3.1).bind fun y_4=>
  some ((Ae.mk y.Serial y.Issuer y.Subject y.Key y.KeyId y.Hash y.From y.To y.Authority y.Path y.Names (Er.mk key y_4)),0))
def Fb (c:Ae) (key:Int):Option (Ae×Int):=
 (Lr c).bind fun y=>
 (A9 (Ae.mk y.Serial y.Issuer y.Subject y.Key y.KeyId y.Hash y.From y.To y.Authority y.Path y.Names (Er.mk 0 0))).bind fun y_2=>
 cond (!decide (y_2=0))
  (Fb.j1 key y true)
  (cond (decide (key < 0))
   (Fb.j1 key y true)
   (Fb.j1 key y (decide (2147483648 < key))))
def Kn (name:ByteArray) (key:Ar) (id:Int) (anchor:Int) (to:Int):Option (Am):=
 (Fb (Ae.mk id (⟨#[114,111,111,116]⟩:ByteArray) name key id (Ar.mk 3 0) 0 to false 0 ([name]:List ByteArray) (Er.mk 0 0)) anchor).bind fun y=>
 some (Am.mk key id ([y.1]:List Ae))
def Ji (d:Ah) (l:(List ByteArray)):Option (ByteArray×Ah):=
 (B0 d (l.length:Int)).bind fun y=>
 (B5 l y.1).bind fun e=>
 some (e,y.2)
def G6.l1 (name:ByteArray) (y:Int×Ah) (y_2:Int×Ah) (day_1:Int) (i_1:Int) (d_1:Ah) (l_1:List Co):Option (Lp (Int×Int×Ah×List Co) (Cf×Ah)):=
 cond (decide (0 < i_1))
  ((B0 d_1 6).bind fun y_5=>
  (B5 ([(Ar.mk 2 0),(Ar.mk 1 0),(Ar.mk 5 2048),(Ar.mk 16 128),(Ar.mk 3 0),(Ar.mk 15 168)]:List Ar) y_5.1).bind fun e=>
  (Ib 72 l_1 ([(Co.mk e day_1)]:List Co)).bind fun l=>
  (Im y_5.2 ([5,30,0,100]:List Int)).bind fun y_6=>
  some (.next (W ((W (day_1 + 1)) + y_6.1),W (i_1 - 1),y_6.2,l)))
  (up (
   (B5 l_1 0).bind fun e_2=>
   (Im d_1 ([50,300,0,3000]:List Int)).bind fun y_7=>
   some ((Cf.mk name (W (1 + y.1)) (W (1 + y_2.1)) l_1 (W (e_2.Day + y_7.1))),y_7.2)))
def G6 (d:Ah) (name:ByteArray):Option (Cf×Ah):=
 (B0 d 2).bind fun y=>
 (B0 y.2 4).bind fun y_2=>
 (B0 y_2.2 20).bind fun y_3=>
 (B0 y_3.2 3).bind fun y_4=>
 Cp (fun q'=>G6.l1 name y y_2 q'.1 q'.2.1 q'.2.2.1 q'.2.2.2) (y_3.1,W (1 + y_4.1),y_4.2,([]:List Co))
def Bh.j2 (x18_1:Int) (l_1:List Af) (e:ByteArray) (y_2:Int×Ah) (y_4:Bool×Ah) (y_5:Bool×Ah) (x_2:List Int):Option (Lp (Int×Ah×List Af) (Bb×Ah)):=
 (Ol).bind fun y_6=>
 (Kn e y_6 (W (100 + x18_1)) 1 901).bind fun y_7=>
 (Ib 1296 l_1 ([(Af.mk e 1 y_2.1 x_2 y_4.1 ([y_7]:List Am) ([1]:List Int) ([2,3]:List Int) y_5.1)]:List Af)).bind fun l_3=>
 some (.next (W (x18_1 + 1),y_5.2,l_3))
def Bh.j9 (x71_7:Int) (d_9:Ah) (l_9:List Bq):Option (Lp (Int×Ah×List Bq) (Lp (Int×Ah×List Bq) (Bb×Ah))):=
 some (.next (W (x71_7 + 1),d_9,l_9))
def Bh.j8 (x66_6:Int) (x71_7:Int) (l_7:List Bq) (x87_8:Bool) (d_8:Ah):Option (Lp (Int×Ah×List Bq) (Lp (Int×Ah×List Bq) (Bb×Ah))):=
 cond (x87_8)
  ((Ib 32 l_7 ([(Bq.mk x66_6 x71_7)]:List Bq)).bind fun l_4=>
  Bh.j9 x71_7 d_8 l_4)
  (Bh.j9 x71_7 d_8 l_7)
def Bh.l7 (y:Int×Ah) (x66_6:Int) (x71_7:Int) (d_7:Ah) (l_7:List Bq):Option (Lp (Int×Ah×List Bq) (Lp (Int×Ah×List Bq) (Bb×Ah))):=
 cond (decide (x71_7 < ((((W (2 + y.1):Int).toNat - (0:Int).toNat):Nat):Int)))
  (cond (!decide (x66_6=x71_7))
   ((B0 d_7 3).bind fun y_8=>
   cond (decide (0 < y_8.1))
    (Bh.j8 x66_6 x71_7 l_7 (decide ((l_7.length:Int) < 3)) y_8.2)
    (Bh.j8 x66_6 x71_7 l_7 false y_8.2))
   (Bh.j8 x66_6 x71_7 l_7 false d_7))
  (up (
   some (.next (W (x66_6 + 1),d_7,l_7))))
def Bh.l11 (l_1:List Af) (l_10:List Bq) (i_11:Int) (d_11:Ah) (l_11:List Cf):Option (Lp (Int×Ah×List Cf) (Bb×Ah)):=
 cond (decide (0 < i_11))
  ((Ji d_11 ([(⟨#[98,97,99,107,117,112]⟩:ByteArray),(⟨#[100,101,101,100]⟩:ByteArray)]:List ByteArray)).bind fun y_10=>
  (G6 y_10.2 y_10.1).bind fun y_11=>
  (Ib 320 l_11 ([y_11.1]:List Cf)).bind fun l_5=>
  some (.next (W (i_11 - 1),y_11.2,l_5)))
  (up (
   some ((Bb.mk l_1 l_10 l_11),d_11)))
def Bh.j10 (l_1:List Af) (d_6:Ah) (l_10:List Bq):Option (Bb×Ah):=
 (B0 d_6 3).bind fun y_9=>
 Cp (fun q'=>Bh.l11 l_1 l_10 q'.1 q'.2.1 q'.2.2) (y_9.1,y_9.2,([]:List Cf))
def Bh.l6 (y:Int×Ah) (l_1:List Af) (x66_6:Int) (d_6:Ah) (l_6:List Bq):Option (Lp (Int×Ah×List Bq) (Bb×Ah)):=
 cond (decide (x66_6 < ((((W (2 + y.1):Int).toNat - (0:Int).toNat):Nat):Int)))
  (Cp (fun q'=>Bh.l7 y x66_6 q'.1 q'.2.1 q'.2.2) (0,d_6,l_6))
  (up (
   cond (decide ((l_6.length:Int)=0))
    (Bh.j10 l_1 d_6 ([(Bq.mk 0 1)]:List Bq))
    (Bh.j10 l_1 d_6 l_6)))
def Bh.l1 (y:Int×Ah) (x18_1:Int) (d_1:Ah) (l_1:List Af):Option (Lp (Int×Ah×List Af) (Bb×Ah)):=
 cond (decide (x18_1 < ((((W (2 + y.1):Int).toNat - (0:Int).toNat):Nat):Int)))
  ((B5 ((([(⟨#[97,112,112]⟩:ByteArray),(⟨#[100,98]⟩:ByteArray),(⟨#[119,101,98]⟩:ByteArray)]:List ByteArray).drop ((0:Int).toNat)).take ((W (2 + y.1):Int).toNat - (0:Int).toNat)) x18_1).bind fun e=>
  (Im d_1 ([3,3,4]:List Int)).bind fun y_2=>
  (B0 y_2.2 3).bind fun y_3=>
  (B5 ([([10,8,2]:List Int),([8,2]:List Int),([2,10,8,3]:List Int)]:List (List Int)) y_3.1).bind fun e_2=>
  (Gr y_3.2 2).bind fun y_4=>
  (Gr y_4.2 3).bind fun y_5=>
  cond (decide (y_2.1=4))
   ((Ib 8 ([14]:List Int) e_2).bind fun l_2=>
   Bh.j2 x18_1 l_1 e y_2 y_4 y_5 l_2)
   (Bh.j2 x18_1 l_1 e y_2 y_4 y_5 e_2))
  (up (
   Cp (fun q'=>Bh.l6 y l_1 q'.1 q'.2.1 q'.2.2) (0,d_1,([]:List Bq))))
def Bh (d:Ah):Option (Bb×Ah):=
 (B0 d 2).bind fun y=>
 (U0 ([(⟨#[97,112,112]⟩:ByteArray),(⟨#[100,98]⟩:ByteArray),(⟨#[119,101,98]⟩:ByteArray)]:List ByteArray) 0 (W (2 + y.1))).bind fun l=>
 Cp (fun q'=>Bh.l1 y q'.1 q'.2.1 q'.2.2) (0,y.2,([]:List Af))
def Wo:Option (Ar):=
 some (Ar.mk 7 256)
def Bo.j7 (b_7:Ah) (c_7:A7):Option (A7×Ah):=
 some (c_7,b_7)
def Bo.j1 (y:Int×Ah) (e_2:Af) (y_2:Int×Ah) (y_5:Int×Ah) (x52_1:Bool) (d_1:Ah):Option (A7×Ah):=
 cond (x52_1)
  ((B0 d_1 (e_2.Suites.length:Int)).bind fun y_7=>
  (B5 e_2.Suites y_7.1).bind fun e_3=>
  Bo.j7 y_7.2 (A7.mk y.1 (W (1 + y_2.1)) e_3 0 (Am.mk (Ar.mk 0 0) 0 ([]:(List Ae)))))
  (Bo.j7 d_1 (A7.mk y.1 (W (1 + y_2.1)) (W (1 + y_5.1)) 0 (Am.mk (Ar.mk 0 0) 0 ([]:(List Ae)))))
def Bo.j3 (y:Int×Ah) (e_2:Af) (y_2:Int×Ah) (y_16:Int×Ah) (x110_3:Bool) (d_3:Ah):Option (A7×Ah):=
 cond (x110_3)
  ((B0 d_3 (e_2.Identities.length:Int)).bind fun y_18=>
  (B5 e_2.Identities y_18.1).bind fun e_5=>
  Bo.j7 y_18.2 (A7.mk y.1 (W (1 + y_2.1)) e_5.KeyId 0 (Am.mk (Ar.mk 0 0) 0 ([]:(List Ae)))))
  (Bo.j7 d_3 (A7.mk y.1 (W (1 + y_2.1)) (W (100 + y_16.1)) 0 (Am.mk (Ar.mk 0 0) 0 ([]:(List Ae)))))
def Bo.j6 (y:Int×Ah) (y_2:Int×Ah) (x136_6:Bool):Option (A7×Ah):=
 cond (x136_6)
  ((B0 y_2.2 2).bind fun y_21=>
  Bo.j7 y_21.2 (A7.mk y.1 (W (1 + y_2.1)) y_21.1 0 (Am.mk (Ar.mk 0 0) 0 ([]:(List Ae)))))
  (Bo.j7 y_2.2 (A7.mk y.1 (W (1 + y_2.1)) 0 0 (Am.mk (Ar.mk 0 0) 0 ([]:(List Ae)))))
def Bo.j5 (y:Int×Ah) (y_2:Int×Ah) (x129_5:Bool):Option (A7×Ah):=
 cond (x129_5)
  ((B0 y_2.2 4).bind fun y_20=>
  Bo.j7 y_20.2 (A7.mk y.1 (W (1 + y_2.1)) (W (1 + y_20.1)) 0 (Am.mk (Ar.mk 0 0) 0 ([]:(List Ae)))))
  (cond (decide ((W (1 + y_2.1))=11))
   (Bo.j6 y y_2 (decide ((W (1 + y_2.1))=11)))
   (Bo.j6 y y_2 (decide ((W (1 + y_2.1))=12))))
def Bo.j4 (y:Int×Ah) (y_2:Int×Ah) (x122_4:Bool):Option (A7×Ah):=
 cond (x122_4)
  ((B0 y_2.2 3).bind fun y_19=>
  Bo.j7 y_19.2 (A7.mk y.1 (W (1 + y_2.1)) (W (1 + y_19.1)) 0 (Am.mk (Ar.mk 0 0) 0 ([]:(List Ae)))))
  (cond (decide ((W (1 + y_2.1))=9))
   (Bo.j5 y y_2 (decide ((W (1 + y_2.1))=9)))
   (Bo.j5 y y_2 (decide ((W (1 + y_2.1))=10))))
def Bo.j2 (y:Int×Ah) (e_2:Af) (y_2:Int×Ah) (x63_2:Bool):Option (A7×Ah):=
 cond (x63_2)
  ((B0 y_2.2 4).bind fun y_8=>
  Bo.j7 y_8.2 (A7.mk y.1 (W (1 + y_2.1)) (W (1 + y_8.1)) 0 (Am.mk (Ar.mk 0 0) 0 ([]:(List Ae)))))
  (cond (decide ((W (1 + y_2.1))=5))
   ((B0 y_2.2 (W ((e_2.Identities.length:Int) + 1))).bind fun y_9=>
   (Wo).bind fun y_10=>
   (Ol).bind fun y_11=>
   (B0 y_9.2 2).bind fun y_12=>
   (B5 ([y_10,y_11]:List Ar) y_12.1).bind fun e_4=>
   (B0 y_12.2 3).bind fun y_13=>
   (B0 y_13.2 2).bind fun y_14=>
   (Kn e_2.Name e_4 (W (200 + y_13.1)) (W (1 + y_14.1)) 901).bind fun y_15=>
   Bo.j7 y_14.2 (A7.mk y.1 (W (1 + y_2.1)) 0 y_9.1 y_15))
   (cond (decide ((W (1 + y_2.1))=6))
    ((B0 y_2.2 4).bind fun y_16=>
    cond (decide (0 < (e_2.Identities.length:Int)))
     ((Gr y_16.2 4).bind fun y_17=>
     Bo.j3 y e_2 y_2 y_16 (!y_17.1) y_17.2)
     (Bo.j3 y e_2 y_2 y_16 false y_16.2))
    (cond (decide ((W (1 + y_2.1))=7))
     (Bo.j4 y y_2 (decide ((W (1 + y_2.1))=7)))
     (Bo.j4 y y_2 (decide ((W (1 + y_2.1))=8))))))
def Bo (d:Ah) (e:Bb):Option (A7×Ah):=
 (B0 d (e.Endpoints.length:Int)).bind fun y=>
 (B5 e.Endpoints y.1).bind fun e_2=>
 (B0 y.2 12).bind fun y_2=>
 cond (decide ((W (1 + y_2.1))=1))
  ((B0 y_2.2 16).bind fun y_3=>
  (B0 y_3.2 (W ((e_2.Suites.length:Int) + 1))).bind fun y_4=>
  Bo.j7 y_4.2 (A7.mk y.1 (W (1 + y_2.1)) (W (1 + y_3.1)) y_4.1 (Am.mk (Ar.mk 0 0) 0 ([]:(List Ae)))))
  (cond (decide ((W (1 + y_2.1))=2))
   ((B0 y_2.2 16).bind fun y_5=>
   cond (decide (0 < (e_2.Suites.length:Int)))
    ((Gr y_5.2 4).bind fun y_6=>
    Bo.j1 y e_2 y_2 y_5 (!y_6.1) y_6.2)
    (Bo.j1 y e_2 y_2 y_5 false y_5.2))
   (cond (decide ((W (1 + y_2.1))=3))
    (Bo.j2 y e_2 y_2 (decide ((W (1 + y_2.1))=3)))
    (Bo.j2 y e_2 y_2 (decide ((W (1 + y_2.1))=4)))))
def Bn.j3 (i_2:Int) (x55_3:Bool):Option (Lp (Int) (Bool)):=
 cond (x55_3)
  (up (some false))
  (some (.next (W (i_2 + 1))))
def Bn.l2 (s:ByteArray) (i_2:Int):Option (Lp (Int) (Bool)):=
 cond (decide (i_2 < (s.size:Int)))
  ((fY s i_2).bind fun c=>
  cond (decide ((c.toNat:Int) < 97))
   (cond (decide ((c.toNat:Int) < 65))
    (cond (decide ((c.toNat:Int) < 48))
     (cond (!decide ((c.toNat:Int)=45))
      (cond (!decide ((c.toNat:Int)=95))
       (Bn.j3 i_2 (!decide ((c.toNat:Int)=46)))
       (Bn.j3 i_2 false))
      (Bn.j3 i_2 false))
     (cond (decide (57 < (c.toNat:Int)))
      (cond (!decide ((c.toNat:Int)=45))
       (cond (!decide ((c.toNat:Int)=95))
        (Bn.j3 i_2 (!decide ((c.toNat:Int)=46)))
        (Bn.j3 i_2 false))
       (Bn.j3 i_2 false))
      (Bn.j3 i_2 false)))
    (cond (decide (90 < (c.toNat:Int)))
     (cond (decide ((c.toNat:Int) < 48))
      (cond (!decide ((c.toNat:Int)=45))
       (cond (!decide ((c.toNat:Int)=95))
        (Bn.j3 i_2 (!decide ((c.toNat:Int)=46)))
        (Bn.j3 i_2 false))
       (Bn.j3 i_2 false))
      (cond (decide (57 < (c.toNat:Int)))
       (cond (!decide ((c.toNat:Int)=45))
        (cond (!decide ((c.toNat:Int)=95))
         (Bn.j3 i_2 (!decide ((c.toNat:Int)=46)))
         (Bn.j3 i_2 false))
        (Bn.j3 i_2 false))
       (Bn.j3 i_2 false)))
     (Bn.j3 i_2 false)))
   (cond (decide (122 < (c.toNat:Int)))
    (cond (decide ((c.toNat:Int) < 65))
     (cond (decide ((c.toNat:Int) < 48))
      (cond (!decide ((c.toNat:Int)=45))
       (cond (!decide ((c.toNat:Int)=95))
        (Bn.j3 i_2 (!decide ((c.toNat:Int)=46)))
        (Bn.j3 i_2 false))
       (Bn.j3 i_2 false))
      (cond (decide (57 < (c.toNat:Int)))
       (cond (!decide ((c.toNat:Int)=45))
        (cond (!decide ((c.toNat:Int)=95))
         (Bn.j3 i_2 (!decide ((c.toNat:Int)=46)))
         (Bn.j3 i_2 false))
        (Bn.j3 i_2 false))
       (Bn.j3 i_2 false)))
     (cond (decide (90 < (c.toNat:Int)))
      (cond (decide ((c.toNat:Int) < 48))
       (cond (!decide ((c.toNat:Int)=45))
        (cond (!decide ((c.toNat:Int)=95))
         (Bn.j3 i_2 (!decide ((c.toNat:Int)=46)))
         (Bn.j3 i_2 false))
        (Bn.j3 i_2 false))
       (cond (decide (57 < (c.toNat:Int)))
        (cond (!decide ((c.toNat:Int)=45))
         (cond (!decide ((c.toNat:Int)=95))
          (Bn.j3 i_2 (!decide ((c.toNat:Int)=46)))
          (Bn.j3 i_2 false))
         (Bn.j3 i_2 false))
        (Bn.j3 i_2 false)))
      (Bn.j3 i_2 false)))
    (Bn.j3 i_2 false)))
  (up (
   some true))
def Bn.j1 (s:ByteArray) (x12_1:Bool):Option (Bool):=
 cond (x12_1)
  (some false)
  (Cp (fun q'=>Bn.l2 s q') 0)
def Bn (s:ByteArray):Option (Bool):=
 cond (decide ((s.size:Int) < 1))
  (Bn.j1 s true)
  (Bn.j1 s (decide (32 < (s.size:Int))))
def Ds (alg:Int) (bits:Int):Option (Ar):=
 some (Ar.mk alg bits)
def Dy (code:Int) (name:ByteArray) (exchange:Ar) (sign:Ar) (cipher:Ar) (mac:Ar) (least:Int) (most:Int):Option (A4):=
 some (A4.mk code name exchange sign cipher mac least most)
def Kq:Option ((List A4)):=
 (Ds 10 0).bind fun y=>
 (Ds 5 0).bind fun y_2=>
 (Ds 14 128).bind fun y_3=>
 (Ds 15 168).bind fun y_4=>
 (Ds 16 128).bind fun y_5=>
 (Ds 17 128).bind fun y_6=>
 (Ds 17 256).bind fun y_7=>
 (Ds 19 0).bind fun y_8=>
 (Ds 20 0).bind fun y_9=>
 (Ds 21 0).bind fun y_10=>
 (Ds 22 0).bind fun y_11=>
 (Ds 12 256).bind fun y_12=>
 (Ds 18 0).bind fun y_13=>
 (Dy 1 (⟨#[114,115,97,45,114,99,52,45,109,100,53]⟩:ByteArray) y y_2 y_3 y_8 1 2).bind fun y_14=>
 (Dy 2 (⟨#[114,115,97,45,114,99,52,45,115,104,97]⟩:ByteArray) y y_2 y_3 y_9 1 3).bind fun y_15=>
 (Dy 3 (⟨#[114,115,97,45,100,101,115,51,45,115,104,97]⟩:ByteArray) y y_2 y_4 y_9 1 3).bind fun y_16=>
 (Ds 11 1024).bind fun y_17=>
 (Ds 6 0).bind fun y_18=>
 (Dy 4 (⟨#[100,104,101,45,100,115,97,45,100,101,115,51,45,115,104,97]⟩:ByteArray) y_17 y_18 y_4 y_9 1 3).bind fun y_19=>
 (Ds 11 1024).bind fun y_20=>
 (Dy 5 (⟨#[100,104,101,45,114,115,97,45,100,101,115,51,45,115,104,97]⟩:ByteArray) y_20 y_2 y_4 y_9 1 3).bind fun y_21=>
 (Dy 6 (⟨#[114,115,97,45,97,101,115,49,50,56,45,115,104,97]⟩:ByteArray) y y_2 y_5 y_9 1 3).bind fun y_22=>
 (Ds 11 2048).bind fun y_23=>
 (Dy 7 (⟨#[100,104,101,45,114,115,97,45,97,101,115,49,50,56,45,115,104,97]⟩:ByteArray) y_23 y_2 y_5 y_9 1 3).bind fun y_24=>
 (Dy 8 (⟨#[101,99,100,104,101,45,114,115,97,45,97,101,115,49,50,56,45,115,104,97]⟩:ByteArray) y_12 y_2 y_5 y_9 1 3).bind fun y_25=>
 (Ds 7 0).bind fun y_26=>
 (Ds 16 256).bind fun y_27=>
 (Dy 9 (⟨#[101,99,100,104,101,45,101,99,100,115,97,45,97,101,115,50,53,54,45,115,104,97,50,53,54]⟩:ByteArray) y_12 y_26 y_27 y_10 3 3).bind fun y_28=>
 (Dy 10 (⟨#[101,99,100,104,101,45,114,115,97,45,97,101,115,49,50,56,45,103,99,109]⟩:ByteArray) y_12 y_2 y_6 y_11 3 3).bind fun y_29=>
 (Ds 12 384).bind fun y_30=>
 (Ds 7 0).bind fun y_31=>
 (Dy 11 (⟨#[101,99,100,104,101,45,101,99,100,115,97,45,97,101,115,50,53,54,45,103,99,109]⟩:ByteArray) y_30 y_31 y_7 y_11 3 3).bind fun y_32=>
 (Dy 12 (⟨#[101,99,100,104,101,45,114,115,97,45,99,104,97,99,104,97]⟩:ByteArray) y_12 y_2 y_13 y_11 3 3).bind fun y_33=>
 (Dy 13 (⟨#[114,115,97,45,97,101,115,50,53,54,45,103,99,109]⟩:ByteArray) y y_2 y_7 y_11 3 3).bind fun y_34=>
 (Dy 14 (⟨#[97,101,115,49,50,56,45,103,99,109]⟩:ByteArray) y_12 (Ar.mk 0 0) y_6 y_11 4 4).bind fun y_35=>
 (Dy 15 (⟨#[99,104,97,99,104,97]⟩:ByteArray) y_12 (Ar.mk 0 0) y_13 y_11 4 4).bind fun y_36=>
 (Ds 13 768).bind fun y_37=>
 (Dy 16 (⟨#[109,108,107,101,109,45,97,101,115,50,53,54,45,103,99,109]⟩:ByteArray) y_37 (Ar.mk 0 0) y_7 y_11 4 4).bind fun y_38=>
 some ([y_14,y_15,y_16,y_19,y_21,y_22,y_24,y_25,y_28,y_29,y_32,y_33,y_34,y_35,y_36,y_38]:List A4)
def Fs.j1 (code:Int) (x9_1:Bool):Option (A4×Int):=
 cond (x9_1)
  (some ((A4.mk 0 (⟨#[]⟩:ByteArray) (Ar.mk 0 0) (Ar.mk 0 0) (Ar.mk 0 0) (Ar.mk 0 0) 0 0),8))
  ((Kq).bind fun y=>
  (B5 y (W (code - 1))).bind fun e=>
  some (e,0))
def Fs (code:Int):Option (A4×Int):=
 cond (decide (code < 1))
  (Fs.j1 code true)
  (Fs.j1 code (decide (16 < code)))
def F1.l1 (l:(List Int)) (n:Int) (i_1:Int):Option (Lp (Int) (Bool)):=
 cond (decide (i_1 < (l.length:Int)))
  ((B5 l i_1).bind fun e=>
  cond (decide (e=n))
   (up (some true))
   (some (.next (W (i_1 + 1)))))
  (up (
   some false))
def F1 (l:(List Int)) (n:Int):Option (Bool):=
 Cp (fun q'=>F1.l1 l n q') 0
def Dd.l2 (key:Ar) (id:Int) (chain:(List Ae)) (i_2:Int):Option (Lp (Int) (Bool)):=
 cond (decide (i_2 < (chain.length:Int)))
  ((B5 chain i_2).bind fun e=>
  (A9 e).bind fun y_2=>
  cond (!decide (y_2=0))
   (up (some false))
   (some (.next (W (i_2 + 1)))))
  (up (
   cond (decide ((chain.length:Int)=0))
    (some true)
    ((B5 chain 0).bind fun e_2=>
    cond (decide (e_2.Key=key))
     (some (decide (e_2.KeyId=id)))
     (some false))))
def Dd.j1 (key:Ar) (id:Int) (chain:(List Ae)) (x23_1:Bool):Option (Bool):=
 cond (x23_1)
  (some false)
  (Cp (fun q'=>Dd.l2 key id chain q') 0)
def Dd (key:Ar) (id:Int) (chain:(List Ae)):Option (Bool):=
 (Hh key).bind fun y=>
 cond (!y)
  (Dd.j1 key id chain true)
  (cond (decide (id < 0))
   (Dd.j1 key id chain true)
   (cond (decide (2147483648 < id))
    (Dd.j1 key id chain true)
    (Dd.j1 key id chain (decide (8 < (chain.length:Int))))))
def A5.j3 (i_2:Int) (x77_3:Bool):Option (Lp (Int) (Int)):=
 cond (x77_3)
  (up (some 19))
  (some (.next (W (i_2 + 1))))
def A5.j6 (i_5:Int) (x143_6:Bool):Option (Lp (Int) (Int)):=
 cond (x143_6)
  (up (some 19))
  (some (.next (W (i_5 + 1))))
def A5.j8 (i_7:Int) (x175_8:Bool):Option (Lp (Int) (Int)):=
 cond (x175_8)
  (up (some 19))
  (some (.next (W (i_7 + 1))))
def A5.l7 (e:Af) (i_7:Int):Option (Lp (Int) (Int)):=
 cond (decide (i_7 < (e.Hashes.length:Int)))
  ((B5 e.Hashes i_7).bind fun e_6=>
  (Ew e_6).bind fun y_5=>
  cond (!decide (y_5=1))
   (A5.j8 i_7 true)
   (cond (decide (0 < i_7))
    ((B5 e.Hashes (W (i_7 - 1))).bind fun e_7=>
    A5.j8 i_7 (decide (e_6<=e_7)))
    (A5.j8 i_7 false)))
  (up (
   some 0))
def A5.l5 (e:Af) (i_5:Int):Option (Lp (Int) (Int)):=
 cond (decide (i_5 < (e.Anchors.length:Int)))
  ((B5 e.Anchors i_5).bind fun e_4=>
  cond (decide (e_4 < 0))
   (A5.j6 i_5 true)
   (cond (decide (2147483648 < e_4))
    (A5.j6 i_5 true)
    (cond (decide (0 < i_5))
     ((B5 e.Anchors (W (i_5 - 1))).bind fun e_5=>
     A5.j6 i_5 (decide (e_4<=e_5)))
     (A5.j6 i_5 false))))
  (up (
   Cp (fun q'=>A5.l7 e q') 0))
def A5.l4 (e:Af) (i_4:Int):Option (Lp (Int) (Int)):=
 cond (decide (i_4 < (e.Identities.length:Int)))
  ((B5 e.Identities i_4).bind fun e_3=>
  (Dd e_3.Key e_3.KeyId e_3.Chain).bind fun y_4=>
  cond (!y_4)
   (up (some 19))
   (some (.next (W (i_4 + 1)))))
  (up (
   Cp (fun q'=>A5.l5 e q') 0))
def A5.l2 (e:Af) (i_2:Int):Option (Lp (Int) (Int)):=
 cond (decide (i_2 < (e.Suites.length:Int)))
  ((B5 e.Suites i_2).bind fun e_2=>
  (Fs e_2).bind fun y_2=>
  cond (!decide (y_2.2=0))
   (A5.j3 i_2 true)
   ((U0 e.Suites 0 i_2).bind fun l=>
   (F1 l e_2).bind fun y_3=>
   A5.j3 i_2 y_3))
  (up (
   Cp (fun q'=>A5.l4 e q') 0))
def A5.j1 (e:Af) (x47_1:Bool):Option (Int):=
 cond (x47_1)
  (some 19)
  (Cp (fun q'=>A5.l2 e q') 0)
def A5 (e:Af):Option (Int):=
 (Bn e.Name).bind fun y=>
 cond (!y)
  (A5.j1 e true)
  (cond (decide (e.Least < 1))
   (A5.j1 e true)
   (cond (decide (e.Most < e.Least))
    (A5.j1 e true)
    (cond (decide (4 < e.Most))
     (A5.j1 e true)
     (cond (decide (16 < (e.Suites.length:Int)))
      (A5.j1 e true)
      (cond (decide (4 < (e.Identities.length:Int)))
       (A5.j1 e true)
       (A5.j1 e (decide (16 < (e.Anchors.length:Int)))))))))
def Bt.j3 (i_2:Int) (x107_3:Bool):Option (Lp (Int) (Int)):=
 cond (x107_3)
  (up (some 30))
  (some (.next (W (i_2 + 1))))
def Bt.l2 (x':Cf) (i_2:Int):Option (Lp (Int) (Int)):=
 cond (decide (i_2 < (x'.Links.length:Int)))
  ((B5 x'.Links i_2).bind fun e_3=>
  (I9 e_3.Use).bind fun y_2=>
  cond (!y_2)
   (Bt.j3 i_2 true)
   (cond (decide (e_3.Day < 0))
    (Bt.j3 i_2 true)
    (cond (decide (40000 < e_3.Day))
     (Bt.j3 i_2 true)
     (cond (decide (0 < i_2))
      ((B5 x'.Links (W (i_2 - 1))).bind fun e_4=>
      Bt.j3 i_2 (decide (e_3.Day<=e_4.Day)))
      (Bt.j3 i_2 false)))))
  (up (
   some 0))
def Bt.j1 (x':Cf) (x54_1:Bool):Option (Int):=
 cond (x54_1)
  (some 30)
  (Cp (fun q'=>Bt.l2 x' q') 0)
def Bt (x':Cf):Option (Int):=
 (Cn x'.Name).bind fun y=>
 cond (!y)
  (Bt.j1 x' true)
  (cond (!decide (x'.Kind=1))
   (cond (!decide (x'.Kind=2))
    (Bt.j1 x' true)
    (cond (decide (x'.Purpose < 1))
     (Bt.j1 x' true)
     (cond (decide (4 < x'.Purpose))
      (Bt.j1 x' true)
      (cond (decide ((x'.Links.length:Int) < 1))
       (Bt.j1 x' true)
       (cond (decide (8 < (x'.Links.length:Int)))
        (Bt.j1 x' true)
        (cond (decide (40000 < x'.Until))
         (Bt.j1 x' true)
         ((B5 x'.Links 0).bind fun e=>
         Bt.j1 x' (decide (x'.Until < e.Day)))))))))
   (cond (decide (x'.Purpose < 1))
    (Bt.j1 x' true)
    (cond (decide (4 < x'.Purpose))
     (Bt.j1 x' true)
     (cond (decide ((x'.Links.length:Int) < 1))
      (Bt.j1 x' true)
      (cond (decide (8 < (x'.Links.length:Int)))
       (Bt.j1 x' true)
       (cond (decide (40000 < x'.Until))
        (Bt.j1 x' true)
        ((B5 x'.Links 0).bind fun e_2=>
        Bt.j1 x' (decide (x'.Until < e_2.Day)))))))))
def Bd.j3 (i_2:Int) (x56_3:Bool):Option (Lp (Int) (Int)):=
 cond (x56_3)
  (up (some 31))
  (some (.next (W (i_2 + 1))))
def Bd.j6 (i_4:Int) (x137_6:Bool):Option (Lp (Int) (Int)):=
 cond (x137_6)
  (up (some 31))
  (some (.next (W (i_4 + 1))))
def Bd.j5 (e:Bb) (i_4:Int) (e_4:Bq) (x99_5:Bool):Option (Lp (Int) (Int)):=
 cond (x99_5)
  (up (some 31))
  (cond (decide (0 < i_4))
   ((B5 e.Edges (W (i_4 - 1))).bind fun e_5=>
   cond (decide (e_4.Client < e_5.Client))
    (Bd.j6 i_4 true)
    (cond (decide (e_5.Client=e_4.Client))
     (Bd.j6 i_4 (decide (e_4.Server<=e_5.Server)))
     (Bd.j6 i_4 false)))
   (Bd.j6 i_4 false))
def Bd.l7 (e:Bb) (i_7:Int):Option (Lp (Int) (Int)):=
 cond (decide (i_7 < (e.Items.length:Int)))
  ((B5 e.Items i_7).bind fun e_6=>
  (Bt e_6).bind fun y_2=>
  cond (!decide (y_2=0))
   (up (some 31))
   (some (.next (W (i_7 + 1)))))
  (up (
   some 0))
def Bd.l4 (e:Bb) (i_4:Int):Option (Lp (Int) (Int)):=
 cond (decide (i_4 < (e.Edges.length:Int)))
  ((B5 e.Edges i_4).bind fun e_4=>
  cond (decide (e_4.Client < 0))
   (Bd.j5 e i_4 e_4 true)
   (cond (decide ((e.Endpoints.length:Int)<=e_4.Client))
    (Bd.j5 e i_4 e_4 true)
    (cond (decide (e_4.Server < 0))
     (Bd.j5 e i_4 e_4 true)
     (cond (decide ((e.Endpoints.length:Int)<=e_4.Server))
      (Bd.j5 e i_4 e_4 true)
      (Bd.j5 e i_4 e_4 (decide (e_4.Client=e_4.Server)))))))
  (up (
   Cp (fun q'=>Bd.l7 e q') 0))
def Bd.l2 (e:Bb) (i_2:Int):Option (Lp (Int) (Int)):=
 cond (decide (i_2 < (e.Endpoints.length:Int)))
  ((B5 e.Endpoints i_2).bind fun e_2=>
  (A5 e_2).bind fun y=>
  cond (!decide (y=0))
   (Bd.j3 i_2 true)
   (cond (decide (0 < i_2))
    ((B5 e.Endpoints (W (i_2 - 1))).bind fun e_3=>
    Bd.j3 i_2 (!L4 (Iv e_3.Name) (Iv e_2.Name)))
    (Bd.j3 i_2 false)))
  (up (
   Cp (fun q'=>Bd.l4 e q') 0))
def Bd.j1 (e:Bb) (x22_1:Bool):Option (Int):=
 cond (x22_1)
  (some 31)
  (Cp (fun q'=>Bd.l2 e q') 0)
def Bd (e:Bb):Option (Int):=
 cond (decide (16 < (e.Endpoints.length:Int)))
  (Bd.j1 e true)
  (cond (decide (40 < (e.Edges.length:Int)))
   (Bd.j1 e true)
   (Bd.j1 e (decide (30 < (e.Items.length:Int)))))
def Bw.l2 (a:Ae) (b:Ae) (x93_2:Int):Option (Lp (Int) (Bool)):=
 cond (decide (x93_2 < (a.Names.length:Int)))
  ((B5 a.Names x93_2).bind fun e=>
  (B5 b.Names x93_2).bind fun e_2=>
  cond (!decide (e=e_2))
   (up (some false))
   (some (.next (W (x93_2 + 1)))))
  (up (
   some true))
def Bw.j1 (a:Ae) (b:Ae) (x89_1:Bool):Option (Bool):=
 cond (x89_1)
  (some false)
  (Cp (fun q'=>Bw.l2 a b q') 0)
def Bw (a:Ae) (b:Ae):Option (Bool):=
 cond (!decide (a.Serial=b.Serial))
  (Bw.j1 a b true)
  (cond (!decide (a.Issuer=b.Issuer))
   (Bw.j1 a b true)
   (cond (!decide (a.Subject=b.Subject))
    (Bw.j1 a b true)
    (cond (!decide (a.Key=b.Key))
     (Bw.j1 a b true)
     (cond (!decide (a.KeyId=b.KeyId))
      (Bw.j1 a b true)
      (cond (!decide (a.Hash=b.Hash))
       (Bw.j1 a b true)
       (cond (!decide (a.From=b.From))
        (Bw.j1 a b true)
        (cond (!decide (a.To=b.To))
         (Bw.j1 a b true)
         (cond (!decide (a.Authority=b.Authority))
          (Bw.j1 a b true)
          (cond (!decide (a.Path=b.Path))
           (Bw.j1 a b true)
           (cond (!decide (a.Seal=b.Seal))
            (Bw.j1 a b true)
            (Bw.j1 a b (!decide ((a.Names.length:Int)=(b.Names.length:Int))))))))))))))
def Cd.l2 (a:Am) (b:Am) (x30_2:Int):Option (Lp (Int) (Bool)):=
 cond (decide (x30_2 < (a.Chain.length:Int)))
  ((B5 a.Chain x30_2).bind fun e=>
  (B5 b.Chain x30_2).bind fun e_2=>
  (Bw e e_2).bind fun y=>
  cond (!y)
   (up (some false))
   (some (.next (W (x30_2 + 1)))))
  (up (
   some true))
def Cd.j1 (a:Am) (b:Am) (x26_1:Bool):Option (Bool):=
 cond (x26_1)
  (some false)
  (Cp (fun q'=>Cd.l2 a b q') 0)
def Cd (a:Am) (b:Am):Option (Bool):=
 cond (!decide (a.Key=b.Key))
  (Cd.j1 a b true)
  (cond (!decide (a.KeyId=b.KeyId))
   (Cd.j1 a b true)
   (Cd.j1 a b (!decide ((a.Chain.length:Int)=(b.Chain.length:Int)))))
def Kw (c:A7):Option (Bool):=
 (Cd c.Identity (Am.mk (Ar.mk 0 0) 0 ([]:(List Ae)))).bind fun y=>
 cond (decide (c.Kind=1))
  (some y)
  (cond (decide (c.Kind=5))
   (some (decide (c.Number=0)))
   (cond (decide (1<=c.Kind))
    (cond (decide (c.Kind<=12))
     (cond (y)
      (some (decide (c.At=0)))
      (some false))
     (some false))
    (some false)))
def B8.j3 (e:Af) (kind:Int) (x22_3:Bool):Option ((List Int)×Bool×Bool):=
 cond (x22_3)
  (some (e.Hashes,decide (kind=9),true))
  (some (([]:(List Int)),false,false))
def B8.j2 (e:Af) (kind:Int) (x15_2:Bool):Option ((List Int)×Bool×Bool):=
 cond (x15_2)
  (some (e.Anchors,decide (kind=7),true))
  (cond (decide (kind=9))
   (B8.j3 e kind (decide (kind=9)))
   (B8.j3 e kind (decide (kind=10))))
def B8.j1 (e:Af) (kind:Int) (x8_1:Bool):Option ((List Int)×Bool×Bool):=
 cond (x8_1)
  (some (e.Suites,decide (kind=1),true))
  (cond (decide (kind=7))
   (B8.j2 e kind (decide (kind=7)))
   (B8.j2 e kind (decide (kind=8))))
def B8 (e:Af) (kind:Int):Option ((List Int)×Bool×Bool):=
 cond (decide (kind=1))
  (B8.j1 e kind (decide (kind=1)))
  (B8.j1 e kind (decide (kind=2)))
def Dg.l1 (l:(List Int)) (n:Int) (x9_1:Int):Option (Lp (Int) (Int)):=
 cond (decide (x9_1 < (l.length:Int)))
  ((B5 l x9_1).bind fun e=>
  cond (decide (e=n))
   (up (some x9_1))
   (some (.next (W (x9_1 + 1)))))
  (up (
   some (-1)))
def Dg (l:(List Int)) (n:Int):Option (Int):=
 Cp (fun q'=>Dg.l1 l n q') 0
def M8 (b:Bool):Option (Int):=
 cond (b)
  (some 1)
  (some 0)
def Mq (e:Af) (kind:Int):Option (Int×Bool):=
 cond (decide (kind=3))
  (some (e.Most,true))
  (cond (decide (kind=4))
   (some (e.Least,true))
   (cond (decide (kind=11))
    ((M8 e.Fallback).bind fun y=>
    some (y,true))
    (cond (decide (kind=12))
     ((M8 e.OwnOrder).bind fun y_2=>
     some (y_2,true))
     (some (0,false)))))
def Cu.j3 (x13_1:Int) (n_3:Int) (at_3:Int):Option (Lp (Int×Int×Int) (Int×Int)):=
 some (.next (n_3,at_3,W (x13_1 + 1)))
def Cu.j2 (n_1:Int) (x13_1:Int) (at_2:Int):Option (Lp (Int×Int×Int) (Int×Int)):=
 Cu.j3 x13_1 (W (n_1 + 1)) at_2
def Cu.l1 (e:Af) (id:Int) (n_1:Int) (at_1:Int) (x13_1:Int):Option (Lp (Int×Int×Int) (Int×Int)):=
 cond (decide (x13_1 < (e.Identities.length:Int)))
  ((B5 e.Identities x13_1).bind fun e_2=>
  cond (decide (e_2.KeyId=id))
   (cond (decide (n_1=0))
    (Cu.j2 n_1 x13_1 x13_1)
    (Cu.j2 n_1 x13_1 at_1))
   (Cu.j3 x13_1 n_1 at_1))
  (up (
   some (n_1,at_1)))
def Cu (e:Af) (id:Int):Option (Int×Int):=
 Cp (fun q'=>Cu.l1 e id q'.1 q'.2.1 q'.2.2) (0,-1,0)
def Ax.j8 (e:Af) (c:A7):Option (Int):=
 cond (decide (c.Kind=6))
  ((Cu e c.Number).bind fun y_7=>
  cond (decide (y_7.1=0))
   (some 41)
   (cond (decide (1 < y_7.1))
    (some 5)
    (some 0)))
  (some 0)
def Ax.j7 (e:Af) (c:A7) (x90_7:Bool):Option (Int):=
 cond (x90_7)
  (some 41)
  (cond (decide (c.Kind=5))
   ((Cu e c.Identity.KeyId).bind fun y_6=>
   cond (decide (0 < y_6.1))
    (some 41)
    (Ax.j8 e c))
   (Ax.j8 e c))
def Ax.j6 (e:Af) (c:A7) (x76_6:Bool):Option (Int):=
 cond (x76_6)
  (some 41)
  ((Mq e c.Kind).bind fun y_5=>
  cond (y_5.2)
   (Ax.j7 e c (decide (y_5.1=c.Number)))
   (Ax.j7 e c false))
def Ax.j5 (e:Af) (c:A7):Option (Int):=
 (B8 e c.Kind).bind fun y_3=>
 cond (y_3.2.2)
  ((Dg y_3.1 c.Number).bind fun y_4=>
  Ax.j6 e c (decide ((decide (0<=y_4))=y_3.2.1)))
  (Ax.j6 e c false)
def Ax.j1 (e:Af) (c:A7) (x34_1:Bool):Option (Int):=
 cond (x34_1)
  (some 2)
  (Ax.j5 e c)
def Ax.j2 (e:Af) (c:A7) (x47_2:Bool):Option (Int):=
 cond (x47_2)
  (some 2)
  (Ax.j5 e c)
def Ax.j4 (e:Af) (c:A7) (x58_4:Bool):Option (Int):=
 cond (x58_4)
  (some 2)
  (Ax.j5 e c)
def Ax.j3 (e:Af) (c:A7) (x48_3:Bool):Option (Int):=
 cond (x48_3)
  (cond (!decide (c.Number=0))
   (Ax.j4 e c (!decide (c.Number=1)))
   (Ax.j4 e c false))
  (Ax.j5 e c)
def Ax (e:Af) (c:A7):Option (Int):=
 (A5 e).bind fun y=>
 cond (!decide (y=0))
  (some 19)
  ((Kw c).bind fun y_2=>
  cond (!y_2)
   (some 40)
   (cond (decide (c.Kind=1))
    (cond (decide (c.At < 0))
     (Ax.j1 e c true)
     (Ax.j1 e c (decide ((e.Suites.length:Int) < c.At))))
    (cond (decide (c.Kind=5))
     (cond (decide (c.At < 0))
      (Ax.j2 e c true)
      (Ax.j2 e c (decide ((e.Identities.length:Int) < c.At))))
     (cond (decide (c.Kind=11))
      (Ax.j3 e c (decide (c.Kind=11)))
      (Ax.j3 e c (decide (c.Kind=12)))))))
def De.l1 (a:Am) (x14_1:Int) (l_1:List Ae):Option (Lp (Int×List Ae) (Am)):=
 cond (decide (x14_1 < (a.Chain.length:Int)))
  ((B5 a.Chain x14_1).bind fun e=>
  (Ib 16 ([]:List ByteArray) e.Names).bind fun l=>
  (Ib 2280 l_1 ([(Ae.mk e.Serial e.Issuer e.Subject e.Key e.KeyId e.Hash e.From e.To e.Authority e.Path l e.Seal)]:List Ae)).bind fun l_2=>
  some (.next (W (x14_1 + 1),l_2)))
  (up (
   some (Am.mk a.Key a.KeyId l_1)))
def De (a:Am):Option (Am):=
 Cp (fun q'=>De.l1 a q'.1 q'.2) (0,([]:List Ae))
def E8.l1 (e:Af) (l:List Int) (l_2:List Int) (l_3:List Int) (x23_1:Int) (l_1:List Am):Option (Lp (Int×List Am) (Af)):=
 cond (decide (x23_1 < (e.Identities.length:Int)))
  ((B5 e.Identities x23_1).bind fun e_2=>
  (De e_2).bind fun y=>
  (Ib 192 l_1 ([y]:List Am)).bind fun l_4=>
  some (.next (W (x23_1 + 1),l_4)))
  (up (
   some (Af.mk e.Name e.Least e.Most l e.OwnOrder l_1 l_2 l_3 e.Fallback)))
def E8 (e:Af):Option (Af):=
 (Ib 8 ([]:List Int) e.Suites).bind fun l=>
 (Ib 8 ([]:List Int) e.Anchors).bind fun l_2=>
 (Ib 8 ([]:List Int) e.Hashes).bind fun l_3=>
 Cp (fun q'=>E8.l1 e l l_2 l_3 q'.1 q'.2) (0,([]:List Am))
def Ky (l:(List Int)) (at':Int) (n:Int):Option ((List Int)):=
 (U0 l 0 at').bind fun l_2=>
 (Ib 8 ([]:List Int) l_2).bind fun l_3=>
 (Ib 8 l_3 ([n]:List Int)).bind fun l_4=>
 (U0 l at' (l.length:Int)).bind fun l_5=>
 (Ib 8 l_4 l_5).bind fun l_6=>
 some l_6
def Hq (l:(List Int)) (at':Int):Option ((List Int)):=
 (U0 l 0 at').bind fun l_2=>
 (Ib 8 ([]:List Int) l_2).bind fun l_3=>
 (U0 l (W (at' + 1)) (l.length:Int)).bind fun l_4=>
 (Ib 8 l_3 l_4).bind fun l_5=>
 some l_5
def Ct.j2 (l:(List Int)) (n:Int) (at_1:Int) (x17_2:Bool):Option (Lp (Int) ((List Int))):=
 cond (x17_2)
  (some (.next (W (at_1 + 1))))
  (up (
   (Ky l at_1 n).bind fun y=>
   some y))
def Ct.l1 (l:(List Int)) (n:Int) (at_1:Int):Option (Lp (Int) ((List Int))):=
 cond (decide (at_1 < (l.length:Int)))
  ((B5 l at_1).bind fun e=>
  Ct.j2 l n at_1 (decide (e < n)))
  (Ct.j2 l n at_1 false)
def Ct (l:(List Int)) (n:Int):Option ((List Int)):=
 Cp (fun q'=>Ct.l1 l n q') 0
def Dn.j1 (y:Af) (out_1:Int) (out_1_2:Int) (out_1_3:List Int) (out_1_4:Bool) (out_1_5:List Am) (out_1_6:List Int) (out_1_7:List Int) (out_1_8:Bool):Option (Af):=
 some (Af.mk y.Name out_1 out_1_2 out_1_3 out_1_4 out_1_5 out_1_6 out_1_7 out_1_8)
def Dn (e:Af) (c:A7):Option (Af):=
 (E8 e).bind fun y=>
 cond (decide (c.Kind=1))
  ((Ky e.Suites c.At c.Number).bind fun y_2=>
  Dn.j1 y y.Least y.Most y_2 y.OwnOrder y.Identities y.Anchors y.Hashes y.Fallback)
  (cond (decide (c.Kind=2))
   ((Dg e.Suites c.Number).bind fun y_3=>
   (Hq e.Suites y_3).bind fun y_4=>
   Dn.j1 y y.Least y.Most y_4 y.OwnOrder y.Identities y.Anchors y.Hashes y.Fallback)
   (cond (decide (c.Kind=3))
    (Dn.j1 y y.Least c.Number y.Suites y.OwnOrder y.Identities y.Anchors y.Hashes y.Fallback)
    (cond (decide (c.Kind=4))
     (Dn.j1 y c.Number y.Most y.Suites y.OwnOrder y.Identities y.Anchors y.Hashes y.Fallback)
     (cond (decide (c.Kind=5))
      ((U0 y.Identities 0 c.At).bind fun l=>
      (Ib 192 ([]:List Am) l).bind fun l_2=>
      (De c.Identity).bind fun y_5=>
      (Ib 192 l_2 ([y_5]:List Am)).bind fun l_3=>
      (U0 y.Identities c.At (y.Identities.length:Int)).bind fun l_4=>
      (Ib 192 l_3 l_4).bind fun l_5=>
      Dn.j1 y y.Least y.Most y.Suites y.OwnOrder l_5 y.Anchors y.Hashes y.Fallback)
      (cond (decide (c.Kind=6))
       ((Cu e c.Number).bind fun y_6=>
       (U0 y.Identities 0 y_6.2).bind fun l_6=>
       (Ib 192 ([]:List Am) l_6).bind fun l_7=>
       (U0 y.Identities (W (y_6.2 + 1)) (y.Identities.length:Int)).bind fun l_8=>
       (Ib 192 l_7 l_8).bind fun l_9=>
       Dn.j1 y y.Least y.Most y.Suites y.OwnOrder l_9 y.Anchors y.Hashes y.Fallback)
       (cond (decide (c.Kind=7))
        ((Ct e.Anchors c.Number).bind fun y_7=>
        Dn.j1 y y.Least y.Most y.Suites y.OwnOrder y.Identities y_7 y.Hashes y.Fallback)
        (cond (decide (c.Kind=8))
         ((Dg e.Anchors c.Number).bind fun y_8=>
         (Hq e.Anchors y_8).bind fun y_9=>
         Dn.j1 y y.Least y.Most y.Suites y.OwnOrder y.Identities y_9 y.Hashes y.Fallback)
         (cond (decide (c.Kind=9))
          ((Ct e.Hashes c.Number).bind fun y_10=>
          Dn.j1 y y.Least y.Most y.Suites y.OwnOrder y.Identities y.Anchors y_10 y.Fallback)
          (cond (decide (c.Kind=10))
           ((Dg e.Hashes c.Number).bind fun y_11=>
           (Hq e.Hashes y_11).bind fun y_12=>
           Dn.j1 y y.Least y.Most y.Suites y.OwnOrder y.Identities y.Anchors y_12 y.Fallback)
           (cond (decide (c.Kind=11))
            (Dn.j1 y y.Least y.Most y.Suites y.OwnOrder y.Identities y.Anchors y.Hashes (decide (c.Number=1)))
            (cond (decide (c.Kind=12))
             (Dn.j1 y y.Least y.Most y.Suites (decide (c.Number=1)) y.Identities y.Anchors y.Hashes y.Fallback)
             (Dn.j1 y y.Least y.Most y.Suites y.OwnOrder y.Identities y.Anchors y.Hashes y.Fallback))))))))))))
def K7 (e:Af) (c:A7):Option (Af×Int):=
 (Ax e c).bind fun y=>
 cond (!decide (y=0))
  (some ((Af.mk (⟨#[]⟩:ByteArray) 0 0 ([]:(List Int)) false ([]:(List Am)) ([]:(List Int)) ([]:(List Int)) false),y))
  ((Dn e c).bind fun y_2=>
  (A5 y_2).bind fun y_3=>
  cond (!decide (y_3=0))
   (some ((Af.mk (⟨#[]⟩:ByteArray) 0 0 ([]:(List Int)) false ([]:(List Am)) ([]:(List Int)) ([]:(List Int)) false),18))
   (some (y_2,0)))
def Dw.l2 (e:Bb) (l:List Bq) (l_1:List Af) (x30_2:Int) (l_2_2:List Cf):Option (Lp (Int×List Cf) (Bb)):=
 cond (decide (x30_2 < (e.Items.length:Int)))
  ((B5 e.Items x30_2).bind fun e_3=>
  (Ib 72 ([]:List Co) e_3.Links).bind fun l_3=>
  (Ib 320 l_2_2 ([(Cf.mk e_3.Name e_3.Kind e_3.Purpose l_3 e_3.Until)]:List Cf)).bind fun l_4=>
  some (.next (W (x30_2 + 1),l_4)))
  (up (
   some (Bb.mk l_1 l l_2_2)))
def Dw.l1 (e:Bb) (l:List Bq) (x15_1:Int) (l_1:List Af):Option (Lp (Int×List Af) (Bb)):=
 cond (decide (x15_1 < (e.Endpoints.length:Int)))
  ((B5 e.Endpoints x15_1).bind fun e_2=>
  (E8 e_2).bind fun y=>
  (Ib 1296 l_1 ([y]:List Af)).bind fun l_2=>
  some (.next (W (x15_1 + 1),l_2)))
  (up (
   Cp (fun q'=>Dw.l2 e l l_1 q'.1 q'.2) (0,([]:List Cf))))
def Dw (e:Bb):Option (Bb):=
 (Ib 32 ([]:List Bq) e.Edges).bind fun l=>
 Cp (fun q'=>Dw.l1 e l q'.1 q'.2) (0,([]:List Af))
def Ge.j1 (e:Bb) (c:A7) (x19_1:Bool):Option (Bb×Int):=
 cond (x19_1)
  (some ((Bb.mk ([]:(List Af)) ([]:(List Bq)) ([]:(List Cf))),40))
  ((B5 e.Endpoints c.Endpoint).bind fun e_2=>
  (K7 e_2 c).bind fun y=>
  cond (!decide (y.2=0))
   (some ((Bb.mk ([]:(List Af)) ([]:(List Bq)) ([]:(List Cf))),y.2))
   ((Dw e).bind fun y_2=>
   (B5 y_2.Endpoints c.Endpoint).bind fun e_3=>
   some ((Bb.mk (C2 y_2.Endpoints ((c.Endpoint).toNat) y.1) y_2.Edges y_2.Items),0)))
def Ge (e:Bb) (c:A7):Option (Bb×Int):=
 cond (decide (c.Endpoint < 0))
  (Ge.j1 e c true)
  (Ge.j1 e c (decide ((e.Endpoints.length:Int)<=c.Endpoint)))
def K8 (e:Bb) (c:A7):Option (Bb×Int):=
 (Bd e).bind fun y=>
 cond (!decide (y=0))
  (some ((Bb.mk ([]:(List Af)) ([]:(List Bq)) ([]:(List Cf))),31))
  ((Ge e c).bind fun y_2=>
  some (y_2.1,y_2.2))
def Cj.j2 (x8_1:Int) (x17_2:Bool):Option (Lp (Int) (Bool)):=
 cond (x17_2)
  (up (some false))
  (some (.next (W (x8_1 + 1))))
def Cj.l1 (s:ByteArray) (x8_1:Int):Option (Lp (Int) (Bool)):=
 cond (decide (x8_1 < ((Iv s).length:Int)))
  ((B5 (Iv s) x8_1).bind fun e=>
  cond (decide ((e.toNat:Int)<=32))
   (Cj.j2 x8_1 true)
   (Cj.j2 x8_1 (decide (126 < (e.toNat:Int)))))
  (up (
   cond (decide (1<=(s.size:Int)))
    (some (decide ((s.size:Int)<=32)))
    (some false)))
def Cj (s:ByteArray):Option (Bool):=
 Cp (fun q'=>Cj.l1 s q') 0
def Oh:Option ((List Cc)):=
 some ([(Cc.mk (⟨#[]⟩:ByteArray) 0 0 ([]:(List Int)) ([]:(List Int))),(Cc.mk (⟨#[109,100,53]⟩:ByteArray) 1 0 ([]:(List Int)) ([18]:List Int)),(Cc.mk (⟨#[115,104,97,49]⟩:ByteArray) 1 0 ([]:(List Int)) ([60]:List Int)),(Cc.mk (⟨#[115,104,97,50,53,54]⟩:ByteArray) 1 0 ([]:(List Int)) ([128]:List Int)),(Cc.mk (⟨#[115,104,97,51,56,52]⟩:ByteArray) 1 0 ([]:(List Int)) ([192]:List Int)),(Cc.mk (⟨#[114,115,97]⟩:ByteArray) 2 1 ([]:(List Int)) ([]:(List Int))),(Cc.mk (⟨#[100,115,97]⟩:ByteArray) 2 1 ([]:(List Int)) ([]:(List Int))),(Cc.mk (⟨#[101,99,100,115,97]⟩:ByteArray) 2 2 ([]:(List Int)) ([]:(List Int))),(Cc.mk (⟨#[101,100,50,53,53,49,57]⟩:ByteArray) 2 0 ([]:(List Int)) ([128]:List Int)),(Cc.mk (⟨#[109,108,100,115,97]⟩:ByteArray) 2 3 ([44,65,87]:List Int) ([128,192,256]:List Int)),(Cc.mk (⟨#[114,115,97,107,120]⟩:ByteArray) 3 1 ([]:(List Int)) ([]:(List Int))),(Cc.mk (⟨#[100,104,101]⟩:ByteArray) 3 1 ([]:(List Int)) ([]:(List Int))),(Cc.mk (⟨#[101,99,100,104,101]⟩:ByteArray) 3 2 ([]:(List Int)) ([]:(List Int))),(Cc.mk (⟨#[109,108,107,101,109]⟩:ByteArray) 3 3 ([512,768,1024]:List Int) ([128,192,256]:List Int)),(Cc.mk (⟨#[114,99,52]⟩:ByteArray) 4 3 ([40,128]:List Int) ([40,60]:List Int)),(Cc.mk (⟨#[100,101,115,51]⟩:ByteArray) 4 3 ([112,168]:List Int) ([80,112]:List Int)),(Cc.mk (⟨#[97,101,115,99,98,99]⟩:ByteArray) 4 3 ([128,256]:List Int) ([128,256]:List Int)),(Cc.mk (⟨#[97,101,115,103,99,109]⟩:ByteArray) 4 3 ([128,256]:List Int) ([128,256]:List Int)),(Cc.mk (⟨#[99,104,97,99,104,97]⟩:ByteArray) 4 0 ([]:(List Int)) ([256]:List Int)),(Cc.mk (⟨#[104,109,97,99,109,100,53]⟩:ByteArray) 5 0 ([]:(List Int)) ([64]:List Int)),(Cc.mk (⟨#[104,109,97,99,115,104,97,49]⟩:ByteArray) 5 0 ([]:(List Int)) ([80]:List Int)),(Cc.mk (⟨#[104,109,97,99,115,104,97,50,53,54]⟩:ByteArray) 5 0 ([]:(List Int)) ([128]:List Int)),(Cc.mk (⟨#[97,101,97,100]⟩:ByteArray) 5 0 ([]:(List Int)) ([256]:List Int))]:List Cc)
def En.j1 (alg:Int) (x9_1:Bool):Option (Cc×Bool):=
 cond (x9_1)
  (some ((Cc.mk (⟨#[]⟩:ByteArray) 0 0 ([]:(List Int)) ([]:(List Int))),false))
  ((Oh).bind fun y=>
  (B5 (aGq 23 y) alg).bind fun e=>
  some (e,true))
def En (alg:Int):Option (Cc×Bool):=
 cond (decide (alg < 1))
  (En.j1 alg true)
  (En.j1 alg (decide (22 < alg)))
def Dm.l1 (bits:Int) (x11_1:Int):Option (Lp (Int) (Int)):=
 cond (decide (x11_1 < 5))
  ((B5 ([([1024,56]:List Int),([2048,80]:List Int),([3072,112]:List Int),([7680,128]:List Int),([15360,192]:List Int)]:List (List Int)) x11_1).bind fun e=>
  cond (decide (bits < (e[0]!)))
   (up (some (e[1]!)))
   (some (.next (W (x11_1 + 1)))))
  (up (
   some 256))
def Dm (bits:Int):Option (Int):=
 Cp (fun q'=>Dm.l1 bits q') 0
def Ba.j1 (u:Ar) (x34_1:Bool):Option (Int):=
 cond (x34_1)
  ((Dm u.Bits).bind fun y_2=>
  some y_2)
  (some 0)
def Ba (u:Ar):Option (Int):=
 (En u.Alg).bind fun y=>
 cond (!y.2)
  (some 0)
  (cond (decide (y.1.way=0))
   (cond (decide (u.Bits=0))
    ((B5 y.1.strengths 0).bind fun e=>
    some e)
    (some 0))
   (cond (decide (y.1.way=1))
    (cond (decide (512<=u.Bits))
     (Ba.j1 u (decide (u.Bits<=16384)))
     (Ba.j1 u false))
    (cond (decide (y.1.way=2))
     ((C5 ([160,224,256,384,521]:List Int) u.Bits).bind fun y_3=>
     cond (y_3)
      ((M2 u.Bits 2).bind fun q=>
      some q)
      (some 0))
     (cond (decide (y.1.way=3))
      ((Ci y.1.sizes u.Bits).bind fun y_4=>
      cond (decide (0<=y_4))
       ((B5 y.1.strengths y_4).bind fun e_2=>
       some e_2)
       (some 0))
      (some 0)))))
def Gq (u:Ar):Option (Bool):=
 (Ba u).bind fun y=>
 some (decide (0 < y))
def G8 (alg:Int):Option (Int):=
 (En alg).bind fun y=>
 some y.1.kind
def B7.j3 (f:Aa) (bare_1:Bool) (x71_3:Bool):Option (Bool):=
 cond (x71_3)
  (cond (bare_1)
   (cond (decide (1<=f.Number))
    (some (decide (f.Number<=4)))
    (some false))
   (some false))
  (cond (decide (f.Kind=6))
   (cond (bare_1)
    (cond (decide (0<=f.Number))
     (some (decide (f.Number<=2147483648)))
     (some false))
    (some false))
   (cond (decide (f.Kind=7))
    (cond (decide (f.Use=(Ar.mk 0 0)))
     (cond (decide (f.Number=0))
      ((Cj f.Text).bind fun y_4=>
      some y_4)
      (some false))
     (some false))
    (some false)))
def B7.j2 (f:Aa) (bare_1:Bool) (x15_2:Bool):Option (Bool):=
 cond (x15_2)
  ((Gq f.Use).bind fun y=>
  cond (y)
   (cond (decide (f.Number=0))
    (some (decide (f.Text=(⟨#[]⟩:ByteArray))))
    (some false))
   (some false))
  (cond (decide (f.Kind=2))
   (cond (bare_1)
    (cond (decide (0<=f.Number))
     (some (decide (f.Number<=65535)))
     (some false))
    (some false))
   (cond (decide (f.Kind=3))
    ((Gq f.Use).bind fun y_2=>
    cond (y_2)
     ((G8 f.Use.Alg).bind fun y_3=>
     cond (decide (y_3=2))
      (cond (decide (0<=f.Number))
       (cond (decide (f.Number<=2147483648))
        (some (decide (f.Text=(⟨#[]⟩:ByteArray))))
        (some false))
       (some false))
      (some false))
     (some false))
    (cond (decide (f.Kind=4))
     (B7.j3 f bare_1 (decide (f.Kind=4)))
     (B7.j3 f bare_1 (decide (f.Kind=5))))))
def B7.j1 (f:Aa) (bare_1:Bool):Option (Bool):=
 cond (decide (f.Kind=1))
  (B7.j2 f bare_1 (decide (f.Kind=1)))
  (B7.j2 f bare_1 (decide (f.Kind=8)))
def B7 (f:Aa):Option (Bool):=
 cond (decide (f.Use=(Ar.mk 0 0)))
  (B7.j1 f (decide (f.Text=(⟨#[]⟩:ByteArray))))
  (B7.j1 f false)
def Bx.j3 (x61_3:Bool):Option (Int):=
 cond (x61_3)
  (some 24)
  (some 0)
def Bx.j2 (f:Aa) (where_1:Bool) (when_2:Bool):Option (Int):=
 cond (!where_1)
  (Bx.j3 true)
  (cond (!when_2)
   (Bx.j3 true)
   (cond (decide (f.Source < 1))
    (Bx.j3 true)
    (cond (decide (7 < f.Source))
     (Bx.j3 true)
     ((B7 f).bind fun y_3=>
     Bx.j3 (!y_3)))))
def Bx.j1 (f:Aa) (where_1:Bool):Option (Int):=
 cond (decide (0<=f.Day))
  (cond (decide (f.Day<=40000))
   (cond (decide (1<=f.Confidence))
    (Bx.j2 f where_1 (decide (f.Confidence<=100)))
    (Bx.j2 f where_1 false))
   (Bx.j2 f where_1 false))
  (Bx.j2 f where_1 false)
def Bx (f:Aa):Option (Int):=
 (Cj f.Host).bind fun y=>
 cond (y)
  ((Cj f.Subject).bind fun y_2=>
  cond (y_2)
   (cond (decide (0<=f.Machine))
    (Bx.j1 f (decide (f.Machine<=1099511627776)))
    (Bx.j1 f false))
   (Bx.j1 f false))
  (Bx.j1 f false)
def Ks (at':Aa):Option (D1×Int):=
 (Bx (Aa.mk at'.Source at'.Host at'.Machine at'.Day at'.Confidence 4 at'.Subject (Ar.mk 0 0) 1 (⟨#[]⟩:ByteArray))).bind fun y=>
 some ((D1.mk (Aa.mk at'.Source at'.Host at'.Machine at'.Day at'.Confidence 4 at'.Subject (Ar.mk 0 0) 1 (⟨#[]⟩:ByteArray)) ([]:(List Aa))),y)
def Gb (s:ByteArray) (c:UInt8):Option (Int):=
 some (dS s c)
def D5 (s:ByteArray) (c:UInt8):Option (Int):=
 (Gb s c).bind fun y=>
 some y
def I7 (c:UInt8) (others:ByteArray):Option (Bool):=
 cond (decide (97<=(c.toNat:Int)))
  (cond (decide ((c.toNat:Int)<=122))
   (some true)
   (cond (decide (65<=(c.toNat:Int)))
    (cond (decide ((c.toNat:Int)<=90))
     (some true)
     (cond (decide (48<=(c.toNat:Int)))
      (cond (decide ((c.toNat:Int)<=57))
       (some true)
       ((D5 others c).bind fun y=>
       some (decide (0<=y))))
      ((D5 others c).bind fun y_2=>
      some (decide (0<=y_2)))))
    (cond (decide (48<=(c.toNat:Int)))
     (cond (decide ((c.toNat:Int)<=57))
      (some true)
      ((D5 others c).bind fun y_3=>
      some (decide (0<=y_3))))
     ((D5 others c).bind fun y_4=>
     some (decide (0<=y_4))))))
  (cond (decide (65<=(c.toNat:Int)))
   (cond (decide ((c.toNat:Int)<=90))
    (some true)
    (cond (decide (48<=(c.toNat:Int)))
     (cond (decide ((c.toNat:Int)<=57))
      (some true)
      ((D5 others c).bind fun y_5=>
      some (decide (0<=y_5))))
     ((D5 others c).bind fun y_6=>
     some (decide (0<=y_6)))))
   (cond (decide (48<=(c.toNat:Int)))
    (cond (decide ((c.toNat:Int)<=57))
     (some true)
     ((D5 others c).bind fun y_7=>
     some (decide (0<=y_7))))
    ((D5 others c).bind fun y_8=>
    some (decide (0<=y_8)))))
def D8.l1 (s:ByteArray) (x8_1:Int):Option (Lp (Int) (Bool)):=
 cond (decide (x8_1 < ((Iv s).length:Int)))
  ((B5 (Iv s) x8_1).bind fun e=>
  (I7 e (⟨#[45,95,46]⟩:ByteArray)).bind fun y=>
  cond (!y)
   (up (some false))
   (some (.next (W (x8_1 + 1)))))
  (up (
   cond (decide (1<=(s.size:Int)))
    (some (decide ((s.size:Int)<=32)))
    (some false)))
def D8 (s:ByteArray):Option (Bool):=
 Cp (fun q'=>D8.l1 s q') 0
def C3 (alg:Int) (bits:Int):Option (Ar):=
 some (Ar.mk alg bits)
def Eg.l1 (y:Ar) (y_2:Ar) (y_3:Ar) (y_4:Ar) (y_5:Ar) (y_6:Ar) (y_7:Ar) (y_8:Ar) (y_9:Ar) (y_10:Ar) (y_11:Ar) (y_12:Ar) (y_13:Ar) (y_14:Ar) (y_15:Ar) (y_16:Ar) (y_17:Ar) (y_18:Ar) (y_19:Ar) (y_20:Ar) (y_21:Ar) (y_22:Ar) (x114_1:Int) (l_1:List A4):Option (Lp (Int×List A4) ((List A4))):=
 cond (decide (x114_1 < (([(A4.mk 0 (⟨#[114,115,97,45,114,99,52,45,109,100,53]⟩:ByteArray) y y_2 y_14 y_10 1 2),(A4.mk 0 (⟨#[114,115,97,45,114,99,52,45,115,104,97]⟩:ByteArray) y y_2 y_15 y_11 1 3),(A4.mk 0 (⟨#[114,115,97,45,100,101,115,51,45,115,104,97]⟩:ByteArray) y y_2 y_5 y_11 1 3),(A4.mk 0 (⟨#[100,104,101,45,100,115,97,45,100,101,115,51,45,115,104,97]⟩:ByteArray) y_16 y_3 y_5 y_11 1 3),(A4.mk 0 (⟨#[100,104,101,45,114,115,97,45,100,101,115,51,45,115,104,97]⟩:ByteArray) y_17 y_2 y_5 y_11 1 3),(A4.mk 0 (⟨#[114,115,97,45,97,101,115,49,50,56,45,115,104,97]⟩:ByteArray) y y_2 y_6 y_11 1 3),(A4.mk 0 (⟨#[100,104,101,45,114,115,97,45,97,101,115,49,50,56,45,115,104,97]⟩:ByteArray) y_18 y_2 y_6 y_11 1 3),(A4.mk 0 (⟨#[101,99,100,104,101,45,114,115,97,45,97,101,115,49,50,56,45,115,104,97]⟩:ByteArray) y_13 y_2 y_6 y_11 1 3),(A4.mk 0 (⟨#[101,99,100,104,101,45,101,99,100,115,97,45,97,101,115,50,53,54,45,115,104,97,50,53,54]⟩:ByteArray) y_13 y_4 y_19 y_20 3 3),(A4.mk 0 (⟨#[101,99,100,104,101,45,114,115,97,45,97,101,115,49,50,56,45,103,99,109]⟩:ByteArray) y_13 y_2 y_7 y_12 3 3),(A4.mk 0 (⟨#[101,99,100,104,101,45,101,99,100,115,97,45,97,101,115,50,53,54,45,103,99,109]⟩:ByteArray) y_21 y_4 y_8 y_12 3 3),(A4.mk 0 (⟨#[101,99,100,104,101,45,114,115,97,45,99,104,97,99,104,97]⟩:ByteArray) y_13 y_2 y_9 y_12 3 3),(A4.mk 0 (⟨#[114,115,97,45,97,101,115,50,53,54,45,103,99,109]⟩:ByteArray) y y_2 y_8 y_12 3 3),(A4.mk 0 (⟨#[97,101,115,49,50,56,45,103,99,109]⟩:ByteArray) y_13 (Ar.mk 0 0) y_7 y_12 4 4),(A4.mk 0 (⟨#[99,104,97,99,104,97]⟩:ByteArray) y_13 (Ar.mk 0 0) y_9 y_12 4 4),(A4.mk 0 (⟨#[109,108,107,101,109,45,97,101,115,50,53,54,45,103,99,109]⟩:ByteArray) y_22 (Ar.mk 0 0) y_8 y_12 4 4)]:List A4).length:Int)))
  ((B5 l_1 x114_1).bind fun e=>
  some (.next (W (x114_1 + 1),C2 l_1 ((x114_1).toNat) (A4.mk (W (x114_1 + 1)) e.Name e.Exchange e.Sign e.Cipher e.Mac e.Least e.Most))))
  (up (
   some l_1))
def Eg:Option ((List A4)):=
 (C3 10 0).bind fun y=>
 (C3 5 0).bind fun y_2=>
 (C3 6 0).bind fun y_3=>
 (C3 7 0).bind fun y_4=>
 (C3 15 168).bind fun y_5=>
 (C3 16 128).bind fun y_6=>
 (C3 17 128).bind fun y_7=>
 (C3 17 256).bind fun y_8=>
 (C3 18 0).bind fun y_9=>
 (C3 19 0).bind fun y_10=>
 (C3 20 0).bind fun y_11=>
 (C3 22 0).bind fun y_12=>
 (C3 12 256).bind fun y_13=>
 (C3 14 128).bind fun y_14=>
 (C3 14 128).bind fun y_15=>
 (C3 11 1024).bind fun y_16=>
 (C3 11 1024).bind fun y_17=>
 (C3 11 2048).bind fun y_18=>
 (C3 16 256).bind fun y_19=>
 (C3 21 0).bind fun y_20=>
 (C3 12 384).bind fun y_21=>
 (C3 13 768).bind fun y_22=>
 Cp (fun q'=>Eg.l1 y y_2 y_3 y_4 y_5 y_6 y_7 y_8 y_9 y_10 y_11 y_12 y_13 y_14 y_15 y_16 y_17 y_18 y_19 y_20 y_21 y_22 q'.1 q'.2) (0,([(A4.mk 0 (⟨#[114,115,97,45,114,99,52,45,109,100,53]⟩:ByteArray) y y_2 y_14 y_10 1 2),(A4.mk 0 (⟨#[114,115,97,45,114,99,52,45,115,104,97]⟩:ByteArray) y y_2 y_15 y_11 1 3),(A4.mk 0 (⟨#[114,115,97,45,100,101,115,51,45,115,104,97]⟩:ByteArray) y y_2 y_5 y_11 1 3),(A4.mk 0 (⟨#[100,104,101,45,100,115,97,45,100,101,115,51,45,115,104,97]⟩:ByteArray) y_16 y_3 y_5 y_11 1 3),(A4.mk 0 (⟨#[100,104,101,45,114,115,97,45,100,101,115,51,45,115,104,97]⟩:ByteArray) y_17 y_2 y_5 y_11 1 3),(A4.mk 0 (⟨#[114,115,97,45,97,101,115,49,50,56,45,115,104,97]⟩:ByteArray) y y_2 y_6 y_11 1 3),(A4.mk 0 (⟨#[100,104,101,45,114,115,97,45,97,101,115,49,50,56,45,115,104,97]⟩:ByteArray) y_18 y_2 y_6 y_11 1 3),(A4.mk 0 (⟨#[101,99,100,104,101,45,114,115,97,45,97,101,115,49,50,56,45,115,104,97]⟩:ByteArray) y_13 y_2 y_6 y_11 1 3),(A4.mk 0 (⟨#[101,99,100,104,101,45,101,99,100,115,97,45,97,101,115,50,53,54,45,115,104,97,50,53,54]⟩:ByteArray) y_13 y_4 y_19 y_20 3 3),(A4.mk 0 (⟨#[101,99,100,104,101,45,114,115,97,45,97,101,115,49,50,56,45,103,99,109]⟩:ByteArray) y_13 y_2 y_7 y_12 3 3),(A4.mk 0 (⟨#[101,99,100,104,101,45,101,99,100,115,97,45,97,101,115,50,53,54,45,103,99,109]⟩:ByteArray) y_21 y_4 y_8 y_12 3 3),(A4.mk 0 (⟨#[101,99,100,104,101,45,114,115,97,45,99,104,97,99,104,97]⟩:ByteArray) y_13 y_2 y_9 y_12 3 3),(A4.mk 0 (⟨#[114,115,97,45,97,101,115,50,53,54,45,103,99,109]⟩:ByteArray) y y_2 y_8 y_12 3 3),(A4.mk 0 (⟨#[97,101,115,49,50,56,45,103,99,109]⟩:ByteArray) y_13 (Ar.mk 0 0) y_7 y_12 4 4),(A4.mk 0 (⟨#[99,104,97,99,104,97]⟩:ByteArray) y_13 (Ar.mk 0 0) y_9 y_12 4 4),(A4.mk 0 (⟨#[109,108,107,101,109,45,97,101,115,50,53,54,45,103,99,109]⟩:ByteArray) y_22 (Ar.mk 0 0) y_8 y_12 4 4)]:List A4))
def E2.j1 (code:Int) (y:(List A4)) (x13_1:Bool):Option (A4×Int):=
 cond (x13_1)
  (some ((A4.mk 0 (⟨#[]⟩:ByteArray) (Ar.mk 0 0) (Ar.mk 0 0) (Ar.mk 0 0) (Ar.mk 0 0) 0 0),8))
  ((B5 y (W (code - 1))).bind fun e=>
  some (e,0))
def E2 (code:Int):Option (A4×Int):=
 (Eg).bind fun y=>
 cond (decide (code < 1))
  (E2.j1 code y true)
  (E2.j1 code y (decide ((y.length:Int) < code)))
def Cz.j2 (x9_1:Int) (x27_2:Bool):Option (Lp (Int) (Bool)):=
 cond (x27_2)
  (up (some false))
  (some (.next (W (x9_1 + 1))))
def Cz.l1 (l:(List Int)) (x9_1:Int):Option (Lp (Int) (Bool)):=
 cond (decide (x9_1 < (l.length:Int)))
  ((B5 l x9_1).bind fun e=>
  (E2 e).bind fun y=>
  cond (!decide (y.2=0))
   (Cz.j2 x9_1 true)
   ((U0 l 0 x9_1).bind fun l_2=>
   (C5 l_2 e).bind fun y_2=>
   Cz.j2 x9_1 y_2))
  (up (
   some true))
def Cz (l:(List Int)):Option (Bool):=
 Cp (fun q'=>Cz.l1 l q') 0
def Cm.j2 (x6_1:Int) (x22_2:Bool):Option (Lp (Int) (Bool)):=
 cond (x22_2)
  (up (some false))
  (some (.next (W (x6_1 + 1))))
def Cm.l1 (l:(List Int)) (x6_1:Int):Option (Lp (Int) (Bool)):=
 cond (decide (x6_1 < (l.length:Int)))
  (cond (decide (0 < x6_1))
   ((B5 l (W (x6_1 - 1))).bind fun e=>
   (B5 l x6_1).bind fun e_2=>
   Cm.j2 x6_1 (decide (e_2<=e)))
   (Cm.j2 x6_1 false))
  (up (
   some true))
def Cm (l:(List Int)):Option (Bool):=
 Cp (fun q'=>Cm.l1 l q') 0
def E9 (n:Int):Option (Bool):=
 cond (decide (0<=n))
  (some (decide (n<=2147483648)))
  (some false)
def Cb.j2 (x7_1:Int) (x27_2:Bool):Option (Lp (Int) (Bool)):=
 cond (x27_2)
  (up (some false))
  (some (.next (W (x7_1 + 1))))
def Cb.l1 (l:(List ByteArray)) (x7_1:Int):Option (Lp (Int) (Bool)):=
 cond (decide (x7_1 < (l.length:Int)))
  ((B5 l x7_1).bind fun e=>
  (Cj e).bind fun y=>
  cond (!y)
   (Cb.j2 x7_1 true)
   (cond (decide (0 < x7_1))
    ((B5 l (W (x7_1 - 1))).bind fun e_2=>
    Cb.j2 x7_1 (!L4 (Iv e_2) (Iv e)))
    (Cb.j2 x7_1 false)))
  (up (
   some (decide ((l.length:Int)<=8))))
def Cb (l:(List ByteArray)):Option (Bool):=
 Cp (fun q'=>Cb.l1 l q') 0
def H9 (u:Ar) (kind:Int):Option (Bool):=
 (Gq u).bind fun y=>
 cond (y)
  ((G8 u.Alg).bind fun y_2=>
  some (decide (y_2=kind)))
  (some false)
def I6 (n:Int):Option (Bool):=
 cond (decide (0<=n))
  (some (decide (n < 4294967296)))
  (some false)
def Bl.j3 (c:Ae) (x73_3:Bool):Option (Bool):=
 cond (x73_3)
  (some false)
  (cond (decide (0<=c.Path))
   (cond (decide (c.Path<=8))
    (cond (c.Authority)
     (some true)
     (some (decide (c.Path=0))))
    (some false))
   (some false))
def Bl.j2 (c:Ae) (x58_2:Bool):Option (Bool):=
 cond (x58_2)
  (some false)
  (cond (decide (c.From < 0))
   (Bl.j3 c true)
   (cond (decide (c.To < c.From))
    (Bl.j3 c true)
    (Bl.j3 c (decide (40000 < c.To)))))
def Bl.j1 (c:Ae) (x28_1:Bool):Option (Bool):=
 cond (x28_1)
  (some false)
  ((H9 c.Key 2).bind fun y_4=>
  cond (!y_4)
   (Bl.j2 c true)
   ((E9 c.KeyId).bind fun y_5=>
   cond (!y_5)
    (Bl.j2 c true)
    ((H9 c.Hash 1).bind fun y_6=>
    cond (!y_6)
     (Bl.j2 c true)
     ((E9 c.Seal.Key).bind fun y_7=>
     cond (!y_7)
      (Bl.j2 c true)
      ((I6 c.Seal.Sum).bind fun y_8=>
      Bl.j2 c (!y_8))))))
def Bl (c:Ae):Option (Bool):=
 cond (decide (c.Serial < 0))
  (Bl.j1 c true)
  (cond (decide (1099511627776 < c.Serial))
   (Bl.j1 c true)
   ((Cj c.Issuer).bind fun y=>
   cond (!y)
    (Bl.j1 c true)
    ((Cj c.Subject).bind fun y_2=>
    cond (!y_2)
     (Bl.j1 c true)
     ((Cb c.Names).bind fun y_3=>
     Bl.j1 c (!y_3)))))
def Hv (c:Ae):Option (Int):=
 (Bl c).bind fun y=>
 cond (!y)
  (some 9)
  (some 0)
def Ck.l2 (key:Ar) (id:Int) (l:(List Ae)) (x30_2:Int):Option (Lp (Int) (Bool)):=
 cond (decide (x30_2 < (l.length:Int)))
  ((B5 l x30_2).bind fun e=>
  (Hv e).bind fun y_4=>
  cond (!decide (y_4=0))
   (up (some false))
   (some (.next (W (x30_2 + 1)))))
  (up (
   cond (decide ((l.length:Int)=0))
    (some true)
    ((B5 l 0).bind fun e_2=>
    cond (decide (e_2.Key=key))
     (some (decide (e_2.KeyId=id)))
     (some false))))
def Ck.j1 (key:Ar) (id:Int) (l:(List Ae)) (x27_1:Bool):Option (Bool):=
 cond (x27_1)
  (some false)
  (Cp (fun q'=>Ck.l2 key id l q') 0)
def Ck (key:Ar) (id:Int) (l:(List Ae)):Option (Bool):=
 (Gq key).bind fun y=>
 cond (!y)
  (Ck.j1 key id l true)
  ((G8 key.Alg).bind fun y_2=>
  cond (!decide (y_2=2))
   (Ck.j1 key id l true)
   ((E9 id).bind fun y_3=>
   cond (!y_3)
    (Ck.j1 key id l true)
    (Ck.j1 key id l (decide (8 < (l.length:Int))))))
def Ja:Option (Unit):=
 some ()
def F2 (n:Int):Option (Bool):=
 (E9 n).bind fun y=>
 some (!y)
def By.l1 (s:(List Int)) (f:Int->Option (Bool)) (x8_1:Int):Option (Lp (Int) (Int)):=
 cond (decide (x8_1 < (s.length:Int)))
  ((B5 s x8_1).bind fun e=>
  (f e).bind fun y=>
  cond (y)
   (up (some x8_1))
   (some (.next (W (x8_1 + 1)))))
  (up (
   some (-1)))
def By (s:(List Int)) (f:Int->Option (Bool)):Option (Int):=
 Cp (fun q'=>By.l1 s f q') 0
def D3 (s:(List Int)) (f:Int->Option (Bool)):Option (Bool):=
 (By s f).bind fun y=>
 some (decide (0<=y))
def Jc:Option (Unit):=
 some ()
def Jy (alg:Int):Option (Bool):=
 (G8 alg).bind fun y=>
 some (decide (y=1))
def F3 (n:Int):Option (Bool):=
 (Jy n).bind fun y=>
 some (!y)
def Br.j4 (x82_4:Bool):Option (Int):=
 cond (x82_4)
  (some 19)
  (some 0)
def Br.l3 (e:Af) (x58_3:Int):Option (Lp (Int) (Int)):=
 cond (decide (x58_3 < (e.Identities.length:Int)))
  ((B5 e.Identities x58_3).bind fun e_2=>
  (Ck e_2.Key e_2.KeyId e_2.Chain).bind fun y_5=>
  cond (!y_5)
   (up (some 19))
   (some (.next (W (x58_3 + 1)))))
  (up (
   (Ja).bind fun y_6=>
   (D3 e.Anchors (fun x0=>F2 x0)).bind fun y_7=>
   cond (y_7)
    (Br.j4 true)
    ((Jc).bind fun y_8=>
    (D3 e.Hashes (fun x0=>F3 x0)).bind fun y_9=>
    Br.j4 y_9)))
def Br.j2 (e:Af) (x54_2:Bool):Option (Int):=
 cond (x54_2)
  (some 19)
  (Cp (fun q'=>Br.l3 e q') 0)
def Br.j1 (e:Af) (x32_1:Bool):Option (Int):=
 cond (x32_1)
  (some 19)
  (cond (decide (4 < (e.Identities.length:Int)))
   (Br.j2 e true)
   (cond (decide (16 < (e.Anchors.length:Int)))
    (Br.j2 e true)
    ((Cm e.Anchors).bind fun y_3=>
    cond (!y_3)
     (Br.j2 e true)
     ((Cm e.Hashes).bind fun y_4=>
     Br.j2 e (!y_4)))))
def Br (e:Af):Option (Int):=
 (D8 e.Name).bind fun y=>
 cond (!y)
  (Br.j1 e true)
  (cond (decide (e.Least < 1))
   (Br.j1 e true)
   (cond (decide (e.Most < e.Least))
    (Br.j1 e true)
    (cond (decide (4 < e.Most))
     (Br.j1 e true)
     ((Cz e.Suites).bind fun y_2=>
     Br.j1 e (!y_2)))))
def D0 (p:D1) (kind:Int) (u:Ar) (number:Int):Option (D1):=
 (Ib 1232 p.l ([(Aa.mk p.at_.Source p.at_.Host p.at_.Machine p.at_.Day p.at_.Confidence kind p.at_.Subject u number p.at_.Text)]:List Aa)).bind fun l=>
 some (D1.mk p.at_ l)
def Cl.j1 (s:(List Aa)) (x4_1:Bool):Option ((List Aa)):=
 cond (x4_1)
  (some ([]:(List Aa)))
  ((Ib 1232 ([]:List Aa) s).bind fun l=>
  some l)
def Cl (s:(List Aa)):Option ((List Aa)):=
 jI (s)
  (Cl.j1 s true)
  (Cl.j1 s false)
def Bv.j3 (x_3:Int) (n_3:Int):Option (Int):=
 (fY (⟨#[0,1,2,2,3,3,3,3,4,4,4,4,4,4,4,4,5,5,5,5,5,5,5,5,5,5,5,5,5,5,5,5,6,6,6,6,6,6,6,6,6,6,6,6,6,6,6,6,6,6,6,6,6,6,6,6,6,6,6,6,6,6,6,6,7,7,7,7,7,7,7,7,7,7,7,7,7,7,7,7,7,7,7,7,7,7,7,7,7,7,7,7,7,7,7,7,7,7,7,7,7,7,7,7,7,7,7,7,7,7,7,7,7,7,7,7,7,7,7,7,7,7,7,7,7,7,7,7,8,8,8,8,8,8,8,8,8,8,8,8,8,8,8,8,8,8,8,8,8,8,8,8,8,8,8,8,8,8,8,8,8,8,8,8,8,8,8,8,8,8,8,8,8,8,8,8,8,8,8,8,8,8,8,8,8,8,8,8,8,8,8,8,8,8,8,8,8,8,8,8,8,8,8,8,8,8,8,8,8,8,8,8,8,8,8,8,8,8,8,8,8,8,8,8,8,8,8,8,8,8,8,8,8,8,8,8,8,8,8,8,8,8,8,8,8,8,8,8,8,8,8,8,8,8,8,8]⟩:ByteArray) ((u8 x_3).toNat:Int)).bind fun c=>
 some (W (n_3 + (c.toNat:Int)))
def Bv.j2 (x_2:Int) (n_2:Int):Option (Int):=
 cond (decide (256<=x_2))
  ((Uo .u64 x_2 8).bind fun q_3=>
  Bv.j3 q_3 (W (n_2 + 8)))
  (Bv.j3 x_2 n_2)
def Bv.j1 (x_1:Int) (n_1:Int):Option (Int):=
 cond (decide (65536<=x_1))
  ((Uo .u64 x_1 16).bind fun q_2=>
  Bv.j2 q_2 (W (n_1 + 16)))
  (Bv.j2 x_1 n_1)
def Bv (x':Int):Option (Int):=
 cond (decide (4294967296<=x'))
  ((Uo .u64 x' 32).bind fun q=>
  Bv.j1 q 32)
  (Bv.j1 x' 0)
def Ho (x':Int):Option (Int):=
 (Bv x').bind fun y=>
 some y
def Hc (c0:Aa) (c1:Aa):Option ((Aa×Aa)):=
 some (c0,c1)
def Hj (c0:Aa) (c1:Aa):Option ((Aa×Aa)):=
 some (c0,c1)
def Hd (c0:Aa) (c1:Aa):Option ((Aa×Aa)):=
 some (c0,c1)
def Hk (c0:Aa) (c1:Aa):Option ((Aa×Aa)):=
 some (c0,c1)
def Hl (c0:Aa) (c1:Aa):Option ((Aa×Aa)):=
 some (c0,c1)
def Hb (c0:Aa) (c1:Aa):Option ((Aa×Aa)):=
 some (c0,c1)
def Hm (c0:Aa) (c1:Aa):Option ((Aa×Aa)):=
 some (c0,c1)
def He (c0:Aa) (c1:Aa):Option ((Aa×Aa)):=
 some (c0,c1)
def Ha (c0:Aa) (c1:Aa):Option ((Aa×Aa)):=
 some (c0,c1)
def Hg (c0:Aa) (c1:Aa):Option ((Aa×Aa)):=
 some (c0,c1)
def Hf (c0:Aa) (c1:Aa):Option ((Aa×Aa)):=
 some (c0,c1)
def Il (f:Aa):Option (ByteArray):=
 some f.Host
def Fc (a:ByteArray) (b:ByteArray):Option (Int):=
 some (pU a b)
def Ga (a:ByteArray) (b:ByteArray):Option (Int):=
 (Fc a b).bind fun y=>
 some y
def Gd (c1:Aa) (c2:Aa):Option (Int):=
 (Il c1).bind fun y=>
 (Il c2).bind fun y_2=>
 (Ga y y_2).bind fun y_3=>
 some y_3
def Ie (f:Aa):Option (Int):=
 some f.Machine
def Jx (x':Int):Option (Bool):=
 some (!decide (x'=x'))
def D7 (x':Int) (y:Int):Option (Int):=
 (Jx x').bind fun y_2=>
 (Jx y).bind fun y_3=>
 cond (y_2)
  (cond (y_3)
   (some 0)
   (some (-1)))
  (cond (y_3)
   (some 1)
   (cond (decide (x' < y))
    (some (-1))
    (cond (decide (y < x'))
     (some 1)
     (some 0))))
def Gf (c1:Aa) (c2:Aa):Option (Int):=
 (Ie c1).bind fun y=>
 (Ie c2).bind fun y_2=>
 (D7 y y_2).bind fun y_3=>
 some y_3
def If (f:Aa):Option (Int):=
 some f.Day
def Gi (c1:Aa) (c2:Aa):Option (Int):=
 (If c1).bind fun y=>
 (If c2).bind fun y_2=>
 (D7 y y_2).bind fun y_3=>
 some y_3
def Ir (f:Aa):Option (ByteArray):=
 some f.Subject
def F7 (c1:Aa) (c2:Aa):Option (Int):=
 (Ir c1).bind fun y=>
 (Ir c2).bind fun y_2=>
 (Ga y y_2).bind fun y_3=>
 some y_3
def Ij (f:Aa):Option (Int):=
 some f.Kind
def Gn (c1:Aa) (c2:Aa):Option (Int):=
 (Ij c1).bind fun y=>
 (Ij c2).bind fun y_2=>
 (D7 y y_2).bind fun y_3=>
 some y_3
def Is (f:Aa):Option (Int):=
 some f.Use.Alg
def Gk (c1:Aa) (c2:Aa):Option (Int):=
 (Is c1).bind fun y=>
 (Is c2).bind fun y_2=>
 (D7 y y_2).bind fun y_3=>
 some y_3
def Ih (f:Aa):Option (Int):=
 some f.Use.Bits
def Gh (c1:Aa) (c2:Aa):Option (Int):=
 (Ih c1).bind fun y=>
 (Ih c2).bind fun y_2=>
 (D7 y y_2).bind fun y_3=>
 some y_3
def Ht (f:Aa):Option (Int):=
 some f.Number
def F9 (c1:Aa) (c2:Aa):Option (Int):=
 (Ht c1).bind fun y=>
 (Ht c2).bind fun y_2=>
 (D7 y y_2).bind fun y_3=>
 some y_3
def Hw (f:Aa):Option (ByteArray):=
 some f.Text
def Gl (c1:Aa) (c2:Aa):Option (Int):=
 (Hw c1).bind fun y=>
 (Hw c2).bind fun y_2=>
 (Ga y y_2).bind fun y_3=>
 some y_3
def Hu (f:Aa):Option (Int):=
 some f.Source
def Gc (c1:Aa) (c2:Aa):Option (Int):=
 (Hu c1).bind fun y=>
 (Hu c2).bind fun y_2=>
 (D7 y y_2).bind fun y_3=>
 some y_3
def Hz (f:Aa):Option (Int):=
 some f.Confidence
def Gj (c1:Aa) (c2:Aa):Option (Int):=
 (Hz c1).bind fun y=>
 (Hz c2).bind fun y_2=>
 (D7 y y_2).bind fun y_3=>
 some y_3
def Hn (a:Aa) (b:Aa):Option (Int):=
 (Hc a b).bind fun y=>
 (Hj a b).bind fun y_2=>
 (Hd a b).bind fun y_3=>
 (Hk a b).bind fun y_4=>
 (Hl a b).bind fun y_5=>
 (Hb a b).bind fun y_6=>
 (Hm a b).bind fun y_7=>
 (He a b).bind fun y_8=>
 (Ha a b).bind fun y_9=>
 (Hg a b).bind fun y_10=>
 (Hf a b).bind fun y_11=>
 (Gd y.1 y.2).bind fun y_12=>
 cond (!decide (y_12=0))
  (some y_12)
  ((Gf y_2.1 y_2.2).bind fun y_13=>
  cond (!decide (y_13=0))
   (some y_13)
   ((Gi y_3.1 y_3.2).bind fun y_14=>
   cond (!decide (y_14=0))
    (some y_14)
    ((F7 y_4.1 y_4.2).bind fun y_15=>
    cond (!decide (y_15=0))
     (some y_15)
     ((Gn y_5.1 y_5.2).bind fun y_16=>
     cond (!decide (y_16=0))
      (some y_16)
      ((Gk y_6.1 y_6.2).bind fun y_17=>
      cond (!decide (y_17=0))
       (some y_17)
       ((Gh y_7.1 y_7.2).bind fun y_18=>
       cond (!decide (y_18=0))
        (some y_18)
        ((F9 y_8.1 y_8.2).bind fun y_19=>
        cond (!decide (y_19=0))
         (some y_19)
         ((Gl y_9.1 y_9.2).bind fun y_20=>
         cond (!decide (y_20=0))
          (some y_20)
          ((Gc y_10.1 y_10.2).bind fun y_21=>
          cond (!decide (y_21=0))
           (some y_21)
           ((Gj y_11.1 y_11.2).bind fun y_22=>
           cond (!decide (y_22=0))
            (some y_22)
            (some 0)))))))))))
def Ao.j3 (i_1:Int) (j_2:Int) (data_2:List Aa) (x34_3:Bool):Option (Lp (Int×List Aa) (Lp (Int×List Aa) ((List Aa)))):=
 cond (x34_3)
  ((B5 data_2 (W (j_2 - 1))).bind fun e_3=>
  (B5 data_2 j_2).bind fun e_4=>
  (B5 (C2 data_2 ((j_2).toNat) e_3) (W (j_2 - 1))).bind fun e_5=>
  some (.next (W (j_2 - 1),C2 (C2 data_2 ((j_2).toNat) e_3) ((W (j_2 - 1)).toNat) e_4)))
  (up (
   some (.next (W (i_1 + 1),data_2))))
def Ao.l2 (a:Int) (cmp:Aa->Aa->Option (Int)) (i_1:Int) (j_2:Int) (data_2:List Aa):Option (Lp (Int×List Aa) (Lp (Int×List Aa) ((List Aa)))):=
 cond (decide (a < j_2))
  ((B5 data_2 j_2).bind fun e=>
  (B5 data_2 (W (j_2 - 1))).bind fun e_2=>
  (cmp e e_2).bind fun y=>
  Ao.j3 i_1 j_2 data_2 (decide (y < 0)))
  (Ao.j3 i_1 j_2 data_2 false)
def Ao.l1 (a:Int) (b:Int) (cmp:Aa->Aa->Option (Int)) (i_1:Int) (data_1:List Aa):Option (Lp (Int×List Aa) ((List Aa))):=
 cond (decide (i_1 < b))
  (Cp (fun q'=>Ao.l2 a cmp i_1 q'.1 q'.2) (i_1,data_1))
  (up (some data_1))
def Ao (data:List Aa) (a:Int) (b:Int) (cmp:Aa->Aa->Option (Int)):Option ((List Aa)):=
 Cp (fun q'=>Ao.l1 a b cmp q'.1 q'.2) (W (a + 1),data)
def Ap.j3 (first:Int) (cmp:Aa->Aa->Option (Int)) (root_1:Int) (data_1:List Aa) (child_3:Int):Option (Lp (Int×List Aa) ((List Aa))):=
 (B5 data_1 (W (first + root_1))).bind fun e_3=>
 (B5 data_1 (W (first + child_3))).bind fun e_4=>
 (cmp e_3 e_4).bind fun y_2=>
 cond (!(decide (y_2 < 0)))
  (up (some data_1))
  ((B5 (C2 data_1 ((W (first + root_1)).toNat) e_4) (W (first + child_3))).bind fun e_5=>
  some (.next (child_3,C2 (C2 data_1 ((W (first + root_1)).toNat) e_4) ((W (first + child_3)).toNat) e_3)))
def Ap.j2 (first:Int) (cmp:Aa->Aa->Option (Int)) (root_1:Int) (data_1:List Aa) (x40_2:Bool):Option (Lp (Int×List Aa) ((List Aa))):=
 cond (x40_2)
  (Ap.j3 first cmp root_1 data_1 (W ((W ((W (2 * root_1)) + 1)) + 1)))
  (Ap.j3 first cmp root_1 data_1 (W ((W (2 * root_1)) + 1)))
def Ap.l1 (hi:Int) (first:Int) (cmp:Aa->Aa->Option (Int)) (root_1:Int) (data_1:List Aa):Option (Lp (Int×List Aa) ((List Aa))):=
 cond (decide (hi<=(W ((W (2 * root_1)) + 1))))
  (up (some data_1))
  (cond (decide ((W ((W ((W (2 * root_1)) + 1)) + 1)) < hi))
   ((B5 data_1 (W (first + (W ((W (2 * root_1)) + 1))))).bind fun e=>
   (B5 data_1 (W ((W (first + (W ((W (2 * root_1)) + 1)))) + 1))).bind fun e_2=>
   (cmp e e_2).bind fun y=>
   Ap.j2 first cmp root_1 data_1 (decide (y < 0)))
   (Ap.j2 first cmp root_1 data_1 false))
def Ap (data:List Aa) (lo:Int) (hi:Int) (first:Int) (cmp:Aa->Aa->Option (Int)):Option ((List Aa)):=
 Cp (fun q'=>Ap.l1 hi first cmp q'.1 q'.2) (lo,data)
def A3.l2 (a:Int) (cmp:Aa->Aa->Option (Int)) (i_2:Int) (data_2:List Aa):Option (Lp (Int×List Aa) ((List Aa))):=
 cond (decide (0<=i_2))
  ((B5 data_2 (W (a + i_2))).bind fun e=>
  (B5 data_2 a).bind fun e_2=>
  (B5 (C2 data_2 ((a).toNat) e) (W (a + i_2))).bind fun e_3=>
  (Ap (C2 (C2 data_2 ((a).toNat) e) ((W (a + i_2)).toNat) e_2) 0 i_2 a cmp).bind fun y_2=>
  some (.next (W (i_2 - 1),y_2)))
  (up (some data_2))
def A3.l1 (a:Int) (b:Int) (cmp:Aa->Aa->Option (Int)) (i_1:Int) (data_1:List Aa):Option (Lp (Int×List Aa) ((List Aa))):=
 cond (decide (0<=i_1))
  ((Ap data_1 i_1 (W (b - a)) a cmp).bind fun y=>
  some (.next (W (i_1 - 1),y)))
  (up (
   Cp (fun q'=>A3.l2 a cmp q'.1 q'.2) (W ((W (b - a)) - 1),data_1)))
def A3 (data:List Aa) (a:Int) (b:Int) (cmp:Aa->Aa->Option (Int)):Option ((List Aa)):=
 (M2 (W ((W (b - a)) - 1)) 2).bind fun q=>
 Cp (fun q'=>A3.l1 a b cmp q'.1 q'.2) (q,data)
def Fy (length:Int):Option (Int):=
 (Ho (IntKind.wrap .u64 length)).bind fun y=>
 (cD .u64 1 y).bind fun q=>
 some q
def F6 (r':Int):Option (Int×Int):=
 (cD .u64 r' 13).bind fun q=>
 (Uo .u64 (Qy .u64 r' q) 7).bind fun q_2=>
 (cD .u64 (Qy .u64 (Qy .u64 r' q) q_2) 17).bind fun q_3=>
 some (Qy .u64 (Qy .u64 (Qy .u64 r' q) q_2) q_3,Qy .u64 (Qy .u64 (Qy .u64 r' q) q_2) q_3)
def A1.j2 (a:Int) (idx_1:Int) (data_1:List Aa) (y_2:Int×Int) (other_2:Int):Option (Lp (Int×List Aa×Int) ((List Aa))):=
 (B5 data_1 (W (a + other_2))).bind fun e=>
 (B5 data_1 idx_1).bind fun e_2=>
 (B5 (C2 data_1 ((idx_1).toNat) e) (W (a + other_2))).bind fun e_3=>
 some (.next (W (idx_1 + 1),C2 (C2 data_1 ((idx_1).toNat) e) ((W (a + other_2)).toNat) e_2,y_2.2))
def A1.l1 (a:Int) (b:Int) (y:Int) (idx_1:Int) (data_1:List Aa) (random_1:Int):Option (Lp (Int×List Aa×Int) ((List Aa))):=
 (M2 (W (b - a)) 4).bind fun q_2=>
 cond (decide (idx_1<=(W ((W (a + (W (q_2 * 2)))) + 1))))
  ((F6 random_1).bind fun y_2=>
  cond (decide ((W (b - a))<=(W (gY .u64 y_2.1 (IntKind.wrap .u64 (y - 1))))))
   (A1.j2 a idx_1 data_1 y_2 (W ((W (gY .u64 y_2.1 (IntKind.wrap .u64 (y - 1)))) - (W (b - a)))))
   (A1.j2 a idx_1 data_1 y_2 (W (gY .u64 y_2.1 (IntKind.wrap .u64 (y - 1))))))
  (up (some data_1))
def A1 (data:List Aa) (a:Int) (b:Int) (cmp:Aa->Aa->Option (Int)):Option ((List Aa)):=
 cond (decide (8<=(W (b - a))))
  ((Fy (W (b - a))).bind fun y=>
  (M2 (W (b - a)) 4).bind fun q=>
  Cp (fun q'=>A1.l1 a b y q'.1 q'.2.1 q'.2.2) (W ((W (a + (W (q * 2)))) - 1),data,IntKind.wrap .u64 (W (b - a))))
  (some data)
def Di (data:(List Aa)) (a:Int) (b:Int) (swaps:Int) (cmp:Aa->Aa->Option (Int)):Option (Int×Int×Int):=
 (B5 data b).bind fun e=>
 (B5 data a).bind fun e_2=>
 (cmp e e_2).bind fun y=>
 cond (decide (y < 0))
  (some (b,a,W (swaps + 1)))
  (some (a,b,swaps))
def Du (data:(List Aa)) (a:Int) (b:Int) (c:Int) (swaps:Int) (cmp:Aa->Aa->Option (Int)):Option (Int×Int):=
 (Di data a b swaps cmp).bind fun y=>
 (Di data y.2.1 c y.2.2 cmp).bind fun y_2=>
 (Di data y.1 y_2.1 y_2.2.2 cmp).bind fun y_3=>
 some (y_3.2.1,y_3.2.2)
def Cs (data:(List Aa)) (a:Int) (swaps:Int) (cmp:Aa->Aa->Option (Int)):Option (Int×Int):=
 (Du data (W (a - 1)) a (W (a + 1)) swaps cmp).bind fun y=>
 some (y.1,y.2)
def A6.j2 (j_2:Int) (swaps_2:Int):Option (Int×Int):=
 cond (decide (swaps_2=0))
  (some (j_2,1))
  (cond (decide (swaps_2=12))
   (some (j_2,2))
   (some (j_2,0)))
def A6.j1 (data:(List Aa)) (cmp:Aa->Aa->Option (Int)) (i_1:Int) (j_1:Int) (k_1:Int) (swaps_1:Int):Option (Int×Int):=
 (Du data i_1 j_1 k_1 swaps_1 cmp).bind fun y_4=>
 A6.j2 y_4.1 y_4.2
def A6 (data:(List Aa)) (a:Int) (b:Int) (cmp:Aa->Aa->Option (Int)):Option (Int×Int):=
 (M2 (W (b - a)) 4).bind fun q=>
 (M2 (W (b - a)) 4).bind fun q_2=>
 (M2 (W (b - a)) 4).bind fun q_3=>
 cond (decide (8<=(W (b - a))))
  (cond (decide (50<=(W (b - a))))
   ((Cs data (W (a + (W (q * 1)))) 0 cmp).bind fun y=>
   (Cs data (W (a + (W (q_2 * 2)))) y.2 cmp).bind fun y_2=>
   (Cs data (W (a + (W (q_3 * 3)))) y_2.2 cmp).bind fun y_3=>
   A6.j1 data cmp y.1 y_2.1 y_3.1 y_3.2)
   (A6.j1 data cmp (W (a + (W (q * 1)))) (W (a + (W (q_2 * 2)))) (W (a + (W (q_3 * 3)))) 0))
  (A6.j2 (W (a + (W (q_2 * 2)))) 0)
def Bj.l1 (i_1:Int) (j_1:Int) (data_1:List Aa):Option (Lp (Int×Int×List Aa) ((List Aa))):=
 cond (decide (i_1 < j_1))
  ((B5 data_1 j_1).bind fun e=>
  (B5 data_1 i_1).bind fun e_2=>
  (B5 (C2 data_1 ((i_1).toNat) e) j_1).bind fun e_3=>
  some (.next (W (i_1 + 1),W (j_1 - 1),C2 (C2 data_1 ((i_1).toNat) e) ((j_1).toNat) e_2)))
  (up (some data_1))
def Bj (data:List Aa) (a:Int) (b:Int) (cmp:Aa->Aa->Option (Int)):Option ((List Aa)):=
 Cp (fun q'=>Bj.l1 q'.1 q'.2.1 q'.2.2) (a,W (b - 1),data)
def Ac.j7 (j_1:Int) (i_7:Int) (data_7:List Aa):Option (Lp (Int×Int×List Aa) (Bool×(List Aa))):=
 some (.next (i_7,W (j_1 + 1),data_7))
def Ac.l6 (b:Int) (cmp:Aa->Aa->Option (Int)) (j_1:Int) (i_2:Int) (j_6:Int) (data_6:List Aa):Option (Lp (Int×List Aa) (Lp (Int×Int×List Aa) (Bool×(List Aa)))):=
 cond (decide (j_6 < b))
  ((B5 data_6 j_6).bind fun e_9=>
  (B5 data_6 (W (j_6 - 1))).bind fun e_10=>
  (cmp e_9 e_10).bind fun y_3=>
  cond (!(decide (y_3 < 0)))
   (up (
    Ac.j7 j_1 i_2 data_6))
   ((B5 (C2 data_6 ((j_6).toNat) e_10) (W (j_6 - 1))).bind fun e_11=>
   some (.next (W (j_6 + 1),C2 (C2 data_6 ((j_6).toNat) e_10) ((W (j_6 - 1)).toNat) e_9))))
  (up (
   Ac.j7 j_1 i_2 data_6))
def Ac.j5 (b:Int) (cmp:Aa->Aa->Option (Int)) (j_1:Int) (i_2:Int) (data_5:List Aa):Option (Lp (Int×Int×List Aa) (Bool×(List Aa))):=
 cond (decide (2<=(W (b - i_2))))
  (Cp (fun q'=>Ac.l6 b cmp j_1 i_2 q'.1 q'.2) (W (i_2 + 1),data_5))
  (Ac.j7 j_1 i_2 data_5)
def Ac.l4 (b:Int) (cmp:Aa->Aa->Option (Int)) (j_1:Int) (i_2:Int) (j_4:Int) (data_4:List Aa):Option (Lp (Int×List Aa) (Lp (Int×Int×List Aa) (Bool×(List Aa)))):=
 cond (decide (1<=j_4))
  ((B5 data_4 j_4).bind fun e_6=>
  (B5 data_4 (W (j_4 - 1))).bind fun e_7=>
  (cmp e_6 e_7).bind fun y_2=>
  cond (!(decide (y_2 < 0)))
   (up (
    Ac.j5 b cmp j_1 i_2 data_4))
   ((B5 (C2 data_4 ((j_4).toNat) e_7) (W (j_4 - 1))).bind fun e_8=>
   some (.next (W (j_4 - 1),C2 (C2 data_4 ((j_4).toNat) e_7) ((W (j_4 - 1)).toNat) e_6))))
  (up (
   Ac.j5 b cmp j_1 i_2 data_4))
def Ac.j3 (a:Int) (b:Int) (cmp:Aa->Aa->Option (Int)) (j_1:Int) (data_1:List Aa) (i_2:Int) (x36_3:Bool):Option (Lp (Int) (Lp (Int×Int×List Aa) (Bool×(List Aa)))):=
 cond (x36_3)
  (some (.next (W (i_2 + 1))))
  (up (
   cond (decide (i_2=b))
    (up (some (true,data_1)))
    (cond (decide ((W (b - a)) < 50))
     (up (some (false,data_1)))
     ((B5 data_1 (W (i_2 - 1))).bind fun e_3=>
     (B5 data_1 i_2).bind fun e_4=>
     (B5 (C2 data_1 ((i_2).toNat) e_3) (W (i_2 - 1))).bind fun e_5=>
     cond (decide (2<=(W (i_2 - a))))
      (Cp (fun q'=>Ac.l4 b cmp j_1 i_2 q'.1 q'.2) (W (i_2 - 1),C2 (C2 data_1 ((i_2).toNat) e_3) ((W (i_2 - 1)).toNat) e_4))
      (Ac.j5 b cmp j_1 i_2 (C2 (C2 data_1 ((i_2).toNat) e_3) ((W (i_2 - 1)).toNat) e_4))))))
def Ac.l2 (a:Int) (b:Int) (cmp:Aa->Aa->Option (Int)) (j_1:Int) (data_1:List Aa) (i_2:Int):Option (Lp (Int) (Lp (Int×Int×List Aa) (Bool×(List Aa)))):=
 cond (decide (i_2 < b))
  ((B5 data_1 i_2).bind fun e=>
  (B5 data_1 (W (i_2 - 1))).bind fun e_2=>
  (cmp e e_2).bind fun y=>
  Ac.j3 a b cmp j_1 data_1 i_2 (!(decide (y < 0))))
  (Ac.j3 a b cmp j_1 data_1 i_2 false)
def Ac.l1 (a:Int) (b:Int) (cmp:Aa->Aa->Option (Int)) (i_1:Int) (j_1:Int) (data_1:List Aa):Option (Lp (Int×Int×List Aa) (Bool×(List Aa))):=
 cond (decide (j_1 < 5))
  (Cp (fun q'=>Ac.l2 a b cmp j_1 data_1 q') i_1)
  (up (
   some (false,data_1)))
def Ac (data:List Aa) (a:Int) (b:Int) (cmp:Aa->Aa->Option (Int)):Option (Bool×(List Aa)):=
 Cp (fun q'=>Ac.l1 a b cmp q'.1 q'.2.1 q'.2.2) (W (a + 1),0,data)
def An.j5 (data_1:List Aa) (i_2:Int) (j_4:Int) (x65_5:Bool):Option (Lp (Int) (Lp (Int×Int×List Aa) (Int×(List Aa)))):=
 cond (x65_5)
  (some (.next (W (j_4 - 1))))
  (up (
   cond (decide (j_4 < i_2))
    (up (
     some (i_2,data_1)))
    ((B5 data_1 j_4).bind fun e_8=>
    (B5 data_1 i_2).bind fun e_9=>
    (B5 (C2 data_1 ((i_2).toNat) e_8) j_4).bind fun e_10=>
    some (.next (W (i_2 + 1),W (j_4 - 1),C2 (C2 data_1 ((i_2).toNat) e_8) ((j_4).toNat) e_9)))))
def An.l4 (a:Int) (cmp:Aa->Aa->Option (Int)) (data_1:List Aa) (i_2:Int) (j_4:Int):Option (Lp (Int) (Lp (Int×Int×List Aa) (Int×(List Aa)))):=
 cond (decide (i_2<=j_4))
  ((B5 data_1 a).bind fun e_6=>
  (B5 data_1 j_4).bind fun e_7=>
  (cmp e_6 e_7).bind fun y_2=>
  An.j5 data_1 i_2 j_4 (decide (y_2 < 0)))
  (An.j5 data_1 i_2 j_4 false)
def An.j3 (a:Int) (cmp:Aa->Aa->Option (Int)) (j_1:Int) (data_1:List Aa) (i_2:Int) (x47_3:Bool):Option (Lp (Int) (Lp (Int×Int×List Aa) (Int×(List Aa)))):=
 cond (x47_3)
  (some (.next (W (i_2 + 1))))
  (up (
   Cp (fun q'=>An.l4 a cmp data_1 i_2 q') j_1))
def An.l2 (a:Int) (cmp:Aa->Aa->Option (Int)) (j_1:Int) (data_1:List Aa) (i_2:Int):Option (Lp (Int) (Lp (Int×Int×List Aa) (Int×(List Aa)))):=
 cond (decide (i_2<=j_1))
  ((B5 data_1 a).bind fun e_4=>
  (B5 data_1 i_2).bind fun e_5=>
  (cmp e_4 e_5).bind fun y=>
  An.j3 a cmp j_1 data_1 i_2 (!(decide (y < 0))))
  (An.j3 a cmp j_1 data_1 i_2 false)
def An.l1 (a:Int) (cmp:Aa->Aa->Option (Int)) (i_1:Int) (j_1:Int) (data_1:List Aa):Option (Lp (Int×Int×List Aa) (Int×(List Aa))):=
 Cp (fun q'=>An.l2 a cmp j_1 data_1 q') i_1
def An (data:List Aa) (a:Int) (b:Int) (pivot:Int) (cmp:Aa->Aa->Option (Int)):Option (Int×(List Aa)):=
 (B5 data pivot).bind fun e=>
 (B5 data a).bind fun e_2=>
 (B5 (C2 data ((a).toNat) e) pivot).bind fun e_3=>
 Cp (fun q'=>An.l1 a cmp q'.1 q'.2.1 q'.2.2) (W (a + 1),W (b - 1),C2 (C2 data ((a).toNat) e) ((pivot).toNat) e_2)
def Ad.j9 (a:Int) (data_5:List Aa) (i_6:Int) (j_8:Int) (x139_9:Bool):Option (Lp (Int) (Lp (Int×Int×List Aa) (Int×Bool×(List Aa)))):=
 cond (x139_9)
  (some (.next (W (j_8 - 1))))
  (up (
   cond (decide (j_8 < i_6))
    (up (
     (B5 data_5 a).bind fun e_21=>
     (B5 data_5 j_8).bind fun e_22=>
     (B5 (C2 data_5 ((j_8).toNat) e_21) a).bind fun e_23=>
     some (j_8,false,C2 (C2 data_5 ((j_8).toNat) e_21) ((a).toNat) e_22)))
    ((B5 data_5 j_8).bind fun e_18=>
    (B5 data_5 i_6).bind fun e_19=>
    (B5 (C2 data_5 ((i_6).toNat) e_18) j_8).bind fun e_20=>
    some (.next (W (i_6 + 1),W (j_8 - 1),C2 (C2 data_5 ((i_6).toNat) e_18) ((j_8).toNat) e_19)))))
def Ad.l8 (a:Int) (cmp:Aa->Aa->Option (Int)) (data_5:List Aa) (i_6:Int) (j_8:Int):Option (Lp (Int) (Lp (Int×Int×List Aa) (Int×Bool×(List Aa)))):=
 cond (decide (i_6<=j_8))
  ((B5 data_5 j_8).bind fun e_16=>
  (B5 data_5 a).bind fun e_17=>
  (cmp e_16 e_17).bind fun y_4=>
  Ad.j9 a data_5 i_6 j_8 (!(decide (y_4 < 0))))
  (Ad.j9 a data_5 i_6 j_8 false)
def Ad.j7 (a:Int) (cmp:Aa->Aa->Option (Int)) (j_5:Int) (data_5:List Aa) (i_6:Int) (x120_7:Bool):Option (Lp (Int) (Lp (Int×Int×List Aa) (Int×Bool×(List Aa)))):=
 cond (x120_7)
  (some (.next (W (i_6 + 1))))
  (up (
   Cp (fun q'=>Ad.l8 a cmp data_5 i_6 q') j_5))
def Ad.l6 (a:Int) (cmp:Aa->Aa->Option (Int)) (j_5:Int) (data_5:List Aa) (i_6:Int):Option (Lp (Int) (Lp (Int×Int×List Aa) (Int×Bool×(List Aa)))):=
 cond (decide (i_6<=j_5))
  ((B5 data_5 i_6).bind fun e_14=>
  (B5 data_5 a).bind fun e_15=>
  (cmp e_14 e_15).bind fun y_3=>
  Ad.j7 a cmp j_5 data_5 i_6 (decide (y_3 < 0)))
  (Ad.j7 a cmp j_5 data_5 i_6 false)
def Ad.l5 (a:Int) (cmp:Aa->Aa->Option (Int)) (i_5:Int) (j_5:Int) (data_5:List Aa):Option (Lp (Int×Int×List Aa) (Int×Bool×(List Aa))):=
 Cp (fun q'=>Ad.l6 a cmp j_5 data_5 q') i_5
def Ad.j4 (data:List Aa) (a:Int) (pivot:Int) (cmp:Aa->Aa->Option (Int)) (e:Aa) (e_2:Aa) (i_1:Int) (j_3:Int) (x66_4:Bool):Option (Lp (Int) (Int×Bool×(List Aa))):=
 cond (x66_4)
  (some (.next (W (j_3 - 1))))
  (up (
   cond (decide (j_3 < i_1))
    ((B5 (C2 (C2 data ((a).toNat) e) ((pivot).toNat) e_2) a).bind fun e_8=>
    (B5 (C2 (C2 data ((a).toNat) e) ((pivot).toNat) e_2) j_3).bind fun e_9=>
    (B5 (C2 (C2 (C2 data ((a).toNat) e) ((pivot).toNat) e_2) ((j_3).toNat) e_8) a).bind fun e_10=>
    some (j_3,true,C2 (C2 (C2 (C2 data ((a).toNat) e) ((pivot).toNat) e_2) ((j_3).toNat) e_8) ((a).toNat) e_9))
    ((B5 (C2 (C2 data ((a).toNat) e) ((pivot).toNat) e_2) j_3).bind fun e_11=>
    (B5 (C2 (C2 data ((a).toNat) e) ((pivot).toNat) e_2) i_1).bind fun e_12=>
    (B5 (C2 (C2 (C2 data ((a).toNat) e) ((pivot).toNat) e_2) ((i_1).toNat) e_11) j_3).bind fun e_13=>
    Cp (fun q'=>Ad.l5 a cmp q'.1 q'.2.1 q'.2.2) (W (i_1 + 1),W (j_3 - 1),C2 (C2 (C2 (C2 data ((a).toNat) e) ((pivot).toNat) e_2) ((i_1).toNat) e_11) ((j_3).toNat) e_12))))
def Ad.l3 (data:List Aa) (a:Int) (pivot:Int) (cmp:Aa->Aa->Option (Int)) (e:Aa) (e_2:Aa) (i_1:Int) (j_3:Int):Option (Lp (Int) (Int×Bool×(List Aa))):=
 cond (decide (i_1<=j_3))
  ((B5 (C2 (C2 data ((a).toNat) e) ((pivot).toNat) e_2) j_3).bind fun e_6=>
  (B5 (C2 (C2 data ((a).toNat) e) ((pivot).toNat) e_2) a).bind fun e_7=>
  (cmp e_6 e_7).bind fun y_2=>
  Ad.j4 data a pivot cmp e e_2 i_1 j_3 (!(decide (y_2 < 0))))
  (Ad.j4 data a pivot cmp e e_2 i_1 j_3 false)
def Ad.j2 (data:List Aa) (a:Int) (b:Int) (pivot:Int) (cmp:Aa->Aa->Option (Int)) (e:Aa) (e_2:Aa) (i_1:Int) (x47_2:Bool):Option (Lp (Int) (Int×Bool×(List Aa))):=
 cond (x47_2)
  (some (.next (W (i_1 + 1))))
  (up (
   Cp (fun q'=>Ad.l3 data a pivot cmp e e_2 i_1 q') (W (b - 1))))
def Ad.l1 (data:List Aa) (a:Int) (b:Int) (pivot:Int) (cmp:Aa->Aa->Option (Int)) (e:Aa) (e_2:Aa) (i_1:Int):Option (Lp (Int) (Int×Bool×(List Aa))):=
 cond (decide (i_1<=(W (b - 1))))
  ((B5 (C2 (C2 data ((a).toNat) e) ((pivot).toNat) e_2) i_1).bind fun e_4=>
  (B5 (C2 (C2 data ((a).toNat) e) ((pivot).toNat) e_2) a).bind fun e_5=>
  (cmp e_4 e_5).bind fun y=>
  Ad.j2 data a b pivot cmp e e_2 i_1 (decide (y < 0)))
  (Ad.j2 data a b pivot cmp e e_2 i_1 false)
def Ad (data:List Aa) (a:Int) (b:Int) (pivot:Int) (cmp:Aa->Aa->Option (Int)):Option (Int×Bool×(List Aa)):=
 (B5 data pivot).bind fun e=>
 (B5 data a).bind fun e_2=>
 (B5 (C2 data ((a).toNat) e) pivot).bind fun e_3=>
 Cp (fun q'=>Ad.l1 data a b pivot cmp e e_2 q') (W (a + 1))
def Aj.j6 (rec:(List Aa)->Int->Int->Int->Option ((List Aa))) (cmp:Aa->Aa->Option (Int)) (a_1:Int) (b_1:Int) (wasBalanced_1:Bool) (wasPartitioned_1:Bool) (limit_2:Int) (pivot_3:Int) (data_5:List Aa) (x97_6:Bool):Option (Lp (Int×Int×Int×Bool×Bool×List Aa) ((List Aa))):=
 cond (x97_6)
  ((An data_5 a_1 b_1 pivot_3 cmp).bind fun y_8=>
  some (.next (y_8.1,b_1,limit_2,wasBalanced_1,wasPartitioned_1,y_8.2)))
  ((Ad data_5 a_1 b_1 pivot_3 cmp).bind fun y_9=>
  (M2 (W (b_1 - a_1)) 8).bind fun q=>
  cond (decide ((W (y_9.1 - a_1)) < (W (b_1 - y_9.1))))
   ((rec y_9.2.2 a_1 y_9.1 limit_2).bind fun y_10=>
   some (.next (W (y_9.1 + 1),b_1,limit_2,decide (q<=(W (y_9.1 - a_1))),y_9.2.1,y_10)))
   ((rec y_9.2.2 (W (y_9.1 + 1)) b_1 limit_2).bind fun y_11=>
   some (.next (a_1,y_9.1,limit_2,decide (q<=(W (b_1 - y_9.1))),y_9.2.1,y_11))))
def Aj.j5 (rec:(List Aa)->Int->Int->Int->Option ((List Aa))) (cmp:Aa->Aa->Option (Int)) (a_1:Int) (b_1:Int) (wasBalanced_1:Bool) (wasPartitioned_1:Bool) (limit_2:Int) (pivot_3:Int) (data_5:List Aa):Option (Lp (Int×Int×Int×Bool×Bool×List Aa) ((List Aa))):=
 cond (decide (0 < a_1))
  ((B5 data_5 (W (a_1 - 1))).bind fun e=>
  (B5 data_5 pivot_3).bind fun e_2=>
  (cmp e e_2).bind fun y_7=>
  Aj.j6 rec cmp a_1 b_1 wasBalanced_1 wasPartitioned_1 limit_2 pivot_3 data_5 (!(decide (y_7 < 0))))
  (Aj.j6 rec cmp a_1 b_1 wasBalanced_1 wasPartitioned_1 limit_2 pivot_3 data_5 false)
def Aj.j4 (rec:(List Aa)->Int->Int->Int->Option ((List Aa))) (cmp:Aa->Aa->Option (Int)) (a_1:Int) (b_1:Int) (wasBalanced_1:Bool) (wasPartitioned_1:Bool) (limit_2:Int) (pivot_3:Int) (data_3:List Aa) (x75_4:Bool):Option (Lp (Int×Int×Int×Bool×Bool×List Aa) ((List Aa))):=
 cond (x75_4)
  ((Ac data_3 a_1 b_1 cmp).bind fun y_6=>
  cond (y_6.1)
   (up (some y_6.2))
   (Aj.j5 rec cmp a_1 b_1 wasBalanced_1 wasPartitioned_1 limit_2 pivot_3 y_6.2))
  (Aj.j5 rec cmp a_1 b_1 wasBalanced_1 wasPartitioned_1 limit_2 pivot_3 data_3)
def Aj.j3 (rec:(List Aa)->Int->Int->Int->Option ((List Aa))) (cmp:Aa->Aa->Option (Int)) (a_1:Int) (b_1:Int) (wasBalanced_1:Bool) (wasPartitioned_1:Bool) (limit_2:Int) (pivot_3:Int) (hint_3:Int) (data_3:List Aa):Option (Lp (Int×Int×Int×Bool×Bool×List Aa) ((List Aa))):=
 cond (wasBalanced_1)
  (cond (wasPartitioned_1)
   (Aj.j4 rec cmp a_1 b_1 wasBalanced_1 wasPartitioned_1 limit_2 pivot_3 data_3 (decide (hint_3=1)))
   (Aj.j4 rec cmp a_1 b_1 wasBalanced_1 wasPartitioned_1 limit_2 pivot_3 data_3 false))
  (Aj.j4 rec cmp a_1 b_1 wasBalanced_1 wasPartitioned_1 limit_2 pivot_3 data_3 false)
def Aj.j2 (rec:(List Aa)->Int->Int->Int->Option ((List Aa))) (cmp:Aa->Aa->Option (Int)) (a_1:Int) (b_1:Int) (wasBalanced_1:Bool) (wasPartitioned_1:Bool) (limit_2:Int) (data_2:List Aa):Option (Lp (Int×Int×Int×Bool×Bool×List Aa) ((List Aa))):=
 (A6 data_2 a_1 b_1 cmp).bind fun y_4=>
 cond (decide (y_4.2=2))
  ((Bj data_2 a_1 b_1 cmp).bind fun y_5=>
  Aj.j3 rec cmp a_1 b_1 wasBalanced_1 wasPartitioned_1 limit_2 (W ((W (b_1 - 1)) - (W (y_4.1 - a_1)))) 1 y_5)
  (Aj.j3 rec cmp a_1 b_1 wasBalanced_1 wasPartitioned_1 limit_2 y_4.1 y_4.2 data_2)
def Aj.l1 (rec:(List Aa)->Int->Int->Int->Option ((List Aa))) (cmp:Aa->Aa->Option (Int)) (a_1:Int) (b_1:Int) (limit_1:Int) (wasBalanced_1:Bool) (wasPartitioned_1:Bool) (data_1:List Aa):Option (Lp (Int×Int×Int×Bool×Bool×List Aa) ((List Aa))):=
 cond (decide ((W (b_1 - a_1))<=12))
  ((Ao data_1 a_1 b_1 cmp).bind fun y=>
  up (some y))
  (cond (decide (limit_1=0))
   ((A3 data_1 a_1 b_1 cmp).bind fun y_2=>
   up (some y_2))
   (cond (!wasBalanced_1)
    ((A1 data_1 a_1 b_1 cmp).bind fun y_3=>
    Aj.j2 rec cmp a_1 b_1 wasBalanced_1 wasPartitioned_1 (W (limit_1 - 1)) y_3)
    (Aj.j2 rec cmp a_1 b_1 wasBalanced_1 wasPartitioned_1 limit_1 data_1)))
def Aj.F (rec:(List Aa)->Int->Int->Int->Option ((List Aa))) (data:List Aa) (a:Int) (b:Int) (limit:Int) (cmp:Aa->Aa->Option (Int)):Option ((List Aa)):=
 Cp (fun q'=>Aj.l1 rec cmp q'.1 q'.2.1 q'.2.2.1 q'.2.2.2.1 q'.2.2.2.2.1 q'.2.2.2.2.2) (a,b,limit,true,true,data)
def Aj (data:List Aa) (a:Int) (b:Int) (limit:Int) (cmp:Aa->Aa->Option (Int)):Option ((List Aa)):=Ys (fun rec (x:List Aa×Int×Int×Int)=>Aj.F (fun data a b limit=>rec (data,a,b,limit)) x.1 x.2.1 x.2.2.1 x.2.2.2 cmp) (data,a,b,limit)
def Ec (x':List Aa) (cmp:Aa->Aa->Option (Int)):Option ((List Aa)):=
 (Ho (IntKind.wrap .u64 (x'.length:Int))).bind fun y=>
 (Aj x' 0 (x'.length:Int) y cmp).bind fun y_2=>
 some y_2
def Bg.j3 (k2_2:Int) (k_3:Int) (s_3:List Aa):Option (Lp (Int×Int×List Aa) (Lp (Int) ((List Aa)))):=
 some (.next (k_3,W (k2_2 + 1),s_3))
def Bg.l2 (s:List Aa) (k_1:Int) (k_2:Int) (k2_2:Int) (s_2:List Aa):Option (Lp (Int×Int×List Aa) (Lp (Int) ((List Aa)))):=
 cond (decide (k2_2 < (((((s.length:Int):Int).toNat - (k_1:Int).toNat):Nat):Int)))
  ((B5 ((s_2.drop ((k_1:Int).toNat)).take (((s.length:Int):Int).toNat - (k_1:Int).toNat)) k2_2).bind fun e_3=>
  (B5 ((s_2.drop ((k_1:Int).toNat)).take (((s.length:Int):Int).toNat - (k_1:Int).toNat)) (W (k2_2 - 1))).bind fun e_4=>
  cond (!decide (e_3=e_4))
   ((B5 s_2 k_2).bind fun e_5=>
   Bg.j3 k2_2 (W (k_2 + 1)) (C2 s_2 ((k_2).toNat) e_3))
   (Bg.j3 k2_2 k_2 s_2))
  (up (
   (U0 s_2 k_2 (s_2.length:Int)).bind fun l_2=>
   (lO s_2 ((k_2:Int).toNat) (((s_2.length:Int):Int).toNat - (k_2:Int).toNat) ((Aa.mk 0 (⟨#[]⟩:ByteArray) 0 0 0 0 (⟨#[]⟩:ByteArray) (Ar.mk 0 0) 0 (⟨#[]⟩:ByteArray)):Aa)).bind fun l_3=>
   (U0 l_3 0 k_2).bind fun l_4=>
   up (some (l_3.take ((k_2:Int).toNat - (0:Int).toNat)))))
def Bg.l1 (s:List Aa) (k_1:Int):Option (Lp (Int) ((List Aa))):=
 cond (decide (k_1 < (s.length:Int)))
  ((B5 s k_1).bind fun e=>
  (B5 s (W (k_1 - 1))).bind fun e_2=>
  cond (decide (e=e_2))
   ((U0 s k_1 (s.length:Int)).bind fun l=>
   Cp (fun q'=>Bg.l2 s k_1 q'.1 q'.2.1 q'.2.2) (k_1,1,s))
   (some (.next (W (k_1 + 1)))))
  (up (
   some s))
def Bg (s:List Aa):Option ((List Aa)):=
 cond (decide ((s.length:Int) < 2))
  (some s)
  (Cp (fun q'=>Bg.l1 s q') 1)
def D9.l1 (l:(List Aa)) (x10_1:Int):Option (Lp (Int) ((List Aa)×Int)):=
 cond (decide (x10_1 < (l.length:Int)))
  ((B5 l x10_1).bind fun e=>
  (Bx e).bind fun y=>
  cond (!decide (y=0))
   (up (some (([]:(List Aa)),y)))
   (some (.next (W (x10_1 + 1)))))
  (up (
   (Cl l).bind fun y_2=>
   (Ec y_2 (fun x0 x1=>Hn x0 x1)).bind fun y_3=>
   (Bg y_3).bind fun y_4=>
   cond (decide (400 < (y_4.length:Int)))
    (some (([]:(List Aa)),3))
    (some (y_4,0))))
def D9 (l:(List Aa)):Option ((List Aa)×Int):=
 Cp (fun q'=>D9.l1 l q') 0
def Be.l5 (e:Af) (x79_5:Int) (p_5:Int) (p_5_2:ByteArray) (p_5_3:Int) (p_5_4:Int) (p_5_5:Int) (p_5_6:Int) (p_5_7:ByteArray) (p_5_8:Int) (p_5_9:Int) (p_5_10:Int) (p_5_11:ByteArray) (l_5:List Aa):Option (Lp (Int×Int×ByteArray×Int×Int×Int×Int×ByteArray×Int×Int×Int×ByteArray×List Aa) ((List Aa)×Int)):=
 cond (decide (x79_5 < (e.Hashes.length:Int)))
  ((B5 e.Hashes x79_5).bind fun e_5=>
  (D0 (D1.mk (Aa.mk p_5 p_5_2 p_5_3 p_5_4 p_5_5 p_5_6 p_5_7 (Ar.mk p_5_8 p_5_9) p_5_10 p_5_11) l_5) 1 (Ar.mk e_5 0) 0).bind fun y_8=>
  some (.next (W (x79_5 + 1),y_8.at_.Source,y_8.at_.Host,y_8.at_.Machine,y_8.at_.Day,y_8.at_.Confidence,y_8.at_.Kind,y_8.at_.Subject,y_8.at_.Use.Alg,y_8.at_.Use.Bits,y_8.at_.Number,y_8.at_.Text,y_8.l)))
  (up (
   (D9 l_5).bind fun y_9=>
   some (y_9.1,y_9.2)))
def Be.l4 (e:Af) (x67_4:Int) (p_4:Int) (p_4_2:ByteArray) (p_4_3:Int) (p_4_4:Int) (p_4_5:Int) (p_4_6:Int) (p_4_7:ByteArray) (p_4_8:Int) (p_4_9:Int) (p_4_10:Int) (p_4_11:ByteArray) (l_4:List Aa):Option (Lp (Int×Int×ByteArray×Int×Int×Int×Int×ByteArray×Int×Int×Int×ByteArray×List Aa) ((List Aa)×Int)):=
 cond (decide (x67_4 < (e.Anchors.length:Int)))
  ((B5 e.Anchors x67_4).bind fun e_4=>
  (D0 (D1.mk (Aa.mk p_4 p_4_2 p_4_3 p_4_4 p_4_5 p_4_6 p_4_7 (Ar.mk p_4_8 p_4_9) p_4_10 p_4_11) l_4) 6 (Ar.mk 0 0) e_4).bind fun y_7=>
  some (.next (W (x67_4 + 1),y_7.at_.Source,y_7.at_.Host,y_7.at_.Machine,y_7.at_.Day,y_7.at_.Confidence,y_7.at_.Kind,y_7.at_.Subject,y_7.at_.Use.Alg,y_7.at_.Use.Bits,y_7.at_.Number,y_7.at_.Text,y_7.l)))
  (up (
   Cp (fun q'=>Be.l5 e q'.1 q'.2.1 q'.2.2.1 q'.2.2.2.1 q'.2.2.2.2.1 q'.2.2.2.2.2.1 q'.2.2.2.2.2.2.1 q'.2.2.2.2.2.2.2.1 q'.2.2.2.2.2.2.2.2.1 q'.2.2.2.2.2.2.2.2.2.1 q'.2.2.2.2.2.2.2.2.2.2.1 q'.2.2.2.2.2.2.2.2.2.2.2.1 q'.2.2.2.2.2.2.2.2.2.2.2.2) (0,p_4,p_4_2,p_4_3,p_4_4,p_4_5,p_4_6,p_4_7,p_4_8,p_4_9,p_4_10,p_4_11,l_4)))
def Be.l3 (e:Af) (x53_3:Int) (p_3:Int) (p_3_2:ByteArray) (p_3_3:Int) (p_3_4:Int) (p_3_5:Int) (p_3_6:Int) (p_3_7:ByteArray) (p_3_8:Int) (p_3_9:Int) (p_3_10:Int) (p_3_11:ByteArray) (l_3:List Aa):Option (Lp (Int×Int×ByteArray×Int×Int×Int×Int×ByteArray×Int×Int×Int×ByteArray×List Aa) ((List Aa)×Int)):=
 cond (decide (x53_3 < (e.Identities.length:Int)))
  ((B5 e.Identities x53_3).bind fun e_3=>
  (D0 (D1.mk (Aa.mk p_3 p_3_2 p_3_3 p_3_4 p_3_5 p_3_6 p_3_7 (Ar.mk p_3_8 p_3_9) p_3_10 p_3_11) l_3) 3 e_3.Key e_3.KeyId).bind fun y_6=>
  some (.next (W (x53_3 + 1),y_6.at_.Source,y_6.at_.Host,y_6.at_.Machine,y_6.at_.Day,y_6.at_.Confidence,y_6.at_.Kind,y_6.at_.Subject,y_6.at_.Use.Alg,y_6.at_.Use.Bits,y_6.at_.Number,y_6.at_.Text,y_6.l)))
  (up (
   Cp (fun q'=>Be.l4 e q'.1 q'.2.1 q'.2.2.1 q'.2.2.2.1 q'.2.2.2.2.1 q'.2.2.2.2.2.1 q'.2.2.2.2.2.2.1 q'.2.2.2.2.2.2.2.1 q'.2.2.2.2.2.2.2.2.1 q'.2.2.2.2.2.2.2.2.2.1 q'.2.2.2.2.2.2.2.2.2.2.1 q'.2.2.2.2.2.2.2.2.2.2.2.1 q'.2.2.2.2.2.2.2.2.2.2.2.2) (0,p_3,p_3_2,p_3_3,p_3_4,p_3_5,p_3_6,p_3_7,p_3_8,p_3_9,p_3_10,p_3_11,l_3)))
def Be.l2 (e:Af) (x41_2:Int) (p_2:Int) (p_2_2:ByteArray) (p_2_3:Int) (p_2_4:Int) (p_2_5:Int) (p_2_6:Int) (p_2_7:ByteArray) (p_2_8:Int) (p_2_9:Int) (p_2_10:Int) (p_2_11:ByteArray) (l_2:List Aa):Option (Lp (Int×Int×ByteArray×Int×Int×Int×Int×ByteArray×Int×Int×Int×ByteArray×List Aa) ((List Aa)×Int)):=
 cond (decide (x41_2 < (e.Suites.length:Int)))
  ((B5 e.Suites x41_2).bind fun e_2=>
  (D0 (D1.mk (Aa.mk p_2 p_2_2 p_2_3 p_2_4 p_2_5 p_2_6 p_2_7 (Ar.mk p_2_8 p_2_9) p_2_10 p_2_11) l_2) 2 (Ar.mk 0 0) e_2).bind fun y_5=>
  some (.next (W (x41_2 + 1),y_5.at_.Source,y_5.at_.Host,y_5.at_.Machine,y_5.at_.Day,y_5.at_.Confidence,y_5.at_.Kind,y_5.at_.Subject,y_5.at_.Use.Alg,y_5.at_.Use.Bits,y_5.at_.Number,y_5.at_.Text,y_5.l)))
  (up (
   Cp (fun q'=>Be.l3 e q'.1 q'.2.1 q'.2.2.1 q'.2.2.2.1 q'.2.2.2.2.1 q'.2.2.2.2.2.1 q'.2.2.2.2.2.2.1 q'.2.2.2.2.2.2.2.1 q'.2.2.2.2.2.2.2.2.1 q'.2.2.2.2.2.2.2.2.2.1 q'.2.2.2.2.2.2.2.2.2.2.1 q'.2.2.2.2.2.2.2.2.2.2.2.1 q'.2.2.2.2.2.2.2.2.2.2.2.2) (0,p_2,p_2_2,p_2_3,p_2_4,p_2_5,p_2_6,p_2_7,p_2_8,p_2_9,p_2_10,p_2_11,l_2)))
def Be.j1 (e:Af) (y:D1×Int) (errno_1:Int):Option ((List Aa)×Int):=
 cond (!decide (errno_1=0))
  (some (([]:(List Aa)),errno_1))
  ((D0 y.1 5 (Ar.mk 0 0) e.Least).bind fun y_3=>
  (D0 y_3 4 (Ar.mk 0 0) e.Most).bind fun y_4=>
  Cp (fun q'=>Be.l2 e q'.1 q'.2.1 q'.2.2.1 q'.2.2.2.1 q'.2.2.2.2.1 q'.2.2.2.2.2.1 q'.2.2.2.2.2.2.1 q'.2.2.2.2.2.2.2.1 q'.2.2.2.2.2.2.2.2.1 q'.2.2.2.2.2.2.2.2.2.1 q'.2.2.2.2.2.2.2.2.2.2.1 q'.2.2.2.2.2.2.2.2.2.2.2.1 q'.2.2.2.2.2.2.2.2.2.2.2.2) (0,y_4.at_.Source,y_4.at_.Host,y_4.at_.Machine,y_4.at_.Day,y_4.at_.Confidence,y_4.at_.Kind,y_4.at_.Subject,y_4.at_.Use.Alg,y_4.at_.Use.Bits,y_4.at_.Number,y_4.at_.Text,y_4.l))
def Be (at':Aa) (e:Af):Option ((List Aa)×Int):=
 (Ks at').bind fun y=>
 cond (decide (y.2=0))
  ((Br e).bind fun y_2=>
  Be.j1 e y y_2)
  (Be.j1 e y y.2)
def Fk (e:Af) (at':Aa):Option ((List Aa)×Int):=
 (Be at' e).bind fun y=>
 some (y.1,y.2)
def O1 (f:Aa):Option (Dq):=
 some (Dq.mk f.Host f.Day f.Kind f.Use f.Number f.Text)
def Gz (x':Aa) (c0:(List (Dq×Bool))):Option (Bool):=
 (O1 x').bind fun y=>
 some (G7 c0 y false)
def Bf.l1 (s:(List Aa)) (f:Aa->Option (Bool)) (x8_1:Int):Option (Lp (Int) (Int)):=
 cond (decide (x8_1 < (s.length:Int)))
  ((B5 s x8_1).bind fun e=>
  (f e).bind fun y=>
  cond (y)
   (up (some x8_1))
   (some (.next (W (x8_1 + 1)))))
  (up (
   some (-1)))
def Bf (s:(List Aa)) (f:Aa->Option (Bool)):Option (Int):=
 Cp (fun q'=>Bf.l1 s f q') 0
def Bc.j2 (j_1:Int) (i_2:Int) (s_2:List Aa):Option (Lp (Int×Int×List Aa) ((List Aa))):=
 some (.next (i_2,W (j_1 + 1),s_2))
def Bc.l1 (del:Aa->Option (Bool)) (i_1:Int) (j_1:Int) (s_1:List Aa):Option (Lp (Int×Int×List Aa) ((List Aa))):=
 cond (decide (j_1 < (s_1.length:Int)))
  ((B5 s_1 j_1).bind fun e=>
  (del e).bind fun y_2=>
  cond (!y_2)
   ((B5 s_1 i_1).bind fun e_2=>
   Bc.j2 j_1 (W (i_1 + 1)) (C2 s_1 ((i_1).toNat) e))
   (Bc.j2 j_1 i_1 s_1))
  (up (
   (U0 s_1 i_1 (s_1.length:Int)).bind fun l=>
   (lO s_1 ((i_1:Int).toNat) (((s_1.length:Int):Int).toNat - (i_1:Int).toNat) ((Aa.mk 0 (⟨#[]⟩:ByteArray) 0 0 0 0 (⟨#[]⟩:ByteArray) (Ar.mk 0 0) 0 (⟨#[]⟩:ByteArray)):Aa)).bind fun l_2=>
   (U0 l_2 0 i_1).bind fun l_3=>
   some (l_2.take ((i_1:Int).toNat - (0:Int).toNat))))
def Bc (s:List Aa) (del:Aa->Option (Bool)):Option ((List Aa)):=
 (Bf s del).bind fun y=>
 cond (decide (y=(-1)))
  (some s)
  (Cp (fun q'=>Bc.l1 del q'.1 q'.2.1 q'.2.2) (y,W (y + 1),s))
def Dz.l1 (l:(List Aa)) (y:(List Aa)×Int) (x25_1:Int) (m_1:(List (Dq×Bool))):Option (Lp (Int×(List (Dq×Bool))) ((List Aa)×Int)):=
 cond (decide (x25_1 < (l.length:Int)))
  ((B5 l x25_1).bind fun e_2=>
  (O1 e_2).bind fun y_2=>
  some (.next (W (x25_1 + 1),K5 m_1 y_2 true)))
  (up (
   (Bc y.1 (fun x0=>Gz x0 m_1)).bind fun y_3=>
   some (y_3,0)))
def Dz (e:Af) (at':Aa) (l:(List Aa)):Option ((List Aa)×Int):=
 (Fk e at').bind fun y=>
 cond (!decide (y.2=0))
  (some (([]:(List Aa)),y.2))
  (Cp (fun q'=>Dz.l1 l y q'.1 q'.2) (0,([]:(List (Dq×Bool)))))
def Gg (x':Aa) (c0:Aa) (c1:Af):Option (Bool):=
 cond (decide (x'.Day=c0.Day))
  ((Ef c1 x').bind fun y=>
  some y)
  (some false)
def C8 (s:(List Aa)) (f:Aa->Option (Bool)):Option (Bool):=
 (Bf s f).bind fun y=>
 some (decide (0<=y))
def F5 (e:Af) (at':Aa) (l:(List Aa)):Option (Bool×Int):=
 (Dz e at' l).bind fun y=>
 cond (!decide (y.2=0))
  (some (false,y.2))
  (cond (decide ((y.1.length:Int)=0))
   ((C8 l (fun x0=>Gg x0 at' e)).bind fun y_2=>
   some (!y_2,0))
   (some (false,0)))
def B1.j2 (y_6:Bb×Int) (y_7:Aa) (y_8:(List Aa)×Int) (x106_2:Bool):Option (Bool):=
 cond (x106_2)
  ((H8).bind fun y_11=>
  some y_11)
  ((B5 y_6.1.Endpoints 0).bind fun e_2=>
  (F5 e_2 y_7 y_8.1).bind fun y_12=>
  cond (decide (y_12.2=0))
   (cond (!y_12.1)
    ((H8).bind fun y_13=>
    some y_13)
    (some false))
   (some false))
def B1.j1 (y_5:A7×Ah) (y_6:Bb×Int) (y_7:Aa) (y_8:(List Aa)×Int) (x84_1:Bool):Option (Bool):=
 cond (x84_1)
  (some false)
  (cond (!decide (y_6.2=0))
   (B1.j2 y_6 y_7 y_8 true)
   (cond (decide (y_5.1.Kind=12))
    (B1.j2 y_6 y_7 y_8 true)
    (cond (decide (y_5.1.Kind=11))
     (B1.j2 y_6 y_7 y_8 true)
     (cond (decide (y_5.1.Kind=9))
      (B1.j2 y_6 y_7 y_8 true)
      (B1.j2 y_6 y_7 y_8 (decide (y_5.1.Kind=10)))))))
def B1 (t:(List Int)):Option (Bool):=
 (Ny t).bind fun y=>
 cond (!y)
  ((H8).bind fun y_2=>
  some y_2)
  ((P3 t).bind fun y_3=>
  (Bh y_3).bind fun y_4=>
  (U0 y_4.1.Endpoints 0 1).bind fun l=>
  (Bo y_4.2 (Bb.mk l ([]:(List Bq)) ([]:(List Cf)))).bind fun y_5=>
  (B5 y_4.1.Endpoints 0).bind fun e=>
  (K8 y_4.1 y_5.1).bind fun y_6=>
  (Mh e.Name 4).bind fun y_7=>
  (Fk e y_7).bind fun y_8=>
  (F5 e y_7 y_8.1).bind fun y_9=>
  (Dz e y_7 y_8.1).bind fun y_10=>
  cond (!decide ((W ((W (y_8.2 + y_9.2)) + y_10.2))=0))
   (B1.j1 y_5 y_6 y_7 y_8 true)
   (cond (!y_9.1)
    (B1.j1 y_5 y_6 y_7 y_8 true)
    (cond (!decide ((y_10.1.length:Int)=0))
     (B1.j1 y_5 y_6 y_7 y_8 true)
     (B1.j1 y_5 y_6 y_7 y_8 (decide ((y_8.1.length:Int)=0))))))
end
end Go.Proofs.YtkoflhimdenjaaaGreat
