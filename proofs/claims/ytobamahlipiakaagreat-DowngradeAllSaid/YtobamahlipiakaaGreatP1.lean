import Derived.Test.YtobamahlipiakaaGreatPU
set_option linter.unusedVariables false
set_option linter.unusedSimpArgs false
namespace Go.Proofs.YtobamahlipiakaaGreat
noncomputable section
structure Ad where
 L:(List Int)
 At:Int
 deriving DecidableEq,Inhabited
structure Ao where
 Alg:Int
 Bits:Int
 deriving DecidableEq,Inhabited
structure Be where
 Key:Int
 Sum:Int
 deriving DecidableEq,Inhabited
structure Ae where
 Serial:Int
 Issuer:ByteArray
 Subject:ByteArray
 Key:Ao
 KeyId:Int
 Hash:Ao
 From:Int
 To:Int
 Authority:Bool
 Path:Int
 Names:(List ByteArray)
 Seal:Be
 deriving DecidableEq,Inhabited
structure Al where
 Key:Ao
 KeyId:Int
 Chain:(List Ae)
 deriving DecidableEq,Inhabited
structure Ac where
 Name:ByteArray
 Least:Int
 Most:Int
 Suites:(List Int)
 OwnOrder:Bool
 Identities:(List Al)
 Anchors:(List Int)
 Hashes:(List Int)
 Fallback:Bool
 deriving DecidableEq,Inhabited
structure Ap where
 Version:Int
 Suite:Int
 deriving DecidableEq,Inhabited
structure Aa where
 Outcome:Ap
 Most:Int
 Suites:(List Int)
 deriving DecidableEq,Inhabited
structure Az where
 Code:Int
 Name:ByteArray
 Exchange:Ao
 Sign:Ao
 Cipher:Ao
 Mac:Ao
 Least:Int
 Most:Int
 deriving DecidableEq,Inhabited
structure Aw where
 Allow:Bool
 Alg:Int
 Below:Int
 Purpose:Int
 From:Int
 To:Int
 deriving DecidableEq,Inhabited
structure Bl where
 Purpose:Int
 Days:Int
 deriving DecidableEq,Inhabited
structure Bk where
 Rules:(List Aw)
 Keeps:(List Bl)
 deriving DecidableEq,Inhabited
structure H6 where
 From:Int
 To:Int
 deriving DecidableEq,Inhabited
structure Ah where
 Use:Ao
 Purpose:Int
 Endpoint:ByteArray
 Days:H6
 Seals:(List Be)
 deriving DecidableEq,Inhabited
structure Cc where
 Keys:(List Int)
 Need:Int
 deriving DecidableEq,Inhabited
structure Co where
 name:ByteArray
 kind:Int
 way:Int
 sizes:(List Int)
 strengths:(List Int)
 deriving DecidableEq,Inhabited
structure Cl where
 server:Ac
 version:Int
 suites:(List Int)
 deriving DecidableEq,Inhabited
structure Ab where
 Tag:Int
 Bytes:(List UInt8)
 Nested:Bool
 Elements:(List Ab)
structure Au where
 name:ByteArray
 kind:Int
 deriving DecidableEq,Inhabited
def G4 (l:(List Int)):Option (Bool):=
 some (decide ((l.length:Int)<=400))
def Hl (s:ByteArray) (c:UInt8):Option (Int):=
 some (pS s c)
def Fa (s:ByteArray) (c:UInt8):Option (Int):=
 (Hl s c).bind fun y=>
 some y
def Jv (c:UInt8) (others:ByteArray):Option (Bool):=
 cond (decide (97<=(c.toNat:Int)))
  (cond (decide ((c.toNat:Int)<=122))
   (some true)
   (cond (decide (65<=(c.toNat:Int)))
    (cond (decide ((c.toNat:Int)<=90))
     (some true)
     (cond (decide (48<=(c.toNat:Int)))
      (cond (decide ((c.toNat:Int)<=57))
       (some true)
       ((Fa others c).bind fun y=>
       some (decide (0<=y))))
      ((Fa others c).bind fun y_2=>
      some (decide (0<=y_2)))))
    (cond (decide (48<=(c.toNat:Int)))
     (cond (decide ((c.toNat:Int)<=57))
      (some true)
      ((Fa others c).bind fun y_3=>
      some (decide (0<=y_3))))
     ((Fa others c).bind fun y_4=>
     some (decide (0<=y_4))))))
  (cond (decide (65<=(c.toNat:Int)))
   (cond (decide ((c.toNat:Int)<=90))
    (some true)
    (cond (decide (48<=(c.toNat:Int)))
     (cond (decide ((c.toNat:Int)<=57))
      (some true)
      ((Fa others c).bind fun y_5=>
      some (decide (0<=y_5))))
     ((Fa others c).bind fun y_6=>
     some (decide (0<=y_6)))))
   (cond (decide (48<=(c.toNat:Int)))
    (cond (decide ((c.toNat:Int)<=57))
     (some true)
     ((Fa others c).bind fun y_7=>
     some (decide (0<=y_7))))
    ((Fa others c).bind fun y_8=>
    some (decide (0<=y_8)))))
def Ft.l1 (s:ByteArray) (x8_1:Int):Option (Lp (Int) (Bool)):=
 cond (decide (x8_1 < ((Oz s).length:Int)))
  ((Bm (Oz s) x8_1).bind fun e=>
  (Jv e (⟨#[45,95,46]⟩:ByteArray)).bind fun y=>
  cond (!y)
   (up (some false))
   (some (.next (W (x8_1 + 1)))))
  (up (
   cond (decide (1<=(s.size:Int)))
    (some (decide ((s.size:Int)<=32)))
    (some false)))
def Ft (s:ByteArray):Option (Bool):=
 Bz (fun q'=>Ft.l1 s q') 0
def Df (alg:Int) (bits:Int):Option (Ao):=
 some (Ao.mk alg bits)
def Fi.l1 (y:Ao) (y_2:Ao) (y_3:Ao) (y_4:Ao) (y_5:Ao) (y_6:Ao) (y_7:Ao) (y_8:Ao) (y_9:Ao) (y_10:Ao) (y_11:Ao) (y_12:Ao) (y_13:Ao) (y_14:Ao) (y_15:Ao) (y_16:Ao) (y_17:Ao) (y_18:Ao) (y_19:Ao) (y_20:Ao) (y_21:Ao) (y_22:Ao) (x114_1:Int) (l_1:List Az):Option (Lp (Int×List Az) ((List Az))):=
 cond (decide (x114_1 < (([(Az.mk 0 (⟨#[114,115,97,45,114,99,52,45,109,100,53]⟩:ByteArray) y y_2 y_14 y_10 1 2),(Az.mk 0 (⟨#[114,115,97,45,114,99,52,45,115,104,97]⟩:ByteArray) y y_2 y_15 y_11 1 3),(Az.mk 0 (⟨#[114,115,97,45,100,101,115,51,45,115,104,97]⟩:ByteArray) y y_2 y_5 y_11 1 3),(Az.mk 0 (⟨#[100,104,101,45,100,115,97,45,100,101,115,51,45,115,104,97]⟩:ByteArray) y_16 y_3 y_5 y_11 1 3),(Az.mk 0 (⟨#[100,104,101,45,114,115,97,45,100,101,115,51,45,115,104,97]⟩:ByteArray) y_17 y_2 y_5 y_11 1 3),(Az.mk 0 (⟨#[114,115,97,45,97,101,115,49,50,56,45,115,104,97]⟩:ByteArray) y y_2 y_6 y_11 1 3),(Az.mk 0 (⟨#[100,104,101,45,114,115,97,45,97,101,115,49,50,56,45,115,104,97]⟩:ByteArray) y_18 y_2 y_6 y_11 1 3),(Az.mk 0 (⟨#[101,99,100,104,101,45,114,115,97,45,97,101,115,49,50,56,45,115,104,97]⟩:ByteArray) y_13 y_2 y_6 y_11 1 3),(Az.mk 0 (⟨#[101,99,100,104,101,45,101,99,100,115,97,45,97,101,115,50,53,54,45,115,104,97,50,53,54]⟩:ByteArray) y_13 y_4 y_19 y_20 3 3),(Az.mk 0 (⟨#[101,99,100,104,101,45,114,115,97,45,97,101,115,49,50,56,45,103,99,109]⟩:ByteArray) y_13 y_2 y_7 y_12 3 3),(Az.mk 0 (⟨#[101,99,100,104,101,45,101,99,100,115,97,45,97,101,115,50,53,54,45,103,99,109]⟩:ByteArray) y_21 y_4 y_8 y_12 3 3),(Az.mk 0 (⟨#[101,99,100,104,101,45,114,115,97,45,99,104,97,99,104,97]⟩:ByteArray) y_13 y_2 y_9 y_12 3 3),(Az.mk 0 (⟨#[114,115,97,45,97,101,115,50,53,54,45,103,99,109]⟩:ByteArray) y y_2 y_8 y_12 3 3),(Az.mk 0 (⟨#[97,101,115,49,50,56,45,103,99,109]⟩:ByteArray) y_13 (Ao.mk 0 0) y_7 y_12 4 4),(Az.mk 0 (⟨#[99,104,97,99,104,97]⟩:ByteArray) y_13 (Ao.mk 0 0) y_9 y_12 4 4),(Az.mk 0 (⟨#[109,108,107,101,109,45,97,101,115,50,53,54,45,103,99,109]⟩:ByteArray) y_22 (Ao.mk 0 0) y_8 y_12 4 4)]:List Az).length:Int)))
  ((Bm l_1 x114_1).bind fun e=>
  some (.next (W (x114_1 + 1),Ex l_1 ((x114_1).toNat) (Az.mk (W (x114_1 + 1)) e.Name e.Exchange e.Sign e.Cipher e.Mac e.Least e.Most))))
  (up (
   some l_1))
def Fi:Option ((List Az)):=
 (Df 10 0).bind fun y=>
 (Df 5 0).bind fun y_2=>
 (Df 6 0).bind fun y_3=>
 (Df 7 0).bind fun y_4=>
 (Df 15 168).bind fun y_5=>
 (Df 16 128).bind fun y_6=>
 (Df 17 128).bind fun y_7=>
 (Df 17 256).bind fun y_8=>
 (Df 18 0).bind fun y_9=>
 (Df 19 0).bind fun y_10=>
 (Df 20 0).bind fun y_11=>
 (Df 22 0).bind fun y_12=>
 (Df 12 256).bind fun y_13=>
 (Df 14 128).bind fun y_14=>
 (Df 14 128).bind fun y_15=>
 (Df 11 1024).bind fun y_16=>
 (Df 11 1024).bind fun y_17=>
 (Df 11 2048).bind fun y_18=>
 (Df 16 256).bind fun y_19=>
 (Df 21 0).bind fun y_20=>
 (Df 12 384).bind fun y_21=>
 (Df 13 768).bind fun y_22=>
 Bz (fun q'=>Fi.l1 y y_2 y_3 y_4 y_5 y_6 y_7 y_8 y_9 y_10 y_11 y_12 y_13 y_14 y_15 y_16 y_17 y_18 y_19 y_20 y_21 y_22 q'.1 q'.2) (0,([(Az.mk 0 (⟨#[114,115,97,45,114,99,52,45,109,100,53]⟩:ByteArray) y y_2 y_14 y_10 1 2),(Az.mk 0 (⟨#[114,115,97,45,114,99,52,45,115,104,97]⟩:ByteArray) y y_2 y_15 y_11 1 3),(Az.mk 0 (⟨#[114,115,97,45,100,101,115,51,45,115,104,97]⟩:ByteArray) y y_2 y_5 y_11 1 3),(Az.mk 0 (⟨#[100,104,101,45,100,115,97,45,100,101,115,51,45,115,104,97]⟩:ByteArray) y_16 y_3 y_5 y_11 1 3),(Az.mk 0 (⟨#[100,104,101,45,114,115,97,45,100,101,115,51,45,115,104,97]⟩:ByteArray) y_17 y_2 y_5 y_11 1 3),(Az.mk 0 (⟨#[114,115,97,45,97,101,115,49,50,56,45,115,104,97]⟩:ByteArray) y y_2 y_6 y_11 1 3),(Az.mk 0 (⟨#[100,104,101,45,114,115,97,45,97,101,115,49,50,56,45,115,104,97]⟩:ByteArray) y_18 y_2 y_6 y_11 1 3),(Az.mk 0 (⟨#[101,99,100,104,101,45,114,115,97,45,97,101,115,49,50,56,45,115,104,97]⟩:ByteArray) y_13 y_2 y_6 y_11 1 3),(Az.mk 0 (⟨#[101,99,100,104,101,45,101,99,100,115,97,45,97,101,115,50,53,54,45,115,104,97,50,53,54]⟩:ByteArray) y_13 y_4 y_19 y_20 3 3),(Az.mk 0 (⟨#[101,99,100,104,101,45,114,115,97,45,97,101,115,49,50,56,45,103,99,109]⟩:ByteArray) y_13 y_2 y_7 y_12 3 3),(Az.mk 0 (⟨#[101,99,100,104,101,45,101,99,100,115,97,45,97,101,115,50,53,54,45,103,99,109]⟩:ByteArray) y_21 y_4 y_8 y_12 3 3),(Az.mk 0 (⟨#[101,99,100,104,101,45,114,115,97,45,99,104,97,99,104,97]⟩:ByteArray) y_13 y_2 y_9 y_12 3 3),(Az.mk 0 (⟨#[114,115,97,45,97,101,115,50,53,54,45,103,99,109]⟩:ByteArray) y y_2 y_8 y_12 3 3),(Az.mk 0 (⟨#[97,101,115,49,50,56,45,103,99,109]⟩:ByteArray) y_13 (Ao.mk 0 0) y_7 y_12 4 4),(Az.mk 0 (⟨#[99,104,97,99,104,97]⟩:ByteArray) y_13 (Ao.mk 0 0) y_9 y_12 4 4),(Az.mk 0 (⟨#[109,108,107,101,109,45,97,101,115,50,53,54,45,103,99,109]⟩:ByteArray) y_22 (Ao.mk 0 0) y_8 y_12 4 4)]:List Az))
def Dw.j1 (code:Int) (y:(List Az)) (x13_1:Bool):Option (Az×Int):=
 cond (x13_1)
  (some ((Az.mk 0 (⟨#[]⟩:ByteArray) (Ao.mk 0 0) (Ao.mk 0 0) (Ao.mk 0 0) (Ao.mk 0 0) 0 0),8))
  ((Bm y (W (code - 1))).bind fun e=>
  some (e,0))
def Dw (code:Int):Option (Az×Int):=
 (Fi).bind fun y=>
 cond (decide (code < 1))
  (Dw.j1 code y true)
  (Dw.j1 code y (decide ((y.length:Int) < code)))
def Ch.l1 (s:(List Int)) (v:Int) (x8_1:Int):Option (Lp (Int) (Int)):=
 cond (decide (x8_1 < (s.length:Int)))
  ((Bm s x8_1).bind fun e=>
  cond (decide (v=e))
   (up (some x8_1))
   (some (.next (W (x8_1 + 1)))))
  (up (
   some (-1)))
def Ch (s:(List Int)) (v:Int):Option (Int):=
 Bz (fun q'=>Ch.l1 s v q') 0
def Cz (s:(List Int)) (v:Int):Option (Bool):=
 (Ch s v).bind fun y=>
 some (decide (0<=y))
def Ds.j2 (x9_1:Int) (x27_2:Bool):Option (Lp (Int) (Bool)):=
 cond (x27_2)
  (up (some false))
  (some (.next (W (x9_1 + 1))))
def Ds.l1 (l:(List Int)) (x9_1:Int):Option (Lp (Int) (Bool)):=
 cond (decide (x9_1 < (l.length:Int)))
  ((Bm l x9_1).bind fun e=>
  (Dw e).bind fun y=>
  cond (!decide (y.2=0))
   (Ds.j2 x9_1 true)
   ((Zz l 0 x9_1).bind fun l_2=>
   (Cz l_2 e).bind fun y_2=>
   Ds.j2 x9_1 y_2))
  (up (
   some true))
def Ds (l:(List Int)):Option (Bool):=
 Bz (fun q'=>Ds.l1 l q') 0
def Da.j2 (x6_1:Int) (x22_2:Bool):Option (Lp (Int) (Bool)):=
 cond (x22_2)
  (up (some false))
  (some (.next (W (x6_1 + 1))))
def Da.l1 (l:(List Int)) (x6_1:Int):Option (Lp (Int) (Bool)):=
 cond (decide (x6_1 < (l.length:Int)))
  (cond (decide (0 < x6_1))
   ((Bm l (W (x6_1 - 1))).bind fun e=>
   (Bm l x6_1).bind fun e_2=>
   Da.j2 x6_1 (decide (e_2<=e)))
   (Da.j2 x6_1 false))
  (up (
   some true))
def Da (l:(List Int)):Option (Bool):=
 Bz (fun q'=>Da.l1 l q') 0
def Q5:Option ((List Co)):=
 some ([(Co.mk (⟨#[]⟩:ByteArray) 0 0 ([]:(List Int)) ([]:(List Int))),(Co.mk (⟨#[109,100,53]⟩:ByteArray) 1 0 ([]:(List Int)) ([18]:List Int)),(Co.mk (⟨#[115,104,97,49]⟩:ByteArray) 1 0 ([]:(List Int)) ([60]:List Int)),(Co.mk (⟨#[115,104,97,50,53,54]⟩:ByteArray) 1 0 ([]:(List Int)) ([128]:List Int)),(Co.mk (⟨#[115,104,97,51,56,52]⟩:ByteArray) 1 0 ([]:(List Int)) ([192]:List Int)),(Co.mk (⟨#[114,115,97]⟩:ByteArray) 2 1 ([]:(List Int)) ([]:(List Int))),(Co.mk (⟨#[100,115,97]⟩:ByteArray) 2 1 ([]:(List Int)) ([]:(List Int))),(Co.mk (⟨#[101,99,100,115,97]⟩:ByteArray) 2 2 ([]:(List Int)) ([]:(List Int))),(Co.mk (⟨#[101,100,50,53,53,49,57]⟩:ByteArray) 2 0 ([]:(List Int)) ([128]:List Int)),(Co.mk (⟨#[109,108,100,115,97]⟩:ByteArray) 2 3 ([44,65,87]:List Int) ([128,192,256]:List Int)),(Co.mk (⟨#[114,115,97,107,120]⟩:ByteArray) 3 1 ([]:(List Int)) ([]:(List Int))),(Co.mk (⟨#[100,104,101]⟩:ByteArray) 3 1 ([]:(List Int)) ([]:(List Int))),(Co.mk (⟨#[101,99,100,104,101]⟩:ByteArray) 3 2 ([]:(List Int)) ([]:(List Int))),(Co.mk (⟨#[109,108,107,101,109]⟩:ByteArray) 3 3 ([512,768,1024]:List Int) ([128,192,256]:List Int)),(Co.mk (⟨#[114,99,52]⟩:ByteArray) 4 3 ([40,128]:List Int) ([40,60]:List Int)),(Co.mk (⟨#[100,101,115,51]⟩:ByteArray) 4 3 ([112,168]:List Int) ([80,112]:List Int)),(Co.mk (⟨#[97,101,115,99,98,99]⟩:ByteArray) 4 3 ([128,256]:List Int) ([128,256]:List Int)),(Co.mk (⟨#[97,101,115,103,99,109]⟩:ByteArray) 4 3 ([128,256]:List Int) ([128,256]:List Int)),(Co.mk (⟨#[99,104,97,99,104,97]⟩:ByteArray) 4 0 ([]:(List Int)) ([256]:List Int)),(Co.mk (⟨#[104,109,97,99,109,100,53]⟩:ByteArray) 5 0 ([]:(List Int)) ([64]:List Int)),(Co.mk (⟨#[104,109,97,99,115,104,97,49]⟩:ByteArray) 5 0 ([]:(List Int)) ([80]:List Int)),(Co.mk (⟨#[104,109,97,99,115,104,97,50,53,54]⟩:ByteArray) 5 0 ([]:(List Int)) ([128]:List Int)),(Co.mk (⟨#[97,101,97,100]⟩:ByteArray) 5 0 ([]:(List Int)) ([256]:List Int))]:List Co)
def Gb.j1 (alg:Int) (x9_1:Bool):Option (Co×Bool):=
 cond (x9_1)
  (some ((Co.mk (⟨#[]⟩:ByteArray) 0 0 ([]:(List Int)) ([]:(List Int))),false))
  ((Q5).bind fun y=>
  (Bm (aPl 23 y) alg).bind fun e=>
  some (e,true))
def Gb (alg:Int):Option (Co×Bool):=
 cond (decide (alg < 1))
  (Gb.j1 alg true)
  (Gb.j1 alg (decide (22 < alg)))
def Eh.l1 (bits:Int) (x11_1:Int):Option (Lp (Int) (Int)):=
 cond (decide (x11_1 < 5))
  ((Bm ([([1024,56]:List Int),([2048,80]:List Int),([3072,112]:List Int),([7680,128]:List Int),([15360,192]:List Int)]:List (List Int)) x11_1).bind fun e=>
  cond (decide (bits < (e[0]!)))
   (up (some (e[1]!)))
   (some (.next (W (x11_1 + 1)))))
  (up (
   some 256))
def Eh (bits:Int):Option (Int):=
 Bz (fun q'=>Eh.l1 bits q') 0
def A9.j1 (u:Ao) (x34_1:Bool):Option (Int):=
 cond (x34_1)
  ((Eh u.Bits).bind fun y_2=>
  some y_2)
  (some 0)
def A9 (u:Ao):Option (Int):=
 (Gb u.Alg).bind fun y=>
 cond (!y.2)
  (some 0)
  (cond (decide (y.1.way=0))
   (cond (decide (u.Bits=0))
    ((Bm y.1.strengths 0).bind fun e=>
    some e)
    (some 0))
   (cond (decide (y.1.way=1))
    (cond (decide (512<=u.Bits))
     (A9.j1 u (decide (u.Bits<=16384)))
     (A9.j1 u false))
    (cond (decide (y.1.way=2))
     ((Cz ([160,224,256,384,521]:List Int) u.Bits).bind fun y_3=>
     cond (y_3)
      ((Pm u.Bits 2).bind fun q=>
      some q)
      (some 0))
     (cond (decide (y.1.way=3))
      ((Ch y.1.sizes u.Bits).bind fun y_4=>
      cond (decide (0<=y_4))
       ((Bm y.1.strengths y_4).bind fun e_2=>
       some e_2)
       (some 0))
      (some 0)))))
def Hw (u:Ao):Option (Bool):=
 (A9 u).bind fun y=>
 some (decide (0 < y))
def I1 (alg:Int):Option (Int):=
 (Gb alg).bind fun y=>
 some y.1.kind
def Eg (n:Int):Option (Bool):=
 cond (decide (0<=n))
  (some (decide (n<=2147483648)))
  (some false)
def De.j2 (x8_1:Int) (x17_2:Bool):Option (Lp (Int) (Bool)):=
 cond (x17_2)
  (up (some false))
  (some (.next (W (x8_1 + 1))))
def De.l1 (s:ByteArray) (x8_1:Int):Option (Lp (Int) (Bool)):=
 cond (decide (x8_1 < ((Oz s).length:Int)))
  ((Bm (Oz s) x8_1).bind fun e=>
  cond (decide ((e.toNat:Int)<=32))
   (De.j2 x8_1 true)
   (De.j2 x8_1 (decide (126 < (e.toNat:Int)))))
  (up (
   cond (decide (1<=(s.size:Int)))
    (some (decide ((s.size:Int)<=32)))
    (some false)))
def De (s:ByteArray):Option (Bool):=
 Bz (fun q'=>De.l1 s q') 0
def Cs.j2 (x7_1:Int) (x27_2:Bool):Option (Lp (Int) (Bool)):=
 cond (x27_2)
  (up (some false))
  (some (.next (W (x7_1 + 1))))
def Cs.l1 (l:(List ByteArray)) (x7_1:Int):Option (Lp (Int) (Bool)):=
 cond (decide (x7_1 < (l.length:Int)))
  ((Bm l x7_1).bind fun e=>
  (De e).bind fun y=>
  cond (!y)
   (Cs.j2 x7_1 true)
   (cond (decide (0 < x7_1))
    ((Bm l (W (x7_1 - 1))).bind fun e_2=>
    Cs.j2 x7_1 (!ltT (Oz e_2) (Oz e)))
    (Cs.j2 x7_1 false)))
  (up (
   some (decide ((l.length:Int)<=8))))
def Cs (l:(List ByteArray)):Option (Bool):=
 Bz (fun q'=>Cs.l1 l q') 0
def Ix (u:Ao) (kind:Int):Option (Bool):=
 (Hw u).bind fun y=>
 cond (y)
  ((I1 u.Alg).bind fun y_2=>
  some (decide (y_2=kind)))
  (some false)
def Jx (n:Int):Option (Bool):=
 cond (decide (0<=n))
  (some (decide (n < 4294967296)))
  (some false)
def Bj.j3 (c:Ae) (x73_3:Bool):Option (Bool):=
 cond (x73_3)
  (some false)
  (cond (decide (0<=c.Path))
   (cond (decide (c.Path<=8))
    (cond (c.Authority)
     (some true)
     (some (decide (c.Path=0))))
    (some false))
   (some false))
def Bj.j2 (c:Ae) (x58_2:Bool):Option (Bool):=
 cond (x58_2)
  (some false)
  (cond (decide (c.From < 0))
   (Bj.j3 c true)
   (cond (decide (c.To < c.From))
    (Bj.j3 c true)
    (Bj.j3 c (decide (40000 < c.To)))))
def Bj.j1 (c:Ae) (x28_1:Bool):Option (Bool):=
 cond (x28_1)
  (some false)
  ((Ix c.Key 2).bind fun y_4=>
  cond (!y_4)
   (Bj.j2 c true)
   ((Eg c.KeyId).bind fun y_5=>
   cond (!y_5)
    (Bj.j2 c true)
    ((Ix c.Hash 1).bind fun y_6=>
    cond (!y_6)
     (Bj.j2 c true)
     ((Eg c.Seal.Key).bind fun y_7=>
     cond (!y_7)
      (Bj.j2 c true)
      ((Jx c.Seal.Sum).bind fun y_8=>
      Bj.j2 c (!y_8))))))
def Bj (c:Ae):Option (Bool):=
 cond (decide (c.Serial < 0))
  (Bj.j1 c true)
  (cond (decide (1099511627776 < c.Serial))
   (Bj.j1 c true)
   ((De c.Issuer).bind fun y=>
   cond (!y)
    (Bj.j1 c true)
    ((De c.Subject).bind fun y_2=>
    cond (!y_2)
     (Bj.j1 c true)
     ((Cs c.Names).bind fun y_3=>
     Bj.j1 c (!y_3)))))
def Gh (c:Ae):Option (Int):=
 (Bj c).bind fun y=>
 cond (!y)
  (some 9)
  (some 0)
def C5.l2 (key:Ao) (id:Int) (l:(List Ae)) (x30_2:Int):Option (Lp (Int) (Bool)):=
 cond (decide (x30_2 < (l.length:Int)))
  ((Bm l x30_2).bind fun e=>
  (Gh e).bind fun y_4=>
  cond (!decide (y_4=0))
   (up (some false))
   (some (.next (W (x30_2 + 1)))))
  (up (
   cond (decide ((l.length:Int)=0))
    (some true)
    ((Bm l 0).bind fun e_2=>
    cond (decide (e_2.Key=key))
     (some (decide (e_2.KeyId=id)))
     (some false))))
def C5.j1 (key:Ao) (id:Int) (l:(List Ae)) (x27_1:Bool):Option (Bool):=
 cond (x27_1)
  (some false)
  (Bz (fun q'=>C5.l2 key id l q') 0)
def C5 (key:Ao) (id:Int) (l:(List Ae)):Option (Bool):=
 (Hw key).bind fun y=>
 cond (!y)
  (C5.j1 key id l true)
  ((I1 key.Alg).bind fun y_2=>
  cond (!decide (y_2=2))
   (C5.j1 key id l true)
   ((Eg id).bind fun y_3=>
   cond (!y_3)
    (C5.j1 key id l true)
    (C5.j1 key id l (decide (8 < (l.length:Int))))))
def Kn:Option (Unit):=
 some ()
def Hq (n:Int):Option (Bool):=
 (Eg n).bind fun y=>
 some (!y)
def Bi.l1 (s:(List Int)) (f:Int->Option (Bool)) (x8_1:Int):Option (Lp (Int) (Int)):=
 cond (decide (x8_1 < (s.length:Int)))
  ((Bm s x8_1).bind fun e=>
  (f e).bind fun y=>
  cond (y)
   (up (some x8_1))
   (some (.next (W (x8_1 + 1)))))
  (up (
   some (-1)))
def Bi (s:(List Int)) (f:Int->Option (Bool)):Option (Int):=
 Bz (fun q'=>Bi.l1 s f q') 0
def E8 (s:(List Int)) (f:Int->Option (Bool)):Option (Bool):=
 (Bi s f).bind fun y=>
 some (decide (0<=y))
def Kt:Option (Unit):=
 some ()
def Lm (alg:Int):Option (Bool):=
 (I1 alg).bind fun y=>
 some (decide (y=1))
def Ht (n:Int):Option (Bool):=
 (Lm n).bind fun y=>
 some (!y)
def Bp.j4 (x82_4:Bool):Option (Int):=
 cond (x82_4)
  (some 19)
  (some 0)
def Bp.l3 (e:Ac) (x58_3:Int):Option (Lp (Int) (Int)):=
 cond (decide (x58_3 < (e.Identities.length:Int)))
  ((Bm e.Identities x58_3).bind fun e_2=>
  (C5 e_2.Key e_2.KeyId e_2.Chain).bind fun y_5=>
  cond (!y_5)
   (up (some 19))
   (some (.next (W (x58_3 + 1)))))
  (up (
   (Kn).bind fun y_6=>
   (E8 e.Anchors (fun x0=>Hq x0)).bind fun y_7=>
   cond (y_7)
    (Bp.j4 true)
    ((Kt).bind fun y_8=>
    (E8 e.Hashes (fun x0=>Ht x0)).bind fun y_9=>
    Bp.j4 y_9)))
def Bp.j2 (e:Ac) (x54_2:Bool):Option (Int):=
 cond (x54_2)
  (some 19)
  (Bz (fun q'=>Bp.l3 e q') 0)
def Bp.j1 (e:Ac) (x32_1:Bool):Option (Int):=
 cond (x32_1)
  (some 19)
  (cond (decide (4 < (e.Identities.length:Int)))
   (Bp.j2 e true)
   (cond (decide (16 < (e.Anchors.length:Int)))
    (Bp.j2 e true)
    ((Da e.Anchors).bind fun y_3=>
    cond (!y_3)
     (Bp.j2 e true)
     ((Da e.Hashes).bind fun y_4=>
     Bp.j2 e (!y_4)))))
def Bp (e:Ac):Option (Int):=
 (Ft e.Name).bind fun y=>
 cond (!y)
  (Bp.j1 e true)
  (cond (decide (e.Least < 1))
   (Bp.j1 e true)
   (cond (decide (e.Most < e.Least))
    (Bp.j1 e true)
    (cond (decide (4 < e.Most))
     (Bp.j1 e true)
     ((Ds e.Suites).bind fun y_2=>
     Bp.j1 e (!y_2)))))
def Jq (client:Ac) (server:Ac):Option (Bool):=
 (Bp client).bind fun y=>
 cond (decide (y=0))
  ((Bp server).bind fun y_2=>
  some (decide (y_2=0)))
  (some false)
def Kz (t:Cl):Option ((List Int)):=
 some t.server.Suites
def Hd (x':Al) (c0:Az):Option (Bool):=
 cond (decide (c0.Sign.Alg=0))
  (some true)
  (some (decide (x'.Key.Alg=c0.Sign.Alg)))
def Bv.l1 (s:(List Al)) (f:Al->Option (Bool)) (x8_1:Int):Option (Lp (Int) (Int)):=
 cond (decide (x8_1 < (s.length:Int)))
  ((Bm s x8_1).bind fun e=>
  (f e).bind fun y=>
  cond (y)
   (up (some x8_1))
   (some (.next (W (x8_1 + 1)))))
  (up (
   some (-1)))
def Bv (s:(List Al)) (f:Al->Option (Bool)):Option (Int):=
 Bz (fun q'=>Bv.l1 s f q') 0
def Fg (server:Ac) (suite:Int):Option (Int×Bool):=
 (Dw suite).bind fun y=>
 cond (!decide (y.2=0))
  (some (-1,false))
  ((Bv server.Identities (fun x0=>Hd x0 y.1)).bind fun y_2=>
  some (y_2,decide (0<=y_2)))
def B2.j1 (t:Cl) (suite:Int) (x44_1:Bool):Option (Bool):=
 cond (x44_1)
  (some false)
  ((Fg t.server suite).bind fun y_4=>
  some y_4.2)
def B2 (t:Cl) (suite:Int):Option (Bool):=
 (Dw suite).bind fun y=>
 cond (!decide (y.2=0))
  (B2.j1 t suite true)
  (cond (decide (t.version < y.1.Least))
   (B2.j1 t suite true)
   (cond (decide (y.1.Most < t.version))
    (B2.j1 t suite true)
    ((Cz t.suites suite).bind fun y_2=>
    cond (!y_2)
     (B2.j1 t suite true)
     ((Cz t.server.Suites suite).bind fun y_3=>
     B2.j1 t suite (!y_3)))))
def Mv (c:Ae):Option (Bool):=
 (Gh c).bind fun y=>
 some (!decide (y=0))
def Bh.l1 (s:(List Ae)) (f:Ae->Option (Bool)) (x8_1:Int):Option (Lp (Int) (Int)):=
 cond (decide (x8_1 < (s.length:Int)))
  ((Bm s x8_1).bind fun e=>
  (f e).bind fun y=>
  cond (y)
   (up (some x8_1))
   (some (.next (W (x8_1 + 1)))))
  (up (
   some (-1)))
def Bh (s:(List Ae)) (f:Ae->Option (Bool)):Option (Int):=
 Bz (fun q'=>Bh.l1 s f q') 0
def C7 (s:(List Ae)) (f:Ae->Option (Bool)):Option (Bool):=
 (Bh s f).bind fun y=>
 some (decide (0<=y))
def E4.l1 (s:(List ByteArray)) (v:ByteArray) (x8_1:Int):Option (Lp (Int) (Int)):=
 cond (decide (x8_1 < (s.length:Int)))
  ((Bm s x8_1).bind fun e=>
  cond (decide (v=e))
   (up (some x8_1))
   (some (.next (W (x8_1 + 1)))))
  (up (
   some (-1)))
def E4 (s:(List ByteArray)) (v:ByteArray):Option (Int):=
 Bz (fun q'=>E4.l1 s v q') 0
def G1 (s:(List ByteArray)) (v:ByteArray):Option (Bool):=
 (E4 s v).bind fun y=>
 some (decide (0<=y))
def Lf (c:Ae) (hashes:(List Int)) (day:Int) (e:Int):Option (Bool):=
 cond (decide (e=13))
  (cond (decide (day < c.From))
   (some true)
   (some (decide (c.To<=day))))
  ((Cz hashes c.Hash.Alg).bind fun y=>
  some (!y))
def My (c:Ae) (c0:(List Int)) (c1:Int) (c2:Int):Option (Bool):=
 (Lf c c0 c1 c2).bind fun y=>
 some y
def Hp.j1 (l:(List Ae)) (at':Int) (x12_1:Bool):Option (Bool):=
 cond (x12_1)
  (some false)
  (cond (decide (at'=0))
   (some true)
   ((Bm l at').bind fun e=>
   cond (e.Authority)
    (some (decide ((W (at' - 1))<=e.Path)))
    (some false)))
def Hp (l:(List Ae)) (at':Int):Option (Bool):=
 cond (decide (at' < 0))
  (Hp.j1 l at' true)
  (Hp.j1 l at' (decide ((l.length:Int)<=at')))
def Od (l:(List Ae)) (at':Int):Option (Int):=
 cond (decide ((W (at' + 1)) < (l.length:Int)))
  ((Bm l (W (at' + 1))).bind fun e=>
  some e.KeyId)
  ((Bm l at').bind fun e_2=>
  some e_2.Seal.Key)
def Lh (s:ByteArray):Option (Ab):=
 some (Ab.mk 12 (Oz s) false ([]:(List Ab)))
def Di.j3 (b_2:List UInt8) (x43_3:Bool):Option (Lp (List UInt8) (Ab)):=
 cond (x43_3)
  ((Zz b_2 1 (b_2.length:Int)).bind fun l_2=>
  some (.next l_2))
  (up (
   some (Ab.mk 2 b_2 false ([]:(List Ab)))))
def Di.l2 (b_2:List UInt8):Option (Lp (List UInt8) (Ab)):=
 cond (decide (1 < (b_2.length:Int)))
  ((Bm b_2 0).bind fun e=>
  cond (decide ((e.toNat:Int)=0))
   ((Bm b_2 1).bind fun e_2=>
   cond (decide ((e_2.toNat:Int) < 128))
    (Di.j3 b_2 true)
    (cond (decide ((e.toNat:Int)=255))
     (Di.j3 b_2 (decide (128<=(e_2.toNat:Int))))
     (Di.j3 b_2 false)))
   (cond (decide ((e.toNat:Int)=255))
    ((Bm b_2 1).bind fun e_3=>
    Di.j3 b_2 (decide (128<=(e_3.toNat:Int))))
    (Di.j3 b_2 false)))
  (Di.j3 b_2 false)
def Di.l1 (n:Int) (i_1:Int) (b_1:List UInt8):Option (Lp (Int×List UInt8) (Ab)):=
 cond (decide (0<=i_1))
  ((Rn .u64 (IntKind.wrap .u64 n) i_1).bind fun q=>
  (Gy 1 b_1 ([(u8 q)]:List UInt8)).bind fun l=>
  some (.next (W (i_1 - 8),l)))
  (up (
   Bz (fun q'=>Di.l2 q') b_1))
def Di (n:Int):Option (Ab):=
 Bz (fun q'=>Di.l1 n q'.1 q'.2) (56,([]:List UInt8))
def G2.j1 (b:(List UInt8)) (x4_1:Bool):Option ((List UInt8)):=
 cond (x4_1)
  (some ([]:(List UInt8)))
  ((Gy 1 ([]:List UInt8) b).bind fun l=>
  some l)
def G2 (b:(List UInt8)):Option ((List UInt8)):=
 kO (b)
  (G2.j1 b true)
  (G2.j1 b false)
def D6.l1 (rec:(List Ab)->Option ((List Ab))) (l:(List Ab)) (x8_1:Int) (out_1:List Ab):Option (Lp (Int×List Ab) ((List Ab))):=
 cond (decide (x8_1 < (l.length:Int)))
  ((Bm l x8_1).bind fun e=>
  (G2 e.Bytes).bind fun y=>
  (rec e.Elements).bind fun y_2=>
  (Gy 256 out_1 ([(Ab.mk e.Tag y e.Nested y_2)]:List Ab)).bind fun l_2=>
  some (.next (W (x8_1 + 1),l_2)))
  (up (
   some out_1))
def D6.F (rec:(List Ab)->Option ((List Ab))) (l:(List Ab)):Option ((List Ab)):=
 Bz (fun q'=>D6.l1 rec l q'.1 q'.2) (0,([]:List Ab))
def D6 (l:(List Ab)):Option ((List Ab)):=U0 (fun rec (x:(List Ab))=>D6.F (fun l=>rec l) x) l
def Nd (l:(List Ab)):Option (Ab):=
 (D6 l).bind fun y=>
 some (Ab.mk 48 ([]:(List UInt8)) true y)
def Ic (u:Ao):Option (Ab):=
 (Di u.Alg).bind fun y=>
 (Di u.Bits).bind fun y_2=>
 (Nd ([y,y_2]:List Ab)).bind fun y_3=>
 some y_3
def Ua (b:Bool):Option (Ab):=
 cond (b)
  (some (Ab.mk 1 ([(255:UInt8)]:List UInt8) false ([]:(List Ab))))
  (some (Ab.mk 1 ([(0:UInt8)]:List UInt8) false ([]:(List Ab))))
def Q8 (l:(List Ab)):Option (Ab):=
 (Nd l).bind fun y=>
 some y
def Em.l1 (c:Ae) (x9_1:Int) (names_1:List Ab):Option (Lp (Int×List Ab) (Ab)):=
 cond (decide (x9_1 < (c.Names.length:Int)))
  ((Bm c.Names x9_1).bind fun e=>
  (Lh e).bind fun y=>
  (Gy 256 names_1 ([y]:List Ab)).bind fun l=>
  some (.next (W (x9_1 + 1),l)))
  (up (
   (Di c.Serial).bind fun y_12=>
   (Lh c.Issuer).bind fun y_13=>
   (Lh c.Subject).bind fun y_14=>
   (Ic c.Key).bind fun y_15=>
   (Di c.KeyId).bind fun y_16=>
   (Ic c.Hash).bind fun y_17=>
   (Di c.From).bind fun y_18=>
   (Di c.To).bind fun y_19=>
   (Ua c.Authority).bind fun y_20=>
   (Di c.Path).bind fun y_21=>
   (Q8 names_1).bind fun y_22=>
   (Nd ([y_12,y_13,y_14,y_15,y_16,y_17,y_18,y_19,y_20,y_21,y_22]:List Ab)).bind fun y_23=>
   some y_23))
def Em (c:Ae):Option (Ab):=
 Bz (fun q'=>Em.l1 c q'.1 q'.2) (0,([]:List Ab))
def Ti (n:Int):Option (Bool):=
 cond (decide (1<=n))
  (cond (decide (n<=255))
   (some (!decide ((eX .i64 n 31)=31)))
   (some false))
  (some false)
def G5 (rec:Ab->Option (Bool)) (x':Ab):Option (Bool):=
 (rec x').bind fun y=>
 some (!y)
def B7.l1 (s:(List Ab)) (f:Ab->Option (Bool)) (x8_1:Int):Option (Lp (Int) (Int)):=
 cond (decide (x8_1 < (s.length:Int)))
  ((Bm s x8_1).bind fun e=>
  (f e).bind fun y=>
  cond (y)
   (up (some x8_1))
   (some (.next (W (x8_1 + 1)))))
  (up (
   some (-1)))
def B7 (rec:Ab->Option (Bool)) (s:(List Ab)) (f:Ab->Option (Bool)):Option (Int):=
 Bz (fun q'=>B7.l1 s f q') 0
def Eb (rec:Ab->Option (Bool)) (s:(List Ab)) (f:Ab->Option (Bool)):Option (Bool):=
 (B7 rec s f).bind fun y=>
 some (decide (0<=y))
def Dp.j1 (rec:Ab->Option (Bool)) (v:Ab) (x36_1:Bool):Option (Bool):=
 cond (x36_1)
  (some false)
  ((Eb rec v.Elements (fun x0=>G5 rec x0)).bind fun y_2=>
  some (!y_2))
def Dp.F (rec:Ab->Option (Bool)) (v:Ab):Option (Bool):=
 (Ti v.Tag).bind fun y=>
 cond (!y)
  (Dp.j1 rec v true)
  (cond (!decide (v.Nested=(!decide ((eX .i64 v.Tag 32)=0))))
   (Dp.j1 rec v true)
   (cond (v.Nested)
    (cond (decide (0 < (v.Bytes.length:Int)))
     (Dp.j1 rec v true)
     (Dp.j1 rec v false))
    (Dp.j1 rec v (decide (0 < (v.Elements.length:Int))))))
def Dp (v:Ab):Option (Bool):=U0 (fun rec (x:Ab)=>Dp.F (fun v=>rec v) x) v
def Et.l1 (rec:Ab->Option (Int)) (v:Ab) (most_1:Int) (x9_1:Int):Option (Lp (Int×Int) (Int)):=
 cond (decide (x9_1 < (v.Elements.length:Int)))
  ((Bm v.Elements x9_1).bind fun e=>
  (rec e).bind fun y=>
  some (.next (max most_1 y,W (x9_1 + 1))))
  (up (
   some (W (most_1 + 1))))
def Et.F (rec:Ab->Option (Int)) (v:Ab):Option (Int):=
 Bz (fun q'=>Et.l1 rec v q'.1 q'.2) (0,0)
def Et (v:Ab):Option (Int):=U0 (fun rec (x:Ab)=>Et.F (fun v=>rec v) x) v
def Ed.l2 (n:Int) (i_2:Int) (b_2:List UInt8):Option (Lp (Int×List UInt8) ((List UInt8))):=
 cond (decide (0<=i_2))
  ((Rn .i64 n (W (8 * i_2))).bind fun q_2=>
  (Gy 1 b_2 ([(u8 q_2)]:List UInt8)).bind fun l_3=>
  some (.next (W (i_2 - 1),l_3)))
  (up (
   some b_2))
def Ed.l1 (b:List UInt8) (n:Int) (count_1:Int) (m_1:Int):Option (Lp (Int×Int) ((List UInt8))):=
 cond (decide (0 < m_1))
  ((Rn .i64 m_1 8).bind fun q=>
  some (.next (W (count_1 + 1),q)))
  (up (
   (Gy 1 b ([(u8 (W (128 + count_1)))]:List UInt8)).bind fun l_2=>
   Bz (fun q'=>Ed.l2 n q'.1 q'.2) (W (count_1 - 1),l_2)))
def Ed (b:List UInt8) (n:Int):Option ((List UInt8)):=
 cond (decide (n < 128))
  ((Gy 1 b ([(u8 n)]:List UInt8)).bind fun l=>
  some l)
  (Bz (fun q'=>Ed.l1 b n q'.1 q'.2) (0,n))
def Iu (rec:Ab->Option ((List UInt8))) (b:List UInt8) (v:Ab):Option ((List UInt8)):=
 (rec v).bind fun y=>
 (Gy 1 b ([(u8 v.Tag)]:List UInt8)).bind fun l=>
 (Ed l (y.length:Int)).bind fun y_2=>
 (Gy 1 y_2 y).bind fun l_2=>
 some l_2
def Dd.l1 (rec:Ab->Option ((List UInt8))) (v:Ab) (x14_1:Int) (out_1:List UInt8):Option (Lp (Int×List UInt8) ((List UInt8))):=
 cond (decide (x14_1 < (v.Elements.length:Int)))
  ((Bm v.Elements x14_1).bind fun e=>
  (Iu rec out_1 e).bind fun y=>
  some (.next (W (x14_1 + 1),y)))
  (up (
   some out_1))
def Dd.F (rec:Ab->Option ((List UInt8))) (v:Ab):Option ((List UInt8)):=
 cond (!v.Nested)
  (some v.Bytes)
  (Bz (fun q'=>Dd.l1 rec v q'.1 q'.2) (0,([]:List UInt8)))
def Dd (v:Ab):Option ((List UInt8)):=U0 (fun rec (x:Ab)=>Dd.F (fun v=>rec v) x) v
def L7 (v:Ab):Option ((List UInt8)):=
 (Dd v).bind fun y=>
 (Gy 1 ([]:List UInt8) ([(u8 v.Tag)]:List UInt8)).bind fun l=>
 (Ed l (y.length:Int)).bind fun y_2=>
 (Gy 1 y_2 y).bind fun l_2=>
 some l_2
def Jr (v:Ab):Option ((List UInt8)×Int):=
 (Dp v).bind fun y=>
 cond (!y)
  (some (([]:(List UInt8)),1))
  ((Et v).bind fun y_2=>
  cond (decide (16 < y_2))
   (some (([]:(List UInt8)),3))
   ((L7 v).bind fun y_3=>
   cond (decide (4096 < (y_3.length:Int)))
    (some (([]:(List UInt8)),3))
    (some (y_3,0))))
def In (c:Ae):Option ((List UInt8)×Int):=
 (Bj c).bind fun y=>
 cond (!y)
  (some (([]:(List UInt8)),9))
  ((Em c).bind fun y_2=>
  (Jr y_2).bind fun y_3=>
  some (y_3.1,y_3.2))
def D7.l1 (b:(List UInt8)) (s_1:Int) (x8_1:Int):Option (Lp (Int×Int) (Int)):=
 cond (decide (x8_1 < (b.length:Int)))
  ((Bm b x8_1).bind fun e=>
  some (.next (IntKind.wrap .u32 ((Sr .u32 s_1 (IntKind.wrap .u32 (e.toNat:Int))) * 16777619),W (x8_1 + 1))))
  (up (
   some (W s_1)))
def D7 (b:(List UInt8)):Option (Int):=
 Bz (fun q'=>D7.l1 b q'.1 q'.2) (2166136261,0)
def H7 (c:Ae) (key:Int):Option (Bool):=
 (In c).bind fun y=>
 cond (decide (y.2=0))
  ((D7 y.1).bind fun y_2=>
  some (decide (c.Seal=(Be.mk key y_2))))
  (some false)
def Ec.j2 (x9_1:Int) (wrong_2:Bool):Option (Lp (Int) (Bool)):=
 cond (wrong_2)
  (up (some true))
  (some (.next (W (x9_1 + 1))))
def Ec.l1 (l:(List Ae)) (e:Int) (x9_1:Int):Option (Lp (Int) (Bool)):=
 cond (decide (x9_1 < (l.length:Int)))
  (cond (decide (e=11))
   (cond (decide ((W (x9_1 + 1)) < (l.length:Int)))
    ((Bm l x9_1).bind fun e_2=>
    (Bm l (W (x9_1 + 1))).bind fun e_3=>
    Ec.j2 x9_1 (!decide (e_2.Issuer=e_3.Subject)))
    (Ec.j2 x9_1 false))
   (cond (decide (e=15))
    ((Hp l x9_1).bind fun y=>
    Ec.j2 x9_1 (!y))
    ((Bm l x9_1).bind fun e_4=>
    (Od l x9_1).bind fun y_2=>
    (H7 e_4 y_2).bind fun y_3=>
    Ec.j2 x9_1 (!y_3))))
  (up (
   some false))
def Ec (l:(List Ae)) (e:Int):Option (Bool):=
 Bz (fun q'=>Ec.l1 l e q') 0
def Cn.l3 (l:(List Ae)) (anchors:(List Int)) (x44_3:Int):Option (Lp (Int) (Int)):=
 cond (decide (x44_3 < 3))
  ((Bm ([11,15,10]:List Int) x44_3).bind fun e_3=>
  (Ec l e_3).bind fun y_4=>
  cond (y_4)
   (up (some e_3))
   (some (.next (W (x44_3 + 1)))))
  (up (
   (Bm l (W ((l.length:Int) - 1))).bind fun e_4=>
   (Cz anchors e_4.Seal.Key).bind fun y_5=>
   cond (!y_5)
    (some 12)
    (some 0)))
def Cn.l1 (l:(List Ae)) (anchors:(List Int)) (hashes:(List Int)) (day:Int) (x35_1:Int):Option (Lp (Int) (Int)):=
 cond (decide (x35_1 < 2))
  ((Bm ([13,7]:List Int) x35_1).bind fun e_2=>
  (C7 l (fun x0=>My x0 hashes day e_2)).bind fun y_3=>
  cond (y_3)
   (up (some e_2))
   (some (.next (W (x35_1 + 1)))))
  (up (
   Bz (fun q'=>Cn.l3 l anchors q') 0))
def Cn (l:(List Ae)) (anchors:(List Int)) (hashes:(List Int)) (day:Int) (name:ByteArray):Option (Int):=
 cond (decide ((l.length:Int)=0))
  (some 4)
  (cond (decide (8 < (l.length:Int)))
   (some 3)
   ((C7 l (fun x0=>Mv x0)).bind fun y=>
   cond (y)
    (some 9)
    ((Bm l 0).bind fun e=>
    (G1 e.Names name).bind fun y_2=>
    cond (!y_2)
     (some 14)
     (Bz (fun q'=>Cn.l1 l anchors hashes day q') 0))))
def Ka (t:Cl):Option ((List Int)):=
 some t.suites
def Dh.j2 (client:Ac) (server:Ac) (day:Int) (most:Int) (suites:(List Int)) (x58_2:Bool):Option (Ap×Int):=
 cond (x58_2)
  (some ((Ap.mk 0 0),27))
  (cond (server.OwnOrder)
   ((Kz (Cl.mk server (min most server.Most) suites)).bind fun y_2=>
   (Bi y_2 (fun x0=>B2 (Cl.mk server (min most server.Most) suites) x0)).bind fun y_3=>
   cond (decide (y_3 < 0))
    (some ((Ap.mk 0 0),28))
    ((Bm y_2 y_3).bind fun e=>
    (Fg server e).bind fun y_4=>
    (Bm server.Identities y_4.1).bind fun e_2=>
    (Cn e_2.Chain client.Anchors client.Hashes day server.Name).bind fun y_5=>
    cond (!decide (y_5=0))
     (some ((Ap.mk 0 0),29))
     (some ((Ap.mk (min most server.Most) e),0))))
   ((Ka (Cl.mk server (min most server.Most) suites)).bind fun y_6=>
   (Bi y_6 (fun x0=>B2 (Cl.mk server (min most server.Most) suites) x0)).bind fun y_7=>
   cond (decide (y_7 < 0))
    (some ((Ap.mk 0 0),28))
    ((Bm y_6 y_7).bind fun e_3=>
    (Fg server e_3).bind fun y_8=>
    (Bm server.Identities y_8.1).bind fun e_4=>
    (Cn e_4.Chain client.Anchors client.Hashes day server.Name).bind fun y_9=>
    cond (!decide (y_9=0))
     (some ((Ap.mk 0 0),29))
     (some ((Ap.mk (min most server.Most) e_3),0)))))
def Dh.j1 (client:Ac) (server:Ac) (day:Int) (most:Int) (suites:(List Int)) (x24_1:Bool):Option (Ap×Int):=
 cond (x24_1)
  (some ((Ap.mk 0 0),2))
  (cond (decide ((min most server.Most) < client.Least))
   (Dh.j2 client server day most suites true)
   (Dh.j2 client server day most suites (decide ((min most server.Most) < server.Least))))
def Dh (client:Ac) (server:Ac) (day:Int) (most:Int) (suites:(List Int)):Option (Ap×Int):=
 (Jq client server).bind fun y=>
 cond (!y)
  (some ((Ap.mk 0 0),19))
  (cond (decide (day < 0))
   (Dh.j1 client server day most suites true)
   (cond (decide (40000 < day))
    (Dh.j1 client server day most suites true)
    (cond (decide (most < 1))
     (Dh.j1 client server day most suites true)
     (Dh.j1 client server day most suites (decide (4 < most))))))
def Hz (w:Aa) (c0:Ap):Option (Bool):=
 some (decide (w.Outcome=c0))
def Bx.l1 (s:(List Aa)) (f:Aa->Option (Bool)) (x8_1:Int):Option (Lp (Int) (Int)):=
 cond (decide (x8_1 < (s.length:Int)))
  ((Bm s x8_1).bind fun e=>
  (f e).bind fun y=>
  cond (y)
   (up (some x8_1))
   (some (.next (W (x8_1 + 1)))))
  (up (
   some (-1)))
def Bx (s:(List Aa)) (f:Aa->Option (Bool)):Option (Int):=
 Bz (fun q'=>Bx.l1 s f q') 0
def D2 (s:(List Aa)) (f:Aa->Option (Bool)):Option (Bool):=
 (Bx s f).bind fun y=>
 some (decide (0<=y))
def E5.j1 (s:(List Int)) (x4_1:Bool):Option ((List Int)):=
 cond (x4_1)
  (some ([]:(List Int)))
  ((Gy 8 ([]:List Int) s).bind fun l=>
  some l)
def E5 (s:(List Int)):Option ((List Int)):=
 kO (s)
  (E5.j1 s true)
  (E5.j1 s false)
def En.j2 (most:Int) (suites:(List Int)) (c3:(List Aa)) (y:Ap×Int) (x26_2:Bool):Option ((List Aa)):=
 cond (x26_2)
  ((E5 suites).bind fun y_3=>
  (Gy 192 c3 ([(Aa.mk y.1 most y_3)]:List Aa)).bind fun l=>
  some l)
  (some c3)
def En (most:Int) (suites:(List Int)) (c0:Ac) (c1:Ac) (c2:Int) (c3:(List Aa)):Option ((List Aa)):=
 (Dh c0 c1 c2 most suites).bind fun y=>
 cond (decide (y.2=0))
  ((D2 c3 (fun x0=>Hz x0 y.1)).bind fun y_2=>
  En.j2 most suites c3 y (!y_2))
  (En.j2 most suites c3 y false)
def I4 (code:Int) (weak:Int):Option (Bool):=
 (Dw code).bind fun y=>
 cond (decide (y.2=0))
  ((A9 y.1.Mac).bind fun y_2=>
  some (decide (y_2 < weak)))
  (some false)
def Bw.j3 (x_3:Int) (n_3:Int):Option (Int):=
 (oI (⟨#[0,1,2,2,3,3,3,3,4,4,4,4,4,4,4,4,5,5,5,5,5,5,5,5,5,5,5,5,5,5,5,5,6,6,6,6,6,6,6,6,6,6,6,6,6,6,6,6,6,6,6,6,6,6,6,6,6,6,6,6,6,6,6,6,7,7,7,7,7,7,7,7,7,7,7,7,7,7,7,7,7,7,7,7,7,7,7,7,7,7,7,7,7,7,7,7,7,7,7,7,7,7,7,7,7,7,7,7,7,7,7,7,7,7,7,7,7,7,7,7,7,7,7,7,7,7,7,7,8,8,8,8,8,8,8,8,8,8,8,8,8,8,8,8,8,8,8,8,8,8,8,8,8,8,8,8,8,8,8,8,8,8,8,8,8,8,8,8,8,8,8,8,8,8,8,8,8,8,8,8,8,8,8,8,8,8,8,8,8,8,8,8,8,8,8,8,8,8,8,8,8,8,8,8,8,8,8,8,8,8,8,8,8,8,8,8,8,8,8,8,8,8,8,8,8,8,8,8,8,8,8,8,8,8,8,8,8,8,8,8,8,8,8,8,8,8,8,8,8,8,8,8,8,8,8,8]⟩:ByteArray) ((u8 x_3).toNat:Int)).bind fun c=>
 some (W (n_3 + (c.toNat:Int)))
def Bw.j2 (x_2:Int) (n_2:Int):Option (Int):=
 cond (decide (256<=x_2))
  ((Rn .u64 x_2 8).bind fun q_3=>
  Bw.j3 q_3 (W (n_2 + 8)))
  (Bw.j3 x_2 n_2)
def Bw.j1 (x_1:Int) (n_1:Int):Option (Int):=
 cond (decide (65536<=x_1))
  ((Rn .u64 x_1 16).bind fun q_2=>
  Bw.j2 q_2 (W (n_1 + 16)))
  (Bw.j2 x_1 n_1)
def Bw (x':Int):Option (Int):=
 cond (decide (4294967296<=x'))
  ((Rn .u64 x' 32).bind fun q=>
  Bw.j1 q 32)
  (Bw.j1 x' 0)
def Ig (x':Int):Option (Int):=
 (Bw x').bind fun y=>
 some y
def Lt (x':Int):Option (Bool):=
 some (!decide (x'=x'))
def Ie (x':Int) (y:Int):Option (Int):=
 (Lt x').bind fun y_2=>
 (Lt y).bind fun y_3=>
 cond (y_2)
  (cond (y_3)
   (some 0)
   (some (-1)))
  (cond (y_3)
   (some 1)
   (cond (decide (x' < y))
    (some (-1))
    (cond (decide (y < x'))
     (some 1)
     (some 0))))
def Gt.l1 (vals:(List Int)) (x8_1:Int):Option (Lp (Int) (Int)):=
 cond (decide (x8_1 < (vals.length:Int)))
  ((Bm vals x8_1).bind fun e=>
  cond (!decide (e=0))
   (up (some e))
   (some (.next (W (x8_1 + 1)))))
  (up (
   some 0))
def Gt (vals:(List Int)):Option (Int):=
 Bz (fun q'=>Gt.l1 vals q') 0
def E9 (a:Aa) (b:Aa):Option (Int):=
 (Ie a.Outcome.Version b.Outcome.Version).bind fun y=>
 (Ie a.Outcome.Suite b.Outcome.Suite).bind fun y_2=>
 (Gt ([y,y_2]:List Int)).bind fun y_3=>
 some y_3
def Ar.j3 (i_1:Int) (j_2:Int) (data_2:List Aa) (x34_3:Bool):Option (Lp (Int×List Aa) (Lp (Int×List Aa) ((List Aa)))):=
 cond (x34_3)
  ((Bm data_2 (W (j_2 - 1))).bind fun e_3=>
  (Bm data_2 j_2).bind fun e_4=>
  (Bm (Ex data_2 ((j_2).toNat) e_3) (W (j_2 - 1))).bind fun e_5=>
  some (.next (W (j_2 - 1),Ex (Ex data_2 ((j_2).toNat) e_3) ((W (j_2 - 1)).toNat) e_4)))
  (up (
   some (.next (W (i_1 + 1),data_2))))
def Ar.l2 (a:Int) (cmp:Aa->Aa->Option (Int)) (i_1:Int) (j_2:Int) (data_2:List Aa):Option (Lp (Int×List Aa) (Lp (Int×List Aa) ((List Aa)))):=
 cond (decide (a < j_2))
  ((Bm data_2 j_2).bind fun e=>
  (Bm data_2 (W (j_2 - 1))).bind fun e_2=>
  (cmp e e_2).bind fun y=>
  Ar.j3 i_1 j_2 data_2 (decide (y < 0)))
  (Ar.j3 i_1 j_2 data_2 false)
def Ar.l1 (a:Int) (b:Int) (cmp:Aa->Aa->Option (Int)) (i_1:Int) (data_1:List Aa):Option (Lp (Int×List Aa) ((List Aa))):=
 cond (decide (i_1 < b))
  (Bz (fun q'=>Ar.l2 a cmp i_1 q'.1 q'.2) (i_1,data_1))
  (up (some data_1))
def Ar (data:List Aa) (a:Int) (b:Int) (cmp:Aa->Aa->Option (Int)):Option ((List Aa)):=
 Bz (fun q'=>Ar.l1 a b cmp q'.1 q'.2) (W (a + 1),data)
def As.j3 (first:Int) (cmp:Aa->Aa->Option (Int)) (root_1:Int) (data_1:List Aa) (child_3:Int):Option (Lp (Int×List Aa) ((List Aa))):=
 (Bm data_1 (W (first + root_1))).bind fun e_3=>
 (Bm data_1 (W (first + child_3))).bind fun e_4=>
 (cmp e_3 e_4).bind fun y_2=>
 cond (!(decide (y_2 < 0)))
  (up (some data_1))
  ((Bm (Ex data_1 ((W (first + root_1)).toNat) e_4) (W (first + child_3))).bind fun e_5=>
  some (.next (child_3,Ex (Ex data_1 ((W (first + root_1)).toNat) e_4) ((W (first + child_3)).toNat) e_3)))
def As.j2 (first:Int) (cmp:Aa->Aa->Option (Int)) (root_1:Int) (data_1:List Aa) (x40_2:Bool):Option (Lp (Int×List Aa) ((List Aa))):=
 cond (x40_2)
  (As.j3 first cmp root_1 data_1 (W ((W ((W (2 * root_1)) + 1)) + 1)))
  (As.j3 first cmp root_1 data_1 (W ((W (2 * root_1)) + 1)))
def As.l1 (hi:Int) (first:Int) (cmp:Aa->Aa->Option (Int)) (root_1:Int) (data_1:List Aa):Option (Lp (Int×List Aa) ((List Aa))):=
 cond (decide (hi<=(W ((W (2 * root_1)) + 1))))
  (up (some data_1))
  (cond (decide ((W ((W ((W (2 * root_1)) + 1)) + 1)) < hi))
   ((Bm data_1 (W (first + (W ((W (2 * root_1)) + 1))))).bind fun e=>
   (Bm data_1 (W ((W (first + (W ((W (2 * root_1)) + 1)))) + 1))).bind fun e_2=>
   (cmp e e_2).bind fun y=>
   As.j2 first cmp root_1 data_1 (decide (y < 0)))
   (As.j2 first cmp root_1 data_1 false))
def As (data:List Aa) (lo:Int) (hi:Int) (first:Int) (cmp:Aa->Aa->Option (Int)):Option ((List Aa)):=
 Bz (fun q'=>As.l1 hi first cmp q'.1 q'.2) (lo,data)
def Bd.l2 (a:Int) (cmp:Aa->Aa->Option (Int)) (i_2:Int) (data_2:List Aa):Option (Lp (Int×List Aa) ((List Aa))):=
 cond (decide (0<=i_2))
  ((Bm data_2 (W (a + i_2))).bind fun e=>
  (Bm data_2 a).bind fun e_2=>
  (Bm (Ex data_2 ((a).toNat) e) (W (a + i_2))).bind fun e_3=>
  (As (Ex (Ex data_2 ((a).toNat) e) ((W (a + i_2)).toNat) e_2) 0 i_2 a cmp).bind fun y_2=>
  some (.next (W (i_2 - 1),y_2)))
  (up (some data_2))
def Bd.l1 (a:Int) (b:Int) (cmp:Aa->Aa->Option (Int)) (i_1:Int) (data_1:List Aa):Option (Lp (Int×List Aa) ((List Aa))):=
 cond (decide (0<=i_1))
  ((As data_1 i_1 (W (b - a)) a cmp).bind fun y=>
  some (.next (W (i_1 - 1),y)))
  (up (
   Bz (fun q'=>Bd.l2 a cmp q'.1 q'.2) (W ((W (b - a)) - 1),data_1)))
def Bd (data:List Aa) (a:Int) (b:Int) (cmp:Aa->Aa->Option (Int)):Option ((List Aa)):=
 (Pm (W ((W (b - a)) - 1)) 2).bind fun q=>
 Bz (fun q'=>Bd.l1 a b cmp q'.1 q'.2) (q,data)
def Hf (length:Int):Option (Int):=
 (Ig (IntKind.wrap .u64 length)).bind fun y=>
 (jL .u64 1 y).bind fun q=>
 some q
def Hm (r':Int):Option (Int×Int):=
 (jL .u64 r' 13).bind fun q=>
 (Rn .u64 (Sr .u64 r' q) 7).bind fun q_2=>
 (jL .u64 (Sr .u64 (Sr .u64 r' q) q_2) 17).bind fun q_3=>
 some (Sr .u64 (Sr .u64 (Sr .u64 r' q) q_2) q_3,Sr .u64 (Sr .u64 (Sr .u64 r' q) q_2) q_3)
def Ba.j2 (a:Int) (idx_1:Int) (data_1:List Aa) (y_2:Int×Int) (other_2:Int):Option (Lp (Int×List Aa×Int) ((List Aa))):=
 (Bm data_1 (W (a + other_2))).bind fun e=>
 (Bm data_1 idx_1).bind fun e_2=>
 (Bm (Ex data_1 ((idx_1).toNat) e) (W (a + other_2))).bind fun e_3=>
 some (.next (W (idx_1 + 1),Ex (Ex data_1 ((idx_1).toNat) e) ((W (a + other_2)).toNat) e_2,y_2.2))
def Ba.l1 (a:Int) (b:Int) (y:Int) (idx_1:Int) (data_1:List Aa) (random_1:Int):Option (Lp (Int×List Aa×Int) ((List Aa))):=
 (Pm (W (b - a)) 4).bind fun q_2=>
 cond (decide (idx_1<=(W ((W (a + (W (q_2 * 2)))) + 1))))
  ((Hm random_1).bind fun y_2=>
  cond (decide ((W (b - a))<=(W (eX .u64 y_2.1 (IntKind.wrap .u64 (y - 1))))))
   (Ba.j2 a idx_1 data_1 y_2 (W ((W (eX .u64 y_2.1 (IntKind.wrap .u64 (y - 1)))) - (W (b - a)))))
   (Ba.j2 a idx_1 data_1 y_2 (W (eX .u64 y_2.1 (IntKind.wrap .u64 (y - 1))))))
  (up (some data_1))
def Ba (data:List Aa) (a:Int) (b:Int) (cmp:Aa->Aa->Option (Int)):Option ((List Aa)):=
 cond (decide (8<=(W (b - a))))
  ((Hf (W (b - a))).bind fun y=>
  (Pm (W (b - a)) 4).bind fun q=>
  Bz (fun q'=>Ba.l1 a b y q'.1 q'.2.1 q'.2.2) (W ((W (a + (W (q * 2)))) - 1),data,IntKind.wrap .u64 (W (b - a))))
  (some data)
def Ek (data:(List Aa)) (a:Int) (b:Int) (swaps:Int) (cmp:Aa->Aa->Option (Int)):Option (Int×Int×Int):=
 (Bm data b).bind fun e=>
 (Bm data a).bind fun e_2=>
 (cmp e e_2).bind fun y=>
 cond (decide (y < 0))
  (some (b,a,W (swaps + 1)))
  (some (a,b,swaps))
def Fh (data:(List Aa)) (a:Int) (b:Int) (c:Int) (swaps:Int) (cmp:Aa->Aa->Option (Int)):Option (Int×Int):=
 (Ek data a b swaps cmp).bind fun y=>
 (Ek data y.2.1 c y.2.2 cmp).bind fun y_2=>
 (Ek data y.1 y_2.1 y_2.2.2 cmp).bind fun y_3=>
 some (y_3.2.1,y_3.2.2)
def Dk (data:(List Aa)) (a:Int) (swaps:Int) (cmp:Aa->Aa->Option (Int)):Option (Int×Int):=
 (Fh data (W (a - 1)) a (W (a + 1)) swaps cmp).bind fun y=>
 some (y.1,y.2)
def Bf.j2 (j_2:Int) (swaps_2:Int):Option (Int×Int):=
 cond (decide (swaps_2=0))
  (some (j_2,1))
  (cond (decide (swaps_2=12))
   (some (j_2,2))
   (some (j_2,0)))
def Bf.j1 (data:(List Aa)) (cmp:Aa->Aa->Option (Int)) (i_1:Int) (j_1:Int) (k_1:Int) (swaps_1:Int):Option (Int×Int):=
 (Fh data i_1 j_1 k_1 swaps_1 cmp).bind fun y_4=>
 Bf.j2 y_4.1 y_4.2
def Bf (data:(List Aa)) (a:Int) (b:Int) (cmp:Aa->Aa->Option (Int)):Option (Int×Int):=
 (Pm (W (b - a)) 4).bind fun q=>
 (Pm (W (b - a)) 4).bind fun q_2=>
 (Pm (W (b - a)) 4).bind fun q_3=>
 cond (decide (8<=(W (b - a))))
  (cond (decide (50<=(W (b - a))))
   ((Dk data (W (a + (W (q * 1)))) 0 cmp).bind fun y=>
   (Dk data (W (a + (W (q_2 * 2)))) y.2 cmp).bind fun y_2=>
   (Dk data (W (a + (W (q_3 * 3)))) y_2.2 cmp).bind fun y_3=>
   Bf.j1 data cmp y.1 y_2.1 y_3.1 y_3.2)
   (Bf.j1 data cmp (W (a + (W (q * 1)))) (W (a + (W (q_2 * 2)))) (W (a + (W (q_3 * 3)))) 0))
  (Bf.j2 (W (a + (W (q_2 * 2)))) 0)
def Bq.l1 (i_1:Int) (j_1:Int) (data_1:List Aa):Option (Lp (Int×Int×List Aa) ((List Aa))):=
 cond (decide (i_1 < j_1))
  ((Bm data_1 j_1).bind fun e=>
  (Bm data_1 i_1).bind fun e_2=>
  (Bm (Ex data_1 ((i_1).toNat) e) j_1).bind fun e_3=>
  some (.next (W (i_1 + 1),W (j_1 - 1),Ex (Ex data_1 ((i_1).toNat) e) ((j_1).toNat) e_2)))
  (up (some data_1))
def Bq (data:List Aa) (a:Int) (b:Int) (cmp:Aa->Aa->Option (Int)):Option ((List Aa)):=
 Bz (fun q'=>Bq.l1 q'.1 q'.2.1 q'.2.2) (a,W (b - 1),data)
def Af.j7 (j_1:Int) (i_7:Int) (data_7:List Aa):Option (Lp (Int×Int×List Aa) (Bool×(List Aa))):=
 some (.next (i_7,W (j_1 + 1),data_7))
def Af.l6 (b:Int) (cmp:Aa->Aa->Option (Int)) (j_1:Int) (i_2:Int) (j_6:Int) (data_6:List Aa):Option (Lp (Int×List Aa) (Lp (Int×Int×List Aa) (Bool×(List Aa)))):=
 cond (decide (j_6 < b))
  ((Bm data_6 j_6).bind fun e_9=>
  (Bm data_6 (W (j_6 - 1))).bind fun e_10=>
  (cmp e_9 e_10).bind fun y_3=>
  cond (!(decide (y_3 < 0)))
   (up (
    Af.j7 j_1 i_2 data_6))
   ((Bm (Ex data_6 ((j_6).toNat) e_10) (W (j_6 - 1))).bind fun e_11=>
   some (.next (W (j_6 + 1),Ex (Ex data_6 ((j_6).toNat) e_10) ((W (j_6 - 1)).toNat) e_9))))
  (up (
   Af.j7 j_1 i_2 data_6))
def Af.j5 (b:Int) (cmp:Aa->Aa->Option (Int)) (j_1:Int) (i_2:Int) (data_5:List Aa):Option (Lp (Int×Int×List Aa) (Bool×(List Aa))):=
 cond (decide (2<=(W (b - i_2))))
  (Bz (fun q'=>Af.l6 b cmp j_1 i_2 q'.1 q'.2) (W (i_2 + 1),data_5))
  (Af.j7 j_1 i_2 data_5)
def Af.l4 (b:Int) (cmp:Aa->Aa->Option (Int)) (j_1:Int) (i_2:Int) (j_4:Int) (data_4:List Aa):Option (Lp (Int×List Aa) (Lp (Int×Int×List Aa) (Bool×(List Aa)))):=
 cond (decide (1<=j_4))
  ((Bm data_4 j_4).bind fun e_6=>
  (Bm data_4 (W (j_4 - 1))).bind fun e_7=>
  (cmp e_6 e_7).bind fun y_2=>
  cond (!(decide (y_2 < 0)))
   (up (
    Af.j5 b cmp j_1 i_2 data_4))
   ((Bm (Ex data_4 ((j_4).toNat) e_7) (W (j_4 - 1))).bind fun e_8=>
   some (.next (W (j_4 - 1),Ex (Ex data_4 ((j_4).toNat) e_7) ((W (j_4 - 1)).toNat) e_6))))
  (up (
   Af.j5 b cmp j_1 i_2 data_4))
def Af.j3 (a:Int) (b:Int) (cmp:Aa->Aa->Option (Int)) (j_1:Int) (data_1:List Aa) (i_2:Int) (x36_3:Bool):Option (Lp (Int) (Lp (Int×Int×List Aa) (Bool×(List Aa)))):=
 cond (x36_3)
  (some (.next (W (i_2 + 1))))
  (up (
   cond (decide (i_2=b))
    (up (some (true,data_1)))
    (cond (decide ((W (b - a)) < 50))
     (up (some (false,data_1)))
     ((Bm data_1 (W (i_2 - 1))).bind fun e_3=>
     (Bm data_1 i_2).bind fun e_4=>
     (Bm (Ex data_1 ((i_2).toNat) e_3) (W (i_2 - 1))).bind fun e_5=>
     cond (decide (2<=(W (i_2 - a))))
      (Bz (fun q'=>Af.l4 b cmp j_1 i_2 q'.1 q'.2) (W (i_2 - 1),Ex (Ex data_1 ((i_2).toNat) e_3) ((W (i_2 - 1)).toNat) e_4))
      (Af.j5 b cmp j_1 i_2 (Ex (Ex data_1 ((i_2).toNat) e_3) ((W (i_2 - 1)).toNat) e_4))))))
def Af.l2 (a:Int) (b:Int) (cmp:Aa->Aa->Option (Int)) (j_1:Int) (data_1:List Aa) (i_2:Int):Option (Lp (Int) (Lp (Int×Int×List Aa) (Bool×(List Aa)))):=
 cond (decide (i_2 < b))
  ((Bm data_1 i_2).bind fun e=>
  (Bm data_1 (W (i_2 - 1))).bind fun e_2=>
  (cmp e e_2).bind fun y=>
  Af.j3 a b cmp j_1 data_1 i_2 (!(decide (y < 0))))
  (Af.j3 a b cmp j_1 data_1 i_2 false)
def Af.l1 (a:Int) (b:Int) (cmp:Aa->Aa->Option (Int)) (i_1:Int) (j_1:Int) (data_1:List Aa):Option (Lp (Int×Int×List Aa) (Bool×(List Aa))):=
 cond (decide (j_1 < 5))
  (Bz (fun q'=>Af.l2 a b cmp j_1 data_1 q') i_1)
  (up (
   some (false,data_1)))
def Af (data:List Aa) (a:Int) (b:Int) (cmp:Aa->Aa->Option (Int)):Option (Bool×(List Aa)):=
 Bz (fun q'=>Af.l1 a b cmp q'.1 q'.2.1 q'.2.2) (W (a + 1),0,data)
def Am.j5 (data_1:List Aa) (i_2:Int) (j_4:Int) (x65_5:Bool):Option (Lp (Int) (Lp (Int×Int×List Aa) (Int×(List Aa)))):=
 cond (x65_5)
  (some (.next (W (j_4 - 1))))
  (up (
   cond (decide (j_4 < i_2))
    (up (
     some (i_2,data_1)))
    ((Bm data_1 j_4).bind fun e_8=>
    (Bm data_1 i_2).bind fun e_9=>
    (Bm (Ex data_1 ((i_2).toNat) e_8) j_4).bind fun e_10=>
    some (.next (W (i_2 + 1),W (j_4 - 1),Ex (Ex data_1 ((i_2).toNat) e_8) ((j_4).toNat) e_9)))))
def Am.l4 (a:Int) (cmp:Aa->Aa->Option (Int)) (data_1:List Aa) (i_2:Int) (j_4:Int):Option (Lp (Int) (Lp (Int×Int×List Aa) (Int×(List Aa)))):=
 cond (decide (i_2<=j_4))
  ((Bm data_1 a).bind fun e_6=>
  (Bm data_1 j_4).bind fun e_7=>
  (cmp e_6 e_7).bind fun y_2=>
  Am.j5 data_1 i_2 j_4 (decide (y_2 < 0)))
  (Am.j5 data_1 i_2 j_4 false)
def Am.j3 (a:Int) (cmp:Aa->Aa->Option (Int)) (j_1:Int) (data_1:List Aa) (i_2:Int) (x47_3:Bool):Option (Lp (Int) (Lp (Int×Int×List Aa) (Int×(List Aa)))):=
 cond (x47_3)
  (some (.next (W (i_2 + 1))))
  (up (
   Bz (fun q'=>Am.l4 a cmp data_1 i_2 q') j_1))
def Am.l2 (a:Int) (cmp:Aa->Aa->Option (Int)) (j_1:Int) (data_1:List Aa) (i_2:Int):Option (Lp (Int) (Lp (Int×Int×List Aa) (Int×(List Aa)))):=
 cond (decide (i_2<=j_1))
  ((Bm data_1 a).bind fun e_4=>
  (Bm data_1 i_2).bind fun e_5=>
  (cmp e_4 e_5).bind fun y=>
  Am.j3 a cmp j_1 data_1 i_2 (!(decide (y < 0))))
  (Am.j3 a cmp j_1 data_1 i_2 false)
def Am.l1 (a:Int) (cmp:Aa->Aa->Option (Int)) (i_1:Int) (j_1:Int) (data_1:List Aa):Option (Lp (Int×Int×List Aa) (Int×(List Aa))):=
 Bz (fun q'=>Am.l2 a cmp j_1 data_1 q') i_1
def Am (data:List Aa) (a:Int) (b:Int) (pivot:Int) (cmp:Aa->Aa->Option (Int)):Option (Int×(List Aa)):=
 (Bm data pivot).bind fun e=>
 (Bm data a).bind fun e_2=>
 (Bm (Ex data ((a).toNat) e) pivot).bind fun e_3=>
 Bz (fun q'=>Am.l1 a cmp q'.1 q'.2.1 q'.2.2) (W (a + 1),W (b - 1),Ex (Ex data ((a).toNat) e) ((pivot).toNat) e_2)
def Aj.j9 (a:Int) (data_5:List Aa) (i_6:Int) (j_8:Int) (x139_9:Bool):Option (Lp (Int) (Lp (Int×Int×List Aa) (Int×Bool×(List Aa)))):=
 cond (x139_9)
  (some (.next (W (j_8 - 1))))
  (up (
   cond (decide (j_8 < i_6))
    (up (
     (Bm data_5 a).bind fun e_21=>
     (Bm data_5 j_8).bind fun e_22=>
     (Bm (Ex data_5 ((j_8).toNat) e_21) a).bind fun e_23=>
     some (j_8,false,Ex (Ex data_5 ((j_8).toNat) e_21) ((a).toNat) e_22)))
    ((Bm data_5 j_8).bind fun e_18=>
    (Bm data_5 i_6).bind fun e_19=>
    (Bm (Ex data_5 ((i_6).toNat) e_18) j_8).bind fun e_20=>
    some (.next (W (i_6 + 1),W (j_8 - 1),Ex (Ex data_5 ((i_6).toNat) e_18) ((j_8).toNat) e_19)))))
def Aj.l8 (a:Int) (cmp:Aa->Aa->Option (Int)) (data_5:List Aa) (i_6:Int) (j_8:Int):Option (Lp (Int) (Lp (Int×Int×List Aa) (Int×Bool×(List Aa)))):=
 cond (decide (i_6<=j_8))
  ((Bm data_5 j_8).bind fun e_16=>
  (Bm data_5 a).bind fun e_17=>
  (cmp e_16 e_17).bind fun y_4=>
  Aj.j9 a data_5 i_6 j_8 (!(decide (y_4 < 0))))
  (Aj.j9 a data_5 i_6 j_8 false)
def Aj.j7 (a:Int) (cmp:Aa->Aa->Option (Int)) (j_5:Int) (data_5:List Aa) (i_6:Int) (x120_7:Bool):Option (Lp (Int) (Lp (Int×Int×List Aa) (Int×Bool×(List Aa)))):=
 cond (x120_7)
  (some (.next (W (i_6 + 1))))
  (up (
   Bz (fun q'=>Aj.l8 a cmp data_5 i_6 q') j_5))
def Aj.l6 (a:Int) (cmp:Aa->Aa->Option (Int)) (j_5:Int) (data_5:List Aa) (i_6:Int):Option (Lp (Int) (Lp (Int×Int×List Aa) (Int×Bool×(List Aa)))):=
 cond (decide (i_6<=j_5))
  ((Bm data_5 i_6).bind fun e_14=>
  (Bm data_5 a).bind fun e_15=>
  (cmp e_14 e_15).bind fun y_3=>
  Aj.j7 a cmp j_5 data_5 i_6 (decide (y_3 < 0)))
  (Aj.j7 a cmp j_5 data_5 i_6 false)
def Aj.l5 (a:Int) (cmp:Aa->Aa->Option (Int)) (i_5:Int) (j_5:Int) (data_5:List Aa):Option (Lp (Int×Int×List Aa) (Int×Bool×(List Aa))):=
 Bz (fun q'=>Aj.l6 a cmp j_5 data_5 q') i_5
def Aj.j4 (data:List Aa) (a:Int) (pivot:Int) (cmp:Aa->Aa->Option (Int)) (e:Aa) (e_2:Aa) (i_1:Int) (j_3:Int) (x66_4:Bool):Option (Lp (Int) (Int×Bool×(List Aa))):=
 cond (x66_4)
  (some (.next (W (j_3 - 1))))
  (up (
   cond (decide (j_3 < i_1))
    ((Bm (Ex (Ex data ((a).toNat) e) ((pivot).toNat) e_2) a).bind fun e_8=>
    (Bm (Ex (Ex data ((a).toNat) e) ((pivot).toNat) e_2) j_3).bind fun e_9=>
    (Bm (Ex (Ex (Ex data ((a).toNat) e) ((pivot).toNat) e_2) ((j_3).toNat) e_8) a).bind fun e_10=>
    some (j_3,true,Ex (Ex (Ex (Ex data ((a).toNat) e) ((pivot).toNat) e_2) ((j_3).toNat) e_8) ((a).toNat) e_9))
    ((Bm (Ex (Ex data ((a).toNat) e) ((pivot).toNat) e_2) j_3).bind fun e_11=>
    (Bm (Ex (Ex data ((a).toNat) e) ((pivot).toNat) e_2) i_1).bind fun e_12=>
    (Bm (Ex (Ex (Ex data ((a).toNat) e) ((pivot).toNat) e_2) ((i_1).toNat) e_11) j_3).bind fun e_13=>
    Bz (fun q'=>Aj.l5 a cmp q'.1 q'.2.1 q'.2.2) (W (i_1 + 1),W (j_3 - 1),Ex (Ex (Ex (Ex data ((a).toNat) e) ((pivot).toNat) e_2) ((i_1).toNat) e_11) ((j_3).toNat) e_12))))
def Aj.l3 (data:List Aa) (a:Int) (pivot:Int) (cmp:Aa->Aa->Option (Int)) (e:Aa) (e_2:Aa) (i_1:Int) (j_3:Int):Option (Lp (Int) (Int×Bool×(List Aa))):=
 cond (decide (i_1<=j_3))
  ((Bm (Ex (Ex data ((a).toNat) e) ((pivot).toNat) e_2) j_3).bind fun e_6=>
  (Bm (Ex (Ex data ((a).toNat) e) ((pivot).toNat) e_2) a).bind fun e_7=>
  (cmp e_6 e_7).bind fun y_2=>
  Aj.j4 data a pivot cmp e e_2 i_1 j_3 (!(decide (y_2 < 0))))
  (Aj.j4 data a pivot cmp e e_2 i_1 j_3 false)
def Aj.j2 (data:List Aa) (a:Int) (b:Int) (pivot:Int) (cmp:Aa->Aa->Option (Int)) (e:Aa) (e_2:Aa) (i_1:Int) (x47_2:Bool):Option (Lp (Int) (Int×Bool×(List Aa))):=
 cond (x47_2)
  (some (.next (W (i_1 + 1))))
  (up (
   Bz (fun q'=>Aj.l3 data a pivot cmp e e_2 i_1 q') (W (b - 1))))
def Aj.l1 (data:List Aa) (a:Int) (b:Int) (pivot:Int) (cmp:Aa->Aa->Option (Int)) (e:Aa) (e_2:Aa) (i_1:Int):Option (Lp (Int) (Int×Bool×(List Aa))):=
 cond (decide (i_1<=(W (b - 1))))
  ((Bm (Ex (Ex data ((a).toNat) e) ((pivot).toNat) e_2) i_1).bind fun e_4=>
  (Bm (Ex (Ex data ((a).toNat) e) ((pivot).toNat) e_2) a).bind fun e_5=>
  (cmp e_4 e_5).bind fun y=>
  Aj.j2 data a b pivot cmp e e_2 i_1 (decide (y < 0)))
  (Aj.j2 data a b pivot cmp e e_2 i_1 false)
def Aj (data:List Aa) (a:Int) (b:Int) (pivot:Int) (cmp:Aa->Aa->Option (Int)):Option (Int×Bool×(List Aa)):=
 (Bm data pivot).bind fun e=>
 (Bm data a).bind fun e_2=>
 (Bm (Ex data ((a).toNat) e) pivot).bind fun e_3=>
 Bz (fun q'=>Aj.l1 data a b pivot cmp e e_2 q') (W (a + 1))
def Ak.j6 (rec:(List Aa)->Int->Int->Int->Option ((List Aa))) (cmp:Aa->Aa->Option (Int)) (a_1:Int) (b_1:Int) (wasBalanced_1:Bool) (wasPartitioned_1:Bool) (limit_2:Int) (pivot_3:Int) (data_5:List Aa) (x97_6:Bool):Option (Lp (Int×Int×Int×Bool×Bool×List Aa) ((List Aa))):=
 cond (x97_6)
  ((Am data_5 a_1 b_1 pivot_3 cmp).bind fun y_8=>
  some (.next (y_8.1,b_1,limit_2,wasBalanced_1,wasPartitioned_1,y_8.2)))
  ((Aj data_5 a_1 b_1 pivot_3 cmp).bind fun y_9=>
  (Pm (W (b_1 - a_1)) 8).bind fun q=>
  cond (decide ((W (y_9.1 - a_1)) < (W (b_1 - y_9.1))))
   ((rec y_9.2.2 a_1 y_9.1 limit_2).bind fun y_10=>
   some (.next (W (y_9.1 + 1),b_1,limit_2,decide (q<=(W (y_9.1 - a_1))),y_9.2.1,y_10)))
   ((rec y_9.2.2 (W (y_9.1 + 1)) b_1 limit_2).bind fun y_11=>
   some (.next (a_1,y_9.1,limit_2,decide (q<=(W (b_1 - y_9.1))),y_9.2.1,y_11))))
def Ak.j5 (rec:(List Aa)->Int->Int->Int->Option ((List Aa))) (cmp:Aa->Aa->Option (Int)) (a_1:Int) (b_1:Int) (wasBalanced_1:Bool) (wasPartitioned_1:Bool) (limit_2:Int) (pivot_3:Int) (data_5:List Aa):Option (Lp (Int×Int×Int×Bool×Bool×List Aa) ((List Aa))):=
 cond (decide (0 < a_1))
  ((Bm data_5 (W (a_1 - 1))).bind fun e=>
  (Bm data_5 pivot_3).bind fun e_2=>
  (cmp e e_2).bind fun y_7=>
  Ak.j6 rec cmp a_1 b_1 wasBalanced_1 wasPartitioned_1 limit_2 pivot_3 data_5 (!(decide (y_7 < 0))))
  (Ak.j6 rec cmp a_1 b_1 wasBalanced_1 wasPartitioned_1 limit_2 pivot_3 data_5 false)
def Ak.j4 (rec:(List Aa)->Int->Int->Int->Option ((List Aa))) (cmp:Aa->Aa->Option (Int)) (a_1:Int) (b_1:Int) (wasBalanced_1:Bool) (wasPartitioned_1:Bool) (limit_2:Int) (pivot_3:Int) (data_3:List Aa) (x75_4:Bool):Option (Lp (Int×Int×Int×Bool×Bool×List Aa) ((List Aa))):=
 cond (x75_4)
  ((Af data_3 a_1 b_1 cmp).bind fun y_6=>
  cond (y_6.1)
   (up (some y_6.2))
   (Ak.j5 rec cmp a_1 b_1 wasBalanced_1 wasPartitioned_1 limit_2 pivot_3 y_6.2))
  (Ak.j5 rec cmp a_1 b_1 wasBalanced_1 wasPartitioned_1 limit_2 pivot_3 data_3)
def Ak.j3 (rec:(List Aa)->Int->Int->Int->Option ((List Aa))) (cmp:Aa->Aa->Option (Int)) (a_1:Int) (b_1:Int) (wasBalanced_1:Bool) (wasPartitioned_1:Bool) (limit_2:Int) (pivot_3:Int) (hint_3:Int) (data_3:List Aa):Option (Lp (Int×Int×Int×Bool×Bool×List Aa) ((List Aa))):=
 cond (wasBalanced_1)
  (cond (wasPartitioned_1)
   (Ak.j4 rec cmp a_1 b_1 wasBalanced_1 wasPartitioned_1 limit_2 pivot_3 data_3 (decide (hint_3=1)))
   (Ak.j4 rec cmp a_1 b_1 wasBalanced_1 wasPartitioned_1 limit_2 pivot_3 data_3 false))
  (Ak.j4 rec cmp a_1 b_1 wasBalanced_1 wasPartitioned_1 limit_2 pivot_3 data_3 false)
def Ak.j2 (rec:(List Aa)->Int->Int->Int->Option ((List Aa))) (cmp:Aa->Aa->Option (Int)) (a_1:Int) (b_1:Int) (wasBalanced_1:Bool) (wasPartitioned_1:Bool) (limit_2:Int) (data_2:List Aa):Option (Lp (Int×Int×Int×Bool×Bool×List Aa) ((List Aa))):=
 (Bf data_2 a_1 b_1 cmp).bind fun y_4=>
 cond (decide (y_4.2=2))
  ((Bq data_2 a_1 b_1 cmp).bind fun y_5=>
  Ak.j3 rec cmp a_1 b_1 wasBalanced_1 wasPartitioned_1 limit_2 (W ((W (b_1 - 1)) - (W (y_4.1 - a_1)))) 1 y_5)
  (Ak.j3 rec cmp a_1 b_1 wasBalanced_1 wasPartitioned_1 limit_2 y_4.1 y_4.2 data_2)
def Ak.l1 (rec:(List Aa)->Int->Int->Int->Option ((List Aa))) (cmp:Aa->Aa->Option (Int)) (a_1:Int) (b_1:Int) (limit_1:Int) (wasBalanced_1:Bool) (wasPartitioned_1:Bool) (data_1:List Aa):Option (Lp (Int×Int×Int×Bool×Bool×List Aa) ((List Aa))):=
 cond (decide ((W (b_1 - a_1))<=12))
  ((Ar data_1 a_1 b_1 cmp).bind fun y=>
  up (some y))
  (cond (decide (limit_1=0))
   ((Bd data_1 a_1 b_1 cmp).bind fun y_2=>
   up (some y_2))
   (cond (!wasBalanced_1)
    ((Ba data_1 a_1 b_1 cmp).bind fun y_3=>
    Ak.j2 rec cmp a_1 b_1 wasBalanced_1 wasPartitioned_1 (W (limit_1 - 1)) y_3)
    (Ak.j2 rec cmp a_1 b_1 wasBalanced_1 wasPartitioned_1 limit_1 data_1)))
def Ak.F (rec:(List Aa)->Int->Int->Int->Option ((List Aa))) (data:List Aa) (a:Int) (b:Int) (limit:Int) (cmp:Aa->Aa->Option (Int)):Option ((List Aa)):=
 Bz (fun q'=>Ak.l1 rec cmp q'.1 q'.2.1 q'.2.2.1 q'.2.2.2.1 q'.2.2.2.2.1 q'.2.2.2.2.2) (a,b,limit,true,true,data)
def Ak (data:List Aa) (a:Int) (b:Int) (limit:Int) (cmp:Aa->Aa->Option (Int)):Option ((List Aa)):=U0 (fun rec (x:List Aa×Int×Int×Int)=>Ak.F (fun data a b limit=>rec (data,a,b,limit)) x.1 x.2.1 x.2.2.1 x.2.2.2 cmp) (data,a,b,limit)
def Dr (x':List Aa) (cmp:Aa->Aa->Option (Int)):Option ((List Aa)):=
 (Ig (IntKind.wrap .u64 (x'.length:Int))).bind fun y=>
 (Ak x' 0 (x'.length:Int) y cmp).bind fun y_2=>
 some y_2
def Av.j9 (x71_8:Int) (l_9:List Aa):Option (Lp (Int×List Aa) (Lp (Int×List Aa) ((List Aa)×Int))):=
 some (.next (W (x71_8 + 1),l_9))
def Av.l8 (client:Ac) (server:Ac) (day:Int) (weak:Int) (most_7:Int) (x71_8:Int) (l_8:List Aa):Option (Lp (Int×List Aa) (Lp (Int×List Aa) ((List Aa)×Int))):=
 cond (decide (x71_8 < (client.Suites.length:Int)))
  ((Bm client.Suites x71_8).bind fun e=>
  (I4 e weak).bind fun y_4=>
  cond (y_4)
   ((En most_7 ([e]:List Int) client server day l_8).bind fun y_5=>
   Av.j9 x71_8 y_5)
   (Av.j9 x71_8 l_8))
  (up (
   some (.next (W (most_7 - 1),l_8))))
def Av.l7 (client:Ac) (server:Ac) (day:Int) (weak:Int) (most_7:Int) (l_7:List Aa):Option (Lp (Int×List Aa) ((List Aa)×Int)):=
 cond (decide (client.Least<=most_7))
  (Bz (fun q'=>Av.l8 client server day weak most_7 q'.1 q'.2) (0,l_7))
  (up (
   (Dr l_7 (fun x0 x1=>E9 x0 x1)).bind fun y_6=>
   some (y_6,0)))
def Av.l6 (client:Ac) (server:Ac) (day:Int) (weak:Int) (least_5:Int) (most_6:Int) (l_6:List Aa):Option (Lp (Int×List Aa) ((List Aa)×Int)):=
 cond (decide (least_5<=most_6))
  ((En most_6 client.Suites client server day l_6).bind fun y_3=>
  some (.next (W (most_6 - 1),y_3)))
  (up (
   Bz (fun q'=>Av.l7 client server day weak q'.1 q'.2) (client.Most,l_6)))
def Av.j5 (client:Ac) (server:Ac) (day:Int) (weak:Int) (least_5:Int):Option ((List Aa)×Int):=
 Bz (fun q'=>Av.l6 client server day weak least_5 q'.1 q'.2) (client.Most,([]:List Aa))
def Av.j2 (client:Ac) (server:Ac) (day:Int) (weak:Int) (x26_2:Bool):Option ((List Aa)×Int):=
 cond (x26_2)
  (some (([]:(List Aa)),2))
  (cond (client.Fallback)
   (Av.j5 client server day weak client.Least)
   (Av.j5 client server day weak client.Most))
def Av.j1 (client:Ac) (server:Ac) (day:Int) (weak:Int) (x17_1:Bool):Option ((List Aa)×Int):=
 cond (x17_1)
  (some (([]:(List Aa)),19))
  (cond (decide (day < 0))
   (Av.j2 client server day weak true)
   (cond (decide (40000 < day))
    (Av.j2 client server day weak true)
    (cond (decide (weak < 0))
     (Av.j2 client server day weak true)
     (Av.j2 client server day weak (decide (512 < weak))))))
def Av (client:Ac) (server:Ac) (day:Int) (weak:Int):Option ((List Aa)×Int):=
 (Bp client).bind fun y=>
 cond (!decide (y=0))
  (Av.j1 client server day weak true)
  ((Bp server).bind fun y_2=>
  Av.j1 client server day weak (!decide (y_2=0)))
def Fx.j1 (y_2:Az×Int) (e:Al) (s_1:Int):Option ((List Ao)×Int):=
 some (([(Ao.mk y_2.1.Exchange.Alg s_1),e.Key,y_2.1.Cipher,y_2.1.Mac]:List Ao),0)
def Fx (server:Ac) (o:Ap):Option ((List Ao)×Int):=
 (Bp server).bind fun y=>
 cond (!decide (y=0))
  (some (([]:(List Ao)),y))
  ((Dw o.Suite).bind fun y_2=>
  cond (!decide (y_2.2=0))
   (some (([]:(List Ao)),y_2.2))
   ((Fg server o.Suite).bind fun y_3=>
   cond (!y_3.2)
    (some (([]:(List Ao)),4))
    ((Bm server.Identities y_3.1).bind fun e=>
    cond (decide (y_2.1.Exchange.Bits=0))
     (Fx.j1 y_2 e e.Key.Bits)
     (Fx.j1 y_2 e y_2.1.Exchange.Bits))))
def Ob (r':Aw):Option (Bool):=
 cond (decide (0<=r'.Alg))
  (cond (decide (r'.Alg<=22))
   (cond (decide (0<=r'.Below))
    (cond (decide (r'.Below<=16384))
     (cond (decide (0<=r'.Purpose))
      (cond (decide (r'.Purpose<=4))
       (cond (decide (0<=r'.From))
        (cond (decide (r'.From < r'.To))
         (some (decide (r'.To<=40001)))
         (some false))
        (some false))
       (some false))
      (some false))
     (some false))
    (some false))
   (some false))
  (some false)
def Hx (r':Aw):Option (Bool):=
 (Ob r').bind fun y=>
 some (!y)
def Cb.l1 (s:(List Aw)) (f:Aw->Option (Bool)) (x8_1:Int):Option (Lp (Int) (Int)):=
 cond (decide (x8_1 < (s.length:Int)))
  ((Bm s x8_1).bind fun e=>
  (f e).bind fun y=>
  cond (y)
   (up (some x8_1))
   (some (.next (W (x8_1 + 1)))))
  (up (
   some (-1)))
def Cb (s:(List Aw)) (f:Aw->Option (Bool)):Option (Int):=
 Bz (fun q'=>Cb.l1 s f q') 0
def F4 (s:(List Aw)) (f:Aw->Option (Bool)):Option (Bool):=
 (Cb s f).bind fun y=>
 some (decide (0<=y))
def Pp (k:Bl):Option (Bool):=
 cond (decide (1<=k.Purpose))
  (cond (decide (k.Purpose<=4))
   (cond (decide (0<=k.Days))
    (some (decide (k.Days<=40000)))
    (some false))
   (some false))
  (some false)
def Hv (k:Bl):Option (Bool):=
 (Pp k).bind fun y=>
 some (!y)
def Ca.l1 (s:(List Bl)) (f:Bl->Option (Bool)) (x8_1:Int):Option (Lp (Int) (Int)):=
 cond (decide (x8_1 < (s.length:Int)))
  ((Bm s x8_1).bind fun e=>
  (f e).bind fun y=>
  cond (y)
   (up (some x8_1))
   (some (.next (W (x8_1 + 1)))))
  (up (
   some (-1)))
def Ca (s:(List Bl)) (f:Bl->Option (Bool)):Option (Int):=
 Bz (fun q'=>Ca.l1 s f q') 0
def F2 (s:(List Bl)) (f:Bl->Option (Bool)):Option (Bool):=
 (Ca s f).bind fun y=>
 some (decide (0<=y))
def Fm.j2 (x24_2:Bool):Option (Int):=
 cond (x24_2)
  (some 25)
  (some 0)
def Fm.j1 (p:Bk) (wrong_1:Bool):Option (Int):=
 cond (wrong_1)
  (Fm.j2 true)
  (cond (decide (60 < (p.Rules.length:Int)))
   (Fm.j2 true)
   (Fm.j2 (decide (60 < (p.Keeps.length:Int)))))
def Fm (p:Bk):Option (Int):=
 (F4 p.Rules (fun x0=>Hx x0)).bind fun y=>
 cond (y)
  (Fm.j1 p true)
  ((F2 p.Keeps (fun x0=>Hv x0)).bind fun y_2=>
  Fm.j1 p y_2)
def Fw.j1 (x19_1:Bool):Option (Int):=
 cond (x19_1)
  (some 2)
  (some 0)
def Fw (p:Bk) (u:Ao) (purpose:Int) (day:Int):Option (Int):=
 (Fm p).bind fun y=>
 cond (!decide (y=0))
  (some y)
  ((Hw u).bind fun y_2=>
  cond (!y_2)
   (some 7)
   (cond (decide (purpose < 1))
    (Fw.j1 true)
    (cond (decide (4 < purpose))
     (Fw.j1 true)
     (cond (decide (day < 0))
      (Fw.j1 true)
      (Fw.j1 (decide (40000 < day)))))))
def Hr (s:(List Aw)):Option ((List Aw)):=
 some s
def D3.j1 (r':Aw) (u:Ao) (x27_1:Bool):Option (Bool):=
 cond (x27_1)
  (some false)
  (cond (decide (r'.Below=0))
   (some true)
   (cond (decide (0 < u.Bits))
    (some (decide (u.Bits < r'.Below)))
    (some false)))
def D3 (r':Aw) (u:Ao) (purpose:Int):Option (Bool):=
 cond (!decide (r'.Alg=0))
  (cond (!decide (r'.Alg=u.Alg))
   (D3.j1 r' u true)
   (cond (!decide (r'.Purpose=0))
    (D3.j1 r' u (!decide (r'.Purpose=purpose)))
    (D3.j1 r' u false)))
  (cond (!decide (r'.Purpose=0))
   (D3.j1 r' u (!decide (r'.Purpose=purpose)))
   (D3.j1 r' u false))
def B0.l1 {S:Type} (yield':Int->Aw->(Nat×S)->Option (Bool×(Nat×S))) (c0:(List Aw)) (i_1:Int) (q_1:(Nat×S)):Option (Lp (Int×(Nat×S)) ((Nat×S))):=
 cond (decide (0<=i_1))
  ((Bm c0 i_1).bind fun e=>
  (yield' i_1 e q_1).bind fun y=>
  cond (!y.1)
   (up (some y.2))
   (some (.next (W (i_1 - 1),y.2))))
  (up (some q_1))
def B0 {S:Type} (yield':Int->Aw->(Nat×S)->Option (Bool×(Nat×S))) (c0:(List Aw)) (q:(Nat×S)):Option ((Nat×S)):=
 Bz (fun q'=>B0.l1 yield' c0 q'.1 q'.2) (W ((c0.length:Int) - 1),q)
def Cm.j2 (b_1:Int) (a:Int) (x31_2:Bool):Option (Nat×(Int)):=
 cond (x31_2)
  (some (1,a))
  (some (0,b_1))
def Cm.r1 (u:Ao) (purpose:Int) (day:Int) (a:Int) (a_2:Aw) (b_1:Int):Option (Nat×(Int)):=
 (D3 a_2 u purpose).bind fun y_2=>
 cond (y_2)
  (cond (decide (a_2.From<=day))
   (Cm.j2 b_1 a (decide (day < a_2.To)))
   (Cm.j2 b_1 a false))
  (Cm.j2 b_1 a false)
def Cm (p:Bk) (u:Ao) (purpose:Int) (day:Int):Option (Int):=
 (Hr p.Rules).bind fun y=>
 (B0 (fun a0' a1' q'=>yld (fun s'=>Cm.r1 u purpose day a0' a1' s') q') y (0,0)).bind fun y_3=>
 cond (Nat.beq y_3.1 0)
  (some (-1))
  (cond (Nat.beq y_3.1 1)
   (some y_3.2)
   (none))
def Jm (p:Bk) (u:Ao) (purpose:Int) (day:Int):Option (Bool):=
 (Cm p u purpose day).bind fun y=>
 cond (decide (y < 0))
  (some true)
  ((Bm p.Rules y).bind fun e=>
  some e.Allow)
def Jo (p:Bk) (u:Ao) (purpose:Int) (day:Int):Option (Bool×Int×Int):=
 (Fw p u purpose day).bind fun y=>
 cond (!decide (y=0))
  (some (false,0,y))
  ((Jm p u purpose day).bind fun y_2=>
  (Cm p u purpose day).bind fun y_3=>
  some (y_2,y_3,0))
def A7.j4 (x53_3:Int) (x87_4:Bool):Option (Lp (Int) (Int)):=
 cond (x87_4)
  (up (some 26))
  (some (.next (W (x53_3 + 1))))
def A7.l3 (x':Ah) (x53_3:Int):Option (Lp (Int) (Int)):=
 cond (decide (x53_3 < (x'.Seals.length:Int)))
  ((Bm x'.Seals x53_3).bind fun e=>
  (Eg e.Key).bind fun y_3=>
  cond (!y_3)
   (A7.j4 x53_3 true)
   (cond (decide (e.Sum < 0))
    (A7.j4 x53_3 true)
    (cond (decide (4294967296<=e.Sum))
     (A7.j4 x53_3 true)
     (cond (decide (0 < x53_3))
      ((Bm x'.Seals (W (x53_3 - 1))).bind fun e_2=>
      A7.j4 x53_3 (decide (e.Key<=e_2.Key)))
      (A7.j4 x53_3 false)))))
  (up (
   some 0))
def A7.j2 (x':Ah) (x49_2:Bool):Option (Int):=
 cond (x49_2)
  (some 26)
  (Bz (fun q'=>A7.l3 x' q') 0)
def A7.j1 (x':Ah) (x24_1:Bool):Option (Int):=
 cond (x24_1)
  (some 26)
  (cond (decide (x'.Days.From < 0))
   (A7.j2 x' true)
   (cond (decide (x'.Days.To<=x'.Days.From))
    (A7.j2 x' true)
    (cond (decide (40001 < x'.Days.To))
     (A7.j2 x' true)
     (A7.j2 x' (decide (8 < (x'.Seals.length:Int)))))))
def A7 (x':Ah):Option (Int):=
 (Hw x'.Use).bind fun y=>
 cond (!y)
  (A7.j1 x' true)
  (cond (decide (x'.Purpose < 1))
   (A7.j1 x' true)
   (cond (decide (4 < x'.Purpose))
    (A7.j1 x' true)
    ((De x'.Endpoint).bind fun y_2=>
    A7.j1 x' (!y_2))))
def Fy (x':Ah):Option (Bool):=
 (A7 x').bind fun y=>
 some (!decide (y=0))
def Bt.l1 (s:(List Ah)) (f:Ah->Option (Bool)) (x8_1:Int):Option (Lp (Int) (Int)):=
 cond (decide (x8_1 < (s.length:Int)))
  ((Bm s x8_1).bind fun e=>
  (f e).bind fun y=>
  cond (y)
   (up (some x8_1))
   (some (.next (W (x8_1 + 1)))))
  (up (
   some (-1)))
def Bt (s:(List Ah)) (f:Ah->Option (Bool)):Option (Int):=
 Bz (fun q'=>Bt.l1 s f q') 0
def Fe (s:(List Ah)) (f:Ah->Option (Bool)):Option (Bool):=
 (Bt s f).bind fun y=>
 some (decide (0<=y))
def I8 (x':Ah) (u:Ao) (purpose:Int) (endpoint:ByteArray) (day:Int):Option (Bool):=
 cond (decide (x'.Use=u))
  (cond (decide (x'.Purpose=purpose))
   (cond (decide (x'.Endpoint=endpoint))
    (cond (decide (x'.Days.From<=day))
     (some (decide (day < x'.Days.To)))
     (some false))
    (some false))
   (some false))
  (some false)
def Hu (x':Ah):Option ((List UInt8)×Int):=
 (A7 x').bind fun y=>
 cond (!decide (y=0))
  (some (([]:(List UInt8)),y))
  ((Di x'.Use.Alg).bind fun y_2=>
  (Di x'.Use.Bits).bind fun y_3=>
  (Di x'.Purpose).bind fun y_4=>
  (Lh x'.Endpoint).bind fun y_5=>
  (Di x'.Days.From).bind fun y_6=>
  (Di x'.Days.To).bind fun y_7=>
  (Nd ([y_2,y_3,y_4,y_5,y_6,y_7]:List Ab)).bind fun y_8=>
  (Jr y_8).bind fun y_9=>
  some (y_9.1,y_9.2))
def Bc.e3 (o:Cc) (count_3:Int):Option (Lp (Int) (Bool)):=
 up (
  some (decide (o.Need<=count_3)))
def Bc.j4 (count_3:Int) (x55_4:Bool):Option (Lp (Int) (Bool)):=
 cond (x55_4)
  (some (.next (W (count_3 + 1))))
  (some (.next count_3))
def Bc.l3 (o:Cc) (y:(List UInt8)×Int) (kv:Int×Int) (count_3:Int):Option (Lp (Int) (Bool)):=
 (D7 y.1).bind fun y_2=>
 cond (decide (kv.2=y_2))
  ((Cz o.Keys kv.1).bind fun y_3=>
  Bc.j4 count_3 y_3)
  (Bc.j4 count_3 false)
def Bc.l2 (x':Ah) (o:Cc) (y:(List UInt8)×Int) (x29_2:Int) (sums_2:(List (Int×Int))):Option (Lp (Int×(List (Int×Int))) (Bool)):=
 cond (decide (x29_2 < (x'.Seals.length:Int)))
  ((Bm x'.Seals x29_2).bind fun e=>
  some (.next (W (x29_2 + 1),Oc sums_2 e.Key e.Sum)))
  (up (
   fV (fun p' q'=>Bc.l3 o y p' q') (fun q'=>Bc.e3 o q') sums_2 0))
def Bc.j1 (x':Ah) (o:Cc) (y:(List UInt8)×Int) (x24_1:Bool):Option (Bool):=
 cond (x24_1)
  (some false)
  (Bz (fun q'=>Bc.l2 x' o y q'.1 q'.2) (0,([]:(List (Int×Int)))))
def Bc (x':Ah) (o:Cc):Option (Bool):=
 (Hu x').bind fun y=>
 cond (!decide (y.2=0))
  (Bc.j1 x' o y true)
  (Bc.j1 x' o y (decide (o.Need < 1)))
def Ct.j3 (x20_1:Int) (most_3:Int) (some_3:Bool):Option (Lp (Int×Bool×Int) (Int×Bool)):=
 some (.next (most_3,some_3,W (x20_1 + 1)))
def Ct.j2 (most_1:Int) (some_1:Bool) (x20_1:Int) (e:Ah) (x34_2:Bool):Option (Lp (Int×Bool×Int) (Int×Bool)):=
 cond (x34_2)
  (Ct.j3 x20_1 (max most_1 e.Days.To) true)
  (Ct.j3 x20_1 most_1 some_1)
def Ct.l1 (l:(List Ah)) (o:Cc) (u:Ao) (purpose:Int) (endpoint:ByteArray) (day:Int) (most_1:Int) (some_1:Bool) (x20_1:Int):Option (Lp (Int×Bool×Int) (Int×Bool)):=
 cond (decide (x20_1 < (l.length:Int)))
  ((Bm l x20_1).bind fun e=>
  (I8 e u purpose endpoint day).bind fun y=>
  cond (y)
   ((Bc e o).bind fun y_2=>
   Ct.j2 most_1 some_1 x20_1 e y_2)
   (Ct.j2 most_1 some_1 x20_1 e false))
  (up (
   some (most_1,some_1)))
def Ct (l:(List Ah)) (o:Cc) (u:Ao) (purpose:Int) (endpoint:ByteArray) (day:Int):Option (Int×Bool):=
 Bz (fun q'=>Ct.l1 l o u purpose endpoint day q'.1 q'.2.1 q'.2.2) (0,false,0)
def Il (p:Bk) (l:(List Ah)) (o:Cc) (u:Ao) (purpose:Int) (endpoint:ByteArray) (day:Int):Option (Bool×Int):=
 (Jo p u purpose day).bind fun y=>
 cond (!decide (y.2.2=0))
  (some (false,y.2.2))
  ((Fe l (fun x0=>Fy x0)).bind fun y_2=>
  cond (y_2)
   (some (false,26))
   ((Ct l o u purpose endpoint day).bind fun y_3=>
   cond (y.1)
    (some (true,0))
    (some (y_3.2,0))))
def By.j2 (x32_1:Int) (forbidden_2:Bool):Option (Lp (Bool×Int) (Bool×Int)):=
 some (.next (forbidden_2,W (x32_1 + 1)))
def By.l1 (p:Bk) (l:(List Ah)) (o:Cc) (server:Ac) (day:Int) (y:(List Ao)×Int) (forbidden_1:Bool) (x32_1:Int):Option (Lp (Bool×Int) (Bool×Int)):=
 cond (decide (x32_1 < (y.1.length:Int)))
  ((Bm y.1 x32_1).bind fun e=>
  (Il p l o e 1 server.Name day).bind fun y_2=>
  cond (!decide (y_2.2=0))
   (up (some (false,y_2.2)))
   (cond (forbidden_1)
    (By.j2 x32_1 true)
    (By.j2 x32_1 (!y_2.1))))
  (up (
   some (forbidden_1,0)))
def By (p:Bk) (l:(List Ah)) (o:Cc) (server:Ac) (out:Ap) (day:Int):Option (Bool×Int):=
 (Fx server out).bind fun y=>
 cond (!decide (y.2=0))
  (some (false,y.2))
  (Bz (fun q'=>By.l1 p l o server day y q'.1 q'.2) (false,0))
def Fp:Option (Bool):=
 (Av (Ac.mk (⟨#[97]⟩:ByteArray) 1 3 ([10,2]:List Int) false ([]:(List Al)) ([]:(List Int)) ([]:(List Int)) true) (Ac.mk (⟨#[98]⟩:ByteArray) 1 3 ([2,10]:List Int) false ([(Al.mk (Ao.mk 5 2048) 0 ([]:(List Ae)))]:List Al) ([]:(List Int)) ([]:(List Int)) false) 5 100).bind fun y=>
 (Av (Ac.mk (⟨#[97]⟩:ByteArray) 1 3 ([10,2]:List Int) false ([]:(List Al)) ([]:(List Int)) ([]:(List Int)) true) (Ac.mk (⟨#[98]⟩:ByteArray) 1 3 ([2,10]:List Int) false ([(Al.mk (Ao.mk 5 2048) 0 ([]:(List Ae)))]:List Al) ([]:(List Int)) ([]:(List Int)) false) 5 (-1)).bind fun y_2=>
 (By (Bk.mk ([(Aw.mk false 14 0 0 0 40001)]:List Aw) ([]:(List Bl))) ([]:(List Ah)) (Cc.mk ([]:(List Int)) 0) (Ac.mk (⟨#[98]⟩:ByteArray) 1 3 ([2,10]:List Int) false ([(Al.mk (Ao.mk 5 2048) 0 ([]:(List Ae)))]:List Al) ([]:(List Int)) ([]:(List Int)) false) (Ap.mk 3 2) 5).bind fun y_3=>
 cond (decide (y.2=0))
  (cond (decide (y_2.2=2))
   (cond (decide (y_3.2=0))
    (cond (y_3.1)
     (some (decide ((y.1.length:Int)=0)))
     (some false))
    (some false))
   (some false))
  (some false)
def K8 (l:(List Int)):Option (Ad):=
 some (Ad.mk l 0)
def Q0 (n:Int) (k:Int):Option (Int):=
 cond (decide (k < 1))
  (some 0)
  ((Vk n k).bind fun q=>
  (Vk (W (q + k)) k).bind fun q_2=>
  some q_2)
def Cg (d:Ad) (n:Int):Option (Int×Ad):=
 cond (decide ((d.L.length:Int)<=d.At))
  (some (0,d))
  ((Bm d.L (W ((W (d.At + 1)) - 1))).bind fun e=>
  (Q0 e n).bind fun y=>
  some (y,(Ad.mk d.L (W (d.At + 1)))))
def Bs (d:Ad) (l:(List Int)):Option (Int×Ad):=
 (Cg d (l.length:Int)).bind fun y=>
 (Bm l y.1).bind fun e=>
 some (e,y.2)
def Dv.l1 (l:(List Int)) (n:Int) (i_1:Int):Option (Lp (Int) (Bool)):=
 cond (decide (i_1 < (l.length:Int)))
  ((Bm l i_1).bind fun e=>
  cond (decide (e=n))
   (up (some true))
   (some (.next (W (i_1 + 1)))))
  (up (
   some false))
def Dv (l:(List Int)) (n:Int):Option (Bool):=
 Bz (fun q'=>Dv.l1 l n q') 0
def E7 (d:Ad) (n:Int):Option (Bool×Ad):=
 (Cg d n).bind fun y=>
 some (decide (y.1=(W (n - 1))),y.2)
def Ei (alg:Int) (bits:Int):Option (Ao):=
 some (Ao.mk alg bits)
def E3 (code:Int) (name:ByteArray) (exchange:Ao) (sign:Ao) (cipher:Ao) (mac:Ao) (least:Int) (most:Int):Option (Az):=
 some (Az.mk code name exchange sign cipher mac least most)
def Kw:Option ((List Az)):=
 (Ei 10 0).bind fun y=>
 (Ei 5 0).bind fun y_2=>
 (Ei 14 128).bind fun y_3=>
 (Ei 15 168).bind fun y_4=>
 (Ei 16 128).bind fun y_5=>
 (Ei 17 128).bind fun y_6=>
 (Ei 17 256).bind fun y_7=>
 (Ei 19 0).bind fun y_8=>
 (Ei 20 0).bind fun y_9=>
 (Ei 21 0).bind fun y_10=>
 (Ei 22 0).bind fun y_11=>
 (Ei 12 256).bind fun y_12=>
 (Ei 18 0).bind fun y_13=>
 (E3 1 (⟨#[114,115,97,45,114,99,52,45,109,100,53]⟩:ByteArray) y y_2 y_3 y_8 1 2).bind fun y_14=>
 (E3 2 (⟨#[114,115,97,45,114,99,52,45,115,104,97]⟩:ByteArray) y y_2 y_3 y_9 1 3).bind fun y_15=>
 (E3 3 (⟨#[114,115,97,45,100,101,115,51,45,115,104,97]⟩:ByteArray) y y_2 y_4 y_9 1 3).bind fun y_16=>
 (Ei 11 1024).bind fun y_17=>
 (Ei 6 0).bind fun y_18=>
 (E3 4 (⟨#[100,104,101,45,100,115,97,45,100,101,115,51,45,115,104,97]⟩:ByteArray) y_17 y_18 y_4 y_9 1 3).bind fun y_19=>
 (Ei 11 1024).bind fun y_20=>
 (E3 5 (⟨#[100,104,101,45,114,115,97,45,100,101,115,51,45,115,104,97]⟩:ByteArray) y_20 y_2 y_4 y_9 1 3).bind fun y_21=>
 (E3 6 (⟨#[114,115,97,45,97,101,115,49,50,56,45,115,104,97]⟩:ByteArray) y y_2 y_5 y_9 1 3).bind fun y_22=>
 (Ei 11 2048).bind fun y_23=>
 (E3 7 (⟨#[100,104,101,45,114,115,97,45,97,101,115,49,50,56,45,115,104,97]⟩:ByteArray) y_23 y_2 y_5 y_9 1 3).bind fun y_24=>
 (E3 8 (⟨#[101,99,100,104,101,45,114,115,97,45,97,101,115,49,50,56,45,115,104,97]⟩:ByteArray) y_12 y_2 y_5 y_9 1 3).bind fun y_25=>
 (Ei 7 0).bind fun y_26=>
 (Ei 16 256).bind fun y_27=>
 (E3 9 (⟨#[101,99,100,104,101,45,101,99,100,115,97,45,97,101,115,50,53,54,45,115,104,97,50,53,54]⟩:ByteArray) y_12 y_26 y_27 y_10 3 3).bind fun y_28=>
 (E3 10 (⟨#[101,99,100,104,101,45,114,115,97,45,97,101,115,49,50,56,45,103,99,109]⟩:ByteArray) y_12 y_2 y_6 y_11 3 3).bind fun y_29=>
 (Ei 12 384).bind fun y_30=>
 (Ei 7 0).bind fun y_31=>
 (E3 11 (⟨#[101,99,100,104,101,45,101,99,100,115,97,45,97,101,115,50,53,54,45,103,99,109]⟩:ByteArray) y_30 y_31 y_7 y_11 3 3).bind fun y_32=>
 (E3 12 (⟨#[101,99,100,104,101,45,114,115,97,45,99,104,97,99,104,97]⟩:ByteArray) y_12 y_2 y_13 y_11 3 3).bind fun y_33=>
 (E3 13 (⟨#[114,115,97,45,97,101,115,50,53,54,45,103,99,109]⟩:ByteArray) y y_2 y_7 y_11 3 3).bind fun y_34=>
 (E3 14 (⟨#[97,101,115,49,50,56,45,103,99,109]⟩:ByteArray) y_12 (Ao.mk 0 0) y_6 y_11 4 4).bind fun y_35=>
 (E3 15 (⟨#[99,104,97,99,104,97]⟩:ByteArray) y_12 (Ao.mk 0 0) y_13 y_11 4 4).bind fun y_36=>
 (Ei 13 768).bind fun y_37=>
 (E3 16 (⟨#[109,108,107,101,109,45,97,101,115,50,53,54,45,103,99,109]⟩:ByteArray) y_37 (Ao.mk 0 0) y_7 y_11 4 4).bind fun y_38=>
 some ([y_14,y_15,y_16,y_19,y_21,y_22,y_24,y_25,y_28,y_29,y_32,y_33,y_34,y_35,y_36,y_38]:List Az)
def Dn.j1 (code:Int) (x9_1:Bool):Option (Az×Int):=
 cond (x9_1)
  (some ((Az.mk 0 (⟨#[]⟩:ByteArray) (Ao.mk 0 0) (Ao.mk 0 0) (Ao.mk 0 0) (Ao.mk 0 0) 0 0),8))
  ((Kw).bind fun y=>
  (Bm y (W (code - 1))).bind fun e=>
  some (e,0))
def Dn (code:Int):Option (Az×Int):=
 cond (decide (code < 1))
  (Dn.j1 code true)
  (Dn.j1 code (decide (16 < code)))
def E6.j1 (b:Int) (x3_1:Bool):Option (Int):=
 cond (x3_1)
  (some 0)
  (cond (decide (b < 1024))
   (some 56)
   (cond (decide (b < 2048))
    (some 80)
    (cond (decide (b < 3072))
     (some 112)
     (cond (decide (b < 7680))
      (some 128)
      (cond (decide (b < 15360))
       (some 192)
       (some 256))))))
def E6 (b:Int):Option (Int):=
 cond (decide (b < 512))
  (E6.j1 b true)
  (E6.j1 b (decide (16384 < b)))
def Ck.l1 (b:Int) (sizes:(List Int)) (strengths:(List Int)) (i_1:Int):Option (Lp (Int) (Int)):=
 cond (decide (i_1 < (sizes.length:Int)))
  ((Bm sizes i_1).bind fun e=>
  cond (decide (e=b))
   ((Bm strengths i_1).bind fun e_2=>
   up (some e_2))
   (some (.next (W (i_1 + 1)))))
  (up (
   some 0))
def Ck (b:Int) (sizes:(List Int)) (strengths:(List Int)):Option (Int):=
 Bz (fun q'=>Ck.l1 b sizes strengths q') 0
def Ev.j2 (alg:Int) (x14_2:Bool):Option (Int):=
 cond (x14_2)
  (some 256)
  (cond (decide (alg=19))
   (some 64)
   (cond (decide (alg=20))
    (some 80)
    (some 0)))
def Ev.j1 (alg:Int) (x8_1:Bool):Option (Int):=
 cond (x8_1)
  (some 128)
  (cond (decide (alg=4))
   (some 192)
   (cond (decide (alg=18))
    (Ev.j2 alg (decide (alg=18)))
    (Ev.j2 alg (decide (alg=22)))))
def Ev (alg:Int):Option (Int):=
 cond (decide (alg=1))
  (some 18)
  (cond (decide (alg=2))
   (some 60)
   (cond (decide (alg=3))
    (Ev.j1 alg (decide (alg=3)))
    (cond (decide (alg=8))
     (Ev.j1 alg (decide (alg=8)))
     (Ev.j1 alg (decide (alg=21))))))
def A1.j3 (u:Ao) (x35_3:Bool):Option (Int):=
 cond (x35_3)
  ((Pm u.Bits 2).bind fun q=>
  some q)
  (some 0)
def A1.j4 (u:Ao) (x62_4:Bool):Option (Int):=
 cond (x62_4)
  ((Ck u.Bits ([128,256]:List Int) ([128,256]:List Int)).bind fun y_6=>
  some y_6)
  ((Ev u.Alg).bind fun y_7=>
  (Ck u.Bits ([0]:List Int) ([y_7]:List Int)).bind fun y_8=>
  some y_8)
def A1.j2 (u:Ao) (x15_2:Bool):Option (Int):=
 cond (x15_2)
  (cond (decide (u.Bits=160))
   (A1.j3 u true)
   (cond (decide (u.Bits=224))
    (A1.j3 u true)
    (cond (decide (u.Bits=256))
     (A1.j3 u true)
     (cond (decide (u.Bits=384))
      (A1.j3 u true)
      (A1.j3 u (decide (u.Bits=521)))))))
  (cond (decide (u.Alg=9))
   ((Ck u.Bits ([44,65,87]:List Int) ([128,192,256]:List Int)).bind fun y_2=>
   some y_2)
   (cond (decide (u.Alg=13))
    ((Ck u.Bits ([512,768,1024]:List Int) ([128,192,256]:List Int)).bind fun y_3=>
    some y_3)
    (cond (decide (u.Alg=14))
     ((Ck u.Bits ([40,128]:List Int) ([40,60]:List Int)).bind fun y_4=>
     some y_4)
     (cond (decide (u.Alg=15))
      ((Ck u.Bits ([112,168]:List Int) ([80,112]:List Int)).bind fun y_5=>
      some y_5)
      (cond (decide (u.Alg=16))
       (A1.j4 u (decide (u.Alg=16)))
       (A1.j4 u (decide (u.Alg=17))))))))
def A1.j1 (u:Ao) (x8_1:Bool):Option (Int):=
 cond (x8_1)
  ((E6 u.Bits).bind fun y=>
  some y)
  (cond (decide (u.Alg=7))
   (A1.j2 u (decide (u.Alg=7)))
   (A1.j2 u (decide (u.Alg=12))))
def A1 (u:Ao):Option (Int):=
 cond (decide (u.Alg=5))
  (A1.j1 u (decide (u.Alg=5)))
  (cond (decide (u.Alg=6))
   (A1.j1 u (decide (u.Alg=6)))
   (cond (decide (u.Alg=10))
    (A1.j1 u (decide (u.Alg=10)))
    (A1.j1 u (decide (u.Alg=11)))))
def Iw (code:Int):Option (Int):=
 (Dn code).bind fun y=>
 cond (!decide (y.2=0))
  (some 0)
  ((A1 y.1.Cipher).bind fun y_2=>
  some y_2)
def Ee.j3 (l:(List Int)) (i_1:Int) (out_1:List Int) (k_2:Int) (x29_3:Bool):Option (Lp (Int) (Lp (Int×List Int) ((List Int)))):=
 cond (x29_3)
  (some (.next (W (k_2 - 1))))
  (up (
   (Zz out_1 0 k_2).bind fun l_2=>
   (Gy 8 ([]:List Int) ((out_1.drop ((0:Int).toNat)).take ((k_2:Int).toNat - (0:Int).toNat))).bind fun l_3=>
   (Bm l i_1).bind fun e_3=>
   (Gy 8 l_3 ([e_3]:List Int)).bind fun l_4=>
   (Zz out_1 k_2 (out_1.length:Int)).bind fun l_5=>
   (Gy 8 l_4 ((out_1.drop ((k_2:Int).toNat)).take (((out_1.length:Int):Int).toNat - (k_2:Int).toNat))).bind fun l_6=>
   some (.next (W (i_1 + 1),l_6))))
def Ee.l2 (l:(List Int)) (i_1:Int) (out_1:List Int) (k_2:Int):Option (Lp (Int) (Lp (Int×List Int) ((List Int)))):=
 cond (decide (0 < k_2))
  ((Bm out_1 (W (k_2 - 1))).bind fun e=>
  (Iw e).bind fun y=>
  (Bm l i_1).bind fun e_2=>
  (Iw e_2).bind fun y_2=>
  Ee.j3 l i_1 out_1 k_2 (decide (y < y_2)))
  (Ee.j3 l i_1 out_1 k_2 false)
def Ee.l1 (l:(List Int)) (i_1:Int) (out_1:List Int):Option (Lp (Int×List Int) ((List Int))):=
 cond (decide (i_1 < (l.length:Int)))
  (Bz (fun q'=>Ee.l2 l i_1 out_1 q') (out_1.length:Int))
  (up (
   some out_1))
def Ee (l:(List Int)):Option ((List Int)):=
 Bz (fun q'=>Ee.l1 l q'.1 q'.2) (0,([]:List Int))
def Fc.j2 (i_1:Int) (d_2:Ad) (l_2:List Int):Option (Lp (Int×Ad×List Int) ((List Int)×Ad)):=
 some (.next (W (i_1 - 1),d_2,l_2))
def Fc.l1 (i_1:Int) (d_1:Ad) (l_1:List Int):Option (Lp (Int×Ad×List Int) ((List Int)×Ad)):=
 cond (decide (0 < i_1))
  ((Cg d_1 16).bind fun y_2=>
  (Dv l_1 (W (1 + y_2.1))).bind fun y_3=>
  cond (!y_3)
   ((Gy 8 l_1 ([W (1 + y_2.1)]:List Int)).bind fun l=>
   Fc.j2 i_1 y_2.2 l)
   (Fc.j2 i_1 y_2.2 l_1))
  (up (
   (E7 d_1 4).bind fun y_4=>
   cond (y_4.1)
    ((Ee l_1).bind fun y_5=>
    some (y_5,y_4.2))
    (some (l_1,y_4.2))))
def Fc (d:Ad):Option ((List Int)×Ad):=
 (Cg d 9).bind fun y=>
 Bz (fun q'=>Fc.l1 q'.1 q'.2.1 q'.2.2) (W (2 + y.1),y.2,([]:List Int))
def C9.j3 (d:Ad) (x40_3:Bool):Option (Int×Ad):=
 cond (x40_3)
  ((Bs d ([128,256]:List Int)).bind fun y_7=>
  some (y_7.1,y_7.2))
  (some (0,d))
def C9.j2 (d:Ad) (a:Int) (x14_2:Bool):Option (Int×Ad):=
 cond (x14_2)
  ((Bs d ([256,160,224,384,521]:List Int)).bind fun y_2=>
  some (y_2.1,y_2.2))
  (cond (decide (a=9))
   ((Bs d ([65,44,87]:List Int)).bind fun y_3=>
   some (y_3.1,y_3.2))
   (cond (decide (a=13))
    ((Bs d ([768,512,1024]:List Int)).bind fun y_4=>
    some (y_4.1,y_4.2))
    (cond (decide (a=14))
     ((Bs d ([128,40]:List Int)).bind fun y_5=>
     some (y_5.1,y_5.2))
     (cond (decide (a=15))
      ((Bs d ([168,112]:List Int)).bind fun y_6=>
      some (y_6.1,y_6.2))
      (cond (decide (a=16))
       (C9.j3 d (decide (a=16)))
       (C9.j3 d (decide (a=17))))))))
def C9.j1 (d:Ad) (a:Int) (x6_1:Bool):Option (Int×Ad):=
 cond (x6_1)
  ((Bs d ([2048,1024,512,3072,1023,4096,16384]:List Int)).bind fun y=>
  some (y.1,y.2))
  (cond (decide (a=7))
   (C9.j2 d a (decide (a=7)))
   (C9.j2 d a (decide (a=12))))
def C9 (d:Ad) (a:Int):Option (Int×Ad):=
 cond (decide (a=5))
  (C9.j1 d a (decide (a=5)))
  (cond (decide (a=6))
   (C9.j1 d a (decide (a=6)))
   (cond (decide (a=10))
    (C9.j1 d a (decide (a=10)))
    (C9.j1 d a (decide (a=11)))))
def Qt (d:Ad):Option (Ao×Ad):=
 (Bs d ([5,7,5,6,8,9]:List Int)).bind fun y=>
 (C9 y.2 y.1).bind fun y_2=>
 some ((Ao.mk y.1 y_2.1),y_2.2)
def M0 (c:Ae):Option (Ae):=
 (Gy 16 ([]:List ByteArray) c.Names).bind fun l=>
 some (Ae.mk c.Serial c.Issuer c.Subject c.Key c.KeyId c.Hash c.From c.To c.Authority c.Path l c.Seal)
def Db.j3 (i_2:Int) (x27_3:Bool):Option (Lp (Int) (Bool)):=
 cond (x27_3)
  (up (some false))
  (some (.next (W (i_2 + 1))))
def Db.l2 (s:ByteArray) (i_2:Int):Option (Lp (Int) (Bool)):=
 cond (decide (i_2 < (s.size:Int)))
  ((oI s i_2).bind fun c=>
  cond (decide ((c.toNat:Int) < 33))
   (Db.j3 i_2 true)
   ((oI s i_2).bind fun c_2=>
   Db.j3 i_2 (decide (126 < (c_2.toNat:Int)))))
  (up (
   some true))
def Db.j1 (s:ByteArray) (x11_1:Bool):Option (Bool):=
 cond (x11_1)
  (some false)
  (Bz (fun q'=>Db.l2 s q') 0)
def Db (s:ByteArray):Option (Bool):=
 cond (decide ((s.size:Int) < 1))
  (Db.j1 s true)
  (Db.j1 s (decide (32 < (s.size:Int))))
def It (u:Ao):Option (Bool):=
 (A1 u).bind fun y=>
 some (decide (0 < y))
def Tv:Option ((List Au)):=
 some ([(Au.mk (⟨#[]⟩:ByteArray) 0),(Au.mk (⟨#[109,100,53]⟩:ByteArray) 1),(Au.mk (⟨#[115,104,97,49]⟩:ByteArray) 1),(Au.mk (⟨#[115,104,97,50,53,54]⟩:ByteArray) 1),(Au.mk (⟨#[115,104,97,51,56,52]⟩:ByteArray) 1),(Au.mk (⟨#[114,115,97]⟩:ByteArray) 2),(Au.mk (⟨#[100,115,97]⟩:ByteArray) 2),(Au.mk (⟨#[101,99,100,115,97]⟩:ByteArray) 2),(Au.mk (⟨#[101,100,50,53,53,49,57]⟩:ByteArray) 2),(Au.mk (⟨#[109,108,100,115,97]⟩:ByteArray) 2),(Au.mk (⟨#[114,115,97,107,120]⟩:ByteArray) 3),(Au.mk (⟨#[100,104,101]⟩:ByteArray) 3),(Au.mk (⟨#[101,99,100,104,101]⟩:ByteArray) 3),(Au.mk (⟨#[109,108,107,101,109]⟩:ByteArray) 3),(Au.mk (⟨#[114,99,52]⟩:ByteArray) 4),(Au.mk (⟨#[100,101,115,51]⟩:ByteArray) 4),(Au.mk (⟨#[97,101,115,99,98,99]⟩:ByteArray) 4),(Au.mk (⟨#[97,101,115,103,99,109]⟩:ByteArray) 4),(Au.mk (⟨#[99,104,97,99,104,97]⟩:ByteArray) 4),(Au.mk (⟨#[104,109,97,99,109,100,53]⟩:ByteArray) 5),(Au.mk (⟨#[104,109,97,99,115,104,97,49]⟩:ByteArray) 5),(Au.mk (⟨#[104,109,97,99,115,104,97,50,53,54]⟩:ByteArray) 5),(Au.mk (⟨#[97,101,97,100]⟩:ByteArray) 5)]:List Au)
def Gj.j1 (alg:Int) (x8_1:Bool):Option (Int):=
 cond (x8_1)
  (some 0)
  ((Tv).bind fun y=>
  (Bm y alg).bind fun e=>
  some e.kind)
def Gj (alg:Int):Option (Int):=
 cond (decide (alg < 1))
  (Gj.j1 alg true)
  (Gj.j1 alg (decide (22 < alg)))
def Ib (u:Ao):Option (Bool):=
 (It u).bind fun y=>
 cond (y)
  ((Gj u.Alg).bind fun y_2=>
  some (decide (y_2=2)))
  (some false)
def Bb.j5 (i_4:Int) (x123_5:Bool):Option (Lp (Int) (Int)):=
 cond (x123_5)
  (up (some 9))
  (some (.next (W (i_4 + 1))))
def Bb.j6 (x145_6:Bool):Option (Int):=
 cond (x145_6)
  (some 9)
  (some 0)
def Bb.l4 (c:Ae) (i_4:Int):Option (Lp (Int) (Int)):=
 cond (decide (i_4 < (c.Names.length:Int)))
  ((Bm c.Names i_4).bind fun e=>
  (Db e).bind fun y_6=>
  cond (!y_6)
   (Bb.j5 i_4 true)
   (cond (decide (0 < i_4))
    ((Bm c.Names (W (i_4 - 1))).bind fun e_2=>
    Bb.j5 i_4 (!ltT (Oz e_2) (Oz e)))
    (Bb.j5 i_4 false)))
  (up (
   cond (decide (c.Seal.Key < 0))
    (Bb.j6 true)
    (cond (decide (2147483648 < c.Seal.Key))
     (Bb.j6 true)
     (cond (decide (c.Seal.Sum < 0))
      (Bb.j6 true)
      (Bb.j6 (decide (4294967296<=c.Seal.Sum)))))))
def Bb.j3 (c:Ae) (x91_3:Bool):Option (Int):=
 cond (x91_3)
  (some 9)
  (Bz (fun q'=>Bb.l4 c q') 0)
def Bb.j2 (c:Ae) (x67_2:Bool):Option (Int):=
 cond (x67_2)
  (some 9)
  (cond (decide (c.Path < 0))
   (Bb.j3 c true)
   (cond (decide (8 < c.Path))
    (Bb.j3 c true)
    (cond (!c.Authority)
     (cond (!decide (c.Path=0))
      (Bb.j3 c true)
      (Bb.j3 c (decide (8 < (c.Names.length:Int)))))
     (Bb.j3 c (decide (8 < (c.Names.length:Int)))))))
def Bb.j1 (c:Ae) (x39_1:Bool):Option (Int):=
 cond (x39_1)
  (some 9)
  ((It c.Hash).bind fun y_4=>
  cond (!y_4)
   (Bb.j2 c true)
   ((Gj c.Hash.Alg).bind fun y_5=>
   cond (!decide (y_5=1))
    (Bb.j2 c true)
    (cond (decide (c.From < 0))
     (Bb.j2 c true)
     (cond (decide (c.To < c.From))
      (Bb.j2 c true)
      (Bb.j2 c (decide (40000 < c.To)))))))
def Bb (c:Ae):Option (Int):=
 cond (decide (c.Serial < 0))
  (Bb.j1 c true)
  (cond (decide (1099511627776 < c.Serial))
   (Bb.j1 c true)
   ((Db c.Issuer).bind fun y=>
   cond (!y)
    (Bb.j1 c true)
    ((Db c.Subject).bind fun y_2=>
    cond (!y_2)
     (Bb.j1 c true)
     ((Ib c.Key).bind fun y_3=>
     cond (!y_3)
      (Bb.j1 c true)
      (cond (decide (c.KeyId < 0))
       (Bb.j1 c true)
       (Bb.j1 c (decide (2147483648 < c.KeyId))))))))
def Ir (s:ByteArray):Option (Ab):=
 some (Ab.mk 12 (Oz s) false ([]:(List Ab)))
def Cr.j2 (x_1:Int) (b_1:List UInt8) (x35_2:Bool):Option (Lp (Int×List UInt8) (Ab)):=
 cond (x35_2)
  ((Gy 1 ([(u8 x_1)]:List UInt8) b_1).bind fun l=>
  (Rn .i64 x_1 8).bind fun q_2=>
  some (.next (q_2,l)))
  (up (
   some (Ab.mk 2 b_1 false ([]:(List Ab)))))
def Cr.l1 (x_1:Int) (b_1:List UInt8):Option (Lp (Int×List UInt8) (Ab)):=
 cond (!decide (x_1=0))
  (cond (!decide (x_1=(-1)))
   (Cr.j2 x_1 b_1 true)
   (cond (decide (x_1=0))
    ((Bm b_1 0).bind fun e=>
    cond (decide (128<=(e.toNat:Int)))
     (Cr.j2 x_1 b_1 true)
     (cond (decide (x_1=(-1)))
      (Cr.j2 x_1 b_1 (decide ((e.toNat:Int) < 128)))
      (Cr.j2 x_1 b_1 false)))
    (cond (decide (x_1=(-1)))
     ((Bm b_1 0).bind fun e_2=>
     Cr.j2 x_1 b_1 (decide ((e_2.toNat:Int) < 128)))
     (Cr.j2 x_1 b_1 false))))
  (cond (decide (x_1=0))
   ((Bm b_1 0).bind fun e_3=>
   cond (decide (128<=(e_3.toNat:Int)))
    (Cr.j2 x_1 b_1 true)
    (cond (decide (x_1=(-1)))
     (Cr.j2 x_1 b_1 (decide ((e_3.toNat:Int) < 128)))
     (Cr.j2 x_1 b_1 false)))
   (cond (decide (x_1=(-1)))
    ((Bm b_1 0).bind fun e_4=>
    Cr.j2 x_1 b_1 (decide ((e_4.toNat:Int) < 128)))
    (Cr.j2 x_1 b_1 false)))
def Cr (n:Int):Option (Ab):=
 (Rn .i64 n 8).bind fun q=>
 Bz (fun q'=>Cr.l1 q'.1 q'.2) (q,([(u8 n)]:List UInt8))
def Dl.l1 (rec:(List Ab)->Option ((List Ab))) (l:(List Ab)) (i_1:Int) (out_1:List Ab):Option (Lp (Int×List Ab) ((List Ab))):=
 cond (decide (i_1 < (l.length:Int)))
  ((Bm l i_1).bind fun e=>
  (Gy 1 ([]:List UInt8) e.Bytes).bind fun l_2=>
  (rec e.Elements).bind fun y=>
  (Gy 256 out_1 ([(Ab.mk e.Tag l_2 e.Nested y)]:List Ab)).bind fun l_3=>
  some (.next (W (i_1 + 1),l_3)))
  (up (
   some out_1))
def Dl.F (rec:(List Ab)->Option ((List Ab))) (l:(List Ab)):Option ((List Ab)):=
 Bz (fun q'=>Dl.l1 rec l q'.1 q'.2) (0,([]:List Ab))
def Dl (l:(List Ab)):Option ((List Ab)):=U0 (fun rec (x:(List Ab))=>Dl.F (fun l=>rec l) x) l
def H2 (l:(List Ab)):Option (Ab):=
 (Dl l).bind fun y=>
 some (Ab.mk 48 ([]:(List UInt8)) true y)
def Ns (u:Ao):Option (Ab):=
 (Cr u.Alg).bind fun y=>
 (Cr u.Bits).bind fun y_2=>
 (H2 ([y,y_2]:List Ab)).bind fun y_3=>
 some y_3
def Qa (b:Bool):Option (Ab):=
 cond (b)
  (some (Ab.mk 1 ([(255:UInt8)]:List UInt8) false ([]:(List Ab))))
  (some (Ab.mk 1 ([(0:UInt8)]:List UInt8) false ([]:(List Ab))))
def Gk.l1 (c:Ae) (i_1:Int) (names_1:List Ab):Option (Lp (Int×List Ab) (Ab)):=
 cond (decide (i_1 < (c.Names.length:Int)))
  ((Bm c.Names i_1).bind fun e=>
  (Ir e).bind fun y=>
  (Gy 256 names_1 ([y]:List Ab)).bind fun l=>
  some (.next (W (i_1 + 1),l)))
  (up (
   (Cr c.Serial).bind fun y_12=>
   (Ir c.Issuer).bind fun y_13=>
   (Ir c.Subject).bind fun y_14=>
   (Ns c.Key).bind fun y_15=>
   (Cr c.KeyId).bind fun y_16=>
   (Ns c.Hash).bind fun y_17=>
   (Cr c.From).bind fun y_18=>
   (Cr c.To).bind fun y_19=>
   (Qa c.Authority).bind fun y_20=>
   (Cr c.Path).bind fun y_21=>
   (H2 names_1).bind fun y_22=>
   (H2 ([y_12,y_13,y_14,y_15,y_16,y_17,y_18,y_19,y_20,y_21,y_22]:List Ab)).bind fun y_23=>
   some y_23))
def Gk (c:Ae):Option (Ab):=
 Bz (fun q'=>Gk.l1 c q'.1 q'.2) (0,([]:List Ab))
def Pn (n:Int):Option (Bool):=
 cond (decide (1<=n))
  (cond (decide (n<=255))
   ((Vk n 32).bind fun q=>
   some (!decide (q=31)))
   (some false))
  (some false)
def B6.l2 (rec:Ab->Option (Bool)) (v:Ab) (i_2:Int):Option (Lp (Int) (Bool)):=
 cond (decide (i_2 < (v.Elements.length:Int)))
  ((Bm v.Elements i_2).bind fun e=>
  (rec e).bind fun y_2=>
  cond (!y_2)
   (up (some false))
   (some (.next (W (i_2 + 1)))))
  (up (
   some true))
def B6.j1 (rec:Ab->Option (Bool)) (v:Ab) (x38_1:Bool):Option (Bool):=
 cond (x38_1)
  (some false)
  (Bz (fun q'=>B6.l2 rec v q') 0)
def B6.F (rec:Ab->Option (Bool)) (v:Ab):Option (Bool):=
 (Pn v.Tag).bind fun y=>
 cond (!y)
  (B6.j1 rec v true)
  ((Pm v.Tag 32).bind fun q=>
  (Vk q 2).bind fun q_2=>
  cond (!decide (v.Nested=(decide (q_2=1))))
   (B6.j1 rec v true)
   (cond (v.Nested)
    (cond (decide (0 < (v.Bytes.length:Int)))
     (B6.j1 rec v true)
     (B6.j1 rec v false))
    (B6.j1 rec v (decide (0 < (v.Elements.length:Int))))))
def B6 (v:Ab):Option (Bool):=U0 (fun rec (x:Ab)=>B6.F (fun v=>rec v) x) v
def Dt.l1 (rec:Ab->Option (Int)) (v:Ab) (d_1:Int) (i_1:Int):Option (Lp (Int×Int) (Int)):=
 cond (decide (i_1 < (v.Elements.length:Int)))
  ((Bm v.Elements i_1).bind fun e=>
  (rec e).bind fun y=>
  some (.next (max d_1 y,W (i_1 + 1))))
  (up (
   some (W (d_1 + 1))))
def Dt.F (rec:Ab->Option (Int)) (v:Ab):Option (Int):=
 Bz (fun q'=>Dt.l1 rec v q'.1 q'.2) (0,0)
def Dt (v:Ab):Option (Int):=U0 (fun rec (x:Ab)=>Dt.F (fun v=>rec v) x) v
def F3.l1 (n_1:Int) (b_1:List UInt8):Option (Lp (Int×List UInt8) ((List UInt8))):=
 cond (decide (0 < n_1))
  ((Vk n_1 256).bind fun q=>
  (Gy 1 ([(u8 q)]:List UInt8) b_1).bind fun l=>
  (Pm n_1 256).bind fun q_2=>
  some (.next (q_2,l)))
  (up (
   (Gy 1 ([(u8 (W (128 + (b_1.length:Int))))]:List UInt8) b_1).bind fun l_2=>
   some l_2))
def F3 (n:Int):Option ((List UInt8)):=
 cond (decide (n < 128))
  (some ([(u8 n)]:List UInt8))
  (Bz (fun q'=>F3.l1 q'.1 q'.2) (n,([]:List UInt8)))
def Eu.l1 (rec:Ab->Option ((List UInt8))) (v:Ab) (i_1:Int) (b_1:List UInt8):Option (Lp (Int×List UInt8) ((List UInt8))):=
 cond (decide (i_1 < (v.Elements.length:Int)))
  ((Bm v.Elements i_1).bind fun e=>
  (rec e).bind fun y=>
  (Gy 1 b_1 y).bind fun l_2=>
  some (.next (W (i_1 + 1),l_2)))
  (up (
   (F3 (b_1.length:Int)).bind fun y_2=>
   (Gy 1 ([(u8 v.Tag)]:List UInt8) y_2).bind fun l_3=>
   (Gy 1 l_3 b_1).bind fun l_4=>
   some l_4))
def Eu.F (rec:Ab->Option ((List UInt8))) (v:Ab):Option ((List UInt8)):=
 (Gy 1 ([]:List UInt8) v.Bytes).bind fun l=>
 Bz (fun q'=>Eu.l1 rec v q'.1 q'.2) (0,l)
def Eu (v:Ab):Option ((List UInt8)):=U0 (fun rec (x:Ab)=>Eu.F (fun v=>rec v) x) v
def H4 (v:Ab):Option ((List UInt8)×Int):=
 (B6 v).bind fun y=>
 cond (!y)
  (some (([]:(List UInt8)),1))
  ((Dt v).bind fun y_2=>
  cond (decide (16 < y_2))
   (some (([]:(List UInt8)),3))
   ((Eu v).bind fun y_3=>
   cond (decide (4096 < (y_3.length:Int)))
    (some (([]:(List UInt8)),3))
    (some (y_3,0))))
def Jz (c:Ae):Option ((List UInt8)×Int):=
 (Bb c).bind fun y=>
 cond (!decide (y=0))
  (some (([]:(List UInt8)),9))
  ((Gk c).bind fun y_2=>
  (H4 y_2).bind fun y_3=>
  some (y_3.1,y_3.2))
def F7.l1 (b:(List UInt8)) (h_1:Int) (i_1:Int):Option (Lp (Int×Int) (Int)):=
 cond (decide (i_1 < (b.length:Int)))
  ((Bm b i_1).bind fun e=>
  some (.next (IntKind.wrap .u32 ((Sr .u32 h_1 (IntKind.wrap .u32 (e.toNat:Int))) * 16777619),W (i_1 + 1))))
  (up (
   some (W h_1)))
def F7 (b:(List UInt8)):Option (Int):=
 Bz (fun q'=>F7.l1 b q'.1 q'.2) (2166136261,0)
def Gv.j1 (key:Int) (y:Ae) (x22_1:Bool):Option (Ae×Int):=
 cond (x22_1)
  (some ((Ae.mk 0 (⟨#[]⟩:ByteArray) (⟨#[]⟩:ByteArray) (Ao.mk 0 0) 0 (Ao.mk 0 0) 0 0 false 0 ([]:(List ByteArray)) (Be.mk 0 0)),9))
  ((Jz (Ae.mk y.Serial y.Issuer y.Subject y.Key y.KeyId y.Hash y.From y.To y.Authority y.Path y.Names (Be.mk 0 0))).bind fun y_3=>
  (F7 y_3.1).bind fun y_4=>
  some ((Ae.mk y.Serial y.Issuer y.Subject y.Key y.KeyId y.Hash y.From y.To y.Authority y.Path y.Names (Be.mk key y_4)),0))
def Gv (c:Ae) (key:Int):Option (Ae×Int):=
 (M0 c).bind fun y=>
 (Bb (Ae.mk y.Serial y.Issuer y.Subject y.Key y.KeyId y.Hash y.From y.To y.Authority y.Path y.Names (Be.mk 0 0))).bind fun y_2=>
 cond (!decide (y_2=0))
  (Gv.j1 key y true)
  (cond (decide (key < 0))
   (Gv.j1 key y true)
   (Gv.j1 key y (decide (2147483648 < key))))
def C2.j2 (issuer:ByteArray) (subject:ByteArray) (key:Ao) (id:Int) (signer:Int) (authority:Bool) (y:Int×Ad) (y_2:Int×Ad) (y_3:Int×Ad) (y_4:Int×Ad) (c_1:Int) (b_2:Ad) (l_2:List ByteArray):Option (Ae×Ad):=
 (Gv (Ae.mk y.1 issuer subject key id (Ao.mk y_2.1 0) y_3.1 y_4.1 authority c_1 l_2 (Be.mk 0 0)) signer).bind fun y_7=>
 some (y_7.1,b_2)
def C2.j1 (issuer:ByteArray) (subject:ByteArray) (key:Ao) (id:Int) (signer:Int) (authority:Bool) (y:Int×Ad) (y_2:Int×Ad) (y_3:Int×Ad) (y_4:Int×Ad) (d_1:Ad) (c_1:Int):Option (Ae×Ad):=
 (E7 d_1 3).bind fun y_6=>
 cond (y_6.1)
  ((aEs subject (⟨#[120]⟩:ByteArray)).bind fun s=>
  (Gy 16 ([subject]:List ByteArray) ([s]:List ByteArray)).bind fun l=>
  C2.j2 issuer subject key id signer authority y y_2 y_3 y_4 c_1 y_6.2 l)
  (C2.j2 issuer subject key id signer authority y y_2 y_3 y_4 c_1 y_6.2 ([subject]:List ByteArray))
def C2 (d:Ad) (issuer:ByteArray) (subject:ByteArray) (key:Ao) (id:Int) (signer:Int) (authority:Bool):Option (Ae×Ad):=
 (Cg d 1000).bind fun y=>
 (Bs y.2 ([3,2,4,1]:List Int)).bind fun y_2=>
 (Bs y_2.2 ([0,5,10]:List Int)).bind fun y_3=>
 (Bs y_3.2 ([1000,100,50,20]:List Int)).bind fun y_4=>
 cond (authority)
  ((Bs y_4.2 ([3,0,1]:List Int)).bind fun y_5=>
  C2.j1 issuer subject key id signer authority y y_2 y_3 y_4 y_5.2 y_5.1)
  (C2.j1 issuer subject key id signer authority y y_2 y_3 y_4 y_4.2 0)
def Hs.l1 (name:ByteArray) (key:Ao) (id:Int) (y:Int×Ad) (signer_1:Int) (issuer_1:ByteArray) (i_1:Int) (d_1:Ad) (above_1:List Ae):Option (Lp (Int×ByteArray×Int×Ad×List Ae) ((List Ae)×Ad)):=
 cond (decide (i_1 < y.1))
  ((Bm ([(⟨#[99,97]⟩:ByteArray),(⟨#[99,98]⟩:ByteArray),(⟨#[99,99]⟩:ByteArray)]:List ByteArray) i_1).bind fun e=>
  (C2 d_1 issuer_1 e (Ao.mk 5 2048) (W (11 + i_1)) signer_1 true).bind fun y_3=>
  (Gy 2280 ([y_3.1]:List Ae) above_1).bind fun l=>
  some (.next (W (11 + i_1),e,W (i_1 + 1),y_3.2,l)))
  (up (
   (C2 d_1 issuer_1 name key id signer_1 false).bind fun y_4=>
   (Gy 2280 ([y_4.1]:List Ae) above_1).bind fun l_2=>
   some (l_2,y_4.2)))
def Hs (d:Ad) (name:ByteArray) (key:Ao) (id:Int):Option ((List Ae)×Ad):=
 (Bs d ([1,0,2]:List Int)).bind fun y=>
 (Cg y.2 2).bind fun y_2=>
 Bz (fun q'=>Hs.l1 name key id y q'.1 q'.2.1 q'.2.2.1 q'.2.2.2.1 q'.2.2.2.2) (W (1 + y_2.1),(⟨#[114,111,111,116]⟩:ByteArray),0,y_2.2,([]:List Ae))
def B9.j4 (i_2:Int) (l_2:List Al) (key_3:Int) (key_3_2:Int) (y_13:Int×Ad) (d_4:List Int) (d_4_2:Int) (x_4:List Ae):Option (Lp (Int×List Int×Int×List Al) (Ac×Ad)):=
 (Gy 192 l_2 ([(Al.mk (Ao.mk key_3 key_3_2) (W (100 + y_13.1)) x_4)]:List Al)).bind fun l=>
 some (.next (W (i_2 - 1),d_4,d_4_2,l))
def B9.j3 (name:ByteArray) (i_2:Int) (l_2:List Al) (d_3:List Int) (d_3_2:Int) (key_3:Int) (key_3_2:Int):Option (Lp (Int×List Int×Int×List Al) (Ac×Ad)):=
 (Cg (Ad.mk d_3 d_3_2) 20).bind fun y_13=>
 (E7 y_13.2 9).bind fun y_14=>
 cond (!y_14.1)
  ((Hs y_14.2 name (Ao.mk key_3 key_3_2) (W (100 + y_13.1))).bind fun y_15=>
  B9.j4 i_2 l_2 key_3 key_3_2 y_13 y_15.2.L y_15.2.At y_15.1)
  (B9.j4 i_2 l_2 key_3 key_3_2 y_13 y_14.2.L y_14.2.At ([]:List Ae))
def B9.l2 (name:ByteArray) (y_2:(List Int)×Ad) (y_3:Bool×Ad) (y_4:Bool×Ad) (e_1:Int) (e_1_2:Int) (i_2:Int) (d_2:List Int) (d_2_2:Int) (l_2:List Al):Option (Lp (Int×List Int×Int×List Al) (Ac×Ad)):=
 cond (decide (0 < i_2))
  ((Qt (Ad.mk d_2 d_2_2)).bind fun y_9=>
  (Cg y_9.2 3).bind fun y_10=>
  cond (decide (0 < y_10.1))
   ((Bs y_10.2 ([5,7]:List Int)).bind fun y_11=>
   (C9 y_11.2 y_11.1).bind fun y_12=>
   B9.j3 name i_2 l_2 y_12.2.L y_12.2.At y_11.1 y_12.1)
   (B9.j3 name i_2 l_2 y_10.2.L y_10.2.At y_9.1.Alg y_9.1.Bits))
  (up (
   (Cg (Ad.mk d_2 d_2_2) 5).bind fun y_16=>
   (Bm ([([1,2]:List Int),([1,2]:List Int),([1]:List Int),([2,11]:List Int),([]:(List Int))]:List (List Int)) y_16.1).bind fun e=>
   (Cg y_16.2 3).bind fun y_17=>
   (Bm ([([1,2,3,4]:List Int),([2,3,4]:List Int),([3,4]:List Int)]:List (List Int)) y_17.1).bind fun e_2=>
   some ((Ac.mk name e_1 e_1_2 y_2.1 y_3.1 l_2 e e_2 y_4.1),y_17.2)))
def B9.j1 (name:ByteArray) (y_2:(List Int)×Ad) (y_3:Bool×Ad) (y_4:Bool×Ad) (d_1:List Int) (d_1_2:Int) (e_1:Int) (e_1_2:Int):Option (Ac×Ad):=
 (Bs (Ad.mk d_1 d_1_2) ([1,2,1,3,0]:List Int)).bind fun y_8=>
 Bz (fun q'=>B9.l2 name y_2 y_3 y_4 e_1 e_1_2 q'.1 q'.2.1 q'.2.2.1 q'.2.2.2) (y_8.1,y_8.2.L,y_8.2.At,([]:List Al))
def B9 (d:Ad) (name:ByteArray):Option (Ac×Ad):=
 (Bs d ([1,1,2,3]:List Int)).bind fun y=>
 (Fc y.2).bind fun y_2=>
 (E7 y_2.2 2).bind fun y_3=>
 (E7 y_3.2 2).bind fun y_4=>
 (Cg y_4.2 (W (5 - y.1))).bind fun y_5=>
 (Cg y_5.2 3).bind fun y_6=>
 cond (decide (0 < y_6.1))
  ((Bs y_6.2 ([3,4,2]:List Int)).bind fun y_7=>
  B9.j1 name y_2 y_3 y_4 y_7.2.L y_7.2.At 1 y_7.1)
  (B9.j1 name y_2 y_3 y_4 y_6.2.L y_6.2.At y.1 (W (y.1 + y_5.1)))
def B8.j5 (i_2:Int) (d_5:Ad) (l_5:List Int):Option (Lp (Int×Ad×List Int) (Ac×Ac×Ad)):=
 some (.next (W (i_2 + 1),d_5,l_5))
def B8.j4 (y:Ac×Ad) (i_2:Int) (l_2:List Int) (x44_4:Bool) (d_4:Ad):Option (Lp (Int×Ad×List Int) (Ac×Ac×Ad)):=
 cond (x44_4)
  ((Bm y.1.Suites i_2).bind fun e_2=>
  (Gy 8 l_2 ([e_2]:List Int)).bind fun l=>
  B8.j5 i_2 d_4 l)
  (B8.j5 i_2 d_4 l_2)
def B8.j3 (y:Ac×Ad) (y_2:Ac×Ad) (c_1:List Int) (c_1_2:List Int) (i_2:Int) (d_2:Ad) (l_2:List Int) (x28_3:Bool):Option (Lp (Int×Ad×List Int) (Ac×Ac×Ad)):=
 cond (x28_3)
  ((Bm y.1.Suites i_2).bind fun e=>
  (Dv l_2 e).bind fun y_4=>
  cond (!y_4)
   ((Cg d_2 3).bind fun y_5=>
   B8.j4 y i_2 l_2 (decide (0 < y_5.1)) y_5.2)
   (B8.j4 y i_2 l_2 false d_2))
  (up (
   some ((Ac.mk y.1.Name y.1.Least y.1.Most y.1.Suites y.1.OwnOrder y.1.Identities c_1 c_1_2 y.1.Fallback),(Ac.mk y_2.1.Name y_2.1.Least y_2.1.Most l_2 y_2.1.OwnOrder y_2.1.Identities y_2.1.Anchors y_2.1.Hashes y_2.1.Fallback),d_2)))
def B8.l2 (y:Ac×Ad) (y_2:Ac×Ad) (c_1:List Int) (c_1_2:List Int) (i_2:Int) (d_2:Ad) (l_2:List Int):Option (Lp (Int×Ad×List Int) (Ac×Ac×Ad)):=
 cond (decide (i_2 < (y.1.Suites.length:Int)))
  (B8.j3 y y_2 c_1 c_1_2 i_2 d_2 l_2 (decide ((l_2.length:Int) < 16)))
  (B8.j3 y y_2 c_1 c_1_2 i_2 d_2 l_2 false)
def B8.j1 (y:Ac×Ad) (y_2:Ac×Ad) (d_1:Ad) (c_1:List Int) (c_1_2:List Int):Option (Ac×Ac×Ad):=
 Bz (fun q'=>B8.l2 y y_2 c_1 c_1_2 q'.1 q'.2.1 q'.2.2) (0,d_1,y_2.1.Suites)
def B8 (d:Ad):Option (Ac×Ac×Ad):=
 (B9 d (⟨#[97,112,112]⟩:ByteArray)).bind fun y=>
 (B9 y.2 (⟨#[119,101,98]⟩:ByteArray)).bind fun y_2=>
 (Cg y_2.2 4).bind fun y_3=>
 cond (decide (0 < y_3.1))
  (B8.j1 y y_2 y_3.2 ([1,2]:List Int) ([1,2,3,4]:List Int))
  (B8.j1 y y_2 y_3.2 y.1.Anchors y.1.Hashes)
def Bn.j3 (i_2:Int) (x55_3:Bool):Option (Lp (Int) (Bool)):=
 cond (x55_3)
  (up (some false))
  (some (.next (W (i_2 + 1))))
def Bn.l2 (s:ByteArray) (i_2:Int):Option (Lp (Int) (Bool)):=
 cond (decide (i_2 < (s.size:Int)))
  ((oI s i_2).bind fun c=>
  cond (decide ((c.toNat:Int) < 97))
   (cond (decide ((c.toNat:Int) < 65))
    (cond (decide ((c.toNat:Int) < 48))
     (cond (!decide ((c.toNat:Int)=45))
      (cond (!decide ((c.toNat:Int)=95))
       (Bn.j3 i_2 (!decide ((c.toNat:Int)=46)))
       (Bn.j3 i_2 false))
      (Bn.j3 i_2 false))
     (cond (decide (57 < (c.toNat:Int)))
      (cond (!decide ((c.toNat:Int)=45))
       (cond (!decide ((c.toNat:Int)=95))
        (Bn.j3 i_2 (!decide ((c.toNat:Int)=46)))
        (Bn.j3 i_2 false))
       (Bn.j3 i_2 false))
      (Bn.j3 i_2 false)))
    (cond (decide (90 < (c.toNat:Int)))
     (cond (decide ((c.toNat:Int) < 48))
      (cond (!decide ((c.toNat:Int)=45))
       (cond (!decide ((c.toNat:Int)=95))
        (Bn.j3 i_2 (!decide ((c.toNat:Int)=46)))
        (Bn.j3 i_2 false))
       (Bn.j3 i_2 false))
      (cond (decide (57 < (c.toNat:Int)))
       (cond (!decide ((c.toNat:Int)=45))
        (cond (!decide ((c.toNat:Int)=95))
         (Bn.j3 i_2 (!decide ((c.toNat:Int)=46)))
         (Bn.j3 i_2 false))
        (Bn.j3 i_2 false))
       (Bn.j3 i_2 false)))
     (Bn.j3 i_2 false)))
   (cond (decide (122 < (c.toNat:Int)))
    (cond (decide ((c.toNat:Int) < 65))
     (cond (decide ((c.toNat:Int) < 48))
      (cond (!decide ((c.toNat:Int)=45))
       (cond (!decide ((c.toNat:Int)=95))
        (Bn.j3 i_2 (!decide ((c.toNat:Int)=46)))
        (Bn.j3 i_2 false))
       (Bn.j3 i_2 false))
      (cond (decide (57 < (c.toNat:Int)))
       (cond (!decide ((c.toNat:Int)=45))
        (cond (!decide ((c.toNat:Int)=95))
         (Bn.j3 i_2 (!decide ((c.toNat:Int)=46)))
         (Bn.j3 i_2 false))
        (Bn.j3 i_2 false))
       (Bn.j3 i_2 false)))
     (cond (decide (90 < (c.toNat:Int)))
      (cond (decide ((c.toNat:Int) < 48))
       (cond (!decide ((c.toNat:Int)=45))
        (cond (!decide ((c.toNat:Int)=95))
         (Bn.j3 i_2 (!decide ((c.toNat:Int)=46)))
         (Bn.j3 i_2 false))
        (Bn.j3 i_2 false))
       (cond (decide (57 < (c.toNat:Int)))
        (cond (!decide ((c.toNat:Int)=45))
         (cond (!decide ((c.toNat:Int)=95))
          (Bn.j3 i_2 (!decide ((c.toNat:Int)=46)))
          (Bn.j3 i_2 false))
         (Bn.j3 i_2 false))
        (Bn.j3 i_2 false)))
      (Bn.j3 i_2 false)))
    (Bn.j3 i_2 false)))
  (up (
   some true))
def Bn.j1 (s:ByteArray) (x12_1:Bool):Option (Bool):=
 cond (x12_1)
  (some false)
  (Bz (fun q'=>Bn.l2 s q') 0)
def Bn (s:ByteArray):Option (Bool):=
 cond (decide ((s.size:Int) < 1))
  (Bn.j1 s true)
  (Bn.j1 s (decide (32 < (s.size:Int))))
def Dy.l2 (key:Ao) (id:Int) (chain:(List Ae)) (i_2:Int):Option (Lp (Int) (Bool)):=
 cond (decide (i_2 < (chain.length:Int)))
  ((Bm chain i_2).bind fun e=>
  (Bb e).bind fun y_2=>
  cond (!decide (y_2=0))
   (up (some false))
   (some (.next (W (i_2 + 1)))))
  (up (
   cond (decide ((chain.length:Int)=0))
    (some true)
    ((Bm chain 0).bind fun e_2=>
    cond (decide (e_2.Key=key))
     (some (decide (e_2.KeyId=id)))
     (some false))))
def Dy.j1 (key:Ao) (id:Int) (chain:(List Ae)) (x23_1:Bool):Option (Bool):=
 cond (x23_1)
  (some false)
  (Bz (fun q'=>Dy.l2 key id chain q') 0)
def Dy (key:Ao) (id:Int) (chain:(List Ae)):Option (Bool):=
 (Ib key).bind fun y=>
 cond (!y)
  (Dy.j1 key id chain true)
  (cond (decide (id < 0))
   (Dy.j1 key id chain true)
   (cond (decide (2147483648 < id))
    (Dy.j1 key id chain true)
    (Dy.j1 key id chain (decide (8 < (chain.length:Int))))))
def A6.j3 (i_2:Int) (x77_3:Bool):Option (Lp (Int) (Int)):=
 cond (x77_3)
  (up (some 19))
  (some (.next (W (i_2 + 1))))
def A6.j6 (i_5:Int) (x143_6:Bool):Option (Lp (Int) (Int)):=
 cond (x143_6)
  (up (some 19))
  (some (.next (W (i_5 + 1))))
def A6.j8 (i_7:Int) (x175_8:Bool):Option (Lp (Int) (Int)):=
 cond (x175_8)
  (up (some 19))
  (some (.next (W (i_7 + 1))))
def A6.l7 (e:Ac) (i_7:Int):Option (Lp (Int) (Int)):=
 cond (decide (i_7 < (e.Hashes.length:Int)))
  ((Bm e.Hashes i_7).bind fun e_6=>
  (Gj e_6).bind fun y_5=>
  cond (!decide (y_5=1))
   (A6.j8 i_7 true)
   (cond (decide (0 < i_7))
    ((Bm e.Hashes (W (i_7 - 1))).bind fun e_7=>
    A6.j8 i_7 (decide (e_6<=e_7)))
    (A6.j8 i_7 false)))
  (up (
   some 0))
def A6.l5 (e:Ac) (i_5:Int):Option (Lp (Int) (Int)):=
 cond (decide (i_5 < (e.Anchors.length:Int)))
  ((Bm e.Anchors i_5).bind fun e_4=>
  cond (decide (e_4 < 0))
   (A6.j6 i_5 true)
   (cond (decide (2147483648 < e_4))
    (A6.j6 i_5 true)
    (cond (decide (0 < i_5))
     ((Bm e.Anchors (W (i_5 - 1))).bind fun e_5=>
     A6.j6 i_5 (decide (e_4<=e_5)))
     (A6.j6 i_5 false))))
  (up (
   Bz (fun q'=>A6.l7 e q') 0))
def A6.l4 (e:Ac) (i_4:Int):Option (Lp (Int) (Int)):=
 cond (decide (i_4 < (e.Identities.length:Int)))
  ((Bm e.Identities i_4).bind fun e_3=>
  (Dy e_3.Key e_3.KeyId e_3.Chain).bind fun y_4=>
  cond (!y_4)
   (up (some 19))
   (some (.next (W (i_4 + 1)))))
  (up (
   Bz (fun q'=>A6.l5 e q') 0))
def A6.l2 (e:Ac) (i_2:Int):Option (Lp (Int) (Int)):=
 cond (decide (i_2 < (e.Suites.length:Int)))
  ((Bm e.Suites i_2).bind fun e_2=>
  (Dn e_2).bind fun y_2=>
  cond (!decide (y_2.2=0))
   (A6.j3 i_2 true)
   ((Zz e.Suites 0 i_2).bind fun l=>
   (Dv l e_2).bind fun y_3=>
   A6.j3 i_2 y_3))
  (up (
   Bz (fun q'=>A6.l4 e q') 0))
def A6.j1 (e:Ac) (x47_1:Bool):Option (Int):=
 cond (x47_1)
  (some 19)
  (Bz (fun q'=>A6.l2 e q') 0)
def A6 (e:Ac):Option (Int):=
 (Bn e.Name).bind fun y=>
 cond (!y)
  (A6.j1 e true)
  (cond (decide (e.Least < 1))
   (A6.j1 e true)
   (cond (decide (e.Most < e.Least))
    (A6.j1 e true)
    (cond (decide (4 < e.Most))
     (A6.j1 e true)
     (cond (decide (16 < (e.Suites.length:Int)))
      (A6.j1 e true)
      (cond (decide (4 < (e.Identities.length:Int)))
       (A6.j1 e true)
       (A6.j1 e (decide (16 < (e.Anchors.length:Int)))))))))
def C6.j2 (i_1:Int) (x39_2:Bool):Option (Lp (Int) (Int×Bool)):=
 cond (x39_2)
  (up (some (i_1,true)))
  (some (.next (W (i_1 + 1))))
def C6.l1 (server:Ac) (y:Az×Int) (i_1:Int):Option (Lp (Int) (Int×Bool)):=
 cond (decide (i_1 < (server.Identities.length:Int)))
  (cond (decide (y.1.Sign.Alg=0))
   (C6.j2 i_1 true)
   ((Bm server.Identities i_1).bind fun e=>
   C6.j2 i_1 (decide (e.Key.Alg=y.1.Sign.Alg))))
  (up (
   some (-1,false)))
def C6 (server:Ac) (suite:Int):Option (Int×Bool):=
 (Dn suite).bind fun y=>
 cond (!decide (y.2=0))
  (some (-1,false))
  (Bz (fun q'=>C6.l1 server y q') 0)
def D8.j1 (server:Ac) (suite:Int) (x44_1:Bool):Option (Bool):=
 cond (x44_1)
  (some false)
  ((C6 server suite).bind fun y_4=>
  some y_4.2)
def D8 (server:Ac) (offer:(List Int)) (version:Int) (suite:Int):Option (Bool):=
 (Dn suite).bind fun y=>
 cond (!decide (y.2=0))
  (D8.j1 server suite true)
  ((Dv offer suite).bind fun y_2=>
  cond (!y_2)
   (D8.j1 server suite true)
   ((Dv server.Suites suite).bind fun y_3=>
   cond (!y_3)
    (D8.j1 server suite true)
    (cond (decide (version < y.1.Least))
     (D8.j1 server suite true)
     (D8.j1 server suite (decide (y.1.Most < version))))))
def G7.l1 (l:(List ByteArray)) (s:ByteArray) (i_1:Int):Option (Lp (Int) (Bool)):=
 cond (decide (i_1 < (l.length:Int)))
  ((Bm l i_1).bind fun e=>
  cond (decide (e=s))
   (up (some true))
   (some (.next (W (i_1 + 1)))))
  (up (
   some false))
def G7 (l:(List ByteArray)) (s:ByteArray):Option (Bool):=
 Bz (fun q'=>G7.l1 l s q') 0
def Ip.j1 (l:(List Ae)) (at':Int) (x12_1:Bool):Option (Bool):=
 cond (x12_1)
  (some false)
  (cond (decide (at'=0))
   (some true)
   ((Bm l at').bind fun e=>
   cond (e.Authority)
    (some (decide ((W (at' - 1))<=e.Path)))
    (some false)))
def Ip (l:(List Ae)) (at':Int):Option (Bool):=
 cond (decide (at' < 0))
  (Ip.j1 l at' true)
  (Ip.j1 l at' (decide ((l.length:Int)<=at')))
def Kv (c:Ae) (key:Int):Option (Bool):=
 (Jz c).bind fun y=>
 cond (decide (y.2=0))
  (cond (decide (c.Seal.Key=key))
   ((F7 y.1).bind fun y_2=>
   some (decide (c.Seal.Sum=y_2)))
   (some false))
  (some false)
def M5 (e:Int) (l:(List Ae)) (i:Int) (anchors:(List Int)) (hashes:(List Int)) (day:Int) (name:ByteArray):Option (Bool):=
 (Bm l i).bind fun e_2=>
 cond (decide (e=9))
  ((Bb e_2).bind fun y=>
  some (!decide (y=0)))
  (cond (decide (e=14))
   (cond (decide (i=0))
    ((G7 e_2.Names name).bind fun y_2=>
    some (!y_2))
    (some false))
   (cond (decide (e=13))
    (cond (decide (day < e_2.From))
     (some true)
     (some (decide (e_2.To<=day))))
    (cond (decide (e=7))
     ((Dv hashes e_2.Hash.Alg).bind fun y_3=>
     some (!y_3))
     (cond (decide (e=11))
      (cond (!(decide (i=(W ((l.length:Int) - 1)))))
       ((Bm l (W (i + 1))).bind fun e_3=>
       some (!decide (e_2.Issuer=e_3.Subject)))
       (some false))
      (cond (decide (e=15))
       ((Ip l i).bind fun y_4=>
       some (!y_4))
       (cond (decide (e=10))
        (cond (decide (i=(W ((l.length:Int) - 1))))
         ((Kv e_2 e_2.Seal.Key).bind fun y_5=>
         some (!y_5))
         ((Bm l (W (i + 1))).bind fun e_4=>
         (Kv e_2 e_4.KeyId).bind fun y_6=>
         some (!y_6)))
        (cond (decide (i=(W ((l.length:Int) - 1))))
         ((Dv anchors e_2.Seal.Key).bind fun y_7=>
         some (!y_7))
         (some false))))))))
def Dg.l2 (l:(List Ae)) (anchors:(List Int)) (hashes:(List Int)) (day:Int) (name:ByteArray) (k_1:Int) (i_2:Int):Option (Lp (Int) (Lp (Int) (Int))):=
 cond (decide (i_2 < (l.length:Int)))
  ((Bm ([9,14,13,7,11,15,10,12]:List Int) k_1).bind fun e=>
  (M5 e l i_2 anchors hashes day name).bind fun y=>
  cond (y)
   (up (up (some e)))
   (some (.next (W (i_2 + 1)))))
  (up (
   some (.next (W (k_1 + 1)))))
def Dg.l1 (l:(List Ae)) (anchors:(List Int)) (hashes:(List Int)) (day:Int) (name:ByteArray) (k_1:Int):Option (Lp (Int) (Int)):=
 cond (decide (k_1 < (([9,14,13,7,11,15,10,12]:List Int).length:Int)))
  (Bz (fun q'=>Dg.l2 l anchors hashes day name k_1 q') 0)
  (up (
   some 0))
def Dg (l:(List Ae)) (anchors:(List Int)) (hashes:(List Int)) (day:Int) (name:ByteArray):Option (Int):=
 cond (decide ((l.length:Int)=0))
  (some 4)
  (cond (decide (8 < (l.length:Int)))
   (some 3)
   (Bz (fun q'=>Dg.l1 l anchors hashes day name q') 0))
def B1.l5 (client:Ac) (server:Ac) (day:Int) (most:Int) (suites:(List Int)) (order_4:List Int) (i_5:Int):Option (Lp (Int) (Ap×Int)):=
 cond (decide (i_5 < (order_4.length:Int)))
  ((Bm order_4 i_5).bind fun e=>
  (D8 server suites (min most server.Most) e).bind fun y_3=>
  cond (!y_3)
   (some (.next (W (i_5 + 1))))
   ((C6 server e).bind fun y_4=>
   (Bm server.Identities y_4.1).bind fun e_2=>
   (Dg e_2.Chain client.Anchors client.Hashes day server.Name).bind fun y_5=>
   cond (!decide (y_5=0))
    (up (some ((Ap.mk 0 0),29)))
    (up (some ((Ap.mk (min most server.Most) e),0)))))
  (up (
   some ((Ap.mk 0 0),28)))
def B1.j4 (client:Ac) (server:Ac) (day:Int) (most:Int) (suites:(List Int)) (order_4:List Int):Option (Ap×Int):=
 Bz (fun q'=>B1.l5 client server day most suites order_4 q') 0
def B1.j3 (client:Ac) (server:Ac) (day:Int) (most:Int) (suites:(List Int)) (x54_3:Bool):Option (Ap×Int):=
 cond (x54_3)
  (some ((Ap.mk 0 0),27))
  (cond (server.OwnOrder)
   (B1.j4 client server day most suites server.Suites)
   (B1.j4 client server day most suites suites))
def B1.j2 (client:Ac) (server:Ac) (day:Int) (most:Int) (suites:(List Int)) (x39_2:Bool):Option (Ap×Int):=
 cond (x39_2)
  (some ((Ap.mk 0 0),2))
  (cond (decide ((min most server.Most) < client.Least))
   (B1.j3 client server day most suites true)
   (B1.j3 client server day most suites (decide ((min most server.Most) < server.Least))))
def B1.j1 (client:Ac) (server:Ac) (day:Int) (most:Int) (suites:(List Int)) (x24_1:Bool):Option (Ap×Int):=
 cond (x24_1)
  (some ((Ap.mk 0 0),19))
  (cond (decide (day < 0))
   (B1.j2 client server day most suites true)
   (cond (decide (40000 < day))
    (B1.j2 client server day most suites true)
    (cond (decide (most < 1))
     (B1.j2 client server day most suites true)
     (B1.j2 client server day most suites (decide (4 < most))))))
def B1 (client:Ac) (server:Ac) (day:Int) (most:Int) (suites:(List Int)):Option (Ap×Int):=
 (A6 client).bind fun y=>
 cond (!decide (y=0))
  (B1.j1 client server day most suites true)
  ((A6 server).bind fun y_2=>
  B1.j1 client server day most suites (!decide (y_2=0)))
def Dj.l1 (a:(List Int)) (b:(List Int)) (i_1:Int):Option (Lp (Int) (Bool)):=
 cond (decide (i_1 < (a.length:Int)))
  ((Bm a i_1).bind fun e=>
  (Bm b i_1).bind fun e_2=>
  cond (!decide (e=e_2))
   (up (some false))
   (some (.next (W (i_1 + 1)))))
  (up (
   some true))
def Dj (a:(List Int)) (b:(List Int)):Option (Bool):=
 cond (!decide ((a.length:Int)=(b.length:Int)))
  (some false)
  (Bz (fun q'=>Dj.l1 a b q') 0)
def Ax.j5 (i_1:Int):Option (Lp (Int) (Bool)):=
 some (.next (W (i_1 + 1)))
def Ax.j4 (i_1:Int) (x172_4:Bool):Option (Lp (Int) (Bool)):=
 cond (x172_4)
  (up (some false))
  (Ax.j5 i_1)
def Ax.j3 (y_4:Ac×Ac×Ad) (y_5:Int×Ad) (i_1:Int) (e:Aa) (y_7:Ap×Int) (x141_3:Bool):Option (Lp (Int) (Bool)):=
 cond (x141_3)
  (Ax.j5 i_1)
  ((Dn y_7.1.Suite).bind fun y_9=>
  cond (!decide (y_9.2=0))
   (Ax.j4 i_1 true)
   (cond (!decide ((e.Suites.length:Int)=1))
    (Ax.j4 i_1 true)
    ((Bm e.Suites 0).bind fun e_3=>
    (Dv y_4.1.Suites e_3).bind fun y_10=>
    cond (!y_10)
     (Ax.j4 i_1 true)
     ((A1 y_9.1.Mac).bind fun y_11=>
     Ax.j4 i_1 (decide (y_5.1<=y_11))))))
def Ax.j2 (y_4:Ac×Ac×Ad) (y_5:Int×Ad) (i_1:Int) (e:Aa) (y_7:Ap×Int) (x125_2:Bool):Option (Lp (Int) (Bool)):=
 cond (x125_2)
  (up (some false))
  ((Dj e.Suites y_4.1.Suites).bind fun y_8=>
  cond (y_8)
   (cond (decide (e.Most=y_4.1.Most))
    (Ax.j3 y_4 y_5 i_1 e y_7 true)
    (Ax.j3 y_4 y_5 i_1 e y_7 y_4.1.Fallback))
   (Ax.j3 y_4 y_5 i_1 e y_7 false))
def Ax.l1 (day:UInt8) (y_4:Ac×Ac×Ad) (y_5:Int×Ad) (y_6:(List Aa)×Int) (i_1:Int):Option (Lp (Int) (Bool)):=
 cond (decide (i_1 < (y_6.1.length:Int)))
  ((Bm y_6.1 i_1).bind fun e=>
  (B1 y_4.1 y_4.2.1 (day.toNat:Int) e.Most e.Suites).bind fun y_7=>
  cond (!decide (y_7.2=0))
   (Ax.j2 y_4 y_5 i_1 e y_7 true)
   (cond (!decide (y_7.1=e.Outcome))
    (Ax.j2 y_4 y_5 i_1 e y_7 true)
    (cond (decide (e.Most < y_4.1.Least))
     (Ax.j2 y_4 y_5 i_1 e y_7 true)
     (cond (decide (y_4.1.Most < e.Most))
      (Ax.j2 y_4 y_5 i_1 e y_7 true)
      (cond (decide (0 < i_1))
       ((Bm y_6.1 (W (i_1 - 1))).bind fun e_2=>
       cond (decide (y_7.1.Version < e_2.Outcome.Version))
        (Ax.j2 y_4 y_5 i_1 e y_7 true)
        (cond (decide (e_2.Outcome.Version=y_7.1.Version))
         (Ax.j2 y_4 y_5 i_1 e y_7 (decide (y_7.1.Suite<=e_2.Outcome.Suite)))
         (Ax.j2 y_4 y_5 i_1 e y_7 false)))
       (Ax.j2 y_4 y_5 i_1 e y_7 false))))))
  (up (
   (Fp).bind fun y_12=>
   some y_12))
def Ax (l:(List Int)) (day:UInt8):Option (Bool):=
 (G4 l).bind fun y=>
 cond (!y)
  ((Fp).bind fun y_2=>
  some y_2)
  ((K8 l).bind fun y_3=>
  (B8 y_3).bind fun y_4=>
  (Bs y_4.2.2 ([0,65,100,300]:List Int)).bind fun y_5=>
  (Av y_4.1 y_4.2.1 (day.toNat:Int) y_5.1).bind fun y_6=>
  cond (!decide (y_6.2=0))
   (some false)
   (Bz (fun q'=>Ax.l1 day y_4 y_5 y_6 q') 0))
def Ho (w:Aa) (c0:Ap):Option (Bool):=
 some (decide (w.Outcome=c0))
def Gg (client:Ac) (server:Ac) (day:Int) (weak:Int) (o:Ap):Option (Bool×Int):=
 (Av client server day weak).bind fun y=>
 (D2 y.1 (fun x0=>Ho x0 o)).bind fun y_2=>
 some (y_2,y.2)
def H5 (client:Ac) (server:Ac) (day:Int):Option (Ap×Int):=
 (B1 client server day (max 1 (min 4 client.Most)) client.Suites).bind fun y=>
 some (y.1,y.2)
def A3.j7 (i_2:Int):Option (Lp (Int) (Bool)):=
 some (.next (W (i_2 + 1)))
def A3.j4 (k_3:Int) (part_4:List Int):Option (Lp (Int×List Int) (Lp (Int) (Bool))):=
 some (.next (W (k_3 + 1),part_4))
def A3.j6 (i_2:Int) (x130_6:Bool):Option (Lp (Int) (Bool)):=
 cond (x130_6)
  (up (some false))
  (A3.j7 i_2)
def A3.j5 (y_4:Ac×Ac×Ad) (y_5:Int×Ad) (i_2:Int) (y_6:Ap×Int) (x116_5:Bool):Option (Lp (Int) (Bool)):=
 cond (x116_5)
  (A3.j7 i_2)
  ((Gg y_4.1 y_4.2.1 15 y_5.1 y_6.1).bind fun y_9=>
  cond (!decide (y_9.2=0))
   (A3.j6 i_2 true)
   (A3.j6 i_2 (!y_9.1)))
def A3.l3 (y_4:Ac×Ac×Ad) (y_5:Int×Ad) (i_2:Int) (e:Int) (q:Int) (k_3:Int) (part_3:List Int):Option (Lp (Int×List Int) (Lp (Int) (Bool))):=
 cond (decide (k_3 < (y_4.1.Suites.length:Int)))
  ((Vk k_3 12).bind fun q_2=>
  (Rn .i64 (W e) (IntKind.wrap .u64 (W (2 + q_2)))).bind fun q_3=>
  cond (decide ((eX .i64 q_3 1)=1))
   ((Bm y_4.1.Suites k_3).bind fun e_2=>
   (Gy 8 part_3 ([e_2]:List Int)).bind fun l_2=>
   A3.j4 k_3 l_2)
   (A3.j4 k_3 part_3))
  (up (
   (B1 y_4.1 y_4.2.1 15 (W (y_4.1.Least + q)) part_3).bind fun y_6=>
   (Dn y_6.1.Suite).bind fun y_7=>
   cond (!decide (y_6.2=0))
    (A3.j5 y_4 y_5 i_2 y_6 true)
    (cond (!decide (y_7.2=0))
     (A3.j5 y_4 y_5 i_2 y_6 true)
     ((A1 y_7.1.Mac).bind fun y_8=>
     A3.j5 y_4 y_5 i_2 y_6 (decide (y_5.1<=y_8))))))
def A3.l2 (parts:(List Int)) (y_4:Ac×Ac×Ad) (y_5:Int×Ad) (i_2:Int):Option (Lp (Int) (Bool)):=
 cond (decide (i_2 < (parts.length:Int)))
  ((Bm parts i_2).bind fun e=>
  (Vk (W e) (W ((W (y_4.1.Most - y_4.1.Least)) + 1))).bind fun q=>
  Bz (fun q'=>A3.l3 y_4 y_5 i_2 e q q'.1 q'.2) (0,([]:List Int)))
  (up (
   (H5 y_4.1 y_4.2.1 15).bind fun y_10=>
   cond (decide (y_10.2=0))
    ((Gg y_4.1 y_4.2.1 15 0 y_10.1).bind fun y_11=>
    cond (decide (y_11.2=0))
     (cond (y_11.1)
      ((Fp).bind fun y_12=>
      some y_12)
      (some false))
     (some false))
    ((Fp).bind fun y_13=>
    some y_13)))
def A3.j1 (l:(List Int)) (parts:(List Int)) (x30_1:Bool):Option (Bool):=
 cond (x30_1)
  ((Fp).bind fun y_2=>
  some y_2)
  ((K8 l).bind fun y_3=>
  (B8 y_3).bind fun y_4=>
  (Bs y_4.2.2 ([65,100,300]:List Int)).bind fun y_5=>
  Bz (fun q'=>A3.l2 parts y_4 y_5 q') 0)
def A3 (l:(List Int)) (parts:(List Int)):Option (Bool):=
 (G4 l).bind fun y=>
 cond (!y)
  (A3.j1 l parts true)
  (A3.j1 l parts (decide (20 < (parts.length:Int))))
def Ey.l1 (l:(List Ae)) (i_1:Int) (out_1:List Ae):Option (Lp (Int×List Ae) ((List Ae))):=
 cond (decide (i_1 < (l.length:Int)))
  ((Bm l i_1).bind fun e=>
  (M0 e).bind fun y=>
  (Gy 2280 out_1 ([y]:List Ae)).bind fun l_2=>
  some (.next (W (i_1 + 1),l_2)))
  (up (
   some out_1))
def Ey (l:(List Ae)):Option ((List Ae)):=
 Bz (fun q'=>Ey.l1 l q'.1 q'.2) (0,([]:List Ae))
def Gl.l1 (e:Ac) (l:List Int) (l_2:List Int) (l_3:List Int) (i_1:Int) (l_1:List Al):Option (Lp (Int×List Al) (Ac)):=
 cond (decide (i_1 < (e.Identities.length:Int)))
  ((Bm e.Identities i_1).bind fun e_2=>
  (Ey e_2.Chain).bind fun y=>
  (Gy 192 l_1 ([(Al.mk e_2.Key e_2.KeyId y)]:List Al)).bind fun l_4=>
  some (.next (W (i_1 + 1),l_4)))
  (up (
   some (Ac.mk e.Name e.Least e.Most l e.OwnOrder l_1 l_2 l_3 e.Fallback)))
def Gl (e:Ac):Option (Ac):=
 (Gy 8 ([]:List Int) e.Suites).bind fun l=>
 (Gy 8 ([]:List Int) e.Anchors).bind fun l_2=>
 (Gy 8 ([]:List Int) e.Hashes).bind fun l_3=>
 Bz (fun q'=>Gl.l1 e l l_2 l_3 q'.1 q'.2) (0,([]:List Al))
def Cw.j4 (s_3:Int) (out_4:List Ap):Option (Lp (Int×List Ap) (Lp (Int×List Ap) ((List Ap)))):=
 some (.next (W (s_3 + 1),out_4))
def Cw.l3 (client:Ac) (server:Ac) (v_2:Int) (s_3:Int) (out_3:List Ap):Option (Lp (Int×List Ap) (Lp (Int×List Ap) ((List Ap)))):=
 cond (decide (s_3<=16))
  ((D8 server client.Suites v_2 s_3).bind fun y_3=>
  cond (y_3)
   ((Gy 32 out_3 ([(Ap.mk v_2 s_3)]:List Ap)).bind fun l=>
   Cw.j4 s_3 l)
   (Cw.j4 s_3 out_3))
  (up (
   some (.next (W (v_2 + 1),out_3))))
def Cw.l2 (client:Ac) (server:Ac) (v_2:Int) (out_2:List Ap):Option (Lp (Int×List Ap) ((List Ap))):=
 cond (decide (v_2<=(min client.Most server.Most)))
  (Bz (fun q'=>Cw.l3 client server v_2 q'.1 q'.2) (1,out_2))
  (up (
   some out_2))
def Cw.j1 (client:Ac) (server:Ac) (x15_1:Bool):Option ((List Ap)):=
 cond (x15_1)
  (some ([]:(List Ap)))
  (Bz (fun q'=>Cw.l2 client server q'.1 q'.2) (max client.Least server.Least,([]:List Ap)))
def Cw (client:Ac) (server:Ac):Option ((List Ap)):=
 (A6 client).bind fun y=>
 cond (!decide (y=0))
  (Cw.j1 client server true)
  ((A6 server).bind fun y_2=>
  Cw.j1 client server (!decide (y_2=0)))
def Aq.j4 (k_3:Int) (found_4:Bool):Option (Lp (Bool×Int) (Lp (Int) (Bool))):=
 some (.next (found_4,W (k_3 + 1)))
def Aq.j6 (k_5:Int) (common_6:Bool):Option (Lp (Bool×Int) (Lp (Int) (Bool))):=
 some (.next (common_6,W (k_5 + 1)))
def Aq.j7 (i_2:Int) (x163_7:Bool):Option (Lp (Int) (Bool)):=
 cond (x163_7)
  (up (some false))
  (some (.next (W (i_2 + 1))))
def Aq.l5 (y_5:(List Aa)×Int) (y_10:(List Ap)) (i_2:Int) (found_3:Bool) (common_5:Bool) (k_5:Int):Option (Lp (Bool×Int) (Lp (Int) (Bool))):=
 cond (decide (k_5 < (y_10.length:Int)))
  (cond (common_5)
   (Aq.j6 k_5 true)
   ((Bm y_10 k_5).bind fun e_4=>
   (Bm y_5.1 i_2).bind fun e_5=>
   Aq.j6 k_5 (decide (e_4=e_5.Outcome))))
  (up (
   cond (!found_3)
    (Aq.j7 i_2 true)
    (Aq.j7 i_2 (!common_5))))
def Aq.l3 (y_5:(List Aa)×Int) (y_6:(List Aa)×Int) (y_10:(List Ap)) (i_2:Int) (found_3:Bool) (k_3:Int):Option (Lp (Bool×Int) (Lp (Int) (Bool))):=
 cond (decide (k_3 < (y_6.1.length:Int)))
  (cond (found_3)
   (Aq.j4 k_3 true)
   ((Bm y_6.1 k_3).bind fun e_2=>
   (Bm y_5.1 i_2).bind fun e_3=>
   Aq.j4 k_3 (decide (e_2.Outcome=e_3.Outcome))))
  (up (
   Bz (fun q'=>Aq.l5 y_5 y_10 i_2 found_3 q'.1 q'.2) (false,0)))
def Aq.l2 (y_5:(List Aa)×Int) (y_6:(List Aa)×Int) (y_10:(List Ap)) (i_2:Int):Option (Lp (Int) (Bool)):=
 cond (decide (i_2 < (y_5.1.length:Int)))
  (Bz (fun q'=>Aq.l3 y_5 y_6 y_10 i_2 q'.1 q'.2) (false,0))
  (up (
   (Fp).bind fun y_11=>
   some y_11))
def Aq.j1 (y_4:Ac×Ac×Ad) (y_5:(List Aa)×Int) (y_6:(List Aa)×Int) (x109_1:Bool):Option (Bool):=
 cond (x109_1)
  (some false)
  ((Cw y_4.1 y_4.2.1).bind fun y_10=>
  Bz (fun q'=>Aq.l2 y_5 y_6 y_10 q') 0)
def Aq (l:(List Int)) (a:UInt8) (b:UInt8):Option (Bool):=
 (G4 l).bind fun y=>
 cond (!y)
  ((Fp).bind fun y_2=>
  some y_2)
  ((K8 l).bind fun y_3=>
  (B8 y_3).bind fun y_4=>
  (Av y_4.1 y_4.2.1 15 (a.toNat:Int)).bind fun y_5=>
  (Av y_4.1 y_4.2.1 15 (W ((a.toNat:Int) + (b.toNat:Int)))).bind fun y_6=>
  (Gl y_4.1).bind fun y_7=>
  (Av (Ac.mk y_7.Name y_7.Least y_7.Most y_7.Suites y_7.OwnOrder y_7.Identities y_7.Anchors y_7.Hashes false) y_4.2.1 15 0).bind fun y_8=>
  (H5 (Ac.mk y_7.Name y_7.Least y_7.Most y_7.Suites y_7.OwnOrder y_7.Identities y_7.Anchors y_7.Hashes false) y_4.2.1 15).bind fun y_9=>
  cond (!decide (y_5.2=0))
   (Aq.j1 y_4 y_5 y_6 true)
   (cond (!decide (y_6.2=0))
    (Aq.j1 y_4 y_5 y_6 true)
    (cond (!decide (y_8.2=0))
     (Aq.j1 y_4 y_5 y_6 true)
     (cond (decide (1 < (y_8.1.length:Int)))
      (Aq.j1 y_4 y_5 y_6 true)
      (cond (!decide ((decide ((y_8.1.length:Int)=1))=(decide (y_9.2=0))))
       (Aq.j1 y_4 y_5 y_6 true)
       (cond (decide ((y_8.1.length:Int)=1))
        ((Bm y_8.1 0).bind fun e=>
        Aq.j1 y_4 y_5 y_6 (!decide (e.Outcome=y_9.1)))
        (Aq.j1 y_4 y_5 y_6 false)))))))
def Bu.j5 (i_1:Int) (l_1:List Aw) (y_2:Bool×Ad) (y_3:Int×Ad) (r_2:Int) (r_3:Int) (r_4:Int) (d_5:Ad) (r_5:Int):Option (Lp (Int×Ad×List Aw) (Bk×Ad)):=
 (Gy 288 l_1 ([(Aw.mk y_2.1 y_3.1 r_2 r_3 r_4 r_5)]:List Aw)).bind fun l=>
 some (.next (W (i_1 - 1),d_5,l))
def Bu.j4 (i_1:Int) (l_1:List Aw) (y_2:Bool×Ad) (y_3:Int×Ad) (r_2:Int) (r_3:Int) (d_4:Ad) (r_4:Int):Option (Lp (Int×Ad×List Aw) (Bk×Ad)):=
 (E7 d_4 3).bind fun y_10=>
 cond (y_10.1)
  ((Bs y_10.2 ([20,1,200]:List Int)).bind fun y_11=>
  Bu.j5 i_1 l_1 y_2 y_3 r_2 r_3 r_4 y_11.2 (W (r_4 + y_11.1)))
  (Bu.j5 i_1 l_1 y_2 y_3 r_2 r_3 r_4 y_10.2 40001)
def Bu.j3 (i_1:Int) (l_1:List Aw) (y_2:Bool×Ad) (y_3:Int×Ad) (r_2:Int) (d_3:Ad) (r_3:Int):Option (Lp (Int×Ad×List Aw) (Bk×Ad)):=
 (E7 d_3 2).bind fun y_8=>
 cond (y_8.1)
  ((Bs y_8.2 ([10,30,100,7]:List Int)).bind fun y_9=>
  Bu.j4 i_1 l_1 y_2 y_3 r_2 r_3 y_9.2 y_9.1)
  (Bu.j4 i_1 l_1 y_2 y_3 r_2 r_3 y_8.2 0)
def Bu.j2 (i_1:Int) (l_1:List Aw) (y_2:Bool×Ad) (y_3:Int×Ad) (d_2:Ad) (r_2:Int):Option (Lp (Int×Ad×List Aw) (Bk×Ad)):=
 (E7 d_2 3).bind fun y_6=>
 cond (y_6.1)
  ((Cg y_6.2 4).bind fun y_7=>
  Bu.j3 i_1 l_1 y_2 y_3 r_2 y_7.2 (W (1 + y_7.1)))
  (Bu.j3 i_1 l_1 y_2 y_3 r_2 y_6.2 0)
def Bu.l6 (l_1:List Aw) (i_6:Int) (d_6:Ad) (l_6:List Bl):Option (Lp (Int×Ad×List Bl) (Bk×Ad)):=
 cond (decide (0 < i_6))
  ((Cg d_6 4).bind fun y_13=>
  (Bs y_13.2 ([10,100,3000]:List Int)).bind fun y_14=>
  (Gy 32 l_6 ([(Bl.mk (W (1 + y_13.1)) y_14.1)]:List Bl)).bind fun l_2=>
  some (.next (W (i_6 - 1),y_14.2,l_2)))
  (up (
   some ((Bk.mk l_1 l_6),d_6)))
def Bu.l1 (i_1:Int) (d_1:Ad) (l_1:List Aw):Option (Lp (Int×Ad×List Aw) (Bk×Ad)):=
 cond (decide (0 < i_1))
  ((E7 d_1 3).bind fun y_2=>
  (Bs y_2.2 ([14,1,2,5,15,0,16,10,20,7]:List Int)).bind fun y_3=>
  (E7 y_3.2 2).bind fun y_4=>
  cond (y_4.1)
   ((Bs y_4.2 ([2048,256,1024,3072,129]:List Int)).bind fun y_5=>
   Bu.j2 i_1 l_1 y_2 y_3 y_5.2 y_5.1)
   (Bu.j2 i_1 l_1 y_2 y_3 y_4.2 0))
  (up (
   (Cg d_1 3).bind fun y_12=>
   Bz (fun q'=>Bu.l6 l_1 q'.1 q'.2.1 q'.2.2) (y_12.1,y_12.2,([]:List Bl))))
def Bu (d:Ad):Option (Bk×Ad):=
 (Cg d 7).bind fun y=>
 Bz (fun q'=>Bu.l1 q'.1 q'.2.1 q'.2.2) (y.1,y.2,([]:List Aw))
def Lx (d:Ad):Option (Cc×Ad):=
 (Cg d 3).bind fun y=>
 some ((Cc.mk ([51,52,53]:List Int) (W (1 + y.1))),y.2)
def C1.j2 (x36_1:Int) (out_2:List Aa):Option (Lp (Int×List Aa) ((List Aa)×Int)):=
 some (.next (W (x36_1 + 1),out_2))
def C1.l1 (server:Ac) (p:Bk) (l:(List Ah)) (o:Cc) (day:Int) (y:(List Aa)×Int) (x36_1:Int) (out_1:List Aa):Option (Lp (Int×List Aa) ((List Aa)×Int)):=
 cond (decide (x36_1 < (y.1.length:Int)))
  ((Bm y.1 x36_1).bind fun e=>
  (By p l o server e.Outcome day).bind fun y_2=>
  cond (!decide (y_2.2=0))
   (up (some (([]:(List Aa)),y_2.2)))
   (cond (y_2.1)
    ((Gy 192 out_1 ([e]:List Aa)).bind fun l_2=>
    C1.j2 x36_1 l_2)
    (C1.j2 x36_1 out_1)))
  (up (
   some (out_1,0)))
def C1 (client:Ac) (server:Ac) (p:Bk) (l:(List Ah)) (o:Cc) (day:Int) (weak:Int):Option ((List Aa)×Int):=
 (Av client server day weak).bind fun y=>
 cond (!decide (y.2=0))
  (some (([]:(List Aa)),y.2))
  (Bz (fun q'=>C1.l1 server p l o day y q'.1 q'.2) (0,([]:List Aa)))
def A8.j4 (i_2:Int) (bad_4:Bool) (l_4:List Int):Option (Lp (Bool×Int×List Int) (Bool)):=
 some (.next (bad_4,W (i_2 + 1),l_4))
def A8.j3 (i_2:Int) (l_2:List Int) (e:Int) (y_10:Bool×Int) (bad_3:Bool):Option (Lp (Bool×Int×List Int) (Bool)):=
 cond (!y_10.1)
  ((Gy 8 l_2 ([e]:List Int)).bind fun l_3=>
  A8.j4 i_2 bad_3 l_3)
  (A8.j4 i_2 bad_3 l_2)
def A8.l2 (y_4:Ac×Ac×Ad) (y_5:Bk×Ad) (y_6:Cc×Ad) (y_7:Int×Ad) (y_8:(List Aa)×Int) (y_9:Ac) (bad_2:Bool) (i_2:Int) (l_2:List Int):Option (Lp (Bool×Int×List Int) (Bool)):=
 cond (decide (i_2 < (y_4.2.1.Suites.length:Int)))
  ((Bm y_4.2.1.Suites i_2).bind fun e=>
  (By y_5.1 ([]:(List Ah)) y_6.1 y_4.2.1 (Ap.mk 3 e) 15).bind fun y_10=>
  cond (decide (y_10.2=4))
   (A8.j4 i_2 bad_2 l_2)
   (cond (!decide (y_10.2=0))
    (up (some false))
    (cond (bad_2)
     (A8.j3 i_2 l_2 e y_10 true)
     (cond (y_10.1)
      ((Dv y_4.1.Suites e).bind fun y_11=>
      A8.j3 i_2 l_2 e y_10 y_11)
      (A8.j3 i_2 l_2 e y_10 false)))))
  (up (
   (C1 y_4.1 (Ac.mk y_9.Name y_9.Least y_9.Most l_2 y_9.OwnOrder y_9.Identities y_9.Anchors y_9.Hashes y_9.Fallback) y_5.1 ([]:(List Ah)) y_6.1 15 y_7.1).bind fun y_12=>
   cond (decide (y_8.2=0))
    (cond (decide (y_12.2=0))
     (cond (bad_2)
      (cond (decide ((y_12.1.length:Int)=0))
       ((Fp).bind fun y_13=>
       some y_13)
       (some false))
      (cond (decide ((y_8.1.length:Int)=0))
       (cond (decide ((y_12.1.length:Int)=0))
        ((Fp).bind fun y_14=>
        some y_14)
        (some false))
       (some false)))
     (some false))
    (some false)))
def A8 (l:(List Int)):Option (Bool):=
 (G4 l).bind fun y=>
 cond (!y)
  ((Fp).bind fun y_2=>
  some y_2)
  ((K8 l).bind fun y_3=>
  (B8 y_3).bind fun y_4=>
  (Bu y_4.2.2).bind fun y_5=>
  (Lx y_5.2).bind fun y_6=>
  (Bs y_6.2 ([0,65,100,300]:List Int)).bind fun y_7=>
  (C1 y_4.1 y_4.2.1 y_5.1 ([]:(List Ah)) y_6.1 15 y_7.1).bind fun y_8=>
  (Gl y_4.2.1).bind fun y_9=>
  Bz (fun q'=>A8.l2 y_4 y_5 y_6 y_7 y_8 y_9 q'.1 q'.2.1 q'.2.2) (false,0,([]:List Int)))
def Ce.j3 (i_2:Int) (x97_3:Bool):Option (Lp (Int) (Int)):=
 cond (x97_3)
  (up (some 26))
  (some (.next (W (i_2 + 1))))
def Ce.l2 (x':Ah) (i_2:Int):Option (Lp (Int) (Int)):=
 cond (decide (i_2 < (x'.Seals.length:Int)))
  ((Bm x'.Seals i_2).bind fun e=>
  cond (decide (e.Key < 0))
   (Ce.j3 i_2 true)
   (cond (decide (2147483648 < e.Key))
    (Ce.j3 i_2 true)
    (cond (decide (e.Sum < 0))
     (Ce.j3 i_2 true)
     (cond (decide (4294967296<=e.Sum))
      (Ce.j3 i_2 true)
      (cond (decide (0 < i_2))
       ((Bm x'.Seals (W (i_2 - 1))).bind fun e_2=>
       Ce.j3 i_2 (decide (e.Key<=e_2.Key)))
       (Ce.j3 i_2 false))))))
  (up (
   some 0))
def Ce.j1 (x':Ah) (x51_1:Bool):Option (Int):=
 cond (x51_1)
  (some 26)
  (Bz (fun q'=>Ce.l2 x' q') 0)
def Ce (x':Ah):Option (Int):=
 (It x'.Use).bind fun y=>
 cond (!y)
  (Ce.j1 x' true)
  (cond (decide (x'.Purpose < 1))
   (Ce.j1 x' true)
   (cond (decide (4 < x'.Purpose))
    (Ce.j1 x' true)
    ((Db x'.Endpoint).bind fun y_2=>
    cond (!y_2)
     (Ce.j1 x' true)
     (cond (decide (x'.Days.From < 0))
      (Ce.j1 x' true)
      (cond (decide (x'.Days.To<=x'.Days.From))
       (Ce.j1 x' true)
       (cond (decide (40001 < x'.Days.To))
        (Ce.j1 x' true)
        (Ce.j1 x' (decide (8 < (x'.Seals.length:Int))))))))))
def Lz (x':Ah):Option ((List UInt8)×Int):=
 (Ce x').bind fun y=>
 cond (!decide (y=0))
  (some (([]:(List UInt8)),y))
  ((Cr x'.Use.Alg).bind fun y_2=>
  (Cr x'.Use.Bits).bind fun y_3=>
  (Cr x'.Purpose).bind fun y_4=>
  (Ir x'.Endpoint).bind fun y_5=>
  (Cr x'.Days.From).bind fun y_6=>
  (Cr x'.Days.To).bind fun y_7=>
  (H2 ([y_2,y_3,y_4,y_5,y_6,y_7]:List Ab)).bind fun y_8=>
  (H4 y_8).bind fun y_9=>
  some (y_9.1,y_9.2))
def B4.j5 (x':Ah) (key:Int) (y_2:Int) (k_2:Int) (rest_5:List Be):Option (Ah×Int):=
 (Zz x'.Seals 0 k_2).bind fun l_3=>
 (Gy 32 ([]:List Be) l_3).bind fun l_4=>
 (Gy 32 l_4 ([(Be.mk key y_2)]:List Be)).bind fun l_5=>
 (Gy 32 l_5 rest_5).bind fun l_6=>
 cond (decide (8 < (l_6.length:Int)))
  (some ((Ah.mk (Ao.mk 0 0) 0 (⟨#[]⟩:ByteArray) (H6.mk 0 0) ([]:(List Be))),3))
  (some ((Ah.mk x'.Use x'.Purpose x'.Endpoint x'.Days l_6),0))
def B4.j4 (x':Ah) (key:Int) (y_2:Int) (k_2:Int) (l:List Be) (x63_4:Bool):Option (Ah×Int):=
 cond (x63_4)
  ((Zz l 1 (l.length:Int)).bind fun l_2=>
  B4.j5 x' key y_2 k_2 l_2)
  (B4.j5 x' key y_2 k_2 l)
def B4.j3 (x':Ah) (key:Int) (y_2:Int) (k_2:Int) (x46_3:Bool):Option (Lp (Int) (Ah×Int)):=
 cond (x46_3)
  (some (.next (W (k_2 + 1))))
  (up (
   (Zz x'.Seals k_2 (x'.Seals.length:Int)).bind fun l=>
   cond (decide (0 < (l.length:Int)))
    ((Bm l 0).bind fun e_2=>
    B4.j4 x' key y_2 k_2 l (decide (e_2.Key=key)))
    (B4.j4 x' key y_2 k_2 l false)))
def B4.l2 (x':Ah) (key:Int) (y_2:Int) (k_2:Int):Option (Lp (Int) (Ah×Int)):=
 cond (decide (k_2 < (x'.Seals.length:Int)))
  ((Bm x'.Seals k_2).bind fun e=>
  B4.j3 x' key y_2 k_2 (decide (e.Key < key)))
  (B4.j3 x' key y_2 k_2 false)
def B4.j1 (x':Ah) (key:Int) (y:(List UInt8)×Int) (x26_1:Bool):Option (Ah×Int):=
 cond (x26_1)
  (some ((Ah.mk (Ao.mk 0 0) 0 (⟨#[]⟩:ByteArray) (H6.mk 0 0) ([]:(List Be))),2))
  ((F7 y.1).bind fun y_2=>
  Bz (fun q'=>B4.l2 x' key y_2 q') 0)
def B4 (x':Ah) (key:Int):Option (Ah×Int):=
 (Lz x').bind fun y=>
 cond (!decide (y.2=0))
  (some ((Ah.mk (Ao.mk 0 0) 0 (⟨#[]⟩:ByteArray) (H6.mk 0 0) ([]:(List Be))),y.2))
  (cond (decide (key < 0))
   (B4.j1 x' key y true)
   (B4.j1 x' key y (decide (2147483648 < key))))
def Cp.j4 (x_1:Int) (x_1_2:Int) (x_1_3:Int) (x_1_4:ByteArray) (x_1_5:Int) (x_1_6:Int) (b_4:List Int) (b_4_2:Int) (l_4:List Be):Option (Ah×Ad):=
 some ((Ah.mk (Ao.mk x_1 x_1_2) x_1_3 x_1_4 (H6.mk x_1_5 x_1_6) l_4),(Ad.mk b_4 b_4_2))
def Cp.j3 (x_1:Int) (x_1_2:Int) (x_1_3:Int) (x_1_4:ByteArray) (x_1_5:Int) (x_1_6:Int) (l_1:List Be) (x49_3:Bool) (b_3:List Int) (b_3_2:Int):Option (Ah×Ad):=
 cond (x49_3)
  ((Bm l_1 0).bind fun e=>
  Cp.j4 x_1 x_1_2 x_1_3 x_1_4 x_1_5 x_1_6 b_3 b_3_2 (Ex l_1 ((0:Int).toNat) (Be.mk e.Key 7)))
  (Cp.j4 x_1 x_1_2 x_1_3 x_1_4 x_1_5 x_1_6 b_3 b_3_2 l_1)
def Cp.l1 (y_4:Int×Ad) (i_1:Int) (x_1:Int) (x_1_2:Int) (x_1_3:Int) (x_1_4:ByteArray) (x_1_5:Int) (x_1_6:Int) (l_1:List Be):Option (Lp (Int×Int×Int×Int×ByteArray×Int×Int×List Be) (Ah×Ad)):=
 cond (decide (0 < i_1))
  ((B4 (Ah.mk (Ao.mk x_1 x_1_2) x_1_3 x_1_4 (H6.mk x_1_5 x_1_6) l_1) (W (50 + i_1))).bind fun y_5=>
  some (.next (W (i_1 - 1),y_5.1.Use.Alg,y_5.1.Use.Bits,y_5.1.Purpose,y_5.1.Endpoint,y_5.1.Days.From,y_5.1.Days.To,y_5.1.Seals)))
  (up (
   cond (decide (0 < (l_1.length:Int)))
    ((E7 y_4.2 6).bind fun y_6=>
    Cp.j3 x_1 x_1_2 x_1_3 x_1_4 x_1_5 x_1_6 l_1 y_6.1 y_6.2.L y_6.2.At)
    (Cp.j3 x_1 x_1_2 x_1_3 x_1_4 x_1_5 x_1_6 l_1 false y_4.2.L y_4.2.At)))
def Cp (d:Ad) (u:Ao) (endpoint:ByteArray):Option (Ah×Ad):=
 (Bs d ([1,1,1,2,3]:List Int)).bind fun y=>
 (Bs y.2 ([0,10,30]:List Int)).bind fun y_2=>
 (Bs y_2.2 ([40,5,200]:List Int)).bind fun y_3=>
 (Cg y_3.2 4).bind fun y_4=>
 Bz (fun q'=>Cp.l1 y_4 q'.1 q'.2.1 q'.2.2.1 q'.2.2.2.1 q'.2.2.2.2.1 q'.2.2.2.2.2.1 q'.2.2.2.2.2.2.1 q'.2.2.2.2.2.2.2) (y_4.1,u.Alg,u.Bits,y.1,endpoint,y_2.1,W (y_2.1 + y_3.1),([]:List Be))
def Ko (d:Ad) (l:(List ByteArray)):Option (ByteArray×Ad):=
 (Cg d (l.length:Int)).bind fun y=>
 (Bm l y.1).bind fun e=>
 some (e,y.2)
def F9.j1 (e:Ac) (b_1:List Int) (b_1_2:Int) (e_1:ByteArray) (e_1_2:Int) (e_1_3:Int) (e_1_4:List Int) (e_1_5:List Al) (e_1_6:List Int) (e_1_7:List Int):Option (Ac×Ad):=
 some ((Ac.mk e_1 e_1_2 e_1_3 e_1_4 e.OwnOrder e_1_5 e_1_6 e_1_7 e.Fallback),(Ad.mk b_1 b_1_2))
def F9 (d:Ad) (e:Ac):Option (Ac×Ad):=
 (Cg d 8).bind fun y=>
 cond (decide (y.1=0))
  ((Ko y.2 ([(⟨#[]⟩:ByteArray),(⟨#[97,32,98]⟩:ByteArray),(⟨#[120]⟩:ByteArray)]:List ByteArray)).bind fun y_2=>
  F9.j1 e y_2.2.L y_2.2.At y_2.1 e.Least e.Most e.Suites e.Identities e.Anchors e.Hashes)
  (cond (decide (y.1=1))
   ((Bs y.2 ([0,5,W (e.Most + 1)]:List Int)).bind fun y_3=>
   F9.j1 e y_3.2.L y_3.2.At e.Name y_3.1 e.Most e.Suites e.Identities e.Anchors e.Hashes)
   (cond (decide (y.1=2))
    ((Bs y.2 ([5,0]:List Int)).bind fun y_4=>
    F9.j1 e y_4.2.L y_4.2.At e.Name e.Least y_4.1 e.Suites e.Identities e.Anchors e.Hashes)
    (cond (decide (y.1=3))
     ((Gy 8 ([]:List Int) e.Suites).bind fun l=>
     (Bs y.2 ([17,0,3,3]:List Int)).bind fun y_5=>
     (Gy 8 l ([y_5.1]:List Int)).bind fun l_2=>
     F9.j1 e y_5.2.L y_5.2.At e.Name e.Least e.Most l_2 e.Identities e.Anchors e.Hashes)
     (cond (decide (y.1=4))
      (F9.j1 e y.2.L y.2.At e.Name e.Least e.Most e.Suites e.Identities ([2,1]:List Int) e.Hashes)
      (cond (decide (y.1=5))
       ((Bs y.2 ([5,3,0]:List Int)).bind fun y_6=>
       F9.j1 e y_6.2.L y_6.2.At e.Name e.Least e.Most e.Suites e.Identities e.Anchors ([y_6.1]:List Int))
       (cond (decide (y.1=6))
        ((Gy 192 ([]:List Al) e.Identities).bind fun l_3=>
        (Gy 192 l_3 ([(Al.mk (Ao.mk 1 0) 0 ([]:(List Ae)))]:List Al)).bind fun l_4=>
        F9.j1 e y.2.L y.2.At e.Name e.Least e.Most e.Suites l_4 e.Anchors e.Hashes)
        ((Gy 192 ([]:List Al) e.Identities).bind fun l_5=>
        (Hs y.2 (⟨#[97]⟩:ByteArray) (Ao.mk 5 2048) 8).bind fun y_7=>
        (Gy 192 l_5 ([(Al.mk (Ao.mk 5 2048) 7 y_7.1)]:List Al)).bind fun l_6=>
        F9.j1 e y_7.2.L y_7.2.At e.Name e.Least e.Most e.Suites l_6 e.Anchors e.Hashes)))))))
def C4.j3 (l:(List Aa)) (w:Aa) (k_1:Int) (x61_3:Bool):Option ((List Aa)):=
 cond (x61_3)
  (some l)
  ((Zz l 0 k_1).bind fun l_2=>
  (Gy 192 ([]:List Aa) l_2).bind fun l_3=>
  (Gy 192 l_3 ([w]:List Aa)).bind fun l_4=>
  (Zz l k_1 (l.length:Int)).bind fun l_5=>
  (Gy 192 l_4 l_5).bind fun l_6=>
  some l_6)
def C4.j2 (l:(List Aa)) (w:Aa) (k_1:Int) (x45_2:Bool):Option (Lp (Int) ((List Aa))):=
 cond (x45_2)
  (some (.next (W (k_1 + 1))))
  (up (
   cond (decide (k_1 < (l.length:Int)))
    ((Bm l k_1).bind fun e_2=>
    C4.j3 l w k_1 (decide (e_2.Outcome=w.Outcome)))
    (C4.j3 l w k_1 false)))
def C4.l1 (l:(List Aa)) (w:Aa) (k_1:Int):Option (Lp (Int) ((List Aa))):=
 cond (decide (k_1 < (l.length:Int)))
  ((Bm l k_1).bind fun e=>
  cond (decide (e.Outcome.Version < w.Outcome.Version))
   (C4.j2 l w k_1 true)
   (cond (decide (e.Outcome.Version=w.Outcome.Version))
    (C4.j2 l w k_1 (decide (e.Outcome.Suite < w.Outcome.Suite)))
    (C4.j2 l w k_1 false)))
  (C4.j2 l w k_1 false)
def C4 (l:(List Aa)) (w:Aa):Option ((List Aa)):=
 Bz (fun q'=>C4.l1 l w q') 0
def A5.j9 (i_8:Int) (out_9:List Aa):Option (Lp (List Aa×Int) (Lp (List Aa×Int) ((List Aa)×Int))):=
 some (.next (out_9,W (i_8 + 1)))
def A5.l8 (client:Ac) (server:Ac) (day:Int) (weak:Int) (v_7:Int) (out_8:List Aa) (i_8:Int):Option (Lp (List Aa×Int) (Lp (List Aa×Int) ((List Aa)×Int))):=
 cond (decide (i_8 < (client.Suites.length:Int)))
  ((Bm client.Suites i_8).bind fun e=>
  (Dn e).bind fun y_5=>
  (A1 y_5.1.Mac).bind fun y_6=>
  cond (decide (weak<=y_6))
   (A5.j9 i_8 out_8)
   ((B1 client server day v_7 ([y_5.1.Code]:List Int)).bind fun y_7=>
   cond (decide (y_7.2=0))
    ((C4 out_8 (Aa.mk y_7.1 v_7 ([y_5.1.Code]:List Int))).bind fun y_8=>
    A5.j9 i_8 y_8)
    (A5.j9 i_8 out_8)))
  (up (
   some (.next (out_8,W (v_7 - 1)))))
def A5.l7 (client:Ac) (server:Ac) (day:Int) (weak:Int) (out_7:List Aa) (v_7:Int):Option (Lp (List Aa×Int) ((List Aa)×Int)):=
 cond (decide (client.Least<=v_7))
  (Bz (fun q'=>A5.l8 client server day weak v_7 q'.1 q'.2) (out_7,0))
  (up (
   some (out_7,0)))
def A5.j6 (client:Ac) (server:Ac) (day:Int) (weak:Int) (out_6:List Aa):Option ((List Aa)×Int):=
 Bz (fun q'=>A5.l7 client server day weak q'.1 q'.2) (out_6,client.Most)
def A5.j5 (v_3:Int) (out_5:List Aa):Option (Lp (List Aa×Int) ((List Aa)×Int)):=
 some (.next (out_5,W (v_3 - 1)))
def A5.j4 (client:Ac) (server:Ac) (day:Int) (weak:Int) (out_3:List Aa) (v_3:Int) (x58_4:Bool):Option (Lp (List Aa×Int) ((List Aa)×Int)):=
 cond (x58_4)
  (up (
   A5.j6 client server day weak out_3))
  ((B1 client server day v_3 client.Suites).bind fun y_3=>
  cond (decide (y_3.2=0))
   ((Gy 8 ([]:List Int) client.Suites).bind fun l=>
   (C4 out_3 (Aa.mk y_3.1 v_3 l)).bind fun y_4=>
   A5.j5 v_3 y_4)
   (A5.j5 v_3 out_3))
def A5.l3 (client:Ac) (server:Ac) (day:Int) (weak:Int) (out_3:List Aa) (v_3:Int):Option (Lp (List Aa×Int) ((List Aa)×Int)):=
 cond (decide (client.Least<=v_3))
  (cond (decide (v_3 < client.Most))
   (A5.j4 client server day weak out_3 v_3 (!client.Fallback))
   (A5.j4 client server day weak out_3 v_3 false))
  (up (
   A5.j6 client server day weak out_3))
def A5.j2 (client:Ac) (server:Ac) (day:Int) (weak:Int) (x41_2:Bool):Option ((List Aa)×Int):=
 cond (x41_2)
  (some (([]:(List Aa)),2))
  (Bz (fun q'=>A5.l3 client server day weak q'.1 q'.2) (([]:List Aa),client.Most))
def A5.j1 (client:Ac) (server:Ac) (day:Int) (weak:Int) (x27_1:Bool):Option ((List Aa)×Int):=
 cond (x27_1)
  (some (([]:(List Aa)),19))
  (cond (decide (day < 0))
   (A5.j2 client server day weak true)
   (cond (decide (40000 < day))
    (A5.j2 client server day weak true)
    (cond (decide (weak < 0))
     (A5.j2 client server day weak true)
     (A5.j2 client server day weak (decide (512 < weak))))))
def A5 (client:Ac) (server:Ac) (day:Int) (weak:Int):Option ((List Aa)×Int):=
 (A6 client).bind fun y=>
 cond (!decide (y=0))
  (A5.j1 client server day weak true)
  ((A6 server).bind fun y_2=>
  A5.j1 client server day weak (!decide (y_2=0)))
def G8.j1 (y_2:Az×Int) (e:Al) (s_1:Int):Option ((List Ao)×Int):=
 some (([(Ao.mk y_2.1.Exchange.Alg s_1),e.Key,y_2.1.Cipher,y_2.1.Mac]:List Ao),0)
def G8 (server:Ac) (o:Ap):Option ((List Ao)×Int):=
 (A6 server).bind fun y=>
 cond (!decide (y=0))
  (some (([]:(List Ao)),19))
  ((Dn o.Suite).bind fun y_2=>
  cond (!decide (y_2.2=0))
   (some (([]:(List Ao)),y_2.2))
   ((C6 server o.Suite).bind fun y_3=>
   cond (!y_3.2)
    (some (([]:(List Ao)),4))
    ((Bm server.Identities y_3.1).bind fun e=>
    cond (decide (y_2.1.Exchange.Bits=0))
     (G8.j1 y_2 e e.Key.Bits)
     (G8.j1 y_2 e y_2.1.Exchange.Bits))))
def Pf (r':Aw):Option (Bool):=
 cond (decide (0<=r'.Alg))
  (cond (decide (r'.Alg<=22))
   (cond (decide (0<=r'.Below))
    (cond (decide (r'.Below<=16384))
     (cond (decide (0<=r'.Purpose))
      (cond (decide (r'.Purpose<=4))
       (cond (decide (0<=r'.From))
        (cond (decide (r'.From < r'.To))
         (some (decide (r'.To<=40001)))
         (some false))
        (some false))
       (some false))
      (some false))
     (some false))
    (some false))
   (some false))
  (some false)
def Qg (k:Bl):Option (Bool):=
 cond (decide (1<=k.Purpose))
  (cond (decide (k.Purpose<=4))
   (cond (decide (0<=k.Days))
    (some (decide (k.Days<=40000)))
    (some false))
   (some false))
  (some false)
def Du.l3 (p:Bk) (i_3:Int):Option (Lp (Int) (Int)):=
 cond (decide (i_3 < (p.Keeps.length:Int)))
  ((Bm p.Keeps i_3).bind fun e_2=>
  (Qg e_2).bind fun y_2=>
  cond (!y_2)
   (up (some 25))
   (some (.next (W (i_3 + 1)))))
  (up (
   some 0))
def Du.l2 (p:Bk) (i_2:Int):Option (Lp (Int) (Int)):=
 cond (decide (i_2 < (p.Rules.length:Int)))
  ((Bm p.Rules i_2).bind fun e=>
  (Pf e).bind fun y=>
  cond (!y)
   (up (some 25))
   (some (.next (W (i_2 + 1)))))
  (up (
   Bz (fun q'=>Du.l3 p q') 0))
def Du.j1 (p:Bk) (x14_1:Bool):Option (Int):=
 cond (x14_1)
  (some 25)
  (Bz (fun q'=>Du.l2 p q') 0)
def Du (p:Bk):Option (Int):=
 cond (decide (60 < (p.Rules.length:Int)))
  (Du.j1 p true)
  (Du.j1 p (decide (60 < (p.Keeps.length:Int))))
def Hk.j1 (x21_1:Bool):Option (Int):=
 cond (x21_1)
  (some 2)
  (some 0)
def Hk (p:Bk) (u:Ao) (purpose:Int):Option (Int):=
 (Du p).bind fun y=>
 cond (!decide (y=0))
  (some y)
  ((It u).bind fun y_2=>
  cond (!y_2)
   (some 7)
   (cond (decide (purpose < 1))
    (Hk.j1 true)
    (Hk.j1 (decide (4 < purpose)))))
def Lu (r':Aw) (u:Ao) (purpose:Int) (day:Int):Option (Bool):=
 cond (decide (r'.Alg=0))
  (cond (decide (r'.Below=0))
   (cond (decide (r'.Purpose=0))
    (cond (decide (r'.From<=day))
     (some (decide (day < r'.To)))
     (some false))
    (cond (decide (r'.Purpose=purpose))
     (cond (decide (r'.From<=day))
      (some (decide (day < r'.To)))
      (some false))
     (some false)))
   (cond (decide (0 < u.Bits))
    (cond (decide (u.Bits < r'.Below))
     (cond (decide (r'.Purpose=0))
      (cond (decide (r'.From<=day))
       (some (decide (day < r'.To)))
       (some false))
      (cond (decide (r'.Purpose=purpose))
       (cond (decide (r'.From<=day))
        (some (decide (day < r'.To)))
        (some false))
       (some false)))
     (some false))
    (some false)))
  (cond (decide (r'.Alg=u.Alg))
   (cond (decide (r'.Below=0))
    (cond (decide (r'.Purpose=0))
     (cond (decide (r'.From<=day))
      (some (decide (day < r'.To)))
      (some false))
     (cond (decide (r'.Purpose=purpose))
      (cond (decide (r'.From<=day))
       (some (decide (day < r'.To)))
       (some false))
      (some false)))
    (cond (decide (0 < u.Bits))
     (cond (decide (u.Bits < r'.Below))
      (cond (decide (r'.Purpose=0))
       (cond (decide (r'.From<=day))
        (some (decide (day < r'.To)))
        (some false))
       (cond (decide (r'.Purpose=purpose))
        (cond (decide (r'.From<=day))
         (some (decide (day < r'.To)))
         (some false))
        (some false)))
      (some false))
     (some false)))
   (some false))
def Fv.l1 (p:Bk) (u:Ao) (purpose:Int) (day:Int) (i_1:Int):Option (Lp (Int) (Int)):=
 cond (decide (0<=i_1))
  ((Bm p.Rules i_1).bind fun e=>
  (Lu e u purpose day).bind fun y=>
  cond (y)
   (up (some i_1))
   (some (.next (W (i_1 - 1)))))
  (up (
   some (-1)))
def Fv (p:Bk) (u:Ao) (purpose:Int) (day:Int):Option (Int):=
 Bz (fun q'=>Fv.l1 p u purpose day q') (W ((p.Rules.length:Int) - 1))
def Ll (p:Bk) (u:Ao) (purpose:Int) (day:Int):Option (Bool):=
 (Fv p u purpose day).bind fun y=>
 cond (decide (y < 0))
  (some true)
  ((Bm p.Rules y).bind fun e=>
  some e.Allow)
def Ge.j1 (p:Bk) (u:Ao) (purpose:Int) (day:Int) (x24_1:Bool):Option (Bool×Int×Int):=
 cond (x24_1)
  (some (false,0,2))
  ((Ll p u purpose day).bind fun y_2=>
  (Fv p u purpose day).bind fun y_3=>
  some (y_2,y_3,0))
def Ge (p:Bk) (u:Ao) (purpose:Int) (day:Int):Option (Bool×Int×Int):=
 (Hk p u purpose).bind fun y=>
 cond (!decide (y=0))
  (some (false,0,y))
  (cond (decide (day < 0))
   (Ge.j1 p u purpose day true)
   (Ge.j1 p u purpose day (decide (40000 < day))))
def Iv.l1 (l:(List Ah)) (i_1:Int):Option (Lp (Int) (Int)):=
 cond (decide (i_1 < (l.length:Int)))
  ((Bm l i_1).bind fun e=>
  (Ce e).bind fun y=>
  cond (!decide (y=0))
   (up (some y))
   (some (.next (W (i_1 + 1)))))
  (up (
   some 0))
def Iv (l:(List Ah)):Option (Int):=
 Bz (fun q'=>Iv.l1 l q') 0
def Cq.j4 (i_2:Int) (n_4:Int):Option (Lp (Int×Int) (Bool)):=
 some (.next (n_4,W (i_2 + 1)))
def Cq.j3 (n_2:Int) (i_2:Int) (x47_3:Bool):Option (Lp (Int×Int) (Bool)):=
 cond (x47_3)
  (Cq.j4 i_2 (W (n_2 + 1)))
  (Cq.j4 i_2 n_2)
def Cq.l2 (x':Ah) (o:Cc) (y:(List UInt8)×Int) (n_2:Int) (i_2:Int):Option (Lp (Int×Int) (Bool)):=
 cond (decide (i_2 < (x'.Seals.length:Int)))
  ((Bm x'.Seals i_2).bind fun e=>
  (F7 y.1).bind fun y_2=>
  cond (decide (e.Sum=y_2))
   ((Dv o.Keys e.Key).bind fun y_3=>
   Cq.j3 n_2 i_2 y_3)
   (Cq.j3 n_2 i_2 false))
  (up (
   some (decide (o.Need<=n_2))))
def Cq.j1 (x':Ah) (o:Cc) (y:(List UInt8)×Int) (x20_1:Bool):Option (Bool):=
 cond (x20_1)
  (some false)
  (Bz (fun q'=>Cq.l2 x' o y q'.1 q'.2) (0,0))
def Cq (x':Ah) (o:Cc):Option (Bool):=
 (Lz x').bind fun y=>
 cond (!decide (y.2=0))
  (Cq.j1 x' o y true)
  (Cq.j1 x' o y (decide (o.Need < 1)))
def Om (x':Ah) (u:Ao) (purpose:Int) (endpoint:ByteArray) (day:Int):Option (Bool):=
 cond (decide (x'.Use=u))
  (cond (decide (x'.Purpose=purpose))
   (cond (decide (x'.Endpoint=endpoint))
    (cond (decide (x'.Days.From<=day))
     (some (decide (day < x'.Days.To)))
     (some false))
    (some false))
   (some false))
  (some false)
def Eo.j2 (i_1:Int) (x36_2:Bool):Option (Lp (Int) (Bool)):=
 cond (x36_2)
  (up (some true))
  (some (.next (W (i_1 + 1))))
def Eo.l1 (l:(List Ah)) (o:Cc) (u:Ao) (purpose:Int) (endpoint:ByteArray) (day:Int) (i_1:Int):Option (Lp (Int) (Bool)):=
 cond (decide (i_1 < (l.length:Int)))
  ((Bm l i_1).bind fun e=>
  (Cq e o).bind fun y=>
  cond (y)
   ((Om e u purpose endpoint day).bind fun y_2=>
   Eo.j2 i_1 y_2)
   (Eo.j2 i_1 false))
  (up (
   some false))
def Eo (l:(List Ah)) (o:Cc) (u:Ao) (purpose:Int) (endpoint:ByteArray) (day:Int):Option (Bool):=
 Bz (fun q'=>Eo.l1 l o u purpose endpoint day q') 0
def Lq (p:Bk) (l:(List Ah)) (o:Cc) (u:Ao) (purpose:Int) (endpoint:ByteArray) (day:Int):Option (Bool×Int):=
 (Ge p u purpose day).bind fun y=>
 cond (!decide (y.2.2=0))
  (some (false,y.2.2))
  ((Iv l).bind fun y_2=>
  cond (!decide (y_2=0))
   (some (false,y_2))
   (cond (y.1)
    (some (true,0))
    ((Eo l o u purpose endpoint day).bind fun y_3=>
    some (y_3,0))))
def C8.j2 (i_1:Int) (bad_2:Bool):Option (Lp (Bool×Int) (Bool×Int)):=
 some (.next (bad_2,W (i_1 + 1)))
def C8.l1 (p:Bk) (l:(List Ah)) (o:Cc) (server:Ac) (day:Int) (y:(List Ao)×Int) (bad_1:Bool) (i_1:Int):Option (Lp (Bool×Int) (Bool×Int)):=
 cond (decide (i_1 < (y.1.length:Int)))
  ((Bm y.1 i_1).bind fun e=>
  (Lq p l o e 1 server.Name day).bind fun y_2=>
  cond (!decide (y_2.2=0))
   (up (some (false,y_2.2)))
   (cond (bad_1)
    (C8.j2 i_1 true)
    (C8.j2 i_1 (!y_2.1))))
  (up (
   some (bad_1,0)))
def C8 (p:Bk) (l:(List Ah)) (o:Cc) (server:Ac) (out:Ap) (day:Int):Option (Bool×Int):=
 (G8 server out).bind fun y=>
 cond (!decide (y.2=0))
  (some (false,y.2))
  (Bz (fun q'=>C8.l1 p l o server day y q'.1 q'.2) (false,0))
def E2.j2 (i_1:Int) (out_2:List Aa):Option (Lp (Int×List Aa) ((List Aa)×Int)):=
 some (.next (W (i_1 + 1),out_2))
def E2.l1 (server:Ac) (p:Bk) (l:(List Ah)) (o:Cc) (day:Int) (y:(List Aa)×Int) (i_1:Int) (out_1:List Aa):Option (Lp (Int×List Aa) ((List Aa)×Int)):=
 cond (decide (i_1 < (y.1.length:Int)))
  ((Bm y.1 i_1).bind fun e=>
  (C8 p l o server e.Outcome day).bind fun y_2=>
  cond (!decide (y_2.2=0))
   (up (some (([]:(List Aa)),y_2.2)))
   (cond (y_2.1)
    ((Gy 192 out_1 ([e]:List Aa)).bind fun l_2=>
    E2.j2 i_1 l_2)
    (E2.j2 i_1 out_1)))
  (up (
   some (out_1,0)))
def E2 (client:Ac) (server:Ac) (p:Bk) (l:(List Ah)) (o:Cc) (day:Int) (weak:Int):Option ((List Aa)×Int):=
 (A5 client server day weak).bind fun y=>
 cond (!decide (y.2=0))
  (some (([]:(List Aa)),y.2))
  (Bz (fun q'=>E2.l1 server p l o day y q'.1 q'.2) (0,([]:List Aa)))
def Fs.l1 (o:Ap) (y:(List Aa)×Int) (i_1:Int):Option (Lp (Int) (Bool×Int)):=
 cond (decide (i_1 < (y.1.length:Int)))
  ((Bm y.1 i_1).bind fun e=>
  cond (decide (e.Outcome=o))
   (up (some (true,0)))
   (some (.next (W (i_1 + 1)))))
  (up (
   some (false,0)))
def Fs (client:Ac) (server:Ac) (day:Int) (weak:Int) (o:Ap):Option (Bool×Int):=
 (A5 client server day weak).bind fun y=>
 cond (!decide (y.2=0))
  (some (false,y.2))
  (Bz (fun q'=>Fs.l1 o y q') 0)
def Ez.j2 (i_1:Int) (x54_2:Bool):Option (Lp (Int) (Bool)):=
 cond (x54_2)
  (up (some false))
  (some (.next (W (i_1 + 1))))
def Ez.l1 (a:(List Aa)) (b:(List Aa)) (i_1:Int):Option (Lp (Int) (Bool)):=
 cond (decide (i_1 < (a.length:Int)))
  ((Bm a i_1).bind fun e=>
  (Bm b i_1).bind fun e_2=>
  cond (!decide (e.Outcome=e_2.Outcome))
   (Ez.j2 i_1 true)
   (cond (!decide (e.Most=e_2.Most))
    (Ez.j2 i_1 true)
    ((Dj e.Suites e_2.Suites).bind fun y=>
    Ez.j2 i_1 (!y))))
  (up (
   some true))
def Ez (a:(List Aa)) (b:(List Aa)):Option (Bool):=
 cond (!decide ((a.length:Int)=(b.length:Int)))
  (some false)
  (Bz (fun q'=>Ez.l1 a b q') 0)
def B3.j4 (y_5:Bk×Ad) (y_6:Cc×Ad) (day_1:Int) (weak_1:Int) (c_1:Ac) (s_1:Ac) (x_1:List Ah) (l_1:List Aw) (y_15:(List Aa)×Int) (y_16:(List Aa)×Int) (y_17:(List Aa)×Int) (y_18:(List Aa)×Int) (out_4:Ap):Option (Bool):=
 (Gg c_1 s_1 day_1 weak_1 out_4).bind fun y_21=>
 (Fs c_1 s_1 day_1 weak_1 out_4).bind fun y_22=>
 (By (Bk.mk l_1 y_5.1.Keeps) x_1 y_6.1 s_1 out_4 day_1).bind fun y_23=>
 (C8 (Bk.mk l_1 y_5.1.Keeps) x_1 y_6.1 s_1 out_4 day_1).bind fun y_24=>
 cond (decide (y_15.2=y_16.2))
  (cond (decide (y_17.2=y_18.2))
   (cond (decide (y_21.2=y_22.2))
    (cond (decide (y_23.2=y_24.2))
     (cond (decide (y_21.1=y_22.1))
      (cond (decide (y_23.1=y_24.1))
       ((Ez y_15.1 y_16.1).bind fun y_25=>
       cond (y_25)
        ((Ez y_17.1 y_18.1).bind fun y_26=>
        cond (y_26)
         ((Fp).bind fun y_27=>
         some y_27)
         (some false))
        (some false))
       (some false))
      (some false))
     (some false))
    (some false))
   (some false))
  (some false)
def B3.j1 (odd:UInt8) (raw:Ap) (y_5:Bk×Ad) (y_6:Cc×Ad) (day_1:Int) (weak_1:Int) (d_1:Ad) (c_1:Ac) (s_1:Ac) (x_1:List Ah) (l_1:List Aw):Option (Bool):=
 (Av c_1 s_1 day_1 weak_1).bind fun y_15=>
 (A5 c_1 s_1 day_1 weak_1).bind fun y_16=>
 (C1 c_1 s_1 (Bk.mk l_1 y_5.1.Keeps) x_1 y_6.1 day_1 weak_1).bind fun y_17=>
 (E2 c_1 s_1 (Bk.mk l_1 y_5.1.Keeps) x_1 y_6.1 day_1 weak_1).bind fun y_18=>
 (Cg d_1 4).bind fun y_19=>
 (Cg y_19.2 16).bind fun y_20=>
 (aB7 odd (5:UInt8)).bind fun q_2=>
 cond (decide ((q_2.toNat:Int)=1))
  (B3.j4 y_5 y_6 day_1 weak_1 c_1 s_1 x_1 l_1 y_15 y_16 y_17 y_18 raw)
  (B3.j4 y_5 y_6 day_1 weak_1 c_1 s_1 x_1 l_1 y_15 y_16 y_17 y_18 (Ap.mk (W (1 + y_19.1)) (W (1 + y_20.1))))
def B3 (l:(List Int)) (odd:UInt8) (raw:Ap):Option (Bool):=
 (G4 l).bind fun y=>
 cond (!y)
  ((Fp).bind fun y_2=>
  some y_2)
  ((K8 l).bind fun y_3=>
  (B8 y_3).bind fun y_4=>
  (Bu y_4.2.2).bind fun y_5=>
  (Lx y_5.2).bind fun y_6=>
  (Cp y_6.2 (Ao.mk 14 128) (⟨#[119,101,98]⟩:ByteArray)).bind fun y_7=>
  (Cp y_7.2 (Ao.mk 20 0) (⟨#[119,101,98]⟩:ByteArray)).bind fun y_8=>
  (Bs y_8.2 ([15,5,60]:List Int)).bind fun y_9=>
  (Bs y_9.2 ([0,65,81,100,129,512]:List Int)).bind fun y_10=>
  (aB7 odd (12:UInt8)).bind fun q=>
  cond (decide ((q.toNat:Int)=0))
   ((F9 y_10.2 y_4.1).bind fun y_11=>
   B3.j1 odd raw y_5 y_6 y_9.1 y_10.1 y_11.2 y_11.1 y_4.2.1 ([y_7.1,y_8.1]:List Ah) y_5.1.Rules)
   (cond (decide ((q.toNat:Int)=1))
    ((F9 y_10.2 y_4.2.1).bind fun y_12=>
    B3.j1 odd raw y_5 y_6 y_9.1 y_10.1 y_12.2 y_4.1 y_12.1 ([y_7.1,y_8.1]:List Ah) y_5.1.Rules)
    (cond (decide ((q.toNat:Int)=2))
     ((Bs y_10.2 ([-1,40001]:List Int)).bind fun y_13=>
     B3.j1 odd raw y_5 y_6 y_13.1 y_10.1 y_13.2 y_4.1 y_4.2.1 ([y_7.1,y_8.1]:List Ah) y_5.1.Rules)
     (cond (decide ((q.toNat:Int)=3))
      ((Bs y_10.2 ([-1,513]:List Int)).bind fun y_14=>
      B3.j1 odd raw y_5 y_6 y_9.1 y_14.1 y_14.2 y_4.1 y_4.2.1 ([y_7.1,y_8.1]:List Ah) y_5.1.Rules)
      (cond (decide ((q.toNat:Int)=4))
       ((Gy 288 y_5.1.Rules ([(Aw.mk false 77 0 0 0 0)]:List Aw)).bind fun l_2=>
       B3.j1 odd raw y_5 y_6 y_9.1 y_10.1 y_10.2 y_4.1 y_4.2.1 ([y_7.1,y_8.1]:List Ah) l_2)
       (cond (decide ((q.toNat:Int)=5))
        ((Bm ([y_7.1,y_8.1]:List Ah) 0).bind fun e=>
        B3.j1 odd raw y_5 y_6 y_9.1 y_10.1 y_10.2 y_4.1 y_4.2.1 (Ex ([y_7.1,y_8.1]:List Ah) ((0:Int).toNat) (Ah.mk e.Use 0 e.Endpoint e.Days e.Seals)) y_5.1.Rules)
        (B3.j1 odd raw y_5 y_6 y_9.1 y_10.1 y_10.2 y_4.1 y_4.2.1 ([y_7.1,y_8.1]:List Ah) y_5.1.Rules)))))))
end
end Go.Proofs.YtobamahlipiakaaGreat
