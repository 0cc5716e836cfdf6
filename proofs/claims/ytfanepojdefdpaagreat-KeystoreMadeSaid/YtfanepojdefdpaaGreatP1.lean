import Derived.Test.YtfanepojdefdpaaGreatPU
set_option linter.unusedVariables false
set_option linter.unusedSimpArgs false
namespace Go.Proofs.YtfanepojdefdpaaGreat
noncomputable section
structure Af where
 L:(List Int)
 At:Int
 deriving DecidableEq,Inhabited
structure Ax where
 Alg:Int
 Bits:Int
 deriving DecidableEq,Inhabited
structure C7 where
 Key:Int
 Sum:Int
 deriving DecidableEq,Inhabited
structure Ab where
 Serial:Int
 Issuer:ByteArray
 Subject:ByteArray
 Key:Ax
 KeyId:Int
 Hash:Ax
 From:Int
 To:Int
 Authority:Bool
 Path:Int
 Names:(List ByteArray)
 Seal:C7
 deriving DecidableEq,Inhabited
structure Ac where
 Alias:ByteArray
 Key:Ax
 KeyId:Int
 Secret:Bool
 Chain:(List Ab)
 deriving DecidableEq,Inhabited
structure Bi where
 name:ByteArray
 kind:Int
 way:Int
 sizes:(List Int)
 strengths:(List Int)
 deriving DecidableEq,Inhabited
structure Am where
 name:ByteArray
 kind:Int
 deriving DecidableEq,Inhabited
structure Aa where
 Tag:Int
 Bytes:(List UInt8)
 Nested:Bool
 Elements:(List Aa)
def J2 (l:(List Int)):Option (Bool):=
 some (decide ((l.length:Int)<=400))
def Bs.j2 (x8_1:Int) (x17_2:Bool):Option (Lp (Int) (Bool)):=
 cond (x17_2)
  (up (some false))
  (some (.next (W (x8_1 + 1))))
def Bs.l1 (s:ByteArray) (x8_1:Int):Option (Lp (Int) (Bool)):=
 cond (decide (x8_1 < ((Hs s).length:Int)))
  ((C2 (Hs s) x8_1).bind fun e=>
  cond (decide ((e.toNat:Int)<=32))
   (Bs.j2 x8_1 true)
   (Bs.j2 x8_1 (decide (126 < (e.toNat:Int)))))
  (up (
   cond (decide (1<=(s.size:Int)))
    (some (decide ((s.size:Int)<=32)))
    (some false)))
def Bs (s:ByteArray):Option (Bool):=
 C5 (fun q'=>Bs.l1 s q') 0
def Kx:Option ((List Bi)):=
 some ([(Bi.mk (⟨#[]⟩:ByteArray) 0 0 ([]:(List Int)) ([]:(List Int))),(Bi.mk (⟨#[109,100,53]⟩:ByteArray) 1 0 ([]:(List Int)) ([18]:List Int)),(Bi.mk (⟨#[115,104,97,49]⟩:ByteArray) 1 0 ([]:(List Int)) ([60]:List Int)),(Bi.mk (⟨#[115,104,97,50,53,54]⟩:ByteArray) 1 0 ([]:(List Int)) ([128]:List Int)),(Bi.mk (⟨#[115,104,97,51,56,52]⟩:ByteArray) 1 0 ([]:(List Int)) ([192]:List Int)),(Bi.mk (⟨#[114,115,97]⟩:ByteArray) 2 1 ([]:(List Int)) ([]:(List Int))),(Bi.mk (⟨#[100,115,97]⟩:ByteArray) 2 1 ([]:(List Int)) ([]:(List Int))),(Bi.mk (⟨#[101,99,100,115,97]⟩:ByteArray) 2 2 ([]:(List Int)) ([]:(List Int))),(Bi.mk (⟨#[101,100,50,53,53,49,57]⟩:ByteArray) 2 0 ([]:(List Int)) ([128]:List Int)),(Bi.mk (⟨#[109,108,100,115,97]⟩:ByteArray) 2 3 ([44,65,87]:List Int) ([128,192,256]:List Int)),(Bi.mk (⟨#[114,115,97,107,120]⟩:ByteArray) 3 1 ([]:(List Int)) ([]:(List Int))),(Bi.mk (⟨#[100,104,101]⟩:ByteArray) 3 1 ([]:(List Int)) ([]:(List Int))),(Bi.mk (⟨#[101,99,100,104,101]⟩:ByteArray) 3 2 ([]:(List Int)) ([]:(List Int))),(Bi.mk (⟨#[109,108,107,101,109]⟩:ByteArray) 3 3 ([512,768,1024]:List Int) ([128,192,256]:List Int)),(Bi.mk (⟨#[114,99,52]⟩:ByteArray) 4 3 ([40,128]:List Int) ([40,60]:List Int)),(Bi.mk (⟨#[100,101,115,51]⟩:ByteArray) 4 3 ([112,168]:List Int) ([80,112]:List Int)),(Bi.mk (⟨#[97,101,115,99,98,99]⟩:ByteArray) 4 3 ([128,256]:List Int) ([128,256]:List Int)),(Bi.mk (⟨#[97,101,115,103,99,109]⟩:ByteArray) 4 3 ([128,256]:List Int) ([128,256]:List Int)),(Bi.mk (⟨#[99,104,97,99,104,97]⟩:ByteArray) 4 0 ([]:(List Int)) ([256]:List Int)),(Bi.mk (⟨#[104,109,97,99,109,100,53]⟩:ByteArray) 5 0 ([]:(List Int)) ([64]:List Int)),(Bi.mk (⟨#[104,109,97,99,115,104,97,49]⟩:ByteArray) 5 0 ([]:(List Int)) ([80]:List Int)),(Bi.mk (⟨#[104,109,97,99,115,104,97,50,53,54]⟩:ByteArray) 5 0 ([]:(List Int)) ([128]:List Int)),(Bi.mk (⟨#[97,101,97,100]⟩:ByteArray) 5 0 ([]:(List Int)) ([256]:List Int))]:List Bi)
def Dp.j1 (alg:Int) (x9_1:Bool):Option (Bi×Bool):=
 cond (x9_1)
  (some ((Bi.mk (⟨#[]⟩:ByteArray) 0 0 ([]:(List Int)) ([]:(List Int))),false))
  ((Kx).bind fun y=>
  (C2 (rJ 23 y) alg).bind fun e=>
  some (e,true))
def Dp (alg:Int):Option (Bi×Bool):=
 cond (decide (alg < 1))
  (Dp.j1 alg true)
  (Dp.j1 alg (decide (22 < alg)))
def Ck.l1 (bits:Int) (x11_1:Int):Option (Lp (Int) (Int)):=
 cond (decide (x11_1 < 5))
  ((C2 ([([1024,56]:List Int),([2048,80]:List Int),([3072,112]:List Int),([7680,128]:List Int),([15360,192]:List Int)]:List (List Int)) x11_1).bind fun e=>
  cond (decide (bits < (e[0]!)))
   (up (some (e[1]!)))
   (some (.next (W (x11_1 + 1)))))
  (up (
   some 256))
def Ck (bits:Int):Option (Int):=
 C5 (fun q'=>Ck.l1 bits q') 0
def Bq.l1 (s:(List Int)) (v:Int) (x8_1:Int):Option (Lp (Int) (Int)):=
 cond (decide (x8_1 < (s.length:Int)))
  ((C2 s x8_1).bind fun e=>
  cond (decide (v=e))
   (up (some x8_1))
   (some (.next (W (x8_1 + 1)))))
  (up (
   some (-1)))
def Bq (s:(List Int)) (v:Int):Option (Int):=
 C5 (fun q'=>Bq.l1 s v q') 0
def Dv (s:(List Int)) (v:Int):Option (Bool):=
 (Bq s v).bind fun y=>
 some (decide (0<=y))
def Av.j1 (u:Ax) (x34_1:Bool):Option (Int):=
 cond (x34_1)
  ((Ck u.Bits).bind fun y_2=>
  some y_2)
  (some 0)
def Av (u:Ax):Option (Int):=
 (Dp u.Alg).bind fun y=>
 cond (!y.2)
  (some 0)
  (cond (decide (y.1.way=0))
   (cond (decide (u.Bits=0))
    ((C2 y.1.strengths 0).bind fun e=>
    some e)
    (some 0))
   (cond (decide (y.1.way=1))
    (cond (decide (512<=u.Bits))
     (Av.j1 u (decide (u.Bits<=16384)))
     (Av.j1 u false))
    (cond (decide (y.1.way=2))
     ((Dv ([160,224,256,384,521]:List Int) u.Bits).bind fun y_3=>
     cond (y_3)
      ((Qq u.Bits 2).bind fun q=>
      some q)
      (some 0))
     (cond (decide (y.1.way=3))
      ((Bq y.1.sizes u.Bits).bind fun y_4=>
      cond (decide (0<=y_4))
       ((C2 y.1.strengths y_4).bind fun e_2=>
       some e_2)
       (some 0))
      (some 0)))))
def F3 (u:Ax):Option (Bool):=
 (Av u).bind fun y=>
 some (decide (0 < y))
def Gq (alg:Int):Option (Int):=
 (Dp alg).bind fun y=>
 some y.1.kind
def Ez (n:Int):Option (Bool):=
 cond (decide (0<=n))
  (some (decide (n<=2147483648)))
  (some false)
def Bg.j2 (x7_1:Int) (x27_2:Bool):Option (Lp (Int) (Bool)):=
 cond (x27_2)
  (up (some false))
  (some (.next (W (x7_1 + 1))))
def Bg.l1 (l:(List ByteArray)) (x7_1:Int):Option (Lp (Int) (Bool)):=
 cond (decide (x7_1 < (l.length:Int)))
  ((C2 l x7_1).bind fun e=>
  (Bs e).bind fun y=>
  cond (!y)
   (Bg.j2 x7_1 true)
   (cond (decide (0 < x7_1))
    ((C2 l (W (x7_1 - 1))).bind fun e_2=>
    Bg.j2 x7_1 (!Ns (Hs e_2) (Hs e)))
    (Bg.j2 x7_1 false)))
  (up (
   some (decide ((l.length:Int)<=8))))
def Bg (l:(List ByteArray)):Option (Bool):=
 C5 (fun q'=>Bg.l1 l q') 0
def Fs (u:Ax) (kind:Int):Option (Bool):=
 (F3 u).bind fun y=>
 cond (y)
  ((Gq u.Alg).bind fun y_2=>
  some (decide (y_2=kind)))
  (some false)
def F9 (n:Int):Option (Bool):=
 cond (decide (0<=n))
  (some (decide (n < 4294967296)))
  (some false)
def Ay.j3 (c:Ab) (x73_3:Bool):Option (Bool):=
 cond (x73_3)
  (some false)
  (cond (decide (0<=c.Path))
   (cond (decide (c.Path<=8))
    (cond (c.Authority)
     (some true)
     (some (decide (c.Path=0))))
    (some false))
   (some false))
def Ay.j2 (c:Ab) (x58_2:Bool):Option (Bool):=
 cond (x58_2)
  (some false)
  (cond (decide (c.From < 0))
   (Ay.j3 c true)
   (cond (decide (c.To < c.From))
    (Ay.j3 c true)
    (Ay.j3 c (decide (40000 < c.To)))))
def Ay.j1 (c:Ab) (x28_1:Bool):Option (Bool):=
 cond (x28_1)
  (some false)
  ((Fs c.Key 2).bind fun y_4=>
  cond (!y_4)
   (Ay.j2 c true)
   ((Ez c.KeyId).bind fun y_5=>
   cond (!y_5)
    (Ay.j2 c true)
    ((Fs c.Hash 1).bind fun y_6=>
    cond (!y_6)
     (Ay.j2 c true)
     ((Ez c.Seal.Key).bind fun y_7=>
     cond (!y_7)
      (Ay.j2 c true)
      ((F9 c.Seal.Sum).bind fun y_8=>
      Ay.j2 c (!y_8))))))
def Ay (c:Ab):Option (Bool):=
 cond (decide (c.Serial < 0))
  (Ay.j1 c true)
  (cond (decide (1099511627776 < c.Serial))
   (Ay.j1 c true)
   ((Bs c.Issuer).bind fun y=>
   cond (!y)
    (Ay.j1 c true)
    ((Bs c.Subject).bind fun y_2=>
    cond (!y_2)
     (Ay.j1 c true)
     ((Bg c.Names).bind fun y_3=>
     Ay.j1 c (!y_3)))))
def Fl (c:Ab):Option (Int):=
 (Ay c).bind fun y=>
 cond (!y)
  (some 9)
  (some 0)
def Bo.l2 (key:Ax) (id:Int) (l:(List Ab)) (x30_2:Int):Option (Lp (Int) (Bool)):=
 cond (decide (x30_2 < (l.length:Int)))
  ((C2 l x30_2).bind fun e=>
  (Fl e).bind fun y_4=>
  cond (!decide (y_4=0))
   (up (some false))
   (some (.next (W (x30_2 + 1)))))
  (up (
   cond (decide ((l.length:Int)=0))
    (some true)
    ((C2 l 0).bind fun e_2=>
    cond (decide (e_2.Key=key))
     (some (decide (e_2.KeyId=id)))
     (some false))))
def Bo.j1 (key:Ax) (id:Int) (l:(List Ab)) (x27_1:Bool):Option (Bool):=
 cond (x27_1)
  (some false)
  (C5 (fun q'=>Bo.l2 key id l q') 0)
def Bo (key:Ax) (id:Int) (l:(List Ab)):Option (Bool):=
 (F3 key).bind fun y=>
 cond (!y)
  (Bo.j1 key id l true)
  ((Gq key.Alg).bind fun y_2=>
  cond (!decide (y_2=2))
   (Bo.j1 key id l true)
   ((Ez id).bind fun y_3=>
   cond (!y_3)
    (Bo.j1 key id l true)
    (Bo.j1 key id l (decide (8 < (l.length:Int))))))
def Bl.j2 (x7_1:Int) (x40_2:Bool):Option (Lp (Int) (Int)):=
 cond (x40_2)
  (up (some 16))
  (some (.next (W (x7_1 + 1))))
def Bl.l1 (l:(List Ac)) (x7_1:Int):Option (Lp (Int) (Int)):=
 cond (decide (x7_1 < (l.length:Int)))
  ((C2 l x7_1).bind fun e=>
  (Bs e.Alias).bind fun y=>
  cond (!y)
   (Bl.j2 x7_1 true)
   (cond (decide (0 < x7_1))
    ((C2 l (W (x7_1 - 1))).bind fun e_2=>
    cond (!Ns (Hs e_2.Alias) (Hs e.Alias))
     (Bl.j2 x7_1 true)
     ((Bo e.Key e.KeyId e.Chain).bind fun y_2=>
     Bl.j2 x7_1 (!y_2)))
    ((Bo e.Key e.KeyId e.Chain).bind fun y_3=>
    Bl.j2 x7_1 (!y_3))))
  (up (
   cond (decide (64 < (l.length:Int)))
    (some 16)
    (some 0)))
def Bl (l:(List Ac)):Option (Int):=
 C5 (fun q'=>Bl.l1 l q') 0
def Fu (x':Ac) (c0:ByteArray):Option (Bool):=
 some (decide (x'.Alias=c0))
def A9.l1 (s:(List Ac)) (f:Ac->Option (Bool)) (x8_1:Int):Option (Lp (Int) (Int)):=
 cond (decide (x8_1 < (s.length:Int)))
  ((C2 s x8_1).bind fun e=>
  (f e).bind fun y=>
  cond (y)
   (up (some x8_1))
   (some (.next (W (x8_1 + 1)))))
  (up (
   some (-1)))
def A9 (s:(List Ac)) (f:Ac->Option (Bool)):Option (Int):=
 C5 (fun q'=>A9.l1 s f q') 0
def Cj.j1 (s:(List ByteArray)) (x4_1:Bool):Option ((List ByteArray)):=
 cond (x4_1)
  (some ([]:(List ByteArray)))
  ((Fk 16 ([]:List ByteArray) s).bind fun l=>
  some l)
def Cj (s:(List ByteArray)):Option ((List ByteArray)):=
 U8 (s)
  (Cj.j1 s true)
  (Cj.j1 s false)
def Cn.l1 (l:(List Ab)) (x8_1:Int) (out_1:List Ab):Option (Lp (Int×List Ab) ((List Ab))):=
 cond (decide (x8_1 < (l.length:Int)))
  ((C2 l x8_1).bind fun e=>
  (Cj e.Names).bind fun y=>
  (Fk 2280 out_1 ([(Ab.mk e.Serial e.Issuer e.Subject e.Key e.KeyId e.Hash e.From e.To e.Authority e.Path y e.Seal)]:List Ab)).bind fun l_2=>
  some (.next (W (x8_1 + 1),l_2)))
  (up (
   some out_1))
def Cn (l:(List Ab)):Option ((List Ab)):=
 C5 (fun q'=>Cn.l1 l q'.1 q'.2) (0,([]:List Ab))
def Gh (x':Ac):Option (Ac):=
 (Cn x'.Chain).bind fun y=>
 some (Ac.mk x'.Alias x'.Key x'.KeyId x'.Secret y)
def E8 (l:(List Ac)) (alias:ByteArray):Option (Ac×Bool):=
 (A9 l (fun x0=>Fu x0 alias)).bind fun y=>
 cond (decide (y < 0))
  (some ((Ac.mk (⟨#[]⟩:ByteArray) (Ax.mk 0 0) 0 false ([]:(List Ab))),false))
  ((C2 l y).bind fun e=>
  (Gh e).bind fun y_2=>
  some (y_2,true))
def A7.j3 (x_3:Int) (n_3:Int):Option (Int):=
 (idxT (⟨#[0,1,2,2,3,3,3,3,4,4,4,4,4,4,4,4,5,5,5,5,5,5,5,5,5,5,5,5,5,5,5,5,6,6,6,6,6,6,6,6,6,6,6,6,6,6,6,6,6,6,6,6,6,6,6,6,6,6,6,6,6,6,6,6,7,7,7,7,7,7,7,7,7,7,7,7,7,7,7,7,7,7,7,7,7,7,7,7,7,7,7,7,7,7,7,7,7,7,7,7,7,7,7,7,7,7,7,7,7,7,7,7,7,7,7,7,7,7,7,7,7,7,7,7,7,7,7,7,8,8,8,8,8,8,8,8,8,8,8,8,8,8,8,8,8,8,8,8,8,8,8,8,8,8,8,8,8,8,8,8,8,8,8,8,8,8,8,8,8,8,8,8,8,8,8,8,8,8,8,8,8,8,8,8,8,8,8,8,8,8,8,8,8,8,8,8,8,8,8,8,8,8,8,8,8,8,8,8,8,8,8,8,8,8,8,8,8,8,8,8,8,8,8,8,8,8,8,8,8,8,8,8,8,8,8,8,8,8,8,8,8,8,8,8,8,8,8,8,8,8,8,8,8,8,8,8]⟩:ByteArray) ((u8 x_3).toNat:Int)).bind fun c=>
 some (W (n_3 + (c.toNat:Int)))
def A7.j2 (x_2:Int) (n_2:Int):Option (Int):=
 cond (decide (256<=x_2))
  ((M3 .u64 x_2 8).bind fun q_3=>
  A7.j3 q_3 (W (n_2 + 8)))
  (A7.j3 x_2 n_2)
def A7.j1 (x_1:Int) (n_1:Int):Option (Int):=
 cond (decide (65536<=x_1))
  ((M3 .u64 x_1 16).bind fun q_2=>
  A7.j2 q_2 (W (n_1 + 16)))
  (A7.j2 x_1 n_1)
def A7 (x':Int):Option (Int):=
 cond (decide (4294967296<=x'))
  ((M3 .u64 x' 32).bind fun q=>
  A7.j1 q 32)
  (A7.j1 x' 0)
def F6 (x':Int):Option (Int):=
 (A7 x').bind fun y=>
 some y
def Ee (x':Ac) (y:Ac):Option (Int):=
 cond (Ns (Hs x'.Alias) (Hs y.Alias))
  (some (-1))
  (some 1)
def Aj.j3 (i_1:Int) (j_2:Int) (data_2:List Ac) (x34_3:Bool):Option (Lp (Int×List Ac) (Lp (Int×List Ac) ((List Ac)))):=
 cond (x34_3)
  ((C2 data_2 (W (j_2 - 1))).bind fun e_3=>
  (C2 data_2 j_2).bind fun e_4=>
  (C2 (Hf data_2 ((j_2).toNat) e_3) (W (j_2 - 1))).bind fun e_5=>
  some (.next (W (j_2 - 1),Hf (Hf data_2 ((j_2).toNat) e_3) ((W (j_2 - 1)).toNat) e_4)))
  (up (
   some (.next (W (i_1 + 1),data_2))))
def Aj.l2 (a:Int) (cmp:Ac->Ac->Option (Int)) (i_1:Int) (j_2:Int) (data_2:List Ac):Option (Lp (Int×List Ac) (Lp (Int×List Ac) ((List Ac)))):=
 cond (decide (a < j_2))
  ((C2 data_2 j_2).bind fun e=>
  (C2 data_2 (W (j_2 - 1))).bind fun e_2=>
  (cmp e e_2).bind fun y=>
  Aj.j3 i_1 j_2 data_2 (decide (y < 0)))
  (Aj.j3 i_1 j_2 data_2 false)
def Aj.l1 (a:Int) (b:Int) (cmp:Ac->Ac->Option (Int)) (i_1:Int) (data_1:List Ac):Option (Lp (Int×List Ac) ((List Ac))):=
 cond (decide (i_1 < b))
  (C5 (fun q'=>Aj.l2 a cmp i_1 q'.1 q'.2) (i_1,data_1))
  (up (some data_1))
def Aj (data:List Ac) (a:Int) (b:Int) (cmp:Ac->Ac->Option (Int)):Option ((List Ac)):=
 C5 (fun q'=>Aj.l1 a b cmp q'.1 q'.2) (W (a + 1),data)
def A6.l1 (data:List Ac) (a:Int) (b:Int) (limit:Int) (cmp:Ac->Ac->Option (Int)):Option (Lp (Unit) ((List Ac))):=
 cond (decide ((W (b - a))<=12))
  ((Aj data a b cmp).bind fun y=>
  up (some y))
  (cond (decide (limit=0))
   (none)
   (none))
def A6 (data:List Ac) (a:Int) (b:Int) (limit:Int) (cmp:Ac->Ac->Option (Int)):Option ((List Ac)):=
 C5 (fun _=>A6.l1 data a b limit cmp) ()
def D1 (x':List Ac) (cmp:Ac->Ac->Option (Int)):Option ((List Ac)):=
 (F6 (IntKind.wrap .u64 (x'.length:Int))).bind fun y=>
 (A6 x' 0 (x'.length:Int) y cmp).bind fun y_2=>
 some y_2
def Az.j3 (x35_2:Int) (l_3_2:List Ac):Option (Lp (Int×List Ac) ((List Ac)×Int)):=
 some (.next (W (x35_2 + 1),l_3_2))
def Az.l4 (y_4:(List Ac)) (x60_4:Int) (out_4:List Ac):Option (Lp (Int×List Ac) ((List Ac)×Int)):=
 cond (decide (x60_4 < (y_4.length:Int)))
  ((C2 y_4 x60_4).bind fun e_2=>
  (Gh e_2).bind fun y_5=>
  (Fk 432 out_4 ([y_5]:List Ac)).bind fun l_4=>
  some (.next (W (x60_4 + 1),l_4)))
  (up (
   some (out_4,0)))
def Az.l2 (a:(List Ac)) (b:(List Ac)) (x35_2:Int) (l_2:List Ac):Option (Lp (Int×List Ac) ((List Ac)×Int)):=
 cond (decide (x35_2 < (a.length:Int)))
  ((C2 a x35_2).bind fun e=>
  (E8 b e.Alias).bind fun y_3=>
  cond (!y_3.2)
   ((Fk 432 l_2 ([e]:List Ac)).bind fun l_3=>
   Az.j3 x35_2 l_3)
   (Az.j3 x35_2 l_2))
  (up (
   cond (decide (64 < (l_2.length:Int)))
    (some (([]:(List Ac)),3))
    ((D1 l_2 (fun x0 x1=>Ee x0 x1)).bind fun y_4=>
    C5 (fun q'=>Az.l4 y_4 q'.1 q'.2) (0,([]:List Ac)))))
def Az.j1 (a:(List Ac)) (b:(List Ac)) (x21_1:Bool):Option ((List Ac)×Int):=
 cond (x21_1)
  (some (([]:(List Ac)),16))
  ((dR 72 (b.length:Int) (W ((a.length:Int) + (b.length:Int))) ((Ac.mk (⟨#[]⟩:ByteArray) (Ax.mk 0 0) 0 false ([]:(List Ab))):Ac)).bind fun m=>
  (cO m b).bind fun l=>
  C5 (fun q'=>Az.l2 a b q'.1 q'.2) (0,l))
def Az (a:(List Ac)) (b:(List Ac)):Option ((List Ac)×Int):=
 (Bl a).bind fun y=>
 cond (!decide (y=0))
  (Az.j1 a b true)
  ((Bl b).bind fun y_2=>
  Az.j1 a b (!decide (y_2=0)))
def Ha:Option (Bool):=
 (Az ([(Ac.mk (⟨#[97]⟩:ByteArray) (Ax.mk 5 2048) 0 false ([]:(List Ab))),(Ac.mk (⟨#[98]⟩:ByteArray) (Ax.mk 5 2048) 1 false ([]:(List Ab)))]:List Ac) ([(Ac.mk (⟨#[98]⟩:ByteArray) (Ax.mk 5 2048) 2 false ([]:(List Ab))),(Ac.mk (⟨#[99]⟩:ByteArray) (Ax.mk 5 2048) 0 false ([]:(List Ab)))]:List Ac)).bind fun y=>
 (E8 y.1 (⟨#[98]⟩:ByteArray)).bind fun y_2=>
 cond (decide (y.2=0))
  (cond (decide ((y.1.length:Int)=3))
   (cond (y_2.2)
    (cond (decide (y_2.1.KeyId=2))
     ((Bl y.1).bind fun y_3=>
     some (decide (y_3=0)))
     (some false))
    (some false))
   (some false))
  (some false)
def K1 (l:(List Int)):Option (Af):=
 some (Af.mk l 0)
def Kt (n:Int) (k:Int):Option (Int):=
 cond (decide (k < 1))
  (some 0)
  ((Qy n k).bind fun q=>
  (Qy (W (q + k)) k).bind fun q_2=>
  some q_2)
def C9 (d:Af) (n:Int):Option (Int×Af):=
 cond (decide ((d.L.length:Int)<=d.At))
  (some (0,d))
  ((C2 d.L (W ((W (d.At + 1)) - 1))).bind fun e=>
  (Kt e n).bind fun y=>
  some (y,(Af.mk d.L (W (d.At + 1)))))
def Cb (d:Af) (l:(List Int)):Option (Int×Af):=
 (C9 d (l.length:Int)).bind fun y=>
 (C2 l y.1).bind fun e=>
 some (e,y.2)
def B0.j3 (d:Af) (x40_3:Bool):Option (Int×Af):=
 cond (x40_3)
  ((Cb d ([128,256]:List Int)).bind fun y_7=>
  some (y_7.1,y_7.2))
  (some (0,d))
def B0.j2 (d:Af) (a:Int) (x14_2:Bool):Option (Int×Af):=
 cond (x14_2)
  ((Cb d ([256,160,224,384,521]:List Int)).bind fun y_2=>
  some (y_2.1,y_2.2))
  (cond (decide (a=9))
   ((Cb d ([65,44,87]:List Int)).bind fun y_3=>
   some (y_3.1,y_3.2))
   (cond (decide (a=13))
    ((Cb d ([768,512,1024]:List Int)).bind fun y_4=>
    some (y_4.1,y_4.2))
    (cond (decide (a=14))
     ((Cb d ([128,40]:List Int)).bind fun y_5=>
     some (y_5.1,y_5.2))
     (cond (decide (a=15))
      ((Cb d ([168,112]:List Int)).bind fun y_6=>
      some (y_6.1,y_6.2))
      (cond (decide (a=16))
       (B0.j3 d (decide (a=16)))
       (B0.j3 d (decide (a=17))))))))
def B0.j1 (d:Af) (a:Int) (x6_1:Bool):Option (Int×Af):=
 cond (x6_1)
  ((Cb d ([2048,1024,512,3072,1023,4096,16384]:List Int)).bind fun y=>
  some (y.1,y.2))
  (cond (decide (a=7))
   (B0.j2 d a (decide (a=7)))
   (B0.j2 d a (decide (a=12))))
def B0 (d:Af) (a:Int):Option (Int×Af):=
 cond (decide (a=5))
  (B0.j1 d a (decide (a=5)))
  (cond (decide (a=6))
   (B0.j1 d a (decide (a=6)))
   (cond (decide (a=10))
    (B0.j1 d a (decide (a=10)))
    (B0.j1 d a (decide (a=11)))))
def Kh (d:Af):Option (Ax×Af):=
 (Cb d ([5,7,5,6,8,9]:List Int)).bind fun y=>
 (B0 y.2 y.1).bind fun y_2=>
 some ((Ax.mk y.1 y_2.1),y_2.2)
def Fg (d:Af) (n:Int):Option (Bool×Af):=
 (C9 d n).bind fun y=>
 some (decide (y.1=(W (n - 1))),y.2)
def G0 (c:Ab):Option (Ab):=
 (Fk 16 ([]:List ByteArray) c.Names).bind fun l=>
 some (Ab.mk c.Serial c.Issuer c.Subject c.Key c.KeyId c.Hash c.From c.To c.Authority c.Path l c.Seal)
def Br.j3 (i_2:Int) (x27_3:Bool):Option (Lp (Int) (Bool)):=
 cond (x27_3)
  (up (some false))
  (some (.next (W (i_2 + 1))))
def Br.l2 (s:ByteArray) (i_2:Int):Option (Lp (Int) (Bool)):=
 cond (decide (i_2 < (s.size:Int)))
  ((idxT s i_2).bind fun c=>
  cond (decide ((c.toNat:Int) < 33))
   (Br.j3 i_2 true)
   ((idxT s i_2).bind fun c_2=>
   Br.j3 i_2 (decide (126 < (c_2.toNat:Int)))))
  (up (
   some true))
def Br.j1 (s:ByteArray) (x11_1:Bool):Option (Bool):=
 cond (x11_1)
  (some false)
  (C5 (fun q'=>Br.l2 s q') 0)
def Br (s:ByteArray):Option (Bool):=
 cond (decide ((s.size:Int) < 1))
  (Br.j1 s true)
  (Br.j1 s (decide (32 < (s.size:Int))))
def Cz.j1 (b:Int) (x3_1:Bool):Option (Int):=
 cond (x3_1)
  (some 0)
  (cond (decide (b < 1024))
   (some 56)
   (cond (decide (b < 2048))
    (some 80)
    (cond (decide (b < 3072))
     (some 112)
     (cond (decide (b < 7680))
      (some 128)
      (cond (decide (b < 15360))
       (some 192)
       (some 256))))))
def Cz (b:Int):Option (Int):=
 cond (decide (b < 512))
  (Cz.j1 b true)
  (Cz.j1 b (decide (16384 < b)))
def Bf.l1 (b:Int) (sizes:(List Int)) (strengths:(List Int)) (i_1:Int):Option (Lp (Int) (Int)):=
 cond (decide (i_1 < (sizes.length:Int)))
  ((C2 sizes i_1).bind fun e=>
  cond (decide (e=b))
   ((C2 strengths i_1).bind fun e_2=>
   up (some e_2))
   (some (.next (W (i_1 + 1)))))
  (up (
   some 0))
def Bf (b:Int) (sizes:(List Int)) (strengths:(List Int)):Option (Int):=
 C5 (fun q'=>Bf.l1 b sizes strengths q') 0
def Cm.j2 (alg:Int) (x14_2:Bool):Option (Int):=
 cond (x14_2)
  (some 256)
  (cond (decide (alg=19))
   (some 64)
   (cond (decide (alg=20))
    (some 80)
    (some 0)))
def Cm.j1 (alg:Int) (x8_1:Bool):Option (Int):=
 cond (x8_1)
  (some 128)
  (cond (decide (alg=4))
   (some 192)
   (cond (decide (alg=18))
    (Cm.j2 alg (decide (alg=18)))
    (Cm.j2 alg (decide (alg=22)))))
def Cm (alg:Int):Option (Int):=
 cond (decide (alg=1))
  (some 18)
  (cond (decide (alg=2))
   (some 60)
   (cond (decide (alg=3))
    (Cm.j1 alg (decide (alg=3)))
    (cond (decide (alg=8))
     (Cm.j1 alg (decide (alg=8)))
     (Cm.j1 alg (decide (alg=21))))))
def Aq.j3 (u:Ax) (x35_3:Bool):Option (Int):=
 cond (x35_3)
  ((Qq u.Bits 2).bind fun q=>
  some q)
  (some 0)
def Aq.j4 (u:Ax) (x62_4:Bool):Option (Int):=
 cond (x62_4)
  ((Bf u.Bits ([128,256]:List Int) ([128,256]:List Int)).bind fun y_6=>
  some y_6)
  ((Cm u.Alg).bind fun y_7=>
  (Bf u.Bits ([0]:List Int) ([y_7]:List Int)).bind fun y_8=>
  some y_8)
def Aq.j2 (u:Ax) (x15_2:Bool):Option (Int):=
 cond (x15_2)
  (cond (decide (u.Bits=160))
   (Aq.j3 u true)
   (cond (decide (u.Bits=224))
    (Aq.j3 u true)
    (cond (decide (u.Bits=256))
     (Aq.j3 u true)
     (cond (decide (u.Bits=384))
      (Aq.j3 u true)
      (Aq.j3 u (decide (u.Bits=521)))))))
  (cond (decide (u.Alg=9))
   ((Bf u.Bits ([44,65,87]:List Int) ([128,192,256]:List Int)).bind fun y_2=>
   some y_2)
   (cond (decide (u.Alg=13))
    ((Bf u.Bits ([512,768,1024]:List Int) ([128,192,256]:List Int)).bind fun y_3=>
    some y_3)
    (cond (decide (u.Alg=14))
     ((Bf u.Bits ([40,128]:List Int) ([40,60]:List Int)).bind fun y_4=>
     some y_4)
     (cond (decide (u.Alg=15))
      ((Bf u.Bits ([112,168]:List Int) ([80,112]:List Int)).bind fun y_5=>
      some y_5)
      (cond (decide (u.Alg=16))
       (Aq.j4 u (decide (u.Alg=16)))
       (Aq.j4 u (decide (u.Alg=17))))))))
def Aq.j1 (u:Ax) (x8_1:Bool):Option (Int):=
 cond (x8_1)
  ((Cz u.Bits).bind fun y=>
  some y)
  (cond (decide (u.Alg=7))
   (Aq.j2 u (decide (u.Alg=7)))
   (Aq.j2 u (decide (u.Alg=12))))
def Aq (u:Ax):Option (Int):=
 cond (decide (u.Alg=5))
  (Aq.j1 u (decide (u.Alg=5)))
  (cond (decide (u.Alg=6))
   (Aq.j1 u (decide (u.Alg=6)))
   (cond (decide (u.Alg=10))
    (Aq.j1 u (decide (u.Alg=10)))
    (Aq.j1 u (decide (u.Alg=11)))))
def Hb (u:Ax):Option (Bool):=
 (Aq u).bind fun y=>
 some (decide (0 < y))
def Md:Option ((List Am)):=
 some ([(Am.mk (⟨#[]⟩:ByteArray) 0),(Am.mk (⟨#[109,100,53]⟩:ByteArray) 1),(Am.mk (⟨#[115,104,97,49]⟩:ByteArray) 1),(Am.mk (⟨#[115,104,97,50,53,54]⟩:ByteArray) 1),(Am.mk (⟨#[115,104,97,51,56,52]⟩:ByteArray) 1),(Am.mk (⟨#[114,115,97]⟩:ByteArray) 2),(Am.mk (⟨#[100,115,97]⟩:ByteArray) 2),(Am.mk (⟨#[101,99,100,115,97]⟩:ByteArray) 2),(Am.mk (⟨#[101,100,50,53,53,49,57]⟩:ByteArray) 2),(Am.mk (⟨#[109,108,100,115,97]⟩:ByteArray) 2),(Am.mk (⟨#[114,115,97,107,120]⟩:ByteArray) 3),(Am.mk (⟨#[100,104,101]⟩:ByteArray) 3),(Am.mk (⟨#[101,99,100,104,101]⟩:ByteArray) 3),(Am.mk (⟨#[109,108,107,101,109]⟩:ByteArray) 3),(Am.mk (⟨#[114,99,52]⟩:ByteArray) 4),(Am.mk (⟨#[100,101,115,51]⟩:ByteArray) 4),(Am.mk (⟨#[97,101,115,99,98,99]⟩:ByteArray) 4),(Am.mk (⟨#[97,101,115,103,99,109]⟩:ByteArray) 4),(Am.mk (⟨#[99,104,97,99,104,97]⟩:ByteArray) 4),(Am.mk (⟨#[104,109,97,99,109,100,53]⟩:ByteArray) 5),(Am.mk (⟨#[104,109,97,99,115,104,97,49]⟩:ByteArray) 5),(Am.mk (⟨#[104,109,97,99,115,104,97,50,53,54]⟩:ByteArray) 5),(Am.mk (⟨#[97,101,97,100]⟩:ByteArray) 5)]:List Am)
def Dy.j1 (alg:Int) (x8_1:Bool):Option (Int):=
 cond (x8_1)
  (some 0)
  ((Md).bind fun y=>
  (C2 y alg).bind fun e=>
  some e.kind)
def Dy (alg:Int):Option (Int):=
 cond (decide (alg < 1))
  (Dy.j1 alg true)
  (Dy.j1 alg (decide (22 < alg)))
def Ff (u:Ax):Option (Bool):=
 (Hb u).bind fun y=>
 cond (y)
  ((Dy u.Alg).bind fun y_2=>
  some (decide (y_2=2)))
  (some false)
def Au.j5 (i_4:Int) (x123_5:Bool):Option (Lp (Int) (Int)):=
 cond (x123_5)
  (up (some 9))
  (some (.next (W (i_4 + 1))))
def Au.j6 (x145_6:Bool):Option (Int):=
 cond (x145_6)
  (some 9)
  (some 0)
def Au.l4 (c:Ab) (i_4:Int):Option (Lp (Int) (Int)):=
 cond (decide (i_4 < (c.Names.length:Int)))
  ((C2 c.Names i_4).bind fun e=>
  (Br e).bind fun y_6=>
  cond (!y_6)
   (Au.j5 i_4 true)
   (cond (decide (0 < i_4))
    ((C2 c.Names (W (i_4 - 1))).bind fun e_2=>
    Au.j5 i_4 (!Ns (Hs e_2) (Hs e)))
    (Au.j5 i_4 false)))
  (up (
   cond (decide (c.Seal.Key < 0))
    (Au.j6 true)
    (cond (decide (2147483648 < c.Seal.Key))
     (Au.j6 true)
     (cond (decide (c.Seal.Sum < 0))
      (Au.j6 true)
      (Au.j6 (decide (4294967296<=c.Seal.Sum)))))))
def Au.j3 (c:Ab) (x91_3:Bool):Option (Int):=
 cond (x91_3)
  (some 9)
  (C5 (fun q'=>Au.l4 c q') 0)
def Au.j2 (c:Ab) (x67_2:Bool):Option (Int):=
 cond (x67_2)
  (some 9)
  (cond (decide (c.Path < 0))
   (Au.j3 c true)
   (cond (decide (8 < c.Path))
    (Au.j3 c true)
    (cond (!c.Authority)
     (cond (!decide (c.Path=0))
      (Au.j3 c true)
      (Au.j3 c (decide (8 < (c.Names.length:Int)))))
     (Au.j3 c (decide (8 < (c.Names.length:Int)))))))
def Au.j1 (c:Ab) (x39_1:Bool):Option (Int):=
 cond (x39_1)
  (some 9)
  ((Hb c.Hash).bind fun y_4=>
  cond (!y_4)
   (Au.j2 c true)
   ((Dy c.Hash.Alg).bind fun y_5=>
   cond (!decide (y_5=1))
    (Au.j2 c true)
    (cond (decide (c.From < 0))
     (Au.j2 c true)
     (cond (decide (c.To < c.From))
      (Au.j2 c true)
      (Au.j2 c (decide (40000 < c.To)))))))
def Au (c:Ab):Option (Int):=
 cond (decide (c.Serial < 0))
  (Au.j1 c true)
  (cond (decide (1099511627776 < c.Serial))
   (Au.j1 c true)
   ((Br c.Issuer).bind fun y=>
   cond (!y)
    (Au.j1 c true)
    ((Br c.Subject).bind fun y_2=>
    cond (!y_2)
     (Au.j1 c true)
     ((Ff c.Key).bind fun y_3=>
     cond (!y_3)
      (Au.j1 c true)
      (cond (decide (c.KeyId < 0))
       (Au.j1 c true)
       (Au.j1 c (decide (2147483648 < c.KeyId))))))))
def E1 (s:ByteArray):Option (Aa):=
 some (Aa.mk 12 (Hs s) false ([]:(List Aa)))
def Bm.j2 (x_1:Int) (b_1:List UInt8) (x35_2:Bool):Option (Lp (Int×List UInt8) (Aa)):=
 cond (x35_2)
  ((Fk 1 ([(u8 x_1)]:List UInt8) b_1).bind fun l=>
  (M3 .i64 x_1 8).bind fun q_2=>
  some (.next (q_2,l)))
  (up (
   some (Aa.mk 2 b_1 false ([]:(List Aa)))))
def Bm.l1 (x_1:Int) (b_1:List UInt8):Option (Lp (Int×List UInt8) (Aa)):=
 cond (!decide (x_1=0))
  (cond (!decide (x_1=(-1)))
   (Bm.j2 x_1 b_1 true)
   (cond (decide (x_1=0))
    ((C2 b_1 0).bind fun e=>
    cond (decide (128<=(e.toNat:Int)))
     (Bm.j2 x_1 b_1 true)
     (cond (decide (x_1=(-1)))
      (Bm.j2 x_1 b_1 (decide ((e.toNat:Int) < 128)))
      (Bm.j2 x_1 b_1 false)))
    (cond (decide (x_1=(-1)))
     ((C2 b_1 0).bind fun e_2=>
     Bm.j2 x_1 b_1 (decide ((e_2.toNat:Int) < 128)))
     (Bm.j2 x_1 b_1 false))))
  (cond (decide (x_1=0))
   ((C2 b_1 0).bind fun e_3=>
   cond (decide (128<=(e_3.toNat:Int)))
    (Bm.j2 x_1 b_1 true)
    (cond (decide (x_1=(-1)))
     (Bm.j2 x_1 b_1 (decide ((e_3.toNat:Int) < 128)))
     (Bm.j2 x_1 b_1 false)))
   (cond (decide (x_1=(-1)))
    ((C2 b_1 0).bind fun e_4=>
    Bm.j2 x_1 b_1 (decide ((e_4.toNat:Int) < 128)))
    (Bm.j2 x_1 b_1 false)))
def Bm (n:Int):Option (Aa):=
 (M3 .i64 n 8).bind fun q=>
 C5 (fun q'=>Bm.l1 q'.1 q'.2) (q,([(u8 n)]:List UInt8))
def Bz.l1 (rec:(List Aa)->Option ((List Aa))) (l:(List Aa)) (i_1:Int) (out_1:List Aa):Option (Lp (Int×List Aa) ((List Aa))):=
 cond (decide (i_1 < (l.length:Int)))
  ((C2 l i_1).bind fun e=>
  (Fk 1 ([]:List UInt8) e.Bytes).bind fun l_2=>
  (rec e.Elements).bind fun y=>
  (Fk 256 out_1 ([(Aa.mk e.Tag l_2 e.Nested y)]:List Aa)).bind fun l_3=>
  some (.next (W (i_1 + 1),l_3)))
  (up (
   some out_1))
def Bz.F (rec:(List Aa)->Option ((List Aa))) (l:(List Aa)):Option ((List Aa)):=
 C5 (fun q'=>Bz.l1 rec l q'.1 q'.2) (0,([]:List Aa))
def Bz (l:(List Aa)):Option ((List Aa)):=O0 (fun rec (x:(List Aa))=>Bz.F (fun l=>rec l) x) l
def De (l:(List Aa)):Option (Aa):=
 (Bz l).bind fun y=>
 some (Aa.mk 48 ([]:(List UInt8)) true y)
def Ii (u:Ax):Option (Aa):=
 (Bm u.Alg).bind fun y=>
 (Bm u.Bits).bind fun y_2=>
 (De ([y,y_2]:List Aa)).bind fun y_3=>
 some y_3
def Ik (b:Bool):Option (Aa):=
 cond (b)
  (some (Aa.mk 1 ([(255:UInt8)]:List UInt8) false ([]:(List Aa))))
  (some (Aa.mk 1 ([(0:UInt8)]:List UInt8) false ([]:(List Aa))))
def Co.l1 (c:Ab) (i_1:Int) (names_1:List Aa):Option (Lp (Int×List Aa) (Aa)):=
 cond (decide (i_1 < (c.Names.length:Int)))
  ((C2 c.Names i_1).bind fun e=>
  (E1 e).bind fun y=>
  (Fk 256 names_1 ([y]:List Aa)).bind fun l=>
  some (.next (W (i_1 + 1),l)))
  (up (
   (Bm c.Serial).bind fun y_12=>
   (E1 c.Issuer).bind fun y_13=>
   (E1 c.Subject).bind fun y_14=>
   (Ii c.Key).bind fun y_15=>
   (Bm c.KeyId).bind fun y_16=>
   (Ii c.Hash).bind fun y_17=>
   (Bm c.From).bind fun y_18=>
   (Bm c.To).bind fun y_19=>
   (Ik c.Authority).bind fun y_20=>
   (Bm c.Path).bind fun y_21=>
   (De names_1).bind fun y_22=>
   (De ([y_12,y_13,y_14,y_15,y_16,y_17,y_18,y_19,y_20,y_21,y_22]:List Aa)).bind fun y_23=>
   some y_23))
def Co (c:Ab):Option (Aa):=
 C5 (fun q'=>Co.l1 c q'.1 q'.2) (0,([]:List Aa))
def Jd (n:Int):Option (Bool):=
 cond (decide (1<=n))
  (cond (decide (n<=255))
   ((Qy n 32).bind fun q=>
   some (!decide (q=31)))
   (some false))
  (some false)
def Bb.l2 (rec:Aa->Option (Bool)) (v:Aa) (i_2:Int):Option (Lp (Int) (Bool)):=
 cond (decide (i_2 < (v.Elements.length:Int)))
  ((C2 v.Elements i_2).bind fun e=>
  (rec e).bind fun y_2=>
  cond (!y_2)
   (up (some false))
   (some (.next (W (i_2 + 1)))))
  (up (
   some true))
def Bb.j1 (rec:Aa->Option (Bool)) (v:Aa) (x38_1:Bool):Option (Bool):=
 cond (x38_1)
  (some false)
  (C5 (fun q'=>Bb.l2 rec v q') 0)
def Bb.F (rec:Aa->Option (Bool)) (v:Aa):Option (Bool):=
 (Jd v.Tag).bind fun y=>
 cond (!y)
  (Bb.j1 rec v true)
  ((Qq v.Tag 32).bind fun q=>
  (Qy q 2).bind fun q_2=>
  cond (!decide (v.Nested=(decide (q_2=1))))
   (Bb.j1 rec v true)
   (cond (v.Nested)
    (cond (decide (0 < (v.Bytes.length:Int)))
     (Bb.j1 rec v true)
     (Bb.j1 rec v false))
    (Bb.j1 rec v (decide (0 < (v.Elements.length:Int))))))
def Bb (v:Aa):Option (Bool):=O0 (fun rec (x:Aa)=>Bb.F (fun v=>rec v) x) v
def Ca.l1 (rec:Aa->Option (Int)) (v:Aa) (d_1:Int) (i_1:Int):Option (Lp (Int×Int) (Int)):=
 cond (decide (i_1 < (v.Elements.length:Int)))
  ((C2 v.Elements i_1).bind fun e=>
  (rec e).bind fun y=>
  some (.next (max d_1 y,W (i_1 + 1))))
  (up (
   some (W (d_1 + 1))))
def Ca.F (rec:Aa->Option (Int)) (v:Aa):Option (Int):=
 C5 (fun q'=>Ca.l1 rec v q'.1 q'.2) (0,0)
def Ca (v:Aa):Option (Int):=O0 (fun rec (x:Aa)=>Ca.F (fun v=>rec v) x) v
def Dk.l1 (n_1:Int) (b_1:List UInt8):Option (Lp (Int×List UInt8) ((List UInt8))):=
 cond (decide (0 < n_1))
  ((Qy n_1 256).bind fun q=>
  (Fk 1 ([(u8 q)]:List UInt8) b_1).bind fun l=>
  (Qq n_1 256).bind fun q_2=>
  some (.next (q_2,l)))
  (up (
   (Fk 1 ([(u8 (W (128 + (b_1.length:Int))))]:List UInt8) b_1).bind fun l_2=>
   some l_2))
def Dk (n:Int):Option ((List UInt8)):=
 cond (decide (n < 128))
  (some ([(u8 n)]:List UInt8))
  (C5 (fun q'=>Dk.l1 q'.1 q'.2) (n,([]:List UInt8)))
def Cw.l1 (rec:Aa->Option ((List UInt8))) (v:Aa) (i_1:Int) (b_1:List UInt8):Option (Lp (Int×List UInt8) ((List UInt8))):=
 cond (decide (i_1 < (v.Elements.length:Int)))
  ((C2 v.Elements i_1).bind fun e=>
  (rec e).bind fun y=>
  (Fk 1 b_1 y).bind fun l_2=>
  some (.next (W (i_1 + 1),l_2)))
  (up (
   (Dk (b_1.length:Int)).bind fun y_2=>
   (Fk 1 ([(u8 v.Tag)]:List UInt8) y_2).bind fun l_3=>
   (Fk 1 l_3 b_1).bind fun l_4=>
   some l_4))
def Cw.F (rec:Aa->Option ((List UInt8))) (v:Aa):Option ((List UInt8)):=
 (Fk 1 ([]:List UInt8) v.Bytes).bind fun l=>
 C5 (fun q'=>Cw.l1 rec v q'.1 q'.2) (0,l)
def Cw (v:Aa):Option ((List UInt8)):=O0 (fun rec (x:Aa)=>Cw.F (fun v=>rec v) x) v
def Fw (v:Aa):Option ((List UInt8)×Int):=
 (Bb v).bind fun y=>
 cond (!y)
  (some (([]:(List UInt8)),1))
  ((Ca v).bind fun y_2=>
  cond (decide (16 < y_2))
   (some (([]:(List UInt8)),3))
   ((Cw v).bind fun y_3=>
   cond (decide (4096 < (y_3.length:Int)))
    (some (([]:(List UInt8)),3))
    (some (y_3,0))))
def Hc (c:Ab):Option ((List UInt8)×Int):=
 (Au c).bind fun y=>
 cond (!decide (y=0))
  (some (([]:(List UInt8)),9))
  ((Co c).bind fun y_2=>
  (Fw y_2).bind fun y_3=>
  some (y_3.1,y_3.2))
def Eg.l1 (b:(List UInt8)) (h_1:Int) (i_1:Int):Option (Lp (Int×Int) (Int)):=
 cond (decide (i_1 < (b.length:Int)))
  ((C2 b i_1).bind fun e=>
  some (.next (IntKind.wrap .u32 ((X0 .u32 h_1 (IntKind.wrap .u32 (e.toNat:Int))) * 16777619),W (i_1 + 1))))
  (up (
   some (W h_1)))
def Eg (b:(List UInt8)):Option (Int):=
 C5 (fun q'=>Eg.l1 b q'.1 q'.2) (2166136261,0)
def D0.j1 (key:Int) (y:Ab) (x22_1:Bool):Option (Ab×Int):=
 cond (x22_1)
  (some ((Ab.mk 0 (⟨#[]⟩:ByteArray) (⟨#[]⟩:ByteArray) (Ax.mk 0 0) 0 (Ax.mk 0 0) 0 0 false 0 ([]:(List ByteArray)) (C7.mk 0 0)),9))
  ((Hc (Ab.mk y.Serial y.Issuer y.Subject y.Key y.KeyId y.Hash y.From y.To y.Authority y.Path y.Names (C7.mk 0 0))).bind fun y_3=>
  (Eg y_3.1).bind fun y_4=>
  some ((Ab.mk y.Serial y.Issuer y.Subject y.Key y.KeyId y.Hash y.From y.To y.Authority y.Path y.Names (C7.mk key y_4)),0))
def D0 (c:Ab) (key:Int):Option (Ab×Int):=
 (G0 c).bind fun y=>
 (Au (Ab.mk y.Serial y.Issuer y.Subject y.Key y.KeyId y.Hash y.From y.To y.Authority y.Path y.Names (C7.mk 0 0))).bind fun y_2=>
 cond (!decide (y_2=0))
  (D0.j1 key y true)
  (cond (decide (key < 0))
   (D0.j1 key y true)
   (D0.j1 key y (decide (2147483648 < key))))
def Bj.j2 (issuer:ByteArray) (subject:ByteArray) (key:Ax) (id:Int) (signer:Int) (authority:Bool) (y:Int×Af) (y_2:Int×Af) (y_3:Int×Af) (y_4:Int×Af) (c_1:Int) (b_2:Af) (l_2:List ByteArray):Option (Ab×Af):=
 (D0 (Ab.mk y.1 issuer subject key id (Ax.mk y_2.1 0) y_3.1 y_4.1 authority c_1 l_2 (C7.mk 0 0)) signer).bind fun y_7=>
 some (y_7.1,b_2)
def Bj.j1 (issuer:ByteArray) (subject:ByteArray) (key:Ax) (id:Int) (signer:Int) (authority:Bool) (y:Int×Af) (y_2:Int×Af) (y_3:Int×Af) (y_4:Int×Af) (d_1:Af) (c_1:Int):Option (Ab×Af):=
 (Fg d_1 3).bind fun y_6=>
 cond (y_6.1)
  ((fE subject (⟨#[120]⟩:ByteArray)).bind fun s=>
  (Fk 16 ([subject]:List ByteArray) ([s]:List ByteArray)).bind fun l=>
  Bj.j2 issuer subject key id signer authority y y_2 y_3 y_4 c_1 y_6.2 l)
  (Bj.j2 issuer subject key id signer authority y y_2 y_3 y_4 c_1 y_6.2 ([subject]:List ByteArray))
def Bj (d:Af) (issuer:ByteArray) (subject:ByteArray) (key:Ax) (id:Int) (signer:Int) (authority:Bool):Option (Ab×Af):=
 (C9 d 1000).bind fun y=>
 (Cb y.2 ([3,2,4,1]:List Int)).bind fun y_2=>
 (Cb y_2.2 ([0,5,10]:List Int)).bind fun y_3=>
 (Cb y_3.2 ([1000,100,50,20]:List Int)).bind fun y_4=>
 cond (authority)
  ((Cb y_4.2 ([3,0,1]:List Int)).bind fun y_5=>
  Bj.j1 issuer subject key id signer authority y y_2 y_3 y_4 y_5.2 y_5.1)
  (Bj.j1 issuer subject key id signer authority y y_2 y_3 y_4 y_4.2 0)
def Ey.l1 (name:ByteArray) (key:Ax) (id:Int) (y:Int×Af) (signer_1:Int) (issuer_1:ByteArray) (i_1:Int) (d_1:Af) (above_1:List Ab):Option (Lp (Int×ByteArray×Int×Af×List Ab) ((List Ab)×Af)):=
 cond (decide (i_1 < y.1))
  ((C2 ([(⟨#[99,97]⟩:ByteArray),(⟨#[99,98]⟩:ByteArray),(⟨#[99,99]⟩:ByteArray)]:List ByteArray) i_1).bind fun e=>
  (Bj d_1 issuer_1 e (Ax.mk 5 2048) (W (11 + i_1)) signer_1 true).bind fun y_3=>
  (Fk 2280 ([y_3.1]:List Ab) above_1).bind fun l=>
  some (.next (W (11 + i_1),e,W (i_1 + 1),y_3.2,l)))
  (up (
   (Bj d_1 issuer_1 name key id signer_1 false).bind fun y_4=>
   (Fk 2280 ([y_4.1]:List Ab) above_1).bind fun l_2=>
   some (l_2,y_4.2)))
def Ey (d:Af) (name:ByteArray) (key:Ax) (id:Int):Option ((List Ab)×Af):=
 (Cb d ([1,0,2]:List Int)).bind fun y=>
 (C9 y.2 2).bind fun y_2=>
 C5 (fun q'=>Ey.l1 name key id y q'.1 q'.2.1 q'.2.2.1 q'.2.2.2.1 q'.2.2.2.2) (W (1 + y_2.1),(⟨#[114,111,111,116]⟩:ByteArray),0,y_2.2,([]:List Ab))
def E3.j1 (alias:ByteArray) (id:Int) (y:Ax×Af) (y_2:Bool×Af) (b_1:Af) (l_1:List Ab):Option (Ac×Af):=
 some ((Ac.mk alias y.1 id y_2.1 l_1),b_1)
def E3 (d:Af) (alias:ByteArray) (name:ByteArray) (id:Int):Option (Ac×Af):=
 (Kh d).bind fun y=>
 (Fg y.2 2).bind fun y_2=>
 (Fg y_2.2 5).bind fun y_3=>
 cond (!y_3.1)
  ((Ey y_3.2 name y.1 id).bind fun y_4=>
  E3.j1 alias id y y_2 y_4.2 y_4.1)
  (E3.j1 alias id y y_2 y_3.2 ([]:List Ab))
def E2.l2 (name:ByteArray) (i_2:Int) (d_2:Af) (l_2:List Ac):Option (Lp (Int×Af×List Ac) ((List Ac)×Af)):=
 cond (decide (0 < i_2))
  ((C2 ([(⟨#[107,49]⟩:ByteArray),(⟨#[107,50]⟩:ByteArray),(⟨#[107,51]⟩:ByteArray),(⟨#[107,52]⟩:ByteArray)]:List ByteArray) (l_2.length:Int)).bind fun e=>
  (C9 d_2 3).bind fun y_2=>
  (E3 y_2.2 e name (W ((W (100 + (l_2.length:Int))) + (W (y_2.1 * 10))))).bind fun y_3=>
  (Fk 432 l_2 ([y_3.1]:List Ac)).bind fun l=>
  some (.next (W (i_2 - 1),y_3.2,l)))
  (up (
   some (l_2,d_2)))
def E2 (d:Af) (name:ByteArray):Option ((List Ac)×Af):=
 (C9 d 4).bind fun y=>
 C5 (fun q'=>E2.l2 name q'.1 q'.2.1 q'.2.2) (W (1 + y.1),y.2,([]:List Ac))
def Fr (d:Af) (l:(List ByteArray)):Option (ByteArray×Af):=
 (C9 d (l.length:Int)).bind fun y=>
 (C2 l y.1).bind fun e=>
 some (e,y.2)
def Ek.l1 (y_2:Int×Af) (i_1:Int) (d_1:Af) (l_1:List Ac):Option (Lp (Int×Af×List Ac) ((List Ac)×Af)):=
 cond (decide (i_1 < 9))
  (((l_1)[((y_2.1).toNat)]?).bind fun e_3=>
  (Bj d_1 (⟨#[97]⟩:ByteArray) (⟨#[98]⟩:ByteArray) e_3.Key e_3.KeyId 1 true).bind fun y_7=>
  (Fk 2280 e_3.Chain ([y_7.1]:List Ab)).bind fun l=>
  some (.next (W (i_1 + 1),y_7.2,Hf l_1 ((y_2.1).toNat) (Ac.mk e_3.Alias e_3.Key e_3.KeyId e_3.Secret l))))
  (up (
   some (l_1,d_1)))
def Ek (d:Af):Option ((List Ac)×Af):=
 (E2 d (⟨#[119,101,98]⟩:ByteArray)).bind fun y=>
 (C9 y.2 (y.1.length:Int)).bind fun y_2=>
 (C2 y.1 y_2.1).bind fun e=>
 (C9 y_2.2 12).bind fun y_3=>
 cond (decide (y_3.1=0))
  ((Fr y_3.2 ([(⟨#[]⟩:ByteArray),(⟨#[107,49]⟩:ByteArray),(⟨#[97,32,98]⟩:ByteArray),(⟨#[122,122]⟩:ByteArray)]:List ByteArray)).bind fun y_4=>
  some (Hf y.1 ((y_2.1).toNat) (Ac.mk y_4.1 e.Key e.KeyId e.Secret e.Chain),y_4.2))
  (cond (decide (y_3.1=1))
   ((Cb y_3.2 ([-1,5,2147483649]:List Int)).bind fun y_5=>
   some (Hf y.1 ((y_2.1).toNat) (Ac.mk e.Alias e.Key y_5.1 e.Secret e.Chain),y_5.2))
   (cond (decide (y_3.1=2))
    ((Cb y_3.2 ([1,8]:List Int)).bind fun y_6=>
    some (Hf y.1 ((y_2.1).toNat) (Ac.mk e.Alias (Ax.mk y_6.1 0) e.KeyId e.Secret e.Chain),y_6.2))
    (cond (decide (y_3.1=3))
     (cond (decide (0 < (e.Chain.length:Int)))
      ((C2 e.Chain 0).bind fun e_2=>
      some (Hf y.1 ((y_2.1).toNat) (Ac.mk e.Alias e.Key e.KeyId e.Secret (Hf e.Chain ((0:Int).toNat) (Ab.mk (-1) e_2.Issuer e_2.Subject e_2.Key e_2.KeyId e_2.Hash e_2.From e_2.To e_2.Authority e_2.Path e_2.Names e_2.Seal))),y_3.2))
      (some (y.1,y_3.2)))
     (cond (decide (y_3.1=4))
      (C5 (fun q'=>Ek.l1 y_2 q'.1 q'.2.1 q'.2.2) (0,y_3.2,y.1))
      (cond (decide (y_3.1=5))
       ((C2 y.1 0).bind fun e_4=>
       (Fk 432 y.1 ([e_4]:List Ac)).bind fun l_2=>
       some (l_2,y_3.2))
       (some (y.1,y_3.2)))))))
def Gv (s:ByteArray):Option (Aa):=
 some (Aa.mk 12 (Hs s) false ([]:(List Aa)))
def By.j3 (b_2:List UInt8) (x43_3:Bool):Option (Lp (List UInt8) (Aa)):=
 cond (x43_3)
  ((rD b_2 1 (b_2.length:Int)).bind fun l_2=>
  some (.next l_2))
  (up (
   some (Aa.mk 2 b_2 false ([]:(List Aa)))))
def By.l2 (b_2:List UInt8):Option (Lp (List UInt8) (Aa)):=
 cond (decide (1 < (b_2.length:Int)))
  ((C2 b_2 0).bind fun e=>
  cond (decide ((e.toNat:Int)=0))
   ((C2 b_2 1).bind fun e_2=>
   cond (decide ((e_2.toNat:Int) < 128))
    (By.j3 b_2 true)
    (cond (decide ((e.toNat:Int)=255))
     (By.j3 b_2 (decide (128<=(e_2.toNat:Int))))
     (By.j3 b_2 false)))
   (cond (decide ((e.toNat:Int)=255))
    ((C2 b_2 1).bind fun e_3=>
    By.j3 b_2 (decide (128<=(e_3.toNat:Int))))
    (By.j3 b_2 false)))
  (By.j3 b_2 false)
def By.l1 (n:Int) (i_1:Int) (b_1:List UInt8):Option (Lp (Int×List UInt8) (Aa)):=
 cond (decide (0<=i_1))
  ((M3 .u64 (IntKind.wrap .u64 n) i_1).bind fun q=>
  (Fk 1 b_1 ([(u8 q)]:List UInt8)).bind fun l=>
  some (.next (W (i_1 - 8),l)))
  (up (
   C5 (fun q'=>By.l2 q') b_1))
def By (n:Int):Option (Aa):=
 C5 (fun q'=>By.l1 n q'.1 q'.2) (56,([]:List UInt8))
def D4.j1 (b:(List UInt8)) (x4_1:Bool):Option ((List UInt8)):=
 cond (x4_1)
  (some ([]:(List UInt8)))
  ((Fk 1 ([]:List UInt8) b).bind fun l=>
  some l)
def D4 (b:(List UInt8)):Option ((List UInt8)):=
 U8 (b)
  (D4.j1 b true)
  (D4.j1 b false)
def Ci.l1 (rec:(List Aa)->Option ((List Aa))) (l:(List Aa)) (x8_1:Int) (out_1:List Aa):Option (Lp (Int×List Aa) ((List Aa))):=
 cond (decide (x8_1 < (l.length:Int)))
  ((C2 l x8_1).bind fun e=>
  (D4 e.Bytes).bind fun y=>
  (rec e.Elements).bind fun y_2=>
  (Fk 256 out_1 ([(Aa.mk e.Tag y e.Nested y_2)]:List Aa)).bind fun l_2=>
  some (.next (W (x8_1 + 1),l_2)))
  (up (
   some out_1))
def Ci.F (rec:(List Aa)->Option ((List Aa))) (l:(List Aa)):Option ((List Aa)):=
 C5 (fun q'=>Ci.l1 rec l q'.1 q'.2) (0,([]:List Aa))
def Ci (l:(List Aa)):Option ((List Aa)):=O0 (fun rec (x:(List Aa))=>Ci.F (fun l=>rec l) x) l
def Gg (l:(List Aa)):Option (Aa):=
 (Ci l).bind fun y=>
 some (Aa.mk 48 ([]:(List UInt8)) true y)
def E0 (u:Ax):Option (Aa):=
 (By u.Alg).bind fun y=>
 (By u.Bits).bind fun y_2=>
 (Gg ([y,y_2]:List Aa)).bind fun y_3=>
 some y_3
def Ku (b:Bool):Option (Aa):=
 cond (b)
  (some (Aa.mk 1 ([(255:UInt8)]:List UInt8) false ([]:(List Aa))))
  (some (Aa.mk 1 ([(0:UInt8)]:List UInt8) false ([]:(List Aa))))
def Ib (l:(List Aa)):Option (Aa):=
 (Gg l).bind fun y=>
 some y
def Cl.l1 (c:Ab) (x9_1:Int) (names_1:List Aa):Option (Lp (Int×List Aa) (Aa)):=
 cond (decide (x9_1 < (c.Names.length:Int)))
  ((C2 c.Names x9_1).bind fun e=>
  (Gv e).bind fun y=>
  (Fk 256 names_1 ([y]:List Aa)).bind fun l=>
  some (.next (W (x9_1 + 1),l)))
  (up (
   (By c.Serial).bind fun y_12=>
   (Gv c.Issuer).bind fun y_13=>
   (Gv c.Subject).bind fun y_14=>
   (E0 c.Key).bind fun y_15=>
   (By c.KeyId).bind fun y_16=>
   (E0 c.Hash).bind fun y_17=>
   (By c.From).bind fun y_18=>
   (By c.To).bind fun y_19=>
   (Ku c.Authority).bind fun y_20=>
   (By c.Path).bind fun y_21=>
   (Ib names_1).bind fun y_22=>
   (Gg ([y_12,y_13,y_14,y_15,y_16,y_17,y_18,y_19,y_20,y_21,y_22]:List Aa)).bind fun y_23=>
   some y_23))
def Cl (c:Ab):Option (Aa):=
 C5 (fun q'=>Cl.l1 c q'.1 q'.2) (0,([]:List Aa))
def Fb (c:Ab):Option (Aa):=
 (Cl c).bind fun y=>
 (By c.Seal.Key).bind fun y_2=>
 (By c.Seal.Sum).bind fun y_3=>
 (Gg ([y_2,y_3]:List Aa)).bind fun y_4=>
 (Gg ([y,y_4]:List Aa)).bind fun y_5=>
 some y_5
def Cp.l1 (x':Ac) (x9_1:Int) (chain_1:List Aa):Option (Lp (Int×List Aa) (Aa)):=
 cond (decide (x9_1 < (x'.Chain.length:Int)))
  ((C2 x'.Chain x9_1).bind fun e=>
  (Fb e).bind fun y=>
  (Fk 256 chain_1 ([y]:List Aa)).bind fun l=>
  some (.next (W (x9_1 + 1),l)))
  (up (
   (Gv x'.Alias).bind fun y_6=>
   (E0 x'.Key).bind fun y_7=>
   (By x'.KeyId).bind fun y_8=>
   (Ku x'.Secret).bind fun y_9=>
   (Ib chain_1).bind fun y_10=>
   (Gg ([y_6,y_7,y_8,y_9,y_10]:List Aa)).bind fun y_11=>
   some y_11))
def Cp (x':Ac):Option (Aa):=
 C5 (fun q'=>Cp.l1 x' q'.1 q'.2) (0,([]:List Aa))
def Lr (n:Int):Option (Bool):=
 cond (decide (1<=n))
  (cond (decide (n<=255))
   (some (!decide ((dW .i64 n 31)=31)))
   (some false))
  (some false)
def El (rec:Aa->Option (Bool)) (x':Aa):Option (Bool):=
 (rec x').bind fun y=>
 some (!y)
def Bc.l1 (s:(List Aa)) (f:Aa->Option (Bool)) (x8_1:Int):Option (Lp (Int) (Int)):=
 cond (decide (x8_1 < (s.length:Int)))
  ((C2 s x8_1).bind fun e=>
  (f e).bind fun y=>
  cond (y)
   (up (some x8_1))
   (some (.next (W (x8_1 + 1)))))
  (up (
   some (-1)))
def Bc (rec:Aa->Option (Bool)) (s:(List Aa)) (f:Aa->Option (Bool)):Option (Int):=
 C5 (fun q'=>Bc.l1 s f q') 0
def Cq (rec:Aa->Option (Bool)) (s:(List Aa)) (f:Aa->Option (Bool)):Option (Bool):=
 (Bc rec s f).bind fun y=>
 some (decide (0<=y))
def B2.j1 (rec:Aa->Option (Bool)) (v:Aa) (x36_1:Bool):Option (Bool):=
 cond (x36_1)
  (some false)
  ((Cq rec v.Elements (fun x0=>El rec x0)).bind fun y_2=>
  some (!y_2))
def B2.F (rec:Aa->Option (Bool)) (v:Aa):Option (Bool):=
 (Lr v.Tag).bind fun y=>
 cond (!y)
  (B2.j1 rec v true)
  (cond (!decide (v.Nested=(!decide ((dW .i64 v.Tag 32)=0))))
   (B2.j1 rec v true)
   (cond (v.Nested)
    (cond (decide (0 < (v.Bytes.length:Int)))
     (B2.j1 rec v true)
     (B2.j1 rec v false))
    (B2.j1 rec v (decide (0 < (v.Elements.length:Int))))))
def B2 (v:Aa):Option (Bool):=O0 (fun rec (x:Aa)=>B2.F (fun v=>rec v) x) v
def Ct.l1 (rec:Aa->Option (Int)) (v:Aa) (most_1:Int) (x9_1:Int):Option (Lp (Int×Int) (Int)):=
 cond (decide (x9_1 < (v.Elements.length:Int)))
  ((C2 v.Elements x9_1).bind fun e=>
  (rec e).bind fun y=>
  some (.next (max most_1 y,W (x9_1 + 1))))
  (up (
   some (W (most_1 + 1))))
def Ct.F (rec:Aa->Option (Int)) (v:Aa):Option (Int):=
 C5 (fun q'=>Ct.l1 rec v q'.1 q'.2) (0,0)
def Ct (v:Aa):Option (Int):=O0 (fun rec (x:Aa)=>Ct.F (fun v=>rec v) x) v
def Ch.l2 (n:Int) (i_2:Int) (b_2:List UInt8):Option (Lp (Int×List UInt8) ((List UInt8))):=
 cond (decide (0<=i_2))
  ((M3 .i64 n (W (8 * i_2))).bind fun q_2=>
  (Fk 1 b_2 ([(u8 q_2)]:List UInt8)).bind fun l_3=>
  some (.next (W (i_2 - 1),l_3)))
  (up (
   some b_2))
def Ch.l1 (b:List UInt8) (n:Int) (count_1:Int) (m_1:Int):Option (Lp (Int×Int) ((List UInt8))):=
 cond (decide (0 < m_1))
  ((M3 .i64 m_1 8).bind fun q=>
  some (.next (W (count_1 + 1),q)))
  (up (
   (Fk 1 b ([(u8 (W (128 + count_1)))]:List UInt8)).bind fun l_2=>
   C5 (fun q'=>Ch.l2 n q'.1 q'.2) (W (count_1 - 1),l_2)))
def Ch (b:List UInt8) (n:Int):Option ((List UInt8)):=
 cond (decide (n < 128))
  ((Fk 1 b ([(u8 n)]:List UInt8)).bind fun l=>
  some l)
  (C5 (fun q'=>Ch.l1 b n q'.1 q'.2) (0,n))
def Fp (rec:Aa->Option ((List UInt8))) (b:List UInt8) (v:Aa):Option ((List UInt8)):=
 (rec v).bind fun y=>
 (Fk 1 b ([(u8 v.Tag)]:List UInt8)).bind fun l=>
 (Ch l (y.length:Int)).bind fun y_2=>
 (Fk 1 y_2 y).bind fun l_2=>
 some l_2
def Bw.l1 (rec:Aa->Option ((List UInt8))) (v:Aa) (x14_1:Int) (out_1:List UInt8):Option (Lp (Int×List UInt8) ((List UInt8))):=
 cond (decide (x14_1 < (v.Elements.length:Int)))
  ((C2 v.Elements x14_1).bind fun e=>
  (Fp rec out_1 e).bind fun y=>
  some (.next (W (x14_1 + 1),y)))
  (up (
   some out_1))
def Bw.F (rec:Aa->Option ((List UInt8))) (v:Aa):Option ((List UInt8)):=
 cond (!v.Nested)
  (some v.Bytes)
  (C5 (fun q'=>Bw.l1 rec v q'.1 q'.2) (0,([]:List UInt8)))
def Bw (v:Aa):Option ((List UInt8)):=O0 (fun rec (x:Aa)=>Bw.F (fun v=>rec v) x) v
def Hg (v:Aa):Option ((List UInt8)):=
 (Bw v).bind fun y=>
 (Fk 1 ([]:List UInt8) ([(u8 v.Tag)]:List UInt8)).bind fun l=>
 (Ch l (y.length:Int)).bind fun y_2=>
 (Fk 1 y_2 y).bind fun l_2=>
 some l_2
def Hx (v:Aa):Option ((List UInt8)×Int):=
 (B2 v).bind fun y=>
 cond (!y)
  (some (([]:(List UInt8)),1))
  ((Ct v).bind fun y_2=>
  cond (decide (16 < y_2))
   (some (([]:(List UInt8)),3))
   ((Hg v).bind fun y_3=>
   cond (decide (4096 < (y_3.length:Int)))
    (some (([]:(List UInt8)),3))
    (some (y_3,0))))
def Cd.l1 (l:(List Ac)) (x12_1:Int) (entries_1:List Aa):Option (Lp (Int×List Aa) ((List UInt8)×Int)):=
 cond (decide (x12_1 < (l.length:Int)))
  ((C2 l x12_1).bind fun e=>
  (Cp e).bind fun y_2=>
  (Fk 256 entries_1 ([y_2]:List Aa)).bind fun l_2=>
  some (.next (W (x12_1 + 1),l_2)))
  (up (
   (Ib entries_1).bind fun y_3=>
   (Hx y_3).bind fun y_4=>
   some (y_4.1,y_4.2)))
def Cd (l:(List Ac)):Option ((List UInt8)×Int):=
 (Bl l).bind fun y=>
 cond (!decide (y=0))
  (some (([]:(List UInt8)),16))
  (C5 (fun q'=>Cd.l1 l q'.1 q'.2) (0,([]:List Aa)))
def B6.l2 (key:Ax) (id:Int) (chain:(List Ab)) (i_2:Int):Option (Lp (Int) (Bool)):=
 cond (decide (i_2 < (chain.length:Int)))
  ((C2 chain i_2).bind fun e=>
  (Au e).bind fun y_2=>
  cond (!decide (y_2=0))
   (up (some false))
   (some (.next (W (i_2 + 1)))))
  (up (
   cond (decide ((chain.length:Int)=0))
    (some true)
    ((C2 chain 0).bind fun e_2=>
    cond (decide (e_2.Key=key))
     (some (decide (e_2.KeyId=id)))
     (some false))))
def B6.j1 (key:Ax) (id:Int) (chain:(List Ab)) (x23_1:Bool):Option (Bool):=
 cond (x23_1)
  (some false)
  (C5 (fun q'=>B6.l2 key id chain q') 0)
def B6 (key:Ax) (id:Int) (chain:(List Ab)):Option (Bool):=
 (Ff key).bind fun y=>
 cond (!y)
  (B6.j1 key id chain true)
  (cond (decide (id < 0))
   (B6.j1 key id chain true)
   (cond (decide (2147483648 < id))
    (B6.j1 key id chain true)
    (B6.j1 key id chain (decide (8 < (chain.length:Int))))))
def B5.j2 (i_1:Int) (x56_2:Bool):Option (Lp (Int) (Int)):=
 cond (x56_2)
  (up (some 16))
  (some (.next (W (i_1 + 1))))
def B5.l1 (l:(List Ac)) (i_1:Int):Option (Lp (Int) (Int)):=
 cond (decide (i_1 < (l.length:Int)))
  ((C2 l i_1).bind fun e=>
  (Br e.Alias).bind fun y=>
  cond (!y)
   (B5.j2 i_1 true)
   (cond (decide (0 < i_1))
    ((C2 l (W (i_1 - 1))).bind fun e_2=>
    cond (!Ns (Hs e_2.Alias) (Hs e.Alias))
     (B5.j2 i_1 true)
     ((B6 e.Key e.KeyId e.Chain).bind fun y_2=>
     B5.j2 i_1 (!y_2)))
    ((B6 e.Key e.KeyId e.Chain).bind fun y_3=>
    B5.j2 i_1 (!y_3))))
  (up (
   some 0))
def B5 (l:(List Ac)):Option (Int):=
 cond (decide (64 < (l.length:Int)))
  (some 16)
  (C5 (fun q'=>B5.l1 l q') 0)
def G9 (c:Ab):Option (Aa):=
 (Bm c.Seal.Key).bind fun y=>
 (Bm c.Seal.Sum).bind fun y_2=>
 (De ([y,y_2]:List Aa)).bind fun y_3=>
 (Co c).bind fun y_4=>
 (De ([y_4,y_3]:List Aa)).bind fun y_5=>
 some y_5
def Da.l1 (e:Ac) (i_1:Int) (chain_1:List Aa):Option (Lp (Int×List Aa) (Aa)):=
 cond (decide (i_1 < (e.Chain.length:Int)))
  ((C2 e.Chain i_1).bind fun e_2=>
  (G9 e_2).bind fun y=>
  (Fk 256 chain_1 ([y]:List Aa)).bind fun l=>
  some (.next (W (i_1 + 1),l)))
  (up (
   (Bm e.Key.Alg).bind fun y_2=>
   (Bm e.Key.Bits).bind fun y_3=>
   (De ([y_2,y_3]:List Aa)).bind fun y_4=>
   (E1 e.Alias).bind fun y_8=>
   (Bm e.KeyId).bind fun y_9=>
   (Ik e.Secret).bind fun y_10=>
   (De chain_1).bind fun y_11=>
   (De ([y_8,y_4,y_9,y_10,y_11]:List Aa)).bind fun y_12=>
   some y_12))
def Da (e:Ac):Option (Aa):=
 C5 (fun q'=>Da.l1 e q'.1 q'.2) (0,([]:List Aa))
def C8.l1 (l:(List Ac)) (i_1:Int) (all_1:List Aa):Option (Lp (Int×List Aa) ((List UInt8)×Int)):=
 cond (decide (i_1 < (l.length:Int)))
  ((C2 l i_1).bind fun e=>
  (Da e).bind fun y_2=>
  (Fk 256 all_1 ([y_2]:List Aa)).bind fun l_2=>
  some (.next (W (i_1 + 1),l_2)))
  (up (
   (De all_1).bind fun y_3=>
   (Fw y_3).bind fun y_4=>
   some (y_4.1,y_4.2)))
def C8 (l:(List Ac)):Option ((List UInt8)×Int):=
 (B5 l).bind fun y=>
 cond (!decide (y=0))
  (some (([]:(List UInt8)),y))
  (C5 (fun q'=>C8.l1 l q'.1 q'.2) (0,([]:List Aa)))
def Cu.l1 (l:(List Ab)) (i_1:Int) (out_1:List Ab):Option (Lp (Int×List Ab) ((List Ab))):=
 cond (decide (i_1 < (l.length:Int)))
  ((C2 l i_1).bind fun e=>
  (G0 e).bind fun y=>
  (Fk 2280 out_1 ([y]:List Ab)).bind fun l_2=>
  some (.next (W (i_1 + 1),l_2)))
  (up (
   some out_1))
def Cu (l:(List Ab)):Option ((List Ab)):=
 C5 (fun q'=>Cu.l1 l q'.1 q'.2) (0,([]:List Ab))
def Fx (e:Ac):Option (Ac):=
 (Cu e.Chain).bind fun y=>
 some (Ac.mk e.Alias e.Key e.KeyId e.Secret y)
def Ar.j6 (b:(List Ac)) (k_2:Int) (out_2:List Ac) (i_6:Int):Option (Lp (Int×Int×List Ac) ((List Ac)×Int)):=
 (C2 b k_2).bind fun e_6=>
 (Fx e_6).bind fun y_4=>
 (Fk 432 out_2 ([y_4]:List Ac)).bind fun l_2=>
 some (.next (i_6,W (k_2 + 1),l_2))
def Ar.j5 (b:(List Ac)) (i_2:Int) (k_2:Int) (out_2:List Ac) (x76_5:Bool):Option (Lp (Int×Int×List Ac) ((List Ac)×Int)):=
 cond (x76_5)
  (Ar.j6 b k_2 out_2 (W (i_2 + 1)))
  (Ar.j6 b k_2 out_2 i_2)
def Ar.j4 (a:(List Ac)) (b:(List Ac)) (i_2:Int) (k_2:Int) (out_2:List Ac) (x49_4:Bool):Option (Lp (Int×Int×List Ac) ((List Ac)×Int)):=
 cond (x49_4)
  ((C2 a i_2).bind fun e_3=>
  (Fx e_3).bind fun y_3=>
  (Fk 432 out_2 ([y_3]:List Ac)).bind fun l=>
  some (.next (W (i_2 + 1),k_2,l)))
  (cond (decide (i_2 < (a.length:Int)))
   ((C2 a i_2).bind fun e_4=>
   (C2 b k_2).bind fun e_5=>
   Ar.j5 b i_2 k_2 out_2 (decide (e_4.Alias=e_5.Alias)))
   (Ar.j5 b i_2 k_2 out_2 false))
def Ar.j3 (a:(List Ac)) (b:(List Ac)) (i_2:Int) (k_2:Int) (out_2:List Ac) (x26_3:Bool):Option (Lp (Int×Int×List Ac) ((List Ac)×Int)):=
 cond (x26_3)
  (cond (decide (k_2=(b.length:Int)))
   (Ar.j4 a b i_2 k_2 out_2 true)
   (cond (decide (i_2 < (a.length:Int)))
    ((C2 a i_2).bind fun e=>
    (C2 b k_2).bind fun e_2=>
    Ar.j4 a b i_2 k_2 out_2 (Ns (Hs e.Alias) (Hs e_2.Alias)))
    (Ar.j4 a b i_2 k_2 out_2 false)))
  (up (
   cond (decide (64 < (out_2.length:Int)))
    (some (([]:(List Ac)),3))
    (some (out_2,0))))
def Ar.l2 (a:(List Ac)) (b:(List Ac)) (i_2:Int) (k_2:Int) (out_2:List Ac):Option (Lp (Int×Int×List Ac) ((List Ac)×Int)):=
 cond (decide (i_2 < (a.length:Int)))
  (Ar.j3 a b i_2 k_2 out_2 true)
  (Ar.j3 a b i_2 k_2 out_2 (decide (k_2 < (b.length:Int))))
def Ar.j1 (a:(List Ac)) (b:(List Ac)) (x16_1:Bool):Option ((List Ac)×Int):=
 cond (x16_1)
  (some (([]:(List Ac)),16))
  (C5 (fun q'=>Ar.l2 a b q'.1 q'.2.1 q'.2.2) (0,0,([]:List Ac)))
def Ar (a:(List Ac)) (b:(List Ac)):Option ((List Ac)×Int):=
 (B5 a).bind fun y=>
 cond (!decide (y=0))
  (Ar.j1 a b true)
  ((B5 b).bind fun y_2=>
  Ar.j1 a b (!decide (y_2=0)))
def Dz.l1 (l:(List Ac)) (alias:ByteArray) (i_1:Int):Option (Lp (Int) (Ac×Bool)):=
 cond (decide (i_1 < (l.length:Int)))
  ((C2 l i_1).bind fun e=>
  cond (decide (e.Alias=alias))
   ((Fx e).bind fun y=>
   up (some (y,true)))
   (some (.next (W (i_1 + 1)))))
  (up (
   some ((Ac.mk (⟨#[]⟩:ByteArray) (Ax.mk 0 0) 0 false ([]:(List Ab))),false)))
def Dz (l:(List Ac)) (alias:ByteArray):Option (Ac×Bool):=
 C5 (fun q'=>Dz.l1 l alias q') 0
def Dl.l1 (a:(List ByteArray)) (b:(List ByteArray)) (i_1:Int):Option (Lp (Int) (Bool)):=
 cond (decide (i_1 < (a.length:Int)))
  ((C2 a i_1).bind fun e=>
  (C2 b i_1).bind fun e_2=>
  cond (!decide (e=e_2))
   (up (some false))
   (some (.next (W (i_1 + 1)))))
  (up (
   some true))
def Dl (a:(List ByteArray)) (b:(List ByteArray)):Option (Bool):=
 cond (!decide ((a.length:Int)=(b.length:Int)))
  (some false)
  (C5 (fun q'=>Dl.l1 a b q') 0)
def Im (a:Ab) (b:Ab):Option (Bool):=
 cond (decide (a.Serial=b.Serial))
  (cond (decide (a.Issuer=b.Issuer))
   (cond (decide (a.Subject=b.Subject))
    (cond (decide (a.Key=b.Key))
     (cond (decide (a.KeyId=b.KeyId))
      (cond (decide (a.Hash=b.Hash))
       (cond (decide (a.From=b.From))
        (cond (decide (a.To=b.To))
         (cond (decide (a.Authority=b.Authority))
          (cond (decide (a.Path=b.Path))
           ((Dl a.Names b.Names).bind fun y=>
           cond (y)
            (some (decide (a.Seal=b.Seal)))
            (some false))
           (some false))
          (some false))
         (some false))
        (some false))
       (some false))
      (some false))
     (some false))
    (some false))
   (some false))
  (some false)
def C6.l1 (a:(List Ab)) (b:(List Ab)) (i_1:Int):Option (Lp (Int) (Bool)):=
 cond (decide (i_1 < (a.length:Int)))
  ((C2 a i_1).bind fun e=>
  (C2 b i_1).bind fun e_2=>
  (Im e e_2).bind fun y=>
  cond (!y)
   (up (some false))
   (some (.next (W (i_1 + 1)))))
  (up (
   some true))
def C6 (a:(List Ab)) (b:(List Ab)):Option (Bool):=
 cond (!decide ((a.length:Int)=(b.length:Int)))
  (some false)
  (C5 (fun q'=>C6.l1 a b q') 0)
def Cc.j2 (i_1:Int) (x80_2:Bool):Option (Lp (Int) (Bool)):=
 cond (x80_2)
  (up (some false))
  (some (.next (W (i_1 + 1))))
def Cc.l1 (a:(List Ac)) (b:(List Ac)) (i_1:Int):Option (Lp (Int) (Bool)):=
 cond (decide (i_1 < (a.length:Int)))
  ((C2 a i_1).bind fun e=>
  (C2 b i_1).bind fun e_2=>
  cond (!decide (e.Alias=e_2.Alias))
   (Cc.j2 i_1 true)
   (cond (!decide (e.Key=e_2.Key))
    (Cc.j2 i_1 true)
    (cond (!decide (e.KeyId=e_2.KeyId))
     (Cc.j2 i_1 true)
     (cond (!decide (e.Secret=e_2.Secret))
      (Cc.j2 i_1 true)
      ((C6 e.Chain e_2.Chain).bind fun y=>
      Cc.j2 i_1 (!y))))))
  (up (
   some true))
def Cc (a:(List Ac)) (b:(List Ac)):Option (Bool):=
 cond (!decide ((a.length:Int)=(b.length:Int)))
  (some false)
  (C5 (fun q'=>Cc.l1 a b q') 0)
def Cr.l1 (s1:(List ByteArray)) (s2:(List ByteArray)) (x13_1:Int):Option (Lp (Int) (Bool)):=
 cond (decide (x13_1 < (s1.length:Int)))
  ((C2 s1 x13_1).bind fun e=>
  (C2 s2 x13_1).bind fun e_2=>
  cond (!decide (e=e_2))
   (up (some false))
   (some (.next (W (x13_1 + 1)))))
  (up (
   some true))
def Cr (s1:(List ByteArray)) (s2:(List ByteArray)):Option (Bool):=
 cond (!decide ((s1.length:Int)=(s2.length:Int)))
  (some false)
  (C5 (fun q'=>Cr.l1 s1 s2 q') 0)
def Be.j2 (a:Ab) (b:Ab) (named_1:Bool) (keys_2:Bool):Option (Bool):=
 cond (named_1)
  (cond (keys_2)
   (cond (decide (a.From=b.From))
    (cond (decide (a.To=b.To))
     (cond (decide (a.Authority=b.Authority))
      (some (decide (a.Path=b.Path)))
      (some false))
     (some false))
    (some false))
   (some false))
  (some false)
def Be.j1 (a:Ab) (b:Ab) (named_1:Bool):Option (Bool):=
 cond (decide (a.Key=b.Key))
  (cond (decide (a.KeyId=b.KeyId))
   (cond (decide (a.Hash=b.Hash))
    (Be.j2 a b named_1 (decide (a.Seal=b.Seal)))
    (Be.j2 a b named_1 false))
   (Be.j2 a b named_1 false))
  (Be.j2 a b named_1 false)
def Be (a:Ab) (b:Ab):Option (Bool):=
 cond (decide (a.Serial=b.Serial))
  (cond (decide (a.Issuer=b.Issuer))
   (cond (decide (a.Subject=b.Subject))
    ((Cr a.Names b.Names).bind fun y=>
    Be.j1 a b y)
    (Be.j1 a b false))
   (Be.j1 a b false))
  (Be.j1 a b false)
def Aw.l1 (s1:(List Ab)) (s2:(List Ab)) (eq:Ab->Ab->Option (Bool)) (x17_1:Int):Option (Lp (Int) (Bool)):=
 cond (decide (x17_1 < (s1.length:Int)))
  ((C2 s1 x17_1).bind fun e=>
  (C2 s2 x17_1).bind fun e_2=>
  (eq e e_2).bind fun y=>
  cond (!y)
   (up (some false))
   (some (.next (W (x17_1 + 1)))))
  (up (
   some true))
def Aw (s1:(List Ab)) (s2:(List Ab)) (eq:Ab->Ab->Option (Bool)):Option (Bool):=
 cond (!decide ((s1.length:Int)=(s2.length:Int)))
  (some false)
  (C5 (fun q'=>Aw.l1 s1 s2 eq q') 0)
def Dn (x':Ac) (y:Ac):Option (Bool):=
 cond (decide (x'.Alias=y.Alias))
  (cond (decide (x'.Key=y.Key))
   (cond (decide (x'.KeyId=y.KeyId))
    (cond (decide (x'.Secret=y.Secret))
     ((Aw x'.Chain y.Chain (fun x0 x1=>Be x0 x1)).bind fun y_2=>
     some y_2)
     (some false))
    (some false))
   (some false))
  (some false)
def A8.l1 (s1:(List Ac)) (s2:(List Ac)) (eq:Ac->Ac->Option (Bool)) (x17_1:Int):Option (Lp (Int) (Bool)):=
 cond (decide (x17_1 < (s1.length:Int)))
  ((C2 s1 x17_1).bind fun e=>
  (C2 s2 x17_1).bind fun e_2=>
  (eq e e_2).bind fun y=>
  cond (!y)
   (up (some false))
   (some (.next (W (x17_1 + 1)))))
  (up (
   some true))
def A8 (s1:(List Ac)) (s2:(List Ac)) (eq:Ac->Ac->Option (Bool)):Option (Bool):=
 cond (!decide ((s1.length:Int)=(s2.length:Int)))
  (some false)
  (C5 (fun q'=>A8.l1 s1 s2 eq q') 0)
def F5 (a:(List Ac)) (b:(List Ac)):Option (Bool):=
 (A8 a b (fun x0 x1=>Dn x0 x1)).bind fun y=>
 some y
def Cf.j1 (l:(List Int)) (alias:ByteArray) (x28_1:Bool):Option (Bool):=
 cond (x28_1)
  ((Ha).bind fun y_2=>
  some y_2)
  ((K1 l).bind fun y_3=>
  (Ek y_3).bind fun y_4=>
  (Ek y_4.2).bind fun y_5=>
  (Cd y_4.1).bind fun y_6=>
  (C8 y_4.1).bind fun y_7=>
  (Az y_4.1 y_5.1).bind fun y_8=>
  (Ar y_4.1 y_5.1).bind fun y_9=>
  (Fr y_5.2 ([(⟨#[107,49]⟩:ByteArray),(⟨#[107,50]⟩:ByteArray),(⟨#[122,122]⟩:ByteArray),alias]:List ByteArray)).bind fun y_10=>
  (E8 y_4.1 y_10.1).bind fun y_11=>
  (Dz y_4.1 y_10.1).bind fun y_12=>
  (Bl y_4.1).bind fun y_13=>
  (B5 y_4.1).bind fun y_14=>
  cond (decide (y_13=y_14))
   (cond (decide (y_6.2=y_7.2))
    (cond (decide ((uI y_6.1)=(uI y_7.1)))
     (cond (decide (y_8.2=y_9.2))
      ((Cc y_8.1 y_9.1).bind fun y_15=>
      cond (y_15)
       (cond (decide (y_11.2=y_12.2))
        ((Cc ([y_11.1]:List Ac) ([y_12.1]:List Ac)).bind fun y_16=>
        cond (y_16)
         ((F5 y_4.1 y_5.1).bind fun y_17=>
         (Cc y_4.1 y_5.1).bind fun y_18=>
         cond (decide (y_17=y_18))
          ((F5 y_4.1 y_4.1).bind fun y_19=>
          cond (y_19)
           ((Ha).bind fun y_20=>
           some y_20)
           (some false))
          (some false))
         (some false))
        (some false))
       (some false))
      (some false))
     (some false))
    (some false))
   (some false))
def Cf (l:(List Int)) (alias:ByteArray):Option (Bool):=
 (J2 l).bind fun y=>
 cond (!y)
  (Cf.j1 l alias true)
  (Cf.j1 l alias (decide (100 < (alias.size:Int))))
end
end Go.Proofs.YtfanepojdefdpaaGreat
