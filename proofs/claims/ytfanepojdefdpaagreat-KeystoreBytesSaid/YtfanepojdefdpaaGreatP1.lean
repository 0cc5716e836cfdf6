import Derived.Test.YtfanepojdefdpaaGreatPU
set_option linter.unusedVariables false
set_option linter.unusedSimpArgs false
namespace Go.Proofs.YtfanepojdefdpaaGreat
noncomputable section
structure Al where
 L:(List Int)
 At:Int
 deriving DecidableEq,Inhabited
structure Aw where
 Alg:Int
 Bits:Int
 deriving DecidableEq,Inhabited
structure Ct where
 Key:Int
 Sum:Int
 deriving DecidableEq,Inhabited
structure Ab where
 Serial:Int
 Issuer:ByteArray
 Subject:ByteArray
 Key:Aw
 KeyId:Int
 Hash:Aw
 From:Int
 To:Int
 Authority:Bool
 Path:Int
 Names:(List ByteArray)
 Seal:Ct
 deriving DecidableEq,Inhabited
structure Ac where
 Alias:ByteArray
 Key:Aw
 KeyId:Int
 Secret:Bool
 Chain:(List Ab)
 deriving DecidableEq,Inhabited
structure Aa where
 Tag:Int
 Bytes:(List UInt8)
 Nested:Bool
 Elements:(List Aa)
structure Bt where
 name:ByteArray
 kind:Int
 way:Int
 sizes:(List Int)
 strengths:(List Int)
 deriving DecidableEq,Inhabited
structure Ap where
 name:ByteArray
 kind:Int
 deriving DecidableEq,Inhabited
structure Aj where
 l:(List Aa)
 Failed:Bool
structure Ad where
 L:(List Aa)
 At:Int
 OK:Bool
def Mc (l:(List Int)):Option (Bool):=
 some (decide ((l.length:Int)<=400))
def B6.j2 (x8_1:Int) (x17_2:Bool):Option (Lp (Int) (Bool)):=
 cond (x17_2)
  (up (some false))
  (some (.next (W (x8_1 + 1))))
def B6.l1 (s:ByteArray) (x8_1:Int):Option (Lp (Int) (Bool)):=
 cond (decide (x8_1 < ((J7 s).length:Int)))
  ((C4 (J7 s) x8_1).bind fun e=>
  cond (decide ((e.toNat:Int)<=32))
   (B6.j2 x8_1 true)
   (B6.j2 x8_1 (decide (126 < (e.toNat:Int)))))
  (up (
   cond (decide (1<=(s.size:Int)))
    (some (decide ((s.size:Int)<=32)))
    (some false)))
def B6 (s:ByteArray):Option (Bool):=
 Dp (fun q'=>B6.l1 s q') 0
def Mw:Option ((List Bt)):=
 some ([(Bt.mk (⟨#[]⟩:ByteArray) 0 0 ([]:(List Int)) ([]:(List Int))),(Bt.mk (⟨#[109,100,53]⟩:ByteArray) 1 0 ([]:(List Int)) ([18]:List Int)),(Bt.mk (⟨#[115,104,97,49]⟩:ByteArray) 1 0 ([]:(List Int)) ([60]:List Int)),(Bt.mk (⟨#[115,104,97,50,53,54]⟩:ByteArray) 1 0 ([]:(List Int)) ([128]:List Int)),(Bt.mk (⟨#[115,104,97,51,56,52]⟩:ByteArray) 1 0 ([]:(List Int)) ([192]:List Int)),(Bt.mk (⟨#[114,115,97]⟩:ByteArray) 2 1 ([]:(List Int)) ([]:(List Int))),(Bt.mk (⟨#[100,115,97]⟩:ByteArray) 2 1 ([]:(List Int)) ([]:(List Int))),(Bt.mk (⟨#[101,99,100,115,97]⟩:ByteArray) 2 2 ([]:(List Int)) ([]:(List Int))),(Bt.mk (⟨#[101,100,50,53,53,49,57]⟩:ByteArray) 2 0 ([]:(List Int)) ([128]:List Int)),(Bt.mk (⟨#[109,108,100,115,97]⟩:ByteArray) 2 3 ([44,65,87]:List Int) ([128,192,256]:List Int)),(Bt.mk (⟨#[114,115,97,107,120]⟩:ByteArray) 3 1 ([]:(List Int)) ([]:(List Int))),(Bt.mk (⟨#[100,104,101]⟩:ByteArray) 3 1 ([]:(List Int)) ([]:(List Int))),(Bt.mk (⟨#[101,99,100,104,101]⟩:ByteArray) 3 2 ([]:(List Int)) ([]:(List Int))),(Bt.mk (⟨#[109,108,107,101,109]⟩:ByteArray) 3 3 ([512,768,1024]:List Int) ([128,192,256]:List Int)),(Bt.mk (⟨#[114,99,52]⟩:ByteArray) 4 3 ([40,128]:List Int) ([40,60]:List Int)),(Bt.mk (⟨#[100,101,115,51]⟩:ByteArray) 4 3 ([112,168]:List Int) ([80,112]:List Int)),(Bt.mk (⟨#[97,101,115,99,98,99]⟩:ByteArray) 4 3 ([128,256]:List Int) ([128,256]:List Int)),(Bt.mk (⟨#[97,101,115,103,99,109]⟩:ByteArray) 4 3 ([128,256]:List Int) ([128,256]:List Int)),(Bt.mk (⟨#[99,104,97,99,104,97]⟩:ByteArray) 4 0 ([]:(List Int)) ([256]:List Int)),(Bt.mk (⟨#[104,109,97,99,109,100,53]⟩:ByteArray) 5 0 ([]:(List Int)) ([64]:List Int)),(Bt.mk (⟨#[104,109,97,99,115,104,97,49]⟩:ByteArray) 5 0 ([]:(List Int)) ([80]:List Int)),(Bt.mk (⟨#[104,109,97,99,115,104,97,50,53,54]⟩:ByteArray) 5 0 ([]:(List Int)) ([128]:List Int)),(Bt.mk (⟨#[97,101,97,100]⟩:ByteArray) 5 0 ([]:(List Int)) ([256]:List Int))]:List Bt)
def Eg.j1 (alg:Int) (x9_1:Bool):Option (Bt×Bool):=
 cond (x9_1)
  (some ((Bt.mk (⟨#[]⟩:ByteArray) 0 0 ([]:(List Int)) ([]:(List Int))),false))
  ((Mw).bind fun y=>
  (C4 (aC1 23 y) alg).bind fun e=>
  some (e,true))
def Eg (alg:Int):Option (Bt×Bool):=
 cond (decide (alg < 1))
  (Eg.j1 alg true)
  (Eg.j1 alg (decide (22 < alg)))
def C7.l1 (bits:Int) (x11_1:Int):Option (Lp (Int) (Int)):=
 cond (decide (x11_1 < 5))
  ((C4 ([([1024,56]:List Int),([2048,80]:List Int),([3072,112]:List Int),([7680,128]:List Int),([15360,192]:List Int)]:List (List Int)) x11_1).bind fun e=>
  cond (decide (bits < (e[0]!)))
   (up (some (e[1]!)))
   (some (.next (W (x11_1 + 1)))))
  (up (
   some 256))
def C7 (bits:Int):Option (Int):=
 Dp (fun q'=>C7.l1 bits q') 0
def B0.l1 (s:(List Int)) (v:Int) (x8_1:Int):Option (Lp (Int) (Int)):=
 cond (decide (x8_1 < (s.length:Int)))
  ((C4 s x8_1).bind fun e=>
  cond (decide (v=e))
   (up (some x8_1))
   (some (.next (W (x8_1 + 1)))))
  (up (
   some (-1)))
def B0 (s:(List Int)) (v:Int):Option (Int):=
 Dp (fun q'=>B0.l1 s v q') 0
def Ez (s:(List Int)) (v:Int):Option (Bool):=
 (B0 s v).bind fun y=>
 some (decide (0<=y))
def Ax.j1 (u:Aw) (x34_1:Bool):Option (Int):=
 cond (x34_1)
  ((C7 u.Bits).bind fun y_2=>
  some y_2)
  (some 0)
def Ax (u:Aw):Option (Int):=
 (Eg u.Alg).bind fun y=>
 cond (!y.2)
  (some 0)
  (cond (decide (y.1.way=0))
   (cond (decide (u.Bits=0))
    ((C4 y.1.strengths 0).bind fun e=>
    some e)
    (some 0))
   (cond (decide (y.1.way=1))
    (cond (decide (512<=u.Bits))
     (Ax.j1 u (decide (u.Bits<=16384)))
     (Ax.j1 u false))
    (cond (decide (y.1.way=2))
     ((Ez ([160,224,256,384,521]:List Int) u.Bits).bind fun y_3=>
     cond (y_3)
      ((Sd u.Bits 2).bind fun q=>
      some q)
      (some 0))
     (cond (decide (y.1.way=3))
      ((B0 y.1.sizes u.Bits).bind fun y_4=>
      cond (decide (0<=y_4))
       ((C4 y.1.strengths y_4).bind fun e_2=>
       some e_2)
       (some 0))
      (some 0)))))
def Hz (u:Aw):Option (Bool):=
 (Ax u).bind fun y=>
 some (decide (0 < y))
def If (alg:Int):Option (Int):=
 (Eg alg).bind fun y=>
 some y.1.kind
def Gb (n:Int):Option (Bool):=
 cond (decide (0<=n))
  (some (decide (n<=2147483648)))
  (some false)
def Bs.j2 (x7_1:Int) (x27_2:Bool):Option (Lp (Int) (Bool)):=
 cond (x27_2)
  (up (some false))
  (some (.next (W (x7_1 + 1))))
def Bs.l1 (l:(List ByteArray)) (x7_1:Int):Option (Lp (Int) (Bool)):=
 cond (decide (x7_1 < (l.length:Int)))
  ((C4 l x7_1).bind fun e=>
  (B6 e).bind fun y=>
  cond (!y)
   (Bs.j2 x7_1 true)
   (cond (decide (0 < x7_1))
    ((C4 l (W (x7_1 - 1))).bind fun e_2=>
    Bs.j2 x7_1 (!Q3 (J7 e_2) (J7 e)))
    (Bs.j2 x7_1 false)))
  (up (
   some (decide ((l.length:Int)<=8))))
def Bs (l:(List ByteArray)):Option (Bool):=
 Dp (fun q'=>Bs.l1 l q') 0
def Hh (u:Aw) (kind:Int):Option (Bool):=
 (Hz u).bind fun y=>
 cond (y)
  ((If u.Alg).bind fun y_2=>
  some (decide (y_2=kind)))
  (some false)
def H2 (n:Int):Option (Bool):=
 cond (decide (0<=n))
  (some (decide (n < 4294967296)))
  (some false)
def A5.j3 (c:Ab) (x73_3:Bool):Option (Bool):=
 cond (x73_3)
  (some false)
  (cond (decide (0<=c.Path))
   (cond (decide (c.Path<=8))
    (cond (c.Authority)
     (some true)
     (some (decide (c.Path=0))))
    (some false))
   (some false))
def A5.j2 (c:Ab) (x58_2:Bool):Option (Bool):=
 cond (x58_2)
  (some false)
  (cond (decide (c.From < 0))
   (A5.j3 c true)
   (cond (decide (c.To < c.From))
    (A5.j3 c true)
    (A5.j3 c (decide (40000 < c.To)))))
def A5.j1 (c:Ab) (x28_1:Bool):Option (Bool):=
 cond (x28_1)
  (some false)
  ((Hh c.Key 2).bind fun y_4=>
  cond (!y_4)
   (A5.j2 c true)
   ((Gb c.KeyId).bind fun y_5=>
   cond (!y_5)
    (A5.j2 c true)
    ((Hh c.Hash 1).bind fun y_6=>
    cond (!y_6)
     (A5.j2 c true)
     ((Gb c.Seal.Key).bind fun y_7=>
     cond (!y_7)
      (A5.j2 c true)
      ((H2 c.Seal.Sum).bind fun y_8=>
      A5.j2 c (!y_8))))))
def A5 (c:Ab):Option (Bool):=
 cond (decide (c.Serial < 0))
  (A5.j1 c true)
  (cond (decide (1099511627776 < c.Serial))
   (A5.j1 c true)
   ((B6 c.Issuer).bind fun y=>
   cond (!y)
    (A5.j1 c true)
    ((B6 c.Subject).bind fun y_2=>
    cond (!y_2)
     (A5.j1 c true)
     ((Bs c.Names).bind fun y_3=>
     A5.j1 c (!y_3)))))
def G2 (c:Ab):Option (Int):=
 (A5 c).bind fun y=>
 cond (!y)
  (some 9)
  (some 0)
def Bx.l2 (key:Aw) (id:Int) (l:(List Ab)) (x30_2:Int):Option (Lp (Int) (Bool)):=
 cond (decide (x30_2 < (l.length:Int)))
  ((C4 l x30_2).bind fun e=>
  (G2 e).bind fun y_4=>
  cond (!decide (y_4=0))
   (up (some false))
   (some (.next (W (x30_2 + 1)))))
  (up (
   cond (decide ((l.length:Int)=0))
    (some true)
    ((C4 l 0).bind fun e_2=>
    cond (decide (e_2.Key=key))
     (some (decide (e_2.KeyId=id)))
     (some false))))
def Bx.j1 (key:Aw) (id:Int) (l:(List Ab)) (x27_1:Bool):Option (Bool):=
 cond (x27_1)
  (some false)
  (Dp (fun q'=>Bx.l2 key id l q') 0)
def Bx (key:Aw) (id:Int) (l:(List Ab)):Option (Bool):=
 (Hz key).bind fun y=>
 cond (!y)
  (Bx.j1 key id l true)
  ((If key.Alg).bind fun y_2=>
  cond (!decide (y_2=2))
   (Bx.j1 key id l true)
   ((Gb id).bind fun y_3=>
   cond (!y_3)
    (Bx.j1 key id l true)
    (Bx.j1 key id l (decide (8 < (l.length:Int))))))
def By.j2 (x7_1:Int) (x40_2:Bool):Option (Lp (Int) (Int)):=
 cond (x40_2)
  (up (some 16))
  (some (.next (W (x7_1 + 1))))
def By.l1 (l:(List Ac)) (x7_1:Int):Option (Lp (Int) (Int)):=
 cond (decide (x7_1 < (l.length:Int)))
  ((C4 l x7_1).bind fun e=>
  (B6 e.Alias).bind fun y=>
  cond (!y)
   (By.j2 x7_1 true)
   (cond (decide (0 < x7_1))
    ((C4 l (W (x7_1 - 1))).bind fun e_2=>
    cond (!Q3 (J7 e_2.Alias) (J7 e.Alias))
     (By.j2 x7_1 true)
     ((Bx e.Key e.KeyId e.Chain).bind fun y_2=>
     By.j2 x7_1 (!y_2)))
    ((Bx e.Key e.KeyId e.Chain).bind fun y_3=>
    By.j2 x7_1 (!y_3))))
  (up (
   cond (decide (64 < (l.length:Int)))
    (some 16)
    (some 0)))
def By (l:(List Ac)):Option (Int):=
 Dp (fun q'=>By.l1 l q') 0
def Hn (x':Ac) (c0:ByteArray):Option (Bool):=
 some (decide (x'.Alias=c0))
def Ba.l1 (s:(List Ac)) (f:Ac->Option (Bool)) (x8_1:Int):Option (Lp (Int) (Int)):=
 cond (decide (x8_1 < (s.length:Int)))
  ((C4 s x8_1).bind fun e=>
  (f e).bind fun y=>
  cond (y)
   (up (some x8_1))
   (some (.next (W (x8_1 + 1)))))
  (up (
   some (-1)))
def Ba (s:(List Ac)) (f:Ac->Option (Bool)):Option (Int):=
 Dp (fun q'=>Ba.l1 s f q') 0
def C1.j1 (s:(List ByteArray)) (x4_1:Bool):Option ((List ByteArray)):=
 cond (x4_1)
  (some ([]:(List ByteArray)))
  ((Gl 16 ([]:List ByteArray) s).bind fun l=>
  some l)
def C1 (s:(List ByteArray)):Option ((List ByteArray)):=
 Ze (s)
  (C1.j1 s true)
  (C1.j1 s false)
def Da.l1 (l:(List Ab)) (x8_1:Int) (out_1:List Ab):Option (Lp (Int×List Ab) ((List Ab))):=
 cond (decide (x8_1 < (l.length:Int)))
  ((C4 l x8_1).bind fun e=>
  (C1 e.Names).bind fun y=>
  (Gl 2280 out_1 ([(Ab.mk e.Serial e.Issuer e.Subject e.Key e.KeyId e.Hash e.From e.To e.Authority e.Path y e.Seal)]:List Ab)).bind fun l_2=>
  some (.next (W (x8_1 + 1),l_2)))
  (up (
   some out_1))
def Da (l:(List Ab)):Option ((List Ab)):=
 Dp (fun q'=>Da.l1 l q'.1 q'.2) (0,([]:List Ab))
def Ig (x':Ac):Option (Ac):=
 (Da x'.Chain).bind fun y=>
 some (Ac.mk x'.Alias x'.Key x'.KeyId x'.Secret y)
def Gx (l:(List Ac)) (alias:ByteArray):Option (Ac×Bool):=
 (Ba l (fun x0=>Hn x0 alias)).bind fun y=>
 cond (decide (y < 0))
  (some ((Ac.mk (⟨#[]⟩:ByteArray) (Aw.mk 0 0) 0 false ([]:(List Ab))),false))
  ((C4 l y).bind fun e=>
  (Ig e).bind fun y_2=>
  some (y_2,true))
def A9.j3 (x_3:Int) (n_3:Int):Option (Int):=
 (idxT (⟨#[0,1,2,2,3,3,3,3,4,4,4,4,4,4,4,4,5,5,5,5,5,5,5,5,5,5,5,5,5,5,5,5,6,6,6,6,6,6,6,6,6,6,6,6,6,6,6,6,6,6,6,6,6,6,6,6,6,6,6,6,6,6,6,6,7,7,7,7,7,7,7,7,7,7,7,7,7,7,7,7,7,7,7,7,7,7,7,7,7,7,7,7,7,7,7,7,7,7,7,7,7,7,7,7,7,7,7,7,7,7,7,7,7,7,7,7,7,7,7,7,7,7,7,7,7,7,7,7,8,8,8,8,8,8,8,8,8,8,8,8,8,8,8,8,8,8,8,8,8,8,8,8,8,8,8,8,8,8,8,8,8,8,8,8,8,8,8,8,8,8,8,8,8,8,8,8,8,8,8,8,8,8,8,8,8,8,8,8,8,8,8,8,8,8,8,8,8,8,8,8,8,8,8,8,8,8,8,8,8,8,8,8,8,8,8,8,8,8,8,8,8,8,8,8,8,8,8,8,8,8,8,8,8,8,8,8,8,8,8,8,8,8,8,8,8,8,8,8,8,8,8,8,8,8,8,8]⟩:ByteArray) ((u8 x_3).toNat:Int)).bind fun c=>
 some (W (n_3 + (c.toNat:Int)))
def A9.j2 (x_2:Int) (n_2:Int):Option (Int):=
 cond (decide (256<=x_2))
  ((Sa .u64 x_2 8).bind fun q_3=>
  A9.j3 q_3 (W (n_2 + 8)))
  (A9.j3 x_2 n_2)
def A9.j1 (x_1:Int) (n_1:Int):Option (Int):=
 cond (decide (65536<=x_1))
  ((Sa .u64 x_1 16).bind fun q_2=>
  A9.j2 q_2 (W (n_1 + 16)))
  (A9.j2 x_1 n_1)
def A9 (x':Int):Option (Int):=
 cond (decide (4294967296<=x'))
  ((Sa .u64 x' 32).bind fun q=>
  A9.j1 q 32)
  (A9.j1 x' 0)
def Hv (x':Int):Option (Int):=
 (A9 x').bind fun y=>
 some y
def Fl (x':Ac) (y:Ac):Option (Int):=
 cond (Q3 (J7 x'.Alias) (J7 y.Alias))
  (some (-1))
  (some 1)
def Am.j3 (i_1:Int) (j_2:Int) (data_2:List Ac) (x34_3:Bool):Option (Lp (Int×List Ac) (Lp (Int×List Ac) ((List Ac)))):=
 cond (x34_3)
  ((C4 data_2 (W (j_2 - 1))).bind fun e_3=>
  (C4 data_2 j_2).bind fun e_4=>
  (C4 (Jy data_2 ((j_2).toNat) e_3) (W (j_2 - 1))).bind fun e_5=>
  some (.next (W (j_2 - 1),Jy (Jy data_2 ((j_2).toNat) e_3) ((W (j_2 - 1)).toNat) e_4)))
  (up (
   some (.next (W (i_1 + 1),data_2))))
def Am.l2 (a:Int) (cmp:Ac->Ac->Option (Int)) (i_1:Int) (j_2:Int) (data_2:List Ac):Option (Lp (Int×List Ac) (Lp (Int×List Ac) ((List Ac)))):=
 cond (decide (a < j_2))
  ((C4 data_2 j_2).bind fun e=>
  (C4 data_2 (W (j_2 - 1))).bind fun e_2=>
  (cmp e e_2).bind fun y=>
  Am.j3 i_1 j_2 data_2 (decide (y < 0)))
  (Am.j3 i_1 j_2 data_2 false)
def Am.l1 (a:Int) (b:Int) (cmp:Ac->Ac->Option (Int)) (i_1:Int) (data_1:List Ac):Option (Lp (Int×List Ac) ((List Ac))):=
 cond (decide (i_1 < b))
  (Dp (fun q'=>Am.l2 a cmp i_1 q'.1 q'.2) (i_1,data_1))
  (up (some data_1))
def Am (data:List Ac) (a:Int) (b:Int) (cmp:Ac->Ac->Option (Int)):Option ((List Ac)):=
 Dp (fun q'=>Am.l1 a b cmp q'.1 q'.2) (W (a + 1),data)
def A8.l1 (data:List Ac) (a:Int) (b:Int) (limit:Int) (cmp:Ac->Ac->Option (Int)):Option (Lp (Unit) ((List Ac))):=
 cond (decide ((W (b - a))<=12))
  ((Am data a b cmp).bind fun y=>
  up (some y))
  (cond (decide (limit=0))
   (none)
   (none))
def A8 (data:List Ac) (a:Int) (b:Int) (limit:Int) (cmp:Ac->Ac->Option (Int)):Option ((List Ac)):=
 Dp (fun _=>A8.l1 data a b limit cmp) ()
def E5 (x':List Ac) (cmp:Ac->Ac->Option (Int)):Option ((List Ac)):=
 (Hv (IntKind.wrap .u64 (x'.length:Int))).bind fun y=>
 (A8 x' 0 (x'.length:Int) y cmp).bind fun y_2=>
 some y_2
def A7.j3 (x35_2:Int) (l_3_2:List Ac):Option (Lp (Int×List Ac) ((List Ac)×Int)):=
 some (.next (W (x35_2 + 1),l_3_2))
def A7.l4 (y_4:(List Ac)) (x60_4:Int) (out_4:List Ac):Option (Lp (Int×List Ac) ((List Ac)×Int)):=
 cond (decide (x60_4 < (y_4.length:Int)))
  ((C4 y_4 x60_4).bind fun e_2=>
  (Ig e_2).bind fun y_5=>
  (Gl 432 out_4 ([y_5]:List Ac)).bind fun l_4=>
  some (.next (W (x60_4 + 1),l_4)))
  (up (
   some (out_4,0)))
def A7.l2 (a:(List Ac)) (b:(List Ac)) (x35_2:Int) (l_2:List Ac):Option (Lp (Int×List Ac) ((List Ac)×Int)):=
 cond (decide (x35_2 < (a.length:Int)))
  ((C4 a x35_2).bind fun e=>
  (Gx b e.Alias).bind fun y_3=>
  cond (!y_3.2)
   ((Gl 432 l_2 ([e]:List Ac)).bind fun l_3=>
   A7.j3 x35_2 l_3)
   (A7.j3 x35_2 l_2))
  (up (
   cond (decide (64 < (l_2.length:Int)))
    (some (([]:(List Ac)),3))
    ((E5 l_2 (fun x0 x1=>Fl x0 x1)).bind fun y_4=>
    Dp (fun q'=>A7.l4 y_4 q'.1 q'.2) (0,([]:List Ac)))))
def A7.j1 (a:(List Ac)) (b:(List Ac)) (x21_1:Bool):Option ((List Ac)×Int):=
 cond (x21_1)
  (some (([]:(List Ac)),16))
  ((mO 72 (b.length:Int) (W ((a.length:Int) + (b.length:Int))) ((Ac.mk (⟨#[]⟩:ByteArray) (Aw.mk 0 0) 0 false ([]:(List Ab))):Ac)).bind fun m=>
  (nD m b).bind fun l=>
  Dp (fun q'=>A7.l2 a b q'.1 q'.2) (0,l))
def A7 (a:(List Ac)) (b:(List Ac)):Option ((List Ac)×Int):=
 (By a).bind fun y=>
 cond (!decide (y=0))
  (A7.j1 a b true)
  ((By b).bind fun y_2=>
  A7.j1 a b (!decide (y_2=0)))
def H4:Option (Bool):=
 (A7 ([(Ac.mk (⟨#[97]⟩:ByteArray) (Aw.mk 5 2048) 0 false ([]:(List Ab))),(Ac.mk (⟨#[98]⟩:ByteArray) (Aw.mk 5 2048) 1 false ([]:(List Ab)))]:List Ac) ([(Ac.mk (⟨#[98]⟩:ByteArray) (Aw.mk 5 2048) 2 false ([]:(List Ab))),(Ac.mk (⟨#[99]⟩:ByteArray) (Aw.mk 5 2048) 0 false ([]:(List Ab)))]:List Ac)).bind fun y=>
 (Gx y.1 (⟨#[98]⟩:ByteArray)).bind fun y_2=>
 cond (decide (y.2=0))
  (cond (decide ((y.1.length:Int)=3))
   (cond (y_2.2)
    (cond (decide (y_2.1.KeyId=2))
     ((By y.1).bind fun y_3=>
     some (decide (y_3=0)))
     (some false))
    (some false))
   (some false))
  (some false)
def Nk (l:(List Int)):Option (Al):=
 some (Al.mk l 0)
def Kk (n:Int) (k:Int):Option (Int):=
 cond (decide (k < 1))
  (some 0)
  ((R4 n k).bind fun q=>
  (R4 (W (q + k)) k).bind fun q_2=>
  some q_2)
def Ew (d:Al) (n:Int):Option (Int×Al):=
 cond (decide ((d.L.length:Int)<=d.At))
  (some (0,d))
  ((C4 d.L (W ((W (d.At + 1)) - 1))).bind fun e=>
  (Kk e n).bind fun y=>
  some (y,(Al.mk d.L (W (d.At + 1)))))
def C8 (d:Al) (l:(List Int)):Option (Int×Al):=
 (Ew d (l.length:Int)).bind fun y=>
 (C4 l y.1).bind fun e=>
 some (e,y.2)
def Cf.j3 (d:Al) (x40_3:Bool):Option (Int×Al):=
 cond (x40_3)
  ((C8 d ([128,256]:List Int)).bind fun y_7=>
  some (y_7.1,y_7.2))
  (some (0,d))
def Cf.j2 (d:Al) (a:Int) (x14_2:Bool):Option (Int×Al):=
 cond (x14_2)
  ((C8 d ([256,160,224,384,521]:List Int)).bind fun y_2=>
  some (y_2.1,y_2.2))
  (cond (decide (a=9))
   ((C8 d ([65,44,87]:List Int)).bind fun y_3=>
   some (y_3.1,y_3.2))
   (cond (decide (a=13))
    ((C8 d ([768,512,1024]:List Int)).bind fun y_4=>
    some (y_4.1,y_4.2))
    (cond (decide (a=14))
     ((C8 d ([128,40]:List Int)).bind fun y_5=>
     some (y_5.1,y_5.2))
     (cond (decide (a=15))
      ((C8 d ([168,112]:List Int)).bind fun y_6=>
      some (y_6.1,y_6.2))
      (cond (decide (a=16))
       (Cf.j3 d (decide (a=16)))
       (Cf.j3 d (decide (a=17))))))))
def Cf.j1 (d:Al) (a:Int) (x6_1:Bool):Option (Int×Al):=
 cond (x6_1)
  ((C8 d ([2048,1024,512,3072,1023,4096,16384]:List Int)).bind fun y=>
  some (y.1,y.2))
  (cond (decide (a=7))
   (Cf.j2 d a (decide (a=7)))
   (Cf.j2 d a (decide (a=12))))
def Cf (d:Al) (a:Int):Option (Int×Al):=
 cond (decide (a=5))
  (Cf.j1 d a (decide (a=5)))
  (cond (decide (a=6))
   (Cf.j1 d a (decide (a=6)))
   (cond (decide (a=10))
    (Cf.j1 d a (decide (a=10)))
    (Cf.j1 d a (decide (a=11)))))
def M6 (d:Al):Option (Aw×Al):=
 (C8 d ([5,7,5,6,8,9]:List Int)).bind fun y=>
 (Cf y.2 y.1).bind fun y_2=>
 some ((Aw.mk y.1 y_2.1),y_2.2)
def Gz (d:Al) (n:Int):Option (Bool×Al):=
 (Ew d n).bind fun y=>
 some (decide (y.1=(W (n - 1))),y.2)
def Kw (c:Ab):Option (Ab):=
 (Gl 16 ([]:List ByteArray) c.Names).bind fun l=>
 some (Ab.mk c.Serial c.Issuer c.Subject c.Key c.KeyId c.Hash c.From c.To c.Authority c.Path l c.Seal)
def B4.j3 (i_2:Int) (x27_3:Bool):Option (Lp (Int) (Bool)):=
 cond (x27_3)
  (up (some false))
  (some (.next (W (i_2 + 1))))
def B4.l2 (s:ByteArray) (i_2:Int):Option (Lp (Int) (Bool)):=
 cond (decide (i_2 < (s.size:Int)))
  ((idxT s i_2).bind fun c=>
  cond (decide ((c.toNat:Int) < 33))
   (B4.j3 i_2 true)
   ((idxT s i_2).bind fun c_2=>
   B4.j3 i_2 (decide (126 < (c_2.toNat:Int)))))
  (up (
   some true))
def B4.j1 (s:ByteArray) (x11_1:Bool):Option (Bool):=
 cond (x11_1)
  (some false)
  (Dp (fun q'=>B4.l2 s q') 0)
def B4 (s:ByteArray):Option (Bool):=
 cond (decide ((s.size:Int) < 1))
  (B4.j1 s true)
  (B4.j1 s (decide (32 < (s.size:Int))))
def Dm.j1 (b:Int) (x3_1:Bool):Option (Int):=
 cond (x3_1)
  (some 0)
  (cond (decide (b < 1024))
   (some 56)
   (cond (decide (b < 2048))
    (some 80)
    (cond (decide (b < 3072))
     (some 112)
     (cond (decide (b < 7680))
      (some 128)
      (cond (decide (b < 15360))
       (some 192)
       (some 256))))))
def Dm (b:Int):Option (Int):=
 cond (decide (b < 512))
  (Dm.j1 b true)
  (Dm.j1 b (decide (16384 < b)))
def Bq.l1 (b:Int) (sizes:(List Int)) (strengths:(List Int)) (i_1:Int):Option (Lp (Int) (Int)):=
 cond (decide (i_1 < (sizes.length:Int)))
  ((C4 sizes i_1).bind fun e=>
  cond (decide (e=b))
   ((C4 strengths i_1).bind fun e_2=>
   up (some e_2))
   (some (.next (W (i_1 + 1)))))
  (up (
   some 0))
def Bq (b:Int) (sizes:(List Int)) (strengths:(List Int)):Option (Int):=
 Dp (fun q'=>Bq.l1 b sizes strengths q') 0
def C9.j2 (alg:Int) (x14_2:Bool):Option (Int):=
 cond (x14_2)
  (some 256)
  (cond (decide (alg=19))
   (some 64)
   (cond (decide (alg=20))
    (some 80)
    (some 0)))
def C9.j1 (alg:Int) (x8_1:Bool):Option (Int):=
 cond (x8_1)
  (some 128)
  (cond (decide (alg=4))
   (some 192)
   (cond (decide (alg=18))
    (C9.j2 alg (decide (alg=18)))
    (C9.j2 alg (decide (alg=22)))))
def C9 (alg:Int):Option (Int):=
 cond (decide (alg=1))
  (some 18)
  (cond (decide (alg=2))
   (some 60)
   (cond (decide (alg=3))
    (C9.j1 alg (decide (alg=3)))
    (cond (decide (alg=8))
     (C9.j1 alg (decide (alg=8)))
     (C9.j1 alg (decide (alg=21))))))
def Ar.j3 (u:Aw) (x35_3:Bool):Option (Int):=
 cond (x35_3)
  ((Sd u.Bits 2).bind fun q=>
  some q)
  (some 0)
def Ar.j4 (u:Aw) (x62_4:Bool):Option (Int):=
 cond (x62_4)
  ((Bq u.Bits ([128,256]:List Int) ([128,256]:List Int)).bind fun y_6=>
  some y_6)
  ((C9 u.Alg).bind fun y_7=>
  (Bq u.Bits ([0]:List Int) ([y_7]:List Int)).bind fun y_8=>
  some y_8)
def Ar.j2 (u:Aw) (x15_2:Bool):Option (Int):=
 cond (x15_2)
  (cond (decide (u.Bits=160))
   (Ar.j3 u true)
   (cond (decide (u.Bits=224))
    (Ar.j3 u true)
    (cond (decide (u.Bits=256))
     (Ar.j3 u true)
     (cond (decide (u.Bits=384))
      (Ar.j3 u true)
      (Ar.j3 u (decide (u.Bits=521)))))))
  (cond (decide (u.Alg=9))
   ((Bq u.Bits ([44,65,87]:List Int) ([128,192,256]:List Int)).bind fun y_2=>
   some y_2)
   (cond (decide (u.Alg=13))
    ((Bq u.Bits ([512,768,1024]:List Int) ([128,192,256]:List Int)).bind fun y_3=>
    some y_3)
    (cond (decide (u.Alg=14))
     ((Bq u.Bits ([40,128]:List Int) ([40,60]:List Int)).bind fun y_4=>
     some y_4)
     (cond (decide (u.Alg=15))
      ((Bq u.Bits ([112,168]:List Int) ([80,112]:List Int)).bind fun y_5=>
      some y_5)
      (cond (decide (u.Alg=16))
       (Ar.j4 u (decide (u.Alg=16)))
       (Ar.j4 u (decide (u.Alg=17))))))))
def Ar.j1 (u:Aw) (x8_1:Bool):Option (Int):=
 cond (x8_1)
  ((Dm u.Bits).bind fun y=>
  some y)
  (cond (decide (u.Alg=7))
   (Ar.j2 u (decide (u.Alg=7)))
   (Ar.j2 u (decide (u.Alg=12))))
def Ar (u:Aw):Option (Int):=
 cond (decide (u.Alg=5))
  (Ar.j1 u (decide (u.Alg=5)))
  (cond (decide (u.Alg=6))
   (Ar.j1 u (decide (u.Alg=6)))
   (cond (decide (u.Alg=10))
    (Ar.j1 u (decide (u.Alg=10)))
    (Ar.j1 u (decide (u.Alg=11)))))
def I7 (u:Aw):Option (Bool):=
 (Ar u).bind fun y=>
 some (decide (0 < y))
def O0:Option ((List Ap)):=
 some ([(Ap.mk (⟨#[]⟩:ByteArray) 0),(Ap.mk (⟨#[109,100,53]⟩:ByteArray) 1),(Ap.mk (⟨#[115,104,97,49]⟩:ByteArray) 1),(Ap.mk (⟨#[115,104,97,50,53,54]⟩:ByteArray) 1),(Ap.mk (⟨#[115,104,97,51,56,52]⟩:ByteArray) 1),(Ap.mk (⟨#[114,115,97]⟩:ByteArray) 2),(Ap.mk (⟨#[100,115,97]⟩:ByteArray) 2),(Ap.mk (⟨#[101,99,100,115,97]⟩:ByteArray) 2),(Ap.mk (⟨#[101,100,50,53,53,49,57]⟩:ByteArray) 2),(Ap.mk (⟨#[109,108,100,115,97]⟩:ByteArray) 2),(Ap.mk (⟨#[114,115,97,107,120]⟩:ByteArray) 3),(Ap.mk (⟨#[100,104,101]⟩:ByteArray) 3),(Ap.mk (⟨#[101,99,100,104,101]⟩:ByteArray) 3),(Ap.mk (⟨#[109,108,107,101,109]⟩:ByteArray) 3),(Ap.mk (⟨#[114,99,52]⟩:ByteArray) 4),(Ap.mk (⟨#[100,101,115,51]⟩:ByteArray) 4),(Ap.mk (⟨#[97,101,115,99,98,99]⟩:ByteArray) 4),(Ap.mk (⟨#[97,101,115,103,99,109]⟩:ByteArray) 4),(Ap.mk (⟨#[99,104,97,99,104,97]⟩:ByteArray) 4),(Ap.mk (⟨#[104,109,97,99,109,100,53]⟩:ByteArray) 5),(Ap.mk (⟨#[104,109,97,99,115,104,97,49]⟩:ByteArray) 5),(Ap.mk (⟨#[104,109,97,99,115,104,97,50,53,54]⟩:ByteArray) 5),(Ap.mk (⟨#[97,101,97,100]⟩:ByteArray) 5)]:List Ap)
def E0.j1 (alg:Int) (x8_1:Bool):Option (Int):=
 cond (x8_1)
  (some 0)
  ((O0).bind fun y=>
  (C4 y alg).bind fun e=>
  some e.kind)
def E0 (alg:Int):Option (Int):=
 cond (decide (alg < 1))
  (E0.j1 alg true)
  (E0.j1 alg (decide (22 < alg)))
def Gv (u:Aw):Option (Bool):=
 (I7 u).bind fun y=>
 cond (y)
  ((E0 u.Alg).bind fun y_2=>
  some (decide (y_2=2)))
  (some false)
def Av.j5 (i_4:Int) (x123_5:Bool):Option (Lp (Int) (Int)):=
 cond (x123_5)
  (up (some 9))
  (some (.next (W (i_4 + 1))))
def Av.j6 (x145_6:Bool):Option (Int):=
 cond (x145_6)
  (some 9)
  (some 0)
def Av.l4 (c:Ab) (i_4:Int):Option (Lp (Int) (Int)):=
 cond (decide (i_4 < (c.Names.length:Int)))
  ((C4 c.Names i_4).bind fun e=>
  (B4 e).bind fun y_6=>
  cond (!y_6)
   (Av.j5 i_4 true)
   (cond (decide (0 < i_4))
    ((C4 c.Names (W (i_4 - 1))).bind fun e_2=>
    Av.j5 i_4 (!Q3 (J7 e_2) (J7 e)))
    (Av.j5 i_4 false)))
  (up (
   cond (decide (c.Seal.Key < 0))
    (Av.j6 true)
    (cond (decide (2147483648 < c.Seal.Key))
     (Av.j6 true)
     (cond (decide (c.Seal.Sum < 0))
      (Av.j6 true)
      (Av.j6 (decide (4294967296<=c.Seal.Sum)))))))
def Av.j3 (c:Ab) (x91_3:Bool):Option (Int):=
 cond (x91_3)
  (some 9)
  (Dp (fun q'=>Av.l4 c q') 0)
def Av.j2 (c:Ab) (x67_2:Bool):Option (Int):=
 cond (x67_2)
  (some 9)
  (cond (decide (c.Path < 0))
   (Av.j3 c true)
   (cond (decide (8 < c.Path))
    (Av.j3 c true)
    (cond (!c.Authority)
     (cond (!decide (c.Path=0))
      (Av.j3 c true)
      (Av.j3 c (decide (8 < (c.Names.length:Int)))))
     (Av.j3 c (decide (8 < (c.Names.length:Int)))))))
def Av.j1 (c:Ab) (x39_1:Bool):Option (Int):=
 cond (x39_1)
  (some 9)
  ((I7 c.Hash).bind fun y_4=>
  cond (!y_4)
   (Av.j2 c true)
   ((E0 c.Hash.Alg).bind fun y_5=>
   cond (!decide (y_5=1))
    (Av.j2 c true)
    (cond (decide (c.From < 0))
     (Av.j2 c true)
     (cond (decide (c.To < c.From))
      (Av.j2 c true)
      (Av.j2 c (decide (40000 < c.To)))))))
def Av (c:Ab):Option (Int):=
 cond (decide (c.Serial < 0))
  (Av.j1 c true)
  (cond (decide (1099511627776 < c.Serial))
   (Av.j1 c true)
   ((B4 c.Issuer).bind fun y=>
   cond (!y)
    (Av.j1 c true)
    ((B4 c.Subject).bind fun y_2=>
    cond (!y_2)
     (Av.j1 c true)
     ((Gv c.Key).bind fun y_3=>
     cond (!y_3)
      (Av.j1 c true)
      (cond (decide (c.KeyId < 0))
       (Av.j1 c true)
       (Av.j1 c (decide (2147483648 < c.KeyId))))))))
def Ga (s:ByteArray):Option (Aa):=
 some (Aa.mk 12 (J7 s) false ([]:(List Aa)))
def Bo.j2 (x_1:Int) (b_1:List UInt8) (x35_2:Bool):Option (Lp (Int×List UInt8) (Aa)):=
 cond (x35_2)
  ((Gl 1 ([(u8 x_1)]:List UInt8) b_1).bind fun l=>
  (Sa .i64 x_1 8).bind fun q_2=>
  some (.next (q_2,l)))
  (up (
   some (Aa.mk 2 b_1 false ([]:(List Aa)))))
def Bo.l1 (x_1:Int) (b_1:List UInt8):Option (Lp (Int×List UInt8) (Aa)):=
 cond (!decide (x_1=0))
  (cond (!decide (x_1=(-1)))
   (Bo.j2 x_1 b_1 true)
   (cond (decide (x_1=0))
    ((C4 b_1 0).bind fun e=>
    cond (decide (128<=(e.toNat:Int)))
     (Bo.j2 x_1 b_1 true)
     (cond (decide (x_1=(-1)))
      (Bo.j2 x_1 b_1 (decide ((e.toNat:Int) < 128)))
      (Bo.j2 x_1 b_1 false)))
    (cond (decide (x_1=(-1)))
     ((C4 b_1 0).bind fun e_2=>
     Bo.j2 x_1 b_1 (decide ((e_2.toNat:Int) < 128)))
     (Bo.j2 x_1 b_1 false))))
  (cond (decide (x_1=0))
   ((C4 b_1 0).bind fun e_3=>
   cond (decide (128<=(e_3.toNat:Int)))
    (Bo.j2 x_1 b_1 true)
    (cond (decide (x_1=(-1)))
     (Bo.j2 x_1 b_1 (decide ((e_3.toNat:Int) < 128)))
     (Bo.j2 x_1 b_1 false)))
   (cond (decide (x_1=(-1)))
    ((C4 b_1 0).bind fun e_4=>
    Bo.j2 x_1 b_1 (decide ((e_4.toNat:Int) < 128)))
    (Bo.j2 x_1 b_1 false)))
def Bo (n:Int):Option (Aa):=
 (Sa .i64 n 8).bind fun q=>
 Dp (fun q'=>Bo.l1 q'.1 q'.2) (q,([(u8 n)]:List UInt8))
def Cb.l1 (rec:(List Aa)->Option ((List Aa))) (l:(List Aa)) (i_1:Int) (out_1:List Aa):Option (Lp (Int×List Aa) ((List Aa))):=
 cond (decide (i_1 < (l.length:Int)))
  ((C4 l i_1).bind fun e=>
  (Gl 1 ([]:List UInt8) e.Bytes).bind fun l_2=>
  (rec e.Elements).bind fun y=>
  (Gl 256 out_1 ([(Aa.mk e.Tag l_2 e.Nested y)]:List Aa)).bind fun l_3=>
  some (.next (W (i_1 + 1),l_3)))
  (up (
   some out_1))
def Cb.F (rec:(List Aa)->Option ((List Aa))) (l:(List Aa)):Option ((List Aa)):=
 Dp (fun q'=>Cb.l1 rec l q'.1 q'.2) (0,([]:List Aa))
def Cb (l:(List Aa)):Option ((List Aa)):=P0 (fun rec (x:(List Aa))=>Cb.F (fun l=>rec l) x) l
def Dy (l:(List Aa)):Option (Aa):=
 (Cb l).bind fun y=>
 some (Aa.mk 48 ([]:(List UInt8)) true y)
def Kt (u:Aw):Option (Aa):=
 (Bo u.Alg).bind fun y=>
 (Bo u.Bits).bind fun y_2=>
 (Dy ([y,y_2]:List Aa)).bind fun y_3=>
 some y_3
def Kx (b:Bool):Option (Aa):=
 cond (b)
  (some (Aa.mk 1 ([(255:UInt8)]:List UInt8) false ([]:(List Aa))))
  (some (Aa.mk 1 ([(0:UInt8)]:List UInt8) false ([]:(List Aa))))
def Db.l1 (c:Ab) (i_1:Int) (names_1:List Aa):Option (Lp (Int×List Aa) (Aa)):=
 cond (decide (i_1 < (c.Names.length:Int)))
  ((C4 c.Names i_1).bind fun e=>
  (Ga e).bind fun y=>
  (Gl 256 names_1 ([y]:List Aa)).bind fun l=>
  some (.next (W (i_1 + 1),l)))
  (up (
   (Bo c.Serial).bind fun y_12=>
   (Ga c.Issuer).bind fun y_13=>
   (Ga c.Subject).bind fun y_14=>
   (Kt c.Key).bind fun y_15=>
   (Bo c.KeyId).bind fun y_16=>
   (Kt c.Hash).bind fun y_17=>
   (Bo c.From).bind fun y_18=>
   (Bo c.To).bind fun y_19=>
   (Kx c.Authority).bind fun y_20=>
   (Bo c.Path).bind fun y_21=>
   (Dy names_1).bind fun y_22=>
   (Dy ([y_12,y_13,y_14,y_15,y_16,y_17,y_18,y_19,y_20,y_21,y_22]:List Aa)).bind fun y_23=>
   some y_23))
def Db (c:Ab):Option (Aa):=
 Dp (fun q'=>Db.l1 c q'.1 q'.2) (0,([]:List Aa))
def Kp (n:Int):Option (Bool):=
 cond (decide (1<=n))
  (cond (decide (n<=255))
   ((R4 n 32).bind fun q=>
   some (!decide (q=31)))
   (some false))
  (some false)
def Bc.l2 (rec:Aa->Option (Bool)) (v:Aa) (i_2:Int):Option (Lp (Int) (Bool)):=
 cond (decide (i_2 < (v.Elements.length:Int)))
  ((C4 v.Elements i_2).bind fun e=>
  (rec e).bind fun y_2=>
  cond (!y_2)
   (up (some false))
   (some (.next (W (i_2 + 1)))))
  (up (
   some true))
def Bc.j1 (rec:Aa->Option (Bool)) (v:Aa) (x38_1:Bool):Option (Bool):=
 cond (x38_1)
  (some false)
  (Dp (fun q'=>Bc.l2 rec v q') 0)
def Bc.F (rec:Aa->Option (Bool)) (v:Aa):Option (Bool):=
 (Kp v.Tag).bind fun y=>
 cond (!y)
  (Bc.j1 rec v true)
  ((Sd v.Tag 32).bind fun q=>
  (R4 q 2).bind fun q_2=>
  cond (!decide (v.Nested=(decide (q_2=1))))
   (Bc.j1 rec v true)
   (cond (v.Nested)
    (cond (decide (0 < (v.Bytes.length:Int)))
     (Bc.j1 rec v true)
     (Bc.j1 rec v false))
    (Bc.j1 rec v (decide (0 < (v.Elements.length:Int))))))
def Bc (v:Aa):Option (Bool):=P0 (fun rec (x:Aa)=>Bc.F (fun v=>rec v) x) v
def Cg.l1 (rec:Aa->Option (Int)) (v:Aa) (d_1:Int) (i_1:Int):Option (Lp (Int×Int) (Int)):=
 cond (decide (i_1 < (v.Elements.length:Int)))
  ((C4 v.Elements i_1).bind fun e=>
  (rec e).bind fun y=>
  some (.next (max d_1 y,W (i_1 + 1))))
  (up (
   some (W (d_1 + 1))))
def Cg.F (rec:Aa->Option (Int)) (v:Aa):Option (Int):=
 Dp (fun q'=>Cg.l1 rec v q'.1 q'.2) (0,0)
def Cg (v:Aa):Option (Int):=P0 (fun rec (x:Aa)=>Cg.F (fun v=>rec v) x) v
def D9.l1 (n_1:Int) (b_1:List UInt8):Option (Lp (Int×List UInt8) ((List UInt8))):=
 cond (decide (0 < n_1))
  ((R4 n_1 256).bind fun q=>
  (Gl 1 ([(u8 q)]:List UInt8) b_1).bind fun l=>
  (Sd n_1 256).bind fun q_2=>
  some (.next (q_2,l)))
  (up (
   (Gl 1 ([(u8 (W (128 + (b_1.length:Int))))]:List UInt8) b_1).bind fun l_2=>
   some l_2))
def D9 (n:Int):Option ((List UInt8)):=
 cond (decide (n < 128))
  (some ([(u8 n)]:List UInt8))
  (Dp (fun q'=>D9.l1 q'.1 q'.2) (n,([]:List UInt8)))
def Dj.l1 (rec:Aa->Option ((List UInt8))) (v:Aa) (i_1:Int) (b_1:List UInt8):Option (Lp (Int×List UInt8) ((List UInt8))):=
 cond (decide (i_1 < (v.Elements.length:Int)))
  ((C4 v.Elements i_1).bind fun e=>
  (rec e).bind fun y=>
  (Gl 1 b_1 y).bind fun l_2=>
  some (.next (W (i_1 + 1),l_2)))
  (up (
   (D9 (b_1.length:Int)).bind fun y_2=>
   (Gl 1 ([(u8 v.Tag)]:List UInt8) y_2).bind fun l_3=>
   (Gl 1 l_3 b_1).bind fun l_4=>
   some l_4))
def Dj.F (rec:Aa->Option ((List UInt8))) (v:Aa):Option ((List UInt8)):=
 (Gl 1 ([]:List UInt8) v.Bytes).bind fun l=>
 Dp (fun q'=>Dj.l1 rec v q'.1 q'.2) (0,l)
def Dj (v:Aa):Option ((List UInt8)):=P0 (fun rec (x:Aa)=>Dj.F (fun v=>rec v) x) v
def Gq (v:Aa):Option ((List UInt8)×Int):=
 (Bc v).bind fun y=>
 cond (!y)
  (some (([]:(List UInt8)),1))
  ((Cg v).bind fun y_2=>
  cond (decide (16 < y_2))
   (some (([]:(List UInt8)),3))
   ((Dj v).bind fun y_3=>
   cond (decide (4096 < (y_3.length:Int)))
    (some (([]:(List UInt8)),3))
    (some (y_3,0))))
def I5 (c:Ab):Option ((List UInt8)×Int):=
 (Av c).bind fun y=>
 cond (!decide (y=0))
  (some (([]:(List UInt8)),9))
  ((Db c).bind fun y_2=>
  (Gq y_2).bind fun y_3=>
  some (y_3.1,y_3.2))
def Fo.l1 (b:(List UInt8)) (h_1:Int) (i_1:Int):Option (Lp (Int×Int) (Int)):=
 cond (decide (i_1 < (b.length:Int)))
  ((C4 b i_1).bind fun e=>
  some (.next (IntKind.wrap .u32 ((Zg .u32 h_1 (IntKind.wrap .u32 (e.toNat:Int))) * 16777619),W (i_1 + 1))))
  (up (
   some (W h_1)))
def Fo (b:(List UInt8)):Option (Int):=
 Dp (fun q'=>Fo.l1 b q'.1 q'.2) (2166136261,0)
def E1.j1 (key:Int) (y:Ab) (x22_1:Bool):Option (Ab×Int):=
 cond (x22_1)
  (some ((Ab.mk 0 (⟨#[]⟩:ByteArray) (⟨#[]⟩:ByteArray) (Aw.mk 0 0) 0 (Aw.mk 0 0) 0 0 false 0 ([]:(List ByteArray)) (Ct.mk 0 0)),9))
  ((I5 (Ab.mk y.Serial y.Issuer y.Subject y.Key y.KeyId y.Hash y.From y.To y.Authority y.Path y.Names (Ct.mk 0 0))).bind fun y_3=>
  (Fo y_3.1).bind fun y_4=>
  some ((Ab.mk y.Serial y.Issuer y.Subject y.Key y.KeyId y.Hash y.From y.To y.Authority y.Path y.Names (Ct.mk key y_4)),0))
def E1 (c:Ab) (key:Int):Option (Ab×Int):=
 (Kw c).bind fun y=>
 (Av (Ab.mk y.Serial y.Issuer y.Subject y.Key y.KeyId y.Hash y.From y.To y.Authority y.Path y.Names (Ct.mk 0 0))).bind fun y_2=>
 cond (!decide (y_2=0))
  (E1.j1 key y true)
  (cond (decide (key < 0))
   (E1.j1 key y true)
   (E1.j1 key y (decide (2147483648 < key))))
def Bw.j2 (issuer:ByteArray) (subject:ByteArray) (key:Aw) (id:Int) (signer:Int) (authority:Bool) (y:Int×Al) (y_2:Int×Al) (y_3:Int×Al) (y_4:Int×Al) (c_1:Int) (b_2:Al) (l_2:List ByteArray):Option (Ab×Al):=
 (E1 (Ab.mk y.1 issuer subject key id (Aw.mk y_2.1 0) y_3.1 y_4.1 authority c_1 l_2 (Ct.mk 0 0)) signer).bind fun y_7=>
 some (y_7.1,b_2)
def Bw.j1 (issuer:ByteArray) (subject:ByteArray) (key:Aw) (id:Int) (signer:Int) (authority:Bool) (y:Int×Al) (y_2:Int×Al) (y_3:Int×Al) (y_4:Int×Al) (d_1:Al) (c_1:Int):Option (Ab×Al):=
 (Gz d_1 3).bind fun y_6=>
 cond (y_6.1)
  ((oX subject (⟨#[120]⟩:ByteArray)).bind fun s=>
  (Gl 16 ([subject]:List ByteArray) ([s]:List ByteArray)).bind fun l=>
  Bw.j2 issuer subject key id signer authority y y_2 y_3 y_4 c_1 y_6.2 l)
  (Bw.j2 issuer subject key id signer authority y y_2 y_3 y_4 c_1 y_6.2 ([subject]:List ByteArray))
def Bw (d:Al) (issuer:ByteArray) (subject:ByteArray) (key:Aw) (id:Int) (signer:Int) (authority:Bool):Option (Ab×Al):=
 (Ew d 1000).bind fun y=>
 (C8 y.2 ([3,2,4,1]:List Int)).bind fun y_2=>
 (C8 y_2.2 ([0,5,10]:List Int)).bind fun y_3=>
 (C8 y_3.2 ([1000,100,50,20]:List Int)).bind fun y_4=>
 cond (authority)
  ((C8 y_4.2 ([3,0,1]:List Int)).bind fun y_5=>
  Bw.j1 issuer subject key id signer authority y y_2 y_3 y_4 y_5.2 y_5.1)
  (Bw.j1 issuer subject key id signer authority y y_2 y_3 y_4 y_4.2 0)
def F8.l1 (name:ByteArray) (key:Aw) (id:Int) (y:Int×Al) (signer_1:Int) (issuer_1:ByteArray) (i_1:Int) (d_1:Al) (above_1:List Ab):Option (Lp (Int×ByteArray×Int×Al×List Ab) ((List Ab)×Al)):=
 cond (decide (i_1 < y.1))
  ((C4 ([(⟨#[99,97]⟩:ByteArray),(⟨#[99,98]⟩:ByteArray),(⟨#[99,99]⟩:ByteArray)]:List ByteArray) i_1).bind fun e=>
  (Bw d_1 issuer_1 e (Aw.mk 5 2048) (W (11 + i_1)) signer_1 true).bind fun y_3=>
  (Gl 2280 ([y_3.1]:List Ab) above_1).bind fun l=>
  some (.next (W (11 + i_1),e,W (i_1 + 1),y_3.2,l)))
  (up (
   (Bw d_1 issuer_1 name key id signer_1 false).bind fun y_4=>
   (Gl 2280 ([y_4.1]:List Ab) above_1).bind fun l_2=>
   some (l_2,y_4.2)))
def F8 (d:Al) (name:ByteArray) (key:Aw) (id:Int):Option ((List Ab)×Al):=
 (C8 d ([1,0,2]:List Int)).bind fun y=>
 (Ew y.2 2).bind fun y_2=>
 Dp (fun q'=>F8.l1 name key id y q'.1 q'.2.1 q'.2.2.1 q'.2.2.2.1 q'.2.2.2.2) (W (1 + y_2.1),(⟨#[114,111,111,116]⟩:ByteArray),0,y_2.2,([]:List Ab))
def F7.j1 (alias:ByteArray) (id:Int) (y:Aw×Al) (y_2:Bool×Al) (b_1:Al) (l_1:List Ab):Option (Ac×Al):=
 some ((Ac.mk alias y.1 id y_2.1 l_1),b_1)
def F7 (d:Al) (alias:ByteArray) (name:ByteArray) (id:Int):Option (Ac×Al):=
 (M6 d).bind fun y=>
 (Gz y.2 2).bind fun y_2=>
 (Gz y_2.2 5).bind fun y_3=>
 cond (!y_3.1)
  ((F8 y_3.2 name y.1 id).bind fun y_4=>
  F7.j1 alias id y y_2 y_4.2 y_4.1)
  (F7.j1 alias id y y_2 y_3.2 ([]:List Ab))
def Gc.l2 (name:ByteArray) (i_2:Int) (d_2:Al) (l_2:List Ac):Option (Lp (Int×Al×List Ac) ((List Ac)×Al)):=
 cond (decide (0 < i_2))
  ((C4 ([(⟨#[107,49]⟩:ByteArray),(⟨#[107,50]⟩:ByteArray),(⟨#[107,51]⟩:ByteArray),(⟨#[107,52]⟩:ByteArray)]:List ByteArray) (l_2.length:Int)).bind fun e=>
  (Ew d_2 3).bind fun y_2=>
  (F7 y_2.2 e name (W ((W (100 + (l_2.length:Int))) + (W (y_2.1 * 10))))).bind fun y_3=>
  (Gl 432 l_2 ([y_3.1]:List Ac)).bind fun l=>
  some (.next (W (i_2 - 1),y_3.2,l)))
  (up (
   some (l_2,d_2)))
def Gc (d:Al) (name:ByteArray):Option ((List Ac)×Al):=
 (Ew d 4).bind fun y=>
 Dp (fun q'=>Gc.l2 name q'.1 q'.2.1 q'.2.2) (W (1 + y.1),y.2,([]:List Ac))
def Cl.l2 (key:Aw) (id:Int) (chain:(List Ab)) (i_2:Int):Option (Lp (Int) (Bool)):=
 cond (decide (i_2 < (chain.length:Int)))
  ((C4 chain i_2).bind fun e=>
  (Av e).bind fun y_2=>
  cond (!decide (y_2=0))
   (up (some false))
   (some (.next (W (i_2 + 1)))))
  (up (
   cond (decide ((chain.length:Int)=0))
    (some true)
    ((C4 chain 0).bind fun e_2=>
    cond (decide (e_2.Key=key))
     (some (decide (e_2.KeyId=id)))
     (some false))))
def Cl.j1 (key:Aw) (id:Int) (chain:(List Ab)) (x23_1:Bool):Option (Bool):=
 cond (x23_1)
  (some false)
  (Dp (fun q'=>Cl.l2 key id chain q') 0)
def Cl (key:Aw) (id:Int) (chain:(List Ab)):Option (Bool):=
 (Gv key).bind fun y=>
 cond (!y)
  (Cl.j1 key id chain true)
  (cond (decide (id < 0))
   (Cl.j1 key id chain true)
   (cond (decide (2147483648 < id))
    (Cl.j1 key id chain true)
    (Cl.j1 key id chain (decide (8 < (chain.length:Int))))))
def Cu.j2 (i_1:Int) (x56_2:Bool):Option (Lp (Int) (Int)):=
 cond (x56_2)
  (up (some 16))
  (some (.next (W (i_1 + 1))))
def Cu.l1 (l:(List Ac)) (i_1:Int):Option (Lp (Int) (Int)):=
 cond (decide (i_1 < (l.length:Int)))
  ((C4 l i_1).bind fun e=>
  (B4 e.Alias).bind fun y=>
  cond (!y)
   (Cu.j2 i_1 true)
   (cond (decide (0 < i_1))
    ((C4 l (W (i_1 - 1))).bind fun e_2=>
    cond (!Q3 (J7 e_2.Alias) (J7 e.Alias))
     (Cu.j2 i_1 true)
     ((Cl e.Key e.KeyId e.Chain).bind fun y_2=>
     Cu.j2 i_1 (!y_2)))
    ((Cl e.Key e.KeyId e.Chain).bind fun y_3=>
    Cu.j2 i_1 (!y_3))))
  (up (
   some 0))
def Cu (l:(List Ac)):Option (Int):=
 cond (decide (64 < (l.length:Int)))
  (some 16)
  (Dp (fun q'=>Cu.l1 l q') 0)
def I2 (c:Ab):Option (Aa):=
 (Bo c.Seal.Key).bind fun y=>
 (Bo c.Seal.Sum).bind fun y_2=>
 (Dy ([y,y_2]:List Aa)).bind fun y_3=>
 (Db c).bind fun y_4=>
 (Dy ([y_4,y_3]:List Aa)).bind fun y_5=>
 some y_5
def Dt.l1 (e:Ac) (i_1:Int) (chain_1:List Aa):Option (Lp (Int×List Aa) (Aa)):=
 cond (decide (i_1 < (e.Chain.length:Int)))
  ((C4 e.Chain i_1).bind fun e_2=>
  (I2 e_2).bind fun y=>
  (Gl 256 chain_1 ([y]:List Aa)).bind fun l=>
  some (.next (W (i_1 + 1),l)))
  (up (
   (Bo e.Key.Alg).bind fun y_2=>
   (Bo e.Key.Bits).bind fun y_3=>
   (Dy ([y_2,y_3]:List Aa)).bind fun y_4=>
   (Ga e.Alias).bind fun y_8=>
   (Bo e.KeyId).bind fun y_9=>
   (Kx e.Secret).bind fun y_10=>
   (Dy chain_1).bind fun y_11=>
   (Dy ([y_8,y_4,y_9,y_10,y_11]:List Aa)).bind fun y_12=>
   some y_12))
def Dt (e:Ac):Option (Aa):=
 Dp (fun q'=>Dt.l1 e q'.1 q'.2) (0,([]:List Aa))
def Ea.l1 (l:(List Ac)) (i_1:Int) (all_1:List Aa):Option (Lp (Int×List Aa) ((List UInt8)×Int)):=
 cond (decide (i_1 < (l.length:Int)))
  ((C4 l i_1).bind fun e=>
  (Dt e).bind fun y_2=>
  (Gl 256 all_1 ([y_2]:List Aa)).bind fun l_2=>
  some (.next (W (i_1 + 1),l_2)))
  (up (
   (Dy all_1).bind fun y_3=>
   (Gq y_3).bind fun y_4=>
   some (y_4.1,y_4.2)))
def Ea (l:(List Ac)):Option ((List UInt8)×Int):=
 (Cu l).bind fun y=>
 cond (!decide (y=0))
  (some (([]:(List UInt8)),y))
  (Dp (fun q'=>Ea.l1 l q'.1 q'.2) (0,([]:List Aa)))
def Bh.j4 (b:(List UInt8)) (at':Int) (n_4:Int) (from_4:Int):Option (Int×Int×Int×Bool):=
 cond (decide ((W ((b.length:Int) - from_4)) < n_4))
  (some (0,0,0,false))
  ((C4 b at').bind fun e_5=>
  some ((e_5.toNat:Int),from_4,W (from_4 + n_4),true))
def Bh.l3 (b:(List UInt8)) (at':Int) (e_2:UInt8) (n_3:Int) (i_3:Int):Option (Lp (Int×Int) (Int×Int×Int×Bool)):=
 cond (decide (i_3 < (W ((e_2.toNat:Int) - 128))))
  ((C4 b (W ((W (at' + 2)) + i_3))).bind fun e_4=>
  some (.next (W ((W (n_3 * 256)) + (e_4.toNat:Int)),W (i_3 + 1))))
  (up (
   cond (decide (n_3 < 128))
    (some (0,0,0,false))
    (Bh.j4 b at' n_3 (W ((W (at' + 2)) + (W ((e_2.toNat:Int) - 128)))))))
def Bh.j2 (b:(List UInt8)) (at':Int) (e_2:UInt8) (x58_2:Bool):Option (Int×Int×Int×Bool):=
 cond (x58_2)
  (some (0,0,0,false))
  (Dp (fun q'=>Bh.l3 b at' e_2 q'.1 q'.2) (0,0))
def Bh.j1 (b:(List UInt8)) (at':Int) (x25_1:Bool):Option (Int×Int×Int×Bool):=
 cond (x25_1)
  (some (0,0,0,false))
  ((C4 b (W (at' + 1))).bind fun e_2=>
  cond (decide (128<=(e_2.toNat:Int)))
   (cond (decide ((W ((e_2.toNat:Int) - 128)) < 1))
    (Bh.j2 b at' e_2 true)
    (cond (decide (3 < (W ((e_2.toNat:Int) - 128))))
     (Bh.j2 b at' e_2 true)
     (cond (decide ((W ((b.length:Int) - (W (at' + 2)))) < (W ((e_2.toNat:Int) - 128))))
      (Bh.j2 b at' e_2 true)
      ((C4 b (W (at' + 2))).bind fun e_3=>
      Bh.j2 b at' e_2 (decide ((e_3.toNat:Int)=0))))))
   (Bh.j4 b at' (e_2.toNat:Int) (W (at' + 2))))
def Bh (b:(List UInt8)) (at':Int):Option (Int×Int×Int×Bool):=
 cond (decide ((W ((b.length:Int) - at')) < 2))
  (Bh.j1 b at' true)
  ((C4 b at').bind fun e=>
  (Kp (e.toNat:Int)).bind fun y=>
  Bh.j1 b at' (!y))
def Cr.j2 (out_1:List Aa) (y:Int×Int×Int×Bool) (q_2:Int) (l_2_2:List UInt8) (l_2_3:List Aa):Option (Lp (Int×List Aa) ((List Aa)×Bool)):=
 (Gl 256 out_1 ([(Aa.mk y.1 l_2_2 (decide (q_2=1)) l_2_3)]:List Aa)).bind fun l_4=>
 some (.next (y.2.2.1,l_4))
def Cr.l1 (rec:(List UInt8)->Option ((List Aa)×Bool)) (b:(List UInt8)) (at_1:Int) (out_1:List Aa):Option (Lp (Int×List Aa) ((List Aa)×Bool)):=
 cond (decide (at_1 < (b.length:Int)))
  ((Bh b at_1).bind fun y=>
  cond (!y.2.2.2)
   (up (some (([]:List Aa),false)))
   ((Sd y.1 32).bind fun q=>
   (R4 q 2).bind fun q_2=>
   cond (decide (q_2=1))
    ((Q8 b y.2.1 y.2.2.1).bind fun l=>
    (rec l).bind fun y_2=>
    cond (!y_2.2)
     (up (some (([]:List Aa),false)))
     (Cr.j2 out_1 y q_2 ([]:List UInt8) y_2.1))
    ((Q8 b y.2.1 y.2.2.1).bind fun l_2=>
    (Gl 1 ([]:List UInt8) l_2).bind fun l_3=>
    Cr.j2 out_1 y q_2 l_3 ([]:List Aa))))
  (up (
   some (out_1,true)))
def Cr.F (rec:(List UInt8)->Option ((List Aa)×Bool)) (b:(List UInt8)):Option ((List Aa)×Bool):=
 Dp (fun q'=>Cr.l1 rec b q'.1 q'.2) (0,([]:List Aa))
def Cr (b:(List UInt8)):Option ((List Aa)×Bool):=P0 (fun rec (x:(List UInt8))=>Cr.F (fun b=>rec b) x) b
def Ej.j1 (y:(List Aa)×Bool) (x21_1:Bool):Option (Aa×Int):=
 cond (x21_1)
  (some ((Aa.mk 0 ([]:(List UInt8)) false ([]:List Aa)),1))
  ((C4 y.1 0).bind fun e=>
  (Cg e).bind fun y_2=>
  cond (decide (16 < y_2))
   (some ((Aa.mk 0 ([]:(List UInt8)) false ([]:List Aa)),3))
   (some (e,0)))
def Ej (b:(List UInt8)):Option (Aa×Int):=
 cond (decide (4096 < (b.length:Int)))
  (some ((Aa.mk 0 ([]:(List UInt8)) false ([]:List Aa)),3))
  ((Cr b).bind fun y=>
  cond (!y.2)
   (Ej.j1 y true)
   (Ej.j1 y (!decide ((y.1.length:Int)=1))))
def Mj (n:Int):Option (Bool):=
 cond (decide (1<=n))
  (cond (decide (n<=255))
   (some (!decide ((Xh .i64 n 31)=31)))
   (some false))
  (some false)
def C0.l2 (e:UInt8) (l:List UInt8) (n_2:Int) (x46_2:Int):Option (Lp (Int×Int) (Int×Int×Bool)):=
 cond (decide (x46_2 < (l.length:Int)))
  ((C4 l x46_2).bind fun e_3=>
  (fF .i64 n_2 8).bind fun q=>
  some (.next (Zk .i64 q (e_3.toNat:Int),W (x46_2 + 1))))
  (up (
   some (n_2,W (1 + (W ((e.toNat:Int) - 128))),decide (128<=n_2))))
def C0.j1 (b:(List UInt8)) (e:UInt8) (x40_1:Bool):Option (Int×Int×Bool):=
 cond (x40_1)
  (some (0,0,false))
  ((Q8 b 1 (W (1 + (W ((e.toNat:Int) - 128))))).bind fun l=>
  Dp (fun q'=>C0.l2 e l q'.1 q'.2) (0,0))
def C0 (b:(List UInt8)):Option (Int×Int×Bool):=
 cond (decide ((b.length:Int)=0))
  (some (0,0,false))
  ((C4 b 0).bind fun e=>
  cond (decide ((W ((e.toNat:Int) - 128)) < 0))
   (some ((e.toNat:Int),1,true))
   (cond (decide ((W ((e.toNat:Int) - 128)) < 1))
    (C0.j1 b e true)
    (cond (decide (2 < (W ((e.toNat:Int) - 128))))
     (C0.j1 b e true)
     (cond (decide ((b.length:Int)<=(W ((e.toNat:Int) - 128))))
      (C0.j1 b e true)
      ((C4 b 1).bind fun e_2=>
      C0.j1 b e (decide ((e_2.toNat:Int)=0)))))))
def Ex.j1 (b:(List UInt8)) (x4_1:Bool):Option ((List UInt8)):=
 cond (x4_1)
  (some ([]:(List UInt8)))
  ((Gl 1 ([]:List UInt8) b).bind fun l=>
  some l)
def Ex (b:(List UInt8)):Option ((List UInt8)):=
 Ze (b)
  (Ex.j1 b true)
  (Ex.j1 b false)
def F0.l1 (rec:(List UInt8)->Option (Aa×Int×Bool)) (b:(List UInt8)) (at_1:Int) (out_1:List Aa):Option (Lp (Int×List Aa) ((List Aa)×Bool)):=
 cond (decide (at_1 < (b.length:Int)))
  ((Q8 b at_1 (b.length:Int)).bind fun l=>
  (rec l).bind fun y=>
  cond (!y.2.2)
   (up (some (([]:(List Aa)),false)))
   ((Gl 256 out_1 ([y.1]:List Aa)).bind fun l_2=>
   some (.next (W (at_1 + y.2.1),l_2))))
  (up (
   some (out_1,true)))
def F0 (rec:(List UInt8)->Option (Aa×Int×Bool)) (b:(List UInt8)):Option ((List Aa)×Bool):=
 Dp (fun q'=>F0.l1 rec b q'.1 q'.2) (0,([]:List Aa))
def Ci.j2 (rec:(List UInt8)->Option (Aa×Int×Bool)) (b:(List UInt8)) (y_2:Int×Int×Bool) (x40_2:Bool):Option (Aa×Int×Bool):=
 cond (x40_2)
  (some ((Aa.mk 0 ([]:(List UInt8)) false ([]:(List Aa))),0,false))
  ((C4 b 0).bind fun e_2=>
  cond (!decide ((Xh .i64 (e_2.toNat:Int) 32)=0))
   ((Q8 b (W (1 + y_2.2.1)) (W ((W (1 + y_2.2.1)) + y_2.1))).bind fun l_2=>
   (F0 rec l_2).bind fun y_3=>
   some ((Aa.mk (e_2.toNat:Int) ([]:(List UInt8)) (!decide ((Xh .i64 (e_2.toNat:Int) 32)=0)) y_3.1),W ((W (1 + y_2.2.1)) + y_2.1),y_3.2))
   ((Q8 b (W (1 + y_2.2.1)) (W ((W (1 + y_2.2.1)) + y_2.1))).bind fun l_3=>
   (Ex l_3).bind fun y_4=>
   some ((Aa.mk (e_2.toNat:Int) y_4 (!decide ((Xh .i64 (e_2.toNat:Int) 32)=0)) ([]:(List Aa))),W ((W (1 + y_2.2.1)) + y_2.1),true)))
def Ci.j1 (rec:(List UInt8)->Option (Aa×Int×Bool)) (b:(List UInt8)) (x20_1:Bool):Option (Aa×Int×Bool):=
 cond (x20_1)
  (some ((Aa.mk 0 ([]:(List UInt8)) false ([]:(List Aa))),0,false))
  ((Q8 b 1 (b.length:Int)).bind fun l=>
  (C0 l).bind fun y_2=>
  cond (!y_2.2.2)
   (Ci.j2 rec b y_2 true)
   (Ci.j2 rec b y_2 (decide ((W ((b.length:Int) - (W (1 + y_2.2.1)))) < y_2.1))))
def Ci.F (rec:(List UInt8)->Option (Aa×Int×Bool)) (b:(List UInt8)):Option (Aa×Int×Bool):=
 cond (decide ((b.length:Int)=0))
  (Ci.j1 rec b true)
  ((C4 b 0).bind fun e=>
  (Mj (e.toNat:Int)).bind fun y=>
  Ci.j1 rec b (!y))
def Ci (b:(List UInt8)):Option (Aa×Int×Bool):=P0 (fun rec (x:(List UInt8))=>Ci.F (fun b=>rec b) x) b
def Di.l1 (rec:Aa->Option (Int)) (v:Aa) (most_1:Int) (x9_1:Int):Option (Lp (Int×Int) (Int)):=
 cond (decide (x9_1 < (v.Elements.length:Int)))
  ((C4 v.Elements x9_1).bind fun e=>
  (rec e).bind fun y=>
  some (.next (max most_1 y,W (x9_1 + 1))))
  (up (
   some (W (most_1 + 1))))
def Di.F (rec:Aa->Option (Int)) (v:Aa):Option (Int):=
 Dp (fun q'=>Di.l1 rec v q'.1 q'.2) (0,0)
def Di (v:Aa):Option (Int):=P0 (fun rec (x:Aa)=>Di.F (fun v=>rec v) x) v
def Fy.j1 (y:Aa×Int×Bool) (x24_1:Bool):Option (Aa×Int):=
 cond (x24_1)
  (some ((Aa.mk 0 ([]:(List UInt8)) false ([]:(List Aa))),1))
  ((Di y.1).bind fun y_2=>
  cond (decide (16 < y_2))
   (some ((Aa.mk 0 ([]:(List UInt8)) false ([]:(List Aa))),3))
   (some (y.1,0)))
def Fy (b:(List UInt8)):Option (Aa×Int):=
 cond (decide (4096 < (b.length:Int)))
  (some ((Aa.mk 0 ([]:(List UInt8)) false ([]:(List Aa))),3))
  ((Ci b).bind fun y=>
  cond (!y.2.2)
   (Fy.j1 y true)
   (Fy.j1 y (!decide (y.2.1=(b.length:Int)))))
def Fw (rec:Aa->Option (Bool)) (x':Aa):Option (Bool):=
 (rec x').bind fun y=>
 some (!y)
def Bg.l1 (s:(List Aa)) (f:Aa->Option (Bool)) (x8_1:Int):Option (Lp (Int) (Int)):=
 cond (decide (x8_1 < (s.length:Int)))
  ((C4 s x8_1).bind fun e=>
  (f e).bind fun y=>
  cond (y)
   (up (some x8_1))
   (some (.next (W (x8_1 + 1)))))
  (up (
   some (-1)))
def Bg (rec:Aa->Option (Bool)) (s:(List Aa)) (f:Aa->Option (Bool)):Option (Int):=
 Dp (fun q'=>Bg.l1 s f q') 0
def De (rec:Aa->Option (Bool)) (s:(List Aa)) (f:Aa->Option (Bool)):Option (Bool):=
 (Bg rec s f).bind fun y=>
 some (decide (0<=y))
def Ch.j1 (rec:Aa->Option (Bool)) (v:Aa) (x36_1:Bool):Option (Bool):=
 cond (x36_1)
  (some false)
  ((De rec v.Elements (fun x0=>Fw rec x0)).bind fun y_2=>
  some (!y_2))
def Ch.F (rec:Aa->Option (Bool)) (v:Aa):Option (Bool):=
 (Mj v.Tag).bind fun y=>
 cond (!y)
  (Ch.j1 rec v true)
  (cond (!decide (v.Nested=(!decide ((Xh .i64 v.Tag 32)=0))))
   (Ch.j1 rec v true)
   (cond (v.Nested)
    (cond (decide (0 < (v.Bytes.length:Int)))
     (Ch.j1 rec v true)
     (Ch.j1 rec v false))
    (Ch.j1 rec v (decide (0 < (v.Elements.length:Int))))))
def Ch (v:Aa):Option (Bool):=P0 (fun rec (x:Aa)=>Ch.F (fun v=>rec v) x) v
def Cz.l1 (rec:(List Aa)->Option ((List Aa))) (l:(List Aa)) (x8_1:Int) (out_1:List Aa):Option (Lp (Int×List Aa) ((List Aa))):=
 cond (decide (x8_1 < (l.length:Int)))
  ((C4 l x8_1).bind fun e=>
  (Ex e.Bytes).bind fun y=>
  (rec e.Elements).bind fun y_2=>
  (Gl 256 out_1 ([(Aa.mk e.Tag y e.Nested y_2)]:List Aa)).bind fun l_2=>
  some (.next (W (x8_1 + 1),l_2)))
  (up (
   some out_1))
def Cz.F (rec:(List Aa)->Option ((List Aa))) (l:(List Aa)):Option ((List Aa)):=
 Dp (fun q'=>Cz.l1 rec l q'.1 q'.2) (0,([]:List Aa))
def Cz (l:(List Aa)):Option ((List Aa)):=P0 (fun rec (x:(List Aa))=>Cz.F (fun l=>rec l) x) l
def En.j1 (v:Aa) (x11_1:Bool):Option ((List Aa)×Int):=
 cond (x11_1)
  (some (([]:(List Aa)),1))
  ((Cz v.Elements).bind fun y_2=>
  some (y_2,0))
def En (v:Aa):Option ((List Aa)×Int):=
 cond (!decide (v.Tag=48))
  (En.j1 v true)
  ((Ch v).bind fun y=>
  En.j1 v (!y))
def Ed (v:Aa) (count:Int):Option (Aj):=
 (En v).bind fun y=>
 cond (!decide (y.2=0))
  (some (Aj.mk y.1 true))
  (some (Aj.mk y.1 (!decide ((y.1.length:Int)=count))))
def Bb.j1 (r':Aj) (x15_1:Bool):Option (Aa×Aj):=
 cond (x15_1)
  (some ((Aa.mk 0 ([]:(List UInt8)) false ([]:(List Aa))),(Aj.mk r'.l true)))
  ((C4 r'.l 0).bind fun e=>
  (Q8 r'.l 1 (r'.l.length:Int)).bind fun l=>
  some (e,(Aj.mk l r'.Failed)))
def Bb (r':Aj):Option (Aa×Aj):=
 cond (r'.Failed)
  (Bb.j1 r' true)
  (Bb.j1 r' (decide ((r'.l.length:Int)=0)))
def Jp (v:Aa) (tag:Int):Option (Bool):=
 cond (decide (v.Tag=tag))
  (cond (!v.Nested)
   (some (decide ((v.Elements.length:Int)=0)))
   (some false))
  (some false)
def Gw (x':UInt8):Option (Bool):=
 cond (decide ((x'.toNat:Int) < 32))
  (some true)
  (some (decide (126 < (x'.toNat:Int))))
def Bu.l1 (s:(List UInt8)) (f:UInt8->Option (Bool)) (x8_1:Int):Option (Lp (Int) (Int)):=
 cond (decide (x8_1 < (s.length:Int)))
  ((C4 s x8_1).bind fun e=>
  (f e).bind fun y=>
  cond (y)
   (up (some x8_1))
   (some (.next (W (x8_1 + 1)))))
  (up (
   some (-1)))
def Bu (s:(List UInt8)) (f:UInt8->Option (Bool)):Option (Int):=
 Dp (fun q'=>Bu.l1 s f q') 0
def Fe (s:(List UInt8)) (f:UInt8->Option (Bool)):Option (Bool):=
 (Bu s f).bind fun y=>
 some (decide (0<=y))
def Fi.j1 (v:Aa) (x11_1:Bool):Option (ByteArray×Int):=
 cond (x11_1)
  (some ((⟨#[]⟩:ByteArray),1))
  (some (Zr v.Bytes,0))
def Fi (v:Aa):Option (ByteArray×Int):=
 (Jp v 12).bind fun y=>
 cond (!y)
  (Fi.j1 v true)
  ((Fe v.Bytes (fun x0=>Gw x0)).bind fun y_2=>
  Fi.j1 v y_2)
def El (r':Aj):Option (ByteArray×Aj):=
 (Bb r').bind fun y=>
 (Fi y.1).bind fun y_2=>
 cond (y.2.Failed)
  (some (y_2.1,(Aj.mk y.2.l true)))
  (some (y_2.1,(Aj.mk y.2.l (!decide (y_2.2=0)))))
def C2.j3 (b_2:List UInt8) (x43_3:Bool):Option (Lp (List UInt8) (Aa)):=
 cond (x43_3)
  ((Q8 b_2 1 (b_2.length:Int)).bind fun l_2=>
  some (.next l_2))
  (up (
   some (Aa.mk 2 b_2 false ([]:(List Aa)))))
def C2.l2 (b_2:List UInt8):Option (Lp (List UInt8) (Aa)):=
 cond (decide (1 < (b_2.length:Int)))
  ((C4 b_2 0).bind fun e=>
  cond (decide ((e.toNat:Int)=0))
   ((C4 b_2 1).bind fun e_2=>
   cond (decide ((e_2.toNat:Int) < 128))
    (C2.j3 b_2 true)
    (cond (decide ((e.toNat:Int)=255))
     (C2.j3 b_2 (decide (128<=(e_2.toNat:Int))))
     (C2.j3 b_2 false)))
   (cond (decide ((e.toNat:Int)=255))
    ((C4 b_2 1).bind fun e_3=>
    C2.j3 b_2 (decide (128<=(e_3.toNat:Int))))
    (C2.j3 b_2 false)))
  (C2.j3 b_2 false)
def C2.l1 (n:Int) (i_1:Int) (b_1:List UInt8):Option (Lp (Int×List UInt8) (Aa)):=
 cond (decide (0<=i_1))
  ((Sa .u64 (IntKind.wrap .u64 n) i_1).bind fun q=>
  (Gl 1 b_1 ([(u8 q)]:List UInt8)).bind fun l=>
  some (.next (W (i_1 - 8),l)))
  (up (
   Dp (fun q'=>C2.l2 q') b_1))
def C2 (n:Int):Option (Aa):=
 Dp (fun q'=>C2.l1 n q'.1 q'.2) (56,([]:List UInt8))
def J8 (a:(List UInt8)) (b:(List UInt8)):Option (Bool):=
 some (decide ((Zr a)=(Zr b)))
def Cd.l3 (v:Aa) (n_3:Int) (x32_3:Int):Option (Lp (Int×Int) (Int×Int)):=
 cond (decide (x32_3 < (v.Bytes.length:Int)))
  ((C4 v.Bytes x32_3).bind fun e_2=>
  (fF .u64 n_3 8).bind fun q=>
  some (.next (Zk .u64 q (IntKind.wrap .u64 (e_2.toNat:Int)),W (x32_3 + 1))))
  (up (
   (C2 (W n_3)).bind fun y_2=>
   (J8 y_2.Bytes v.Bytes).bind fun y_3=>
   cond (!y_3)
    (some (0,1))
    (some (W n_3,0))))
def Cd.j2 (v:Aa) (n_2:Int):Option (Int×Int):=
 Dp (fun q'=>Cd.l3 v q'.1 q'.2) (n_2,0)
def Cd.j1 (v:Aa) (x21_1:Bool):Option (Int×Int):=
 cond (x21_1)
  (some (0,1))
  ((C4 v.Bytes 0).bind fun e=>
  cond (decide (128<=(e.toNat:Int)))
   (Cd.j2 v (uD .u64 0))
   (Cd.j2 v 0))
def Cd (v:Aa):Option (Int×Int):=
 (Jp v 2).bind fun y=>
 cond (!y)
  (Cd.j1 v true)
  (cond (decide ((v.Bytes.length:Int) < 1))
   (Cd.j1 v true)
   (Cd.j1 v (decide (8 < (v.Bytes.length:Int)))))
def Bz (r':Aj):Option (Int×Aj):=
 (Bb r').bind fun y=>
 (Cd y.1).bind fun y_2=>
 cond (y.2.Failed)
  (some (y_2.1,(Aj.mk y.2.l true)))
  (some (y_2.1,(Aj.mk y.2.l (!decide (y_2.2=0)))))
def B3.j1 (y:Aa×Aj) (y_3:Int×Aj) (y_4:Int×Aj) (b_1:Bool):Option (Aw×Aj):=
 some ((Aw.mk y_3.1 y_4.1),(Aj.mk y.2.l b_1))
def B3 (r':Aj):Option (Aw×Aj):=
 (Bb r').bind fun y=>
 (Ed y.1 2).bind fun y_2=>
 (Bz y_2).bind fun y_3=>
 (Bz y_3.2).bind fun y_4=>
 cond (y.2.Failed)
  (B3.j1 y y_3 y_4 true)
  (B3.j1 y y_3 y_4 y_4.2.Failed)
def Ee.j1 (v:Aa) (x26_1:Bool):Option (Bool×Int):=
 cond (x26_1)
  (some (false,1))
  ((C4 v.Bytes 0).bind fun e_2=>
  some (decide ((e_2.toNat:Int)=255),0))
def Ee (v:Aa):Option (Bool×Int):=
 (Jp v 1).bind fun y=>
 cond (!y)
  (Ee.j1 v true)
  (cond (!decide ((v.Bytes.length:Int)=1))
   (Ee.j1 v true)
   ((C4 v.Bytes 0).bind fun e=>
   cond (!decide ((e.toNat:Int)=0))
    (Ee.j1 v (!decide ((e.toNat:Int)=255)))
    (Ee.j1 v false)))
def Fk (r':Aj):Option (Bool×Aj):=
 (Bb r').bind fun y=>
 (Ee y.1).bind fun y_2=>
 cond (y.2.Failed)
  (some (y_2.1,(Aj.mk y.2.l true)))
  (some (y_2.1,(Aj.mk y.2.l (!decide (y_2.2=0)))))
def D4 (r':Aj):Option ((List Aa)×Aj):=
 (Bb r').bind fun y=>
 (En y.1).bind fun y_2=>
 cond (y.2.Failed)
  (some (y_2.1,(Aj.mk y.2.l true)))
  (some (y_2.1,(Aj.mk y.2.l (!decide (y_2.2=0)))))
def G8 (c0:Aj) (c1:Ab):Option (Aj×Ab):=
 (Bz c0).bind fun y=>
 some (y.2,(Ab.mk y.1 c1.Issuer c1.Subject c1.Key c1.KeyId c1.Hash c1.From c1.To c1.Authority c1.Path c1.Names c1.Seal))
def G7 (c0:Aj) (c1:Ab):Option (Aj×Ab):=
 (El c0).bind fun y=>
 (El y.2).bind fun y_2=>
 some (y_2.2,(Ab.mk c1.Serial y.1 y_2.1 c1.Key c1.KeyId c1.Hash c1.From c1.To c1.Authority c1.Path c1.Names c1.Seal))
def Hd (c0:Aj) (c1:Ab):Option (Aj×Ab):=
 (B3 c0).bind fun y=>
 (Bz y.2).bind fun y_2=>
 some (y_2.2,(Ab.mk c1.Serial c1.Issuer c1.Subject y.1 y_2.1 c1.Hash c1.From c1.To c1.Authority c1.Path c1.Names c1.Seal))
def G9 (c0:Aj) (c1:Ab):Option (Aj×Ab):=
 (B3 c0).bind fun y=>
 some (y.2,(Ab.mk c1.Serial c1.Issuer c1.Subject c1.Key c1.KeyId y.1 c1.From c1.To c1.Authority c1.Path c1.Names c1.Seal))
def Hg (c0:Aj) (c1:Ab):Option (Aj×Ab):=
 (Bz c0).bind fun y=>
 (Bz y.2).bind fun y_2=>
 some (y_2.2,(Ab.mk c1.Serial c1.Issuer c1.Subject c1.Key c1.KeyId c1.Hash y.1 y_2.1 c1.Authority c1.Path c1.Names c1.Seal))
def G5 (c0:Aj) (c1:Ab):Option (Aj×Ab):=
 (Fk c0).bind fun y=>
 (Bz y.2).bind fun y_2=>
 some (y_2.2,(Ab.mk c1.Serial c1.Issuer c1.Subject c1.Key c1.KeyId c1.Hash c1.From c1.To y.1 y_2.1 c1.Names c1.Seal))
def Bd.j2 (x11_1:Int) (out_1:List ByteArray) (y_2:ByteArray×Int) (r_2:Bool):Option (Lp (Int×Bool×List ByteArray) ((List ByteArray)×Aj)):=
 (Gl 16 out_1 ([y_2.1]:List ByteArray)).bind fun l=>
 some (.next (W (x11_1 + 1),r_2,l))
def Bd.l1 (y:(List Aa)×Aj) (x11_1:Int) (r_1:Bool) (out_1:List ByteArray):Option (Lp (Int×Bool×List ByteArray) ((List ByteArray)×Aj)):=
 cond (decide (x11_1 < (y.1.length:Int)))
  ((C4 y.1 x11_1).bind fun e=>
  (Fi e).bind fun y_2=>
  cond (r_1)
   (Bd.j2 x11_1 out_1 y_2 true)
   (Bd.j2 x11_1 out_1 y_2 (!decide (y_2.2=0))))
  (up (
   some (out_1,(Aj.mk y.2.l r_1))))
def Bd (r':Aj):Option ((List ByteArray)×Aj):=
 (D4 r').bind fun y=>
 Dp (fun q'=>Bd.l1 y q'.1 q'.2.1 q'.2.2) (0,y.2.Failed,([]:List ByteArray))
def Ha (c0:Aj) (c1:Ab):Option (Aj×Ab):=
 (Bd c0).bind fun y=>
 some (y.2,(Ab.mk c1.Serial c1.Issuer c1.Subject c1.Key c1.KeyId c1.Hash c1.From c1.To c1.Authority c1.Path y.1 c1.Seal))
def G6 (c0:Aj) (c1:Ab):Option (Aj×Ab):=
 (Bz c0).bind fun y=>
 (Bz y.2).bind fun y_2=>
 some (y_2.2,(Ab.mk c1.Serial c1.Issuer c1.Subject c1.Key c1.KeyId c1.Hash c1.From c1.To c1.Authority c1.Path c1.Names (Ct.mk y.1 y_2.1)))
def Cq.j1 (y_13:Aj×Ab) (x48_1:Bool):Option (Ab×Bool):=
 cond (x48_1)
  (some ((Ab.mk 0 (⟨#[]⟩:ByteArray) (⟨#[]⟩:ByteArray) (Aw.mk 0 0) 0 (Aw.mk 0 0) 0 0 false 0 ([]:(List ByteArray)) (Ct.mk 0 0)),false))
  (some (y_13.2,true))
def Cq (v:Aa):Option (Ab×Bool):=
 (Ed v 2).bind fun y=>
 (Bb y).bind fun y_2=>
 (Ed y_2.1 11).bind fun y_3=>
 (Bb y_2.2).bind fun y_4=>
 (Ed y_4.1 2).bind fun y_5=>
 (G8 y_3 (Ab.mk 0 (⟨#[]⟩:ByteArray) (⟨#[]⟩:ByteArray) (Aw.mk 0 0) 0 (Aw.mk 0 0) 0 0 false 0 ([]:(List ByteArray)) (Ct.mk 0 0))).bind fun y_6=>
 (G7 y_6.1 y_6.2).bind fun y_7=>
 (Hd y_7.1 y_7.2).bind fun y_8=>
 (G9 y_8.1 y_8.2).bind fun y_9=>
 (Hg y_9.1 y_9.2).bind fun y_10=>
 (G5 y_10.1 y_10.2).bind fun y_11=>
 (Ha y_11.1 y_11.2).bind fun y_12=>
 (G6 y_5 y_12.2).bind fun y_13=>
 cond (y_4.2.Failed)
  (Cq.j1 y_13 true)
  (cond (y_12.1.Failed)
   (Cq.j1 y_13 true)
   (Cq.j1 y_13 y_13.1.Failed))
def D6.l1 (y_2:ByteArray×Aj) (y_3:Aw×Aj) (y_4:Int×Aj) (y_5:Bool×Aj) (y_6:(List Aa)×Aj) (x24_1:Int) (l_1:List Ab):Option (Lp (Int×List Ab) (Ac×Bool)):=
 cond (decide (x24_1 < (y_6.1.length:Int)))
  ((C4 y_6.1 x24_1).bind fun e=>
  (Cq e).bind fun y_7=>
  cond (!y_7.2)
   (up (some ((Ac.mk (⟨#[]⟩:ByteArray) (Aw.mk 0 0) 0 false ([]:(List Ab))),false)))
   ((Gl 2280 l_1 ([y_7.1]:List Ab)).bind fun l=>
   some (.next (W (x24_1 + 1),l))))
  (up (
   some ((Ac.mk y_2.1 y_3.1 y_4.1 y_5.1 l_1),!y_6.2.Failed)))
def D6 (v:Aa):Option (Ac×Bool):=
 (Ed v 5).bind fun y=>
 (El y).bind fun y_2=>
 (B3 y_2.2).bind fun y_3=>
 (Bz y_3.2).bind fun y_4=>
 (Fk y_4.2).bind fun y_5=>
 (D4 y_5.2).bind fun y_6=>
 Dp (fun q'=>D6.l1 y_2 y_3 y_4 y_5 y_6 q'.1 q'.2) (0,([]:List Ab))
def Du.l1 (y_2:(List Aa)×Int) (x29_1:Int) (out_1:List Ac):Option (Lp (Int×List Ac) ((List Ac)×Int)):=
 cond (decide (x29_1 < (y_2.1.length:Int)))
  ((C4 y_2.1 x29_1).bind fun e=>
  (D6 e).bind fun y_3=>
  cond (!y_3.2)
   (up (some (([]:(List Ac)),1)))
   ((Gl 432 out_1 ([y_3.1]:List Ac)).bind fun l=>
   some (.next (W (x29_1 + 1),l))))
  (up (
   (By out_1).bind fun y_4=>
   cond (!decide (y_4=0))
    (some (([]:(List Ac)),16))
    (some (out_1,0))))
def Du (b:(List UInt8)):Option ((List Ac)×Int):=
 (Fy b).bind fun y=>
 cond (!decide (y.2=0))
  (some (([]:(List Ac)),y.2))
  ((En y.1).bind fun y_2=>
  cond (!decide (y_2.2=0))
   (some (([]:(List Ac)),1))
   (Dp (fun q'=>Du.l1 y_2 q'.1 q'.2) (0,([]:List Ac))))
def Ck.j2 (out_1:List Aa) (y:Int×Int×Int×Bool) (q_2:Int) (v_2:List Aa) (l_2_2:List UInt8):Option (Lp (Int×List Aa) ((List Aa)×Bool)):=
 (Gl 256 out_1 ([(Aa.mk y.1 l_2_2 (decide (q_2=1)) v_2)]:List Aa)).bind fun l_4=>
 some (.next (y.2.2.1,l_4))
def Ck.l1 (rec:(List UInt8)->Option ((List Aa)×Bool)) (b:(List UInt8)) (at_1:Int) (out_1:List Aa):Option (Lp (Int×List Aa) ((List Aa)×Bool)):=
 cond (decide (at_1 < (b.length:Int)))
  ((Bh b at_1).bind fun y=>
  cond (!y.2.2.2)
   (up (some (([]:(List Aa)),false)))
   ((Sd y.1 32).bind fun q=>
   (R4 q 2).bind fun q_2=>
   cond (decide (q_2=1))
    ((Q8 b y.2.1 y.2.2.1).bind fun l=>
    (rec l).bind fun y_2=>
    cond (!y_2.2)
     (up (some (([]:(List Aa)),false)))
     (Ck.j2 out_1 y q_2 y_2.1 ([]:List UInt8)))
    ((Q8 b y.2.1 y.2.2.1).bind fun l_2=>
    (Gl 1 ([]:List UInt8) l_2).bind fun l_3=>
    Ck.j2 out_1 y q_2 ([]:List Aa) l_3)))
  (up (
   some (out_1,true)))
def Ck.F (rec:(List UInt8)->Option ((List Aa)×Bool)) (b:(List UInt8)):Option ((List Aa)×Bool):=
 Dp (fun q'=>Ck.l1 rec b q'.1 q'.2) (0,([]:List Aa))
def Ck (b:(List UInt8)):Option ((List Aa)×Bool):=P0 (fun rec (x:(List UInt8))=>Ck.F (fun b=>rec b) x) b
def Eh.j1 (y:(List Aa)×Bool) (x21_1:Bool):Option (Aa×Int):=
 cond (x21_1)
  (some ((Aa.mk 0 ([]:(List UInt8)) false ([]:(List Aa))),1))
  ((C4 y.1 0).bind fun e=>
  (Cg e).bind fun y_2=>
  cond (decide (16 < y_2))
   (some ((Aa.mk 0 ([]:(List UInt8)) false ([]:(List Aa))),3))
   (some (e,0)))
def Eh (b:(List UInt8)):Option (Aa×Int):=
 cond (decide (4096 < (b.length:Int)))
  (some ((Aa.mk 0 ([]:(List UInt8)) false ([]:(List Aa))),3))
  ((Ck b).bind fun y=>
  cond (!y.2)
   (Eh.j1 y true)
   (Eh.j1 y (!decide ((y.1.length:Int)=1))))
def Et.j1 (v:Aa) (x11_1:Bool):Option ((List Aa)×Int):=
 cond (x11_1)
  (some (([]:(List Aa)),1))
  ((Cb v.Elements).bind fun y_2=>
  some (y_2,0))
def Et (v:Aa):Option ((List Aa)×Int):=
 cond (!decide (v.Tag=48))
  (Et.j1 v true)
  ((Bc v).bind fun y=>
  Et.j1 v (!y))
def It (v:Aa):Option (Ad):=
 (Et v).bind fun y=>
 some (Ad.mk y.1 0 (decide (y.2=0)))
def B2.j1 (r':Ad) (x19_1:Bool):Option (Aa×Ad):=
 cond (x19_1)
  (some ((Aa.mk 0 ([]:(List UInt8)) false ([]:(List Aa))),(Ad.mk r'.L r'.At false)))
  ((C4 r'.L (W ((W (r'.At + 1)) - 1))).bind fun e=>
  some (e,(Ad.mk r'.L (W (r'.At + 1)) r'.OK)))
def B2 (r':Ad):Option (Aa×Ad):=
 cond (!r'.OK)
  (B2.j1 r' true)
  (B2.j1 r' (decide ((r'.L.length:Int)<=r'.At)))
def Dz (r':Ad):Option (Ad×Ad):=
 (B2 r').bind fun y=>
 (It y.1).bind fun y_2=>
 cond (y.2.OK)
  (some (y_2,(Ad.mk y.2.L y.2.At y_2.OK)))
  (some (y_2,(Ad.mk y.2.L y.2.At false)))
def Bv.j3 (i_2:Int) (x38_3:Bool):Option (Lp (Int) (ByteArray×Int)):=
 cond (x38_3)
  (up (some ((⟨#[]⟩:ByteArray),1)))
  (some (.next (W (i_2 + 1))))
def Bv.l2 (v:Aa) (i_2:Int):Option (Lp (Int) (ByteArray×Int)):=
 cond (decide (i_2 < (v.Bytes.length:Int)))
  ((C4 v.Bytes i_2).bind fun e=>
  cond (decide ((e.toNat:Int) < 32))
   (Bv.j3 i_2 true)
   (Bv.j3 i_2 (decide (126 < (e.toNat:Int)))))
  (up (
   some (Zr v.Bytes,0)))
def Bv.j1 (v:Aa) (x17_1:Bool):Option (ByteArray×Int):=
 cond (x17_1)
  (some ((⟨#[]⟩:ByteArray),1))
  (Dp (fun q'=>Bv.l2 v q') 0)
def Bv (v:Aa):Option (ByteArray×Int):=
 cond (!decide (v.Tag=12))
  (Bv.j1 v true)
  (cond (v.Nested)
   (Bv.j1 v true)
   (Bv.j1 v (decide (0 < (v.Elements.length:Int)))))
def Ef (r':Ad):Option (ByteArray×Ad):=
 (B2 r').bind fun y=>
 (Bv y.1).bind fun y_2=>
 cond (y.2.OK)
  (some (y_2.1,(Ad.mk y.2.L y.2.At (decide (y_2.2=0)))))
  (some (y_2.1,(Ad.mk y.2.L y.2.At false)))
def Bp.l3 (v:Aa) (n_3:Int) (i_3:Int):Option (Lp (Int×Int) (Int×Int)):=
 cond (decide (i_3 < (v.Bytes.length:Int)))
  ((fF .i64 n_3 8).bind fun q=>
  (C4 v.Bytes i_3).bind fun e_2=>
  some (.next (Zk .i64 q (e_2.toNat:Int),W (i_3 + 1))))
  (up (
   (Bo n_3).bind fun y=>
   cond (!decide ((Zr y.Bytes)=(Zr v.Bytes)))
    (some (0,1))
    (some (n_3,0))))
def Bp.j2 (v:Aa) (n_2:Int):Option (Int×Int):=
 Dp (fun q'=>Bp.l3 v q'.1 q'.2) (n_2,0)
def Bp.j1 (v:Aa) (x30_1:Bool):Option (Int×Int):=
 cond (x30_1)
  (some (0,1))
  ((C4 v.Bytes 0).bind fun e=>
  cond (decide (128<=(e.toNat:Int)))
   (Bp.j2 v (-1))
   (Bp.j2 v 0))
def Bp (v:Aa):Option (Int×Int):=
 cond (!decide (v.Tag=2))
  (Bp.j1 v true)
  (cond (v.Nested)
   (Bp.j1 v true)
   (cond (decide (0 < (v.Elements.length:Int)))
    (Bp.j1 v true)
    (cond (decide ((v.Bytes.length:Int) < 1))
     (Bp.j1 v true)
     (Bp.j1 v (decide (8 < (v.Bytes.length:Int)))))))
def Dk (r':Ad):Option (Int×Ad):=
 (B2 r').bind fun y=>
 (Bp y.1).bind fun y_2=>
 cond (y.2.OK)
  (some (y_2.1,(Ad.mk y.2.L y.2.At (decide (y_2.2=0)))))
  (some (y_2.1,(Ad.mk y.2.L y.2.At false)))
def Ce (r':Ad):Option (Bool×Ad):=
 cond (r'.OK)
  (some (decide (r'.At=(r'.L.length:Int)),r'))
  (some (false,r'))
def Dd.j1 (y:Ad×Ad) (y_2:Int×Ad) (y_3:Int×Ad) (b_1:Bool):Option (Aw×Ad):=
 some ((Aw.mk y_2.1 y_3.1),(Ad.mk y.2.L y.2.At b_1))
def Dd (r':Ad):Option (Aw×Ad):=
 (Dz r').bind fun y=>
 (Dk y.1).bind fun y_2=>
 (Dk y_2.2).bind fun y_3=>
 cond (y.2.OK)
  ((Ce y_3.2).bind fun y_4=>
  Dd.j1 y y_2 y_3 y_4.1)
  (Dd.j1 y y_2 y_3 false)
def Df.j1 (v:Aa) (x36_1:Bool):Option (Bool×Int):=
 cond (x36_1)
  (some (false,1))
  ((C4 v.Bytes 0).bind fun e_2=>
  some (decide ((e_2.toNat:Int)=255),0))
def Df (v:Aa):Option (Bool×Int):=
 cond (!decide (v.Tag=1))
  (Df.j1 v true)
  (cond (v.Nested)
   (Df.j1 v true)
   (cond (decide (0 < (v.Elements.length:Int)))
    (Df.j1 v true)
    (cond (!decide ((v.Bytes.length:Int)=1))
     (Df.j1 v true)
     ((C4 v.Bytes 0).bind fun e=>
     cond (!decide ((e.toNat:Int)=0))
      (Df.j1 v (!decide ((e.toNat:Int)=255)))
      (Df.j1 v false)))))
def G3 (r':Ad):Option (Bool×Ad):=
 (B2 r').bind fun y=>
 (Df y.1).bind fun y_2=>
 cond (y.2.OK)
  (some (y_2.1,(Ad.mk y.2.L y.2.At (decide (y_2.2=0)))))
  (some (y_2.1,(Ad.mk y.2.L y.2.At false)))
def Dn.j2 (y_2:Ad×Ad) (y_3:Int×Ad) (y_4:ByteArray×Ad) (y_5:ByteArray×Ad) (y_6:Aw×Ad) (y_7:Int×Ad) (y_8:Aw×Ad) (y_9:Int×Ad) (y_10:Int×Ad) (y_11:Bool×Ad) (y_12:Int×Ad) (y_13:Ad×Ad) (n_1:Ad) (l_1:List ByteArray) (x51_2:Bool):Option (Lp (Ad×List ByteArray) (Ab×Bool)):=
 cond (x51_2)
  ((Ef n_1).bind fun y_14=>
  (Gl 16 l_1 ([y_14.1]:List ByteArray)).bind fun l=>
  some (.next (y_14.2,l)))
  (up (
   (Dz y_2.2).bind fun y_15=>
   (Dk y_15.1).bind fun y_16=>
   (Dk y_16.2).bind fun y_17=>
   (Ce y_15.2).bind fun y_18=>
   cond (y_18.1)
    ((Ce y_13.2).bind fun y_19=>
    cond (y_19.1)
     ((Ce n_1).bind fun y_20=>
     cond (y_20.1)
      ((Ce y_17.2).bind fun y_21=>
      some ((Ab.mk y_3.1 y_4.1 y_5.1 y_6.1 y_7.1 y_8.1 y_9.1 y_10.1 y_11.1 y_12.1 l_1 (Ct.mk y_16.1 y_17.1)),y_21.1))
      (some ((Ab.mk y_3.1 y_4.1 y_5.1 y_6.1 y_7.1 y_8.1 y_9.1 y_10.1 y_11.1 y_12.1 l_1 (Ct.mk y_16.1 y_17.1)),false)))
     (some ((Ab.mk y_3.1 y_4.1 y_5.1 y_6.1 y_7.1 y_8.1 y_9.1 y_10.1 y_11.1 y_12.1 l_1 (Ct.mk y_16.1 y_17.1)),false)))
    (some ((Ab.mk y_3.1 y_4.1 y_5.1 y_6.1 y_7.1 y_8.1 y_9.1 y_10.1 y_11.1 y_12.1 l_1 (Ct.mk y_16.1 y_17.1)),false))))
def Dn.l1 (y_2:Ad×Ad) (y_3:Int×Ad) (y_4:ByteArray×Ad) (y_5:ByteArray×Ad) (y_6:Aw×Ad) (y_7:Int×Ad) (y_8:Aw×Ad) (y_9:Int×Ad) (y_10:Int×Ad) (y_11:Bool×Ad) (y_12:Int×Ad) (y_13:Ad×Ad) (n_1:Ad) (l_1:List ByteArray):Option (Lp (Ad×List ByteArray) (Ab×Bool)):=
 cond (n_1.OK)
  (Dn.j2 y_2 y_3 y_4 y_5 y_6 y_7 y_8 y_9 y_10 y_11 y_12 y_13 n_1 l_1 (decide (n_1.At < (n_1.L.length:Int))))
  (Dn.j2 y_2 y_3 y_4 y_5 y_6 y_7 y_8 y_9 y_10 y_11 y_12 y_13 n_1 l_1 false)
def Dn (v:Aa):Option (Ab×Bool):=
 (It v).bind fun y=>
 (Dz y).bind fun y_2=>
 (Dk y_2.1).bind fun y_3=>
 (Ef y_3.2).bind fun y_4=>
 (Ef y_4.2).bind fun y_5=>
 (Dd y_5.2).bind fun y_6=>
 (Dk y_6.2).bind fun y_7=>
 (Dd y_7.2).bind fun y_8=>
 (Dk y_8.2).bind fun y_9=>
 (Dk y_9.2).bind fun y_10=>
 (G3 y_10.2).bind fun y_11=>
 (Dk y_11.2).bind fun y_12=>
 (Dz y_12.2).bind fun y_13=>
 Dp (fun q'=>Dn.l1 y_2 y_3 y_4 y_5 y_6 y_7 y_8 y_9 y_10 y_11 y_12 y_13 q'.1 q'.2) (y_13.1,([]:List ByteArray))
def A1.j5 (l_3:List Ab) (y_9:Aa×Ad) (y_10:Ab×Bool) (c_5:Bool):Option (Lp (Ad×List Ab) (Lp (Ad×List Ac) ((List Ac)×Int))):=
 (Gl 2280 l_3 ([y_10.1]:List Ab)).bind fun l=>
 some (.next ((Ad.mk y_9.2.L y_9.2.At c_5),l))
def A1.j6 (out_1:List Ac) (y_3:Ad×Ad) (y_4:ByteArray×Ad) (y_5:Aw×Ad) (y_6:Int×Ad) (y_7:Bool×Ad) (l_3:List Ab) (x102_6:Bool):Option (Lp (Ad×List Ac) ((List Ac)×Int)):=
 cond (x102_6)
  (up (some (([]:(List Ac)),1)))
  ((Gl 432 out_1 ([(Ac.mk y_4.1 y_5.1 y_6.1 y_7.1 l_3)]:List Ac)).bind fun l_2=>
  some (.next (y_3.2,l_2)))
def A1.j4 (out_1:List Ac) (y_3:Ad×Ad) (y_4:ByteArray×Ad) (y_5:Aw×Ad) (y_6:Int×Ad) (y_7:Bool×Ad) (y_8:Ad×Ad) (c_3:Ad) (l_3:List Ab) (x72_4:Bool):Option (Lp (Ad×List Ab) (Lp (Ad×List Ac) ((List Ac)×Int))):=
 cond (x72_4)
  ((B2 c_3).bind fun y_9=>
  (Dn y_9.1).bind fun y_10=>
  cond (y_9.2.OK)
   (A1.j5 l_3 y_9 y_10 y_10.2)
   (A1.j5 l_3 y_9 y_10 false))
  (up (
   (Ce y_8.2).bind fun y_11=>
   cond (!y_11.1)
    (A1.j6 out_1 y_3 y_4 y_5 y_6 y_7 l_3 true)
    ((Ce c_3).bind fun y_12=>
    A1.j6 out_1 y_3 y_4 y_5 y_6 y_7 l_3 (!y_12.1))))
def A1.l3 (out_1:List Ac) (y_3:Ad×Ad) (y_4:ByteArray×Ad) (y_5:Aw×Ad) (y_6:Int×Ad) (y_7:Bool×Ad) (y_8:Ad×Ad) (c_3:Ad) (l_3:List Ab):Option (Lp (Ad×List Ab) (Lp (Ad×List Ac) ((List Ac)×Int))):=
 cond (c_3.OK)
  (A1.j4 out_1 y_3 y_4 y_5 y_6 y_7 y_8 c_3 l_3 (decide (c_3.At < (c_3.L.length:Int))))
  (A1.j4 out_1 y_3 y_4 y_5 y_6 y_7 y_8 c_3 l_3 false)
def A1.j2 (r_1:Ad) (out_1:List Ac) (x43_2:Bool):Option (Lp (Ad×List Ac) ((List Ac)×Int)):=
 cond (x43_2)
  ((Dz r_1).bind fun y_3=>
  (Ef y_3.1).bind fun y_4=>
  (Dd y_4.2).bind fun y_5=>
  (Dk y_5.2).bind fun y_6=>
  (G3 y_6.2).bind fun y_7=>
  (Dz y_7.2).bind fun y_8=>
  Dp (fun q'=>A1.l3 out_1 y_3 y_4 y_5 y_6 y_7 y_8 q'.1 q'.2) (y_8.1,([]:List Ab)))
  (up (
   (Ce r_1).bind fun y_13=>
   cond (!y_13.1)
    (some (([]:(List Ac)),1))
    ((Cu out_1).bind fun y_14=>
    cond (!decide (y_14=0))
     (some (([]:(List Ac)),16))
     (some (out_1,0)))))
def A1.l1 (r_1:Ad) (out_1:List Ac):Option (Lp (Ad×List Ac) ((List Ac)×Int)):=
 cond (r_1.OK)
  (A1.j2 r_1 out_1 (decide (r_1.At < (r_1.L.length:Int))))
  (A1.j2 r_1 out_1 false)
def A1 (b:(List UInt8)):Option ((List Ac)×Int):=
 (Eh b).bind fun y=>
 cond (!decide (y.2=0))
  (some (([]:(List Ac)),y.2))
  ((It y.1).bind fun y_2=>
  cond (!y_2.OK)
   (some (([]:(List Ac)),1))
   (Dp (fun q'=>A1.l1 q'.1 q'.2) (y_2,([]:List Ac))))
def D8.l1 (a:(List ByteArray)) (b:(List ByteArray)) (i_1:Int):Option (Lp (Int) (Bool)):=
 cond (decide (i_1 < (a.length:Int)))
  ((C4 a i_1).bind fun e=>
  (C4 b i_1).bind fun e_2=>
  cond (!decide (e=e_2))
   (up (some false))
   (some (.next (W (i_1 + 1)))))
  (up (
   some true))
def D8 (a:(List ByteArray)) (b:(List ByteArray)):Option (Bool):=
 cond (!decide ((a.length:Int)=(b.length:Int)))
  (some false)
  (Dp (fun q'=>D8.l1 a b q') 0)
def K3 (a:Ab) (b:Ab):Option (Bool):=
 cond (decide (a.Serial=b.Serial))
  (cond (decide (a.Issuer=b.Issuer))
   (cond (decide (a.Subject=b.Subject))
    (cond (decide (a.Key=b.Key))
     (cond (decide (a.KeyId=b.KeyId))
      (cond (decide (a.Hash=b.Hash))
       (cond (decide (a.From=b.From))
        (cond (decide (a.To=b.To))
         (cond (decide (a.Authority=b.Authority))
          (cond (decide (a.Path=b.Path))
           ((D8 a.Names b.Names).bind fun y=>
           cond (y)
            (some (decide (a.Seal=b.Seal)))
            (some false))
           (some false))
          (some false))
         (some false))
        (some false))
       (some false))
      (some false))
     (some false))
    (some false))
   (some false))
  (some false)
def Dq.l1 (a:(List Ab)) (b:(List Ab)) (i_1:Int):Option (Lp (Int) (Bool)):=
 cond (decide (i_1 < (a.length:Int)))
  ((C4 a i_1).bind fun e=>
  (C4 b i_1).bind fun e_2=>
  (K3 e e_2).bind fun y=>
  cond (!y)
   (up (some false))
   (some (.next (W (i_1 + 1)))))
  (up (
   some true))
def Dq (a:(List Ab)) (b:(List Ab)):Option (Bool):=
 cond (!decide ((a.length:Int)=(b.length:Int)))
  (some false)
  (Dp (fun q'=>Dq.l1 a b q') 0)
def Dc.j2 (i_1:Int) (x80_2:Bool):Option (Lp (Int) (Bool)):=
 cond (x80_2)
  (up (some false))
  (some (.next (W (i_1 + 1))))
def Dc.l1 (a:(List Ac)) (b:(List Ac)) (i_1:Int):Option (Lp (Int) (Bool)):=
 cond (decide (i_1 < (a.length:Int)))
  ((C4 a i_1).bind fun e=>
  (C4 b i_1).bind fun e_2=>
  cond (!decide (e.Alias=e_2.Alias))
   (Dc.j2 i_1 true)
   (cond (!decide (e.Key=e_2.Key))
    (Dc.j2 i_1 true)
    (cond (!decide (e.KeyId=e_2.KeyId))
     (Dc.j2 i_1 true)
     (cond (!decide (e.Secret=e_2.Secret))
      (Dc.j2 i_1 true)
      ((Dq e.Chain e_2.Chain).bind fun y=>
      Dc.j2 i_1 (!y))))))
  (up (
   some true))
def Dc (a:(List Ac)) (b:(List Ac)):Option (Bool):=
 cond (!decide ((a.length:Int)=(b.length:Int)))
  (some false)
  (Dp (fun q'=>Dc.l1 a b q') 0)
def Be.j3 (b_3:List UInt8):Option (Bool):=
 (Du b_3).bind fun y_11=>
 (A1 b_3).bind fun y_12=>
 cond (decide (y_11.2=y_12.2))
  ((Dc y_11.1 y_12.1).bind fun y_13=>
  cond (y_13)
   ((H4).bind fun y_14=>
   some y_14)
   (some false))
  (some false)
def Be.j2 (y_7:Aa×Int) (l_2_2:List Aa):Option (Bool):=
 (Gq (Aa.mk y_7.1.Tag y_7.1.Bytes y_7.1.Nested l_2_2)).bind fun y_10=>
 Be.j3 y_10.1
def Be (l:(List Int)) (at':Int) (by':UInt8) (how:UInt8):Option (Bool):=
 (Mc l).bind fun y=>
 cond (!y)
  ((H4).bind fun y_2=>
  some y_2)
  ((Nk l).bind fun y_3=>
  (Gc y_3 (⟨#[119,101,98]⟩:ByteArray)).bind fun y_4=>
  (Ea y_4.1).bind fun y_5=>
  cond (decide (0 < (y_5.1.length:Int)))
   ((Kk at' (y_5.1.length:Int)).bind fun y_6=>
   (uA how (5:UInt8)).bind fun q=>
   cond (decide ((q.toNat:Int)=0))
    ((C4 y_5.1 y_6).bind fun e=>
    Be.j3 (Jy y_5.1 ((y_6).toNat) by'))
    (cond (decide ((q.toNat:Int)=1))
     ((Q8 y_5.1 0 y_6).bind fun l_2=>
     (Q8 y_5.1 (W (y_6 + 1)) (y_5.1.length:Int)).bind fun l_3=>
     (Gl 1 ((y_5.1.drop ((0:Int).toNat)).take ((y_6:Int).toNat - (0:Int).toNat)) ((y_5.1.drop ((W (y_6 + 1):Int).toNat)).take (((y_5.1.length:Int):Int).toNat - (W (y_6 + 1):Int).toNat))).bind fun l_4=>
     Be.j3 l_4)
     (cond (decide ((q.toNat:Int)=2))
      ((Q8 y_5.1 0 y_6).bind fun l_5=>
      (Gl 1 ([]:List UInt8) ((y_5.1.drop ((0:Int).toNat)).take ((y_6:Int).toNat - (0:Int).toNat))).bind fun l_6=>
      (Gl 1 l_6 ([by']:List UInt8)).bind fun l_7=>
      (Q8 y_5.1 y_6 (y_5.1.length:Int)).bind fun l_8=>
      (Gl 1 l_7 ((y_5.1.drop ((y_6:Int).toNat)).take (((y_5.1.length:Int):Int).toNat - (y_6:Int).toNat))).bind fun l_9=>
      Be.j3 l_9)
      (cond (decide ((q.toNat:Int)=3))
       ((Ej y_5.1).bind fun y_7=>
       cond (decide (0 < (y_7.1.Elements.length:Int)))
        ((Kk at' (y_7.1.Elements.length:Int)).bind fun y_8=>
        (C4 y_7.1.Elements y_8).bind fun e_2=>
        (Bo 1).bind fun y_9=>
        (Gl 256 e_2.Elements ([(Aa.mk 0 ([]:(List UInt8)) false ([]:(List Aa)))]:List Aa)).bind fun l_10=>
        (C4 l_10 (e_2.Elements.length:Int)).bind fun e_3=>
        Be.j2 y_7 (Jy y_7.1.Elements ((y_8).toNat) (Aa.mk e_2.Tag e_2.Bytes e_2.Nested (Jy l_10 (((e_2.Elements.length:Int)).toNat) y_9))))
        (Be.j2 y_7 y_7.1.Elements))
       (Be.j3 y_5.1)))))
   (Be.j3 y_5.1))
end
end Go.Proofs.YtfanepojdefdpaaGreat
