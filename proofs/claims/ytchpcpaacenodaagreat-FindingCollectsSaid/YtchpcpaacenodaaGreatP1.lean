import Derived.Test.YtchpcpaacenodaaGreatPU
set_option linter.unusedVariables false
set_option linter.unusedSimpArgs false
namespace Go.Proofs.YtchpcpaacenodaaGreat
noncomputable section
structure Ac where
 L:(List Int)
 At:Int
 deriving DecidableEq,Inhabited
structure Am where
 Alg:Int
 Bits:Int
 deriving DecidableEq,Inhabited
structure Aa where
 Source:Int
 Host:ByteArray
 Machine:Int
 Day:Int
 Confidence:Int
 Kind:Int
 Subject:ByteArray
 Use:Am
 Number:Int
 Text:ByteArray
 deriving DecidableEq,Inhabited
structure Eu where
 Key:Int
 Sum:Int
 deriving DecidableEq,Inhabited
structure Af where
 Serial:Int
 Issuer:ByteArray
 Subject:ByteArray
 Key:Am
 KeyId:Int
 Hash:Am
 From:Int
 To:Int
 Authority:Bool
 Path:Int
 Names:(List ByteArray)
 Seal:Eu
 deriving DecidableEq,Inhabited
structure A9 where
 Key:Am
 KeyId:Int
 Chain:(List Af)
 deriving DecidableEq,Inhabited
structure Av where
 Name:ByteArray
 Least:Int
 Most:Int
 Suites:(List Int)
 OwnOrder:Bool
 Identities:(List A9)
 Anchors:(List Int)
 Hashes:(List Int)
 Fallback:Bool
 deriving DecidableEq,Inhabited
structure Ax where
 Alias:ByteArray
 Key:Am
 KeyId:Int
 Secret:Bool
 Chain:(List Af)
 deriving DecidableEq,Inhabited
structure Dj where
 Most:Int
 Suites:(List Int)
 Hashes:(List Int)
 deriving DecidableEq,Inhabited
structure C6 where
 Version:Int
 Suite:Int
 KeyId:Int
 deriving DecidableEq,Inhabited
structure Dv where
 at_:Aa
 l:(List Aa)
 deriving DecidableEq,Inhabited
structure Cb where
 name:ByteArray
 kind:Int
 way:Int
 sizes:(List Int)
 strengths:(List Int)
 deriving DecidableEq,Inhabited
structure A4 where
 Code:Int
 Name:ByteArray
 Exchange:Am
 Sign:Am
 Cipher:Am
 Mac:Am
 Least:Int
 Most:Int
 deriving DecidableEq,Inhabited
structure Au where
 name:ByteArray
 kind:Int
 deriving DecidableEq,Inhabited
structure Ah where
 Tag:Int
 Bytes:(List UInt8)
 Nested:Bool
 Elements:(List Ah)
def Rz (l:(List Int)):Option (Bool):=
 some (decide ((l.length:Int)<=400))
def B2.j2 (x8_1:Int) (x17_2:Bool):Option (Lp (Int) (Bool)):=
 cond (x17_2)
  (up (some false))
  (some (.next (W (x8_1 + 1))))
def B2.l1 (s:ByteArray) (x8_1:Int):Option (Lp (Int) (Bool)):=
 cond (decide (x8_1 < ((Hg s).length:Int)))
  ((B8 (Hg s) x8_1).bind fun e=>
  cond (decide ((e.toNat:Int)<=32))
   (B2.j2 x8_1 true)
   (B2.j2 x8_1 (decide (126 < (e.toNat:Int)))))
  (up (
   cond (decide (1<=(s.size:Int)))
    (some (decide ((s.size:Int)<=32)))
    (some false)))
def B2 (s:ByteArray):Option (Bool):=
 Cl (fun q'=>B2.l1 s q') 0
def Pi:Option ((List Cb)):=
 some ([(Cb.mk (⟨#[]⟩:ByteArray) 0 0 ([]:(List Int)) ([]:(List Int))),(Cb.mk (⟨#[109,100,53]⟩:ByteArray) 1 0 ([]:(List Int)) ([18]:List Int)),(Cb.mk (⟨#[115,104,97,49]⟩:ByteArray) 1 0 ([]:(List Int)) ([60]:List Int)),(Cb.mk (⟨#[115,104,97,50,53,54]⟩:ByteArray) 1 0 ([]:(List Int)) ([128]:List Int)),(Cb.mk (⟨#[115,104,97,51,56,52]⟩:ByteArray) 1 0 ([]:(List Int)) ([192]:List Int)),(Cb.mk (⟨#[114,115,97]⟩:ByteArray) 2 1 ([]:(List Int)) ([]:(List Int))),(Cb.mk (⟨#[100,115,97]⟩:ByteArray) 2 1 ([]:(List Int)) ([]:(List Int))),(Cb.mk (⟨#[101,99,100,115,97]⟩:ByteArray) 2 2 ([]:(List Int)) ([]:(List Int))),(Cb.mk (⟨#[101,100,50,53,53,49,57]⟩:ByteArray) 2 0 ([]:(List Int)) ([128]:List Int)),(Cb.mk (⟨#[109,108,100,115,97]⟩:ByteArray) 2 3 ([44,65,87]:List Int) ([128,192,256]:List Int)),(Cb.mk (⟨#[114,115,97,107,120]⟩:ByteArray) 3 1 ([]:(List Int)) ([]:(List Int))),(Cb.mk (⟨#[100,104,101]⟩:ByteArray) 3 1 ([]:(List Int)) ([]:(List Int))),(Cb.mk (⟨#[101,99,100,104,101]⟩:ByteArray) 3 2 ([]:(List Int)) ([]:(List Int))),(Cb.mk (⟨#[109,108,107,101,109]⟩:ByteArray) 3 3 ([512,768,1024]:List Int) ([128,192,256]:List Int)),(Cb.mk (⟨#[114,99,52]⟩:ByteArray) 4 3 ([40,128]:List Int) ([40,60]:List Int)),(Cb.mk (⟨#[100,101,115,51]⟩:ByteArray) 4 3 ([112,168]:List Int) ([80,112]:List Int)),(Cb.mk (⟨#[97,101,115,99,98,99]⟩:ByteArray) 4 3 ([128,256]:List Int) ([128,256]:List Int)),(Cb.mk (⟨#[97,101,115,103,99,109]⟩:ByteArray) 4 3 ([128,256]:List Int) ([128,256]:List Int)),(Cb.mk (⟨#[99,104,97,99,104,97]⟩:ByteArray) 4 0 ([]:(List Int)) ([256]:List Int)),(Cb.mk (⟨#[104,109,97,99,109,100,53]⟩:ByteArray) 5 0 ([]:(List Int)) ([64]:List Int)),(Cb.mk (⟨#[104,109,97,99,115,104,97,49]⟩:ByteArray) 5 0 ([]:(List Int)) ([80]:List Int)),(Cb.mk (⟨#[104,109,97,99,115,104,97,50,53,54]⟩:ByteArray) 5 0 ([]:(List Int)) ([128]:List Int)),(Cb.mk (⟨#[97,101,97,100]⟩:ByteArray) 5 0 ([]:(List Int)) ([256]:List Int))]:List Cb)
def E0.j1 (alg:Int) (x9_1:Bool):Option (Cb×Bool):=
 cond (x9_1)
  (some ((Cb.mk (⟨#[]⟩:ByteArray) 0 0 ([]:(List Int)) ([]:(List Int))),false))
  ((Pi).bind fun y=>
  (B8 (aF6 23 y) alg).bind fun e=>
  some (e,true))
def E0 (alg:Int):Option (Cb×Bool):=
 cond (decide (alg < 1))
  (E0.j1 alg true)
  (E0.j1 alg (decide (22 < alg)))
def Du.l1 (bits:Int) (x11_1:Int):Option (Lp (Int) (Int)):=
 cond (decide (x11_1 < 5))
  ((B8 ([([1024,56]:List Int),([2048,80]:List Int),([3072,112]:List Int),([7680,128]:List Int),([15360,192]:List Int)]:List (List Int)) x11_1).bind fun e=>
  cond (decide (bits < (e[0]!)))
   (up (some (e[1]!)))
   (some (.next (W (x11_1 + 1)))))
  (up (
   some 256))
def Du (bits:Int):Option (Int):=
 Cl (fun q'=>Du.l1 bits q') 0
def Ck.l1 (s:(List Int)) (v:Int) (x8_1:Int):Option (Lp (Int) (Int)):=
 cond (decide (x8_1 < (s.length:Int)))
  ((B8 s x8_1).bind fun e=>
  cond (decide (v=e))
   (up (some x8_1))
   (some (.next (W (x8_1 + 1)))))
  (up (
   some (-1)))
def Ck (s:(List Int)) (v:Int):Option (Int):=
 Cl (fun q'=>Ck.l1 s v q') 0
def En (s:(List Int)) (v:Int):Option (Bool):=
 (Ck s v).bind fun y=>
 some (decide (0<=y))
def Bb.j1 (u:Am) (x34_1:Bool):Option (Int):=
 cond (x34_1)
  ((Du u.Bits).bind fun y_2=>
  some y_2)
  (some 0)
def Bb (u:Am):Option (Int):=
 (E0 u.Alg).bind fun y=>
 cond (!y.2)
  (some 0)
  (cond (decide (y.1.way=0))
   (cond (decide (u.Bits=0))
    ((B8 y.1.strengths 0).bind fun e=>
    some e)
    (some 0))
   (cond (decide (y.1.way=1))
    (cond (decide (512<=u.Bits))
     (Bb.j1 u (decide (u.Bits<=16384)))
     (Bb.j1 u false))
    (cond (decide (y.1.way=2))
     ((En ([160,224,256,384,521]:List Int) u.Bits).bind fun y_3=>
     cond (y_3)
      ((M1 u.Bits 2).bind fun q=>
      some q)
      (some 0))
     (cond (decide (y.1.way=3))
      ((Ck y.1.sizes u.Bits).bind fun y_4=>
      cond (decide (0<=y_4))
       ((B8 y.1.strengths y_4).bind fun e_2=>
       some e_2)
       (some 0))
      (some 0)))))
def F7 (u:Am):Option (Bool):=
 (Bb u).bind fun y=>
 some (decide (0 < y))
def Hc (alg:Int):Option (Int):=
 (E0 alg).bind fun y=>
 some y.1.kind
def A6.j3 (f:Aa) (bare_1:Bool) (x71_3:Bool):Option (Bool):=
 cond (x71_3)
  (cond (bare_1)
   (cond (decide (1<=f.Number))
    (some (decide (f.Number<=4)))
    (some false))
   (some false))
  (cond (decide (f.Kind=6))
   (cond (bare_1)
    (cond (decide (0<=f.Number))
     (some (decide (f.Number<=2147483648)))
     (some false))
    (some false))
   (cond (decide (f.Kind=7))
    (cond (decide (f.Use=(Am.mk 0 0)))
     (cond (decide (f.Number=0))
      ((B2 f.Text).bind fun y_4=>
      some y_4)
      (some false))
     (some false))
    (some false)))
def A6.j2 (f:Aa) (bare_1:Bool) (x15_2:Bool):Option (Bool):=
 cond (x15_2)
  ((F7 f.Use).bind fun y=>
  cond (y)
   (cond (decide (f.Number=0))
    (some (decide (f.Text=(⟨#[]⟩:ByteArray))))
    (some false))
   (some false))
  (cond (decide (f.Kind=2))
   (cond (bare_1)
    (cond (decide (0<=f.Number))
     (some (decide (f.Number<=65535)))
     (some false))
    (some false))
   (cond (decide (f.Kind=3))
    ((F7 f.Use).bind fun y_2=>
    cond (y_2)
     ((Hc f.Use.Alg).bind fun y_3=>
     cond (decide (y_3=2))
      (cond (decide (0<=f.Number))
       (cond (decide (f.Number<=2147483648))
        (some (decide (f.Text=(⟨#[]⟩:ByteArray))))
        (some false))
       (some false))
      (some false))
     (some false))
    (cond (decide (f.Kind=4))
     (A6.j3 f bare_1 (decide (f.Kind=4)))
     (A6.j3 f bare_1 (decide (f.Kind=5))))))
def A6.j1 (f:Aa) (bare_1:Bool):Option (Bool):=
 cond (decide (f.Kind=1))
  (A6.j2 f bare_1 (decide (f.Kind=1)))
  (A6.j2 f bare_1 (decide (f.Kind=8)))
def A6 (f:Aa):Option (Bool):=
 cond (decide (f.Use=(Am.mk 0 0)))
  (A6.j1 f (decide (f.Text=(⟨#[]⟩:ByteArray))))
  (A6.j1 f false)
def Bj.j3 (x61_3:Bool):Option (Int):=
 cond (x61_3)
  (some 24)
  (some 0)
def Bj.j2 (f:Aa) (where_1:Bool) (when_2:Bool):Option (Int):=
 cond (!where_1)
  (Bj.j3 true)
  (cond (!when_2)
   (Bj.j3 true)
   (cond (decide (f.Source < 1))
    (Bj.j3 true)
    (cond (decide (7 < f.Source))
     (Bj.j3 true)
     ((A6 f).bind fun y_3=>
     Bj.j3 (!y_3)))))
def Bj.j1 (f:Aa) (where_1:Bool):Option (Int):=
 cond (decide (0<=f.Day))
  (cond (decide (f.Day<=40000))
   (cond (decide (1<=f.Confidence))
    (Bj.j2 f where_1 (decide (f.Confidence<=100)))
    (Bj.j2 f where_1 false))
   (Bj.j2 f where_1 false))
  (Bj.j2 f where_1 false)
def Bj (f:Aa):Option (Int):=
 (B2 f.Host).bind fun y=>
 cond (y)
  ((B2 f.Subject).bind fun y_2=>
  cond (y_2)
   (cond (decide (0<=f.Machine))
    (Bj.j1 f (decide (f.Machine<=1099511627776)))
    (Bj.j1 f false))
   (Bj.j1 f false))
  (Bj.j1 f false)
def Gx (at':Aa):Option (Dv×Int):=
 (Bj (Aa.mk at'.Source at'.Host at'.Machine at'.Day at'.Confidence 4 at'.Subject (Am.mk 0 0) 1 (⟨#[]⟩:ByteArray))).bind fun y=>
 some ((Dv.mk (Aa.mk at'.Source at'.Host at'.Machine at'.Day at'.Confidence 4 at'.Subject (Am.mk 0 0) 1 (⟨#[]⟩:ByteArray)) ([]:(List Aa))),y)
def E4 (n:Int):Option (Bool):=
 cond (decide (0<=n))
  (some (decide (n<=2147483648)))
  (some false)
def B9.j2 (x7_1:Int) (x27_2:Bool):Option (Lp (Int) (Bool)):=
 cond (x27_2)
  (up (some false))
  (some (.next (W (x7_1 + 1))))
def B9.l1 (l:(List ByteArray)) (x7_1:Int):Option (Lp (Int) (Bool)):=
 cond (decide (x7_1 < (l.length:Int)))
  ((B8 l x7_1).bind fun e=>
  (B2 e).bind fun y=>
  cond (!y)
   (B9.j2 x7_1 true)
   (cond (decide (0 < x7_1))
    ((B8 l (W (x7_1 - 1))).bind fun e_2=>
    B9.j2 x7_1 (!Kz (Hg e_2) (Hg e)))
    (B9.j2 x7_1 false)))
  (up (
   some (decide ((l.length:Int)<=8))))
def B9 (l:(List ByteArray)):Option (Bool):=
 Cl (fun q'=>B9.l1 l q') 0
def Ih (u:Am) (kind:Int):Option (Bool):=
 (F7 u).bind fun y=>
 cond (y)
  ((Hc u.Alg).bind fun y_2=>
  some (decide (y_2=kind)))
  (some false)
def I4 (n:Int):Option (Bool):=
 cond (decide (0<=n))
  (some (decide (n < 4294967296)))
  (some false)
def Bi.j3 (c:Af) (x73_3:Bool):Option (Bool):=
 cond (x73_3)
  (some false)
  (cond (decide (0<=c.Path))
   (cond (decide (c.Path<=8))
    (cond (c.Authority)
     (some true)
     (some (decide (c.Path=0))))
    (some false))
   (some false))
def Bi.j2 (c:Af) (x58_2:Bool):Option (Bool):=
 cond (x58_2)
  (some false)
  (cond (decide (c.From < 0))
   (Bi.j3 c true)
   (cond (decide (c.To < c.From))
    (Bi.j3 c true)
    (Bi.j3 c (decide (40000 < c.To)))))
def Bi.j1 (c:Af) (x28_1:Bool):Option (Bool):=
 cond (x28_1)
  (some false)
  ((Ih c.Key 2).bind fun y_4=>
  cond (!y_4)
   (Bi.j2 c true)
   ((E4 c.KeyId).bind fun y_5=>
   cond (!y_5)
    (Bi.j2 c true)
    ((Ih c.Hash 1).bind fun y_6=>
    cond (!y_6)
     (Bi.j2 c true)
     ((E4 c.Seal.Key).bind fun y_7=>
     cond (!y_7)
      (Bi.j2 c true)
      ((I4 c.Seal.Sum).bind fun y_8=>
      Bi.j2 c (!y_8))))))
def Bi (c:Af):Option (Bool):=
 cond (decide (c.Serial < 0))
  (Bi.j1 c true)
  (cond (decide (1099511627776 < c.Serial))
   (Bi.j1 c true)
   ((B2 c.Issuer).bind fun y=>
   cond (!y)
    (Bi.j1 c true)
    ((B2 c.Subject).bind fun y_2=>
    cond (!y_2)
     (Bi.j1 c true)
     ((B9 c.Names).bind fun y_3=>
     Bi.j1 c (!y_3)))))
def H2 (c:Af):Option (Int):=
 (Bi c).bind fun y=>
 cond (!y)
  (some 9)
  (some 0)
def Bx.l2 (key:Am) (id:Int) (l:(List Af)) (x30_2:Int):Option (Lp (Int) (Bool)):=
 cond (decide (x30_2 < (l.length:Int)))
  ((B8 l x30_2).bind fun e=>
  (H2 e).bind fun y_4=>
  cond (!decide (y_4=0))
   (up (some false))
   (some (.next (W (x30_2 + 1)))))
  (up (
   cond (decide ((l.length:Int)=0))
    (some true)
    ((B8 l 0).bind fun e_2=>
    cond (decide (e_2.Key=key))
     (some (decide (e_2.KeyId=id)))
     (some false))))
def Bx.j1 (key:Am) (id:Int) (l:(List Af)) (x27_1:Bool):Option (Bool):=
 cond (x27_1)
  (some false)
  (Cl (fun q'=>Bx.l2 key id l q') 0)
def Bx (key:Am) (id:Int) (l:(List Af)):Option (Bool):=
 (F7 key).bind fun y=>
 cond (!y)
  (Bx.j1 key id l true)
  ((Hc key.Alg).bind fun y_2=>
  cond (!decide (y_2=2))
   (Bx.j1 key id l true)
   ((E4 id).bind fun y_3=>
   cond (!y_3)
    (Bx.j1 key id l true)
    (Bx.j1 key id l (decide (8 < (l.length:Int))))))
def Bz.j2 (x7_1:Int) (x40_2:Bool):Option (Lp (Int) (Int)):=
 cond (x40_2)
  (up (some 16))
  (some (.next (W (x7_1 + 1))))
def Bz.l1 (l:(List Ax)) (x7_1:Int):Option (Lp (Int) (Int)):=
 cond (decide (x7_1 < (l.length:Int)))
  ((B8 l x7_1).bind fun e=>
  (B2 e.Alias).bind fun y=>
  cond (!y)
   (Bz.j2 x7_1 true)
   (cond (decide (0 < x7_1))
    ((B8 l (W (x7_1 - 1))).bind fun e_2=>
    cond (!Kz (Hg e_2.Alias) (Hg e.Alias))
     (Bz.j2 x7_1 true)
     ((Bx e.Key e.KeyId e.Chain).bind fun y_2=>
     Bz.j2 x7_1 (!y_2)))
    ((Bx e.Key e.KeyId e.Chain).bind fun y_3=>
    Bz.j2 x7_1 (!y_3))))
  (up (
   cond (decide (64 < (l.length:Int)))
    (some 16)
    (some 0)))
def Bz (l:(List Ax)):Option (Int):=
 Cl (fun q'=>Bz.l1 l q') 0
def Cw (p:Dv) (kind:Int) (u:Am) (number:Int):Option (Dv):=
 (Hh 1232 p.l ([(Aa.mk p.at_.Source p.at_.Host p.at_.Machine p.at_.Day p.at_.Confidence kind p.at_.Subject u number p.at_.Text)]:List Aa)).bind fun l=>
 some (Dv.mk p.at_ l)
def Co.j1 (s:(List Aa)) (x4_1:Bool):Option ((List Aa)):=
 cond (x4_1)
  (some ([]:(List Aa)))
  ((Hh 1232 ([]:List Aa) s).bind fun l=>
  some l)
def Co (s:(List Aa)):Option ((List Aa)):=
 kF (s)
  (Co.j1 s true)
  (Co.j1 s false)
def Bp.j3 (x_3:Int) (n_3:Int):Option (Int):=
 (gW (⟨#[0,1,2,2,3,3,3,3,4,4,4,4,4,4,4,4,5,5,5,5,5,5,5,5,5,5,5,5,5,5,5,5,6,6,6,6,6,6,6,6,6,6,6,6,6,6,6,6,6,6,6,6,6,6,6,6,6,6,6,6,6,6,6,6,7,7,7,7,7,7,7,7,7,7,7,7,7,7,7,7,7,7,7,7,7,7,7,7,7,7,7,7,7,7,7,7,7,7,7,7,7,7,7,7,7,7,7,7,7,7,7,7,7,7,7,7,7,7,7,7,7,7,7,7,7,7,7,7,8,8,8,8,8,8,8,8,8,8,8,8,8,8,8,8,8,8,8,8,8,8,8,8,8,8,8,8,8,8,8,8,8,8,8,8,8,8,8,8,8,8,8,8,8,8,8,8,8,8,8,8,8,8,8,8,8,8,8,8,8,8,8,8,8,8,8,8,8,8,8,8,8,8,8,8,8,8,8,8,8,8,8,8,8,8,8,8,8,8,8,8,8,8,8,8,8,8,8,8,8,8,8,8,8,8,8,8,8,8,8,8,8,8,8,8,8,8,8,8,8,8,8,8,8,8,8,8]⟩:ByteArray) ((u8 x_3).toNat:Int)).bind fun c=>
 some (W (n_3 + (c.toNat:Int)))
def Bp.j2 (x_2:Int) (n_2:Int):Option (Int):=
 cond (decide (256<=x_2))
  ((Qc .u64 x_2 8).bind fun q_3=>
  Bp.j3 q_3 (W (n_2 + 8)))
  (Bp.j3 x_2 n_2)
def Bp.j1 (x_1:Int) (n_1:Int):Option (Int):=
 cond (decide (65536<=x_1))
  ((Qc .u64 x_1 16).bind fun q_2=>
  Bp.j2 q_2 (W (n_1 + 16)))
  (Bp.j2 x_1 n_1)
def Bp (x':Int):Option (Int):=
 cond (decide (4294967296<=x'))
  ((Qc .u64 x' 32).bind fun q=>
  Bp.j1 q 32)
  (Bp.j1 x' 0)
def Hu (x':Int):Option (Int):=
 (Bp x').bind fun y=>
 some y
def H6 (c0:Aa) (c1:Aa):Option ((Aa×Aa)):=
 some (c0,c1)
def H9 (c0:Aa) (c1:Aa):Option ((Aa×Aa)):=
 some (c0,c1)
def Hm (c0:Aa) (c1:Aa):Option ((Aa×Aa)):=
 some (c0,c1)
def Hk (c0:Aa) (c1:Aa):Option ((Aa×Aa)):=
 some (c0,c1)
def Hi (c0:Aa) (c1:Aa):Option ((Aa×Aa)):=
 some (c0,c1)
def Hq (c0:Aa) (c1:Aa):Option ((Aa×Aa)):=
 some (c0,c1)
def Hp (c0:Aa) (c1:Aa):Option ((Aa×Aa)):=
 some (c0,c1)
def Hl (c0:Aa) (c1:Aa):Option ((Aa×Aa)):=
 some (c0,c1)
def Hr (c0:Aa) (c1:Aa):Option ((Aa×Aa)):=
 some (c0,c1)
def Hn (c0:Aa) (c1:Aa):Option ((Aa×Aa)):=
 some (c0,c1)
def Ho (c0:Aa) (c1:Aa):Option ((Aa×Aa)):=
 some (c0,c1)
def Ip (f:Aa):Option (ByteArray):=
 some f.Host
def Fj (a:ByteArray) (b:ByteArray):Option (Int):=
 some (pQ a b)
def Gk (a:ByteArray) (b:ByteArray):Option (Int):=
 (Fj a b).bind fun y=>
 some y
def G4 (c1:Aa) (c2:Aa):Option (Int):=
 (Ip c1).bind fun y=>
 (Ip c2).bind fun y_2=>
 (Gk y y_2).bind fun y_3=>
 some y_3
def In (f:Aa):Option (Int):=
 some f.Machine
def J7 (x':Int):Option (Bool):=
 some (!decide (x'=x'))
def Ek (x':Int) (y:Int):Option (Int):=
 (J7 x').bind fun y_2=>
 (J7 y).bind fun y_3=>
 cond (y_2)
  (cond (y_3)
   (some 0)
   (some (-1)))
  (cond (y_3)
   (some 1)
   (cond (decide (x' < y))
    (some (-1))
    (cond (decide (y < x'))
     (some 1)
     (some 0))))
def G3 (c1:Aa) (c2:Aa):Option (Int):=
 (In c1).bind fun y=>
 (In c2).bind fun y_2=>
 (Ek y y_2).bind fun y_3=>
 some y_3
def Ir (f:Aa):Option (Int):=
 some f.Day
def Gq (c1:Aa) (c2:Aa):Option (Int):=
 (Ir c1).bind fun y=>
 (Ir c2).bind fun y_2=>
 (Ek y y_2).bind fun y_3=>
 some y_3
def Im (f:Aa):Option (ByteArray):=
 some f.Subject
def G0 (c1:Aa) (c2:Aa):Option (Int):=
 (Im c1).bind fun y=>
 (Im c2).bind fun y_2=>
 (Gk y y_2).bind fun y_3=>
 some y_3
def Io (f:Aa):Option (Int):=
 some f.Kind
def Gu (c1:Aa) (c2:Aa):Option (Int):=
 (Io c1).bind fun y=>
 (Io c2).bind fun y_2=>
 (Ek y y_2).bind fun y_3=>
 some y_3
def Iu (f:Aa):Option (Int):=
 some f.Use.Alg
def Gv (c1:Aa) (c2:Aa):Option (Int):=
 (Iu c1).bind fun y=>
 (Iu c2).bind fun y_2=>
 (Ek y y_2).bind fun y_3=>
 some y_3
def Il (f:Aa):Option (Int):=
 some f.Use.Bits
def Gs (c1:Aa) (c2:Aa):Option (Int):=
 (Il c1).bind fun y=>
 (Il c2).bind fun y_2=>
 (Ek y y_2).bind fun y_3=>
 some y_3
def H3 (f:Aa):Option (Int):=
 some f.Number
def Gw (c1:Aa) (c2:Aa):Option (Int):=
 (H3 c1).bind fun y=>
 (H3 c2).bind fun y_2=>
 (Ek y y_2).bind fun y_3=>
 some y_3
def H0 (f:Aa):Option (ByteArray):=
 some f.Text
def Gl (c1:Aa) (c2:Aa):Option (Int):=
 (H0 c1).bind fun y=>
 (H0 c2).bind fun y_2=>
 (Gk y y_2).bind fun y_3=>
 some y_3
def Hy (f:Aa):Option (Int):=
 some f.Source
def G1 (c1:Aa) (c2:Aa):Option (Int):=
 (Hy c1).bind fun y=>
 (Hy c2).bind fun y_2=>
 (Ek y y_2).bind fun y_3=>
 some y_3
def H1 (f:Aa):Option (Int):=
 some f.Confidence
def Gt (c1:Aa) (c2:Aa):Option (Int):=
 (H1 c1).bind fun y=>
 (H1 c2).bind fun y_2=>
 (Ek y y_2).bind fun y_3=>
 some y_3
def Hw (a:Aa) (b:Aa):Option (Int):=
 (H6 a b).bind fun y=>
 (H9 a b).bind fun y_2=>
 (Hm a b).bind fun y_3=>
 (Hk a b).bind fun y_4=>
 (Hi a b).bind fun y_5=>
 (Hq a b).bind fun y_6=>
 (Hp a b).bind fun y_7=>
 (Hl a b).bind fun y_8=>
 (Hr a b).bind fun y_9=>
 (Hn a b).bind fun y_10=>
 (Ho a b).bind fun y_11=>
 (G4 y.1 y.2).bind fun y_12=>
 cond (!decide (y_12=0))
  (some y_12)
  ((G3 y_2.1 y_2.2).bind fun y_13=>
  cond (!decide (y_13=0))
   (some y_13)
   ((Gq y_3.1 y_3.2).bind fun y_14=>
   cond (!decide (y_14=0))
    (some y_14)
    ((G0 y_4.1 y_4.2).bind fun y_15=>
    cond (!decide (y_15=0))
     (some y_15)
     ((Gu y_5.1 y_5.2).bind fun y_16=>
     cond (!decide (y_16=0))
      (some y_16)
      ((Gv y_6.1 y_6.2).bind fun y_17=>
      cond (!decide (y_17=0))
       (some y_17)
       ((Gs y_7.1 y_7.2).bind fun y_18=>
       cond (!decide (y_18=0))
        (some y_18)
        ((Gw y_8.1 y_8.2).bind fun y_19=>
        cond (!decide (y_19=0))
         (some y_19)
         ((Gl y_9.1 y_9.2).bind fun y_20=>
         cond (!decide (y_20=0))
          (some y_20)
          ((G1 y_10.1 y_10.2).bind fun y_21=>
          cond (!decide (y_21=0))
           (some y_21)
           ((Gt y_11.1 y_11.2).bind fun y_22=>
           cond (!decide (y_22=0))
            (some y_22)
            (some 0)))))))))))
def An.j3 (i_1:Int) (j_2:Int) (data_2:List Aa) (x34_3:Bool):Option (Lp (Int×List Aa) (Lp (Int×List Aa) ((List Aa)))):=
 cond (x34_3)
  ((B8 data_2 (W (j_2 - 1))).bind fun e_3=>
  (B8 data_2 j_2).bind fun e_4=>
  (B8 (Db data_2 ((j_2).toNat) e_3) (W (j_2 - 1))).bind fun e_5=>
  some (.next (W (j_2 - 1),Db (Db data_2 ((j_2).toNat) e_3) ((W (j_2 - 1)).toNat) e_4)))
  (up (
   some (.next (W (i_1 + 1),data_2))))
def An.l2 (a:Int) (cmp:Aa->Aa->Option (Int)) (i_1:Int) (j_2:Int) (data_2:List Aa):Option (Lp (Int×List Aa) (Lp (Int×List Aa) ((List Aa)))):=
 cond (decide (a < j_2))
  ((B8 data_2 j_2).bind fun e=>
  (B8 data_2 (W (j_2 - 1))).bind fun e_2=>
  (cmp e e_2).bind fun y=>
  An.j3 i_1 j_2 data_2 (decide (y < 0)))
  (An.j3 i_1 j_2 data_2 false)
def An.l1 (a:Int) (b:Int) (cmp:Aa->Aa->Option (Int)) (i_1:Int) (data_1:List Aa):Option (Lp (Int×List Aa) ((List Aa))):=
 cond (decide (i_1 < b))
  (Cl (fun q'=>An.l2 a cmp i_1 q'.1 q'.2) (i_1,data_1))
  (up (some data_1))
def An (data:List Aa) (a:Int) (b:Int) (cmp:Aa->Aa->Option (Int)):Option ((List Aa)):=
 Cl (fun q'=>An.l1 a b cmp q'.1 q'.2) (W (a + 1),data)
def Ao.j3 (first:Int) (cmp:Aa->Aa->Option (Int)) (root_1:Int) (data_1:List Aa) (child_3:Int):Option (Lp (Int×List Aa) ((List Aa))):=
 (B8 data_1 (W (first + root_1))).bind fun e_3=>
 (B8 data_1 (W (first + child_3))).bind fun e_4=>
 (cmp e_3 e_4).bind fun y_2=>
 cond (!(decide (y_2 < 0)))
  (up (some data_1))
  ((B8 (Db data_1 ((W (first + root_1)).toNat) e_4) (W (first + child_3))).bind fun e_5=>
  some (.next (child_3,Db (Db data_1 ((W (first + root_1)).toNat) e_4) ((W (first + child_3)).toNat) e_3)))
def Ao.j2 (first:Int) (cmp:Aa->Aa->Option (Int)) (root_1:Int) (data_1:List Aa) (x40_2:Bool):Option (Lp (Int×List Aa) ((List Aa))):=
 cond (x40_2)
  (Ao.j3 first cmp root_1 data_1 (W ((W ((W (2 * root_1)) + 1)) + 1)))
  (Ao.j3 first cmp root_1 data_1 (W ((W (2 * root_1)) + 1)))
def Ao.l1 (hi:Int) (first:Int) (cmp:Aa->Aa->Option (Int)) (root_1:Int) (data_1:List Aa):Option (Lp (Int×List Aa) ((List Aa))):=
 cond (decide (hi<=(W ((W (2 * root_1)) + 1))))
  (up (some data_1))
  (cond (decide ((W ((W ((W (2 * root_1)) + 1)) + 1)) < hi))
   ((B8 data_1 (W (first + (W ((W (2 * root_1)) + 1))))).bind fun e=>
   (B8 data_1 (W ((W (first + (W ((W (2 * root_1)) + 1)))) + 1))).bind fun e_2=>
   (cmp e e_2).bind fun y=>
   Ao.j2 first cmp root_1 data_1 (decide (y < 0)))
   (Ao.j2 first cmp root_1 data_1 false))
def Ao (data:List Aa) (lo:Int) (hi:Int) (first:Int) (cmp:Aa->Aa->Option (Int)):Option ((List Aa)):=
 Cl (fun q'=>Ao.l1 hi first cmp q'.1 q'.2) (lo,data)
def A3.l2 (a:Int) (cmp:Aa->Aa->Option (Int)) (i_2:Int) (data_2:List Aa):Option (Lp (Int×List Aa) ((List Aa))):=
 cond (decide (0<=i_2))
  ((B8 data_2 (W (a + i_2))).bind fun e=>
  (B8 data_2 a).bind fun e_2=>
  (B8 (Db data_2 ((a).toNat) e) (W (a + i_2))).bind fun e_3=>
  (Ao (Db (Db data_2 ((a).toNat) e) ((W (a + i_2)).toNat) e_2) 0 i_2 a cmp).bind fun y_2=>
  some (.next (W (i_2 - 1),y_2)))
  (up (some data_2))
def A3.l1 (a:Int) (b:Int) (cmp:Aa->Aa->Option (Int)) (i_1:Int) (data_1:List Aa):Option (Lp (Int×List Aa) ((List Aa))):=
 cond (decide (0<=i_1))
  ((Ao data_1 i_1 (W (b - a)) a cmp).bind fun y=>
  some (.next (W (i_1 - 1),y)))
  (up (
   Cl (fun q'=>A3.l2 a cmp q'.1 q'.2) (W ((W (b - a)) - 1),data_1)))
def A3 (data:List Aa) (a:Int) (b:Int) (cmp:Aa->Aa->Option (Int)):Option ((List Aa)):=
 (M1 (W ((W (b - a)) - 1)) 2).bind fun q=>
 Cl (fun q'=>A3.l1 a b cmp q'.1 q'.2) (q,data)
def Gb (length:Int):Option (Int):=
 (Hu (IntKind.wrap .u64 length)).bind fun y=>
 (cK .u64 1 y).bind fun q=>
 some q
def Gp (r':Int):Option (Int×Int):=
 (cK .u64 r' 13).bind fun q=>
 (Qc .u64 (Rq .u64 r' q) 7).bind fun q_2=>
 (cK .u64 (Rq .u64 (Rq .u64 r' q) q_2) 17).bind fun q_3=>
 some (Rq .u64 (Rq .u64 (Rq .u64 r' q) q_2) q_3,Rq .u64 (Rq .u64 (Rq .u64 r' q) q_2) q_3)
def Az.j2 (a:Int) (idx_1:Int) (data_1:List Aa) (y_2:Int×Int) (other_2:Int):Option (Lp (Int×List Aa×Int) ((List Aa))):=
 (B8 data_1 (W (a + other_2))).bind fun e=>
 (B8 data_1 idx_1).bind fun e_2=>
 (B8 (Db data_1 ((idx_1).toNat) e) (W (a + other_2))).bind fun e_3=>
 some (.next (W (idx_1 + 1),Db (Db data_1 ((idx_1).toNat) e) ((W (a + other_2)).toNat) e_2,y_2.2))
def Az.l1 (a:Int) (b:Int) (y:Int) (idx_1:Int) (data_1:List Aa) (random_1:Int):Option (Lp (Int×List Aa×Int) ((List Aa))):=
 (M1 (W (b - a)) 4).bind fun q_2=>
 cond (decide (idx_1<=(W ((W (a + (W (q_2 * 2)))) + 1))))
  ((Gp random_1).bind fun y_2=>
  cond (decide ((W (b - a))<=(W (jI .u64 y_2.1 (IntKind.wrap .u64 (y - 1))))))
   (Az.j2 a idx_1 data_1 y_2 (W ((W (jI .u64 y_2.1 (IntKind.wrap .u64 (y - 1)))) - (W (b - a)))))
   (Az.j2 a idx_1 data_1 y_2 (W (jI .u64 y_2.1 (IntKind.wrap .u64 (y - 1))))))
  (up (some data_1))
def Az (data:List Aa) (a:Int) (b:Int) (cmp:Aa->Aa->Option (Int)):Option ((List Aa)):=
 cond (decide (8<=(W (b - a))))
  ((Gb (W (b - a))).bind fun y=>
  (M1 (W (b - a)) 4).bind fun q=>
  Cl (fun q'=>Az.l1 a b y q'.1 q'.2.1 q'.2.2) (W ((W (a + (W (q * 2)))) - 1),data,IntKind.wrap .u64 (W (b - a))))
  (some data)
def Dp (data:(List Aa)) (a:Int) (b:Int) (swaps:Int) (cmp:Aa->Aa->Option (Int)):Option (Int×Int×Int):=
 (B8 data b).bind fun e=>
 (B8 data a).bind fun e_2=>
 (cmp e e_2).bind fun y=>
 cond (decide (y < 0))
  (some (b,a,W (swaps + 1)))
  (some (a,b,swaps))
def D1 (data:(List Aa)) (a:Int) (b:Int) (c:Int) (swaps:Int) (cmp:Aa->Aa->Option (Int)):Option (Int×Int):=
 (Dp data a b swaps cmp).bind fun y=>
 (Dp data y.2.1 c y.2.2 cmp).bind fun y_2=>
 (Dp data y.1 y_2.1 y_2.2.2 cmp).bind fun y_3=>
 some (y_3.2.1,y_3.2.2)
def Cu (data:(List Aa)) (a:Int) (swaps:Int) (cmp:Aa->Aa->Option (Int)):Option (Int×Int):=
 (D1 data (W (a - 1)) a (W (a + 1)) swaps cmp).bind fun y=>
 some (y.1,y.2)
def A5.j2 (j_2:Int) (swaps_2:Int):Option (Int×Int):=
 cond (decide (swaps_2=0))
  (some (j_2,1))
  (cond (decide (swaps_2=12))
   (some (j_2,2))
   (some (j_2,0)))
def A5.j1 (data:(List Aa)) (cmp:Aa->Aa->Option (Int)) (i_1:Int) (j_1:Int) (k_1:Int) (swaps_1:Int):Option (Int×Int):=
 (D1 data i_1 j_1 k_1 swaps_1 cmp).bind fun y_4=>
 A5.j2 y_4.1 y_4.2
def A5 (data:(List Aa)) (a:Int) (b:Int) (cmp:Aa->Aa->Option (Int)):Option (Int×Int):=
 (M1 (W (b - a)) 4).bind fun q=>
 (M1 (W (b - a)) 4).bind fun q_2=>
 (M1 (W (b - a)) 4).bind fun q_3=>
 cond (decide (8<=(W (b - a))))
  (cond (decide (50<=(W (b - a))))
   ((Cu data (W (a + (W (q * 1)))) 0 cmp).bind fun y=>
   (Cu data (W (a + (W (q_2 * 2)))) y.2 cmp).bind fun y_2=>
   (Cu data (W (a + (W (q_3 * 3)))) y_2.2 cmp).bind fun y_3=>
   A5.j1 data cmp y.1 y_2.1 y_3.1 y_3.2)
   (A5.j1 data cmp (W (a + (W (q * 1)))) (W (a + (W (q_2 * 2)))) (W (a + (W (q_3 * 3)))) 0))
  (A5.j2 (W (a + (W (q_2 * 2)))) 0)
def Bg.l1 (i_1:Int) (j_1:Int) (data_1:List Aa):Option (Lp (Int×Int×List Aa) ((List Aa))):=
 cond (decide (i_1 < j_1))
  ((B8 data_1 j_1).bind fun e=>
  (B8 data_1 i_1).bind fun e_2=>
  (B8 (Db data_1 ((i_1).toNat) e) j_1).bind fun e_3=>
  some (.next (W (i_1 + 1),W (j_1 - 1),Db (Db data_1 ((i_1).toNat) e) ((j_1).toNat) e_2)))
  (up (some data_1))
def Bg (data:List Aa) (a:Int) (b:Int) (cmp:Aa->Aa->Option (Int)):Option ((List Aa)):=
 Cl (fun q'=>Bg.l1 q'.1 q'.2.1 q'.2.2) (a,W (b - 1),data)
def Ad.j7 (j_1:Int) (i_7:Int) (data_7:List Aa):Option (Lp (Int×Int×List Aa) (Bool×(List Aa))):=
 some (.next (i_7,W (j_1 + 1),data_7))
def Ad.l6 (b:Int) (cmp:Aa->Aa->Option (Int)) (j_1:Int) (i_2:Int) (j_6:Int) (data_6:List Aa):Option (Lp (Int×List Aa) (Lp (Int×Int×List Aa) (Bool×(List Aa)))):=
 cond (decide (j_6 < b))
  ((B8 data_6 j_6).bind fun e_9=>
  (B8 data_6 (W (j_6 - 1))).bind fun e_10=>
  (cmp e_9 e_10).bind fun y_3=>
  cond (!(decide (y_3 < 0)))
   (up (
    Ad.j7 j_1 i_2 data_6))
   ((B8 (Db data_6 ((j_6).toNat) e_10) (W (j_6 - 1))).bind fun e_11=>
   some (.next (W (j_6 + 1),Db (Db data_6 ((j_6).toNat) e_10) ((W (j_6 - 1)).toNat) e_9))))
  (up (
   Ad.j7 j_1 i_2 data_6))
def Ad.j5 (b:Int) (cmp:Aa->Aa->Option (Int)) (j_1:Int) (i_2:Int) (data_5:List Aa):Option (Lp (Int×Int×List Aa) (Bool×(List Aa))):=
 cond (decide (2<=(W (b - i_2))))
  (Cl (fun q'=>Ad.l6 b cmp j_1 i_2 q'.1 q'.2) (W (i_2 + 1),data_5))
  (Ad.j7 j_1 i_2 data_5)
def Ad.l4 (b:Int) (cmp:Aa->Aa->Option (Int)) (j_1:Int) (i_2:Int) (j_4:Int) (data_4:List Aa):Option (Lp (Int×List Aa) (Lp (Int×Int×List Aa) (Bool×(List Aa)))):=
 cond (decide (1<=j_4))
  ((B8 data_4 j_4).bind fun e_6=>
  (B8 data_4 (W (j_4 - 1))).bind fun e_7=>
  (cmp e_6 e_7).bind fun y_2=>
  cond (!(decide (y_2 < 0)))
   (up (
    Ad.j5 b cmp j_1 i_2 data_4))
   ((B8 (Db data_4 ((j_4).toNat) e_7) (W (j_4 - 1))).bind fun e_8=>
   some (.next (W (j_4 - 1),Db (Db data_4 ((j_4).toNat) e_7) ((W (j_4 - 1)).toNat) e_6))))
  (up (
   Ad.j5 b cmp j_1 i_2 data_4))
def Ad.j3 (a:Int) (b:Int) (cmp:Aa->Aa->Option (Int)) (j_1:Int) (data_1:List Aa) (i_2:Int) (x36_3:Bool):Option (Lp (Int) (Lp (Int×Int×List Aa) (Bool×(List Aa)))):=
 cond (x36_3)
  (some (.next (W (i_2 + 1))))
  (up (
   cond (decide (i_2=b))
    (up (some (true,data_1)))
    (cond (decide ((W (b - a)) < 50))
     (up (some (false,data_1)))
     ((B8 data_1 (W (i_2 - 1))).bind fun e_3=>
     (B8 data_1 i_2).bind fun e_4=>
     (B8 (Db data_1 ((i_2).toNat) e_3) (W (i_2 - 1))).bind fun e_5=>
     cond (decide (2<=(W (i_2 - a))))
      (Cl (fun q'=>Ad.l4 b cmp j_1 i_2 q'.1 q'.2) (W (i_2 - 1),Db (Db data_1 ((i_2).toNat) e_3) ((W (i_2 - 1)).toNat) e_4))
      (Ad.j5 b cmp j_1 i_2 (Db (Db data_1 ((i_2).toNat) e_3) ((W (i_2 - 1)).toNat) e_4))))))
def Ad.l2 (a:Int) (b:Int) (cmp:Aa->Aa->Option (Int)) (j_1:Int) (data_1:List Aa) (i_2:Int):Option (Lp (Int) (Lp (Int×Int×List Aa) (Bool×(List Aa)))):=
 cond (decide (i_2 < b))
  ((B8 data_1 i_2).bind fun e=>
  (B8 data_1 (W (i_2 - 1))).bind fun e_2=>
  (cmp e e_2).bind fun y=>
  Ad.j3 a b cmp j_1 data_1 i_2 (!(decide (y < 0))))
  (Ad.j3 a b cmp j_1 data_1 i_2 false)
def Ad.l1 (a:Int) (b:Int) (cmp:Aa->Aa->Option (Int)) (i_1:Int) (j_1:Int) (data_1:List Aa):Option (Lp (Int×Int×List Aa) (Bool×(List Aa))):=
 cond (decide (j_1 < 5))
  (Cl (fun q'=>Ad.l2 a b cmp j_1 data_1 q') i_1)
  (up (
   some (false,data_1)))
def Ad (data:List Aa) (a:Int) (b:Int) (cmp:Aa->Aa->Option (Int)):Option (Bool×(List Aa)):=
 Cl (fun q'=>Ad.l1 a b cmp q'.1 q'.2.1 q'.2.2) (W (a + 1),0,data)
def Al.j5 (data_1:List Aa) (i_2:Int) (j_4:Int) (x65_5:Bool):Option (Lp (Int) (Lp (Int×Int×List Aa) (Int×(List Aa)))):=
 cond (x65_5)
  (some (.next (W (j_4 - 1))))
  (up (
   cond (decide (j_4 < i_2))
    (up (
     some (i_2,data_1)))
    ((B8 data_1 j_4).bind fun e_8=>
    (B8 data_1 i_2).bind fun e_9=>
    (B8 (Db data_1 ((i_2).toNat) e_8) j_4).bind fun e_10=>
    some (.next (W (i_2 + 1),W (j_4 - 1),Db (Db data_1 ((i_2).toNat) e_8) ((j_4).toNat) e_9)))))
def Al.l4 (a:Int) (cmp:Aa->Aa->Option (Int)) (data_1:List Aa) (i_2:Int) (j_4:Int):Option (Lp (Int) (Lp (Int×Int×List Aa) (Int×(List Aa)))):=
 cond (decide (i_2<=j_4))
  ((B8 data_1 a).bind fun e_6=>
  (B8 data_1 j_4).bind fun e_7=>
  (cmp e_6 e_7).bind fun y_2=>
  Al.j5 data_1 i_2 j_4 (decide (y_2 < 0)))
  (Al.j5 data_1 i_2 j_4 false)
def Al.j3 (a:Int) (cmp:Aa->Aa->Option (Int)) (j_1:Int) (data_1:List Aa) (i_2:Int) (x47_3:Bool):Option (Lp (Int) (Lp (Int×Int×List Aa) (Int×(List Aa)))):=
 cond (x47_3)
  (some (.next (W (i_2 + 1))))
  (up (
   Cl (fun q'=>Al.l4 a cmp data_1 i_2 q') j_1))
def Al.l2 (a:Int) (cmp:Aa->Aa->Option (Int)) (j_1:Int) (data_1:List Aa) (i_2:Int):Option (Lp (Int) (Lp (Int×Int×List Aa) (Int×(List Aa)))):=
 cond (decide (i_2<=j_1))
  ((B8 data_1 a).bind fun e_4=>
  (B8 data_1 i_2).bind fun e_5=>
  (cmp e_4 e_5).bind fun y=>
  Al.j3 a cmp j_1 data_1 i_2 (!(decide (y < 0))))
  (Al.j3 a cmp j_1 data_1 i_2 false)
def Al.l1 (a:Int) (cmp:Aa->Aa->Option (Int)) (i_1:Int) (j_1:Int) (data_1:List Aa):Option (Lp (Int×Int×List Aa) (Int×(List Aa))):=
 Cl (fun q'=>Al.l2 a cmp j_1 data_1 q') i_1
def Al (data:List Aa) (a:Int) (b:Int) (pivot:Int) (cmp:Aa->Aa->Option (Int)):Option (Int×(List Aa)):=
 (B8 data pivot).bind fun e=>
 (B8 data a).bind fun e_2=>
 (B8 (Db data ((a).toNat) e) pivot).bind fun e_3=>
 Cl (fun q'=>Al.l1 a cmp q'.1 q'.2.1 q'.2.2) (W (a + 1),W (b - 1),Db (Db data ((a).toNat) e) ((pivot).toNat) e_2)
def Ae.j9 (a:Int) (data_5:List Aa) (i_6:Int) (j_8:Int) (x139_9:Bool):Option (Lp (Int) (Lp (Int×Int×List Aa) (Int×Bool×(List Aa)))):=
 cond (x139_9)
  (some (.next (W (j_8 - 1))))
  (up (
   cond (decide (j_8 < i_6))
    (up (
     (B8 data_5 a).bind fun e_21=>
     (B8 data_5 j_8).bind fun e_22=>
     (B8 (Db data_5 ((j_8).toNat) e_21) a).bind fun e_23=>
     some (j_8,false,Db (Db data_5 ((j_8).toNat) e_21) ((a).toNat) e_22)))
    ((B8 data_5 j_8).bind fun e_18=>
    (B8 data_5 i_6).bind fun e_19=>
    (B8 (Db data_5 ((i_6).toNat) e_18) j_8).bind fun e_20=>
    some (.next (W (i_6 + 1),W (j_8 - 1),Db (Db data_5 ((i_6).toNat) e_18) ((j_8).toNat) e_19)))))
def Ae.l8 (a:Int) (cmp:Aa->Aa->Option (Int)) (data_5:List Aa) (i_6:Int) (j_8:Int):Option (Lp (Int) (Lp (Int×Int×List Aa) (Int×Bool×(List Aa)))):=
 cond (decide (i_6<=j_8))
  ((B8 data_5 j_8).bind fun e_16=>
  (B8 data_5 a).bind fun e_17=>
  (cmp e_16 e_17).bind fun y_4=>
  Ae.j9 a data_5 i_6 j_8 (!(decide (y_4 < 0))))
  (Ae.j9 a data_5 i_6 j_8 false)
def Ae.j7 (a:Int) (cmp:Aa->Aa->Option (Int)) (j_5:Int) (data_5:List Aa) (i_6:Int) (x120_7:Bool):Option (Lp (Int) (Lp (Int×Int×List Aa) (Int×Bool×(List Aa)))):=
 cond (x120_7)
  (some (.next (W (i_6 + 1))))
  (up (
   Cl (fun q'=>Ae.l8 a cmp data_5 i_6 q') j_5))
def Ae.l6 (a:Int) (cmp:Aa->Aa->Option (Int)) (j_5:Int) (data_5:List Aa) (i_6:Int):Option (Lp (Int) (Lp (Int×Int×List Aa) (Int×Bool×(List Aa)))):=
 cond (decide (i_6<=j_5))
  ((B8 data_5 i_6).bind fun e_14=>
  (B8 data_5 a).bind fun e_15=>
  (cmp e_14 e_15).bind fun y_3=>
  Ae.j7 a cmp j_5 data_5 i_6 (decide (y_3 < 0)))
  (Ae.j7 a cmp j_5 data_5 i_6 false)
def Ae.l5 (a:Int) (cmp:Aa->Aa->Option (Int)) (i_5:Int) (j_5:Int) (data_5:List Aa):Option (Lp (Int×Int×List Aa) (Int×Bool×(List Aa))):=
 Cl (fun q'=>Ae.l6 a cmp j_5 data_5 q') i_5
def Ae.j4 (data:List Aa) (a:Int) (pivot:Int) (cmp:Aa->Aa->Option (Int)) (e:Aa) (e_2:Aa) (i_1:Int) (j_3:Int) (x66_4:Bool):Option (Lp (Int) (Int×Bool×(List Aa))):=
 cond (x66_4)
  (some (.next (W (j_3 - 1))))
  (up (
   cond (decide (j_3 < i_1))
    ((B8 (Db (Db data ((a).toNat) e) ((pivot).toNat) e_2) a).bind fun e_8=>
    (B8 (Db (Db data ((a).toNat) e) ((pivot).toNat) e_2) j_3).bind fun e_9=>
    (B8 (Db (Db (Db data ((a).toNat) e) ((pivot).toNat) e_2) ((j_3).toNat) e_8) a).bind fun e_10=>
    some (j_3,true,Db (Db (Db (Db data ((a).toNat) e) ((pivot).toNat) e_2) ((j_3).toNat) e_8) ((a).toNat) e_9))
    ((B8 (Db (Db data ((a).toNat) e) ((pivot).toNat) e_2) j_3).bind fun e_11=>
    (B8 (Db (Db data ((a).toNat) e) ((pivot).toNat) e_2) i_1).bind fun e_12=>
    (B8 (Db (Db (Db data ((a).toNat) e) ((pivot).toNat) e_2) ((i_1).toNat) e_11) j_3).bind fun e_13=>
    Cl (fun q'=>Ae.l5 a cmp q'.1 q'.2.1 q'.2.2) (W (i_1 + 1),W (j_3 - 1),Db (Db (Db (Db data ((a).toNat) e) ((pivot).toNat) e_2) ((i_1).toNat) e_11) ((j_3).toNat) e_12))))
def Ae.l3 (data:List Aa) (a:Int) (pivot:Int) (cmp:Aa->Aa->Option (Int)) (e:Aa) (e_2:Aa) (i_1:Int) (j_3:Int):Option (Lp (Int) (Int×Bool×(List Aa))):=
 cond (decide (i_1<=j_3))
  ((B8 (Db (Db data ((a).toNat) e) ((pivot).toNat) e_2) j_3).bind fun e_6=>
  (B8 (Db (Db data ((a).toNat) e) ((pivot).toNat) e_2) a).bind fun e_7=>
  (cmp e_6 e_7).bind fun y_2=>
  Ae.j4 data a pivot cmp e e_2 i_1 j_3 (!(decide (y_2 < 0))))
  (Ae.j4 data a pivot cmp e e_2 i_1 j_3 false)
def Ae.j2 (data:List Aa) (a:Int) (b:Int) (pivot:Int) (cmp:Aa->Aa->Option (Int)) (e:Aa) (e_2:Aa) (i_1:Int) (x47_2:Bool):Option (Lp (Int) (Int×Bool×(List Aa))):=
 cond (x47_2)
  (some (.next (W (i_1 + 1))))
  (up (
   Cl (fun q'=>Ae.l3 data a pivot cmp e e_2 i_1 q') (W (b - 1))))
def Ae.l1 (data:List Aa) (a:Int) (b:Int) (pivot:Int) (cmp:Aa->Aa->Option (Int)) (e:Aa) (e_2:Aa) (i_1:Int):Option (Lp (Int) (Int×Bool×(List Aa))):=
 cond (decide (i_1<=(W (b - 1))))
  ((B8 (Db (Db data ((a).toNat) e) ((pivot).toNat) e_2) i_1).bind fun e_4=>
  (B8 (Db (Db data ((a).toNat) e) ((pivot).toNat) e_2) a).bind fun e_5=>
  (cmp e_4 e_5).bind fun y=>
  Ae.j2 data a b pivot cmp e e_2 i_1 (decide (y < 0)))
  (Ae.j2 data a b pivot cmp e e_2 i_1 false)
def Ae (data:List Aa) (a:Int) (b:Int) (pivot:Int) (cmp:Aa->Aa->Option (Int)):Option (Int×Bool×(List Aa)):=
 (B8 data pivot).bind fun e=>
 (B8 data a).bind fun e_2=>
 (B8 (Db data ((a).toNat) e) pivot).bind fun e_3=>
 Cl (fun q'=>Ae.l1 data a b pivot cmp e e_2 q') (W (a + 1))
def Ai.j6 (rec:(List Aa)->Int->Int->Int->Option ((List Aa))) (cmp:Aa->Aa->Option (Int)) (a_1:Int) (b_1:Int) (wasBalanced_1:Bool) (wasPartitioned_1:Bool) (limit_2:Int) (pivot_3:Int) (data_5:List Aa) (x97_6:Bool):Option (Lp (Int×Int×Int×Bool×Bool×List Aa) ((List Aa))):=
 cond (x97_6)
  ((Al data_5 a_1 b_1 pivot_3 cmp).bind fun y_8=>
  some (.next (y_8.1,b_1,limit_2,wasBalanced_1,wasPartitioned_1,y_8.2)))
  ((Ae data_5 a_1 b_1 pivot_3 cmp).bind fun y_9=>
  (M1 (W (b_1 - a_1)) 8).bind fun q=>
  cond (decide ((W (y_9.1 - a_1)) < (W (b_1 - y_9.1))))
   ((rec y_9.2.2 a_1 y_9.1 limit_2).bind fun y_10=>
   some (.next (W (y_9.1 + 1),b_1,limit_2,decide (q<=(W (y_9.1 - a_1))),y_9.2.1,y_10)))
   ((rec y_9.2.2 (W (y_9.1 + 1)) b_1 limit_2).bind fun y_11=>
   some (.next (a_1,y_9.1,limit_2,decide (q<=(W (b_1 - y_9.1))),y_9.2.1,y_11))))
def Ai.j5 (rec:(List Aa)->Int->Int->Int->Option ((List Aa))) (cmp:Aa->Aa->Option (Int)) (a_1:Int) (b_1:Int) (wasBalanced_1:Bool) (wasPartitioned_1:Bool) (limit_2:Int) (pivot_3:Int) (data_5:List Aa):Option (Lp (Int×Int×Int×Bool×Bool×List Aa) ((List Aa))):=
 cond (decide (0 < a_1))
  ((B8 data_5 (W (a_1 - 1))).bind fun e=>
  (B8 data_5 pivot_3).bind fun e_2=>
  (cmp e e_2).bind fun y_7=>
  Ai.j6 rec cmp a_1 b_1 wasBalanced_1 wasPartitioned_1 limit_2 pivot_3 data_5 (!(decide (y_7 < 0))))
  (Ai.j6 rec cmp a_1 b_1 wasBalanced_1 wasPartitioned_1 limit_2 pivot_3 data_5 false)
def Ai.j4 (rec:(List Aa)->Int->Int->Int->Option ((List Aa))) (cmp:Aa->Aa->Option (Int)) (a_1:Int) (b_1:Int) (wasBalanced_1:Bool) (wasPartitioned_1:Bool) (limit_2:Int) (pivot_3:Int) (data_3:List Aa) (x75_4:Bool):Option (Lp (Int×Int×Int×Bool×Bool×List Aa) ((List Aa))):=
 cond (x75_4)
  ((Ad data_3 a_1 b_1 cmp).bind fun y_6=>
  cond (y_6.1)
   (up (some y_6.2))
   (Ai.j5 rec cmp a_1 b_1 wasBalanced_1 wasPartitioned_1 limit_2 pivot_3 y_6.2))
  (Ai.j5 rec cmp a_1 b_1 wasBalanced_1 wasPartitioned_1 limit_2 pivot_3 data_3)
def Ai.j3 (rec:(List Aa)->Int->Int->Int->Option ((List Aa))) (cmp:Aa->Aa->Option (Int)) (a_1:Int) (b_1:Int) (wasBalanced_1:Bool) (wasPartitioned_1:Bool) (limit_2:Int) (pivot_3:Int) (hint_3:Int) (data_3:List Aa):Option (Lp (Int×Int×Int×Bool×Bool×List Aa) ((List Aa))):=
 cond (wasBalanced_1)
  (cond (wasPartitioned_1)
   (Ai.j4 rec cmp a_1 b_1 wasBalanced_1 wasPartitioned_1 limit_2 pivot_3 data_3 (decide (hint_3=1)))
   (Ai.j4 rec cmp a_1 b_1 wasBalanced_1 wasPartitioned_1 limit_2 pivot_3 data_3 false))
  (Ai.j4 rec cmp a_1 b_1 wasBalanced_1 wasPartitioned_1 limit_2 pivot_3 data_3 false)
def Ai.j2 (rec:(List Aa)->Int->Int->Int->Option ((List Aa))) (cmp:Aa->Aa->Option (Int)) (a_1:Int) (b_1:Int) (wasBalanced_1:Bool) (wasPartitioned_1:Bool) (limit_2:Int) (data_2:List Aa):Option (Lp (Int×Int×Int×Bool×Bool×List Aa) ((List Aa))):=
 (A5 data_2 a_1 b_1 cmp).bind fun y_4=>
 cond (decide (y_4.2=2))
  ((Bg data_2 a_1 b_1 cmp).bind fun y_5=>
  Ai.j3 rec cmp a_1 b_1 wasBalanced_1 wasPartitioned_1 limit_2 (W ((W (b_1 - 1)) - (W (y_4.1 - a_1)))) 1 y_5)
  (Ai.j3 rec cmp a_1 b_1 wasBalanced_1 wasPartitioned_1 limit_2 y_4.1 y_4.2 data_2)
def Ai.l1 (rec:(List Aa)->Int->Int->Int->Option ((List Aa))) (cmp:Aa->Aa->Option (Int)) (a_1:Int) (b_1:Int) (limit_1:Int) (wasBalanced_1:Bool) (wasPartitioned_1:Bool) (data_1:List Aa):Option (Lp (Int×Int×Int×Bool×Bool×List Aa) ((List Aa))):=
 cond (decide ((W (b_1 - a_1))<=12))
  ((An data_1 a_1 b_1 cmp).bind fun y=>
  up (some y))
  (cond (decide (limit_1=0))
   ((A3 data_1 a_1 b_1 cmp).bind fun y_2=>
   up (some y_2))
   (cond (!wasBalanced_1)
    ((Az data_1 a_1 b_1 cmp).bind fun y_3=>
    Ai.j2 rec cmp a_1 b_1 wasBalanced_1 wasPartitioned_1 (W (limit_1 - 1)) y_3)
    (Ai.j2 rec cmp a_1 b_1 wasBalanced_1 wasPartitioned_1 limit_1 data_1)))
def Ai.F (rec:(List Aa)->Int->Int->Int->Option ((List Aa))) (data:List Aa) (a:Int) (b:Int) (limit:Int) (cmp:Aa->Aa->Option (Int)):Option ((List Aa)):=
 Cl (fun q'=>Ai.l1 rec cmp q'.1 q'.2.1 q'.2.2.1 q'.2.2.2.1 q'.2.2.2.2.1 q'.2.2.2.2.2) (a,b,limit,true,true,data)
def Ai (data:List Aa) (a:Int) (b:Int) (limit:Int) (cmp:Aa->Aa->Option (Int)):Option ((List Aa)):=Yz (fun rec (x:List Aa×Int×Int×Int)=>Ai.F (fun data a b limit=>rec (data,a,b,limit)) x.1 x.2.1 x.2.2.1 x.2.2.2 cmp) (data,a,b,limit)
def Er (x':List Aa) (cmp:Aa->Aa->Option (Int)):Option ((List Aa)):=
 (Hu (IntKind.wrap .u64 (x'.length:Int))).bind fun y=>
 (Ai x' 0 (x'.length:Int) y cmp).bind fun y_2=>
 some y_2
def Bc.j3 (k2_2:Int) (k_3:Int) (s_3:List Aa):Option (Lp (Int×Int×List Aa) (Lp (Int) ((List Aa)))):=
 some (.next (k_3,W (k2_2 + 1),s_3))
def Bc.l2 (s:List Aa) (k_1:Int) (k_2:Int) (k2_2:Int) (s_2:List Aa):Option (Lp (Int×Int×List Aa) (Lp (Int) ((List Aa)))):=
 cond (decide (k2_2 < (((((s.length:Int):Int).toNat - (k_1:Int).toNat):Nat):Int)))
  ((B8 ((s_2.drop ((k_1:Int).toNat)).take (((s.length:Int):Int).toNat - (k_1:Int).toNat)) k2_2).bind fun e_3=>
  (B8 ((s_2.drop ((k_1:Int).toNat)).take (((s.length:Int):Int).toNat - (k_1:Int).toNat)) (W (k2_2 - 1))).bind fun e_4=>
  cond (!decide (e_3=e_4))
   ((B8 s_2 k_2).bind fun e_5=>
   Bc.j3 k2_2 (W (k_2 + 1)) (Db s_2 ((k_2).toNat) e_3))
   (Bc.j3 k2_2 k_2 s_2))
  (up (
   (bZ s_2 k_2 (s_2.length:Int)).bind fun l_2=>
   (sC s_2 ((k_2:Int).toNat) (((s_2.length:Int):Int).toNat - (k_2:Int).toNat) ((Aa.mk 0 (⟨#[]⟩:ByteArray) 0 0 0 0 (⟨#[]⟩:ByteArray) (Am.mk 0 0) 0 (⟨#[]⟩:ByteArray)):Aa)).bind fun l_3=>
   (bZ l_3 0 k_2).bind fun l_4=>
   up (some (l_3.take ((k_2:Int).toNat - (0:Int).toNat)))))
def Bc.l1 (s:List Aa) (k_1:Int):Option (Lp (Int) ((List Aa))):=
 cond (decide (k_1 < (s.length:Int)))
  ((B8 s k_1).bind fun e=>
  (B8 s (W (k_1 - 1))).bind fun e_2=>
  cond (decide (e=e_2))
   ((bZ s k_1 (s.length:Int)).bind fun l=>
   Cl (fun q'=>Bc.l2 s k_1 q'.1 q'.2.1 q'.2.2) (k_1,1,s))
   (some (.next (W (k_1 + 1)))))
  (up (
   some s))
def Bc (s:List Aa):Option ((List Aa)):=
 cond (decide ((s.length:Int) < 2))
  (some s)
  (Cl (fun q'=>Bc.l1 s q') 1)
def Cg.l1 (l:(List Aa)) (x10_1:Int):Option (Lp (Int) ((List Aa)×Int)):=
 cond (decide (x10_1 < (l.length:Int)))
  ((B8 l x10_1).bind fun e=>
  (Bj e).bind fun y=>
  cond (!decide (y=0))
   (up (some (([]:(List Aa)),y)))
   (some (.next (W (x10_1 + 1)))))
  (up (
   (Co l).bind fun y_2=>
   (Er y_2 (fun x0 x1=>Hw x0 x1)).bind fun y_3=>
   (Bc y_3).bind fun y_4=>
   cond (decide (400 < (y_4.length:Int)))
    (some (([]:(List Aa)),3))
    (some (y_4,0))))
def Cg (l:(List Aa)):Option ((List Aa)×Int):=
 Cl (fun q'=>Cg.l1 l q') 0
def Ca.l2 (l:(List Ax)) (x24_2:Int) (p_2:Int) (p_2_2:ByteArray) (p_2_3:Int) (p_2_4:Int) (p_2_5:Int) (p_2_6:Int) (p_2_7:ByteArray) (p_2_8:Int) (p_2_9:Int) (p_2_10:Int) (p_2_11:ByteArray) (l_2:List Aa):Option (Lp (Int×Int×ByteArray×Int×Int×Int×Int×ByteArray×Int×Int×Int×ByteArray×List Aa) ((List Aa)×Int)):=
 cond (decide (x24_2 < (l.length:Int)))
  ((B8 l x24_2).bind fun e=>
  (Cw (Dv.mk (Aa.mk p_2 p_2_2 p_2_3 p_2_4 p_2_5 p_2_6 p_2_7 (Am.mk p_2_8 p_2_9) p_2_10 p_2_11) l_2) 3 e.Key e.KeyId).bind fun y_3=>
  some (.next (W (x24_2 + 1),y_3.at_.Source,y_3.at_.Host,y_3.at_.Machine,y_3.at_.Day,y_3.at_.Confidence,y_3.at_.Kind,y_3.at_.Subject,y_3.at_.Use.Alg,y_3.at_.Use.Bits,y_3.at_.Number,y_3.at_.Text,y_3.l)))
  (up (
   (Cg l_2).bind fun y_4=>
   some (y_4.1,y_4.2)))
def Ca.j1 (l:(List Ax)) (y:Dv×Int) (errno_1:Int):Option ((List Aa)×Int):=
 cond (!decide (errno_1=0))
  (some (([]:(List Aa)),errno_1))
  (Cl (fun q'=>Ca.l2 l q'.1 q'.2.1 q'.2.2.1 q'.2.2.2.1 q'.2.2.2.2.1 q'.2.2.2.2.2.1 q'.2.2.2.2.2.2.1 q'.2.2.2.2.2.2.2.1 q'.2.2.2.2.2.2.2.2.1 q'.2.2.2.2.2.2.2.2.2.1 q'.2.2.2.2.2.2.2.2.2.2.1 q'.2.2.2.2.2.2.2.2.2.2.2.1 q'.2.2.2.2.2.2.2.2.2.2.2.2) (0,y.1.at_.Source,y.1.at_.Host,y.1.at_.Machine,y.1.at_.Day,y.1.at_.Confidence,y.1.at_.Kind,y.1.at_.Subject,y.1.at_.Use.Alg,y.1.at_.Use.Bits,y.1.at_.Number,y.1.at_.Text,y.1.l))
def Ca (at':Aa) (l:(List Ax)):Option ((List Aa)×Int):=
 (Gx at').bind fun y=>
 cond (decide (y.2=0))
  ((Bz l).bind fun y_2=>
  Ca.j1 l y y_2)
  (Ca.j1 l y y.2)
def J8:Option (Bool):=
 (Ca (Aa.mk 2 (⟨#[97]⟩:ByteArray) 0 3 90 0 (⟨#[115]⟩:ByteArray) (Am.mk 0 0) 0 (⟨#[]⟩:ByteArray)) ([(Ax.mk (⟨#[120]⟩:ByteArray) (Am.mk 5 2048) 7 false ([]:(List Af))),(Ax.mk (⟨#[121]⟩:ByteArray) (Am.mk 5 2048) 7 false ([]:(List Af)))]:List Ax)).bind fun y=>
 cond (decide (y.2=0))
  (cond (decide ((y.1.length:Int)=1))
   ((B8 y.1 0).bind fun e=>
   cond (decide (e.Number=7))
    (cond (decide (e.Kind=3))
     ((Bj e).bind fun y_2=>
     some (decide (y_2=0)))
     (some false))
    (some false))
   (some false))
  (some false)
def Pz (l:(List Int)):Option (Ac):=
 some (Ac.mk l 0)
def Pc (n:Int) (k:Int):Option (Int):=
 cond (decide (k < 1))
  (some 0)
  ((Xu n k).bind fun q=>
  (Xu (W (q + k)) k).bind fun q_2=>
  some q_2)
def Bv (d:Ac) (n:Int):Option (Int×Ac):=
 cond (decide ((d.L.length:Int)<=d.At))
  (some (0,d))
  ((B8 d.L (W ((W (d.At + 1)) - 1))).bind fun e=>
  (Pc e n).bind fun y=>
  some (y,(Ac.mk d.L (W (d.At + 1)))))
def Ff (d:Ac) (l:(List ByteArray)):Option (ByteArray×Ac):=
 (Bv d (l.length:Int)).bind fun y=>
 (B8 l y.1).bind fun e=>
 some (e,y.2)
def Bs (d:Ac) (l:(List Int)):Option (Int×Ac):=
 (Bv d (l.length:Int)).bind fun y=>
 (B8 l y.1).bind fun e=>
 some (e,y.2)
def B0.j3 (b_3:Ac) (f_3:Aa):Option (Aa×Ac):=
 some (f_3,b_3)
def B0.j2 (y:Int×Ac) (y_2:ByteArray×Ac) (y_3:Int×Ac) (y_4:Int×Ac) (y_5:Int×Ac) (y_6:Int×Ac) (y_7:ByteArray×Ac) (x57_2:Bool):Option (Aa×Ac):=
 cond (x57_2)
  ((Bv y_7.2 4).bind fun y_12=>
  B0.j3 y_12.2 (Aa.mk (W (1 + y.1)) y_2.1 y_3.1 y_4.1 y_5.1 (W (1 + y_6.1)) y_7.1 (Am.mk 0 0) (W (1 + y_12.1)) (⟨#[]⟩:ByteArray)))
  (cond (decide ((W (1 + y_6.1))=6))
   ((Bv y_7.2 3).bind fun y_13=>
   B0.j3 y_13.2 (Aa.mk (W (1 + y.1)) y_2.1 y_3.1 y_4.1 y_5.1 (W (1 + y_6.1)) y_7.1 (Am.mk 0 0) y_13.1 (⟨#[]⟩:ByteArray)))
   (cond (decide ((W (1 + y_6.1))=7))
    ((Ff y_7.2 ([(⟨#[97]⟩:ByteArray),(⟨#[98]⟩:ByteArray)]:List ByteArray)).bind fun y_14=>
    B0.j3 y_14.2 (Aa.mk (W (1 + y.1)) y_2.1 y_3.1 y_4.1 y_5.1 (W (1 + y_6.1)) y_7.1 (Am.mk 0 0) 0 y_14.1))
    (B0.j3 y_7.2 (Aa.mk (W (1 + y.1)) y_2.1 y_3.1 y_4.1 y_5.1 (W (1 + y_6.1)) y_7.1 (Am.mk 0 0) 0 (⟨#[]⟩:ByteArray)))))
def B0.j1 (y:Int×Ac) (y_2:ByteArray×Ac) (y_3:Int×Ac) (y_4:Int×Ac) (y_5:Int×Ac) (y_6:Int×Ac) (y_7:ByteArray×Ac) (x27_1:Bool):Option (Aa×Ac):=
 cond (x27_1)
  ((Bv y_7.2 4).bind fun y_8=>
  (B8 ([(Am.mk 1 0),(Am.mk 2 0),(Am.mk 5 1024),(Am.mk 14 128)]:List Am) y_8.1).bind fun e=>
  B0.j3 y_8.2 (Aa.mk (W (1 + y.1)) y_2.1 y_3.1 y_4.1 y_5.1 (W (1 + y_6.1)) y_7.1 e 0 (⟨#[]⟩:ByteArray)))
  (cond (decide ((W (1 + y_6.1))=2))
   ((Bv y_7.2 5).bind fun y_9=>
   B0.j3 y_9.2 (Aa.mk (W (1 + y.1)) y_2.1 y_3.1 y_4.1 y_5.1 (W (1 + y_6.1)) y_7.1 (Am.mk 0 0) (W (1 + y_9.1)) (⟨#[]⟩:ByteArray)))
   (cond (decide ((W (1 + y_6.1))=3))
    ((Bs y_7.2 ([1024,2048]:List Int)).bind fun y_10=>
    (Bv y_10.2 3).bind fun y_11=>
    B0.j3 y_11.2 (Aa.mk (W (1 + y.1)) y_2.1 y_3.1 y_4.1 y_5.1 (W (1 + y_6.1)) y_7.1 (Am.mk 5 y_10.1) (W (100 + y_11.1)) (⟨#[]⟩:ByteArray)))
    (cond (decide ((W (1 + y_6.1))=4))
     (B0.j2 y y_2 y_3 y_4 y_5 y_6 y_7 (decide ((W (1 + y_6.1))=4)))
     (B0.j2 y y_2 y_3 y_4 y_5 y_6 y_7 (decide ((W (1 + y_6.1))=5))))))
def B0 (d:Ac):Option (Aa×Ac):=
 (Bv d 7).bind fun y=>
 (Ff y.2 ([(⟨#[97]⟩:ByteArray),(⟨#[98]⟩:ByteArray),(⟨#[99]⟩:ByteArray)]:List ByteArray)).bind fun y_2=>
 (Bs y_2.2 ([0,1,2,0,3]:List Int)).bind fun y_3=>
 (Bv y_3.2 12).bind fun y_4=>
 (Bs y_4.2 ([90,50,100,1]:List Int)).bind fun y_5=>
 (Bv y_5.2 8).bind fun y_6=>
 (Ff y_6.2 ([(⟨#[115]⟩:ByteArray),(⟨#[116]⟩:ByteArray)]:List ByteArray)).bind fun y_7=>
 cond (decide ((W (1 + y_6.1))=1))
  (B0.j1 y y_2 y_3 y_4 y_5 y_6 y_7 (decide ((W (1 + y_6.1))=1)))
  (B0.j1 y y_2 y_3 y_4 y_5 y_6 y_7 (decide ((W (1 + y_6.1))=8)))
def Ei.j1 (b_1:Ac) (f_1:Aa):Option (Aa×Ac):=
 some (f_1,b_1)
def Ei (d:Ac):Option (Aa×Ac):=
 (B0 d).bind fun y=>
 (Bv y.2 16).bind fun y_2=>
 cond (decide (y_2.1=0))
  ((Bs y_2.2 ([0,8]:List Int)).bind fun y_3=>
  Ei.j1 y_3.2 (Aa.mk y_3.1 y.1.Host y.1.Machine y.1.Day y.1.Confidence y.1.Kind y.1.Subject y.1.Use y.1.Number y.1.Text))
  (cond (decide (y_2.1=1))
   ((Ff y_2.2 ([(⟨#[]⟩:ByteArray),(⟨#[97,32,98]⟩:ByteArray)]:List ByteArray)).bind fun y_4=>
   Ei.j1 y_4.2 (Aa.mk y.1.Source y_4.1 y.1.Machine y.1.Day y.1.Confidence y.1.Kind y.1.Subject y.1.Use y.1.Number y.1.Text))
   (cond (decide (y_2.1=2))
    ((Bs y_2.2 ([-1,1099511627777]:List Int)).bind fun y_5=>
    Ei.j1 y_5.2 (Aa.mk y.1.Source y.1.Host y_5.1 y.1.Day y.1.Confidence y.1.Kind y.1.Subject y.1.Use y.1.Number y.1.Text))
    (cond (decide (y_2.1=3))
     ((Bs y_2.2 ([-1,40001,40000]:List Int)).bind fun y_6=>
     Ei.j1 y_6.2 (Aa.mk y.1.Source y.1.Host y.1.Machine y_6.1 y.1.Confidence y.1.Kind y.1.Subject y.1.Use y.1.Number y.1.Text))
     (cond (decide (y_2.1=4))
      ((Bs y_2.2 ([0,101]:List Int)).bind fun y_7=>
      Ei.j1 y_7.2 (Aa.mk y.1.Source y.1.Host y.1.Machine y.1.Day y_7.1 y.1.Kind y.1.Subject y.1.Use y.1.Number y.1.Text))
      (cond (decide (y_2.1=5))
       ((Bs y_2.2 ([0,9,3,1]:List Int)).bind fun y_8=>
       Ei.j1 y_8.2 (Aa.mk y.1.Source y.1.Host y.1.Machine y.1.Day y.1.Confidence y_8.1 y.1.Subject y.1.Use y.1.Number y.1.Text))
       (cond (decide (y_2.1=6))
        (Ei.j1 y_2.2 (Aa.mk y.1.Source y.1.Host y.1.Machine y.1.Day y.1.Confidence y.1.Kind (⟨#[]⟩:ByteArray) y.1.Use y.1.Number y.1.Text))
        (cond (decide (y_2.1=7))
         ((Bs y_2.2 ([1,99,5]:List Int)).bind fun y_9=>
         (Bs y_9.2 ([0,2048]:List Int)).bind fun y_10=>
         Ei.j1 y_10.2 (Aa.mk y.1.Source y.1.Host y.1.Machine y.1.Day y.1.Confidence y.1.Kind y.1.Subject (Am.mk y_9.1 y_10.1) y.1.Number y.1.Text))
         (cond (decide (y_2.1=8))
          ((Bs y_2.2 ([1,65536,-1,2147483649]:List Int)).bind fun y_11=>
          Ei.j1 y_11.2 (Aa.mk y.1.Source y.1.Host y.1.Machine y.1.Day y.1.Confidence y.1.Kind y.1.Subject y.1.Use y_11.1 y.1.Text))
          (cond (decide (y_2.1=9))
           ((Ff y_2.2 ([(⟨#[120]⟩:ByteArray),(⟨#[97,32,98]⟩:ByteArray),(⟨#[]⟩:ByteArray)]:List ByteArray)).bind fun y_12=>
           Ei.j1 y_12.2 (Aa.mk y.1.Source y.1.Host y.1.Machine y.1.Day y.1.Confidence y.1.Kind y.1.Subject y.1.Use y.1.Number y_12.1))
           (Ei.j1 y_2.2 y.1))))))))))
def Ft.l1 (l:(List Int)) (n:Int) (i_1:Int):Option (Lp (Int) (Bool)):=
 cond (decide (i_1 < (l.length:Int)))
  ((B8 l i_1).bind fun e=>
  cond (decide (e=n))
   (up (some true))
   (some (.next (W (i_1 + 1)))))
  (up (
   some false))
def Ft (l:(List Int)) (n:Int):Option (Bool):=
 Cl (fun q'=>Ft.l1 l n q') 0
def Fb (d:Ac) (n:Int):Option (Bool×Ac):=
 (Bv d n).bind fun y=>
 some (decide (y.1=(W (n - 1))),y.2)
def Dy (alg:Int) (bits:Int):Option (Am):=
 some (Am.mk alg bits)
def D7 (code:Int) (name:ByteArray) (exchange:Am) (sign:Am) (cipher:Am) (mac:Am) (least:Int) (most:Int):Option (A4):=
 some (A4.mk code name exchange sign cipher mac least most)
def Jl:Option ((List A4)):=
 (Dy 10 0).bind fun y=>
 (Dy 5 0).bind fun y_2=>
 (Dy 14 128).bind fun y_3=>
 (Dy 15 168).bind fun y_4=>
 (Dy 16 128).bind fun y_5=>
 (Dy 17 128).bind fun y_6=>
 (Dy 17 256).bind fun y_7=>
 (Dy 19 0).bind fun y_8=>
 (Dy 20 0).bind fun y_9=>
 (Dy 21 0).bind fun y_10=>
 (Dy 22 0).bind fun y_11=>
 (Dy 12 256).bind fun y_12=>
 (Dy 18 0).bind fun y_13=>
 (D7 1 (⟨#[114,115,97,45,114,99,52,45,109,100,53]⟩:ByteArray) y y_2 y_3 y_8 1 2).bind fun y_14=>
 (D7 2 (⟨#[114,115,97,45,114,99,52,45,115,104,97]⟩:ByteArray) y y_2 y_3 y_9 1 3).bind fun y_15=>
 (D7 3 (⟨#[114,115,97,45,100,101,115,51,45,115,104,97]⟩:ByteArray) y y_2 y_4 y_9 1 3).bind fun y_16=>
 (Dy 11 1024).bind fun y_17=>
 (Dy 6 0).bind fun y_18=>
 (D7 4 (⟨#[100,104,101,45,100,115,97,45,100,101,115,51,45,115,104,97]⟩:ByteArray) y_17 y_18 y_4 y_9 1 3).bind fun y_19=>
 (Dy 11 1024).bind fun y_20=>
 (D7 5 (⟨#[100,104,101,45,114,115,97,45,100,101,115,51,45,115,104,97]⟩:ByteArray) y_20 y_2 y_4 y_9 1 3).bind fun y_21=>
 (D7 6 (⟨#[114,115,97,45,97,101,115,49,50,56,45,115,104,97]⟩:ByteArray) y y_2 y_5 y_9 1 3).bind fun y_22=>
 (Dy 11 2048).bind fun y_23=>
 (D7 7 (⟨#[100,104,101,45,114,115,97,45,97,101,115,49,50,56,45,115,104,97]⟩:ByteArray) y_23 y_2 y_5 y_9 1 3).bind fun y_24=>
 (D7 8 (⟨#[101,99,100,104,101,45,114,115,97,45,97,101,115,49,50,56,45,115,104,97]⟩:ByteArray) y_12 y_2 y_5 y_9 1 3).bind fun y_25=>
 (Dy 7 0).bind fun y_26=>
 (Dy 16 256).bind fun y_27=>
 (D7 9 (⟨#[101,99,100,104,101,45,101,99,100,115,97,45,97,101,115,50,53,54,45,115,104,97,50,53,54]⟩:ByteArray) y_12 y_26 y_27 y_10 3 3).bind fun y_28=>
 (D7 10 (⟨#[101,99,100,104,101,45,114,115,97,45,97,101,115,49,50,56,45,103,99,109]⟩:ByteArray) y_12 y_2 y_6 y_11 3 3).bind fun y_29=>
 (Dy 12 384).bind fun y_30=>
 (Dy 7 0).bind fun y_31=>
 (D7 11 (⟨#[101,99,100,104,101,45,101,99,100,115,97,45,97,101,115,50,53,54,45,103,99,109]⟩:ByteArray) y_30 y_31 y_7 y_11 3 3).bind fun y_32=>
 (D7 12 (⟨#[101,99,100,104,101,45,114,115,97,45,99,104,97,99,104,97]⟩:ByteArray) y_12 y_2 y_13 y_11 3 3).bind fun y_33=>
 (D7 13 (⟨#[114,115,97,45,97,101,115,50,53,54,45,103,99,109]⟩:ByteArray) y y_2 y_7 y_11 3 3).bind fun y_34=>
 (D7 14 (⟨#[97,101,115,49,50,56,45,103,99,109]⟩:ByteArray) y_12 (Am.mk 0 0) y_6 y_11 4 4).bind fun y_35=>
 (D7 15 (⟨#[99,104,97,99,104,97]⟩:ByteArray) y_12 (Am.mk 0 0) y_13 y_11 4 4).bind fun y_36=>
 (Dy 13 768).bind fun y_37=>
 (D7 16 (⟨#[109,108,107,101,109,45,97,101,115,50,53,54,45,103,99,109]⟩:ByteArray) y_37 (Am.mk 0 0) y_7 y_11 4 4).bind fun y_38=>
 some ([y_14,y_15,y_16,y_19,y_21,y_22,y_24,y_25,y_28,y_29,y_32,y_33,y_34,y_35,y_36,y_38]:List A4)
def D8.j1 (code:Int) (x9_1:Bool):Option (A4×Int):=
 cond (x9_1)
  (some ((A4.mk 0 (⟨#[]⟩:ByteArray) (Am.mk 0 0) (Am.mk 0 0) (Am.mk 0 0) (Am.mk 0 0) 0 0),8))
  ((Jl).bind fun y=>
  (B8 y (W (code - 1))).bind fun e=>
  some (e,0))
def D8 (code:Int):Option (A4×Int):=
 cond (decide (code < 1))
  (D8.j1 code true)
  (D8.j1 code (decide (16 < code)))
def D2.j1 (b:Int) (x3_1:Bool):Option (Int):=
 cond (x3_1)
  (some 0)
  (cond (decide (b < 1024))
   (some 56)
   (cond (decide (b < 2048))
    (some 80)
    (cond (decide (b < 3072))
     (some 112)
     (cond (decide (b < 7680))
      (some 128)
      (cond (decide (b < 15360))
       (some 192)
       (some 256))))))
def D2 (b:Int):Option (Int):=
 cond (decide (b < 512))
  (D2.j1 b true)
  (D2.j1 b (decide (16384 < b)))
def B7.l1 (b:Int) (sizes:(List Int)) (strengths:(List Int)) (i_1:Int):Option (Lp (Int) (Int)):=
 cond (decide (i_1 < (sizes.length:Int)))
  ((B8 sizes i_1).bind fun e=>
  cond (decide (e=b))
   ((B8 strengths i_1).bind fun e_2=>
   up (some e_2))
   (some (.next (W (i_1 + 1)))))
  (up (
   some 0))
def B7 (b:Int) (sizes:(List Int)) (strengths:(List Int)):Option (Int):=
 Cl (fun q'=>B7.l1 b sizes strengths q') 0
def Ds.j2 (alg:Int) (x14_2:Bool):Option (Int):=
 cond (x14_2)
  (some 256)
  (cond (decide (alg=19))
   (some 64)
   (cond (decide (alg=20))
    (some 80)
    (some 0)))
def Ds.j1 (alg:Int) (x8_1:Bool):Option (Int):=
 cond (x8_1)
  (some 128)
  (cond (decide (alg=4))
   (some 192)
   (cond (decide (alg=18))
    (Ds.j2 alg (decide (alg=18)))
    (Ds.j2 alg (decide (alg=22)))))
def Ds (alg:Int):Option (Int):=
 cond (decide (alg=1))
  (some 18)
  (cond (decide (alg=2))
   (some 60)
   (cond (decide (alg=3))
    (Ds.j1 alg (decide (alg=3)))
    (cond (decide (alg=8))
     (Ds.j1 alg (decide (alg=8)))
     (Ds.j1 alg (decide (alg=21))))))
def Aw.j3 (u:Am) (x35_3:Bool):Option (Int):=
 cond (x35_3)
  ((M1 u.Bits 2).bind fun q=>
  some q)
  (some 0)
def Aw.j4 (u:Am) (x62_4:Bool):Option (Int):=
 cond (x62_4)
  ((B7 u.Bits ([128,256]:List Int) ([128,256]:List Int)).bind fun y_6=>
  some y_6)
  ((Ds u.Alg).bind fun y_7=>
  (B7 u.Bits ([0]:List Int) ([y_7]:List Int)).bind fun y_8=>
  some y_8)
def Aw.j2 (u:Am) (x15_2:Bool):Option (Int):=
 cond (x15_2)
  (cond (decide (u.Bits=160))
   (Aw.j3 u true)
   (cond (decide (u.Bits=224))
    (Aw.j3 u true)
    (cond (decide (u.Bits=256))
     (Aw.j3 u true)
     (cond (decide (u.Bits=384))
      (Aw.j3 u true)
      (Aw.j3 u (decide (u.Bits=521)))))))
  (cond (decide (u.Alg=9))
   ((B7 u.Bits ([44,65,87]:List Int) ([128,192,256]:List Int)).bind fun y_2=>
   some y_2)
   (cond (decide (u.Alg=13))
    ((B7 u.Bits ([512,768,1024]:List Int) ([128,192,256]:List Int)).bind fun y_3=>
    some y_3)
    (cond (decide (u.Alg=14))
     ((B7 u.Bits ([40,128]:List Int) ([40,60]:List Int)).bind fun y_4=>
     some y_4)
     (cond (decide (u.Alg=15))
      ((B7 u.Bits ([112,168]:List Int) ([80,112]:List Int)).bind fun y_5=>
      some y_5)
      (cond (decide (u.Alg=16))
       (Aw.j4 u (decide (u.Alg=16)))
       (Aw.j4 u (decide (u.Alg=17))))))))
def Aw.j1 (u:Am) (x8_1:Bool):Option (Int):=
 cond (x8_1)
  ((D2 u.Bits).bind fun y=>
  some y)
  (cond (decide (u.Alg=7))
   (Aw.j2 u (decide (u.Alg=7)))
   (Aw.j2 u (decide (u.Alg=12))))
def Aw (u:Am):Option (Int):=
 cond (decide (u.Alg=5))
  (Aw.j1 u (decide (u.Alg=5)))
  (cond (decide (u.Alg=6))
   (Aw.j1 u (decide (u.Alg=6)))
   (cond (decide (u.Alg=10))
    (Aw.j1 u (decide (u.Alg=10)))
    (Aw.j1 u (decide (u.Alg=11)))))
def If (code:Int):Option (Int):=
 (D8 code).bind fun y=>
 cond (!decide (y.2=0))
  (some 0)
  ((Aw y.1.Cipher).bind fun y_2=>
  some y_2)
def Dl.j3 (l:(List Int)) (i_1:Int) (out_1:List Int) (k_2:Int) (x29_3:Bool):Option (Lp (Int) (Lp (Int×List Int) ((List Int)))):=
 cond (x29_3)
  (some (.next (W (k_2 - 1))))
  (up (
   (bZ out_1 0 k_2).bind fun l_2=>
   (Hh 8 ([]:List Int) ((out_1.drop ((0:Int).toNat)).take ((k_2:Int).toNat - (0:Int).toNat))).bind fun l_3=>
   (B8 l i_1).bind fun e_3=>
   (Hh 8 l_3 ([e_3]:List Int)).bind fun l_4=>
   (bZ out_1 k_2 (out_1.length:Int)).bind fun l_5=>
   (Hh 8 l_4 ((out_1.drop ((k_2:Int).toNat)).take (((out_1.length:Int):Int).toNat - (k_2:Int).toNat))).bind fun l_6=>
   some (.next (W (i_1 + 1),l_6))))
def Dl.l2 (l:(List Int)) (i_1:Int) (out_1:List Int) (k_2:Int):Option (Lp (Int) (Lp (Int×List Int) ((List Int)))):=
 cond (decide (0 < k_2))
  ((B8 out_1 (W (k_2 - 1))).bind fun e=>
  (If e).bind fun y=>
  (B8 l i_1).bind fun e_2=>
  (If e_2).bind fun y_2=>
  Dl.j3 l i_1 out_1 k_2 (decide (y < y_2)))
  (Dl.j3 l i_1 out_1 k_2 false)
def Dl.l1 (l:(List Int)) (i_1:Int) (out_1:List Int):Option (Lp (Int×List Int) ((List Int))):=
 cond (decide (i_1 < (l.length:Int)))
  (Cl (fun q'=>Dl.l2 l i_1 out_1 q') (out_1.length:Int))
  (up (
   some out_1))
def Dl (l:(List Int)):Option ((List Int)):=
 Cl (fun q'=>Dl.l1 l q'.1 q'.2) (0,([]:List Int))
def Dx.j2 (i_1:Int) (d_2:Ac) (l_2:List Int):Option (Lp (Int×Ac×List Int) ((List Int)×Ac)):=
 some (.next (W (i_1 - 1),d_2,l_2))
def Dx.l1 (i_1:Int) (d_1:Ac) (l_1:List Int):Option (Lp (Int×Ac×List Int) ((List Int)×Ac)):=
 cond (decide (0 < i_1))
  ((Bv d_1 16).bind fun y_2=>
  (Ft l_1 (W (1 + y_2.1))).bind fun y_3=>
  cond (!y_3)
   ((Hh 8 l_1 ([W (1 + y_2.1)]:List Int)).bind fun l=>
   Dx.j2 i_1 y_2.2 l)
   (Dx.j2 i_1 y_2.2 l_1))
  (up (
   (Fb d_1 4).bind fun y_4=>
   cond (y_4.1)
    ((Dl l_1).bind fun y_5=>
    some (y_5,y_4.2))
    (some (l_1,y_4.2))))
def Dx (d:Ac):Option ((List Int)×Ac):=
 (Bv d 9).bind fun y=>
 Cl (fun q'=>Dx.l1 q'.1 q'.2.1 q'.2.2) (W (2 + y.1),y.2,([]:List Int))
def Cn.j3 (d:Ac) (x40_3:Bool):Option (Int×Ac):=
 cond (x40_3)
  ((Bs d ([128,256]:List Int)).bind fun y_7=>
  some (y_7.1,y_7.2))
  (some (0,d))
def Cn.j2 (d:Ac) (a:Int) (x14_2:Bool):Option (Int×Ac):=
 cond (x14_2)
  ((Bs d ([256,160,224,384,521]:List Int)).bind fun y_2=>
  some (y_2.1,y_2.2))
  (cond (decide (a=9))
   ((Bs d ([65,44,87]:List Int)).bind fun y_3=>
   some (y_3.1,y_3.2))
   (cond (decide (a=13))
    ((Bs d ([768,512,1024]:List Int)).bind fun y_4=>
    some (y_4.1,y_4.2))
    (cond (decide (a=14))
     ((Bs d ([128,40]:List Int)).bind fun y_5=>
     some (y_5.1,y_5.2))
     (cond (decide (a=15))
      ((Bs d ([168,112]:List Int)).bind fun y_6=>
      some (y_6.1,y_6.2))
      (cond (decide (a=16))
       (Cn.j3 d (decide (a=16)))
       (Cn.j3 d (decide (a=17))))))))
def Cn.j1 (d:Ac) (a:Int) (x6_1:Bool):Option (Int×Ac):=
 cond (x6_1)
  ((Bs d ([2048,1024,512,3072,1023,4096,16384]:List Int)).bind fun y=>
  some (y.1,y.2))
  (cond (decide (a=7))
   (Cn.j2 d a (decide (a=7)))
   (Cn.j2 d a (decide (a=12))))
def Cn (d:Ac) (a:Int):Option (Int×Ac):=
 cond (decide (a=5))
  (Cn.j1 d a (decide (a=5)))
  (cond (decide (a=6))
   (Cn.j1 d a (decide (a=6)))
   (cond (decide (a=10))
    (Cn.j1 d a (decide (a=10)))
    (Cn.j1 d a (decide (a=11)))))
def Mu (d:Ac):Option (Am×Ac):=
 (Bs d ([5,7,5,6,8,9]:List Int)).bind fun y=>
 (Cn y.2 y.1).bind fun y_2=>
 some ((Am.mk y.1 y_2.1),y_2.2)
def Ls (c:Af):Option (Af):=
 (Hh 16 ([]:List ByteArray) c.Names).bind fun l=>
 some (Af.mk c.Serial c.Issuer c.Subject c.Key c.KeyId c.Hash c.From c.To c.Authority c.Path l c.Seal)
def Cj.j3 (i_2:Int) (x27_3:Bool):Option (Lp (Int) (Bool)):=
 cond (x27_3)
  (up (some false))
  (some (.next (W (i_2 + 1))))
def Cj.l2 (s:ByteArray) (i_2:Int):Option (Lp (Int) (Bool)):=
 cond (decide (i_2 < (s.size:Int)))
  ((gW s i_2).bind fun c=>
  cond (decide ((c.toNat:Int) < 33))
   (Cj.j3 i_2 true)
   ((gW s i_2).bind fun c_2=>
   Cj.j3 i_2 (decide (126 < (c_2.toNat:Int)))))
  (up (
   some true))
def Cj.j1 (s:ByteArray) (x11_1:Bool):Option (Bool):=
 cond (x11_1)
  (some false)
  (Cl (fun q'=>Cj.l2 s q') 0)
def Cj (s:ByteArray):Option (Bool):=
 cond (decide ((s.size:Int) < 1))
  (Cj.j1 s true)
  (Cj.j1 s (decide (32 < (s.size:Int))))
def Ib (u:Am):Option (Bool):=
 (Aw u).bind fun y=>
 some (decide (0 < y))
def Si:Option ((List Au)):=
 some ([(Au.mk (⟨#[]⟩:ByteArray) 0),(Au.mk (⟨#[109,100,53]⟩:ByteArray) 1),(Au.mk (⟨#[115,104,97,49]⟩:ByteArray) 1),(Au.mk (⟨#[115,104,97,50,53,54]⟩:ByteArray) 1),(Au.mk (⟨#[115,104,97,51,56,52]⟩:ByteArray) 1),(Au.mk (⟨#[114,115,97]⟩:ByteArray) 2),(Au.mk (⟨#[100,115,97]⟩:ByteArray) 2),(Au.mk (⟨#[101,99,100,115,97]⟩:ByteArray) 2),(Au.mk (⟨#[101,100,50,53,53,49,57]⟩:ByteArray) 2),(Au.mk (⟨#[109,108,100,115,97]⟩:ByteArray) 2),(Au.mk (⟨#[114,115,97,107,120]⟩:ByteArray) 3),(Au.mk (⟨#[100,104,101]⟩:ByteArray) 3),(Au.mk (⟨#[101,99,100,104,101]⟩:ByteArray) 3),(Au.mk (⟨#[109,108,107,101,109]⟩:ByteArray) 3),(Au.mk (⟨#[114,99,52]⟩:ByteArray) 4),(Au.mk (⟨#[100,101,115,51]⟩:ByteArray) 4),(Au.mk (⟨#[97,101,115,99,98,99]⟩:ByteArray) 4),(Au.mk (⟨#[97,101,115,103,99,109]⟩:ByteArray) 4),(Au.mk (⟨#[99,104,97,99,104,97]⟩:ByteArray) 4),(Au.mk (⟨#[104,109,97,99,109,100,53]⟩:ByteArray) 5),(Au.mk (⟨#[104,109,97,99,115,104,97,49]⟩:ByteArray) 5),(Au.mk (⟨#[104,109,97,99,115,104,97,50,53,54]⟩:ByteArray) 5),(Au.mk (⟨#[97,101,97,100]⟩:ByteArray) 5)]:List Au)
def E8.j1 (alg:Int) (x8_1:Bool):Option (Int):=
 cond (x8_1)
  (some 0)
  ((Si).bind fun y=>
  (B8 y alg).bind fun e=>
  some e.kind)
def E8 (alg:Int):Option (Int):=
 cond (decide (alg < 1))
  (E8.j1 alg true)
  (E8.j1 alg (decide (22 < alg)))
def Fl (u:Am):Option (Bool):=
 (Ib u).bind fun y=>
 cond (y)
  ((E8 u.Alg).bind fun y_2=>
  some (decide (y_2=2)))
  (some false)
def Ba.j5 (i_4:Int) (x123_5:Bool):Option (Lp (Int) (Int)):=
 cond (x123_5)
  (up (some 9))
  (some (.next (W (i_4 + 1))))
def Ba.j6 (x145_6:Bool):Option (Int):=
 cond (x145_6)
  (some 9)
  (some 0)
def Ba.l4 (c:Af) (i_4:Int):Option (Lp (Int) (Int)):=
 cond (decide (i_4 < (c.Names.length:Int)))
  ((B8 c.Names i_4).bind fun e=>
  (Cj e).bind fun y_6=>
  cond (!y_6)
   (Ba.j5 i_4 true)
   (cond (decide (0 < i_4))
    ((B8 c.Names (W (i_4 - 1))).bind fun e_2=>
    Ba.j5 i_4 (!Kz (Hg e_2) (Hg e)))
    (Ba.j5 i_4 false)))
  (up (
   cond (decide (c.Seal.Key < 0))
    (Ba.j6 true)
    (cond (decide (2147483648 < c.Seal.Key))
     (Ba.j6 true)
     (cond (decide (c.Seal.Sum < 0))
      (Ba.j6 true)
      (Ba.j6 (decide (4294967296<=c.Seal.Sum)))))))
def Ba.j3 (c:Af) (x91_3:Bool):Option (Int):=
 cond (x91_3)
  (some 9)
  (Cl (fun q'=>Ba.l4 c q') 0)
def Ba.j2 (c:Af) (x67_2:Bool):Option (Int):=
 cond (x67_2)
  (some 9)
  (cond (decide (c.Path < 0))
   (Ba.j3 c true)
   (cond (decide (8 < c.Path))
    (Ba.j3 c true)
    (cond (!c.Authority)
     (cond (!decide (c.Path=0))
      (Ba.j3 c true)
      (Ba.j3 c (decide (8 < (c.Names.length:Int)))))
     (Ba.j3 c (decide (8 < (c.Names.length:Int)))))))
def Ba.j1 (c:Af) (x39_1:Bool):Option (Int):=
 cond (x39_1)
  (some 9)
  ((Ib c.Hash).bind fun y_4=>
  cond (!y_4)
   (Ba.j2 c true)
   ((E8 c.Hash.Alg).bind fun y_5=>
   cond (!decide (y_5=1))
    (Ba.j2 c true)
    (cond (decide (c.From < 0))
     (Ba.j2 c true)
     (cond (decide (c.To < c.From))
      (Ba.j2 c true)
      (Ba.j2 c (decide (40000 < c.To)))))))
def Ba (c:Af):Option (Int):=
 cond (decide (c.Serial < 0))
  (Ba.j1 c true)
  (cond (decide (1099511627776 < c.Serial))
   (Ba.j1 c true)
   ((Cj c.Issuer).bind fun y=>
   cond (!y)
    (Ba.j1 c true)
    ((Cj c.Subject).bind fun y_2=>
    cond (!y_2)
     (Ba.j1 c true)
     ((Fl c.Key).bind fun y_3=>
     cond (!y_3)
      (Ba.j1 c true)
      (cond (decide (c.KeyId < 0))
       (Ba.j1 c true)
       (Ba.j1 c (decide (2147483648 < c.KeyId))))))))
def Jv (s:ByteArray):Option (Ah):=
 some (Ah.mk 12 (Hg s) false ([]:(List Ah)))
def Ct.j2 (x_1:Int) (b_1:List UInt8) (x35_2:Bool):Option (Lp (Int×List UInt8) (Ah)):=
 cond (x35_2)
  ((Hh 1 ([(u8 x_1)]:List UInt8) b_1).bind fun l=>
  (Qc .i64 x_1 8).bind fun q_2=>
  some (.next (q_2,l)))
  (up (
   some (Ah.mk 2 b_1 false ([]:(List Ah)))))
def Ct.l1 (x_1:Int) (b_1:List UInt8):Option (Lp (Int×List UInt8) (Ah)):=
 cond (!decide (x_1=0))
  (cond (!decide (x_1=(-1)))
   (Ct.j2 x_1 b_1 true)
   (cond (decide (x_1=0))
    ((B8 b_1 0).bind fun e=>
    cond (decide (128<=(e.toNat:Int)))
     (Ct.j2 x_1 b_1 true)
     (cond (decide (x_1=(-1)))
      (Ct.j2 x_1 b_1 (decide ((e.toNat:Int) < 128)))
      (Ct.j2 x_1 b_1 false)))
    (cond (decide (x_1=(-1)))
     ((B8 b_1 0).bind fun e_2=>
     Ct.j2 x_1 b_1 (decide ((e_2.toNat:Int) < 128)))
     (Ct.j2 x_1 b_1 false))))
  (cond (decide (x_1=0))
   ((B8 b_1 0).bind fun e_3=>
   cond (decide (128<=(e_3.toNat:Int)))
    (Ct.j2 x_1 b_1 true)
    (cond (decide (x_1=(-1)))
     (Ct.j2 x_1 b_1 (decide ((e_3.toNat:Int) < 128)))
     (Ct.j2 x_1 b_1 false)))
   (cond (decide (x_1=(-1)))
    ((B8 b_1 0).bind fun e_4=>
    Ct.j2 x_1 b_1 (decide ((e_4.toNat:Int) < 128)))
    (Ct.j2 x_1 b_1 false)))
def Ct (n:Int):Option (Ah):=
 (Qc .i64 n 8).bind fun q=>
 Cl (fun q'=>Ct.l1 q'.1 q'.2) (q,([(u8 n)]:List UInt8))
def C1.l1 (rec:(List Ah)->Option ((List Ah))) (l:(List Ah)) (i_1:Int) (out_1:List Ah):Option (Lp (Int×List Ah) ((List Ah))):=
 cond (decide (i_1 < (l.length:Int)))
  ((B8 l i_1).bind fun e=>
  (Hh 1 ([]:List UInt8) e.Bytes).bind fun l_2=>
  (rec e.Elements).bind fun y=>
  (Hh 256 out_1 ([(Ah.mk e.Tag l_2 e.Nested y)]:List Ah)).bind fun l_3=>
  some (.next (W (i_1 + 1),l_3)))
  (up (
   some out_1))
def C1.F (rec:(List Ah)->Option ((List Ah))) (l:(List Ah)):Option ((List Ah)):=
 Cl (fun q'=>C1.l1 rec l q'.1 q'.2) (0,([]:List Ah))
def C1 (l:(List Ah)):Option ((List Ah)):=Yz (fun rec (x:(List Ah))=>C1.F (fun l=>rec l) x) l
def I7 (l:(List Ah)):Option (Ah):=
 (C1 l).bind fun y=>
 some (Ah.mk 48 ([]:(List UInt8)) true y)
def Lk (u:Am):Option (Ah):=
 (Ct u.Alg).bind fun y=>
 (Ct u.Bits).bind fun y_2=>
 (I7 ([y,y_2]:List Ah)).bind fun y_3=>
 some y_3
def N4 (b:Bool):Option (Ah):=
 cond (b)
  (some (Ah.mk 1 ([(255:UInt8)]:List UInt8) false ([]:(List Ah))))
  (some (Ah.mk 1 ([(0:UInt8)]:List UInt8) false ([]:(List Ah))))
def E9.l1 (c:Af) (i_1:Int) (names_1:List Ah):Option (Lp (Int×List Ah) (Ah)):=
 cond (decide (i_1 < (c.Names.length:Int)))
  ((B8 c.Names i_1).bind fun e=>
  (Jv e).bind fun y=>
  (Hh 256 names_1 ([y]:List Ah)).bind fun l=>
  some (.next (W (i_1 + 1),l)))
  (up (
   (Ct c.Serial).bind fun y_12=>
   (Jv c.Issuer).bind fun y_13=>
   (Jv c.Subject).bind fun y_14=>
   (Lk c.Key).bind fun y_15=>
   (Ct c.KeyId).bind fun y_16=>
   (Lk c.Hash).bind fun y_17=>
   (Ct c.From).bind fun y_18=>
   (Ct c.To).bind fun y_19=>
   (N4 c.Authority).bind fun y_20=>
   (Ct c.Path).bind fun y_21=>
   (I7 names_1).bind fun y_22=>
   (I7 ([y_12,y_13,y_14,y_15,y_16,y_17,y_18,y_19,y_20,y_21,y_22]:List Ah)).bind fun y_23=>
   some y_23))
def E9 (c:Af):Option (Ah):=
 Cl (fun q'=>E9.l1 c q'.1 q'.2) (0,([]:List Ah))
def Nb (n:Int):Option (Bool):=
 cond (decide (1<=n))
  (cond (decide (n<=255))
   ((Xu n 32).bind fun q=>
   some (!decide (q=31)))
   (some false))
  (some false)
def Bt.l2 (rec:Ah->Option (Bool)) (v:Ah) (i_2:Int):Option (Lp (Int) (Bool)):=
 cond (decide (i_2 < (v.Elements.length:Int)))
  ((B8 v.Elements i_2).bind fun e=>
  (rec e).bind fun y_2=>
  cond (!y_2)
   (up (some false))
   (some (.next (W (i_2 + 1)))))
  (up (
   some true))
def Bt.j1 (rec:Ah->Option (Bool)) (v:Ah) (x38_1:Bool):Option (Bool):=
 cond (x38_1)
  (some false)
  (Cl (fun q'=>Bt.l2 rec v q') 0)
def Bt.F (rec:Ah->Option (Bool)) (v:Ah):Option (Bool):=
 (Nb v.Tag).bind fun y=>
 cond (!y)
  (Bt.j1 rec v true)
  ((M1 v.Tag 32).bind fun q=>
  (Xu q 2).bind fun q_2=>
  cond (!decide (v.Nested=(decide (q_2=1))))
   (Bt.j1 rec v true)
   (cond (v.Nested)
    (cond (decide (0 < (v.Bytes.length:Int)))
     (Bt.j1 rec v true)
     (Bt.j1 rec v false))
    (Bt.j1 rec v (decide (0 < (v.Elements.length:Int))))))
def Bt (v:Ah):Option (Bool):=Yz (fun rec (x:Ah)=>Bt.F (fun v=>rec v) x) v
def Dd.l1 (rec:Ah->Option (Int)) (v:Ah) (d_1:Int) (i_1:Int):Option (Lp (Int×Int) (Int)):=
 cond (decide (i_1 < (v.Elements.length:Int)))
  ((B8 v.Elements i_1).bind fun e=>
  (rec e).bind fun y=>
  some (.next (max d_1 y,W (i_1 + 1))))
  (up (
   some (W (d_1 + 1))))
def Dd.F (rec:Ah->Option (Int)) (v:Ah):Option (Int):=
 Cl (fun q'=>Dd.l1 rec v q'.1 q'.2) (0,0)
def Dd (v:Ah):Option (Int):=Yz (fun rec (x:Ah)=>Dd.F (fun v=>rec v) x) v
def Ex.l1 (n_1:Int) (b_1:List UInt8):Option (Lp (Int×List UInt8) ((List UInt8))):=
 cond (decide (0 < n_1))
  ((Xu n_1 256).bind fun q=>
  (Hh 1 ([(u8 q)]:List UInt8) b_1).bind fun l=>
  (M1 n_1 256).bind fun q_2=>
  some (.next (q_2,l)))
  (up (
   (Hh 1 ([(u8 (W (128 + (b_1.length:Int))))]:List UInt8) b_1).bind fun l_2=>
   some l_2))
def Ex (n:Int):Option ((List UInt8)):=
 cond (decide (n < 128))
  (some ([(u8 n)]:List UInt8))
  (Cl (fun q'=>Ex.l1 q'.1 q'.2) (n,([]:List UInt8)))
def Dz.l1 (rec:Ah->Option ((List UInt8))) (v:Ah) (i_1:Int) (b_1:List UInt8):Option (Lp (Int×List UInt8) ((List UInt8))):=
 cond (decide (i_1 < (v.Elements.length:Int)))
  ((B8 v.Elements i_1).bind fun e=>
  (rec e).bind fun y=>
  (Hh 1 b_1 y).bind fun l_2=>
  some (.next (W (i_1 + 1),l_2)))
  (up (
   (Ex (b_1.length:Int)).bind fun y_2=>
   (Hh 1 ([(u8 v.Tag)]:List UInt8) y_2).bind fun l_3=>
   (Hh 1 l_3 b_1).bind fun l_4=>
   some l_4))
def Dz.F (rec:Ah->Option ((List UInt8))) (v:Ah):Option ((List UInt8)):=
 (Hh 1 ([]:List UInt8) v.Bytes).bind fun l=>
 Cl (fun q'=>Dz.l1 rec v q'.1 q'.2) (0,l)
def Dz (v:Ah):Option ((List UInt8)):=Yz (fun rec (x:Ah)=>Dz.F (fun v=>rec v) x) v
def Ks (v:Ah):Option ((List UInt8)×Int):=
 (Bt v).bind fun y=>
 cond (!y)
  (some (([]:(List UInt8)),1))
  ((Dd v).bind fun y_2=>
  cond (decide (16 < y_2))
   (some (([]:(List UInt8)),3))
   ((Dz v).bind fun y_3=>
   cond (decide (4096 < (y_3.length:Int)))
    (some (([]:(List UInt8)),3))
    (some (y_3,0))))
def Ka (c:Af):Option ((List UInt8)×Int):=
 (Ba c).bind fun y=>
 cond (!decide (y=0))
  (some (([]:(List UInt8)),9))
  ((E9 c).bind fun y_2=>
  (Ks y_2).bind fun y_3=>
  some (y_3.1,y_3.2))
def Fz.l1 (b:(List UInt8)) (h_1:Int) (i_1:Int):Option (Lp (Int×Int) (Int)):=
 cond (decide (i_1 < (b.length:Int)))
  ((B8 b i_1).bind fun e=>
  some (.next (IntKind.wrap .u32 ((Rq .u32 h_1 (IntKind.wrap .u32 (e.toNat:Int))) * 16777619),W (i_1 + 1))))
  (up (
   some (W h_1)))
def Fz (b:(List UInt8)):Option (Int):=
 Cl (fun q'=>Fz.l1 b q'.1 q'.2) (2166136261,0)
def Fm.j1 (key:Int) (y:Af) (x22_1:Bool):Option (Af×Int):=
 cond (x22_1)
  (some ((Af.mk 0 (⟨#[]⟩:ByteArray) (⟨#[]⟩:ByteArray) (Am.mk 0 0) 0 (Am.mk 0 0) 0 0 false 0 ([]:(List ByteArray)) (Eu.mk 0 0)),9))
  ((Ka (Af.mk y.Serial y.Issuer y.Subject y.Key y.KeyId y.Hash y.From y.To y.Authority y.Path y.Names (Eu.mk 0 0))).bind fun y_3=>
  (Fz y_3.1).bind fun y_4=>
  some ((Af.mk y.Serial y.Issuer y.Subject y.Key y.KeyId y.Hash y.From y.To y.Authority y.Path y.Names (Eu.mk key y_4)),0))
def Fm (c:Af) (key:Int):Option (Af×Int):=
 (Ls c).bind fun y=>
 (Ba (Af.mk y.Serial y.Issuer y.Subject y.Key y.KeyId y.Hash y.From y.To y.Authority y.Path y.Names (Eu.mk 0 0))).bind fun y_2=>
 cond (!decide (y_2=0))
  (Fm.j1 key y true)
  (cond (decide (key < 0))
   (Fm.j1 key y true)
   (Fm.j1 key y (decide (2147483648 < key))))
def Ch.j2 (issuer:ByteArray) (subject:ByteArray) (key:Am) (id:Int) (signer:Int) (authority:Bool) (y:Int×Ac) (y_2:Int×Ac) (y_3:Int×Ac) (y_4:Int×Ac) (c_1:Int) (b_2:Ac) (l_2:List ByteArray):Option (Af×Ac):=
 (Fm (Af.mk y.1 issuer subject key id (Am.mk y_2.1 0) y_3.1 y_4.1 authority c_1 l_2 (Eu.mk 0 0)) signer).bind fun y_7=>
 some (y_7.1,b_2)
def Ch.j1 (issuer:ByteArray) (subject:ByteArray) (key:Am) (id:Int) (signer:Int) (authority:Bool) (y:Int×Ac) (y_2:Int×Ac) (y_3:Int×Ac) (y_4:Int×Ac) (d_1:Ac) (c_1:Int):Option (Af×Ac):=
 (Fb d_1 3).bind fun y_6=>
 cond (y_6.1)
  ((sN subject (⟨#[120]⟩:ByteArray)).bind fun s=>
  (Hh 16 ([subject]:List ByteArray) ([s]:List ByteArray)).bind fun l=>
  Ch.j2 issuer subject key id signer authority y y_2 y_3 y_4 c_1 y_6.2 l)
  (Ch.j2 issuer subject key id signer authority y y_2 y_3 y_4 c_1 y_6.2 ([subject]:List ByteArray))
def Ch (d:Ac) (issuer:ByteArray) (subject:ByteArray) (key:Am) (id:Int) (signer:Int) (authority:Bool):Option (Af×Ac):=
 (Bv d 1000).bind fun y=>
 (Bs y.2 ([3,2,4,1]:List Int)).bind fun y_2=>
 (Bs y_2.2 ([0,5,10]:List Int)).bind fun y_3=>
 (Bs y_3.2 ([1000,100,50,20]:List Int)).bind fun y_4=>
 cond (authority)
  ((Bs y_4.2 ([3,0,1]:List Int)).bind fun y_5=>
  Ch.j1 issuer subject key id signer authority y y_2 y_3 y_4 y_5.2 y_5.1)
  (Ch.j1 issuer subject key id signer authority y y_2 y_3 y_4 y_4.2 0)
def Fv.l1 (name:ByteArray) (key:Am) (id:Int) (y:Int×Ac) (signer_1:Int) (issuer_1:ByteArray) (i_1:Int) (d_1:Ac) (above_1:List Af):Option (Lp (Int×ByteArray×Int×Ac×List Af) ((List Af)×Ac)):=
 cond (decide (i_1 < y.1))
  ((B8 ([(⟨#[99,97]⟩:ByteArray),(⟨#[99,98]⟩:ByteArray),(⟨#[99,99]⟩:ByteArray)]:List ByteArray) i_1).bind fun e=>
  (Ch d_1 issuer_1 e (Am.mk 5 2048) (W (11 + i_1)) signer_1 true).bind fun y_3=>
  (Hh 2280 ([y_3.1]:List Af) above_1).bind fun l=>
  some (.next (W (11 + i_1),e,W (i_1 + 1),y_3.2,l)))
  (up (
   (Ch d_1 issuer_1 name key id signer_1 false).bind fun y_4=>
   (Hh 2280 ([y_4.1]:List Af) above_1).bind fun l_2=>
   some (l_2,y_4.2)))
def Fv (d:Ac) (name:ByteArray) (key:Am) (id:Int):Option ((List Af)×Ac):=
 (Bs d ([1,0,2]:List Int)).bind fun y=>
 (Bv y.2 2).bind fun y_2=>
 Cl (fun q'=>Fv.l1 name key id y q'.1 q'.2.1 q'.2.2.1 q'.2.2.2.1 q'.2.2.2.2) (W (1 + y_2.1),(⟨#[114,111,111,116]⟩:ByteArray),0,y_2.2,([]:List Af))
def Bu.j4 (i_2:Int) (l_2:List A9) (key_3:Int) (key_3_2:Int) (y_13:Int×Ac) (d_4:List Int) (d_4_2:Int) (x_4:List Af):Option (Lp (Int×List Int×Int×List A9) (Av×Ac)):=
 (Hh 192 l_2 ([(A9.mk (Am.mk key_3 key_3_2) (W (100 + y_13.1)) x_4)]:List A9)).bind fun l=>
 some (.next (W (i_2 - 1),d_4,d_4_2,l))
def Bu.j3 (name:ByteArray) (i_2:Int) (l_2:List A9) (d_3:List Int) (d_3_2:Int) (key_3:Int) (key_3_2:Int):Option (Lp (Int×List Int×Int×List A9) (Av×Ac)):=
 (Bv (Ac.mk d_3 d_3_2) 20).bind fun y_13=>
 (Fb y_13.2 9).bind fun y_14=>
 cond (!y_14.1)
  ((Fv y_14.2 name (Am.mk key_3 key_3_2) (W (100 + y_13.1))).bind fun y_15=>
  Bu.j4 i_2 l_2 key_3 key_3_2 y_13 y_15.2.L y_15.2.At y_15.1)
  (Bu.j4 i_2 l_2 key_3 key_3_2 y_13 y_14.2.L y_14.2.At ([]:List Af))
def Bu.l2 (name:ByteArray) (y_2:(List Int)×Ac) (y_3:Bool×Ac) (y_4:Bool×Ac) (e_1:Int) (e_1_2:Int) (i_2:Int) (d_2:List Int) (d_2_2:Int) (l_2:List A9):Option (Lp (Int×List Int×Int×List A9) (Av×Ac)):=
 cond (decide (0 < i_2))
  ((Mu (Ac.mk d_2 d_2_2)).bind fun y_9=>
  (Bv y_9.2 3).bind fun y_10=>
  cond (decide (0 < y_10.1))
   ((Bs y_10.2 ([5,7]:List Int)).bind fun y_11=>
   (Cn y_11.2 y_11.1).bind fun y_12=>
   Bu.j3 name i_2 l_2 y_12.2.L y_12.2.At y_11.1 y_12.1)
   (Bu.j3 name i_2 l_2 y_10.2.L y_10.2.At y_9.1.Alg y_9.1.Bits))
  (up (
   (Bv (Ac.mk d_2 d_2_2) 5).bind fun y_16=>
   (B8 ([([1,2]:List Int),([1,2]:List Int),([1]:List Int),([2,11]:List Int),([]:(List Int))]:List (List Int)) y_16.1).bind fun e=>
   (Bv y_16.2 3).bind fun y_17=>
   (B8 ([([1,2,3,4]:List Int),([2,3,4]:List Int),([3,4]:List Int)]:List (List Int)) y_17.1).bind fun e_2=>
   some ((Av.mk name e_1 e_1_2 y_2.1 y_3.1 l_2 e e_2 y_4.1),y_17.2)))
def Bu.j1 (name:ByteArray) (y_2:(List Int)×Ac) (y_3:Bool×Ac) (y_4:Bool×Ac) (d_1:List Int) (d_1_2:Int) (e_1:Int) (e_1_2:Int):Option (Av×Ac):=
 (Bs (Ac.mk d_1 d_1_2) ([1,2,1,3,0]:List Int)).bind fun y_8=>
 Cl (fun q'=>Bu.l2 name y_2 y_3 y_4 e_1 e_1_2 q'.1 q'.2.1 q'.2.2.1 q'.2.2.2) (y_8.1,y_8.2.L,y_8.2.At,([]:List A9))
def Bu (d:Ac) (name:ByteArray):Option (Av×Ac):=
 (Bs d ([1,1,2,3]:List Int)).bind fun y=>
 (Dx y.2).bind fun y_2=>
 (Fb y_2.2 2).bind fun y_3=>
 (Fb y_3.2 2).bind fun y_4=>
 (Bv y_4.2 (W (5 - y.1))).bind fun y_5=>
 (Bv y_5.2 3).bind fun y_6=>
 cond (decide (0 < y_6.1))
  ((Bs y_6.2 ([3,4,2]:List Int)).bind fun y_7=>
  Bu.j1 name y_2 y_3 y_4 y_7.2.L y_7.2.At 1 y_7.1)
  (Bu.j1 name y_2 y_3 y_4 y_6.2.L y_6.2.At y.1 (W (y.1 + y_5.1)))
def Gr.j1 (alias:ByteArray) (id:Int) (y:Am×Ac) (y_2:Bool×Ac) (b_1:Ac) (e_1:List Af):Option (Ax×Ac):=
 some ((Ax.mk alias y.1 id y_2.1 e_1),b_1)
def Gr (d:Ac) (alias:ByteArray) (name:ByteArray) (id:Int):Option (Ax×Ac):=
 (Mu d).bind fun y=>
 (Fb y.2 2).bind fun y_2=>
 (Fb y_2.2 5).bind fun y_3=>
 cond (!y_3.1)
  ((Fv y_3.2 name y.1 id).bind fun y_4=>
  Gr.j1 alias id y y_2 y_4.2 y_4.1)
  (Gr.j1 alias id y y_2 y_3.2 ([]:List Af))
def Gn.l1 (name:ByteArray) (i_1:Int) (d_1:Ac) (l_1:List Ax):Option (Lp (Int×Ac×List Ax) ((List Ax)×Ac)):=
 cond (decide (0 < i_1))
  ((B8 ([(⟨#[107,49]⟩:ByteArray),(⟨#[107,50]⟩:ByteArray),(⟨#[107,51]⟩:ByteArray),(⟨#[107,52]⟩:ByteArray)]:List ByteArray) (l_1.length:Int)).bind fun e=>
  (Bv d_1 3).bind fun y_2=>
  (Gr y_2.2 e name (W ((W (100 + (l_1.length:Int))) + (W (y_2.1 * 10))))).bind fun y_3=>
  (Hh 432 l_1 ([y_3.1]:List Ax)).bind fun l=>
  some (.next (W (i_1 - 1),y_3.2,l)))
  (up (
   some (l_1,d_1)))
def Gn (d:Ac) (name:ByteArray):Option ((List Ax)×Ac):=
 (Bv d 4).bind fun y=>
 Cl (fun q'=>Gn.l1 name q'.1 q'.2.1 q'.2.2) (W (1 + y.1),y.2,([]:List Ax))
def Oy (d:Ac):Option (Am×Ac):=
 (Bv d 22).bind fun y=>
 (Cn y.2 (W (1 + y.1))).bind fun y_2=>
 some ((Am.mk (W (1 + y.1)) y_2.1),y_2.2)
def E7.j1 (e:Av) (b_1:List Int) (b_1_2:Int) (e_1:ByteArray) (e_1_2:Int) (e_1_3:Int) (e_1_4:List Int) (e_1_5:List A9) (e_1_6:List Int) (e_1_7:List Int):Option (Av×Ac):=
 some ((Av.mk e_1 e_1_2 e_1_3 e_1_4 e.OwnOrder e_1_5 e_1_6 e_1_7 e.Fallback),(Ac.mk b_1 b_1_2))
def E7 (d:Ac) (e:Av):Option (Av×Ac):=
 (Bv d 8).bind fun y=>
 cond (decide (y.1=0))
  ((Ff y.2 ([(⟨#[]⟩:ByteArray),(⟨#[97,32,98]⟩:ByteArray),(⟨#[120]⟩:ByteArray)]:List ByteArray)).bind fun y_2=>
  E7.j1 e y_2.2.L y_2.2.At y_2.1 e.Least e.Most e.Suites e.Identities e.Anchors e.Hashes)
  (cond (decide (y.1=1))
   ((Bs y.2 ([0,5,W (e.Most + 1)]:List Int)).bind fun y_3=>
   E7.j1 e y_3.2.L y_3.2.At e.Name y_3.1 e.Most e.Suites e.Identities e.Anchors e.Hashes)
   (cond (decide (y.1=2))
    ((Bs y.2 ([5,0]:List Int)).bind fun y_4=>
    E7.j1 e y_4.2.L y_4.2.At e.Name e.Least y_4.1 e.Suites e.Identities e.Anchors e.Hashes)
    (cond (decide (y.1=3))
     ((Hh 8 ([]:List Int) e.Suites).bind fun l=>
     (Bs y.2 ([17,0,3,3]:List Int)).bind fun y_5=>
     (Hh 8 l ([y_5.1]:List Int)).bind fun l_2=>
     E7.j1 e y_5.2.L y_5.2.At e.Name e.Least e.Most l_2 e.Identities e.Anchors e.Hashes)
     (cond (decide (y.1=4))
      (E7.j1 e y.2.L y.2.At e.Name e.Least e.Most e.Suites e.Identities ([2,1]:List Int) e.Hashes)
      (cond (decide (y.1=5))
       ((Bs y.2 ([5,3,0]:List Int)).bind fun y_6=>
       E7.j1 e y_6.2.L y_6.2.At e.Name e.Least e.Most e.Suites e.Identities e.Anchors ([y_6.1]:List Int))
       (cond (decide (y.1=6))
        ((Hh 192 ([]:List A9) e.Identities).bind fun l_3=>
        (Hh 192 l_3 ([(A9.mk (Am.mk 1 0) 0 ([]:(List Af)))]:List A9)).bind fun l_4=>
        E7.j1 e y.2.L y.2.At e.Name e.Least e.Most e.Suites l_4 e.Anchors e.Hashes)
        ((Hh 192 ([]:List A9) e.Identities).bind fun l_5=>
        (Fv y.2 (⟨#[97]⟩:ByteArray) (Am.mk 5 2048) 8).bind fun y_7=>
        (Hh 192 l_5 ([(A9.mk (Am.mk 5 2048) 7 y_7.1)]:List A9)).bind fun l_6=>
        E7.j1 e y_7.2.L y_7.2.At e.Name e.Least e.Most e.Suites l_6 e.Anchors e.Hashes)))))))
def Gi (s:ByteArray) (c:UInt8):Option (Int):=
 some (gI s c)
def Ed (s:ByteArray) (c:UInt8):Option (Int):=
 (Gi s c).bind fun y=>
 some y
def I2 (c:UInt8) (others:ByteArray):Option (Bool):=
 cond (decide (97<=(c.toNat:Int)))
  (cond (decide ((c.toNat:Int)<=122))
   (some true)
   (cond (decide (65<=(c.toNat:Int)))
    (cond (decide ((c.toNat:Int)<=90))
     (some true)
     (cond (decide (48<=(c.toNat:Int)))
      (cond (decide ((c.toNat:Int)<=57))
       (some true)
       ((Ed others c).bind fun y=>
       some (decide (0<=y))))
      ((Ed others c).bind fun y_2=>
      some (decide (0<=y_2)))))
    (cond (decide (48<=(c.toNat:Int)))
     (cond (decide ((c.toNat:Int)<=57))
      (some true)
      ((Ed others c).bind fun y_3=>
      some (decide (0<=y_3))))
     ((Ed others c).bind fun y_4=>
     some (decide (0<=y_4))))))
  (cond (decide (65<=(c.toNat:Int)))
   (cond (decide ((c.toNat:Int)<=90))
    (some true)
    (cond (decide (48<=(c.toNat:Int)))
     (cond (decide ((c.toNat:Int)<=57))
      (some true)
      ((Ed others c).bind fun y_5=>
      some (decide (0<=y_5))))
     ((Ed others c).bind fun y_6=>
     some (decide (0<=y_6)))))
   (cond (decide (48<=(c.toNat:Int)))
    (cond (decide ((c.toNat:Int)<=57))
     (some true)
     ((Ed others c).bind fun y_7=>
     some (decide (0<=y_7))))
    ((Ed others c).bind fun y_8=>
    some (decide (0<=y_8)))))
def El.l1 (s:ByteArray) (x8_1:Int):Option (Lp (Int) (Bool)):=
 cond (decide (x8_1 < ((Hg s).length:Int)))
  ((B8 (Hg s) x8_1).bind fun e=>
  (I2 e (⟨#[45,95,46]⟩:ByteArray)).bind fun y=>
  cond (!y)
   (up (some false))
   (some (.next (W (x8_1 + 1)))))
  (up (
   cond (decide (1<=(s.size:Int)))
    (some (decide ((s.size:Int)<=32)))
    (some false)))
def El (s:ByteArray):Option (Bool):=
 Cl (fun q'=>El.l1 s q') 0
def Cy (alg:Int) (bits:Int):Option (Am):=
 some (Am.mk alg bits)
def Di.l1 (y:Am) (y_2:Am) (y_3:Am) (y_4:Am) (y_5:Am) (y_6:Am) (y_7:Am) (y_8:Am) (y_9:Am) (y_10:Am) (y_11:Am) (y_12:Am) (y_13:Am) (y_14:Am) (y_15:Am) (y_16:Am) (y_17:Am) (y_18:Am) (y_19:Am) (y_20:Am) (y_21:Am) (y_22:Am) (x114_1:Int) (l_1:List A4):Option (Lp (Int×List A4) ((List A4))):=
 cond (decide (x114_1 < (([(A4.mk 0 (⟨#[114,115,97,45,114,99,52,45,109,100,53]⟩:ByteArray) y y_2 y_14 y_10 1 2),(A4.mk 0 (⟨#[114,115,97,45,114,99,52,45,115,104,97]⟩:ByteArray) y y_2 y_15 y_11 1 3),(A4.mk 0 (⟨#[114,115,97,45,100,101,115,51,45,115,104,97]⟩:ByteArray) y y_2 y_5 y_11 1 3),(A4.mk 0 (⟨#[100,104,101,45,100,115,97,45,100,101,115,51,45,115,104,97]⟩:ByteArray) y_16 y_3 y_5 y_11 1 3),(A4.mk 0 (⟨#[100,104,101,45,114,115,97,45,100,101,115,51,45,115,104,97]⟩:ByteArray) y_17 y_2 y_5 y_11 1 3),(A4.mk 0 (⟨#[114,115,97,45,97,101,115,49,50,56,45,115,104,97]⟩:ByteArray) y y_2 y_6 y_11 1 3),(A4.mk 0 (⟨#[100,104,101,45,114,115,97,45,97,101,115,49,50,56,45,115,104,97]⟩:ByteArray) y_18 y_2 y_6 y_11 1 3),(A4.mk 0 (⟨#[101,99,100,104,101,45,114,115,97,45,97,101,115,49,50,56,45,115,104,97]⟩:ByteArray) y_13 y_2 y_6 y_11 1 3),(A4.mk 0 (⟨#[101,99,100,104,101,45,101,99,100,115,97,45,97,101,115,50,53,54,45,115,104,97,50,53,54]⟩:ByteArray) y_13 y_4 y_19 y_20 3 3),(A4.mk 0 (⟨#[101,99,100,104,101,45,114,115,97,45,97,101,115,49,50,56,45,103,99,109]⟩:ByteArray) y_13 y_2 y_7 y_12 3 3),(A4.mk 0 (⟨#[101,99,100,104,101,45,101,99,100,115,97,45,97,101,115,50,53,54,45,103,99,109]⟩:ByteArray) y_21 y_4 y_8 y_12 3 3),(A4.mk 0 (⟨#[101,99,100,104,101,45,114,115,97,45,99,104,97,99,104,97]⟩:ByteArray) y_13 y_2 y_9 y_12 3 3),(A4.mk 0 (⟨#[114,115,97,45,97,101,115,50,53,54,45,103,99,109]⟩:ByteArray) y y_2 y_8 y_12 3 3),(A4.mk 0 (⟨#[97,101,115,49,50,56,45,103,99,109]⟩:ByteArray) y_13 (Am.mk 0 0) y_7 y_12 4 4),(A4.mk 0 (⟨#[99,104,97,99,104,97]⟩:ByteArray) y_13 (Am.mk 0 0) y_9 y_12 4 4),(A4.mk 0 (⟨#[109,108,107,101,109,45,97,101,115,50,53,54,45,103,99,109]⟩:ByteArray) y_22 (Am.mk 0 0) y_8 y_12 4 4)]:List A4).length:Int)))
  ((B8 l_1 x114_1).bind fun e=>
  some (.next (W (x114_1 + 1),Db l_1 ((x114_1).toNat) (A4.mk (W (x114_1 + 1)) e.Name e.Exchange e.Sign e.Cipher e.Mac e.Least e.Most))))
  (up (
   some l_1))
def Di:Option ((List A4)):=
 (Cy 10 0).bind fun y=>
 (Cy 5 0).bind fun y_2=>
 (Cy 6 0).bind fun y_3=>
 (Cy 7 0).bind fun y_4=>
 (Cy 15 168).bind fun y_5=>
 (Cy 16 128).bind fun y_6=>
 (Cy 17 128).bind fun y_7=>
 (Cy 17 256).bind fun y_8=>
 (Cy 18 0).bind fun y_9=>
 (Cy 19 0).bind fun y_10=>
 (Cy 20 0).bind fun y_11=>
 (Cy 22 0).bind fun y_12=>
 (Cy 12 256).bind fun y_13=>
 (Cy 14 128).bind fun y_14=>
 (Cy 14 128).bind fun y_15=>
 (Cy 11 1024).bind fun y_16=>
 (Cy 11 1024).bind fun y_17=>
 (Cy 11 2048).bind fun y_18=>
 (Cy 16 256).bind fun y_19=>
 (Cy 21 0).bind fun y_20=>
 (Cy 12 384).bind fun y_21=>
 (Cy 13 768).bind fun y_22=>
 Cl (fun q'=>Di.l1 y y_2 y_3 y_4 y_5 y_6 y_7 y_8 y_9 y_10 y_11 y_12 y_13 y_14 y_15 y_16 y_17 y_18 y_19 y_20 y_21 y_22 q'.1 q'.2) (0,([(A4.mk 0 (⟨#[114,115,97,45,114,99,52,45,109,100,53]⟩:ByteArray) y y_2 y_14 y_10 1 2),(A4.mk 0 (⟨#[114,115,97,45,114,99,52,45,115,104,97]⟩:ByteArray) y y_2 y_15 y_11 1 3),(A4.mk 0 (⟨#[114,115,97,45,100,101,115,51,45,115,104,97]⟩:ByteArray) y y_2 y_5 y_11 1 3),(A4.mk 0 (⟨#[100,104,101,45,100,115,97,45,100,101,115,51,45,115,104,97]⟩:ByteArray) y_16 y_3 y_5 y_11 1 3),(A4.mk 0 (⟨#[100,104,101,45,114,115,97,45,100,101,115,51,45,115,104,97]⟩:ByteArray) y_17 y_2 y_5 y_11 1 3),(A4.mk 0 (⟨#[114,115,97,45,97,101,115,49,50,56,45,115,104,97]⟩:ByteArray) y y_2 y_6 y_11 1 3),(A4.mk 0 (⟨#[100,104,101,45,114,115,97,45,97,101,115,49,50,56,45,115,104,97]⟩:ByteArray) y_18 y_2 y_6 y_11 1 3),(A4.mk 0 (⟨#[101,99,100,104,101,45,114,115,97,45,97,101,115,49,50,56,45,115,104,97]⟩:ByteArray) y_13 y_2 y_6 y_11 1 3),(A4.mk 0 (⟨#[101,99,100,104,101,45,101,99,100,115,97,45,97,101,115,50,53,54,45,115,104,97,50,53,54]⟩:ByteArray) y_13 y_4 y_19 y_20 3 3),(A4.mk 0 (⟨#[101,99,100,104,101,45,114,115,97,45,97,101,115,49,50,56,45,103,99,109]⟩:ByteArray) y_13 y_2 y_7 y_12 3 3),(A4.mk 0 (⟨#[101,99,100,104,101,45,101,99,100,115,97,45,97,101,115,50,53,54,45,103,99,109]⟩:ByteArray) y_21 y_4 y_8 y_12 3 3),(A4.mk 0 (⟨#[101,99,100,104,101,45,114,115,97,45,99,104,97,99,104,97]⟩:ByteArray) y_13 y_2 y_9 y_12 3 3),(A4.mk 0 (⟨#[114,115,97,45,97,101,115,50,53,54,45,103,99,109]⟩:ByteArray) y y_2 y_8 y_12 3 3),(A4.mk 0 (⟨#[97,101,115,49,50,56,45,103,99,109]⟩:ByteArray) y_13 (Am.mk 0 0) y_7 y_12 4 4),(A4.mk 0 (⟨#[99,104,97,99,104,97]⟩:ByteArray) y_13 (Am.mk 0 0) y_9 y_12 4 4),(A4.mk 0 (⟨#[109,108,107,101,109,45,97,101,115,50,53,54,45,103,99,109]⟩:ByteArray) y_22 (Am.mk 0 0) y_8 y_12 4 4)]:List A4))
def Df.j1 (code:Int) (y:(List A4)) (x13_1:Bool):Option (A4×Int):=
 cond (x13_1)
  (some ((A4.mk 0 (⟨#[]⟩:ByteArray) (Am.mk 0 0) (Am.mk 0 0) (Am.mk 0 0) (Am.mk 0 0) 0 0),8))
  ((B8 y (W (code - 1))).bind fun e=>
  some (e,0))
def Df (code:Int):Option (A4×Int):=
 (Di).bind fun y=>
 cond (decide (code < 1))
  (Df.j1 code y true)
  (Df.j1 code y (decide ((y.length:Int) < code)))
def C2.j2 (x9_1:Int) (x27_2:Bool):Option (Lp (Int) (Bool)):=
 cond (x27_2)
  (up (some false))
  (some (.next (W (x9_1 + 1))))
def C2.l1 (l:(List Int)) (x9_1:Int):Option (Lp (Int) (Bool)):=
 cond (decide (x9_1 < (l.length:Int)))
  ((B8 l x9_1).bind fun e=>
  (Df e).bind fun y=>
  cond (!decide (y.2=0))
   (C2.j2 x9_1 true)
   ((bZ l 0 x9_1).bind fun l_2=>
   (En l_2 e).bind fun y_2=>
   C2.j2 x9_1 y_2))
  (up (
   some true))
def C2 (l:(List Int)):Option (Bool):=
 Cl (fun q'=>C2.l1 l q') 0
def Cq.j2 (x6_1:Int) (x22_2:Bool):Option (Lp (Int) (Bool)):=
 cond (x22_2)
  (up (some false))
  (some (.next (W (x6_1 + 1))))
def Cq.l1 (l:(List Int)) (x6_1:Int):Option (Lp (Int) (Bool)):=
 cond (decide (x6_1 < (l.length:Int)))
  (cond (decide (0 < x6_1))
   ((B8 l (W (x6_1 - 1))).bind fun e=>
   (B8 l x6_1).bind fun e_2=>
   Cq.j2 x6_1 (decide (e_2<=e)))
   (Cq.j2 x6_1 false))
  (up (
   some true))
def Cq (l:(List Int)):Option (Bool):=
 Cl (fun q'=>Cq.l1 l q') 0
def Jj:Option (Unit):=
 some ()
def Gj (n:Int):Option (Bool):=
 (E4 n).bind fun y=>
 some (!y)
def Br.l1 (s:(List Int)) (f:Int->Option (Bool)) (x8_1:Int):Option (Lp (Int) (Int)):=
 cond (decide (x8_1 < (s.length:Int)))
  ((B8 s x8_1).bind fun e=>
  (f e).bind fun y=>
  cond (y)
   (up (some x8_1))
   (some (.next (W (x8_1 + 1)))))
  (up (
   some (-1)))
def Br (s:(List Int)) (f:Int->Option (Bool)):Option (Int):=
 Cl (fun q'=>Br.l1 s f q') 0
def Ec (s:(List Int)) (f:Int->Option (Bool)):Option (Bool):=
 (Br s f).bind fun y=>
 some (decide (0<=y))
def Jk:Option (Unit):=
 some ()
def J6 (alg:Int):Option (Bool):=
 (Hc alg).bind fun y=>
 some (decide (y=1))
def Gy (n:Int):Option (Bool):=
 (J6 n).bind fun y=>
 some (!y)
def Bm.j4 (x82_4:Bool):Option (Int):=
 cond (x82_4)
  (some 19)
  (some 0)
def Bm.l3 (e:Av) (x58_3:Int):Option (Lp (Int) (Int)):=
 cond (decide (x58_3 < (e.Identities.length:Int)))
  ((B8 e.Identities x58_3).bind fun e_2=>
  (Bx e_2.Key e_2.KeyId e_2.Chain).bind fun y_5=>
  cond (!y_5)
   (up (some 19))
   (some (.next (W (x58_3 + 1)))))
  (up (
   (Jj).bind fun y_6=>
   (Ec e.Anchors (fun x0=>Gj x0)).bind fun y_7=>
   cond (y_7)
    (Bm.j4 true)
    ((Jk).bind fun y_8=>
    (Ec e.Hashes (fun x0=>Gy x0)).bind fun y_9=>
    Bm.j4 y_9)))
def Bm.j2 (e:Av) (x54_2:Bool):Option (Int):=
 cond (x54_2)
  (some 19)
  (Cl (fun q'=>Bm.l3 e q') 0)
def Bm.j1 (e:Av) (x32_1:Bool):Option (Int):=
 cond (x32_1)
  (some 19)
  (cond (decide (4 < (e.Identities.length:Int)))
   (Bm.j2 e true)
   (cond (decide (16 < (e.Anchors.length:Int)))
    (Bm.j2 e true)
    ((Cq e.Anchors).bind fun y_3=>
    cond (!y_3)
     (Bm.j2 e true)
     ((Cq e.Hashes).bind fun y_4=>
     Bm.j2 e (!y_4)))))
def Bm (e:Av):Option (Int):=
 (El e.Name).bind fun y=>
 cond (!y)
  (Bm.j1 e true)
  (cond (decide (e.Least < 1))
   (Bm.j1 e true)
   (cond (decide (e.Most < e.Least))
    (Bm.j1 e true)
    (cond (decide (4 < e.Most))
     (Bm.j1 e true)
     ((C2 e.Suites).bind fun y_2=>
     Bm.j1 e (!y_2)))))
def Be.l5 (e:Av) (x79_5:Int) (p_5:Int) (p_5_2:ByteArray) (p_5_3:Int) (p_5_4:Int) (p_5_5:Int) (p_5_6:Int) (p_5_7:ByteArray) (p_5_8:Int) (p_5_9:Int) (p_5_10:Int) (p_5_11:ByteArray) (l_5:List Aa):Option (Lp (Int×Int×ByteArray×Int×Int×Int×Int×ByteArray×Int×Int×Int×ByteArray×List Aa) ((List Aa)×Int)):=
 cond (decide (x79_5 < (e.Hashes.length:Int)))
  ((B8 e.Hashes x79_5).bind fun e_5=>
  (Cw (Dv.mk (Aa.mk p_5 p_5_2 p_5_3 p_5_4 p_5_5 p_5_6 p_5_7 (Am.mk p_5_8 p_5_9) p_5_10 p_5_11) l_5) 1 (Am.mk e_5 0) 0).bind fun y_8=>
  some (.next (W (x79_5 + 1),y_8.at_.Source,y_8.at_.Host,y_8.at_.Machine,y_8.at_.Day,y_8.at_.Confidence,y_8.at_.Kind,y_8.at_.Subject,y_8.at_.Use.Alg,y_8.at_.Use.Bits,y_8.at_.Number,y_8.at_.Text,y_8.l)))
  (up (
   (Cg l_5).bind fun y_9=>
   some (y_9.1,y_9.2)))
def Be.l4 (e:Av) (x67_4:Int) (p_4:Int) (p_4_2:ByteArray) (p_4_3:Int) (p_4_4:Int) (p_4_5:Int) (p_4_6:Int) (p_4_7:ByteArray) (p_4_8:Int) (p_4_9:Int) (p_4_10:Int) (p_4_11:ByteArray) (l_4:List Aa):Option (Lp (Int×Int×ByteArray×Int×Int×Int×Int×ByteArray×Int×Int×Int×ByteArray×List Aa) ((List Aa)×Int)):=
 cond (decide (x67_4 < (e.Anchors.length:Int)))
  ((B8 e.Anchors x67_4).bind fun e_4=>
  (Cw (Dv.mk (Aa.mk p_4 p_4_2 p_4_3 p_4_4 p_4_5 p_4_6 p_4_7 (Am.mk p_4_8 p_4_9) p_4_10 p_4_11) l_4) 6 (Am.mk 0 0) e_4).bind fun y_7=>
  some (.next (W (x67_4 + 1),y_7.at_.Source,y_7.at_.Host,y_7.at_.Machine,y_7.at_.Day,y_7.at_.Confidence,y_7.at_.Kind,y_7.at_.Subject,y_7.at_.Use.Alg,y_7.at_.Use.Bits,y_7.at_.Number,y_7.at_.Text,y_7.l)))
  (up (
   Cl (fun q'=>Be.l5 e q'.1 q'.2.1 q'.2.2.1 q'.2.2.2.1 q'.2.2.2.2.1 q'.2.2.2.2.2.1 q'.2.2.2.2.2.2.1 q'.2.2.2.2.2.2.2.1 q'.2.2.2.2.2.2.2.2.1 q'.2.2.2.2.2.2.2.2.2.1 q'.2.2.2.2.2.2.2.2.2.2.1 q'.2.2.2.2.2.2.2.2.2.2.2.1 q'.2.2.2.2.2.2.2.2.2.2.2.2) (0,p_4,p_4_2,p_4_3,p_4_4,p_4_5,p_4_6,p_4_7,p_4_8,p_4_9,p_4_10,p_4_11,l_4)))
def Be.l3 (e:Av) (x53_3:Int) (p_3:Int) (p_3_2:ByteArray) (p_3_3:Int) (p_3_4:Int) (p_3_5:Int) (p_3_6:Int) (p_3_7:ByteArray) (p_3_8:Int) (p_3_9:Int) (p_3_10:Int) (p_3_11:ByteArray) (l_3:List Aa):Option (Lp (Int×Int×ByteArray×Int×Int×Int×Int×ByteArray×Int×Int×Int×ByteArray×List Aa) ((List Aa)×Int)):=
 cond (decide (x53_3 < (e.Identities.length:Int)))
  ((B8 e.Identities x53_3).bind fun e_3=>
  (Cw (Dv.mk (Aa.mk p_3 p_3_2 p_3_3 p_3_4 p_3_5 p_3_6 p_3_7 (Am.mk p_3_8 p_3_9) p_3_10 p_3_11) l_3) 3 e_3.Key e_3.KeyId).bind fun y_6=>
  some (.next (W (x53_3 + 1),y_6.at_.Source,y_6.at_.Host,y_6.at_.Machine,y_6.at_.Day,y_6.at_.Confidence,y_6.at_.Kind,y_6.at_.Subject,y_6.at_.Use.Alg,y_6.at_.Use.Bits,y_6.at_.Number,y_6.at_.Text,y_6.l)))
  (up (
   Cl (fun q'=>Be.l4 e q'.1 q'.2.1 q'.2.2.1 q'.2.2.2.1 q'.2.2.2.2.1 q'.2.2.2.2.2.1 q'.2.2.2.2.2.2.1 q'.2.2.2.2.2.2.2.1 q'.2.2.2.2.2.2.2.2.1 q'.2.2.2.2.2.2.2.2.2.1 q'.2.2.2.2.2.2.2.2.2.2.1 q'.2.2.2.2.2.2.2.2.2.2.2.1 q'.2.2.2.2.2.2.2.2.2.2.2.2) (0,p_3,p_3_2,p_3_3,p_3_4,p_3_5,p_3_6,p_3_7,p_3_8,p_3_9,p_3_10,p_3_11,l_3)))
def Be.l2 (e:Av) (x41_2:Int) (p_2:Int) (p_2_2:ByteArray) (p_2_3:Int) (p_2_4:Int) (p_2_5:Int) (p_2_6:Int) (p_2_7:ByteArray) (p_2_8:Int) (p_2_9:Int) (p_2_10:Int) (p_2_11:ByteArray) (l_2:List Aa):Option (Lp (Int×Int×ByteArray×Int×Int×Int×Int×ByteArray×Int×Int×Int×ByteArray×List Aa) ((List Aa)×Int)):=
 cond (decide (x41_2 < (e.Suites.length:Int)))
  ((B8 e.Suites x41_2).bind fun e_2=>
  (Cw (Dv.mk (Aa.mk p_2 p_2_2 p_2_3 p_2_4 p_2_5 p_2_6 p_2_7 (Am.mk p_2_8 p_2_9) p_2_10 p_2_11) l_2) 2 (Am.mk 0 0) e_2).bind fun y_5=>
  some (.next (W (x41_2 + 1),y_5.at_.Source,y_5.at_.Host,y_5.at_.Machine,y_5.at_.Day,y_5.at_.Confidence,y_5.at_.Kind,y_5.at_.Subject,y_5.at_.Use.Alg,y_5.at_.Use.Bits,y_5.at_.Number,y_5.at_.Text,y_5.l)))
  (up (
   Cl (fun q'=>Be.l3 e q'.1 q'.2.1 q'.2.2.1 q'.2.2.2.1 q'.2.2.2.2.1 q'.2.2.2.2.2.1 q'.2.2.2.2.2.2.1 q'.2.2.2.2.2.2.2.1 q'.2.2.2.2.2.2.2.2.1 q'.2.2.2.2.2.2.2.2.2.1 q'.2.2.2.2.2.2.2.2.2.2.1 q'.2.2.2.2.2.2.2.2.2.2.2.1 q'.2.2.2.2.2.2.2.2.2.2.2.2) (0,p_2,p_2_2,p_2_3,p_2_4,p_2_5,p_2_6,p_2_7,p_2_8,p_2_9,p_2_10,p_2_11,l_2)))
def Be.j1 (e:Av) (y:Dv×Int) (errno_1:Int):Option ((List Aa)×Int):=
 cond (!decide (errno_1=0))
  (some (([]:(List Aa)),errno_1))
  ((Cw y.1 5 (Am.mk 0 0) e.Least).bind fun y_3=>
  (Cw y_3 4 (Am.mk 0 0) e.Most).bind fun y_4=>
  Cl (fun q'=>Be.l2 e q'.1 q'.2.1 q'.2.2.1 q'.2.2.2.1 q'.2.2.2.2.1 q'.2.2.2.2.2.1 q'.2.2.2.2.2.2.1 q'.2.2.2.2.2.2.2.1 q'.2.2.2.2.2.2.2.2.1 q'.2.2.2.2.2.2.2.2.2.1 q'.2.2.2.2.2.2.2.2.2.2.1 q'.2.2.2.2.2.2.2.2.2.2.2.1 q'.2.2.2.2.2.2.2.2.2.2.2.2) (0,y_4.at_.Source,y_4.at_.Host,y_4.at_.Machine,y_4.at_.Day,y_4.at_.Confidence,y_4.at_.Kind,y_4.at_.Subject,y_4.at_.Use.Alg,y_4.at_.Use.Bits,y_4.at_.Number,y_4.at_.Text,y_4.l))
def Be (at':Aa) (e:Av):Option ((List Aa)×Int):=
 (Gx at').bind fun y=>
 cond (decide (y.2=0))
  ((Bm e).bind fun y_2=>
  Be.j1 e y y_2)
  (Be.j1 e y y.2)
def A1.j4 (ok_4:Bool):Option (Int):=
 cond (!ok_4)
  (some 24)
  (some 0)
def A1.j3 (f:Aa) (x115_3:Bool):Option (Int):=
 cond (x115_3)
  (cond (decide (f.Use=(Am.mk 0 0)))
   (cond (decide (1<=f.Number))
    (cond (decide (f.Number<=4))
     (A1.j4 (decide (f.Text=(⟨#[]⟩:ByteArray))))
     (A1.j4 false))
    (A1.j4 false))
   (A1.j4 false))
  (cond (decide (f.Kind=6))
   (cond (decide (f.Use=(Am.mk 0 0)))
    (cond (decide (0<=f.Number))
     (cond (decide (f.Number<=2147483648))
      (A1.j4 (decide (f.Text=(⟨#[]⟩:ByteArray))))
      (A1.j4 false))
     (A1.j4 false))
    (A1.j4 false))
   (cond (decide (f.Kind=7))
    (cond (decide (f.Use=(Am.mk 0 0)))
     (cond (decide (f.Number=0))
      ((Cj f.Text).bind fun y_5=>
      A1.j4 y_5)
      (A1.j4 false))
     (A1.j4 false))
    (A1.j4 false)))
def A1.j2 (f:Aa) (x69_2:Bool):Option (Int):=
 cond (x69_2)
  ((Ib f.Use).bind fun y_3=>
  cond (y_3)
   (cond (decide (f.Number=0))
    (A1.j4 (decide (f.Text=(⟨#[]⟩:ByteArray))))
    (A1.j4 false))
   (A1.j4 false))
  (cond (decide (f.Kind=2))
   (cond (decide (f.Use=(Am.mk 0 0)))
    (cond (decide (0<=f.Number))
     (cond (decide (f.Number<=65535))
      (A1.j4 (decide (f.Text=(⟨#[]⟩:ByteArray))))
      (A1.j4 false))
     (A1.j4 false))
    (A1.j4 false))
   (cond (decide (f.Kind=3))
    ((Fl f.Use).bind fun y_4=>
    cond (y_4)
     (cond (decide (0<=f.Number))
      (cond (decide (f.Number<=2147483648))
       (A1.j4 (decide (f.Text=(⟨#[]⟩:ByteArray))))
       (A1.j4 false))
      (A1.j4 false))
     (A1.j4 false))
    (cond (decide (f.Kind=4))
     (A1.j3 f (decide (f.Kind=4)))
     (A1.j3 f (decide (f.Kind=5))))))
def A1.j1 (f:Aa) (x56_1:Bool):Option (Int):=
 cond (x56_1)
  (some 24)
  (cond (decide (f.Kind=1))
   (A1.j2 f (decide (f.Kind=1)))
   (A1.j2 f (decide (f.Kind=8))))
def A1 (f:Aa):Option (Int):=
 cond (decide (f.Source < 1))
  (A1.j1 f true)
  (cond (decide (7 < f.Source))
   (A1.j1 f true)
   ((Cj f.Host).bind fun y=>
   cond (!y)
    (A1.j1 f true)
    (cond (decide (f.Machine < 0))
     (A1.j1 f true)
     (cond (decide (1099511627776 < f.Machine))
      (A1.j1 f true)
      (cond (decide (f.Day < 0))
       (A1.j1 f true)
       (cond (decide (40000 < f.Day))
        (A1.j1 f true)
        (cond (decide (f.Confidence < 1))
         (A1.j1 f true)
         (cond (decide (100 < f.Confidence))
          (A1.j1 f true)
          ((Cj f.Subject).bind fun y_2=>
          A1.j1 f (!y_2))))))))))
def I3 (at':Aa):Option (Aa×Int):=
 (A1 (Aa.mk at'.Source at'.Host at'.Machine at'.Day at'.Confidence 4 at'.Subject (Am.mk 0 0) 1 (⟨#[]⟩:ByteArray))).bind fun y=>
 cond (!decide (y=0))
  (some ((Aa.mk 0 (⟨#[]⟩:ByteArray) 0 0 0 0 (⟨#[]⟩:ByteArray) (Am.mk 0 0) 0 (⟨#[]⟩:ByteArray)),y))
  (some ((Aa.mk at'.Source at'.Host at'.Machine at'.Day at'.Confidence 0 at'.Subject (Am.mk 0 0) 0 (⟨#[]⟩:ByteArray)),0))
def Bk.j3 (i_2:Int) (x55_3:Bool):Option (Lp (Int) (Bool)):=
 cond (x55_3)
  (up (some false))
  (some (.next (W (i_2 + 1))))
def Bk.l2 (s:ByteArray) (i_2:Int):Option (Lp (Int) (Bool)):=
 cond (decide (i_2 < (s.size:Int)))
  ((gW s i_2).bind fun c=>
  cond (decide ((c.toNat:Int) < 97))
   (cond (decide ((c.toNat:Int) < 65))
    (cond (decide ((c.toNat:Int) < 48))
     (cond (!decide ((c.toNat:Int)=45))
      (cond (!decide ((c.toNat:Int)=95))
       (Bk.j3 i_2 (!decide ((c.toNat:Int)=46)))
       (Bk.j3 i_2 false))
      (Bk.j3 i_2 false))
     (cond (decide (57 < (c.toNat:Int)))
      (cond (!decide ((c.toNat:Int)=45))
       (cond (!decide ((c.toNat:Int)=95))
        (Bk.j3 i_2 (!decide ((c.toNat:Int)=46)))
        (Bk.j3 i_2 false))
       (Bk.j3 i_2 false))
      (Bk.j3 i_2 false)))
    (cond (decide (90 < (c.toNat:Int)))
     (cond (decide ((c.toNat:Int) < 48))
      (cond (!decide ((c.toNat:Int)=45))
       (cond (!decide ((c.toNat:Int)=95))
        (Bk.j3 i_2 (!decide ((c.toNat:Int)=46)))
        (Bk.j3 i_2 false))
       (Bk.j3 i_2 false))
      (cond (decide (57 < (c.toNat:Int)))
       (cond (!decide ((c.toNat:Int)=45))
        (cond (!decide ((c.toNat:Int)=95))
         (Bk.j3 i_2 (!decide ((c.toNat:Int)=46)))
         (Bk.j3 i_2 false))
        (Bk.j3 i_2 false))
       (Bk.j3 i_2 false)))
     (Bk.j3 i_2 false)))
   (cond (decide (122 < (c.toNat:Int)))
    (cond (decide ((c.toNat:Int) < 65))
     (cond (decide ((c.toNat:Int) < 48))
      (cond (!decide ((c.toNat:Int)=45))
       (cond (!decide ((c.toNat:Int)=95))
        (Bk.j3 i_2 (!decide ((c.toNat:Int)=46)))
        (Bk.j3 i_2 false))
       (Bk.j3 i_2 false))
      (cond (decide (57 < (c.toNat:Int)))
       (cond (!decide ((c.toNat:Int)=45))
        (cond (!decide ((c.toNat:Int)=95))
         (Bk.j3 i_2 (!decide ((c.toNat:Int)=46)))
         (Bk.j3 i_2 false))
        (Bk.j3 i_2 false))
       (Bk.j3 i_2 false)))
     (cond (decide (90 < (c.toNat:Int)))
      (cond (decide ((c.toNat:Int) < 48))
       (cond (!decide ((c.toNat:Int)=45))
        (cond (!decide ((c.toNat:Int)=95))
         (Bk.j3 i_2 (!decide ((c.toNat:Int)=46)))
         (Bk.j3 i_2 false))
        (Bk.j3 i_2 false))
       (cond (decide (57 < (c.toNat:Int)))
        (cond (!decide ((c.toNat:Int)=45))
         (cond (!decide ((c.toNat:Int)=95))
          (Bk.j3 i_2 (!decide ((c.toNat:Int)=46)))
          (Bk.j3 i_2 false))
         (Bk.j3 i_2 false))
        (Bk.j3 i_2 false)))
      (Bk.j3 i_2 false)))
    (Bk.j3 i_2 false)))
  (up (
   some true))
def Bk.j1 (s:ByteArray) (x12_1:Bool):Option (Bool):=
 cond (x12_1)
  (some false)
  (Cl (fun q'=>Bk.l2 s q') 0)
def Bk (s:ByteArray):Option (Bool):=
 cond (decide ((s.size:Int) < 1))
  (Bk.j1 s true)
  (Bk.j1 s (decide (32 < (s.size:Int))))
def C5.l2 (key:Am) (id:Int) (chain:(List Af)) (i_2:Int):Option (Lp (Int) (Bool)):=
 cond (decide (i_2 < (chain.length:Int)))
  ((B8 chain i_2).bind fun e=>
  (Ba e).bind fun y_2=>
  cond (!decide (y_2=0))
   (up (some false))
   (some (.next (W (i_2 + 1)))))
  (up (
   cond (decide ((chain.length:Int)=0))
    (some true)
    ((B8 chain 0).bind fun e_2=>
    cond (decide (e_2.Key=key))
     (some (decide (e_2.KeyId=id)))
     (some false))))
def C5.j1 (key:Am) (id:Int) (chain:(List Af)) (x23_1:Bool):Option (Bool):=
 cond (x23_1)
  (some false)
  (Cl (fun q'=>C5.l2 key id chain q') 0)
def C5 (key:Am) (id:Int) (chain:(List Af)):Option (Bool):=
 (Fl key).bind fun y=>
 cond (!y)
  (C5.j1 key id chain true)
  (cond (decide (id < 0))
   (C5.j1 key id chain true)
   (cond (decide (2147483648 < id))
    (C5.j1 key id chain true)
    (C5.j1 key id chain (decide (8 < (chain.length:Int))))))
def A8.j3 (i_2:Int) (x77_3:Bool):Option (Lp (Int) (Int)):=
 cond (x77_3)
  (up (some 19))
  (some (.next (W (i_2 + 1))))
def A8.j6 (i_5:Int) (x143_6:Bool):Option (Lp (Int) (Int)):=
 cond (x143_6)
  (up (some 19))
  (some (.next (W (i_5 + 1))))
def A8.j8 (i_7:Int) (x175_8:Bool):Option (Lp (Int) (Int)):=
 cond (x175_8)
  (up (some 19))
  (some (.next (W (i_7 + 1))))
def A8.l7 (e:Av) (i_7:Int):Option (Lp (Int) (Int)):=
 cond (decide (i_7 < (e.Hashes.length:Int)))
  ((B8 e.Hashes i_7).bind fun e_6=>
  (E8 e_6).bind fun y_5=>
  cond (!decide (y_5=1))
   (A8.j8 i_7 true)
   (cond (decide (0 < i_7))
    ((B8 e.Hashes (W (i_7 - 1))).bind fun e_7=>
    A8.j8 i_7 (decide (e_6<=e_7)))
    (A8.j8 i_7 false)))
  (up (
   some 0))
def A8.l5 (e:Av) (i_5:Int):Option (Lp (Int) (Int)):=
 cond (decide (i_5 < (e.Anchors.length:Int)))
  ((B8 e.Anchors i_5).bind fun e_4=>
  cond (decide (e_4 < 0))
   (A8.j6 i_5 true)
   (cond (decide (2147483648 < e_4))
    (A8.j6 i_5 true)
    (cond (decide (0 < i_5))
     ((B8 e.Anchors (W (i_5 - 1))).bind fun e_5=>
     A8.j6 i_5 (decide (e_4<=e_5)))
     (A8.j6 i_5 false))))
  (up (
   Cl (fun q'=>A8.l7 e q') 0))
def A8.l4 (e:Av) (i_4:Int):Option (Lp (Int) (Int)):=
 cond (decide (i_4 < (e.Identities.length:Int)))
  ((B8 e.Identities i_4).bind fun e_3=>
  (C5 e_3.Key e_3.KeyId e_3.Chain).bind fun y_4=>
  cond (!y_4)
   (up (some 19))
   (some (.next (W (i_4 + 1)))))
  (up (
   Cl (fun q'=>A8.l5 e q') 0))
def A8.l2 (e:Av) (i_2:Int):Option (Lp (Int) (Int)):=
 cond (decide (i_2 < (e.Suites.length:Int)))
  ((B8 e.Suites i_2).bind fun e_2=>
  (D8 e_2).bind fun y_2=>
  cond (!decide (y_2.2=0))
   (A8.j3 i_2 true)
   ((bZ e.Suites 0 i_2).bind fun l=>
   (Ft l e_2).bind fun y_3=>
   A8.j3 i_2 y_3))
  (up (
   Cl (fun q'=>A8.l4 e q') 0))
def A8.j1 (e:Av) (x47_1:Bool):Option (Int):=
 cond (x47_1)
  (some 19)
  (Cl (fun q'=>A8.l2 e q') 0)
def A8 (e:Av):Option (Int):=
 (Bk e.Name).bind fun y=>
 cond (!y)
  (A8.j1 e true)
  (cond (decide (e.Least < 1))
   (A8.j1 e true)
   (cond (decide (e.Most < e.Least))
    (A8.j1 e true)
    (cond (decide (4 < e.Most))
     (A8.j1 e true)
     (cond (decide (16 < (e.Suites.length:Int)))
      (A8.j1 e true)
      (cond (decide (4 < (e.Identities.length:Int)))
       (A8.j1 e true)
       (A8.j1 e (decide (16 < (e.Anchors.length:Int)))))))))
def He (f:Aa) (kind:Int) (n:Int):Option (Aa):=
 some (Aa.mk f.Source f.Host f.Machine f.Day f.Confidence kind f.Subject f.Use n f.Text)
def Js (f:Aa) (kind:Int) (u:Am) (n:Int):Option (Aa):=
 some (Aa.mk f.Source f.Host f.Machine f.Day f.Confidence kind f.Subject u n f.Text)
def Jb (a:ByteArray) (b:ByteArray):Option (Int):=
 cond (Kz (Hg a) (Hg b))
  (some (-1))
  (cond (Kz (Hg b) (Hg a))
   (some 1)
   (some 0))
def D3.l1 (a:(List Int)) (b:(List Int)) (i_1:Int):Option (Lp (Int) (Int)):=
 cond (decide (i_1 < (a.length:Int)))
  ((B8 a i_1).bind fun e=>
  (B8 b i_1).bind fun e_2=>
  cond (decide (e < e_2))
   (up (some (-1)))
   (cond (decide (e_2 < e))
    (up (some 1))
    (some (.next (W (i_1 + 1))))))
  (up (
   some 0))
def D3 (a:(List Int)) (b:(List Int)):Option (Int):=
 Cl (fun q'=>D3.l1 a b q') 0
def J9 (a:Aa) (b:Aa):Option (Int):=
 (Jb a.Host b.Host).bind fun y=>
 cond (!decide (y=0))
  (some y)
  ((D3 ([a.Machine,a.Day]:List Int) ([b.Machine,b.Day]:List Int)).bind fun y_2=>
  cond (!decide (y_2=0))
   (some y_2)
   ((Jb a.Subject b.Subject).bind fun y_3=>
   cond (!decide (y_3=0))
    (some y_3)
    ((D3 ([a.Kind,a.Use.Alg,a.Use.Bits,a.Number]:List Int) ([b.Kind,b.Use.Alg,b.Use.Bits,b.Number]:List Int)).bind fun y_4=>
    cond (!decide (y_4=0))
     (some y_4)
     ((Jb a.Text b.Text).bind fun y_5=>
     cond (!decide (y_5=0))
      (some y_5)
      ((D3 ([a.Source,a.Confidence]:List Int) ([b.Source,b.Confidence]:List Int)).bind fun y_6=>
      some y_6)))))
def Cs.j3 (l:List Aa) (f:Aa) (k_1:Int) (x33_3:Bool):Option ((List Aa)):=
 cond (x33_3)
  (some l)
  ((bZ l 0 k_1).bind fun l_2=>
  (Hh 1232 ([]:List Aa) ((l.drop ((0:Int).toNat)).take ((k_1:Int).toNat - (0:Int).toNat))).bind fun l_3=>
  (Hh 1232 l_3 ([f]:List Aa)).bind fun l_4=>
  (bZ l k_1 (l.length:Int)).bind fun l_5=>
  (Hh 1232 l_4 ((l.drop ((k_1:Int).toNat)).take (((l.length:Int):Int).toNat - (k_1:Int).toNat))).bind fun l_6=>
  some l_6)
def Cs.j2 (l:List Aa) (f:Aa) (k_1:Int) (x19_2:Bool):Option (Lp (Int) ((List Aa))):=
 cond (x19_2)
  (some (.next (W (k_1 - 1))))
  (up (
   cond (decide (0 < k_1))
    ((B8 l (W (k_1 - 1))).bind fun e_2=>
    (J9 e_2 f).bind fun y_2=>
    Cs.j3 l f k_1 (decide (y_2=0)))
    (Cs.j3 l f k_1 false)))
def Cs.l1 (l:List Aa) (f:Aa) (k_1:Int):Option (Lp (Int) ((List Aa))):=
 cond (decide (0 < k_1))
  ((B8 l (W (k_1 - 1))).bind fun e=>
  (J9 e f).bind fun y=>
  Cs.j2 l f k_1 (decide (0 < y)))
  (Cs.j2 l f k_1 false)
def Cs (l:List Aa) (f:Aa):Option ((List Aa)):=
 Cl (fun q'=>Cs.l1 l f q') (l.length:Int)
def Cr.l2 (l:(List Aa)) (i_2:Int) (out_2:List Aa):Option (Lp (Int×List Aa) ((List Aa)×Int)):=
 cond (decide (i_2 < (l.length:Int)))
  ((B8 l i_2).bind fun e_2=>
  (Cs out_2 e_2).bind fun y_2=>
  cond (decide (400 < (y_2.length:Int)))
   (up (some (([]:(List Aa)),3)))
   (some (.next (W (i_2 + 1),y_2))))
  (up (
   some (out_2,0)))
def Cr.l1 (l:(List Aa)) (i_1:Int):Option (Lp (Int) ((List Aa)×Int)):=
 cond (decide (i_1 < (l.length:Int)))
  ((B8 l i_1).bind fun e=>
  (A1 e).bind fun y=>
  cond (!decide (y=0))
   (up (some (([]:(List Aa)),y)))
   (some (.next (W (i_1 + 1)))))
  (up (
   Cl (fun q'=>Cr.l2 l q'.1 q'.2) (0,([]:List Aa))))
def Cr (l:(List Aa)):Option ((List Aa)×Int):=
 Cl (fun q'=>Cr.l1 l q') 0
def Bw.l4 (e:Av) (y:Aa×Int) (i_4:Int) (l_4_2:List Aa):Option (Lp (Int×List Aa) ((List Aa)×Int)):=
 cond (decide (i_4 < (e.Hashes.length:Int)))
  ((B8 e.Hashes i_4).bind fun e_5=>
  (Js y.1 1 (Am.mk e_5 0) 0).bind fun y_8=>
  (Hh 1232 l_4_2 ([y_8]:List Aa)).bind fun l_5=>
  some (.next (W (i_4 + 1),l_5)))
  (up (
   (Cr l_4_2).bind fun y_9=>
   some (y_9.1,y_9.2)))
def Bw.l3 (e:Av) (y:Aa×Int) (i_3:Int) (l_3_2:List Aa):Option (Lp (Int×List Aa) ((List Aa)×Int)):=
 cond (decide (i_3 < (e.Anchors.length:Int)))
  ((B8 e.Anchors i_3).bind fun e_4=>
  (He y.1 6 e_4).bind fun y_7=>
  (Hh 1232 l_3_2 ([y_7]:List Aa)).bind fun l_4=>
  some (.next (W (i_3 + 1),l_4)))
  (up (
   Cl (fun q'=>Bw.l4 e y q'.1 q'.2) (0,l_3_2)))
def Bw.l2 (e:Av) (y:Aa×Int) (i_2:Int) (l_2:List Aa):Option (Lp (Int×List Aa) ((List Aa)×Int)):=
 cond (decide (i_2 < (e.Identities.length:Int)))
  ((B8 e.Identities i_2).bind fun e_3=>
  (Js y.1 3 e_3.Key e_3.KeyId).bind fun y_6=>
  (Hh 1232 l_2 ([y_6]:List Aa)).bind fun l_3=>
  some (.next (W (i_2 + 1),l_3)))
  (up (
   Cl (fun q'=>Bw.l3 e y q'.1 q'.2) (0,l_2)))
def Bw.l1 (e:Av) (y:Aa×Int) (i_1:Int) (l_1:List Aa):Option (Lp (Int×List Aa) ((List Aa)×Int)):=
 cond (decide (i_1 < (e.Suites.length:Int)))
  ((B8 e.Suites i_1).bind fun e_2=>
  (He y.1 2 e_2).bind fun y_5=>
  (Hh 1232 l_1 ([y_5]:List Aa)).bind fun l=>
  some (.next (W (i_1 + 1),l)))
  (up (
   Cl (fun q'=>Bw.l2 e y q'.1 q'.2) (0,l_1)))
def Bw (at':Aa) (e:Av):Option ((List Aa)×Int):=
 (I3 at').bind fun y=>
 cond (!decide (y.2=0))
  (some (([]:(List Aa)),y.2))
  ((A8 e).bind fun y_2=>
  cond (!decide (y_2=0))
   (some (([]:(List Aa)),y_2))
   ((He y.1 5 e.Least).bind fun y_3=>
   (He y.1 4 e.Most).bind fun y_4=>
   Cl (fun q'=>Bw.l1 e y q'.1 q'.2) (0,([y_3,y_4]:List Aa))))
def Dr.j2 (i_1:Int) (x56_2:Bool):Option (Lp (Int) (Int)):=
 cond (x56_2)
  (up (some 16))
  (some (.next (W (i_1 + 1))))
def Dr.l1 (l:(List Ax)) (i_1:Int):Option (Lp (Int) (Int)):=
 cond (decide (i_1 < (l.length:Int)))
  ((B8 l i_1).bind fun e=>
  (Cj e.Alias).bind fun y=>
  cond (!y)
   (Dr.j2 i_1 true)
   (cond (decide (0 < i_1))
    ((B8 l (W (i_1 - 1))).bind fun e_2=>
    cond (!Kz (Hg e_2.Alias) (Hg e.Alias))
     (Dr.j2 i_1 true)
     ((C5 e.Key e.KeyId e.Chain).bind fun y_2=>
     Dr.j2 i_1 (!y_2)))
    ((C5 e.Key e.KeyId e.Chain).bind fun y_3=>
    Dr.j2 i_1 (!y_3))))
  (up (
   some 0))
def Dr (l:(List Ax)):Option (Int):=
 cond (decide (64 < (l.length:Int)))
  (some 16)
  (Cl (fun q'=>Dr.l1 l q') 0)
def Fk.l1 (s:(List Ax)) (y:Aa×Int) (i_1:Int) (l_1:List Aa):Option (Lp (Int×List Aa) ((List Aa)×Int)):=
 cond (decide (i_1 < (s.length:Int)))
  ((B8 s i_1).bind fun e=>
  (Js y.1 3 e.Key e.KeyId).bind fun y_3=>
  (Hh 1232 l_1 ([y_3]:List Aa)).bind fun l=>
  some (.next (W (i_1 + 1),l)))
  (up (
   (Cr l_1).bind fun y_4=>
   some (y_4.1,y_4.2)))
def Fk (at':Aa) (s:(List Ax)):Option ((List Aa)×Int):=
 (I3 at').bind fun y=>
 cond (!decide (y.2=0))
  (some (([]:(List Aa)),y.2))
  ((Dr s).bind fun y_2=>
  cond (!decide (y_2=0))
   (some (([]:(List Aa)),y_2))
   (Cl (fun q'=>Fk.l1 s y q'.1 q'.2) (0,([]:List Aa))))
def Dt.l1 (l:(List Am)) (x20_1:Int) (p_1:Int) (p_1_2:ByteArray) (p_1_3:Int) (p_1_4:Int) (p_1_5:Int) (p_1_6:Int) (p_1_7:ByteArray) (p_1_8:Int) (p_1_9:Int) (p_1_10:Int) (p_1_11:ByteArray) (l_1:List Aa):Option (Lp (Int×Int×ByteArray×Int×Int×Int×Int×ByteArray×Int×Int×Int×ByteArray×List Aa) ((List Aa)×Int)):=
 cond (decide (x20_1 < (l.length:Int)))
  ((B8 l x20_1).bind fun e=>
  (F7 e).bind fun y_2=>
  cond (!y_2)
   (up (some (([]:(List Aa)),7)))
   ((Cw (Dv.mk (Aa.mk p_1 p_1_2 p_1_3 p_1_4 p_1_5 p_1_6 p_1_7 (Am.mk p_1_8 p_1_9) p_1_10 p_1_11) l_1) 1 e 0).bind fun y_3=>
   some (.next (W (x20_1 + 1),y_3.at_.Source,y_3.at_.Host,y_3.at_.Machine,y_3.at_.Day,y_3.at_.Confidence,y_3.at_.Kind,y_3.at_.Subject,y_3.at_.Use.Alg,y_3.at_.Use.Bits,y_3.at_.Number,y_3.at_.Text,y_3.l))))
  (up (
   (Cg l_1).bind fun y_4=>
   some (y_4.1,y_4.2)))
def Dt (at':Aa) (l:(List Am)):Option ((List Aa)×Int):=
 (Gx at').bind fun y=>
 cond (!decide (y.2=0))
  (some (([]:(List Aa)),y.2))
  (Cl (fun q'=>Dt.l1 l q'.1 q'.2.1 q'.2.2.1 q'.2.2.2.1 q'.2.2.2.2.1 q'.2.2.2.2.2.1 q'.2.2.2.2.2.2.1 q'.2.2.2.2.2.2.2.1 q'.2.2.2.2.2.2.2.2.1 q'.2.2.2.2.2.2.2.2.2.1 q'.2.2.2.2.2.2.2.2.2.2.1 q'.2.2.2.2.2.2.2.2.2.2.2.1 q'.2.2.2.2.2.2.2.2.2.2.2.2) (0,y.1.at_.Source,y.1.at_.Host,y.1.at_.Machine,y.1.at_.Day,y.1.at_.Confidence,y.1.at_.Kind,y.1.at_.Subject,y.1.at_.Use.Alg,y.1.at_.Use.Bits,y.1.at_.Number,y.1.at_.Text,y.1.l))
def D4.l1 (u:(List Am)) (y:Aa×Int) (i_1:Int) (l_1:List Aa):Option (Lp (Int×List Aa) ((List Aa)×Int)):=
 cond (decide (i_1 < (u.length:Int)))
  ((B8 u i_1).bind fun e=>
  (Ib e).bind fun y_2=>
  cond (!y_2)
   (up (some (([]:(List Aa)),7)))
   ((Js y.1 1 e 0).bind fun y_3=>
   (Hh 1232 l_1 ([y_3]:List Aa)).bind fun l=>
   some (.next (W (i_1 + 1),l))))
  (up (
   (Cr l_1).bind fun y_4=>
   some (y_4.1,y_4.2)))
def D4 (at':Aa) (u:(List Am)):Option ((List Aa)×Int):=
 (I3 at').bind fun y=>
 cond (!decide (y.2=0))
  (some (([]:(List Aa)),y.2))
  (Cl (fun q'=>D4.l1 u y q'.1 q'.2) (0,([]:List Aa)))
def Cf.j2 (x11_1:Int) (x30_2:Bool):Option (Lp (Int) (Bool)):=
 cond (x30_2)
  (up (some false))
  (some (.next (W (x11_1 + 1))))
def Cf.l1 (l:(List Int)) (low:Int) (high:Int) (x11_1:Int):Option (Lp (Int) (Bool)):=
 cond (decide (x11_1 < (l.length:Int)))
  ((B8 l x11_1).bind fun e=>
  cond (decide (e < low))
   (Cf.j2 x11_1 true)
   (cond (decide (high < e))
    (Cf.j2 x11_1 true)
    ((bZ l 0 x11_1).bind fun l_2=>
    (En l_2 e).bind fun y=>
    Cf.j2 x11_1 y)))
  (up (
   some true))
def Cf (l:(List Int)) (low:Int) (high:Int):Option (Bool):=
 Cl (fun q'=>Cf.l1 l low high q') 0
def C3.j1 (h':Dj) (x28_1:Bool):Option (Bool):=
 cond (x28_1)
  (some false)
  ((Cf h'.Suites 0 65535).bind fun y=>
  cond (y)
   ((Cf h'.Hashes 1 255).bind fun y_2=>
   some y_2)
   (some false))
def C3 (h':Dj):Option (Bool):=
 cond (decide (h'.Most < 1))
  (C3.j1 h' true)
  (cond (decide (4 < h'.Most))
   (C3.j1 h' true)
   (cond (decide ((h'.Suites.length:Int) < 1))
    (C3.j1 h' true)
    (cond (decide (16 < (h'.Suites.length:Int)))
     (C3.j1 h' true)
     (C3.j1 h' (decide (16 < (h'.Hashes.length:Int)))))))
def Ce.l2 (h':Dj) (x46_2:Int) (b_2:List UInt8):Option (Lp (Int×List UInt8) ((List UInt8)×Int)):=
 cond (decide (x46_2 < (h'.Hashes.length:Int)))
  ((B8 h'.Hashes x46_2).bind fun e_2=>
  (Hh 1 b_2 ([(u8 e_2)]:List UInt8)).bind fun l_3=>
  some (.next (W (x46_2 + 1),l_3)))
  (up (
   some (b_2,0)))
def Ce.l1 (h':Dj) (x23_1:Int) (b_1:List UInt8):Option (Lp (Int×List UInt8) ((List UInt8)×Int)):=
 cond (decide (x23_1 < (h'.Suites.length:Int)))
  ((B8 h'.Suites x23_1).bind fun e=>
  (Qc .i64 e 8).bind fun q=>
  (Hh 1 b_1 ([(u8 q),(u8 e)]:List UInt8)).bind fun l=>
  some (.next (W (x23_1 + 1),l)))
  (up (
   (Hh 1 b_1 ([(u8 (h'.Hashes.length:Int))]:List UInt8)).bind fun l_2=>
   Cl (fun q'=>Ce.l2 h' q'.1 q'.2) (0,l_2)))
def Ce (h':Dj):Option ((List UInt8)×Int):=
 (C3 h').bind fun y=>
 cond (!y)
  (some (([]:(List UInt8)),23))
  (Cl (fun q'=>Ce.l1 h' q'.1 q'.2) (0,([(1:UInt8),(u8 h'.Most),(u8 (h'.Suites.length:Int))]:List UInt8)))
def Ga (c:C6):Option (Bool):=
 cond (decide (1<=c.Version))
  (cond (decide (c.Version<=4))
   (cond (decide (0<=c.Suite))
    (cond (decide (c.Suite<=65535))
     (cond (decide (0<=c.KeyId))
      (some (decide (c.KeyId<=2147483648)))
      (some false))
     (some false))
    (some false))
   (some false))
  (some false)
def F4 (c:C6):Option ((List UInt8)×Int):=
 (Ga c).bind fun y=>
 cond (!y)
  (some (([]:(List UInt8)),23))
  ((Qc .i64 c.Suite 8).bind fun q=>
  (Qc .i64 c.KeyId 24).bind fun q_2=>
  (Qc .i64 c.KeyId 16).bind fun q_3=>
  (Qc .i64 c.KeyId 8).bind fun q_4=>
  some (([(2:UInt8),(u8 c.Version),(u8 q),(u8 c.Suite),(u8 q_2),(u8 q_3),(u8 q_4),(u8 c.KeyId)]:List UInt8),0))
def Cm.j1 (p_1:Int) (p_1_2:ByteArray) (p_1_3:Int) (p_1_4:Int) (p_1_5:Int) (p_1_6:Int) (p_1_7:ByteArray) (p_1_8:Int) (p_1_9:Int) (p_1_10:Int) (p_1_11:ByteArray) (l_1:List Aa):Option ((List Aa)×Int):=
 (Cg l_1).bind fun y_9=>
 some (y_9.1,y_9.2)
def Cm (at':Aa) (h':Dj) (c:C6):Option ((List Aa)×Int):=
 (Gx at').bind fun y=>
 cond (!decide (y.2=0))
  (some (([]:(List Aa)),y.2))
  ((Ce h').bind fun y_2=>
  cond (!decide (y_2.2=0))
   (some (([]:(List Aa)),y_2.2))
   ((F4 c).bind fun y_3=>
   cond (!decide (y_3.2=0))
    (some (([]:(List Aa)),y_3.2))
    ((Cw y.1 2 (Am.mk 0 0) c.Suite).bind fun y_4=>
    (Cw y_4 4 (Am.mk 0 0) c.Version).bind fun y_5=>
    (Df c.Suite).bind fun y_6=>
    cond (decide (y_6.2=0))
     ((Cw y_5 1 y_6.1.Cipher 0).bind fun y_7=>
     (Cw y_7 1 y_6.1.Mac 0).bind fun y_8=>
     Cm.j1 y_8.at_.Source y_8.at_.Host y_8.at_.Machine y_8.at_.Day y_8.at_.Confidence y_8.at_.Kind y_8.at_.Subject y_8.at_.Use.Alg y_8.at_.Use.Bits y_8.at_.Number y_8.at_.Text y_8.l)
     (Cm.j1 y_5.at_.Source y_5.at_.Host y_5.at_.Machine y_5.at_.Day y_5.at_.Confidence y_5.at_.Kind y_5.at_.Subject y_5.at_.Use.Alg y_5.at_.Use.Bits y_5.at_.Number y_5.at_.Text y_5.l))))
def Cz.j2 (i_1:Int) (x37_2:Bool):Option (Lp (Int) (Bool)):=
 cond (x37_2)
  (up (some false))
  (some (.next (W (i_1 + 1))))
def Cz.l1 (l:(List Int)) (low:Int) (high:Int) (i_1:Int):Option (Lp (Int) (Bool)):=
 cond (decide (i_1 < (l.length:Int)))
  ((B8 l i_1).bind fun e=>
  cond (decide (e < low))
   (Cz.j2 i_1 true)
   (cond (decide (high < e))
    (Cz.j2 i_1 true)
    ((bZ l 0 i_1).bind fun l_2=>
    (Ft l_2 e).bind fun y=>
    Cz.j2 i_1 y)))
  (up (
   some true))
def Cz (l:(List Int)) (low:Int) (high:Int):Option (Bool):=
 Cl (fun q'=>Cz.l1 l low high q') 0
def Ld (h':Dj):Option (Bool):=
 cond (decide (1<=h'.Most))
  (cond (decide (h'.Most<=4))
   (cond (decide (1<=(h'.Suites.length:Int)))
    (cond (decide ((h'.Suites.length:Int)<=16))
     (cond (decide ((h'.Hashes.length:Int)<=16))
      ((Cz h'.Suites 0 65535).bind fun y=>
      cond (y)
       ((Cz h'.Hashes 1 255).bind fun y_2=>
       some y_2)
       (some false))
      (some false))
     (some false))
    (some false))
   (some false))
  (some false)
def L7 (c:C6):Option (Bool):=
 cond (decide (1<=c.Version))
  (cond (decide (c.Version<=4))
   (cond (decide (0<=c.Suite))
    (cond (decide (c.Suite<=65535))
     (cond (decide (0<=c.KeyId))
      (some (decide (c.KeyId<=2147483648)))
      (some false))
     (some false))
    (some false))
   (some false))
  (some false)
def By.j2 (l_2:List Aa):Option ((List Aa)×Int):=
 (Cr l_2).bind fun y_9=>
 some (y_9.1,y_9.2)
def By.j1 (c:C6) (y:Aa×Int) (x28_1:Bool):Option ((List Aa)×Int):=
 cond (x28_1)
  (some (([]:(List Aa)),23))
  ((He y.1 2 c.Suite).bind fun y_4=>
  (He y.1 4 c.Version).bind fun y_5=>
  (D8 c.Suite).bind fun y_6=>
  cond (decide (y_6.2=0))
   ((Js y.1 1 y_6.1.Cipher 0).bind fun y_7=>
   (Js y.1 1 y_6.1.Mac 0).bind fun y_8=>
   (Hh 1232 ([y_4,y_5]:List Aa) ([y_7,y_8]:List Aa)).bind fun l=>
   By.j2 l)
   (By.j2 ([y_4,y_5]:List Aa)))
def By (at':Aa) (h':Dj) (c:C6):Option ((List Aa)×Int):=
 (I3 at').bind fun y=>
 cond (!decide (y.2=0))
  (some (([]:(List Aa)),y.2))
  ((Ld h').bind fun y_2=>
  cond (!y_2)
   (By.j1 c y true)
   ((L7 c).bind fun y_3=>
   By.j1 c y (!y_3)))
def Eh.l1 (a:(List Aa)) (b:(List Aa)) (i_1:Int):Option (Lp (Int) (Bool)):=
 cond (decide (i_1 < (a.length:Int)))
  ((B8 a i_1).bind fun e=>
  (B8 b i_1).bind fun e_2=>
  cond (!decide (e=e_2))
   (up (some false))
   (some (.next (W (i_1 + 1)))))
  (up (
   some true))
def Eh (a:(List Aa)) (b:(List Aa)):Option (Bool):=
 cond (!decide ((a.length:Int)=(b.length:Int)))
  (some false)
  (Cl (fun q'=>Eh.l1 a b q') 0)
def Bh.j3 (at_1:Aa) (y_10:(List Int)×Ac) (y_12:Int×Ac) (e_3:Av) (s_3:List Ax) (u_3:List Am) (c_3:Int):Option (Bool):=
 (Be at_1 e_3).bind fun y_14=>
 (Bw at_1 e_3).bind fun y_15=>
 (Ca at_1 s_3).bind fun y_16=>
 (Fk at_1 s_3).bind fun y_17=>
 (Dt at_1 u_3).bind fun y_18=>
 (D4 at_1 u_3).bind fun y_19=>
 (Cm at_1 (Dj.mk 3 y_10.1 ([]:(List Int))) (C6.mk c_3 y_12.1 7)).bind fun y_20=>
 (By at_1 (Dj.mk 3 y_10.1 ([]:(List Int))) (C6.mk c_3 y_12.1 7)).bind fun y_21=>
 cond (decide (y_14.2=y_15.2))
  (cond (decide (y_16.2=y_17.2))
   (cond (decide (y_18.2=y_19.2))
    (cond (decide (y_20.2=y_21.2))
     ((Eh y_14.1 y_15.1).bind fun y_22=>
     cond (y_22)
      ((Eh y_16.1 y_17.1).bind fun y_23=>
      cond (y_23)
       ((Eh y_18.1 y_19.1).bind fun y_24=>
       cond (y_24)
        ((Eh y_20.1 y_21.1).bind fun y_25=>
        cond (y_25)
         ((J8).bind fun y_26=>
         some y_26)
         (some false))
        (some false))
       (some false))
      (some false))
     (some false))
    (some false))
   (some false))
  (some false)
def Bh.l2 (odds:UInt8) (at_1:Aa) (y_6:Av×Ac) (y_7:(List Ax)×Ac) (i_2:Int) (d_2:Ac) (u_2:List Am):Option (Lp (Int×Ac×List Am) (Bool)):=
 cond (decide (0 < i_2))
  ((Oy d_2).bind fun y_9=>
  (Hh 32 u_2 ([y_9.1]:List Am)).bind fun l_2=>
  some (.next (W (i_2 - 1),y_9.2,l_2)))
  (up (
   (Dx d_2).bind fun y_10=>
   (Bv y_10.2 4).bind fun y_11=>
   (Bs y_11.2 ([10,1,300,0,16]:List Int)).bind fun y_12=>
   (sD odds (7:UInt8)).bind fun q_2=>
   cond (decide ((q_2.toNat:Int)=1))
    ((E7 y_12.2 y_6.1).bind fun y_13=>
    Bh.j3 at_1 y_10 y_12 y_13.1 y_7.1 u_2 (W (1 + y_11.1)))
    (cond (decide ((q_2.toNat:Int)=2))
     ((B8 y_7.1 0).bind fun e=>
     Bh.j3 at_1 y_10 y_12 y_6.1 (Db y_7.1 ((0:Int).toNat) (Ax.mk e.Alias e.Key (-1) e.Secret e.Chain)) u_2 (W (1 + y_11.1)))
     (cond (decide ((q_2.toNat:Int)=3))
      ((Hh 32 u_2 ([(Am.mk 0 0)]:List Am)).bind fun l_3=>
      Bh.j3 at_1 y_10 y_12 y_6.1 y_7.1 l_3 (W (1 + y_11.1)))
      (cond (decide ((q_2.toNat:Int)=4))
       (Bh.j3 at_1 y_10 y_12 y_6.1 y_7.1 u_2 9)
       (Bh.j3 at_1 y_10 y_12 y_6.1 y_7.1 u_2 (W (1 + y_11.1))))))))
def Bh.j1 (odds:UInt8) (d_1:Ac) (at_1:Aa):Option (Bool):=
 (Bu d_1 (⟨#[119,101,98]⟩:ByteArray)).bind fun y_6=>
 (Gn y_6.2 (⟨#[119,101,98]⟩:ByteArray)).bind fun y_7=>
 (Bv y_7.2 5).bind fun y_8=>
 Cl (fun q'=>Bh.l2 odds at_1 y_6 y_7 q'.1 q'.2.1 q'.2.2) (y_8.1,y_8.2,([]:List Am))
def Bh (l:(List Int)) (odds:UInt8):Option (Bool):=
 (Rz l).bind fun y=>
 cond (!y)
  ((J8).bind fun y_2=>
  some y_2)
  ((Pz l).bind fun y_3=>
  (B0 y_3).bind fun y_4=>
  (sD odds (5:UInt8)).bind fun q=>
  cond (decide ((q.toNat:Int)=0))
   ((Ei y_4.2).bind fun y_5=>
   Bh.j1 odds y_5.2 y_5.1)
   (Bh.j1 odds y_4.2 y_4.1))
end
end Go.Proofs.YtchpcpaacenodaaGreat
