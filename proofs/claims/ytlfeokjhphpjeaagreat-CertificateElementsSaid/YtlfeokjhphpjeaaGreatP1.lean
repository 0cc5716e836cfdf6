import Derived.Test.YtlfeokjhphpjeaaGreatPU
set_option linter.unusedVariables false
set_option linter.unusedSimpArgs false
namespace Go.Proofs.YtlfeokjhphpjeaaGreat
noncomputable section
structure Ak where
 L:(List Int)
 At:Int
 deriving DecidableEq,Inhabited
structure A3 where
 Alg:Int
 Bits:Int
 deriving DecidableEq,Inhabited
structure Bv where
 Key:Int
 Sum:Int
 deriving DecidableEq,Inhabited
structure Ab where
 Serial:Int
 Issuer:ByteArray
 Subject:ByteArray
 Key:A3
 KeyId:Int
 Hash:A3
 From:Int
 To:Int
 Authority:Bool
 Path:Int
 Names:(List ByteArray)
 Seal:Bv
 deriving DecidableEq,Inhabited
structure Aa where
 Tag:Int
 Bytes:(List UInt8)
 Nested:Bool
 Elements:(List Aa)
structure Bg where
 name:ByteArray
 kind:Int
 way:Int
 sizes:(List Int)
 strengths:(List Int)
 deriving DecidableEq,Inhabited
structure Ai where
 l:(List Aa)
 Failed:Bool
structure Am where
 name:ByteArray
 kind:Int
 deriving DecidableEq,Inhabited
structure Ae where
 L:(List Aa)
 At:Int
 OK:Bool
def Lh (l:(List Int)):Option (Bool):=
 some (decide ((l.length:Int)<=400))
def Cl.j1 (s:(List ByteArray)) (x4_1:Bool):Option ((List ByteArray)):=
 cond (x4_1)
  (some ([]:(List ByteArray)))
  ((Gn 16 ([]:List ByteArray) s).bind fun l=>
  some l)
def Cl (s:(List ByteArray)):Option ((List ByteArray)):=
 X4 (s)
  (Cl.j1 s true)
  (Cl.j1 s false)
def Bw.j2 (x8_1:Int) (x17_2:Bool):Option (Lp (Int) (Bool)):=
 cond (x17_2)
  (up (some false))
  (some (.next (W (x8_1 + 1))))
def Bw.l1 (s:ByteArray) (x8_1:Int):Option (Lp (Int) (Bool)):=
 cond (decide (x8_1 < ((Ln s).length:Int)))
  ((Dd (Ln s) x8_1).bind fun e=>
  cond (decide ((e.toNat:Int)<=32))
   (Bw.j2 x8_1 true)
   (Bw.j2 x8_1 (decide (126 < (e.toNat:Int)))))
  (up (
   cond (decide (1<=(s.size:Int)))
    (some (decide ((s.size:Int)<=32)))
    (some false)))
def Bw (s:ByteArray):Option (Bool):=
 Dl (fun q'=>Bw.l1 s q') 0
def Be.j2 (x7_1:Int) (x27_2:Bool):Option (Lp (Int) (Bool)):=
 cond (x27_2)
  (up (some false))
  (some (.next (W (x7_1 + 1))))
def Be.l1 (l:(List ByteArray)) (x7_1:Int):Option (Lp (Int) (Bool)):=
 cond (decide (x7_1 < (l.length:Int)))
  ((Dd l x7_1).bind fun e=>
  (Bw e).bind fun y=>
  cond (!y)
   (Be.j2 x7_1 true)
   (cond (decide (0 < x7_1))
    ((Dd l (W (x7_1 - 1))).bind fun e_2=>
    Be.j2 x7_1 (!kJ (Ln e_2) (Ln e)))
    (Be.j2 x7_1 false)))
  (up (
   some (decide ((l.length:Int)<=8))))
def Be (l:(List ByteArray)):Option (Bool):=
 Dl (fun q'=>Be.l1 l q') 0
def L8:Option ((List Bg)):=
 some ([(Bg.mk (⟨#[]⟩:ByteArray) 0 0 ([]:(List Int)) ([]:(List Int))),(Bg.mk (⟨#[109,100,53]⟩:ByteArray) 1 0 ([]:(List Int)) ([18]:List Int)),(Bg.mk (⟨#[115,104,97,49]⟩:ByteArray) 1 0 ([]:(List Int)) ([60]:List Int)),(Bg.mk (⟨#[115,104,97,50,53,54]⟩:ByteArray) 1 0 ([]:(List Int)) ([128]:List Int)),(Bg.mk (⟨#[115,104,97,51,56,52]⟩:ByteArray) 1 0 ([]:(List Int)) ([192]:List Int)),(Bg.mk (⟨#[114,115,97]⟩:ByteArray) 2 1 ([]:(List Int)) ([]:(List Int))),(Bg.mk (⟨#[100,115,97]⟩:ByteArray) 2 1 ([]:(List Int)) ([]:(List Int))),(Bg.mk (⟨#[101,99,100,115,97]⟩:ByteArray) 2 2 ([]:(List Int)) ([]:(List Int))),(Bg.mk (⟨#[101,100,50,53,53,49,57]⟩:ByteArray) 2 0 ([]:(List Int)) ([128]:List Int)),(Bg.mk (⟨#[109,108,100,115,97]⟩:ByteArray) 2 3 ([44,65,87]:List Int) ([128,192,256]:List Int)),(Bg.mk (⟨#[114,115,97,107,120]⟩:ByteArray) 3 1 ([]:(List Int)) ([]:(List Int))),(Bg.mk (⟨#[100,104,101]⟩:ByteArray) 3 1 ([]:(List Int)) ([]:(List Int))),(Bg.mk (⟨#[101,99,100,104,101]⟩:ByteArray) 3 2 ([]:(List Int)) ([]:(List Int))),(Bg.mk (⟨#[109,108,107,101,109]⟩:ByteArray) 3 3 ([512,768,1024]:List Int) ([128,192,256]:List Int)),(Bg.mk (⟨#[114,99,52]⟩:ByteArray) 4 3 ([40,128]:List Int) ([40,60]:List Int)),(Bg.mk (⟨#[100,101,115,51]⟩:ByteArray) 4 3 ([112,168]:List Int) ([80,112]:List Int)),(Bg.mk (⟨#[97,101,115,99,98,99]⟩:ByteArray) 4 3 ([128,256]:List Int) ([128,256]:List Int)),(Bg.mk (⟨#[97,101,115,103,99,109]⟩:ByteArray) 4 3 ([128,256]:List Int) ([128,256]:List Int)),(Bg.mk (⟨#[99,104,97,99,104,97]⟩:ByteArray) 4 0 ([]:(List Int)) ([256]:List Int)),(Bg.mk (⟨#[104,109,97,99,109,100,53]⟩:ByteArray) 5 0 ([]:(List Int)) ([64]:List Int)),(Bg.mk (⟨#[104,109,97,99,115,104,97,49]⟩:ByteArray) 5 0 ([]:(List Int)) ([80]:List Int)),(Bg.mk (⟨#[104,109,97,99,115,104,97,50,53,54]⟩:ByteArray) 5 0 ([]:(List Int)) ([128]:List Int)),(Bg.mk (⟨#[97,101,97,100]⟩:ByteArray) 5 0 ([]:(List Int)) ([256]:List Int))]:List Bg)
def Ds.j1 (alg:Int) (x9_1:Bool):Option (Bg×Bool):=
 cond (x9_1)
  (some ((Bg.mk (⟨#[]⟩:ByteArray) 0 0 ([]:(List Int)) ([]:(List Int))),false))
  ((L8).bind fun y=>
  (Dd (xJ 23 y) alg).bind fun e=>
  some (e,true))
def Ds (alg:Int):Option (Bg×Bool):=
 cond (decide (alg < 1))
  (Ds.j1 alg true)
  (Ds.j1 alg (decide (22 < alg)))
def Cp.l1 (bits:Int) (x11_1:Int):Option (Lp (Int) (Int)):=
 cond (decide (x11_1 < 5))
  ((Dd ([([1024,56]:List Int),([2048,80]:List Int),([3072,112]:List Int),([7680,128]:List Int),([15360,192]:List Int)]:List (List Int)) x11_1).bind fun e=>
  cond (decide (bits < (e[0]!)))
   (up (some (e[1]!)))
   (some (.next (W (x11_1 + 1)))))
  (up (
   some 256))
def Cp (bits:Int):Option (Int):=
 Dl (fun q'=>Cp.l1 bits q') 0
def Bm.l1 (s:(List Int)) (v:Int) (x8_1:Int):Option (Lp (Int) (Int)):=
 cond (decide (x8_1 < (s.length:Int)))
  ((Dd s x8_1).bind fun e=>
  cond (decide (v=e))
   (up (some x8_1))
   (some (.next (W (x8_1 + 1)))))
  (up (
   some (-1)))
def Bm (s:(List Int)) (v:Int):Option (Int):=
 Dl (fun q'=>Bm.l1 s v q') 0
def Eb (s:(List Int)) (v:Int):Option (Bool):=
 (Bm s v).bind fun y=>
 some (decide (0<=y))
def As.j1 (u:A3) (x34_1:Bool):Option (Int):=
 cond (x34_1)
  ((Cp u.Bits).bind fun y_2=>
  some y_2)
  (some 0)
def As (u:A3):Option (Int):=
 (Ds u.Alg).bind fun y=>
 cond (!y.2)
  (some 0)
  (cond (decide (y.1.way=0))
   (cond (decide (u.Bits=0))
    ((Dd y.1.strengths 0).bind fun e=>
    some e)
    (some 0))
   (cond (decide (y.1.way=1))
    (cond (decide (512<=u.Bits))
     (As.j1 u (decide (u.Bits<=16384)))
     (As.j1 u false))
    (cond (decide (y.1.way=2))
     ((Eb ([160,224,256,384,521]:List Int) u.Bits).bind fun y_3=>
     cond (y_3)
      ((Rb u.Bits 2).bind fun q=>
      some q)
      (some 0))
     (cond (decide (y.1.way=3))
      ((Bm y.1.sizes u.Bits).bind fun y_4=>
      cond (decide (0<=y_4))
       ((Dd y.1.strengths y_4).bind fun e_2=>
       some e_2)
       (some 0))
      (some 0)))))
def Hv (u:A3):Option (Bool):=
 (As u).bind fun y=>
 some (decide (0 < y))
def Il (alg:Int):Option (Int):=
 (Ds alg).bind fun y=>
 some y.1.kind
def Gj (u:A3) (kind:Int):Option (Bool):=
 (Hv u).bind fun y=>
 cond (y)
  ((Il u.Alg).bind fun y_2=>
  some (decide (y_2=kind)))
  (some false)
def E9 (n:Int):Option (Bool):=
 cond (decide (0<=n))
  (some (decide (n<=2147483648)))
  (some false)
def Gy (n:Int):Option (Bool):=
 cond (decide (0<=n))
  (some (decide (n < 4294967296)))
  (some false)
def Au.j3 (c:Ab) (x73_3:Bool):Option (Bool):=
 cond (x73_3)
  (some false)
  (cond (decide (0<=c.Path))
   (cond (decide (c.Path<=8))
    (cond (c.Authority)
     (some true)
     (some (decide (c.Path=0))))
    (some false))
   (some false))
def Au.j2 (c:Ab) (x58_2:Bool):Option (Bool):=
 cond (x58_2)
  (some false)
  (cond (decide (c.From < 0))
   (Au.j3 c true)
   (cond (decide (c.To < c.From))
    (Au.j3 c true)
    (Au.j3 c (decide (40000 < c.To)))))
def Au.j1 (c:Ab) (x28_1:Bool):Option (Bool):=
 cond (x28_1)
  (some false)
  ((Gj c.Key 2).bind fun y_4=>
  cond (!y_4)
   (Au.j2 c true)
   ((E9 c.KeyId).bind fun y_5=>
   cond (!y_5)
    (Au.j2 c true)
    ((Gj c.Hash 1).bind fun y_6=>
    cond (!y_6)
     (Au.j2 c true)
     ((E9 c.Seal.Key).bind fun y_7=>
     cond (!y_7)
      (Au.j2 c true)
      ((Gy c.Seal.Sum).bind fun y_8=>
      Au.j2 c (!y_8))))))
def Au (c:Ab):Option (Bool):=
 cond (decide (c.Serial < 0))
  (Au.j1 c true)
  (cond (decide (1099511627776 < c.Serial))
   (Au.j1 c true)
   ((Bw c.Issuer).bind fun y=>
   cond (!y)
    (Au.j1 c true)
    ((Bw c.Subject).bind fun y_2=>
    cond (!y_2)
     (Au.j1 c true)
     ((Be c.Names).bind fun y_3=>
     Au.j1 c (!y_3)))))
def Jk (s:ByteArray):Option (Aa):=
 some (Aa.mk 12 (Ln s) false ([]:(List Aa)))
def Bz.j3 (b_2:List UInt8) (x43_3:Bool):Option (Lp (List UInt8) (Aa)):=
 cond (x43_3)
  ((Q7 b_2 1 (b_2.length:Int)).bind fun l_2=>
  some (.next l_2))
  (up (
   some (Aa.mk 2 b_2 false ([]:(List Aa)))))
def Bz.l2 (b_2:List UInt8):Option (Lp (List UInt8) (Aa)):=
 cond (decide (1 < (b_2.length:Int)))
  ((Dd b_2 0).bind fun e=>
  cond (decide ((e.toNat:Int)=0))
   ((Dd b_2 1).bind fun e_2=>
   cond (decide ((e_2.toNat:Int) < 128))
    (Bz.j3 b_2 true)
    (cond (decide ((e.toNat:Int)=255))
     (Bz.j3 b_2 (decide (128<=(e_2.toNat:Int))))
     (Bz.j3 b_2 false)))
   (cond (decide ((e.toNat:Int)=255))
    ((Dd b_2 1).bind fun e_3=>
    Bz.j3 b_2 (decide (128<=(e_3.toNat:Int))))
    (Bz.j3 b_2 false)))
  (Bz.j3 b_2 false)
def Bz.l1 (n:Int) (i_1:Int) (b_1:List UInt8):Option (Lp (Int×List UInt8) (Aa)):=
 cond (decide (0<=i_1))
  ((Up .u64 (IntKind.wrap .u64 n) i_1).bind fun q=>
  (Gn 1 b_1 ([(u8 q)]:List UInt8)).bind fun l=>
  some (.next (W (i_1 - 8),l)))
  (up (
   Dl (fun q'=>Bz.l2 q') b_1))
def Bz (n:Int):Option (Aa):=
 Dl (fun q'=>Bz.l1 n q'.1 q'.2) (56,([]:List UInt8))
def D7.j1 (b:(List UInt8)) (x4_1:Bool):Option ((List UInt8)):=
 cond (x4_1)
  (some ([]:(List UInt8)))
  ((Gn 1 ([]:List UInt8) b).bind fun l=>
  some l)
def D7 (b:(List UInt8)):Option ((List UInt8)):=
 X4 (b)
  (D7.j1 b true)
  (D7.j1 b false)
def Cg.l1 (rec:(List Aa)->Option ((List Aa))) (l:(List Aa)) (x8_1:Int) (out_1:List Aa):Option (Lp (Int×List Aa) ((List Aa))):=
 cond (decide (x8_1 < (l.length:Int)))
  ((Dd l x8_1).bind fun e=>
  (D7 e.Bytes).bind fun y=>
  (rec e.Elements).bind fun y_2=>
  (Gn 256 out_1 ([(Aa.mk e.Tag y e.Nested y_2)]:List Aa)).bind fun l_2=>
  some (.next (W (x8_1 + 1),l_2)))
  (up (
   some out_1))
def Cg.F (rec:(List Aa)->Option ((List Aa))) (l:(List Aa)):Option ((List Aa)):=
 Dl (fun q'=>Cg.l1 rec l q'.1 q'.2) (0,([]:List Aa))
def Cg (l:(List Aa)):Option ((List Aa)):=Pa (fun rec (x:(List Aa))=>Cg.F (fun l=>rec l) x) l
def Ib (l:(List Aa)):Option (Aa):=
 (Cg l).bind fun y=>
 some (Aa.mk 48 ([]:(List UInt8)) true y)
def Fw (u:A3):Option (Aa):=
 (Bz u.Alg).bind fun y=>
 (Bz u.Bits).bind fun y_2=>
 (Ib ([y,y_2]:List Aa)).bind fun y_3=>
 some y_3
def Np (b:Bool):Option (Aa):=
 cond (b)
  (some (Aa.mk 1 ([(255:UInt8)]:List UInt8) false ([]:(List Aa))))
  (some (Aa.mk 1 ([(0:UInt8)]:List UInt8) false ([]:(List Aa))))
def Mf (l:(List Aa)):Option (Aa):=
 (Ib l).bind fun y=>
 some y
def Ch.l1 (c:Ab) (x9_1:Int) (names_1:List Aa):Option (Lp (Int×List Aa) (Aa)):=
 cond (decide (x9_1 < (c.Names.length:Int)))
  ((Dd c.Names x9_1).bind fun e=>
  (Jk e).bind fun y=>
  (Gn 256 names_1 ([y]:List Aa)).bind fun l=>
  some (.next (W (x9_1 + 1),l)))
  (up (
   (Bz c.Serial).bind fun y_12=>
   (Jk c.Issuer).bind fun y_13=>
   (Jk c.Subject).bind fun y_14=>
   (Fw c.Key).bind fun y_15=>
   (Bz c.KeyId).bind fun y_16=>
   (Fw c.Hash).bind fun y_17=>
   (Bz c.From).bind fun y_18=>
   (Bz c.To).bind fun y_19=>
   (Np c.Authority).bind fun y_20=>
   (Bz c.Path).bind fun y_21=>
   (Mf names_1).bind fun y_22=>
   (Ib ([y_12,y_13,y_14,y_15,y_16,y_17,y_18,y_19,y_20,y_21,y_22]:List Aa)).bind fun y_23=>
   some y_23))
def Ch (c:Ab):Option (Aa):=
 Dl (fun q'=>Ch.l1 c q'.1 q'.2) (0,([]:List Aa))
def Lq (n:Int):Option (Bool):=
 cond (decide (1<=n))
  (cond (decide (n<=255))
   (some (!decide ((Wf .i64 n 31)=31)))
   (some false))
  (some false)
def Ew (rec:Aa->Option (Bool)) (x':Aa):Option (Bool):=
 (rec x').bind fun y=>
 some (!y)
def A8.l1 (s:(List Aa)) (f:Aa->Option (Bool)) (x8_1:Int):Option (Lp (Int) (Int)):=
 cond (decide (x8_1 < (s.length:Int)))
  ((Dd s x8_1).bind fun e=>
  (f e).bind fun y=>
  cond (y)
   (up (some x8_1))
   (some (.next (W (x8_1 + 1)))))
  (up (
   some (-1)))
def A8 (rec:Aa->Option (Bool)) (s:(List Aa)) (f:Aa->Option (Bool)):Option (Int):=
 Dl (fun q'=>A8.l1 s f q') 0
def Cy (rec:Aa->Option (Bool)) (s:(List Aa)) (f:Aa->Option (Bool)):Option (Bool):=
 (A8 rec s f).bind fun y=>
 some (decide (0<=y))
def B1.j1 (rec:Aa->Option (Bool)) (v:Aa) (x36_1:Bool):Option (Bool):=
 cond (x36_1)
  (some false)
  ((Cy rec v.Elements (fun x0=>Ew rec x0)).bind fun y_2=>
  some (!y_2))
def B1.F (rec:Aa->Option (Bool)) (v:Aa):Option (Bool):=
 (Lq v.Tag).bind fun y=>
 cond (!y)
  (B1.j1 rec v true)
  (cond (!decide (v.Nested=(!decide ((Wf .i64 v.Tag 32)=0))))
   (B1.j1 rec v true)
   (cond (v.Nested)
    (cond (decide (0 < (v.Bytes.length:Int)))
     (B1.j1 rec v true)
     (B1.j1 rec v false))
    (B1.j1 rec v (decide (0 < (v.Elements.length:Int))))))
def B1 (v:Aa):Option (Bool):=Pa (fun rec (x:Aa)=>B1.F (fun v=>rec v) x) v
def Cu.l1 (rec:Aa->Option (Int)) (v:Aa) (most_1:Int) (x9_1:Int):Option (Lp (Int×Int) (Int)):=
 cond (decide (x9_1 < (v.Elements.length:Int)))
  ((Dd v.Elements x9_1).bind fun e=>
  (rec e).bind fun y=>
  some (.next (max most_1 y,W (x9_1 + 1))))
  (up (
   some (W (most_1 + 1))))
def Cu.F (rec:Aa->Option (Int)) (v:Aa):Option (Int):=
 Dl (fun q'=>Cu.l1 rec v q'.1 q'.2) (0,0)
def Cu (v:Aa):Option (Int):=Pa (fun rec (x:Aa)=>Cu.F (fun v=>rec v) x) v
def Cj.l2 (n:Int) (i_2:Int) (b_2:List UInt8):Option (Lp (Int×List UInt8) ((List UInt8))):=
 cond (decide (0<=i_2))
  ((Up .i64 n (W (8 * i_2))).bind fun q_2=>
  (Gn 1 b_2 ([(u8 q_2)]:List UInt8)).bind fun l_3=>
  some (.next (W (i_2 - 1),l_3)))
  (up (
   some b_2))
def Cj.l1 (b:List UInt8) (n:Int) (count_1:Int) (m_1:Int):Option (Lp (Int×Int) ((List UInt8))):=
 cond (decide (0 < m_1))
  ((Up .i64 m_1 8).bind fun q=>
  some (.next (W (count_1 + 1),q)))
  (up (
   (Gn 1 b ([(u8 (W (128 + count_1)))]:List UInt8)).bind fun l_2=>
   Dl (fun q'=>Cj.l2 n q'.1 q'.2) (W (count_1 - 1),l_2)))
def Cj (b:List UInt8) (n:Int):Option ((List UInt8)):=
 cond (decide (n < 128))
  ((Gn 1 b ([(u8 n)]:List UInt8)).bind fun l=>
  some l)
  (Dl (fun q'=>Cj.l1 b n q'.1 q'.2) (0,n))
def Gg (rec:Aa->Option ((List UInt8))) (b:List UInt8) (v:Aa):Option ((List UInt8)):=
 (rec v).bind fun y=>
 (Gn 1 b ([(u8 v.Tag)]:List UInt8)).bind fun l=>
 (Cj l (y.length:Int)).bind fun y_2=>
 (Gn 1 y_2 y).bind fun l_2=>
 some l_2
def Bx.l1 (rec:Aa->Option ((List UInt8))) (v:Aa) (x14_1:Int) (out_1:List UInt8):Option (Lp (Int×List UInt8) ((List UInt8))):=
 cond (decide (x14_1 < (v.Elements.length:Int)))
  ((Dd v.Elements x14_1).bind fun e=>
  (Gg rec out_1 e).bind fun y=>
  some (.next (W (x14_1 + 1),y)))
  (up (
   some out_1))
def Bx.F (rec:Aa->Option ((List UInt8))) (v:Aa):Option ((List UInt8)):=
 cond (!v.Nested)
  (some v.Bytes)
  (Dl (fun q'=>Bx.l1 rec v q'.1 q'.2) (0,([]:List UInt8)))
def Bx (v:Aa):Option ((List UInt8)):=Pa (fun rec (x:Aa)=>Bx.F (fun v=>rec v) x) v
def H5 (v:Aa):Option ((List UInt8)):=
 (Bx v).bind fun y=>
 (Gn 1 ([]:List UInt8) ([(u8 v.Tag)]:List UInt8)).bind fun l=>
 (Cj l (y.length:Int)).bind fun y_2=>
 (Gn 1 y_2 y).bind fun l_2=>
 some l_2
def Is (v:Aa):Option ((List UInt8)×Int):=
 (B1 v).bind fun y=>
 cond (!y)
  (some (([]:(List UInt8)),1))
  ((Cu v).bind fun y_2=>
  cond (decide (16 < y_2))
   (some (([]:(List UInt8)),3))
   ((H5 v).bind fun y_3=>
   cond (decide (4096 < (y_3.length:Int)))
    (some (([]:(List UInt8)),3))
    (some (y_3,0))))
def Es (c:Ab):Option ((List UInt8)×Int):=
 (Au c).bind fun y=>
 cond (!y)
  (some (([]:(List UInt8)),9))
  ((Ch c).bind fun y_2=>
  (Is y_2).bind fun y_3=>
  some (y_3.1,y_3.2))
def Ci.l1 (b:(List UInt8)) (s_1:Int) (x8_1:Int):Option (Lp (Int×Int) (Int)):=
 cond (decide (x8_1 < (b.length:Int)))
  ((Dd b x8_1).bind fun e=>
  some (.next (IntKind.wrap .u32 ((Zw .u32 s_1 (IntKind.wrap .u32 (e.toNat:Int))) * 16777619),W (x8_1 + 1))))
  (up (
   some (W s_1)))
def Ci (b:(List UInt8)):Option (Int):=
 Dl (fun q'=>Ci.l1 b q'.1 q'.2) (2166136261,0)
def Cn.j1 (c:Ab) (key:Int) (y:(List ByteArray)) (y_2:(List UInt8)×Int) (x25_1:Bool):Option (Ab×Int):=
 cond (x25_1)
  (some ((Ab.mk 0 (⟨#[]⟩:ByteArray) (⟨#[]⟩:ByteArray) (A3.mk 0 0) 0 (A3.mk 0 0) 0 0 false 0 ([]:(List ByteArray)) (Bv.mk 0 0)),9))
  ((Ci y_2.1).bind fun y_4=>
  some ((Ab.mk c.Serial c.Issuer c.Subject c.Key c.KeyId c.Hash c.From c.To c.Authority c.Path y (Bv.mk key y_4)),0))
def Cn (c:Ab) (key:Int):Option (Ab×Int):=
 (Cl c.Names).bind fun y=>
 (Es (Ab.mk c.Serial c.Issuer c.Subject c.Key c.KeyId c.Hash c.From c.To c.Authority c.Path y (Bv.mk 0 0))).bind fun y_2=>
 cond (!decide (y_2.2=0))
  (Cn.j1 c key y y_2 true)
  ((E9 key).bind fun y_3=>
  Cn.j1 c key y y_2 (!y_3))
def Gt (c:Ab):Option (Aa):=
 (Ch c).bind fun y=>
 (Bz c.Seal.Key).bind fun y_2=>
 (Bz c.Seal.Sum).bind fun y_3=>
 (Ib ([y_2,y_3]:List Aa)).bind fun y_4=>
 (Ib ([y,y_4]:List Aa)).bind fun y_5=>
 some y_5
def Ft (c:Ab):Option ((List UInt8)×Int):=
 (Au c).bind fun y=>
 cond (!y)
  (some (([]:(List UInt8)),9))
  ((Gt c).bind fun y_2=>
  (Is y_2).bind fun y_3=>
  some (y_3.1,y_3.2))
def Ck.l2 (e:UInt8) (l:List UInt8) (n_2:Int) (x46_2:Int):Option (Lp (Int×Int) (Int×Int×Bool)):=
 cond (decide (x46_2 < (l.length:Int)))
  ((Dd l x46_2).bind fun e_3=>
  (bM .i64 n_2 8).bind fun q=>
  some (.next (Xq .i64 q (e_3.toNat:Int),W (x46_2 + 1))))
  (up (
   some (n_2,W (1 + (W ((e.toNat:Int) - 128))),decide (128<=n_2))))
def Ck.j1 (b:(List UInt8)) (e:UInt8) (x40_1:Bool):Option (Int×Int×Bool):=
 cond (x40_1)
  (some (0,0,false))
  ((Q7 b 1 (W (1 + (W ((e.toNat:Int) - 128))))).bind fun l=>
  Dl (fun q'=>Ck.l2 e l q'.1 q'.2) (0,0))
def Ck (b:(List UInt8)):Option (Int×Int×Bool):=
 cond (decide ((b.length:Int)=0))
  (some (0,0,false))
  ((Dd b 0).bind fun e=>
  cond (decide ((W ((e.toNat:Int) - 128)) < 0))
   (some ((e.toNat:Int),1,true))
   (cond (decide ((W ((e.toNat:Int) - 128)) < 1))
    (Ck.j1 b e true)
    (cond (decide (2 < (W ((e.toNat:Int) - 128))))
     (Ck.j1 b e true)
     (cond (decide ((b.length:Int)<=(W ((e.toNat:Int) - 128))))
      (Ck.j1 b e true)
      ((Dd b 1).bind fun e_2=>
      Ck.j1 b e (decide ((e_2.toNat:Int)=0)))))))
def E3.l1 (rec:(List UInt8)->Option (Aa×Int×Bool)) (b:(List UInt8)) (at_1:Int) (out_1:List Aa):Option (Lp (Int×List Aa) ((List Aa)×Bool)):=
 cond (decide (at_1 < (b.length:Int)))
  ((Q7 b at_1 (b.length:Int)).bind fun l=>
  (rec l).bind fun y=>
  cond (!y.2.2)
   (up (some (([]:(List Aa)),false)))
   ((Gn 256 out_1 ([y.1]:List Aa)).bind fun l_2=>
   some (.next (W (at_1 + y.2.1),l_2))))
  (up (
   some (out_1,true)))
def E3 (rec:(List UInt8)->Option (Aa×Int×Bool)) (b:(List UInt8)):Option ((List Aa)×Bool):=
 Dl (fun q'=>E3.l1 rec b q'.1 q'.2) (0,([]:List Aa))
def B2.j2 (rec:(List UInt8)->Option (Aa×Int×Bool)) (b:(List UInt8)) (y_2:Int×Int×Bool) (x40_2:Bool):Option (Aa×Int×Bool):=
 cond (x40_2)
  (some ((Aa.mk 0 ([]:(List UInt8)) false ([]:(List Aa))),0,false))
  ((Dd b 0).bind fun e_2=>
  cond (!decide ((Wf .i64 (e_2.toNat:Int) 32)=0))
   ((Q7 b (W (1 + y_2.2.1)) (W ((W (1 + y_2.2.1)) + y_2.1))).bind fun l_2=>
   (E3 rec l_2).bind fun y_3=>
   some ((Aa.mk (e_2.toNat:Int) ([]:(List UInt8)) (!decide ((Wf .i64 (e_2.toNat:Int) 32)=0)) y_3.1),W ((W (1 + y_2.2.1)) + y_2.1),y_3.2))
   ((Q7 b (W (1 + y_2.2.1)) (W ((W (1 + y_2.2.1)) + y_2.1))).bind fun l_3=>
   (D7 l_3).bind fun y_4=>
   some ((Aa.mk (e_2.toNat:Int) y_4 (!decide ((Wf .i64 (e_2.toNat:Int) 32)=0)) ([]:(List Aa))),W ((W (1 + y_2.2.1)) + y_2.1),true)))
def B2.j1 (rec:(List UInt8)->Option (Aa×Int×Bool)) (b:(List UInt8)) (x20_1:Bool):Option (Aa×Int×Bool):=
 cond (x20_1)
  (some ((Aa.mk 0 ([]:(List UInt8)) false ([]:(List Aa))),0,false))
  ((Q7 b 1 (b.length:Int)).bind fun l=>
  (Ck l).bind fun y_2=>
  cond (!y_2.2.2)
   (B2.j2 rec b y_2 true)
   (B2.j2 rec b y_2 (decide ((W ((b.length:Int) - (W (1 + y_2.2.1)))) < y_2.1))))
def B2.F (rec:(List UInt8)->Option (Aa×Int×Bool)) (b:(List UInt8)):Option (Aa×Int×Bool):=
 cond (decide ((b.length:Int)=0))
  (B2.j1 rec b true)
  ((Dd b 0).bind fun e=>
  (Lq (e.toNat:Int)).bind fun y=>
  B2.j1 rec b (!y))
def B2 (b:(List UInt8)):Option (Aa×Int×Bool):=Pa (fun rec (x:(List UInt8))=>B2.F (fun b=>rec b) x) b
def Eu.j1 (y:Aa×Int×Bool) (x24_1:Bool):Option (Aa×Int):=
 cond (x24_1)
  (some ((Aa.mk 0 ([]:(List UInt8)) false ([]:(List Aa))),1))
  ((Cu y.1).bind fun y_2=>
  cond (decide (16 < y_2))
   (some ((Aa.mk 0 ([]:(List UInt8)) false ([]:(List Aa))),3))
   (some (y.1,0)))
def Eu (b:(List UInt8)):Option (Aa×Int):=
 cond (decide (4096 < (b.length:Int)))
  (some ((Aa.mk 0 ([]:(List UInt8)) false ([]:(List Aa))),3))
  ((B2 b).bind fun y=>
  cond (!y.2.2)
   (Eu.j1 y true)
   (Eu.j1 y (!decide (y.2.1=(b.length:Int)))))
def Ee.j1 (v:Aa) (x11_1:Bool):Option ((List Aa)×Int):=
 cond (x11_1)
  (some (([]:(List Aa)),1))
  ((Cg v.Elements).bind fun y_2=>
  some (y_2,0))
def Ee (v:Aa):Option ((List Aa)×Int):=
 cond (!decide (v.Tag=48))
  (Ee.j1 v true)
  ((B1 v).bind fun y=>
  Ee.j1 v (!y))
def D1 (v:Aa) (count:Int):Option (Ai):=
 (Ee v).bind fun y=>
 cond (!decide (y.2=0))
  (some (Ai.mk y.1 true))
  (some (Ai.mk y.1 (!decide ((y.1.length:Int)=count))))
def A5.j1 (r':Ai) (x15_1:Bool):Option (Aa×Ai):=
 cond (x15_1)
  (some ((Aa.mk 0 ([]:(List UInt8)) false ([]:(List Aa))),(Ai.mk r'.l true)))
  ((Dd r'.l 0).bind fun e=>
  (Q7 r'.l 1 (r'.l.length:Int)).bind fun l=>
  some (e,(Ai.mk l r'.Failed)))
def A5 (r':Ai):Option (Aa×Ai):=
 cond (r'.Failed)
  (A5.j1 r' true)
  (A5.j1 r' (decide ((r'.l.length:Int)=0)))
def Ig (v:Aa) (tag:Int):Option (Bool):=
 cond (decide (v.Tag=tag))
  (cond (!v.Nested)
   (some (decide ((v.Elements.length:Int)=0)))
   (some false))
  (some false)
def Jb (a:(List UInt8)) (b:(List UInt8)):Option (Bool):=
 some (decide ((Xy a)=(Xy b)))
def B0.l3 (v:Aa) (n_3:Int) (x32_3:Int):Option (Lp (Int×Int) (Int×Int)):=
 cond (decide (x32_3 < (v.Bytes.length:Int)))
  ((Dd v.Bytes x32_3).bind fun e_2=>
  (bM .u64 n_3 8).bind fun q=>
  some (.next (Xq .u64 q (IntKind.wrap .u64 (e_2.toNat:Int)),W (x32_3 + 1))))
  (up (
   (Bz (W n_3)).bind fun y_2=>
   (Jb y_2.Bytes v.Bytes).bind fun y_3=>
   cond (!y_3)
    (some (0,1))
    (some (W n_3,0))))
def B0.j2 (v:Aa) (n_2:Int):Option (Int×Int):=
 Dl (fun q'=>B0.l3 v q'.1 q'.2) (n_2,0)
def B0.j1 (v:Aa) (x21_1:Bool):Option (Int×Int):=
 cond (x21_1)
  (some (0,1))
  ((Dd v.Bytes 0).bind fun e=>
  cond (decide (128<=(e.toNat:Int)))
   (B0.j2 v (rA .u64 0))
   (B0.j2 v 0))
def B0 (v:Aa):Option (Int×Int):=
 (Ig v 2).bind fun y=>
 cond (!y)
  (B0.j1 v true)
  (cond (decide ((v.Bytes.length:Int) < 1))
   (B0.j1 v true)
   (B0.j1 v (decide (8 < (v.Bytes.length:Int)))))
def Br (r':Ai):Option (Int×Ai):=
 (A5 r').bind fun y=>
 (B0 y.1).bind fun y_2=>
 cond (y.2.Failed)
  (some (y_2.1,(Ai.mk y.2.l true)))
  (some (y_2.1,(Ai.mk y.2.l (!decide (y_2.2=0)))))
def Gb (c0:Ai) (c1:Ab):Option (Ai×Ab):=
 (Br c0).bind fun y=>
 some (y.2,(Ab.mk y.1 c1.Issuer c1.Subject c1.Key c1.KeyId c1.Hash c1.From c1.To c1.Authority c1.Path c1.Names c1.Seal))
def F2 (x':UInt8):Option (Bool):=
 cond (decide ((x'.toNat:Int) < 32))
  (some true)
  (some (decide (126 < (x'.toNat:Int))))
def Bi.l1 (s:(List UInt8)) (f:UInt8->Option (Bool)) (x8_1:Int):Option (Lp (Int) (Int)):=
 cond (decide (x8_1 < (s.length:Int)))
  ((Dd s x8_1).bind fun e=>
  (f e).bind fun y=>
  cond (y)
   (up (some x8_1))
   (some (.next (W (x8_1 + 1)))))
  (up (
   some (-1)))
def Bi (s:(List UInt8)) (f:UInt8->Option (Bool)):Option (Int):=
 Dl (fun q'=>Bi.l1 s f q') 0
def El (s:(List UInt8)) (f:UInt8->Option (Bool)):Option (Bool):=
 (Bi s f).bind fun y=>
 some (decide (0<=y))
def Eo.j1 (v:Aa) (x11_1:Bool):Option (ByteArray×Int):=
 cond (x11_1)
  (some ((⟨#[]⟩:ByteArray),1))
  (some (Xy v.Bytes,0))
def Eo (v:Aa):Option (ByteArray×Int):=
 (Ig v 12).bind fun y=>
 cond (!y)
  (Eo.j1 v true)
  ((El v.Bytes (fun x0=>F2 x0)).bind fun y_2=>
  Eo.j1 v y_2)
def Er (r':Ai):Option (ByteArray×Ai):=
 (A5 r').bind fun y=>
 (Eo y.1).bind fun y_2=>
 cond (y.2.Failed)
  (some (y_2.1,(Ai.mk y.2.l true)))
  (some (y_2.1,(Ai.mk y.2.l (!decide (y_2.2=0)))))
def F6 (c0:Ai) (c1:Ab):Option (Ai×Ab):=
 (Er c0).bind fun y=>
 (Er y.2).bind fun y_2=>
 some (y_2.2,(Ab.mk c1.Serial y.1 y_2.1 c1.Key c1.KeyId c1.Hash c1.From c1.To c1.Authority c1.Path c1.Names c1.Seal))
def By.j1 (y:Aa×Ai) (y_3:Int×Ai) (y_4:Int×Ai) (b_1:Bool):Option (A3×Ai):=
 some ((A3.mk y_3.1 y_4.1),(Ai.mk y.2.l b_1))
def By (r':Ai):Option (A3×Ai):=
 (A5 r').bind fun y=>
 (D1 y.1 2).bind fun y_2=>
 (Br y_2).bind fun y_3=>
 (Br y_3.2).bind fun y_4=>
 cond (y.2.Failed)
  (By.j1 y y_3 y_4 true)
  (By.j1 y y_3 y_4 y_4.2.Failed)
def F9 (c0:Ai) (c1:Ab):Option (Ai×Ab):=
 (By c0).bind fun y=>
 (Br y.2).bind fun y_2=>
 some (y_2.2,(Ab.mk c1.Serial c1.Issuer c1.Subject y.1 y_2.1 c1.Hash c1.From c1.To c1.Authority c1.Path c1.Names c1.Seal))
def Gd (c0:Ai) (c1:Ab):Option (Ai×Ab):=
 (By c0).bind fun y=>
 some (y.2,(Ab.mk c1.Serial c1.Issuer c1.Subject c1.Key c1.KeyId y.1 c1.From c1.To c1.Authority c1.Path c1.Names c1.Seal))
def Ge (c0:Ai) (c1:Ab):Option (Ai×Ab):=
 (Br c0).bind fun y=>
 (Br y.2).bind fun y_2=>
 some (y_2.2,(Ab.mk c1.Serial c1.Issuer c1.Subject c1.Key c1.KeyId c1.Hash y.1 y_2.1 c1.Authority c1.Path c1.Names c1.Seal))
def Dt.j1 (v:Aa) (x26_1:Bool):Option (Bool×Int):=
 cond (x26_1)
  (some (false,1))
  ((Dd v.Bytes 0).bind fun e_2=>
  some (decide ((e_2.toNat:Int)=255),0))
def Dt (v:Aa):Option (Bool×Int):=
 (Ig v 1).bind fun y=>
 cond (!y)
  (Dt.j1 v true)
  (cond (!decide ((v.Bytes.length:Int)=1))
   (Dt.j1 v true)
   ((Dd v.Bytes 0).bind fun e=>
   cond (!decide ((e.toNat:Int)=0))
    (Dt.j1 v (!decide ((e.toNat:Int)=255)))
    (Dt.j1 v false)))
def Fh (r':Ai):Option (Bool×Ai):=
 (A5 r').bind fun y=>
 (Dt y.1).bind fun y_2=>
 cond (y.2.Failed)
  (some (y_2.1,(Ai.mk y.2.l true)))
  (some (y_2.1,(Ai.mk y.2.l (!decide (y_2.2=0)))))
def Gf (c0:Ai) (c1:Ab):Option (Ai×Ab):=
 (Fh c0).bind fun y=>
 (Br y.2).bind fun y_2=>
 some (y_2.2,(Ab.mk c1.Serial c1.Issuer c1.Subject c1.Key c1.KeyId c1.Hash c1.From c1.To y.1 y_2.1 c1.Names c1.Seal))
def Dz (r':Ai):Option ((List Aa)×Ai):=
 (A5 r').bind fun y=>
 (Ee y.1).bind fun y_2=>
 cond (y.2.Failed)
  (some (y_2.1,(Ai.mk y.2.l true)))
  (some (y_2.1,(Ai.mk y.2.l (!decide (y_2.2=0)))))
def A7.j2 (x11_1:Int) (out_1:List ByteArray) (y_2:ByteArray×Int) (r_2:Bool):Option (Lp (Int×Bool×List ByteArray) ((List ByteArray)×Ai)):=
 (Gn 16 out_1 ([y_2.1]:List ByteArray)).bind fun l=>
 some (.next (W (x11_1 + 1),r_2,l))
def A7.l1 (y:(List Aa)×Ai) (x11_1:Int) (r_1:Bool) (out_1:List ByteArray):Option (Lp (Int×Bool×List ByteArray) ((List ByteArray)×Ai)):=
 cond (decide (x11_1 < (y.1.length:Int)))
  ((Dd y.1 x11_1).bind fun e=>
  (Eo e).bind fun y_2=>
  cond (r_1)
   (A7.j2 x11_1 out_1 y_2 true)
   (A7.j2 x11_1 out_1 y_2 (!decide (y_2.2=0))))
  (up (
   some (out_1,(Ai.mk y.2.l r_1))))
def A7 (r':Ai):Option ((List ByteArray)×Ai):=
 (Dz r').bind fun y=>
 Dl (fun q'=>A7.l1 y q'.1 q'.2.1 q'.2.2) (0,y.2.Failed,([]:List ByteArray))
def Ga (c0:Ai) (c1:Ab):Option (Ai×Ab):=
 (A7 c0).bind fun y=>
 some (y.2,(Ab.mk c1.Serial c1.Issuer c1.Subject c1.Key c1.KeyId c1.Hash c1.From c1.To c1.Authority c1.Path y.1 c1.Seal))
def F7 (c0:Ai) (c1:Ab):Option (Ai×Ab):=
 (Br c0).bind fun y=>
 (Br y.2).bind fun y_2=>
 some (y_2.2,(Ab.mk c1.Serial c1.Issuer c1.Subject c1.Key c1.KeyId c1.Hash c1.From c1.To c1.Authority c1.Path c1.Names (Bv.mk y.1 y_2.1)))
def Cc.j1 (y_13:Ai×Ab) (x48_1:Bool):Option (Ab×Bool):=
 cond (x48_1)
  (some ((Ab.mk 0 (⟨#[]⟩:ByteArray) (⟨#[]⟩:ByteArray) (A3.mk 0 0) 0 (A3.mk 0 0) 0 0 false 0 ([]:(List ByteArray)) (Bv.mk 0 0)),false))
  (some (y_13.2,true))
def Cc (v:Aa):Option (Ab×Bool):=
 (D1 v 2).bind fun y=>
 (A5 y).bind fun y_2=>
 (D1 y_2.1 11).bind fun y_3=>
 (A5 y_2.2).bind fun y_4=>
 (D1 y_4.1 2).bind fun y_5=>
 (Gb y_3 (Ab.mk 0 (⟨#[]⟩:ByteArray) (⟨#[]⟩:ByteArray) (A3.mk 0 0) 0 (A3.mk 0 0) 0 0 false 0 ([]:(List ByteArray)) (Bv.mk 0 0))).bind fun y_6=>
 (F6 y_6.1 y_6.2).bind fun y_7=>
 (F9 y_7.1 y_7.2).bind fun y_8=>
 (Gd y_8.1 y_8.2).bind fun y_9=>
 (Ge y_9.1 y_9.2).bind fun y_10=>
 (Gf y_10.1 y_10.2).bind fun y_11=>
 (Ga y_11.1 y_11.2).bind fun y_12=>
 (F7 y_5 y_12.2).bind fun y_13=>
 cond (y_4.2.Failed)
  (Cc.j1 y_13 true)
  (cond (y_12.1.Failed)
   (Cc.j1 y_13 true)
   (Cc.j1 y_13 y_13.1.Failed))
def E2 (b:(List UInt8)):Option (Ab×Int):=
 (Eu b).bind fun y=>
 cond (!decide (y.2=0))
  (some ((Ab.mk 0 (⟨#[]⟩:ByteArray) (⟨#[]⟩:ByteArray) (A3.mk 0 0) 0 (A3.mk 0 0) 0 0 false 0 ([]:(List ByteArray)) (Bv.mk 0 0)),y.2))
  ((Cc y.1).bind fun y_2=>
  cond (!y_2.2)
   (some ((Ab.mk 0 (⟨#[]⟩:ByteArray) (⟨#[]⟩:ByteArray) (A3.mk 0 0) 0 (A3.mk 0 0) 0 0 false 0 ([]:(List ByteArray)) (Bv.mk 0 0)),1))
   ((Au y_2.1).bind fun y_3=>
   cond (!y_3)
    (some ((Ab.mk 0 (⟨#[]⟩:ByteArray) (⟨#[]⟩:ByteArray) (A3.mk 0 0) 0 (A3.mk 0 0) 0 0 false 0 ([]:(List ByteArray)) (Bv.mk 0 0)),9))
    (some (y_2.1,0))))
def E0 (c:Ab) (key:Int):Option (Bool):=
 (Es c).bind fun y=>
 cond (decide (y.2=0))
  ((Ci y.1).bind fun y_2=>
  some (decide (c.Seal=(Bv.mk key y_2))))
  (some false)
def C0.l1 (s1:(List ByteArray)) (s2:(List ByteArray)) (x13_1:Int):Option (Lp (Int) (Bool)):=
 cond (decide (x13_1 < (s1.length:Int)))
  ((Dd s1 x13_1).bind fun e=>
  (Dd s2 x13_1).bind fun e_2=>
  cond (!decide (e=e_2))
   (up (some false))
   (some (.next (W (x13_1 + 1)))))
  (up (
   some true))
def C0 (s1:(List ByteArray)) (s2:(List ByteArray)):Option (Bool):=
 cond (!decide ((s1.length:Int)=(s2.length:Int)))
  (some false)
  (Dl (fun q'=>C0.l1 s1 s2 q') 0)
def Bh.j2 (a:Ab) (b:Ab) (named_1:Bool) (keys_2:Bool):Option (Bool):=
 cond (named_1)
  (cond (keys_2)
   (cond (decide (a.From=b.From))
    (cond (decide (a.To=b.To))
     (cond (decide (a.Authority=b.Authority))
      (some (decide (a.Path=b.Path)))
      (some false))
     (some false))
    (some false))
   (some false))
  (some false)
def Bh.j1 (a:Ab) (b:Ab) (named_1:Bool):Option (Bool):=
 cond (decide (a.Key=b.Key))
  (cond (decide (a.KeyId=b.KeyId))
   (cond (decide (a.Hash=b.Hash))
    (Bh.j2 a b named_1 (decide (a.Seal=b.Seal)))
    (Bh.j2 a b named_1 false))
   (Bh.j2 a b named_1 false))
  (Bh.j2 a b named_1 false)
def Bh (a:Ab) (b:Ab):Option (Bool):=
 cond (decide (a.Serial=b.Serial))
  (cond (decide (a.Issuer=b.Issuer))
   (cond (decide (a.Subject=b.Subject))
    ((C0 a.Names b.Names).bind fun y=>
    Bh.j1 a b y)
    (Bh.j1 a b false))
   (Bh.j1 a b false))
  (Bh.j1 a b false)
def G5:Option (Bool):=
 (Cn (Ab.mk 0 (⟨#[99,97]⟩:ByteArray) (⟨#[119,101,98]⟩:ByteArray) (A3.mk 5 2048) 7 (A3.mk 3 0) 0 9 false 0 ([(⟨#[119,101,98]⟩:ByteArray)]:List ByteArray) (Bv.mk 0 0)) 3).bind fun y=>
 (Ft y.1).bind fun y_2=>
 (E2 y_2.1).bind fun y_3=>
 cond (decide (y.2=0))
  (cond (decide (y_2.2=0))
   (cond (decide (y_3.2=0))
    ((E0 y.1 3).bind fun y_4=>
    cond (y_4)
     ((E0 y.1 4).bind fun y_5=>
     cond (!y_5)
      ((Bh y_3.1 y.1).bind fun y_6=>
      cond (y_6)
       ((Ci ([(97:UInt8)]:List UInt8)).bind fun y_7=>
       some (decide (y_7=3826002220)))
       (some false))
      (some false))
     (some false))
    (some false))
   (some false))
  (some false)
def Mu (l:(List Int)):Option (Ak):=
 some (Ak.mk l 0)
def L1 (n:Int) (k:Int):Option (Int):=
 cond (decide (k < 1))
  (some 0)
  ((Rj n k).bind fun q=>
  (Rj (W (q + k)) k).bind fun q_2=>
  some q_2)
def Cs (d:Ak) (n:Int):Option (Int×Ak):=
 cond (decide ((d.L.length:Int)<=d.At))
  (some (0,d))
  ((Dd d.L (W ((W (d.At + 1)) - 1))).bind fun e=>
  (L1 e n).bind fun y=>
  some (y,(Ak.mk d.L (W (d.At + 1)))))
def En (d:Ak) (l:(List ByteArray)):Option (ByteArray×Ak):=
 (Cs d (l.length:Int)).bind fun y=>
 (Dd l y.1).bind fun e=>
 some (e,y.2)
def Bo (d:Ak) (l:(List Int)):Option (Int×Ak):=
 (Cs d (l.length:Int)).bind fun y=>
 (Dd l y.1).bind fun e=>
 some (e,y.2)
def B4.j3 (d:Ak) (x40_3:Bool):Option (Int×Ak):=
 cond (x40_3)
  ((Bo d ([128,256]:List Int)).bind fun y_7=>
  some (y_7.1,y_7.2))
  (some (0,d))
def B4.j2 (d:Ak) (a:Int) (x14_2:Bool):Option (Int×Ak):=
 cond (x14_2)
  ((Bo d ([256,160,224,384,521]:List Int)).bind fun y_2=>
  some (y_2.1,y_2.2))
  (cond (decide (a=9))
   ((Bo d ([65,44,87]:List Int)).bind fun y_3=>
   some (y_3.1,y_3.2))
   (cond (decide (a=13))
    ((Bo d ([768,512,1024]:List Int)).bind fun y_4=>
    some (y_4.1,y_4.2))
    (cond (decide (a=14))
     ((Bo d ([128,40]:List Int)).bind fun y_5=>
     some (y_5.1,y_5.2))
     (cond (decide (a=15))
      ((Bo d ([168,112]:List Int)).bind fun y_6=>
      some (y_6.1,y_6.2))
      (cond (decide (a=16))
       (B4.j3 d (decide (a=16)))
       (B4.j3 d (decide (a=17))))))))
def B4.j1 (d:Ak) (a:Int) (x6_1:Bool):Option (Int×Ak):=
 cond (x6_1)
  ((Bo d ([2048,1024,512,3072,1023,4096,16384]:List Int)).bind fun y=>
  some (y.1,y.2))
  (cond (decide (a=7))
   (B4.j2 d a (decide (a=7)))
   (B4.j2 d a (decide (a=12))))
def B4 (d:Ak) (a:Int):Option (Int×Ak):=
 cond (decide (a=5))
  (B4.j1 d a (decide (a=5)))
  (cond (decide (a=6))
   (B4.j1 d a (decide (a=6)))
   (cond (decide (a=10))
    (B4.j1 d a (decide (a=10)))
    (B4.j1 d a (decide (a=11)))))
def Mj (d:Ak):Option (A3×Ak):=
 (Bo d ([5,7,5,6,8,9]:List Int)).bind fun y=>
 (B4 y.2 y.1).bind fun y_2=>
 some ((A3.mk y.1 y_2.1),y_2.2)
def Gx (d:Ak) (n:Int):Option (Bool×Ak):=
 (Cs d n).bind fun y=>
 some (decide (y.1=(W (n - 1))),y.2)
def Jx (c:Ab):Option (Ab):=
 (Gn 16 ([]:List ByteArray) c.Names).bind fun l=>
 some (Ab.mk c.Serial c.Issuer c.Subject c.Key c.KeyId c.Hash c.From c.To c.Authority c.Path l c.Seal)
def Bu.j3 (i_2:Int) (x27_3:Bool):Option (Lp (Int) (Bool)):=
 cond (x27_3)
  (up (some false))
  (some (.next (W (i_2 + 1))))
def Bu.l2 (s:ByteArray) (i_2:Int):Option (Lp (Int) (Bool)):=
 cond (decide (i_2 < (s.size:Int)))
  ((idxT s i_2).bind fun c=>
  cond (decide ((c.toNat:Int) < 33))
   (Bu.j3 i_2 true)
   ((idxT s i_2).bind fun c_2=>
   Bu.j3 i_2 (decide (126 < (c_2.toNat:Int)))))
  (up (
   some true))
def Bu.j1 (s:ByteArray) (x11_1:Bool):Option (Bool):=
 cond (x11_1)
  (some false)
  (Dl (fun q'=>Bu.l2 s q') 0)
def Bu (s:ByteArray):Option (Bool):=
 cond (decide ((s.size:Int) < 1))
  (Bu.j1 s true)
  (Bu.j1 s (decide (32 < (s.size:Int))))
def C6.j1 (b:Int) (x3_1:Bool):Option (Int):=
 cond (x3_1)
  (some 0)
  (cond (decide (b < 1024))
   (some 56)
   (cond (decide (b < 2048))
    (some 80)
    (cond (decide (b < 3072))
     (some 112)
     (cond (decide (b < 7680))
      (some 128)
      (cond (decide (b < 15360))
       (some 192)
       (some 256))))))
def C6 (b:Int):Option (Int):=
 cond (decide (b < 512))
  (C6.j1 b true)
  (C6.j1 b (decide (16384 < b)))
def Bd.l1 (b:Int) (sizes:(List Int)) (strengths:(List Int)) (i_1:Int):Option (Lp (Int) (Int)):=
 cond (decide (i_1 < (sizes.length:Int)))
  ((Dd sizes i_1).bind fun e=>
  cond (decide (e=b))
   ((Dd strengths i_1).bind fun e_2=>
   up (some e_2))
   (some (.next (W (i_1 + 1)))))
  (up (
   some 0))
def Bd (b:Int) (sizes:(List Int)) (strengths:(List Int)):Option (Int):=
 Dl (fun q'=>Bd.l1 b sizes strengths q') 0
def Cq.j2 (alg:Int) (x14_2:Bool):Option (Int):=
 cond (x14_2)
  (some 256)
  (cond (decide (alg=19))
   (some 64)
   (cond (decide (alg=20))
    (some 80)
    (some 0)))
def Cq.j1 (alg:Int) (x8_1:Bool):Option (Int):=
 cond (x8_1)
  (some 128)
  (cond (decide (alg=4))
   (some 192)
   (cond (decide (alg=18))
    (Cq.j2 alg (decide (alg=18)))
    (Cq.j2 alg (decide (alg=22)))))
def Cq (alg:Int):Option (Int):=
 cond (decide (alg=1))
  (some 18)
  (cond (decide (alg=2))
   (some 60)
   (cond (decide (alg=3))
    (Cq.j1 alg (decide (alg=3)))
    (cond (decide (alg=8))
     (Cq.j1 alg (decide (alg=8)))
     (Cq.j1 alg (decide (alg=21))))))
def Aq.j3 (u:A3) (x35_3:Bool):Option (Int):=
 cond (x35_3)
  ((Rb u.Bits 2).bind fun q=>
  some q)
  (some 0)
def Aq.j4 (u:A3) (x62_4:Bool):Option (Int):=
 cond (x62_4)
  ((Bd u.Bits ([128,256]:List Int) ([128,256]:List Int)).bind fun y_6=>
  some y_6)
  ((Cq u.Alg).bind fun y_7=>
  (Bd u.Bits ([0]:List Int) ([y_7]:List Int)).bind fun y_8=>
  some y_8)
def Aq.j2 (u:A3) (x15_2:Bool):Option (Int):=
 cond (x15_2)
  (cond (decide (u.Bits=160))
   (Aq.j3 u true)
   (cond (decide (u.Bits=224))
    (Aq.j3 u true)
    (cond (decide (u.Bits=256))
     (Aq.j3 u true)
     (cond (decide (u.Bits=384))
      (Aq.j3 u true)
      (Aq.j3 u (decide (u.Bits=521)))))))
  (cond (decide (u.Alg=9))
   ((Bd u.Bits ([44,65,87]:List Int) ([128,192,256]:List Int)).bind fun y_2=>
   some y_2)
   (cond (decide (u.Alg=13))
    ((Bd u.Bits ([512,768,1024]:List Int) ([128,192,256]:List Int)).bind fun y_3=>
    some y_3)
    (cond (decide (u.Alg=14))
     ((Bd u.Bits ([40,128]:List Int) ([40,60]:List Int)).bind fun y_4=>
     some y_4)
     (cond (decide (u.Alg=15))
      ((Bd u.Bits ([112,168]:List Int) ([80,112]:List Int)).bind fun y_5=>
      some y_5)
      (cond (decide (u.Alg=16))
       (Aq.j4 u (decide (u.Alg=16)))
       (Aq.j4 u (decide (u.Alg=17))))))))
def Aq.j1 (u:A3) (x8_1:Bool):Option (Int):=
 cond (x8_1)
  ((C6 u.Bits).bind fun y=>
  some y)
  (cond (decide (u.Alg=7))
   (Aq.j2 u (decide (u.Alg=7)))
   (Aq.j2 u (decide (u.Alg=12))))
def Aq (u:A3):Option (Int):=
 cond (decide (u.Alg=5))
  (Aq.j1 u (decide (u.Alg=5)))
  (cond (decide (u.Alg=6))
   (Aq.j1 u (decide (u.Alg=6)))
   (cond (decide (u.Alg=10))
    (Aq.j1 u (decide (u.Alg=10)))
    (Aq.j1 u (decide (u.Alg=11)))))
def Hy (u:A3):Option (Bool):=
 (Aq u).bind fun y=>
 some (decide (0 < y))
def Ny:Option ((List Am)):=
 some ([(Am.mk (⟨#[]⟩:ByteArray) 0),(Am.mk (⟨#[109,100,53]⟩:ByteArray) 1),(Am.mk (⟨#[115,104,97,49]⟩:ByteArray) 1),(Am.mk (⟨#[115,104,97,50,53,54]⟩:ByteArray) 1),(Am.mk (⟨#[115,104,97,51,56,52]⟩:ByteArray) 1),(Am.mk (⟨#[114,115,97]⟩:ByteArray) 2),(Am.mk (⟨#[100,115,97]⟩:ByteArray) 2),(Am.mk (⟨#[101,99,100,115,97]⟩:ByteArray) 2),(Am.mk (⟨#[101,100,50,53,53,49,57]⟩:ByteArray) 2),(Am.mk (⟨#[109,108,100,115,97]⟩:ByteArray) 2),(Am.mk (⟨#[114,115,97,107,120]⟩:ByteArray) 3),(Am.mk (⟨#[100,104,101]⟩:ByteArray) 3),(Am.mk (⟨#[101,99,100,104,101]⟩:ByteArray) 3),(Am.mk (⟨#[109,108,107,101,109]⟩:ByteArray) 3),(Am.mk (⟨#[114,99,52]⟩:ByteArray) 4),(Am.mk (⟨#[100,101,115,51]⟩:ByteArray) 4),(Am.mk (⟨#[97,101,115,99,98,99]⟩:ByteArray) 4),(Am.mk (⟨#[97,101,115,103,99,109]⟩:ByteArray) 4),(Am.mk (⟨#[99,104,97,99,104,97]⟩:ByteArray) 4),(Am.mk (⟨#[104,109,97,99,109,100,53]⟩:ByteArray) 5),(Am.mk (⟨#[104,109,97,99,115,104,97,49]⟩:ByteArray) 5),(Am.mk (⟨#[104,109,97,99,115,104,97,50,53,54]⟩:ByteArray) 5),(Am.mk (⟨#[97,101,97,100]⟩:ByteArray) 5)]:List Am)
def Eg.j1 (alg:Int) (x8_1:Bool):Option (Int):=
 cond (x8_1)
  (some 0)
  ((Ny).bind fun y=>
  (Dd y alg).bind fun e=>
  some e.kind)
def Eg (alg:Int):Option (Int):=
 cond (decide (alg < 1))
  (Eg.j1 alg true)
  (Eg.j1 alg (decide (22 < alg)))
def Gz (u:A3):Option (Bool):=
 (Hy u).bind fun y=>
 cond (y)
  ((Eg u.Alg).bind fun y_2=>
  some (decide (y_2=2)))
  (some false)
def Ar.j5 (i_4:Int) (x123_5:Bool):Option (Lp (Int) (Int)):=
 cond (x123_5)
  (up (some 9))
  (some (.next (W (i_4 + 1))))
def Ar.j6 (x145_6:Bool):Option (Int):=
 cond (x145_6)
  (some 9)
  (some 0)
def Ar.l4 (c:Ab) (i_4:Int):Option (Lp (Int) (Int)):=
 cond (decide (i_4 < (c.Names.length:Int)))
  ((Dd c.Names i_4).bind fun e=>
  (Bu e).bind fun y_6=>
  cond (!y_6)
   (Ar.j5 i_4 true)
   (cond (decide (0 < i_4))
    ((Dd c.Names (W (i_4 - 1))).bind fun e_2=>
    Ar.j5 i_4 (!kJ (Ln e_2) (Ln e)))
    (Ar.j5 i_4 false)))
  (up (
   cond (decide (c.Seal.Key < 0))
    (Ar.j6 true)
    (cond (decide (2147483648 < c.Seal.Key))
     (Ar.j6 true)
     (cond (decide (c.Seal.Sum < 0))
      (Ar.j6 true)
      (Ar.j6 (decide (4294967296<=c.Seal.Sum)))))))
def Ar.j3 (c:Ab) (x91_3:Bool):Option (Int):=
 cond (x91_3)
  (some 9)
  (Dl (fun q'=>Ar.l4 c q') 0)
def Ar.j2 (c:Ab) (x67_2:Bool):Option (Int):=
 cond (x67_2)
  (some 9)
  (cond (decide (c.Path < 0))
   (Ar.j3 c true)
   (cond (decide (8 < c.Path))
    (Ar.j3 c true)
    (cond (!c.Authority)
     (cond (!decide (c.Path=0))
      (Ar.j3 c true)
      (Ar.j3 c (decide (8 < (c.Names.length:Int)))))
     (Ar.j3 c (decide (8 < (c.Names.length:Int)))))))
def Ar.j1 (c:Ab) (x39_1:Bool):Option (Int):=
 cond (x39_1)
  (some 9)
  ((Hy c.Hash).bind fun y_4=>
  cond (!y_4)
   (Ar.j2 c true)
   ((Eg c.Hash.Alg).bind fun y_5=>
   cond (!decide (y_5=1))
    (Ar.j2 c true)
    (cond (decide (c.From < 0))
     (Ar.j2 c true)
     (cond (decide (c.To < c.From))
      (Ar.j2 c true)
      (Ar.j2 c (decide (40000 < c.To)))))))
def Ar (c:Ab):Option (Int):=
 cond (decide (c.Serial < 0))
  (Ar.j1 c true)
  (cond (decide (1099511627776 < c.Serial))
   (Ar.j1 c true)
   ((Bu c.Issuer).bind fun y=>
   cond (!y)
    (Ar.j1 c true)
    ((Bu c.Subject).bind fun y_2=>
    cond (!y_2)
     (Ar.j1 c true)
     ((Gz c.Key).bind fun y_3=>
     cond (!y_3)
      (Ar.j1 c true)
      (cond (decide (c.KeyId < 0))
       (Ar.j1 c true)
       (Ar.j1 c (decide (2147483648 < c.KeyId))))))))
def Fa (s:ByteArray):Option (Aa):=
 some (Aa.mk 12 (Ln s) false ([]:(List Aa)))
def Bf.j2 (x_1:Int) (b_1:List UInt8) (x35_2:Bool):Option (Lp (Int×List UInt8) (Aa)):=
 cond (x35_2)
  ((Gn 1 ([(u8 x_1)]:List UInt8) b_1).bind fun l=>
  (Up .i64 x_1 8).bind fun q_2=>
  some (.next (q_2,l)))
  (up (
   some (Aa.mk 2 b_1 false ([]:(List Aa)))))
def Bf.l1 (x_1:Int) (b_1:List UInt8):Option (Lp (Int×List UInt8) (Aa)):=
 cond (!decide (x_1=0))
  (cond (!decide (x_1=(-1)))
   (Bf.j2 x_1 b_1 true)
   (cond (decide (x_1=0))
    ((Dd b_1 0).bind fun e=>
    cond (decide (128<=(e.toNat:Int)))
     (Bf.j2 x_1 b_1 true)
     (cond (decide (x_1=(-1)))
      (Bf.j2 x_1 b_1 (decide ((e.toNat:Int) < 128)))
      (Bf.j2 x_1 b_1 false)))
    (cond (decide (x_1=(-1)))
     ((Dd b_1 0).bind fun e_2=>
     Bf.j2 x_1 b_1 (decide ((e_2.toNat:Int) < 128)))
     (Bf.j2 x_1 b_1 false))))
  (cond (decide (x_1=0))
   ((Dd b_1 0).bind fun e_3=>
   cond (decide (128<=(e_3.toNat:Int)))
    (Bf.j2 x_1 b_1 true)
    (cond (decide (x_1=(-1)))
     (Bf.j2 x_1 b_1 (decide ((e_3.toNat:Int) < 128)))
     (Bf.j2 x_1 b_1 false)))
   (cond (decide (x_1=(-1)))
    ((Dd b_1 0).bind fun e_4=>
    Bf.j2 x_1 b_1 (decide ((e_4.toNat:Int) < 128)))
    (Bf.j2 x_1 b_1 false)))
def Bf (n:Int):Option (Aa):=
 (Up .i64 n 8).bind fun q=>
 Dl (fun q'=>Bf.l1 q'.1 q'.2) (q,([(u8 n)]:List UInt8))
def Bs.l1 (rec:(List Aa)->Option ((List Aa))) (l:(List Aa)) (i_1:Int) (out_1:List Aa):Option (Lp (Int×List Aa) ((List Aa))):=
 cond (decide (i_1 < (l.length:Int)))
  ((Dd l i_1).bind fun e=>
  (Gn 1 ([]:List UInt8) e.Bytes).bind fun l_2=>
  (rec e.Elements).bind fun y=>
  (Gn 256 out_1 ([(Aa.mk e.Tag l_2 e.Nested y)]:List Aa)).bind fun l_3=>
  some (.next (W (i_1 + 1),l_3)))
  (up (
   some out_1))
def Bs.F (rec:(List Aa)->Option ((List Aa))) (l:(List Aa)):Option ((List Aa)):=
 Dl (fun q'=>Bs.l1 rec l q'.1 q'.2) (0,([]:List Aa))
def Bs (l:(List Aa)):Option ((List Aa)):=Pa (fun rec (x:(List Aa))=>Bs.F (fun l=>rec l) x) l
def Fr (l:(List Aa)):Option (Aa):=
 (Bs l).bind fun y=>
 some (Aa.mk 48 ([]:(List UInt8)) true y)
def Jr (u:A3):Option (Aa):=
 (Bf u.Alg).bind fun y=>
 (Bf u.Bits).bind fun y_2=>
 (Fr ([y,y_2]:List Aa)).bind fun y_3=>
 some y_3
def K9 (b:Bool):Option (Aa):=
 cond (b)
  (some (Aa.mk 1 ([(255:UInt8)]:List UInt8) false ([]:(List Aa))))
  (some (Aa.mk 1 ([(0:UInt8)]:List UInt8) false ([]:(List Aa))))
def Co.l1 (c:Ab) (i_1:Int) (names_1:List Aa):Option (Lp (Int×List Aa) (Aa)):=
 cond (decide (i_1 < (c.Names.length:Int)))
  ((Dd c.Names i_1).bind fun e=>
  (Fa e).bind fun y=>
  (Gn 256 names_1 ([y]:List Aa)).bind fun l=>
  some (.next (W (i_1 + 1),l)))
  (up (
   (Bf c.Serial).bind fun y_12=>
   (Fa c.Issuer).bind fun y_13=>
   (Fa c.Subject).bind fun y_14=>
   (Jr c.Key).bind fun y_15=>
   (Bf c.KeyId).bind fun y_16=>
   (Jr c.Hash).bind fun y_17=>
   (Bf c.From).bind fun y_18=>
   (Bf c.To).bind fun y_19=>
   (K9 c.Authority).bind fun y_20=>
   (Bf c.Path).bind fun y_21=>
   (Fr names_1).bind fun y_22=>
   (Fr ([y_12,y_13,y_14,y_15,y_16,y_17,y_18,y_19,y_20,y_21,y_22]:List Aa)).bind fun y_23=>
   some y_23))
def Co (c:Ab):Option (Aa):=
 Dl (fun q'=>Co.l1 c q'.1 q'.2) (0,([]:List Aa))
def Jm (n:Int):Option (Bool):=
 cond (decide (1<=n))
  (cond (decide (n<=255))
   ((Rj n 32).bind fun q=>
   some (!decide (q=31)))
   (some false))
  (some false)
def A6.l2 (rec:Aa->Option (Bool)) (v:Aa) (i_2:Int):Option (Lp (Int) (Bool)):=
 cond (decide (i_2 < (v.Elements.length:Int)))
  ((Dd v.Elements i_2).bind fun e=>
  (rec e).bind fun y_2=>
  cond (!y_2)
   (up (some false))
   (some (.next (W (i_2 + 1)))))
  (up (
   some true))
def A6.j1 (rec:Aa->Option (Bool)) (v:Aa) (x38_1:Bool):Option (Bool):=
 cond (x38_1)
  (some false)
  (Dl (fun q'=>A6.l2 rec v q') 0)
def A6.F (rec:Aa->Option (Bool)) (v:Aa):Option (Bool):=
 (Jm v.Tag).bind fun y=>
 cond (!y)
  (A6.j1 rec v true)
  ((Rb v.Tag 32).bind fun q=>
  (Rj q 2).bind fun q_2=>
  cond (!decide (v.Nested=(decide (q_2=1))))
   (A6.j1 rec v true)
   (cond (v.Nested)
    (cond (decide (0 < (v.Bytes.length:Int)))
     (A6.j1 rec v true)
     (A6.j1 rec v false))
    (A6.j1 rec v (decide (0 < (v.Elements.length:Int))))))
def A6 (v:Aa):Option (Bool):=Pa (fun rec (x:Aa)=>A6.F (fun v=>rec v) x) v
def B6.l1 (rec:Aa->Option (Int)) (v:Aa) (d_1:Int) (i_1:Int):Option (Lp (Int×Int) (Int)):=
 cond (decide (i_1 < (v.Elements.length:Int)))
  ((Dd v.Elements i_1).bind fun e=>
  (rec e).bind fun y=>
  some (.next (max d_1 y,W (i_1 + 1))))
  (up (
   some (W (d_1 + 1))))
def B6.F (rec:Aa->Option (Int)) (v:Aa):Option (Int):=
 Dl (fun q'=>B6.l1 rec v q'.1 q'.2) (0,0)
def B6 (v:Aa):Option (Int):=Pa (fun rec (x:Aa)=>B6.F (fun v=>rec v) x) v
def Do.l1 (n_1:Int) (b_1:List UInt8):Option (Lp (Int×List UInt8) ((List UInt8))):=
 cond (decide (0 < n_1))
  ((Rj n_1 256).bind fun q=>
  (Gn 1 ([(u8 q)]:List UInt8) b_1).bind fun l=>
  (Rb n_1 256).bind fun q_2=>
  some (.next (q_2,l)))
  (up (
   (Gn 1 ([(u8 (W (128 + (b_1.length:Int))))]:List UInt8) b_1).bind fun l_2=>
   some l_2))
def Do (n:Int):Option ((List UInt8)):=
 cond (decide (n < 128))
  (some ([(u8 n)]:List UInt8))
  (Dl (fun q'=>Do.l1 q'.1 q'.2) (n,([]:List UInt8)))
def C2.l1 (rec:Aa->Option ((List UInt8))) (v:Aa) (i_1:Int) (b_1:List UInt8):Option (Lp (Int×List UInt8) ((List UInt8))):=
 cond (decide (i_1 < (v.Elements.length:Int)))
  ((Dd v.Elements i_1).bind fun e=>
  (rec e).bind fun y=>
  (Gn 1 b_1 y).bind fun l_2=>
  some (.next (W (i_1 + 1),l_2)))
  (up (
   (Do (b_1.length:Int)).bind fun y_2=>
   (Gn 1 ([(u8 v.Tag)]:List UInt8) y_2).bind fun l_3=>
   (Gn 1 l_3 b_1).bind fun l_4=>
   some l_4))
def C2.F (rec:Aa->Option ((List UInt8))) (v:Aa):Option ((List UInt8)):=
 (Gn 1 ([]:List UInt8) v.Bytes).bind fun l=>
 Dl (fun q'=>C2.l1 rec v q'.1 q'.2) (0,l)
def C2 (v:Aa):Option ((List UInt8)):=Pa (fun rec (x:Aa)=>C2.F (fun v=>rec v) x) v
def Hl (v:Aa):Option ((List UInt8)×Int):=
 (A6 v).bind fun y=>
 cond (!y)
  (some (([]:(List UInt8)),1))
  ((B6 v).bind fun y_2=>
  cond (decide (16 < y_2))
   (some (([]:(List UInt8)),3))
   ((C2 v).bind fun y_3=>
   cond (decide (4096 < (y_3.length:Int)))
    (some (([]:(List UInt8)),3))
    (some (y_3,0))))
def H1 (c:Ab):Option ((List UInt8)×Int):=
 (Ar c).bind fun y=>
 cond (!decide (y=0))
  (some (([]:(List UInt8)),9))
  ((Co c).bind fun y_2=>
  (Hl y_2).bind fun y_3=>
  some (y_3.1,y_3.2))
def Et.l1 (b:(List UInt8)) (h_1:Int) (i_1:Int):Option (Lp (Int×Int) (Int)):=
 cond (decide (i_1 < (b.length:Int)))
  ((Dd b i_1).bind fun e=>
  some (.next (IntKind.wrap .u32 ((Zw .u32 h_1 (IntKind.wrap .u32 (e.toNat:Int))) * 16777619),W (i_1 + 1))))
  (up (
   some (W h_1)))
def Et (b:(List UInt8)):Option (Int):=
 Dl (fun q'=>Et.l1 b q'.1 q'.2) (2166136261,0)
def Ed.j1 (key:Int) (y:Ab) (x22_1:Bool):Option (Ab×Int):=
 cond (x22_1)
  (some ((Ab.mk 0 (⟨#[]⟩:ByteArray) (⟨#[]⟩:ByteArray) (A3.mk 0 0) 0 (A3.mk 0 0) 0 0 false 0 ([]:(List ByteArray)) (Bv.mk 0 0)),9))
  ((H1 (Ab.mk y.Serial y.Issuer y.Subject y.Key y.KeyId y.Hash y.From y.To y.Authority y.Path y.Names (Bv.mk 0 0))).bind fun y_3=>
  (Et y_3.1).bind fun y_4=>
  some ((Ab.mk y.Serial y.Issuer y.Subject y.Key y.KeyId y.Hash y.From y.To y.Authority y.Path y.Names (Bv.mk key y_4)),0))
def Ed (c:Ab) (key:Int):Option (Ab×Int):=
 (Jx c).bind fun y=>
 (Ar (Ab.mk y.Serial y.Issuer y.Subject y.Key y.KeyId y.Hash y.From y.To y.Authority y.Path y.Names (Bv.mk 0 0))).bind fun y_2=>
 cond (!decide (y_2=0))
  (Ed.j1 key y true)
  (cond (decide (key < 0))
   (Ed.j1 key y true)
   (Ed.j1 key y (decide (2147483648 < key))))
def Bn.j2 (issuer:ByteArray) (subject:ByteArray) (key:A3) (id:Int) (signer:Int) (authority:Bool) (y:Int×Ak) (y_2:Int×Ak) (y_3:Int×Ak) (y_4:Int×Ak) (c_1:Int) (b_2:Ak) (l_2:List ByteArray):Option (Ab×Ak):=
 (Ed (Ab.mk y.1 issuer subject key id (A3.mk y_2.1 0) y_3.1 y_4.1 authority c_1 l_2 (Bv.mk 0 0)) signer).bind fun y_7=>
 some (y_7.1,b_2)
def Bn.j1 (issuer:ByteArray) (subject:ByteArray) (key:A3) (id:Int) (signer:Int) (authority:Bool) (y:Int×Ak) (y_2:Int×Ak) (y_3:Int×Ak) (y_4:Int×Ak) (d_1:Ak) (c_1:Int):Option (Ab×Ak):=
 (Gx d_1 3).bind fun y_6=>
 cond (y_6.1)
  ((lQ subject (⟨#[120]⟩:ByteArray)).bind fun s=>
  (Gn 16 ([subject]:List ByteArray) ([s]:List ByteArray)).bind fun l=>
  Bn.j2 issuer subject key id signer authority y y_2 y_3 y_4 c_1 y_6.2 l)
  (Bn.j2 issuer subject key id signer authority y y_2 y_3 y_4 c_1 y_6.2 ([subject]:List ByteArray))
def Bn (d:Ak) (issuer:ByteArray) (subject:ByteArray) (key:A3) (id:Int) (signer:Int) (authority:Bool):Option (Ab×Ak):=
 (Cs d 1000).bind fun y=>
 (Bo y.2 ([3,2,4,1]:List Int)).bind fun y_2=>
 (Bo y_2.2 ([0,5,10]:List Int)).bind fun y_3=>
 (Bo y_3.2 ([1000,100,50,20]:List Int)).bind fun y_4=>
 cond (authority)
  ((Bo y_4.2 ([3,0,1]:List Int)).bind fun y_5=>
  Bn.j1 issuer subject key id signer authority y y_2 y_3 y_4 y_5.2 y_5.1)
  (Bn.j1 issuer subject key id signer authority y y_2 y_3 y_4 y_4.2 0)
def Cz.j1 (b_1:Ak) (c_1:Ab):Option (Ab×Ak):=
 some (c_1,b_1)
def Cz (d:Ak):Option (Ab×Ak):=
 (En d ([(⟨#[99,97]⟩:ByteArray),(⟨#[114,111,111,116]⟩:ByteArray)]:List ByteArray)).bind fun y=>
 (En y.2 ([(⟨#[119,101,98]⟩:ByteArray),(⟨#[100,98]⟩:ByteArray)]:List ByteArray)).bind fun y_2=>
 (Mj y_2.2).bind fun y_3=>
 (Cs y_3.2 200).bind fun y_4=>
 (Cs y_4.2 20).bind fun y_5=>
 (Gx y_5.2 2).bind fun y_6=>
 (Bn y_6.2 y.1 y_2.1 y_3.1 y_4.1 y_5.1 y_6.1).bind fun y_7=>
 (Cs y_7.2 16).bind fun y_8=>
 cond (decide (y_8.1=0))
  ((Bo y_8.2 ([-1,1099511627776,1099511627777]:List Int)).bind fun y_9=>
  Cz.j1 y_9.2 (Ab.mk y_9.1 y_7.1.Issuer y_7.1.Subject y_7.1.Key y_7.1.KeyId y_7.1.Hash y_7.1.From y_7.1.To y_7.1.Authority y_7.1.Path y_7.1.Names y_7.1.Seal))
  (cond (decide (y_8.1=1))
   ((En y_8.2 ([(⟨#[]⟩:ByteArray),(⟨#[97,32,98]⟩:ByteArray),(⟨#[97,98,99,100,101,102,103,104,105,106,107,108,109,110,111,112,113,114,115,116,117,118,119,120,121,122,48,49,50,51,52,53,54]⟩:ByteArray)]:List ByteArray)).bind fun y_10=>
   Cz.j1 y_10.2 (Ab.mk y_7.1.Serial y_10.1 y_7.1.Subject y_7.1.Key y_7.1.KeyId y_7.1.Hash y_7.1.From y_7.1.To y_7.1.Authority y_7.1.Path y_7.1.Names y_7.1.Seal))
   (cond (decide (y_8.1=2))
    ((En y_8.2 ([(⟨#[]⟩:ByteArray),(⟨#[120,9,121]⟩:ByteArray),(⟨#[97,98,99,100,101,102,103,104,105,106,107,108,109,110,111,112,113,114,115,116,117,118,119,120,121,122,48,49,50,51,52,53]⟩:ByteArray)]:List ByteArray)).bind fun y_11=>
    Cz.j1 y_11.2 (Ab.mk y_7.1.Serial y_7.1.Issuer y_11.1 y_7.1.Key y_7.1.KeyId y_7.1.Hash y_7.1.From y_7.1.To y_7.1.Authority y_7.1.Path y_7.1.Names y_7.1.Seal))
    (cond (decide (y_8.1=3))
     ((Bo y_8.2 ([1,17,0,5]:List Int)).bind fun y_12=>
     (Bo y_12.2 ([0,128,511]:List Int)).bind fun y_13=>
     Cz.j1 y_13.2 (Ab.mk y_7.1.Serial y_7.1.Issuer y_7.1.Subject (A3.mk y_12.1 y_13.1) y_7.1.KeyId y_7.1.Hash y_7.1.From y_7.1.To y_7.1.Authority y_7.1.Path y_7.1.Names y_7.1.Seal))
     (cond (decide (y_8.1=4))
      ((Bo y_8.2 ([-1,2147483648,2147483649]:List Int)).bind fun y_14=>
      Cz.j1 y_14.2 (Ab.mk y_7.1.Serial y_7.1.Issuer y_7.1.Subject y_7.1.Key y_14.1 y_7.1.Hash y_7.1.From y_7.1.To y_7.1.Authority y_7.1.Path y_7.1.Names y_7.1.Seal))
      (cond (decide (y_8.1=5))
       ((Bo y_8.2 ([5,0,22]:List Int)).bind fun y_15=>
       Cz.j1 y_15.2 (Ab.mk y_7.1.Serial y_7.1.Issuer y_7.1.Subject y_7.1.Key y_7.1.KeyId (A3.mk y_15.1 0) y_7.1.From y_7.1.To y_7.1.Authority y_7.1.Path y_7.1.Names y_7.1.Seal))
       (cond (decide (y_8.1=6))
        ((Bo y_8.2 ([9,-1,3]:List Int)).bind fun y_16=>
        (Bo y_16.2 ([8,3,40001]:List Int)).bind fun y_17=>
        Cz.j1 y_17.2 (Ab.mk y_7.1.Serial y_7.1.Issuer y_7.1.Subject y_7.1.Key y_7.1.KeyId y_7.1.Hash y_16.1 y_17.1 y_7.1.Authority y_7.1.Path y_7.1.Names y_7.1.Seal))
        (cond (decide (y_8.1=7))
         ((Bo y_8.2 ([1,-1,8,9]:List Int)).bind fun y_18=>
         Cz.j1 y_18.2 (Ab.mk y_7.1.Serial y_7.1.Issuer y_7.1.Subject y_7.1.Key y_7.1.KeyId y_7.1.Hash y_7.1.From y_7.1.To y_7.1.Authority y_18.1 y_7.1.Names y_7.1.Seal))
         (cond (decide (y_8.1=8))
          ((Cs y_8.2 4).bind fun y_19=>
          (Dd ([([]:(List ByteArray)),([(⟨#[98]⟩:ByteArray),(⟨#[97]⟩:ByteArray)]:List ByteArray),([(⟨#[97]⟩:ByteArray),(⟨#[97]⟩:ByteArray)]:List ByteArray),([(⟨#[97]⟩:ByteArray),(⟨#[98]⟩:ByteArray),(⟨#[99]⟩:ByteArray),(⟨#[100]⟩:ByteArray),(⟨#[101]⟩:ByteArray),(⟨#[102]⟩:ByteArray),(⟨#[103]⟩:ByteArray),(⟨#[104]⟩:ByteArray),(⟨#[105]⟩:ByteArray)]:List ByteArray)]:List (List ByteArray)) y_19.1).bind fun e=>
          Cz.j1 y_19.2 (Ab.mk y_7.1.Serial y_7.1.Issuer y_7.1.Subject y_7.1.Key y_7.1.KeyId y_7.1.Hash y_7.1.From y_7.1.To y_7.1.Authority y_7.1.Path e y_7.1.Seal))
          (cond (decide (y_8.1=9))
           ((Bo y_8.2 ([-1,2147483649,0]:List Int)).bind fun y_20=>
           (Bo y_20.2 ([4294967296,-1,4294967295]:List Int)).bind fun y_21=>
           Cz.j1 y_21.2 (Ab.mk y_7.1.Serial y_7.1.Issuer y_7.1.Subject y_7.1.Key y_7.1.KeyId y_7.1.Hash y_7.1.From y_7.1.To y_7.1.Authority y_7.1.Path y_7.1.Names (Bv.mk y_20.1 y_21.1)))
           (cond (decide (y_8.1=10))
            (Cz.j1 y_8.2 (Ab.mk y_7.1.Serial y_7.1.Issuer y_7.1.Subject y_7.1.Key y_7.1.KeyId y_7.1.Hash y_7.1.From y_7.1.To (!y_7.1.Authority) y_7.1.Path y_7.1.Names y_7.1.Seal))
            (Cz.j1 y_8.2 y_7.1)))))))))))
def C9.l2 (l:(List Aa)) (i_2:Int) (out_2:List Aa):Option (Lp (Int×List Aa) ((List Aa))):=
 cond (decide (i_2 < (l.length:Int)))
  ((Dd l i_2).bind fun e=>
  (Gn 1 ([]:List UInt8) e.Bytes).bind fun l_2=>
  (Bs e.Elements).bind fun y=>
  (Gn 256 out_2 ([(Aa.mk e.Tag l_2 e.Nested y)]:List Aa)).bind fun l_3=>
  some (.next (W (i_2 + 1),l_3)))
  (up (
   some out_2))
def C9 (l:(List Aa)):Option ((List Aa)):=
 Dl (fun q'=>C9.l2 l q'.1 q'.2) (0,([]:List Aa))
def Gl (l:(List Aa)):Option (Aa):=
 (C9 l).bind fun y=>
 some (Aa.mk 48 ([]:(List UInt8)) true y)
def G2 (c:Ab):Option (Aa):=
 (Bf c.Seal.Key).bind fun y=>
 (Bf c.Seal.Sum).bind fun y_2=>
 (Gl ([y,y_2]:List Aa)).bind fun y_3=>
 (Co c).bind fun y_5=>
 (Gl ([y_5,y_3]:List Aa)).bind fun y_6=>
 some y_6
def Ba.j4 (b:(List UInt8)) (at':Int) (n_4:Int) (from_4:Int):Option (Int×Int×Int×Bool):=
 cond (decide ((W ((b.length:Int) - from_4)) < n_4))
  (some (0,0,0,false))
  ((Dd b at').bind fun e_5=>
  some ((e_5.toNat:Int),from_4,W (from_4 + n_4),true))
def Ba.l3 (b:(List UInt8)) (at':Int) (e_2:UInt8) (n_3:Int) (i_3:Int):Option (Lp (Int×Int) (Int×Int×Int×Bool)):=
 cond (decide (i_3 < (W ((e_2.toNat:Int) - 128))))
  ((Dd b (W ((W (at' + 2)) + i_3))).bind fun e_4=>
  some (.next (W ((W (n_3 * 256)) + (e_4.toNat:Int)),W (i_3 + 1))))
  (up (
   cond (decide (n_3 < 128))
    (some (0,0,0,false))
    (Ba.j4 b at' n_3 (W ((W (at' + 2)) + (W ((e_2.toNat:Int) - 128)))))))
def Ba.j2 (b:(List UInt8)) (at':Int) (e_2:UInt8) (x58_2:Bool):Option (Int×Int×Int×Bool):=
 cond (x58_2)
  (some (0,0,0,false))
  (Dl (fun q'=>Ba.l3 b at' e_2 q'.1 q'.2) (0,0))
def Ba.j1 (b:(List UInt8)) (at':Int) (x25_1:Bool):Option (Int×Int×Int×Bool):=
 cond (x25_1)
  (some (0,0,0,false))
  ((Dd b (W (at' + 1))).bind fun e_2=>
  cond (decide (128<=(e_2.toNat:Int)))
   (cond (decide ((W ((e_2.toNat:Int) - 128)) < 1))
    (Ba.j2 b at' e_2 true)
    (cond (decide (3 < (W ((e_2.toNat:Int) - 128))))
     (Ba.j2 b at' e_2 true)
     (cond (decide ((W ((b.length:Int) - (W (at' + 2)))) < (W ((e_2.toNat:Int) - 128))))
      (Ba.j2 b at' e_2 true)
      ((Dd b (W (at' + 2))).bind fun e_3=>
      Ba.j2 b at' e_2 (decide ((e_3.toNat:Int)=0))))))
   (Ba.j4 b at' (e_2.toNat:Int) (W (at' + 2))))
def Ba (b:(List UInt8)) (at':Int):Option (Int×Int×Int×Bool):=
 cond (decide ((W ((b.length:Int) - at')) < 2))
  (Ba.j1 b at' true)
  ((Dd b at').bind fun e=>
  (Jm (e.toNat:Int)).bind fun y=>
  Ba.j1 b at' (!y))
def B8.j2 (out_1:List Aa) (y:Int×Int×Int×Bool) (q_2:Int) (v_2:List Aa) (l_2_2:List UInt8):Option (Lp (Int×List Aa) ((List Aa)×Bool)):=
 (Gn 256 out_1 ([(Aa.mk y.1 l_2_2 (decide (q_2=1)) v_2)]:List Aa)).bind fun l_4=>
 some (.next (y.2.2.1,l_4))
def B8.l1 (rec:(List UInt8)->Option ((List Aa)×Bool)) (b:(List UInt8)) (at_1:Int) (out_1:List Aa):Option (Lp (Int×List Aa) ((List Aa)×Bool)):=
 cond (decide (at_1 < (b.length:Int)))
  ((Ba b at_1).bind fun y=>
  cond (!y.2.2.2)
   (up (some (([]:(List Aa)),false)))
   ((Rb y.1 32).bind fun q=>
   (Rj q 2).bind fun q_2=>
   cond (decide (q_2=1))
    ((Q7 b y.2.1 y.2.2.1).bind fun l=>
    (rec l).bind fun y_2=>
    cond (!y_2.2)
     (up (some (([]:(List Aa)),false)))
     (B8.j2 out_1 y q_2 y_2.1 ([]:List UInt8)))
    ((Q7 b y.2.1 y.2.2.1).bind fun l_2=>
    (Gn 1 ([]:List UInt8) l_2).bind fun l_3=>
    B8.j2 out_1 y q_2 ([]:List Aa) l_3)))
  (up (
   some (out_1,true)))
def B8.F (rec:(List UInt8)->Option ((List Aa)×Bool)) (b:(List UInt8)):Option ((List Aa)×Bool):=
 Dl (fun q'=>B8.l1 rec b q'.1 q'.2) (0,([]:List Aa))
def B8 (b:(List UInt8)):Option ((List Aa)×Bool):=Pa (fun rec (x:(List UInt8))=>B8.F (fun b=>rec b) x) b
def D3.j1 (y:(List Aa)×Bool) (x21_1:Bool):Option (Aa×Int):=
 cond (x21_1)
  (some ((Aa.mk 0 ([]:(List UInt8)) false ([]:(List Aa))),1))
  ((Dd y.1 0).bind fun e=>
  (B6 e).bind fun y_2=>
  cond (decide (16 < y_2))
   (some ((Aa.mk 0 ([]:(List UInt8)) false ([]:(List Aa))),3))
   (some (e,0)))
def D3 (b:(List UInt8)):Option (Aa×Int):=
 cond (decide (4096 < (b.length:Int)))
  (some ((Aa.mk 0 ([]:(List UInt8)) false ([]:(List Aa))),3))
  ((B8 b).bind fun y=>
  cond (!y.2)
   (D3.j1 y true)
   (D3.j1 y (!decide ((y.1.length:Int)=1))))
def D4.j1 (v:Aa) (x11_1:Bool):Option ((List Aa)×Int):=
 cond (x11_1)
  (some (([]:(List Aa)),1))
  ((Bs v.Elements).bind fun y_2=>
  some (y_2,0))
def D4 (v:Aa):Option ((List Aa)×Int):=
 cond (!decide (v.Tag=48))
  (D4.j1 v true)
  ((A6 v).bind fun y=>
  D4.j1 v (!y))
def It (v:Aa):Option (Ae):=
 (D4 v).bind fun y=>
 some (Ae.mk y.1 0 (decide (y.2=0)))
def Bt.j1 (r':Ae) (x19_1:Bool):Option (Aa×Ae):=
 cond (x19_1)
  (some ((Aa.mk 0 ([]:(List UInt8)) false ([]:(List Aa))),(Ae.mk r'.L r'.At false)))
  ((Dd r'.L (W ((W (r'.At + 1)) - 1))).bind fun e=>
  some (e,(Ae.mk r'.L (W (r'.At + 1)) r'.OK)))
def Bt (r':Ae):Option (Aa×Ae):=
 cond (!r'.OK)
  (Bt.j1 r' true)
  (Bt.j1 r' (decide ((r'.L.length:Int)<=r'.At)))
def D9 (r':Ae):Option (Ae×Ae):=
 (Bt r').bind fun y=>
 (It y.1).bind fun y_2=>
 cond (y.2.OK)
  (some (y_2,(Ae.mk y.2.L y.2.At y_2.OK)))
  (some (y_2,(Ae.mk y.2.L y.2.At false)))
def Bc.l3 (v:Aa) (n_3:Int) (i_3:Int):Option (Lp (Int×Int) (Int×Int)):=
 cond (decide (i_3 < (v.Bytes.length:Int)))
  ((bM .i64 n_3 8).bind fun q=>
  (Dd v.Bytes i_3).bind fun e_2=>
  some (.next (Xq .i64 q (e_2.toNat:Int),W (i_3 + 1))))
  (up (
   (Bf n_3).bind fun y=>
   cond (!decide ((Xy y.Bytes)=(Xy v.Bytes)))
    (some (0,1))
    (some (n_3,0))))
def Bc.j2 (v:Aa) (n_2:Int):Option (Int×Int):=
 Dl (fun q'=>Bc.l3 v q'.1 q'.2) (n_2,0)
def Bc.j1 (v:Aa) (x30_1:Bool):Option (Int×Int):=
 cond (x30_1)
  (some (0,1))
  ((Dd v.Bytes 0).bind fun e=>
  cond (decide (128<=(e.toNat:Int)))
   (Bc.j2 v (-1))
   (Bc.j2 v 0))
def Bc (v:Aa):Option (Int×Int):=
 cond (!decide (v.Tag=2))
  (Bc.j1 v true)
  (cond (v.Nested)
   (Bc.j1 v true)
   (cond (decide (0 < (v.Elements.length:Int)))
    (Bc.j1 v true)
    (cond (decide ((v.Bytes.length:Int) < 1))
     (Bc.j1 v true)
     (Bc.j1 v (decide (8 < (v.Bytes.length:Int)))))))
def Db (r':Ae):Option (Int×Ae):=
 (Bt r').bind fun y=>
 (Bc y.1).bind fun y_2=>
 cond (y.2.OK)
  (some (y_2.1,(Ae.mk y.2.L y.2.At (decide (y_2.2=0)))))
  (some (y_2.1,(Ae.mk y.2.L y.2.At false)))
def Bk.j3 (i_2:Int) (x38_3:Bool):Option (Lp (Int) (ByteArray×Int)):=
 cond (x38_3)
  (up (some ((⟨#[]⟩:ByteArray),1)))
  (some (.next (W (i_2 + 1))))
def Bk.l2 (v:Aa) (i_2:Int):Option (Lp (Int) (ByteArray×Int)):=
 cond (decide (i_2 < (v.Bytes.length:Int)))
  ((Dd v.Bytes i_2).bind fun e=>
  cond (decide ((e.toNat:Int) < 32))
   (Bk.j3 i_2 true)
   (Bk.j3 i_2 (decide (126 < (e.toNat:Int)))))
  (up (
   some (Xy v.Bytes,0)))
def Bk.j1 (v:Aa) (x17_1:Bool):Option (ByteArray×Int):=
 cond (x17_1)
  (some ((⟨#[]⟩:ByteArray),1))
  (Dl (fun q'=>Bk.l2 v q') 0)
def Bk (v:Aa):Option (ByteArray×Int):=
 cond (!decide (v.Tag=12))
  (Bk.j1 v true)
  (cond (v.Nested)
   (Bk.j1 v true)
   (Bk.j1 v (decide (0 < (v.Elements.length:Int)))))
def D8 (r':Ae):Option (ByteArray×Ae):=
 (Bt r').bind fun y=>
 (Bk y.1).bind fun y_2=>
 cond (y.2.OK)
  (some (y_2.1,(Ae.mk y.2.L y.2.At (decide (y_2.2=0)))))
  (some (y_2.1,(Ae.mk y.2.L y.2.At false)))
def Dh (r':Ae):Option (Bool×Ae):=
 cond (r'.OK)
  (some (decide (r'.At=(r'.L.length:Int)),r'))
  (some (false,r'))
def C4.j1 (y:Ae×Ae) (y_2:Int×Ae) (y_3:Int×Ae) (b_1:Bool):Option (A3×Ae):=
 some ((A3.mk y_2.1 y_3.1),(Ae.mk y.2.L y.2.At b_1))
def C4 (r':Ae):Option (A3×Ae):=
 (D9 r').bind fun y=>
 (Db y.1).bind fun y_2=>
 (Db y_2.2).bind fun y_3=>
 cond (y.2.OK)
  ((Dh y_3.2).bind fun y_4=>
  C4.j1 y y_2 y_3 y_4.1)
  (C4.j1 y y_2 y_3 false)
def C1.j1 (v:Aa) (x36_1:Bool):Option (Bool×Int):=
 cond (x36_1)
  (some (false,1))
  ((Dd v.Bytes 0).bind fun e_2=>
  some (decide ((e_2.toNat:Int)=255),0))
def C1 (v:Aa):Option (Bool×Int):=
 cond (!decide (v.Tag=1))
  (C1.j1 v true)
  (cond (v.Nested)
   (C1.j1 v true)
   (cond (decide (0 < (v.Elements.length:Int)))
    (C1.j1 v true)
    (cond (!decide ((v.Bytes.length:Int)=1))
     (C1.j1 v true)
     ((Dd v.Bytes 0).bind fun e=>
     cond (!decide ((e.toNat:Int)=0))
      (C1.j1 v (!decide ((e.toNat:Int)=255)))
      (C1.j1 v false)))))
def He (r':Ae):Option (Bool×Ae):=
 (Bt r').bind fun y=>
 (C1 y.1).bind fun y_2=>
 cond (y.2.OK)
  (some (y_2.1,(Ae.mk y.2.L y.2.At (decide (y_2.2=0)))))
  (some (y_2.1,(Ae.mk y.2.L y.2.At false)))
def Da.j2 (y_2:Ae×Ae) (y_3:Int×Ae) (y_4:ByteArray×Ae) (y_5:ByteArray×Ae) (y_6:A3×Ae) (y_7:Int×Ae) (y_8:A3×Ae) (y_9:Int×Ae) (y_10:Int×Ae) (y_11:Bool×Ae) (y_12:Int×Ae) (y_13:Ae×Ae) (n_1:Ae) (l_1:List ByteArray) (x51_2:Bool):Option (Lp (Ae×List ByteArray) (Ab×Bool)):=
 cond (x51_2)
  ((D8 n_1).bind fun y_14=>
  (Gn 16 l_1 ([y_14.1]:List ByteArray)).bind fun l=>
  some (.next (y_14.2,l)))
  (up (
   (D9 y_2.2).bind fun y_15=>
   (Db y_15.1).bind fun y_16=>
   (Db y_16.2).bind fun y_17=>
   (Dh y_15.2).bind fun y_18=>
   cond (y_18.1)
    ((Dh y_13.2).bind fun y_19=>
    cond (y_19.1)
     ((Dh n_1).bind fun y_20=>
     cond (y_20.1)
      ((Dh y_17.2).bind fun y_21=>
      some ((Ab.mk y_3.1 y_4.1 y_5.1 y_6.1 y_7.1 y_8.1 y_9.1 y_10.1 y_11.1 y_12.1 l_1 (Bv.mk y_16.1 y_17.1)),y_21.1))
      (some ((Ab.mk y_3.1 y_4.1 y_5.1 y_6.1 y_7.1 y_8.1 y_9.1 y_10.1 y_11.1 y_12.1 l_1 (Bv.mk y_16.1 y_17.1)),false)))
     (some ((Ab.mk y_3.1 y_4.1 y_5.1 y_6.1 y_7.1 y_8.1 y_9.1 y_10.1 y_11.1 y_12.1 l_1 (Bv.mk y_16.1 y_17.1)),false)))
    (some ((Ab.mk y_3.1 y_4.1 y_5.1 y_6.1 y_7.1 y_8.1 y_9.1 y_10.1 y_11.1 y_12.1 l_1 (Bv.mk y_16.1 y_17.1)),false))))
def Da.l1 (y_2:Ae×Ae) (y_3:Int×Ae) (y_4:ByteArray×Ae) (y_5:ByteArray×Ae) (y_6:A3×Ae) (y_7:Int×Ae) (y_8:A3×Ae) (y_9:Int×Ae) (y_10:Int×Ae) (y_11:Bool×Ae) (y_12:Int×Ae) (y_13:Ae×Ae) (n_1:Ae) (l_1:List ByteArray):Option (Lp (Ae×List ByteArray) (Ab×Bool)):=
 cond (n_1.OK)
  (Da.j2 y_2 y_3 y_4 y_5 y_6 y_7 y_8 y_9 y_10 y_11 y_12 y_13 n_1 l_1 (decide (n_1.At < (n_1.L.length:Int))))
  (Da.j2 y_2 y_3 y_4 y_5 y_6 y_7 y_8 y_9 y_10 y_11 y_12 y_13 n_1 l_1 false)
def Da (v:Aa):Option (Ab×Bool):=
 (It v).bind fun y=>
 (D9 y).bind fun y_2=>
 (Db y_2.1).bind fun y_3=>
 (D8 y_3.2).bind fun y_4=>
 (D8 y_4.2).bind fun y_5=>
 (C4 y_5.2).bind fun y_6=>
 (Db y_6.2).bind fun y_7=>
 (C4 y_7.2).bind fun y_8=>
 (Db y_8.2).bind fun y_9=>
 (Db y_9.2).bind fun y_10=>
 (He y_10.2).bind fun y_11=>
 (Db y_11.2).bind fun y_12=>
 (D9 y_12.2).bind fun y_13=>
 Dl (fun q'=>Da.l1 y_2 y_3 y_4 y_5 y_6 y_7 y_8 y_9 y_10 y_11 y_12 y_13 q'.1 q'.2) (y_13.1,([]:List ByteArray))
def In (b:(List UInt8)):Option (Ab×Int):=
 (D3 b).bind fun y=>
 cond (!decide (y.2=0))
  (some ((Ab.mk 0 (⟨#[]⟩:ByteArray) (⟨#[]⟩:ByteArray) (A3.mk 0 0) 0 (A3.mk 0 0) 0 0 false 0 ([]:(List ByteArray)) (Bv.mk 0 0)),y.2))
  ((Da y.1).bind fun y_2=>
  cond (!y_2.2)
   (some ((Ab.mk 0 (⟨#[]⟩:ByteArray) (⟨#[]⟩:ByteArray) (A3.mk 0 0) 0 (A3.mk 0 0) 0 0 false 0 ([]:(List ByteArray)) (Bv.mk 0 0)),1))
   ((Ar y_2.1).bind fun y_3=>
   cond (!decide (y_3=0))
    (some ((Ab.mk 0 (⟨#[]⟩:ByteArray) (⟨#[]⟩:ByteArray) (A3.mk 0 0) 0 (A3.mk 0 0) 0 0 false 0 ([]:(List ByteArray)) (Bv.mk 0 0)),9))
    (some (y_2.1,0))))
def Dq.l1 (a:(List ByteArray)) (b:(List ByteArray)) (i_1:Int):Option (Lp (Int) (Bool)):=
 cond (decide (i_1 < (a.length:Int)))
  ((Dd a i_1).bind fun e=>
  (Dd b i_1).bind fun e_2=>
  cond (!decide (e=e_2))
   (up (some false))
   (some (.next (W (i_1 + 1)))))
  (up (
   some true))
def Dq (a:(List ByteArray)) (b:(List ByteArray)):Option (Bool):=
 cond (!decide ((a.length:Int)=(b.length:Int)))
  (some false)
  (Dl (fun q'=>Dq.l1 a b q') 0)
def J0 (a:Ab) (b:Ab):Option (Bool):=
 cond (decide (a.Serial=b.Serial))
  (cond (decide (a.Issuer=b.Issuer))
   (cond (decide (a.Subject=b.Subject))
    (cond (decide (a.Key=b.Key))
     (cond (decide (a.KeyId=b.KeyId))
      (cond (decide (a.Hash=b.Hash))
       (cond (decide (a.From=b.From))
        (cond (decide (a.To=b.To))
         (cond (decide (a.Authority=b.Authority))
          (cond (decide (a.Path=b.Path))
           ((Dq a.Names b.Names).bind fun y=>
           cond (y)
            (some (decide (a.Seal=b.Seal)))
            (some false))
           (some false))
          (some false))
         (some false))
        (some false))
       (some false))
      (some false))
     (some false))
    (some false))
   (some false))
  (some false)
def An.j4 (raw:(List UInt8)) (i_3:Int) (x136_4:Bool):Option (Lp (List UInt8×Int) (Bool)):=
 cond (x136_4)
  (up (some false))
  (some (.next (raw,W (i_3 + 1))))
def An.l3 (raw:(List UInt8)) (b_3:List UInt8) (i_3:Int):Option (Lp (List UInt8×Int) (Bool)):=
 cond (decide (i_3 < 2))
  ((E2 b_3).bind fun y_17=>
  (In b_3).bind fun y_18=>
  cond (!decide (y_17.2=y_18.2))
   (An.j4 raw i_3 true)
   ((J0 y_17.1 y_18.1).bind fun y_19=>
   An.j4 raw i_3 (!y_19)))
  (up (
   (G5).bind fun y_20=>
   some y_20))
def An.j2 (raw:(List UInt8)) (y_5:Aa) (l_2_2:List Aa):Option (Bool):=
 (Hl (Aa.mk y_5.Tag y_5.Bytes y_5.Nested l_2_2)).bind fun y_16=>
 Dl (fun q'=>An.l3 raw q'.1 q'.2) (y_16.1,0)
def An.j1 (l:(List Int)) (raw:(List UInt8)) (x23_1:Bool):Option (Bool):=
 cond (x23_1)
  ((G5).bind fun y_2=>
  some y_2)
  ((Mu l).bind fun y_3=>
  (Cz y_3).bind fun y_4=>
  (G2 y_4.1).bind fun y_5=>
  (Cs y_4.2 2).bind fun y_6=>
  (Dd y_5.Elements y_6.1).bind fun e=>
  (Cs y_6.2 (e.Elements.length:Int)).bind fun y_7=>
  (Cs y_7.2 5).bind fun y_8=>
  cond (decide (y_8.1=0))
   ((Cs y_8.2 300).bind fun y_9=>
   (Bf y_9.1).bind fun y_10=>
   (Gn 256 e.Elements ([(Aa.mk 0 ([]:(List UInt8)) false ([]:(List Aa)))]:List Aa)).bind fun l_2=>
   (Dd l_2 (e.Elements.length:Int)).bind fun e_2=>
   An.j2 raw y_5 (Ir y_5.Elements ((y_6.1).toNat) (Aa.mk e.Tag e.Bytes e.Nested (Ir l_2 (((e.Elements.length:Int)).toNat) y_10))))
   (cond (decide (y_8.1=1))
    ((Q7 e.Elements 0 y_7.1).bind fun l_3=>
    (Q7 e.Elements (W (y_7.1 + 1)) (e.Elements.length:Int)).bind fun l_4=>
    (Gn 256 ((e.Elements.drop (0:Int).toNat).take ((y_7.1:Int).toNat - (0:Int).toNat)) ((e.Elements.drop ((W (y_7.1 + 1):Int).toNat)).take (((e.Elements.length:Int):Int).toNat - (W (y_7.1 + 1):Int).toNat))).bind fun l_5=>
    An.j2 raw y_5 (Ir y_5.Elements ((y_6.1).toNat) (Aa.mk e.Tag e.Bytes e.Nested l_5)))
    (cond (decide (y_8.1=2))
     ((En y_8.2 ([(⟨#[97]⟩:ByteArray),(⟨#[]⟩:ByteArray)]:List ByteArray)).bind fun y_11=>
     (Fa y_11.1).bind fun y_12=>
     (Dd e.Elements y_7.1).bind fun e_3=>
     An.j2 raw y_5 (Ir y_5.Elements ((y_6.1).toNat) (Aa.mk e.Tag e.Bytes e.Nested (Ir e.Elements ((y_7.1).toNat) y_12))))
     (cond (decide (y_8.1=3))
      ((Bo y_8.2 ([3,-1,2199023255552]:List Int)).bind fun y_13=>
      (Bf y_13.1).bind fun y_14=>
      (Dd e.Elements y_7.1).bind fun e_4=>
      An.j2 raw y_5 (Ir y_5.Elements ((y_6.1).toNat) (Aa.mk e.Tag e.Bytes e.Nested (Ir e.Elements ((y_7.1).toNat) y_14))))
      ((Fr ([]:(List Aa))).bind fun y_15=>
      (Dd e.Elements y_7.1).bind fun e_5=>
      An.j2 raw y_5 (Ir y_5.Elements ((y_6.1).toNat) (Aa.mk e.Tag e.Bytes e.Nested (Ir e.Elements ((y_7.1).toNat) y_15))))))))
def An (l:(List Int)) (raw:(List UInt8)):Option (Bool):=
 (Lh l).bind fun y=>
 cond (!y)
  (An.j1 l raw true)
  (An.j1 l raw (decide (300 < (raw.length:Int))))
end
end Go.Proofs.YtlfeokjhphpjeaaGreat
