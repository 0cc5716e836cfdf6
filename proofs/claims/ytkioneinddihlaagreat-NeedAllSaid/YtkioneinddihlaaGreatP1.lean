import Derived.Test.YtkioneinddihlaaGreatPU
set_option linter.unusedVariables false
set_option linter.unusedSimpArgs false
namespace Go.Proofs.YtkioneinddihlaaGreat
noncomputable section
structure Ac where
 First:Int
 Then:Int
 deriving DecidableEq,Inhabited
structure Ab where
 L:(List Int)
 At:Int
 deriving DecidableEq,Inhabited
structure Av where
 Alg:Int
 Bits:Int
 deriving DecidableEq,Inhabited
structure Eb where
 Key:Int
 Sum:Int
 deriving DecidableEq,Inhabited
structure Ah where
 Serial:Int
 Issuer:ByteArray
 Subject:ByteArray
 Key:Av
 KeyId:Int
 Hash:Av
 From:Int
 To:Int
 Authority:Bool
 Path:Int
 Names:(List ByteArray)
 Seal:Eb
 deriving DecidableEq,Inhabited
structure A4 where
 Key:Av
 KeyId:Int
 Chain:(List Ah)
 deriving DecidableEq,Inhabited
structure Al where
 Name:ByteArray
 Least:Int
 Most:Int
 Suites:(List Int)
 OwnOrder:Bool
 Identities:(List A4)
 Anchors:(List Int)
 Hashes:(List Int)
 Fallback:Bool
 deriving DecidableEq,Inhabited
structure Aw where
 Client:Int
 Server:Int
 deriving DecidableEq,Inhabited
structure Dy where
 Use:Av
 Day:Int
 deriving DecidableEq,Inhabited
structure Bp where
 Name:ByteArray
 Kind:Int
 Purpose:Int
 Links:(List Dy)
 Until:Int
 deriving DecidableEq,Inhabited
structure An where
 Endpoints:(List Al)
 Edges:(List Aw)
 Items:(List Bp)
 deriving DecidableEq,Inhabited
structure Ae where
 Endpoint:Int
 Kind:Int
 Number:Int
 At:Int
 Identity:A4
 deriving DecidableEq,Inhabited
structure Aa where
 First:Int
 Then:Int
 deriving DecidableEq,Inhabited
structure As where
 name:ByteArray
 kind:Int
 deriving DecidableEq,Inhabited
structure Ai where
 Tag:Int
 Bytes:(List UInt8)
 Nested:Bool
 Elements:(List Ai)
structure A7 where
 Code:Int
 Name:ByteArray
 Exchange:Av
 Sign:Av
 Cipher:Av
 Mac:Av
 Least:Int
 Most:Int
 deriving DecidableEq,Inhabited
structure Cg where
 name:ByteArray
 kind:Int
 way:Int
 sizes:(List Int)
 strengths:(List Int)
 deriving DecidableEq,Inhabited
def M8 (l:(List Int)):Option (Bool):=
 some (decide ((l.length:Int)<=400))
def Cs.j3 (more_3:Bool):Option (Int):=
 cond (more_3)
  (some 2)
  (some 3)
def Cs.j2 (e:Al) (c:Ae) (x13_2:Bool):Option (Int):=
 cond (x13_2)
  (Cs.j3 true)
  (cond (decide (c.Kind=3))
   (Cs.j3 (decide (e.Most < c.Number)))
   (cond (decide (c.Kind=4))
    (Cs.j3 (decide (c.Number < e.Least)))
    (cond (decide (c.Kind=11))
     (Cs.j3 (decide (c.Number=1)))
     (Cs.j3 false))))
def Cs.j1 (e:Al) (c:Ae) (x8_1:Bool):Option (Int):=
 cond (x8_1)
  (some 0)
  (cond (decide (c.Kind=5))
   (some 1)
   (cond (decide (c.Kind=1))
    (Cs.j2 e c (decide (c.Kind=1)))
    (Cs.j2 e c (decide (c.Kind=12)))))
def Cs (e:Al) (c:Ae):Option (Int):=
 cond (decide (c.Kind=7))
  (Cs.j1 e c (decide (c.Kind=7)))
  (Cs.j1 e c (decide (c.Kind=9)))
def Bu.j3 (x_3:Int) (n_3:Int):Option (Int):=
 (idxT (⟨#[0,1,2,2,3,3,3,3,4,4,4,4,4,4,4,4,5,5,5,5,5,5,5,5,5,5,5,5,5,5,5,5,6,6,6,6,6,6,6,6,6,6,6,6,6,6,6,6,6,6,6,6,6,6,6,6,6,6,6,6,6,6,6,6,7,7,7,7,7,7,7,7,7,7,7,7,7,7,7,7,7,7,7,7,7,7,7,7,7,7,7,7,7,7,7,7,7,7,7,7,7,7,7,7,7,7,7,7,7,7,7,7,7,7,7,7,7,7,7,7,7,7,7,7,7,7,7,7,8,8,8,8,8,8,8,8,8,8,8,8,8,8,8,8,8,8,8,8,8,8,8,8,8,8,8,8,8,8,8,8,8,8,8,8,8,8,8,8,8,8,8,8,8,8,8,8,8,8,8,8,8,8,8,8,8,8,8,8,8,8,8,8,8,8,8,8,8,8,8,8,8,8,8,8,8,8,8,8,8,8,8,8,8,8,8,8,8,8,8,8,8,8,8,8,8,8,8,8,8,8,8,8,8,8,8,8,8,8,8,8,8,8,8,8,8,8,8,8,8,8,8,8,8,8,8,8]⟩:ByteArray) ((u8 x_3).toNat:Int)).bind fun c=>
 some (W (n_3 + (c.toNat:Int)))
def Bu.j2 (x_2:Int) (n_2:Int):Option (Int):=
 cond (decide (256<=x_2))
  ((S0 .u64 x_2 8).bind fun q_3=>
  Bu.j3 q_3 (W (n_2 + 8)))
  (Bu.j3 x_2 n_2)
def Bu.j1 (x_1:Int) (n_1:Int):Option (Int):=
 cond (decide (65536<=x_1))
  ((S0 .u64 x_1 16).bind fun q_2=>
  Bu.j2 q_2 (W (n_1 + 16)))
  (Bu.j2 x_1 n_1)
def Bu (x':Int):Option (Int):=
 cond (decide (4294967296<=x'))
  ((S0 .u64 x' 32).bind fun q=>
  Bu.j1 q 32)
  (Bu.j1 x' 0)
def He (x':Int):Option (Int):=
 (Bu x').bind fun y=>
 some y
def Jk (x':Int):Option (Bool):=
 some (!decide (x'=x'))
def G9 (x':Int) (y:Int):Option (Int):=
 (Jk x').bind fun y_2=>
 (Jk y).bind fun y_3=>
 cond (y_2)
  (cond (y_3)
   (some 0)
   (some (-1)))
  (cond (y_3)
   (some 1)
   (cond (decide (x' < y))
    (some (-1))
    (cond (decide (y < x'))
     (some 1)
     (some 0))))
def E3.l1 (vals:(List Int)) (x8_1:Int):Option (Lp (Int) (Int)):=
 cond (decide (x8_1 < (vals.length:Int)))
  ((Bo vals x8_1).bind fun e=>
  cond (!decide (e=0))
   (up (some e))
   (some (.next (W (x8_1 + 1)))))
  (up (
   some 0))
def E3 (vals:(List Int)):Option (Int):=
 B1 (fun q'=>E3.l1 vals q') 0
def Eu (r':Aa) (s:Aa):Option (Int):=
 (G9 r'.First s.First).bind fun y=>
 (G9 r'.Then s.Then).bind fun y_2=>
 (E3 ([y,y_2]:List Int)).bind fun y_3=>
 some y_3
def Ap.j3 (i_1:Int) (j_2:Int) (data_2:List Aa) (x34_3:Bool):Option (Lp (Int×List Aa) (Lp (Int×List Aa) ((List Aa)))):=
 cond (x34_3)
  ((Bo data_2 (W (j_2 - 1))).bind fun e_3=>
  (Bo data_2 j_2).bind fun e_4=>
  (Bo (Dj data_2 ((j_2).toNat) e_3) (W (j_2 - 1))).bind fun e_5=>
  some (.next (W (j_2 - 1),Dj (Dj data_2 ((j_2).toNat) e_3) ((W (j_2 - 1)).toNat) e_4)))
  (up (
   some (.next (W (i_1 + 1),data_2))))
def Ap.l2 (a:Int) (cmp:Aa->Aa->Option (Int)) (i_1:Int) (j_2:Int) (data_2:List Aa):Option (Lp (Int×List Aa) (Lp (Int×List Aa) ((List Aa)))):=
 cond (decide (a < j_2))
  ((Bo data_2 j_2).bind fun e=>
  (Bo data_2 (W (j_2 - 1))).bind fun e_2=>
  (cmp e e_2).bind fun y=>
  Ap.j3 i_1 j_2 data_2 (decide (y < 0)))
  (Ap.j3 i_1 j_2 data_2 false)
def Ap.l1 (a:Int) (b:Int) (cmp:Aa->Aa->Option (Int)) (i_1:Int) (data_1:List Aa):Option (Lp (Int×List Aa) ((List Aa))):=
 cond (decide (i_1 < b))
  (B1 (fun q'=>Ap.l2 a cmp i_1 q'.1 q'.2) (i_1,data_1))
  (up (some data_1))
def Ap (data:List Aa) (a:Int) (b:Int) (cmp:Aa->Aa->Option (Int)):Option ((List Aa)):=
 B1 (fun q'=>Ap.l1 a b cmp q'.1 q'.2) (W (a + 1),data)
def Ao.j3 (first:Int) (cmp:Aa->Aa->Option (Int)) (root_1:Int) (data_1:List Aa) (child_3:Int):Option (Lp (Int×List Aa) ((List Aa))):=
 (Bo data_1 (W (first + root_1))).bind fun e_3=>
 (Bo data_1 (W (first + child_3))).bind fun e_4=>
 (cmp e_3 e_4).bind fun y_2=>
 cond (!(decide (y_2 < 0)))
  (up (some data_1))
  ((Bo (Dj data_1 ((W (first + root_1)).toNat) e_4) (W (first + child_3))).bind fun e_5=>
  some (.next (child_3,Dj (Dj data_1 ((W (first + root_1)).toNat) e_4) ((W (first + child_3)).toNat) e_3)))
def Ao.j2 (first:Int) (cmp:Aa->Aa->Option (Int)) (root_1:Int) (data_1:List Aa) (x40_2:Bool):Option (Lp (Int×List Aa) ((List Aa))):=
 cond (x40_2)
  (Ao.j3 first cmp root_1 data_1 (W ((W ((W (2 * root_1)) + 1)) + 1)))
  (Ao.j3 first cmp root_1 data_1 (W ((W (2 * root_1)) + 1)))
def Ao.l1 (hi:Int) (first:Int) (cmp:Aa->Aa->Option (Int)) (root_1:Int) (data_1:List Aa):Option (Lp (Int×List Aa) ((List Aa))):=
 cond (decide (hi<=(W ((W (2 * root_1)) + 1))))
  (up (some data_1))
  (cond (decide ((W ((W ((W (2 * root_1)) + 1)) + 1)) < hi))
   ((Bo data_1 (W (first + (W ((W (2 * root_1)) + 1))))).bind fun e=>
   (Bo data_1 (W ((W (first + (W ((W (2 * root_1)) + 1)))) + 1))).bind fun e_2=>
   (cmp e e_2).bind fun y=>
   Ao.j2 first cmp root_1 data_1 (decide (y < 0)))
   (Ao.j2 first cmp root_1 data_1 false))
def Ao (data:List Aa) (lo:Int) (hi:Int) (first:Int) (cmp:Aa->Aa->Option (Int)):Option ((List Aa)):=
 B1 (fun q'=>Ao.l1 hi first cmp q'.1 q'.2) (lo,data)
def A1.l2 (a:Int) (cmp:Aa->Aa->Option (Int)) (i_2:Int) (data_2:List Aa):Option (Lp (Int×List Aa) ((List Aa))):=
 cond (decide (0<=i_2))
  ((Bo data_2 (W (a + i_2))).bind fun e=>
  (Bo data_2 a).bind fun e_2=>
  (Bo (Dj data_2 ((a).toNat) e) (W (a + i_2))).bind fun e_3=>
  (Ao (Dj (Dj data_2 ((a).toNat) e) ((W (a + i_2)).toNat) e_2) 0 i_2 a cmp).bind fun y_2=>
  some (.next (W (i_2 - 1),y_2)))
  (up (some data_2))
def A1.l1 (a:Int) (b:Int) (cmp:Aa->Aa->Option (Int)) (i_1:Int) (data_1:List Aa):Option (Lp (Int×List Aa) ((List Aa))):=
 cond (decide (0<=i_1))
  ((Ao data_1 i_1 (W (b - a)) a cmp).bind fun y=>
  some (.next (W (i_1 - 1),y)))
  (up (
   B1 (fun q'=>A1.l2 a cmp q'.1 q'.2) (W ((W (b - a)) - 1),data_1)))
def A1 (data:List Aa) (a:Int) (b:Int) (cmp:Aa->Aa->Option (Int)):Option ((List Aa)):=
 (Ml (W ((W (b - a)) - 1)) 2).bind fun q=>
 B1 (fun q'=>A1.l1 a b cmp q'.1 q'.2) (q,data)
def F7 (length:Int):Option (Int):=
 (He (IntKind.wrap .u64 length)).bind fun y=>
 (bG .u64 1 y).bind fun q=>
 some q
def Gg (r':Int):Option (Int×Int):=
 (bG .u64 r' 13).bind fun q=>
 (S0 .u64 (Qj .u64 r' q) 7).bind fun q_2=>
 (bG .u64 (Qj .u64 (Qj .u64 r' q) q_2) 17).bind fun q_3=>
 some (Qj .u64 (Qj .u64 (Qj .u64 r' q) q_2) q_3,Qj .u64 (Qj .u64 (Qj .u64 r' q) q_2) q_3)
def Az.j2 (a:Int) (idx_1:Int) (data_1:List Aa) (y_2:Int×Int) (other_2:Int):Option (Lp (Int×List Aa×Int) ((List Aa))):=
 (Bo data_1 (W (a + other_2))).bind fun e=>
 (Bo data_1 idx_1).bind fun e_2=>
 (Bo (Dj data_1 ((idx_1).toNat) e) (W (a + other_2))).bind fun e_3=>
 some (.next (W (idx_1 + 1),Dj (Dj data_1 ((idx_1).toNat) e) ((W (a + other_2)).toNat) e_2,y_2.2))
def Az.l1 (a:Int) (b:Int) (y:Int) (idx_1:Int) (data_1:List Aa) (random_1:Int):Option (Lp (Int×List Aa×Int) ((List Aa))):=
 (Ml (W (b - a)) 4).bind fun q_2=>
 cond (decide (idx_1<=(W ((W (a + (W (q_2 * 2)))) + 1))))
  ((Gg random_1).bind fun y_2=>
  cond (decide ((W (b - a))<=(W (nP .u64 y_2.1 (IntKind.wrap .u64 (y - 1))))))
   (Az.j2 a idx_1 data_1 y_2 (W ((W (nP .u64 y_2.1 (IntKind.wrap .u64 (y - 1)))) - (W (b - a)))))
   (Az.j2 a idx_1 data_1 y_2 (W (nP .u64 y_2.1 (IntKind.wrap .u64 (y - 1))))))
  (up (some data_1))
def Az (data:List Aa) (a:Int) (b:Int) (cmp:Aa->Aa->Option (Int)):Option ((List Aa)):=
 cond (decide (8<=(W (b - a))))
  ((F7 (W (b - a))).bind fun y=>
  (Ml (W (b - a)) 4).bind fun q=>
  B1 (fun q'=>Az.l1 a b y q'.1 q'.2.1 q'.2.2) (W ((W (a + (W (q * 2)))) - 1),data,IntKind.wrap .u64 (W (b - a))))
  (some data)
def Df (data:(List Aa)) (a:Int) (b:Int) (swaps:Int) (cmp:Aa->Aa->Option (Int)):Option (Int×Int×Int):=
 (Bo data b).bind fun e=>
 (Bo data a).bind fun e_2=>
 (cmp e e_2).bind fun y=>
 cond (decide (y < 0))
  (some (b,a,W (swaps + 1)))
  (some (a,b,swaps))
def Do (data:(List Aa)) (a:Int) (b:Int) (c:Int) (swaps:Int) (cmp:Aa->Aa->Option (Int)):Option (Int×Int):=
 (Df data a b swaps cmp).bind fun y=>
 (Df data y.2.1 c y.2.2 cmp).bind fun y_2=>
 (Df data y.1 y_2.1 y_2.2.2 cmp).bind fun y_3=>
 some (y_3.2.1,y_3.2.2)
def Cm (data:(List Aa)) (a:Int) (swaps:Int) (cmp:Aa->Aa->Option (Int)):Option (Int×Int):=
 (Do data (W (a - 1)) a (W (a + 1)) swaps cmp).bind fun y=>
 some (y.1,y.2)
def A5.j2 (j_2:Int) (swaps_2:Int):Option (Int×Int):=
 cond (decide (swaps_2=0))
  (some (j_2,1))
  (cond (decide (swaps_2=12))
   (some (j_2,2))
   (some (j_2,0)))
def A5.j1 (data:(List Aa)) (cmp:Aa->Aa->Option (Int)) (i_1:Int) (j_1:Int) (k_1:Int) (swaps_1:Int):Option (Int×Int):=
 (Do data i_1 j_1 k_1 swaps_1 cmp).bind fun y_4=>
 A5.j2 y_4.1 y_4.2
def A5 (data:(List Aa)) (a:Int) (b:Int) (cmp:Aa->Aa->Option (Int)):Option (Int×Int):=
 (Ml (W (b - a)) 4).bind fun q=>
 (Ml (W (b - a)) 4).bind fun q_2=>
 (Ml (W (b - a)) 4).bind fun q_3=>
 cond (decide (8<=(W (b - a))))
  (cond (decide (50<=(W (b - a))))
   ((Cm data (W (a + (W (q * 1)))) 0 cmp).bind fun y=>
   (Cm data (W (a + (W (q_2 * 2)))) y.2 cmp).bind fun y_2=>
   (Cm data (W (a + (W (q_3 * 3)))) y_2.2 cmp).bind fun y_3=>
   A5.j1 data cmp y.1 y_2.1 y_3.1 y_3.2)
   (A5.j1 data cmp (W (a + (W (q * 1)))) (W (a + (W (q_2 * 2)))) (W (a + (W (q_3 * 3)))) 0))
  (A5.j2 (W (a + (W (q_2 * 2)))) 0)
def Bg.l1 (i_1:Int) (j_1:Int) (data_1:List Aa):Option (Lp (Int×Int×List Aa) ((List Aa))):=
 cond (decide (i_1 < j_1))
  ((Bo data_1 j_1).bind fun e=>
  (Bo data_1 i_1).bind fun e_2=>
  (Bo (Dj data_1 ((i_1).toNat) e) j_1).bind fun e_3=>
  some (.next (W (i_1 + 1),W (j_1 - 1),Dj (Dj data_1 ((i_1).toNat) e) ((j_1).toNat) e_2)))
  (up (some data_1))
def Bg (data:List Aa) (a:Int) (b:Int) (cmp:Aa->Aa->Option (Int)):Option ((List Aa)):=
 B1 (fun q'=>Bg.l1 q'.1 q'.2.1 q'.2.2) (a,W (b - 1),data)
def Ad.j7 (j_1:Int) (i_7:Int) (data_7:List Aa):Option (Lp (Int×Int×List Aa) (Bool×(List Aa))):=
 some (.next (i_7,W (j_1 + 1),data_7))
def Ad.l6 (b:Int) (cmp:Aa->Aa->Option (Int)) (j_1:Int) (i_2:Int) (j_6:Int) (data_6:List Aa):Option (Lp (Int×List Aa) (Lp (Int×Int×List Aa) (Bool×(List Aa)))):=
 cond (decide (j_6 < b))
  ((Bo data_6 j_6).bind fun e_9=>
  (Bo data_6 (W (j_6 - 1))).bind fun e_10=>
  (cmp e_9 e_10).bind fun y_3=>
  cond (!(decide (y_3 < 0)))
   (up (
    Ad.j7 j_1 i_2 data_6))
   ((Bo (Dj data_6 ((j_6).toNat) e_10) (W (j_6 - 1))).bind fun e_11=>
   some (.next (W (j_6 + 1),Dj (Dj data_6 ((j_6).toNat) e_10) ((W (j_6 - 1)).toNat) e_9))))
  (up (
   Ad.j7 j_1 i_2 data_6))
def Ad.j5 (b:Int) (cmp:Aa->Aa->Option (Int)) (j_1:Int) (i_2:Int) (data_5:List Aa):Option (Lp (Int×Int×List Aa) (Bool×(List Aa))):=
 cond (decide (2<=(W (b - i_2))))
  (B1 (fun q'=>Ad.l6 b cmp j_1 i_2 q'.1 q'.2) (W (i_2 + 1),data_5))
  (Ad.j7 j_1 i_2 data_5)
def Ad.l4 (b:Int) (cmp:Aa->Aa->Option (Int)) (j_1:Int) (i_2:Int) (j_4:Int) (data_4:List Aa):Option (Lp (Int×List Aa) (Lp (Int×Int×List Aa) (Bool×(List Aa)))):=
 cond (decide (1<=j_4))
  ((Bo data_4 j_4).bind fun e_6=>
  (Bo data_4 (W (j_4 - 1))).bind fun e_7=>
  (cmp e_6 e_7).bind fun y_2=>
  cond (!(decide (y_2 < 0)))
   (up (
    Ad.j5 b cmp j_1 i_2 data_4))
   ((Bo (Dj data_4 ((j_4).toNat) e_7) (W (j_4 - 1))).bind fun e_8=>
   some (.next (W (j_4 - 1),Dj (Dj data_4 ((j_4).toNat) e_7) ((W (j_4 - 1)).toNat) e_6))))
  (up (
   Ad.j5 b cmp j_1 i_2 data_4))
def Ad.j3 (a:Int) (b:Int) (cmp:Aa->Aa->Option (Int)) (j_1:Int) (data_1:List Aa) (i_2:Int) (x36_3:Bool):Option (Lp (Int) (Lp (Int×Int×List Aa) (Bool×(List Aa)))):=
 cond (x36_3)
  (some (.next (W (i_2 + 1))))
  (up (
   cond (decide (i_2=b))
    (up (some (true,data_1)))
    (cond (decide ((W (b - a)) < 50))
     (up (some (false,data_1)))
     ((Bo data_1 (W (i_2 - 1))).bind fun e_3=>
     (Bo data_1 i_2).bind fun e_4=>
     (Bo (Dj data_1 ((i_2).toNat) e_3) (W (i_2 - 1))).bind fun e_5=>
     cond (decide (2<=(W (i_2 - a))))
      (B1 (fun q'=>Ad.l4 b cmp j_1 i_2 q'.1 q'.2) (W (i_2 - 1),Dj (Dj data_1 ((i_2).toNat) e_3) ((W (i_2 - 1)).toNat) e_4))
      (Ad.j5 b cmp j_1 i_2 (Dj (Dj data_1 ((i_2).toNat) e_3) ((W (i_2 - 1)).toNat) e_4))))))
def Ad.l2 (a:Int) (b:Int) (cmp:Aa->Aa->Option (Int)) (j_1:Int) (data_1:List Aa) (i_2:Int):Option (Lp (Int) (Lp (Int×Int×List Aa) (Bool×(List Aa)))):=
 cond (decide (i_2 < b))
  ((Bo data_1 i_2).bind fun e=>
  (Bo data_1 (W (i_2 - 1))).bind fun e_2=>
  (cmp e e_2).bind fun y=>
  Ad.j3 a b cmp j_1 data_1 i_2 (!(decide (y < 0))))
  (Ad.j3 a b cmp j_1 data_1 i_2 false)
def Ad.l1 (a:Int) (b:Int) (cmp:Aa->Aa->Option (Int)) (i_1:Int) (j_1:Int) (data_1:List Aa):Option (Lp (Int×Int×List Aa) (Bool×(List Aa))):=
 cond (decide (j_1 < 5))
  (B1 (fun q'=>Ad.l2 a b cmp j_1 data_1 q') i_1)
  (up (
   some (false,data_1)))
def Ad (data:List Aa) (a:Int) (b:Int) (cmp:Aa->Aa->Option (Int)):Option (Bool×(List Aa)):=
 B1 (fun q'=>Ad.l1 a b cmp q'.1 q'.2.1 q'.2.2) (W (a + 1),0,data)
def Am.j5 (data_1:List Aa) (i_2:Int) (j_4:Int) (x65_5:Bool):Option (Lp (Int) (Lp (Int×Int×List Aa) (Int×(List Aa)))):=
 cond (x65_5)
  (some (.next (W (j_4 - 1))))
  (up (
   cond (decide (j_4 < i_2))
    (up (
     some (i_2,data_1)))
    ((Bo data_1 j_4).bind fun e_8=>
    (Bo data_1 i_2).bind fun e_9=>
    (Bo (Dj data_1 ((i_2).toNat) e_8) j_4).bind fun e_10=>
    some (.next (W (i_2 + 1),W (j_4 - 1),Dj (Dj data_1 ((i_2).toNat) e_8) ((j_4).toNat) e_9)))))
def Am.l4 (a:Int) (cmp:Aa->Aa->Option (Int)) (data_1:List Aa) (i_2:Int) (j_4:Int):Option (Lp (Int) (Lp (Int×Int×List Aa) (Int×(List Aa)))):=
 cond (decide (i_2<=j_4))
  ((Bo data_1 a).bind fun e_6=>
  (Bo data_1 j_4).bind fun e_7=>
  (cmp e_6 e_7).bind fun y_2=>
  Am.j5 data_1 i_2 j_4 (decide (y_2 < 0)))
  (Am.j5 data_1 i_2 j_4 false)
def Am.j3 (a:Int) (cmp:Aa->Aa->Option (Int)) (j_1:Int) (data_1:List Aa) (i_2:Int) (x47_3:Bool):Option (Lp (Int) (Lp (Int×Int×List Aa) (Int×(List Aa)))):=
 cond (x47_3)
  (some (.next (W (i_2 + 1))))
  (up (
   B1 (fun q'=>Am.l4 a cmp data_1 i_2 q') j_1))
def Am.l2 (a:Int) (cmp:Aa->Aa->Option (Int)) (j_1:Int) (data_1:List Aa) (i_2:Int):Option (Lp (Int) (Lp (Int×Int×List Aa) (Int×(List Aa)))):=
 cond (decide (i_2<=j_1))
  ((Bo data_1 a).bind fun e_4=>
  (Bo data_1 i_2).bind fun e_5=>
  (cmp e_4 e_5).bind fun y=>
  Am.j3 a cmp j_1 data_1 i_2 (!(decide (y < 0))))
  (Am.j3 a cmp j_1 data_1 i_2 false)
def Am.l1 (a:Int) (cmp:Aa->Aa->Option (Int)) (i_1:Int) (j_1:Int) (data_1:List Aa):Option (Lp (Int×Int×List Aa) (Int×(List Aa))):=
 B1 (fun q'=>Am.l2 a cmp j_1 data_1 q') i_1
def Am (data:List Aa) (a:Int) (b:Int) (pivot:Int) (cmp:Aa->Aa->Option (Int)):Option (Int×(List Aa)):=
 (Bo data pivot).bind fun e=>
 (Bo data a).bind fun e_2=>
 (Bo (Dj data ((a).toNat) e) pivot).bind fun e_3=>
 B1 (fun q'=>Am.l1 a cmp q'.1 q'.2.1 q'.2.2) (W (a + 1),W (b - 1),Dj (Dj data ((a).toNat) e) ((pivot).toNat) e_2)
def Af.j9 (a:Int) (data_5:List Aa) (i_6:Int) (j_8:Int) (x139_9:Bool):Option (Lp (Int) (Lp (Int×Int×List Aa) (Int×Bool×(List Aa)))):=
 cond (x139_9)
  (some (.next (W (j_8 - 1))))
  (up (
   cond (decide (j_8 < i_6))
    (up (
     (Bo data_5 a).bind fun e_21=>
     (Bo data_5 j_8).bind fun e_22=>
     (Bo (Dj data_5 ((j_8).toNat) e_21) a).bind fun e_23=>
     some (j_8,false,Dj (Dj data_5 ((j_8).toNat) e_21) ((a).toNat) e_22)))
    ((Bo data_5 j_8).bind fun e_18=>
    (Bo data_5 i_6).bind fun e_19=>
    (Bo (Dj data_5 ((i_6).toNat) e_18) j_8).bind fun e_20=>
    some (.next (W (i_6 + 1),W (j_8 - 1),Dj (Dj data_5 ((i_6).toNat) e_18) ((j_8).toNat) e_19)))))
def Af.l8 (a:Int) (cmp:Aa->Aa->Option (Int)) (data_5:List Aa) (i_6:Int) (j_8:Int):Option (Lp (Int) (Lp (Int×Int×List Aa) (Int×Bool×(List Aa)))):=
 cond (decide (i_6<=j_8))
  ((Bo data_5 j_8).bind fun e_16=>
  (Bo data_5 a).bind fun e_17=>
  (cmp e_16 e_17).bind fun y_4=>
  Af.j9 a data_5 i_6 j_8 (!(decide (y_4 < 0))))
  (Af.j9 a data_5 i_6 j_8 false)
def Af.j7 (a:Int) (cmp:Aa->Aa->Option (Int)) (j_5:Int) (data_5:List Aa) (i_6:Int) (x120_7:Bool):Option (Lp (Int) (Lp (Int×Int×List Aa) (Int×Bool×(List Aa)))):=
 cond (x120_7)
  (some (.next (W (i_6 + 1))))
  (up (
   B1 (fun q'=>Af.l8 a cmp data_5 i_6 q') j_5))
def Af.l6 (a:Int) (cmp:Aa->Aa->Option (Int)) (j_5:Int) (data_5:List Aa) (i_6:Int):Option (Lp (Int) (Lp (Int×Int×List Aa) (Int×Bool×(List Aa)))):=
 cond (decide (i_6<=j_5))
  ((Bo data_5 i_6).bind fun e_14=>
  (Bo data_5 a).bind fun e_15=>
  (cmp e_14 e_15).bind fun y_3=>
  Af.j7 a cmp j_5 data_5 i_6 (decide (y_3 < 0)))
  (Af.j7 a cmp j_5 data_5 i_6 false)
def Af.l5 (a:Int) (cmp:Aa->Aa->Option (Int)) (i_5:Int) (j_5:Int) (data_5:List Aa):Option (Lp (Int×Int×List Aa) (Int×Bool×(List Aa))):=
 B1 (fun q'=>Af.l6 a cmp j_5 data_5 q') i_5
def Af.j4 (data:List Aa) (a:Int) (pivot:Int) (cmp:Aa->Aa->Option (Int)) (e:Aa) (e_2:Aa) (i_1:Int) (j_3:Int) (x66_4:Bool):Option (Lp (Int) (Int×Bool×(List Aa))):=
 cond (x66_4)
  (some (.next (W (j_3 - 1))))
  (up (
   cond (decide (j_3 < i_1))
    ((Bo (Dj (Dj data ((a).toNat) e) ((pivot).toNat) e_2) a).bind fun e_8=>
    (Bo (Dj (Dj data ((a).toNat) e) ((pivot).toNat) e_2) j_3).bind fun e_9=>
    (Bo (Dj (Dj (Dj data ((a).toNat) e) ((pivot).toNat) e_2) ((j_3).toNat) e_8) a).bind fun e_10=>
    some (j_3,true,Dj (Dj (Dj (Dj data ((a).toNat) e) ((pivot).toNat) e_2) ((j_3).toNat) e_8) ((a).toNat) e_9))
    ((Bo (Dj (Dj data ((a).toNat) e) ((pivot).toNat) e_2) j_3).bind fun e_11=>
    (Bo (Dj (Dj data ((a).toNat) e) ((pivot).toNat) e_2) i_1).bind fun e_12=>
    (Bo (Dj (Dj (Dj data ((a).toNat) e) ((pivot).toNat) e_2) ((i_1).toNat) e_11) j_3).bind fun e_13=>
    B1 (fun q'=>Af.l5 a cmp q'.1 q'.2.1 q'.2.2) (W (i_1 + 1),W (j_3 - 1),Dj (Dj (Dj (Dj data ((a).toNat) e) ((pivot).toNat) e_2) ((i_1).toNat) e_11) ((j_3).toNat) e_12))))
def Af.l3 (data:List Aa) (a:Int) (pivot:Int) (cmp:Aa->Aa->Option (Int)) (e:Aa) (e_2:Aa) (i_1:Int) (j_3:Int):Option (Lp (Int) (Int×Bool×(List Aa))):=
 cond (decide (i_1<=j_3))
  ((Bo (Dj (Dj data ((a).toNat) e) ((pivot).toNat) e_2) j_3).bind fun e_6=>
  (Bo (Dj (Dj data ((a).toNat) e) ((pivot).toNat) e_2) a).bind fun e_7=>
  (cmp e_6 e_7).bind fun y_2=>
  Af.j4 data a pivot cmp e e_2 i_1 j_3 (!(decide (y_2 < 0))))
  (Af.j4 data a pivot cmp e e_2 i_1 j_3 false)
def Af.j2 (data:List Aa) (a:Int) (b:Int) (pivot:Int) (cmp:Aa->Aa->Option (Int)) (e:Aa) (e_2:Aa) (i_1:Int) (x47_2:Bool):Option (Lp (Int) (Int×Bool×(List Aa))):=
 cond (x47_2)
  (some (.next (W (i_1 + 1))))
  (up (
   B1 (fun q'=>Af.l3 data a pivot cmp e e_2 i_1 q') (W (b - 1))))
def Af.l1 (data:List Aa) (a:Int) (b:Int) (pivot:Int) (cmp:Aa->Aa->Option (Int)) (e:Aa) (e_2:Aa) (i_1:Int):Option (Lp (Int) (Int×Bool×(List Aa))):=
 cond (decide (i_1<=(W (b - 1))))
  ((Bo (Dj (Dj data ((a).toNat) e) ((pivot).toNat) e_2) i_1).bind fun e_4=>
  (Bo (Dj (Dj data ((a).toNat) e) ((pivot).toNat) e_2) a).bind fun e_5=>
  (cmp e_4 e_5).bind fun y=>
  Af.j2 data a b pivot cmp e e_2 i_1 (decide (y < 0)))
  (Af.j2 data a b pivot cmp e e_2 i_1 false)
def Af (data:List Aa) (a:Int) (b:Int) (pivot:Int) (cmp:Aa->Aa->Option (Int)):Option (Int×Bool×(List Aa)):=
 (Bo data pivot).bind fun e=>
 (Bo data a).bind fun e_2=>
 (Bo (Dj data ((a).toNat) e) pivot).bind fun e_3=>
 B1 (fun q'=>Af.l1 data a b pivot cmp e e_2 q') (W (a + 1))
def Aj.j6 (rec:(List Aa)->Int->Int->Int->Option ((List Aa))) (cmp:Aa->Aa->Option (Int)) (a_1:Int) (b_1:Int) (wasBalanced_1:Bool) (wasPartitioned_1:Bool) (limit_2:Int) (pivot_3:Int) (data_5:List Aa) (x97_6:Bool):Option (Lp (Int×Int×Int×Bool×Bool×List Aa) ((List Aa))):=
 cond (x97_6)
  ((Am data_5 a_1 b_1 pivot_3 cmp).bind fun y_8=>
  some (.next (y_8.1,b_1,limit_2,wasBalanced_1,wasPartitioned_1,y_8.2)))
  ((Af data_5 a_1 b_1 pivot_3 cmp).bind fun y_9=>
  (Ml (W (b_1 - a_1)) 8).bind fun q=>
  cond (decide ((W (y_9.1 - a_1)) < (W (b_1 - y_9.1))))
   ((rec y_9.2.2 a_1 y_9.1 limit_2).bind fun y_10=>
   some (.next (W (y_9.1 + 1),b_1,limit_2,decide (q<=(W (y_9.1 - a_1))),y_9.2.1,y_10)))
   ((rec y_9.2.2 (W (y_9.1 + 1)) b_1 limit_2).bind fun y_11=>
   some (.next (a_1,y_9.1,limit_2,decide (q<=(W (b_1 - y_9.1))),y_9.2.1,y_11))))
def Aj.j5 (rec:(List Aa)->Int->Int->Int->Option ((List Aa))) (cmp:Aa->Aa->Option (Int)) (a_1:Int) (b_1:Int) (wasBalanced_1:Bool) (wasPartitioned_1:Bool) (limit_2:Int) (pivot_3:Int) (data_5:List Aa):Option (Lp (Int×Int×Int×Bool×Bool×List Aa) ((List Aa))):=
 cond (decide (0 < a_1))
  ((Bo data_5 (W (a_1 - 1))).bind fun e=>
  (Bo data_5 pivot_3).bind fun e_2=>
  (cmp e e_2).bind fun y_7=>
  Aj.j6 rec cmp a_1 b_1 wasBalanced_1 wasPartitioned_1 limit_2 pivot_3 data_5 (!(decide (y_7 < 0))))
  (Aj.j6 rec cmp a_1 b_1 wasBalanced_1 wasPartitioned_1 limit_2 pivot_3 data_5 false)
def Aj.j4 (rec:(List Aa)->Int->Int->Int->Option ((List Aa))) (cmp:Aa->Aa->Option (Int)) (a_1:Int) (b_1:Int) (wasBalanced_1:Bool) (wasPartitioned_1:Bool) (limit_2:Int) (pivot_3:Int) (data_3:List Aa) (x75_4:Bool):Option (Lp (Int×Int×Int×Bool×Bool×List Aa) ((List Aa))):=
 cond (x75_4)
  ((Ad data_3 a_1 b_1 cmp).bind fun y_6=>
  cond (y_6.1)
   (up (some y_6.2))
   (Aj.j5 rec cmp a_1 b_1 wasBalanced_1 wasPartitioned_1 limit_2 pivot_3 y_6.2))
  (Aj.j5 rec cmp a_1 b_1 wasBalanced_1 wasPartitioned_1 limit_2 pivot_3 data_3)
def Aj.j3 (rec:(List Aa)->Int->Int->Int->Option ((List Aa))) (cmp:Aa->Aa->Option (Int)) (a_1:Int) (b_1:Int) (wasBalanced_1:Bool) (wasPartitioned_1:Bool) (limit_2:Int) (pivot_3:Int) (hint_3:Int) (data_3:List Aa):Option (Lp (Int×Int×Int×Bool×Bool×List Aa) ((List Aa))):=
 cond (wasBalanced_1)
  (cond (wasPartitioned_1)
   (Aj.j4 rec cmp a_1 b_1 wasBalanced_1 wasPartitioned_1 limit_2 pivot_3 data_3 (decide (hint_3=1)))
   (Aj.j4 rec cmp a_1 b_1 wasBalanced_1 wasPartitioned_1 limit_2 pivot_3 data_3 false))
  (Aj.j4 rec cmp a_1 b_1 wasBalanced_1 wasPartitioned_1 limit_2 pivot_3 data_3 false)
def Aj.j2 (rec:(List Aa)->Int->Int->Int->Option ((List Aa))) (cmp:Aa->Aa->Option (Int)) (a_1:Int) (b_1:Int) (wasBalanced_1:Bool) (wasPartitioned_1:Bool) (limit_2:Int) (data_2:List Aa):Option (Lp (Int×Int×Int×Bool×Bool×List Aa) ((List Aa))):=
 (A5 data_2 a_1 b_1 cmp).bind fun y_4=>
 cond (decide (y_4.2=2))
  ((Bg data_2 a_1 b_1 cmp).bind fun y_5=>
  Aj.j3 rec cmp a_1 b_1 wasBalanced_1 wasPartitioned_1 limit_2 (W ((W (b_1 - 1)) - (W (y_4.1 - a_1)))) 1 y_5)
  (Aj.j3 rec cmp a_1 b_1 wasBalanced_1 wasPartitioned_1 limit_2 y_4.1 y_4.2 data_2)
def Aj.l1 (rec:(List Aa)->Int->Int->Int->Option ((List Aa))) (cmp:Aa->Aa->Option (Int)) (a_1:Int) (b_1:Int) (limit_1:Int) (wasBalanced_1:Bool) (wasPartitioned_1:Bool) (data_1:List Aa):Option (Lp (Int×Int×Int×Bool×Bool×List Aa) ((List Aa))):=
 cond (decide ((W (b_1 - a_1))<=12))
  ((Ap data_1 a_1 b_1 cmp).bind fun y=>
  up (some y))
  (cond (decide (limit_1=0))
   ((A1 data_1 a_1 b_1 cmp).bind fun y_2=>
   up (some y_2))
   (cond (!wasBalanced_1)
    ((Az data_1 a_1 b_1 cmp).bind fun y_3=>
    Aj.j2 rec cmp a_1 b_1 wasBalanced_1 wasPartitioned_1 (W (limit_1 - 1)) y_3)
    (Aj.j2 rec cmp a_1 b_1 wasBalanced_1 wasPartitioned_1 limit_1 data_1)))
def Aj.F (rec:(List Aa)->Int->Int->Int->Option ((List Aa))) (data:List Aa) (a:Int) (b:Int) (limit:Int) (cmp:Aa->Aa->Option (Int)):Option ((List Aa)):=
 B1 (fun q'=>Aj.l1 rec cmp q'.1 q'.2.1 q'.2.2.1 q'.2.2.2.1 q'.2.2.2.2.1 q'.2.2.2.2.2) (a,b,limit,true,true,data)
def Aj (data:List Aa) (a:Int) (b:Int) (limit:Int) (cmp:Aa->Aa->Option (Int)):Option ((List Aa)):=Xm (fun rec (x:List Aa×Int×Int×Int)=>Aj.F (fun data a b limit=>rec (data,a,b,limit)) x.1 x.2.1 x.2.2.1 x.2.2.2 cmp) (data,a,b,limit)
def D6 (x':List Aa) (cmp:Aa->Aa->Option (Int)):Option ((List Aa)):=
 (He (IntKind.wrap .u64 (x'.length:Int))).bind fun y=>
 (Aj x' 0 (x'.length:Int) y cmp).bind fun y_2=>
 some y_2
def Bf.j3 (k2_2:Int) (k_3:Int) (s_3:List Aa):Option (Lp (Int×Int×List Aa) (Lp (Int) ((List Aa)))):=
 some (.next (k_3,W (k2_2 + 1),s_3))
def Bf.l2 (s:List Aa) (k_1:Int) (k_2:Int) (k2_2:Int) (s_2:List Aa):Option (Lp (Int×Int×List Aa) (Lp (Int) ((List Aa)))):=
 cond (decide (k2_2 < (((((s.length:Int):Int).toNat - (k_1:Int).toNat):Nat):Int)))
  ((Bo ((s_2.drop ((k_1:Int).toNat)).take (((s.length:Int):Int).toNat - (k_1:Int).toNat)) k2_2).bind fun e_3=>
  (Bo ((s_2.drop ((k_1:Int).toNat)).take (((s.length:Int):Int).toNat - (k_1:Int).toNat)) (W (k2_2 - 1))).bind fun e_4=>
  cond (!decide (e_3=e_4))
   ((Bo s_2 k_2).bind fun e_5=>
   Bf.j3 k2_2 (W (k_2 + 1)) (Dj s_2 ((k_2).toNat) e_3))
   (Bf.j3 k2_2 k_2 s_2))
  (up (
   (Xx s_2 k_2 (s_2.length:Int)).bind fun l_2=>
   (tK s_2 ((k_2:Int).toNat) (((s_2.length:Int):Int).toNat - (k_2:Int).toNat) ((Aa.mk 0 0):Aa)).bind fun l_3=>
   (Xx l_3 0 k_2).bind fun l_4=>
   up (some (l_3.take ((k_2:Int).toNat - (0:Int).toNat)))))
def Bf.l1 (s:List Aa) (k_1:Int):Option (Lp (Int) ((List Aa))):=
 cond (decide (k_1 < (s.length:Int)))
  ((Bo s k_1).bind fun e=>
  (Bo s (W (k_1 - 1))).bind fun e_2=>
  cond (decide (e=e_2))
   ((Xx s k_1 (s.length:Int)).bind fun l=>
   B1 (fun q'=>Bf.l2 s k_1 q'.1 q'.2.1 q'.2.2) (k_1,1,s))
   (some (.next (W (k_1 + 1)))))
  (up (
   some s))
def Bf (s:List Aa):Option ((List Aa)):=
 cond (decide ((s.length:Int) < 2))
  (some s)
  (B1 (fun q'=>Bf.l1 s q') 1)
def C6.l2 (y_2:(List Aa)) (x25_2:Int) (out_2:List Ac):Option (Lp (Int×List Ac) ((List Ac))):=
 cond (decide (x25_2 < (y_2.length:Int)))
  ((Bo y_2 x25_2).bind fun e_2=>
  (Gs 32 out_2 ([(Ac.mk e_2.First e_2.Then)]:List Ac)).bind fun l_3=>
  some (.next (W (x25_2 + 1),l_3)))
  (up (
   some out_2))
def C6.l1 (l:(List Ac)) (x11_1:Int) (rows_1:List Aa):Option (Lp (Int×List Aa) ((List Ac))):=
 cond (decide (x11_1 < (l.length:Int)))
  ((Bo l x11_1).bind fun e=>
  (Gs 32 rows_1 ([(Aa.mk e.First e.Then)]:List Aa)).bind fun l_2=>
  some (.next (W (x11_1 + 1),l_2)))
  (up (
   (D6 rows_1 (fun x0 x1=>Eu x0 x1)).bind fun y=>
   (Bf y).bind fun y_2=>
   B1 (fun q'=>C6.l2 y_2 q'.1 q'.2) (0,([]:List Ac))))
def C6 (l:(List Ac)):Option ((List Ac)):=
 B1 (fun q'=>C6.l1 l q'.1 q'.2) (0,([]:List Aa))
def G4.l1 (l:(List Int)) (i_1:Int) (out_1:List Ac):Option (Lp (Int×List Ac) ((List Ac))):=
 cond (decide (i_1 < (l.length:Int)))
  ((Bo l (W (i_1 - 1))).bind fun e=>
  (Bo l i_1).bind fun e_2=>
  (Gs 32 out_1 ([(Ac.mk e e_2)]:List Ac)).bind fun l_2=>
  some (.next (W (i_1 + 1),l_2)))
  (up (
   (C6 out_1).bind fun y=>
   some y))
def G4 (l:(List Int)):Option ((List Ac)):=
 B1 (fun q'=>G4.l1 l q'.1 q'.2) (1,([]:List Ac))
def Jn:Option (Bool):=
 (Cs (Al.mk (⟨#[]⟩:ByteArray) 0 0 ([]:(List Int)) false ([]:(List A4)) ([]:(List Int)) ([]:(List Int)) false) (Ae.mk 0 5 0 0 (A4.mk (Av.mk 0 0) 0 ([]:(List Ah))))).bind fun y=>
 cond (decide (y=1))
  ((Cs (Al.mk (⟨#[]⟩:ByteArray) 0 0 ([]:(List Int)) false ([]:(List A4)) ([]:(List Int)) ([]:(List Int)) false) (Ae.mk 0 2 0 0 (A4.mk (Av.mk 0 0) 0 ([]:(List Ah))))).bind fun y_2=>
  cond (decide (y_2=3))
   ((G4 ([2,0,1]:List Int)).bind fun y_3=>
   some (decide ((y_3.length:Int)=2)))
   (some false))
  (some false)
def Ov (l:(List Int)):Option (Ab):=
 some (Ab.mk l 0)
def Ke (n:Int) (k:Int):Option (Int):=
 cond (decide (k < 1))
  (some 0)
  ((V2 n k).bind fun q=>
  (V2 (W (q + k)) k).bind fun q_2=>
  some q_2)
def A3 (d:Ab) (n:Int):Option (Int×Ab):=
 cond (decide ((d.L.length:Int)<=d.At))
  (some (0,d))
  ((Bo d.L (W ((W (d.At + 1)) - 1))).bind fun e=>
  (Ke e n).bind fun y=>
  some (y,(Ab.mk d.L (W (d.At + 1)))))
def Cf (d:Ab) (l:(List Int)):Option (Int×Ab):=
 (A3 d (l.length:Int)).bind fun y=>
 (Bo l y.1).bind fun e=>
 some (e,y.2)
def Ed (d:Ab) (n:Int):Option (Bool×Ab):=
 (A3 d n).bind fun y=>
 some (decide (y.1=(W (n - 1))),y.2)
def Jx:Option (Av):=
 some (Av.mk 5 2048)
def Lr (c:Ah):Option (Ah):=
 (Gs 16 ([]:List ByteArray) c.Names).bind fun l=>
 some (Ah.mk c.Serial c.Issuer c.Subject c.Key c.KeyId c.Hash c.From c.To c.Authority c.Path l c.Seal)
def C2.j3 (i_2:Int) (x27_3:Bool):Option (Lp (Int) (Bool)):=
 cond (x27_3)
  (up (some false))
  (some (.next (W (i_2 + 1))))
def C2.l2 (s:ByteArray) (i_2:Int):Option (Lp (Int) (Bool)):=
 cond (decide (i_2 < (s.size:Int)))
  ((idxT s i_2).bind fun c=>
  cond (decide ((c.toNat:Int) < 33))
   (C2.j3 i_2 true)
   ((idxT s i_2).bind fun c_2=>
   C2.j3 i_2 (decide (126 < (c_2.toNat:Int)))))
  (up (
   some true))
def C2.j1 (s:ByteArray) (x11_1:Bool):Option (Bool):=
 cond (x11_1)
  (some false)
  (B1 (fun q'=>C2.l2 s q') 0)
def C2 (s:ByteArray):Option (Bool):=
 cond (decide ((s.size:Int) < 1))
  (C2.j1 s true)
  (C2.j1 s (decide (32 < (s.size:Int))))
def D1.j1 (b:Int) (x3_1:Bool):Option (Int):=
 cond (x3_1)
  (some 0)
  (cond (decide (b < 1024))
   (some 56)
   (cond (decide (b < 2048))
    (some 80)
    (cond (decide (b < 3072))
     (some 112)
     (cond (decide (b < 7680))
      (some 128)
      (cond (decide (b < 15360))
       (some 192)
       (some 256))))))
def D1 (b:Int):Option (Int):=
 cond (decide (b < 512))
  (D1.j1 b true)
  (D1.j1 b (decide (16384 < b)))
def Cd.l1 (b:Int) (sizes:(List Int)) (strengths:(List Int)) (i_1:Int):Option (Lp (Int) (Int)):=
 cond (decide (i_1 < (sizes.length:Int)))
  ((Bo sizes i_1).bind fun e=>
  cond (decide (e=b))
   ((Bo strengths i_1).bind fun e_2=>
   up (some e_2))
   (some (.next (W (i_1 + 1)))))
  (up (
   some 0))
def Cd (b:Int) (sizes:(List Int)) (strengths:(List Int)):Option (Int):=
 B1 (fun q'=>Cd.l1 b sizes strengths q') 0
def Dw.j2 (alg:Int) (x14_2:Bool):Option (Int):=
 cond (x14_2)
  (some 256)
  (cond (decide (alg=19))
   (some 64)
   (cond (decide (alg=20))
    (some 80)
    (some 0)))
def Dw.j1 (alg:Int) (x8_1:Bool):Option (Int):=
 cond (x8_1)
  (some 128)
  (cond (decide (alg=4))
   (some 192)
   (cond (decide (alg=18))
    (Dw.j2 alg (decide (alg=18)))
    (Dw.j2 alg (decide (alg=22)))))
def Dw (alg:Int):Option (Int):=
 cond (decide (alg=1))
  (some 18)
  (cond (decide (alg=2))
   (some 60)
   (cond (decide (alg=3))
    (Dw.j1 alg (decide (alg=3)))
    (cond (decide (alg=8))
     (Dw.j1 alg (decide (alg=8)))
     (Dw.j1 alg (decide (alg=21))))))
def Ay.j3 (u:Av) (x35_3:Bool):Option (Int):=
 cond (x35_3)
  ((Ml u.Bits 2).bind fun q=>
  some q)
  (some 0)
def Ay.j4 (u:Av) (x62_4:Bool):Option (Int):=
 cond (x62_4)
  ((Cd u.Bits ([128,256]:List Int) ([128,256]:List Int)).bind fun y_6=>
  some y_6)
  ((Dw u.Alg).bind fun y_7=>
  (Cd u.Bits ([0]:List Int) ([y_7]:List Int)).bind fun y_8=>
  some y_8)
def Ay.j2 (u:Av) (x15_2:Bool):Option (Int):=
 cond (x15_2)
  (cond (decide (u.Bits=160))
   (Ay.j3 u true)
   (cond (decide (u.Bits=224))
    (Ay.j3 u true)
    (cond (decide (u.Bits=256))
     (Ay.j3 u true)
     (cond (decide (u.Bits=384))
      (Ay.j3 u true)
      (Ay.j3 u (decide (u.Bits=521)))))))
  (cond (decide (u.Alg=9))
   ((Cd u.Bits ([44,65,87]:List Int) ([128,192,256]:List Int)).bind fun y_2=>
   some y_2)
   (cond (decide (u.Alg=13))
    ((Cd u.Bits ([512,768,1024]:List Int) ([128,192,256]:List Int)).bind fun y_3=>
    some y_3)
    (cond (decide (u.Alg=14))
     ((Cd u.Bits ([40,128]:List Int) ([40,60]:List Int)).bind fun y_4=>
     some y_4)
     (cond (decide (u.Alg=15))
      ((Cd u.Bits ([112,168]:List Int) ([80,112]:List Int)).bind fun y_5=>
      some y_5)
      (cond (decide (u.Alg=16))
       (Ay.j4 u (decide (u.Alg=16)))
       (Ay.j4 u (decide (u.Alg=17))))))))
def Ay.j1 (u:Av) (x8_1:Bool):Option (Int):=
 cond (x8_1)
  ((D1 u.Bits).bind fun y=>
  some y)
  (cond (decide (u.Alg=7))
   (Ay.j2 u (decide (u.Alg=7)))
   (Ay.j2 u (decide (u.Alg=12))))
def Ay (u:Av):Option (Int):=
 cond (decide (u.Alg=5))
  (Ay.j1 u (decide (u.Alg=5)))
  (cond (decide (u.Alg=6))
   (Ay.j1 u (decide (u.Alg=6)))
   (cond (decide (u.Alg=10))
    (Ay.j1 u (decide (u.Alg=10)))
    (Ay.j1 u (decide (u.Alg=11)))))
def Iq (u:Av):Option (Bool):=
 (Ay u).bind fun y=>
 some (decide (0 < y))
def P6:Option ((List As)):=
 some ([(As.mk (⟨#[]⟩:ByteArray) 0),(As.mk (⟨#[109,100,53]⟩:ByteArray) 1),(As.mk (⟨#[115,104,97,49]⟩:ByteArray) 1),(As.mk (⟨#[115,104,97,50,53,54]⟩:ByteArray) 1),(As.mk (⟨#[115,104,97,51,56,52]⟩:ByteArray) 1),(As.mk (⟨#[114,115,97]⟩:ByteArray) 2),(As.mk (⟨#[100,115,97]⟩:ByteArray) 2),(As.mk (⟨#[101,99,100,115,97]⟩:ByteArray) 2),(As.mk (⟨#[101,100,50,53,53,49,57]⟩:ByteArray) 2),(As.mk (⟨#[109,108,100,115,97]⟩:ByteArray) 2),(As.mk (⟨#[114,115,97,107,120]⟩:ByteArray) 3),(As.mk (⟨#[100,104,101]⟩:ByteArray) 3),(As.mk (⟨#[101,99,100,104,101]⟩:ByteArray) 3),(As.mk (⟨#[109,108,107,101,109]⟩:ByteArray) 3),(As.mk (⟨#[114,99,52]⟩:ByteArray) 4),(As.mk (⟨#[100,101,115,51]⟩:ByteArray) 4),(As.mk (⟨#[97,101,115,99,98,99]⟩:ByteArray) 4),(As.mk (⟨#[97,101,115,103,99,109]⟩:ByteArray) 4),(As.mk (⟨#[99,104,97,99,104,97]⟩:ByteArray) 4),(As.mk (⟨#[104,109,97,99,109,100,53]⟩:ByteArray) 5),(As.mk (⟨#[104,109,97,99,115,104,97,49]⟩:ByteArray) 5),(As.mk (⟨#[104,109,97,99,115,104,97,50,53,54]⟩:ByteArray) 5),(As.mk (⟨#[97,101,97,100]⟩:ByteArray) 5)]:List As)
def Fg.j1 (alg:Int) (x8_1:Bool):Option (Int):=
 cond (x8_1)
  (some 0)
  ((P6).bind fun y=>
  (Bo y alg).bind fun e=>
  some e.kind)
def Fg (alg:Int):Option (Int):=
 cond (decide (alg < 1))
  (Fg.j1 alg true)
  (Fg.j1 alg (decide (22 < alg)))
def G7 (u:Av):Option (Bool):=
 (Iq u).bind fun y=>
 cond (y)
  ((Fg u.Alg).bind fun y_2=>
  some (decide (y_2=2)))
  (some false)
def Ba.j5 (i_4:Int) (x123_5:Bool):Option (Lp (Int) (Int)):=
 cond (x123_5)
  (up (some 9))
  (some (.next (W (i_4 + 1))))
def Ba.j6 (x145_6:Bool):Option (Int):=
 cond (x145_6)
  (some 9)
  (some 0)
def Ba.l4 (c:Ah) (i_4:Int):Option (Lp (Int) (Int)):=
 cond (decide (i_4 < (c.Names.length:Int)))
  ((Bo c.Names i_4).bind fun e=>
  (C2 e).bind fun y_6=>
  cond (!y_6)
   (Ba.j5 i_4 true)
   (cond (decide (0 < i_4))
    ((Bo c.Names (W (i_4 - 1))).bind fun e_2=>
    Ba.j5 i_4 (!fS (K0 e_2) (K0 e)))
    (Ba.j5 i_4 false)))
  (up (
   cond (decide (c.Seal.Key < 0))
    (Ba.j6 true)
    (cond (decide (2147483648 < c.Seal.Key))
     (Ba.j6 true)
     (cond (decide (c.Seal.Sum < 0))
      (Ba.j6 true)
      (Ba.j6 (decide (4294967296<=c.Seal.Sum)))))))
def Ba.j3 (c:Ah) (x91_3:Bool):Option (Int):=
 cond (x91_3)
  (some 9)
  (B1 (fun q'=>Ba.l4 c q') 0)
def Ba.j2 (c:Ah) (x67_2:Bool):Option (Int):=
 cond (x67_2)
  (some 9)
  (cond (decide (c.Path < 0))
   (Ba.j3 c true)
   (cond (decide (8 < c.Path))
    (Ba.j3 c true)
    (cond (!c.Authority)
     (cond (!decide (c.Path=0))
      (Ba.j3 c true)
      (Ba.j3 c (decide (8 < (c.Names.length:Int)))))
     (Ba.j3 c (decide (8 < (c.Names.length:Int)))))))
def Ba.j1 (c:Ah) (x39_1:Bool):Option (Int):=
 cond (x39_1)
  (some 9)
  ((Iq c.Hash).bind fun y_4=>
  cond (!y_4)
   (Ba.j2 c true)
   ((Fg c.Hash.Alg).bind fun y_5=>
   cond (!decide (y_5=1))
    (Ba.j2 c true)
    (cond (decide (c.From < 0))
     (Ba.j2 c true)
     (cond (decide (c.To < c.From))
      (Ba.j2 c true)
      (Ba.j2 c (decide (40000 < c.To)))))))
def Ba (c:Ah):Option (Int):=
 cond (decide (c.Serial < 0))
  (Ba.j1 c true)
  (cond (decide (1099511627776 < c.Serial))
   (Ba.j1 c true)
   ((C2 c.Issuer).bind fun y=>
   cond (!y)
    (Ba.j1 c true)
    ((C2 c.Subject).bind fun y_2=>
    cond (!y_2)
     (Ba.j1 c true)
     ((G7 c.Key).bind fun y_3=>
     cond (!y_3)
      (Ba.j1 c true)
      (cond (decide (c.KeyId < 0))
       (Ba.j1 c true)
       (Ba.j1 c (decide (2147483648 < c.KeyId))))))))
def Jj (s:ByteArray):Option (Ai):=
 some (Ai.mk 12 (K0 s) false ([]:(List Ai)))
def Cz.j2 (x_1:Int) (b_1:List UInt8) (x35_2:Bool):Option (Lp (Int×List UInt8) (Ai)):=
 cond (x35_2)
  ((Gs 1 ([(u8 x_1)]:List UInt8) b_1).bind fun l=>
  (S0 .i64 x_1 8).bind fun q_2=>
  some (.next (q_2,l)))
  (up (
   some (Ai.mk 2 b_1 false ([]:(List Ai)))))
def Cz.l1 (x_1:Int) (b_1:List UInt8):Option (Lp (Int×List UInt8) (Ai)):=
 cond (!decide (x_1=0))
  (cond (!decide (x_1=(-1)))
   (Cz.j2 x_1 b_1 true)
   (cond (decide (x_1=0))
    ((Bo b_1 0).bind fun e=>
    cond (decide (128<=(e.toNat:Int)))
     (Cz.j2 x_1 b_1 true)
     (cond (decide (x_1=(-1)))
      (Cz.j2 x_1 b_1 (decide ((e.toNat:Int) < 128)))
      (Cz.j2 x_1 b_1 false)))
    (cond (decide (x_1=(-1)))
     ((Bo b_1 0).bind fun e_2=>
     Cz.j2 x_1 b_1 (decide ((e_2.toNat:Int) < 128)))
     (Cz.j2 x_1 b_1 false))))
  (cond (decide (x_1=0))
   ((Bo b_1 0).bind fun e_3=>
   cond (decide (128<=(e_3.toNat:Int)))
    (Cz.j2 x_1 b_1 true)
    (cond (decide (x_1=(-1)))
     (Cz.j2 x_1 b_1 (decide ((e_3.toNat:Int) < 128)))
     (Cz.j2 x_1 b_1 false)))
   (cond (decide (x_1=(-1)))
    ((Bo b_1 0).bind fun e_4=>
    Cz.j2 x_1 b_1 (decide ((e_4.toNat:Int) < 128)))
    (Cz.j2 x_1 b_1 false)))
def Cz (n:Int):Option (Ai):=
 (S0 .i64 n 8).bind fun q=>
 B1 (fun q'=>Cz.l1 q'.1 q'.2) (q,([(u8 n)]:List UInt8))
def C9.l1 (rec:(List Ai)->Option ((List Ai))) (l:(List Ai)) (i_1:Int) (out_1:List Ai):Option (Lp (Int×List Ai) ((List Ai))):=
 cond (decide (i_1 < (l.length:Int)))
  ((Bo l i_1).bind fun e=>
  (Gs 1 ([]:List UInt8) e.Bytes).bind fun l_2=>
  (rec e.Elements).bind fun y=>
  (Gs 256 out_1 ([(Ai.mk e.Tag l_2 e.Nested y)]:List Ai)).bind fun l_3=>
  some (.next (W (i_1 + 1),l_3)))
  (up (
   some out_1))
def C9.F (rec:(List Ai)->Option ((List Ai))) (l:(List Ai)):Option ((List Ai)):=
 B1 (fun q'=>C9.l1 rec l q'.1 q'.2) (0,([]:List Ai))
def C9 (l:(List Ai)):Option ((List Ai)):=Xm (fun rec (x:(List Ai))=>C9.F (fun l=>rec l) x) l
def Ii (l:(List Ai)):Option (Ai):=
 (C9 l).bind fun y=>
 some (Ai.mk 48 ([]:(List UInt8)) true y)
def Lc (u:Av):Option (Ai):=
 (Cz u.Alg).bind fun y=>
 (Cz u.Bits).bind fun y_2=>
 (Ii ([y,y_2]:List Ai)).bind fun y_3=>
 some y_3
def M5 (b:Bool):Option (Ai):=
 cond (b)
  (some (Ai.mk 1 ([(255:UInt8)]:List UInt8) false ([]:(List Ai))))
  (some (Ai.mk 1 ([(0:UInt8)]:List UInt8) false ([]:(List Ai))))
def Ff.l1 (c:Ah) (i_1:Int) (names_1:List Ai):Option (Lp (Int×List Ai) (Ai)):=
 cond (decide (i_1 < (c.Names.length:Int)))
  ((Bo c.Names i_1).bind fun e=>
  (Jj e).bind fun y=>
  (Gs 256 names_1 ([y]:List Ai)).bind fun l=>
  some (.next (W (i_1 + 1),l)))
  (up (
   (Cz c.Serial).bind fun y_12=>
   (Jj c.Issuer).bind fun y_13=>
   (Jj c.Subject).bind fun y_14=>
   (Lc c.Key).bind fun y_15=>
   (Cz c.KeyId).bind fun y_16=>
   (Lc c.Hash).bind fun y_17=>
   (Cz c.From).bind fun y_18=>
   (Cz c.To).bind fun y_19=>
   (M5 c.Authority).bind fun y_20=>
   (Cz c.Path).bind fun y_21=>
   (Ii names_1).bind fun y_22=>
   (Ii ([y_12,y_13,y_14,y_15,y_16,y_17,y_18,y_19,y_20,y_21,y_22]:List Ai)).bind fun y_23=>
   some y_23))
def Ff (c:Ah):Option (Ai):=
 B1 (fun q'=>Ff.l1 c q'.1 q'.2) (0,([]:List Ai))
def Mr (n:Int):Option (Bool):=
 cond (decide (1<=n))
  (cond (decide (n<=255))
   ((V2 n 32).bind fun q=>
   some (!decide (q=31)))
   (some false))
  (some false)
def B0.l2 (rec:Ai->Option (Bool)) (v:Ai) (i_2:Int):Option (Lp (Int) (Bool)):=
 cond (decide (i_2 < (v.Elements.length:Int)))
  ((Bo v.Elements i_2).bind fun e=>
  (rec e).bind fun y_2=>
  cond (!y_2)
   (up (some false))
   (some (.next (W (i_2 + 1)))))
  (up (
   some true))
def B0.j1 (rec:Ai->Option (Bool)) (v:Ai) (x38_1:Bool):Option (Bool):=
 cond (x38_1)
  (some false)
  (B1 (fun q'=>B0.l2 rec v q') 0)
def B0.F (rec:Ai->Option (Bool)) (v:Ai):Option (Bool):=
 (Mr v.Tag).bind fun y=>
 cond (!y)
  (B0.j1 rec v true)
  ((Ml v.Tag 32).bind fun q=>
  (V2 q 2).bind fun q_2=>
  cond (!decide (v.Nested=(decide (q_2=1))))
   (B0.j1 rec v true)
   (cond (v.Nested)
    (cond (decide (0 < (v.Bytes.length:Int)))
     (B0.j1 rec v true)
     (B0.j1 rec v false))
    (B0.j1 rec v (decide (0 < (v.Elements.length:Int))))))
def B0 (v:Ai):Option (Bool):=Xm (fun rec (x:Ai)=>B0.F (fun v=>rec v) x) v
def Dh.l1 (rec:Ai->Option (Int)) (v:Ai) (d_1:Int) (i_1:Int):Option (Lp (Int×Int) (Int)):=
 cond (decide (i_1 < (v.Elements.length:Int)))
  ((Bo v.Elements i_1).bind fun e=>
  (rec e).bind fun y=>
  some (.next (max d_1 y,W (i_1 + 1))))
  (up (
   some (W (d_1 + 1))))
def Dh.F (rec:Ai->Option (Int)) (v:Ai):Option (Int):=
 B1 (fun q'=>Dh.l1 rec v q'.1 q'.2) (0,0)
def Dh (v:Ai):Option (Int):=Xm (fun rec (x:Ai)=>Dh.F (fun v=>rec v) x) v
def Ex.l1 (n_1:Int) (b_1:List UInt8):Option (Lp (Int×List UInt8) ((List UInt8))):=
 cond (decide (0 < n_1))
  ((V2 n_1 256).bind fun q=>
  (Gs 1 ([(u8 q)]:List UInt8) b_1).bind fun l=>
  (Ml n_1 256).bind fun q_2=>
  some (.next (q_2,l)))
  (up (
   (Gs 1 ([(u8 (W (128 + (b_1.length:Int))))]:List UInt8) b_1).bind fun l_2=>
   some l_2))
def Ex (n:Int):Option ((List UInt8)):=
 cond (decide (n < 128))
  (some ([(u8 n)]:List UInt8))
  (B1 (fun q'=>Ex.l1 q'.1 q'.2) (n,([]:List UInt8)))
def Du.l1 (rec:Ai->Option ((List UInt8))) (v:Ai) (i_1:Int) (b_1:List UInt8):Option (Lp (Int×List UInt8) ((List UInt8))):=
 cond (decide (i_1 < (v.Elements.length:Int)))
  ((Bo v.Elements i_1).bind fun e=>
  (rec e).bind fun y=>
  (Gs 1 b_1 y).bind fun l_2=>
  some (.next (W (i_1 + 1),l_2)))
  (up (
   (Ex (b_1.length:Int)).bind fun y_2=>
   (Gs 1 ([(u8 v.Tag)]:List UInt8) y_2).bind fun l_3=>
   (Gs 1 l_3 b_1).bind fun l_4=>
   some l_4))
def Du.F (rec:Ai->Option ((List UInt8))) (v:Ai):Option ((List UInt8)):=
 (Gs 1 ([]:List UInt8) v.Bytes).bind fun l=>
 B1 (fun q'=>Du.l1 rec v q'.1 q'.2) (0,l)
def Du (v:Ai):Option ((List UInt8)):=Xm (fun rec (x:Ai)=>Du.F (fun v=>rec v) x) v
def Kc (v:Ai):Option ((List UInt8)×Int):=
 (B0 v).bind fun y=>
 cond (!y)
  (some (([]:(List UInt8)),1))
  ((Dh v).bind fun y_2=>
  cond (decide (16 < y_2))
   (some (([]:(List UInt8)),3))
   ((Du v).bind fun y_3=>
   cond (decide (4096 < (y_3.length:Int)))
    (some (([]:(List UInt8)),3))
    (some (y_3,0))))
def Jo (c:Ah):Option ((List UInt8)×Int):=
 (Ba c).bind fun y=>
 cond (!decide (y=0))
  (some (([]:(List UInt8)),9))
  ((Ff c).bind fun y_2=>
  (Kc y_2).bind fun y_3=>
  some (y_3.1,y_3.2))
def F8.l1 (b:(List UInt8)) (h_1:Int) (i_1:Int):Option (Lp (Int×Int) (Int)):=
 cond (decide (i_1 < (b.length:Int)))
  ((Bo b i_1).bind fun e=>
  some (.next (IntKind.wrap .u32 ((Qj .u32 h_1 (IntKind.wrap .u32 (e.toNat:Int))) * 16777619),W (i_1 + 1))))
  (up (
   some (W h_1)))
def F8 (b:(List UInt8)):Option (Int):=
 B1 (fun q'=>F8.l1 b q'.1 q'.2) (2166136261,0)
def Fa.j1 (key:Int) (y:Ah) (x22_1:Bool):Option (Ah×Int):=
 cond (x22_1)
  (some ((Ah.mk 0 (⟨#[]⟩:ByteArray) (⟨#[]⟩:ByteArray) (Av.mk 0 0) 0 (Av.mk 0 0) 0 0 false 0 ([]:(List ByteArray)) (Eb.mk 0 0)),9))
  ((Jo (Ah.mk y.Serial y.Issuer y.Subject y.Key y.KeyId y.Hash y.From y.To y.Authority y.Path y.Names (Eb.mk 0 0))).bind fun y_3=>
  (F8 y_3.1).bind fun y_4=>
  some ((Ah.mk y.Serial y.Issuer y.Subject y.Key y.KeyId y.Hash y.From y.To y.Authority y.Path y.Names (Eb.mk key y_4)),0))
def Fa (c:Ah) (key:Int):Option (Ah×Int):=
 (Lr c).bind fun y=>
 (Ba (Ah.mk y.Serial y.Issuer y.Subject y.Key y.KeyId y.Hash y.From y.To y.Authority y.Path y.Names (Eb.mk 0 0))).bind fun y_2=>
 cond (!decide (y_2=0))
  (Fa.j1 key y true)
  (cond (decide (key < 0))
   (Fa.j1 key y true)
   (Fa.j1 key y (decide (2147483648 < key))))
def Hr (name:ByteArray) (key:Av) (id:Int) (anchor:Int) (to:Int):Option (A4):=
 (Fa (Ah.mk id (⟨#[114,111,111,116]⟩:ByteArray) name key id (Av.mk 3 0) 0 to false 0 ([name]:List ByteArray) (Eb.mk 0 0)) anchor).bind fun y=>
 some (A4.mk key id ([y.1]:List Ah))
def Hx (d:Ab) (l:(List ByteArray)):Option (ByteArray×Ab):=
 (A3 d (l.length:Int)).bind fun y=>
 (Bo l y.1).bind fun e=>
 some (e,y.2)
def G6.l1 (name:ByteArray) (y:Int×Ab) (y_2:Int×Ab) (day_1:Int) (i_1:Int) (d_1:Ab) (l_1:List Dy):Option (Lp (Int×Int×Ab×List Dy) (Bp×Ab)):=
 cond (decide (0 < i_1))
  ((A3 d_1 6).bind fun y_5=>
  (Bo ([(Av.mk 2 0),(Av.mk 1 0),(Av.mk 5 2048),(Av.mk 16 128),(Av.mk 3 0),(Av.mk 15 168)]:List Av) y_5.1).bind fun e=>
  (Gs 72 l_1 ([(Dy.mk e day_1)]:List Dy)).bind fun l=>
  (Cf y_5.2 ([5,30,0,100]:List Int)).bind fun y_6=>
  some (.next (W ((W (day_1 + 1)) + y_6.1),W (i_1 - 1),y_6.2,l)))
  (up (
   (Bo l_1 0).bind fun e_2=>
   (Cf d_1 ([50,300,0,3000]:List Int)).bind fun y_7=>
   some ((Bp.mk name (W (1 + y.1)) (W (1 + y_2.1)) l_1 (W (e_2.Day + y_7.1))),y_7.2)))
def G6 (d:Ab) (name:ByteArray):Option (Bp×Ab):=
 (A3 d 2).bind fun y=>
 (A3 y.2 4).bind fun y_2=>
 (A3 y_2.2 20).bind fun y_3=>
 (A3 y_3.2 3).bind fun y_4=>
 B1 (fun q'=>G6.l1 name y y_2 q'.1 q'.2.1 q'.2.2.1 q'.2.2.2) (y_3.1,W (1 + y_4.1),y_4.2,([]:List Dy))
def Bk.j2 (x18_1:Int) (l_1:List Al) (e:ByteArray) (y_2:Int×Ab) (y_4:Bool×Ab) (y_5:Bool×Ab) (x_2:List Int):Option (Lp (Int×Ab×List Al) (An×Ab)):=
 (Jx).bind fun y_6=>
 (Hr e y_6 (W (100 + x18_1)) 1 901).bind fun y_7=>
 (Gs 1296 l_1 ([(Al.mk e 1 y_2.1 x_2 y_4.1 ([y_7]:List A4) ([1]:List Int) ([2,3]:List Int) y_5.1)]:List Al)).bind fun l_3=>
 some (.next (W (x18_1 + 1),y_5.2,l_3))
def Bk.j9 (x71_7:Int) (d_9:Ab) (l_9:List Aw):Option (Lp (Int×Ab×List Aw) (Lp (Int×Ab×List Aw) (An×Ab))):=
 some (.next (W (x71_7 + 1),d_9,l_9))
def Bk.j8 (x66_6:Int) (x71_7:Int) (l_7:List Aw) (x87_8:Bool) (d_8:Ab):Option (Lp (Int×Ab×List Aw) (Lp (Int×Ab×List Aw) (An×Ab))):=
 cond (x87_8)
  ((Gs 32 l_7 ([(Aw.mk x66_6 x71_7)]:List Aw)).bind fun l_4=>
  Bk.j9 x71_7 d_8 l_4)
  (Bk.j9 x71_7 d_8 l_7)
def Bk.l7 (y:Int×Ab) (x66_6:Int) (x71_7:Int) (d_7:Ab) (l_7:List Aw):Option (Lp (Int×Ab×List Aw) (Lp (Int×Ab×List Aw) (An×Ab))):=
 cond (decide (x71_7 < ((((W (2 + y.1):Int).toNat - (0:Int).toNat):Nat):Int)))
  (cond (!decide (x66_6=x71_7))
   ((A3 d_7 3).bind fun y_8=>
   cond (decide (0 < y_8.1))
    (Bk.j8 x66_6 x71_7 l_7 (decide ((l_7.length:Int) < 3)) y_8.2)
    (Bk.j8 x66_6 x71_7 l_7 false y_8.2))
   (Bk.j8 x66_6 x71_7 l_7 false d_7))
  (up (
   some (.next (W (x66_6 + 1),d_7,l_7))))
def Bk.l11 (l_1:List Al) (l_10:List Aw) (i_11:Int) (d_11:Ab) (l_11:List Bp):Option (Lp (Int×Ab×List Bp) (An×Ab)):=
 cond (decide (0 < i_11))
  ((Hx d_11 ([(⟨#[98,97,99,107,117,112]⟩:ByteArray),(⟨#[100,101,101,100]⟩:ByteArray)]:List ByteArray)).bind fun y_10=>
  (G6 y_10.2 y_10.1).bind fun y_11=>
  (Gs 320 l_11 ([y_11.1]:List Bp)).bind fun l_5=>
  some (.next (W (i_11 - 1),y_11.2,l_5)))
  (up (
   some ((An.mk l_1 l_10 l_11),d_11)))
def Bk.j10 (l_1:List Al) (d_6:Ab) (l_10:List Aw):Option (An×Ab):=
 (A3 d_6 3).bind fun y_9=>
 B1 (fun q'=>Bk.l11 l_1 l_10 q'.1 q'.2.1 q'.2.2) (y_9.1,y_9.2,([]:List Bp))
def Bk.l6 (y:Int×Ab) (l_1:List Al) (x66_6:Int) (d_6:Ab) (l_6:List Aw):Option (Lp (Int×Ab×List Aw) (An×Ab)):=
 cond (decide (x66_6 < ((((W (2 + y.1):Int).toNat - (0:Int).toNat):Nat):Int)))
  (B1 (fun q'=>Bk.l7 y x66_6 q'.1 q'.2.1 q'.2.2) (0,d_6,l_6))
  (up (
   cond (decide ((l_6.length:Int)=0))
    (Bk.j10 l_1 d_6 ([(Aw.mk 0 1)]:List Aw))
    (Bk.j10 l_1 d_6 l_6)))
def Bk.l1 (y:Int×Ab) (x18_1:Int) (d_1:Ab) (l_1:List Al):Option (Lp (Int×Ab×List Al) (An×Ab)):=
 cond (decide (x18_1 < ((((W (2 + y.1):Int).toNat - (0:Int).toNat):Nat):Int)))
  ((Bo ((([(⟨#[97,112,112]⟩:ByteArray),(⟨#[100,98]⟩:ByteArray),(⟨#[119,101,98]⟩:ByteArray)]:List ByteArray).drop ((0:Int).toNat)).take ((W (2 + y.1):Int).toNat - (0:Int).toNat)) x18_1).bind fun e=>
  (Cf d_1 ([3,3,4]:List Int)).bind fun y_2=>
  (A3 y_2.2 3).bind fun y_3=>
  (Bo ([([10,8,2]:List Int),([8,2]:List Int),([2,10,8,3]:List Int)]:List (List Int)) y_3.1).bind fun e_2=>
  (Ed y_3.2 2).bind fun y_4=>
  (Ed y_4.2 3).bind fun y_5=>
  cond (decide (y_2.1=4))
   ((Gs 8 ([14]:List Int) e_2).bind fun l_2=>
   Bk.j2 x18_1 l_1 e y_2 y_4 y_5 l_2)
   (Bk.j2 x18_1 l_1 e y_2 y_4 y_5 e_2))
  (up (
   B1 (fun q'=>Bk.l6 y l_1 q'.1 q'.2.1 q'.2.2) (0,d_1,([]:List Aw))))
def Bk (d:Ab):Option (An×Ab):=
 (A3 d 2).bind fun y=>
 (Xx ([(⟨#[97,112,112]⟩:ByteArray),(⟨#[100,98]⟩:ByteArray),(⟨#[119,101,98]⟩:ByteArray)]:List ByteArray) 0 (W (2 + y.1))).bind fun l=>
 B1 (fun q'=>Bk.l1 y q'.1 q'.2.1 q'.2.2) (0,y.2,([]:List Al))
def Hg.l1 (l:(List Int)) (n:Int) (x9_1:Int):Option (Lp (Int) (Bool)):=
 cond (decide (x9_1 < (l.length:Int)))
  ((Bo l x9_1).bind fun e=>
  cond (decide (e=n))
   (up (some true))
   (some (.next (W (x9_1 + 1)))))
  (up (
   some false))
def Hg (l:(List Int)) (n:Int):Option (Bool):=
 B1 (fun q'=>Hg.l1 l n q') 0
def Ng:Option (Av):=
 some (Av.mk 7 256)
def Au.j11 (x25_1:Int) (d_11:Ab) (l_11:List Ae):Option (Lp (Int×Ab×List Ae) ((List Ae)×Ab)):=
 some (.next (W (x25_1 + 1),d_11,l_11))
def Au.j10 (x25_1:Int) (d_9:Ab) (l_9:List Ae) (x95_10:Bool):Option (Lp (Int×Ab×List Ae) ((List Ae)×Ab)):=
 cond (x95_10)
  ((Gs 640 l_9 ([(Ae.mk x25_1 3 4 0 (A4.mk (Av.mk 0 0) 0 ([]:(List Ah)))),(Ae.mk x25_1 1 14 0 (A4.mk (Av.mk 0 0) 0 ([]:(List Ah))))]:List Ae)).bind fun l_8=>
  Au.j11 x25_1 d_9 l_8)
  (Au.j11 x25_1 d_9 l_9)
def Au.j9 (y_3:Int×Ab) (x25_1:Int) (e_2:Al) (d_9:Ab) (l_9:List Ae):Option (Lp (Int×Ab×List Ae) ((List Ae)×Ab)):=
 cond (decide (y_3.1=0))
  (Au.j10 x25_1 d_9 l_9 (decide (e_2.Most < 4)))
  (Au.j10 x25_1 d_9 l_9 false)
def Au.j8 (y_3:Int×Ab) (x25_1:Int) (e_2:Al) (l_7:List Ae) (x84_8:Bool) (d_8:Ab):Option (Lp (Int×Ab×List Ae) ((List Ae)×Ab)):=
 cond (x84_8)
  ((Gs 640 l_7 ([(Ae.mk x25_1 2 2 0 (A4.mk (Av.mk 0 0) 0 ([]:(List Ah))))]:List Ae)).bind fun l_6=>
  Au.j9 y_3 x25_1 e_2 d_8 l_6)
  (Au.j9 y_3 x25_1 e_2 d_8 l_7)
def Au.j7 (y:Int×Ab) (y_3:Int×Ab) (x25_1:Int) (e_2:Al) (d_7:Ab) (l_7:List Ae):Option (Lp (Int×Ab×List Ae) ((List Ae)×Ab)):=
 cond (decide (0 < y.1))
  ((Hg e_2.Suites 2).bind fun y_9=>
  cond (y_9)
   ((A3 d_7 4).bind fun y_10=>
   Au.j8 y_3 x25_1 e_2 l_7 (decide (0 < y_10.1)) y_10.2)
   (Au.j8 y_3 x25_1 e_2 l_7 false d_7))
  (Au.j8 y_3 x25_1 e_2 l_7 false d_7)
def Au.j6 (y:Int×Ab) (y_3:Int×Ab) (x25_1:Int) (e_2:Al) (d_3:Ab) (l_5:List Ae) (x58_6:Bool):Option (Lp (Int×Ab×List Ae) ((List Ae)×Ab)):=
 cond (x58_6)
  ((Ng).bind fun y_6=>
  (Cf d_3 ([2,1]:List Int)).bind fun y_7=>
  (Hr e_2.Name y_6 201 y_7.1 901).bind fun y_8=>
  (Gs 640 l_5 ([(Ae.mk x25_1 5 0 (e_2.Identities.length:Int) y_8)]:List Ae)).bind fun l_4=>
  Au.j7 y y_3 x25_1 e_2 y_7.2 l_4)
  (Au.j7 y y_3 x25_1 e_2 d_3 l_5)
def Au.j5 (y:Int×Ab) (y_2:Int×Ab) (y_3:Int×Ab) (x25_1:Int) (e_2:Al) (d_3:Ab) (l_5:List Ae):Option (Lp (Int×Ab×List Ae) ((List Ae)×Ab)):=
 cond (decide (y_2.1=0))
  (Au.j6 y y_3 x25_1 e_2 d_3 l_5 (decide (x25_1=1)))
  (Au.j6 y y_3 x25_1 e_2 d_3 l_5 false)
def Au.j4 (y:Int×Ab) (y_2:Int×Ab) (y_3:Int×Ab) (x25_1:Int) (e_2:Al) (d_3:Ab) (l_3:List Ae) (x48_4:Bool):Option (Lp (Int×Ab×List Ae) ((List Ae)×Ab)):=
 cond (x48_4)
  ((Gs 640 l_3 ([(Ae.mk x25_1 7 2 0 (A4.mk (Av.mk 0 0) 0 ([]:(List Ah))))]:List Ae)).bind fun l_2=>
  Au.j5 y y_2 y_3 x25_1 e_2 d_3 l_2)
  (Au.j5 y y_2 y_3 x25_1 e_2 d_3 l_3)
def Au.j3 (y:Int×Ab) (y_2:Int×Ab) (y_3:Int×Ab) (x25_1:Int) (e_2:Al) (d_3:Ab) (l_3:List Ae):Option (Lp (Int×Ab×List Ae) ((List Ae)×Ab)):=
 cond (decide (y_2.1=0))
  (Au.j4 y y_2 y_3 x25_1 e_2 d_3 l_3 (decide (x25_1=0)))
  (Au.j4 y y_2 y_3 x25_1 e_2 d_3 l_3 false)
def Au.j2 (y:Int×Ab) (y_2:Int×Ab) (y_3:Int×Ab) (x25_1:Int) (d_1:Ab) (l_1:List Ae) (e_2:Al) (x36_2:Bool):Option (Lp (Int×Ab×List Ae) ((List Ae)×Ab)):=
 cond (x36_2)
  ((A3 d_1 2).bind fun y_5=>
  (Gs 640 l_1 ([(Ae.mk x25_1 1 12 y_5.1 (A4.mk (Av.mk 0 0) 0 ([]:(List Ah))))]:List Ae)).bind fun l=>
  Au.j3 y y_2 y_3 x25_1 e_2 y_5.2 l)
  (Au.j3 y y_2 y_3 x25_1 e_2 d_1 l_1)
def Au.j15 (k_14:Int) (d_14:Ab) (l_14:List Ae) (x120_15:Bool):Option (Lp (Int×Ab×List Ae) ((List Ae)×Ab)):=
 cond (x120_15)
  ((A3 d_14 (W ((l_14.length:Int) - 1))).bind fun y_12=>
  (Bo l_14 (W (y_12.1 + 1))).bind fun e_3=>
  (Bo l_14 y_12.1).bind fun e_4=>
  (Bo (Dj l_14 ((y_12.1).toNat) e_3) (W (y_12.1 + 1))).bind fun e_5=>
  some (.next (W (k_14 - 1),y_12.2,Dj (Dj l_14 ((y_12.1).toNat) e_3) ((W (y_12.1 + 1)).toNat) e_4)))
  (up (
   some (l_14,d_14)))
def Au.l14 (k_14:Int) (d_14:Ab) (l_14:List Ae):Option (Lp (Int×Ab×List Ae) ((List Ae)×Ab)):=
 cond (decide (0 < k_14))
  (Au.j15 k_14 d_14 l_14 (decide (1 < (l_14.length:Int))))
  (Au.j15 k_14 d_14 l_14 false)
def Au.l12 (d_1:Ab) (l_12:List Ae):Option (Lp (List Ae) ((List Ae)×Ab)):=
 cond (decide (7 < (l_12.length:Int)))
  ((Xx l_12 0 (W ((l_12.length:Int) - 1))).bind fun l_10=>
  some (.next (l_12.take ((W ((l_12.length:Int) - 1):Int).toNat - (0:Int).toNat))))
  (up (
   (A3 d_1 4).bind fun y_11=>
   B1 (fun q'=>Au.l14 q'.1 q'.2.1 q'.2.2) (y_11.1,y_11.2,l_12)))
def Au.l1 (e:An) (y:Int×Ab) (y_2:Int×Ab) (y_3:Int×Ab) (x25_1:Int) (d_1:Ab) (l_1:List Ae):Option (Lp (Int×Ab×List Ae) ((List Ae)×Ab)):=
 cond (decide (x25_1 < (e.Endpoints.length:Int)))
  ((Bo e.Endpoints x25_1).bind fun e_2=>
  cond (decide (0 < y.1))
   ((Hg e_2.Suites 12).bind fun y_4=>
   Au.j2 y y_2 y_3 x25_1 d_1 l_1 e_2 (!y_4))
   (Au.j2 y y_2 y_3 x25_1 d_1 l_1 e_2 false))
  (up (
   B1 (fun q'=>Au.l12 d_1 q') l_1))
def Au (d:Ab) (e:An):Option ((List Ae)×Ab):=
 (A3 d 3).bind fun y=>
 (A3 y.2 3).bind fun y_2=>
 (A3 y_2.2 4).bind fun y_3=>
 B1 (fun q'=>Au.l1 e y y_2 y_3 q'.1 q'.2.1 q'.2.2) (0,y_3.2,([]:List Ae))
def Bs.j7 (b_7:Ab) (c_7:Ae):Option (Ae×Ab):=
 some (c_7,b_7)
def Bs.j1 (y:Int×Ab) (e_2:Al) (y_2:Int×Ab) (y_5:Int×Ab) (x52_1:Bool) (d_1:Ab):Option (Ae×Ab):=
 cond (x52_1)
  ((A3 d_1 (e_2.Suites.length:Int)).bind fun y_7=>
  (Bo e_2.Suites y_7.1).bind fun e_3=>
  Bs.j7 y_7.2 (Ae.mk y.1 (W (1 + y_2.1)) e_3 0 (A4.mk (Av.mk 0 0) 0 ([]:(List Ah)))))
  (Bs.j7 d_1 (Ae.mk y.1 (W (1 + y_2.1)) (W (1 + y_5.1)) 0 (A4.mk (Av.mk 0 0) 0 ([]:(List Ah)))))
def Bs.j3 (y:Int×Ab) (e_2:Al) (y_2:Int×Ab) (y_16:Int×Ab) (x110_3:Bool) (d_3:Ab):Option (Ae×Ab):=
 cond (x110_3)
  ((A3 d_3 (e_2.Identities.length:Int)).bind fun y_18=>
  (Bo e_2.Identities y_18.1).bind fun e_5=>
  Bs.j7 y_18.2 (Ae.mk y.1 (W (1 + y_2.1)) e_5.KeyId 0 (A4.mk (Av.mk 0 0) 0 ([]:(List Ah)))))
  (Bs.j7 d_3 (Ae.mk y.1 (W (1 + y_2.1)) (W (100 + y_16.1)) 0 (A4.mk (Av.mk 0 0) 0 ([]:(List Ah)))))
def Bs.j6 (y:Int×Ab) (y_2:Int×Ab) (x136_6:Bool):Option (Ae×Ab):=
 cond (x136_6)
  ((A3 y_2.2 2).bind fun y_21=>
  Bs.j7 y_21.2 (Ae.mk y.1 (W (1 + y_2.1)) y_21.1 0 (A4.mk (Av.mk 0 0) 0 ([]:(List Ah)))))
  (Bs.j7 y_2.2 (Ae.mk y.1 (W (1 + y_2.1)) 0 0 (A4.mk (Av.mk 0 0) 0 ([]:(List Ah)))))
def Bs.j5 (y:Int×Ab) (y_2:Int×Ab) (x129_5:Bool):Option (Ae×Ab):=
 cond (x129_5)
  ((A3 y_2.2 4).bind fun y_20=>
  Bs.j7 y_20.2 (Ae.mk y.1 (W (1 + y_2.1)) (W (1 + y_20.1)) 0 (A4.mk (Av.mk 0 0) 0 ([]:(List Ah)))))
  (cond (decide ((W (1 + y_2.1))=11))
   (Bs.j6 y y_2 (decide ((W (1 + y_2.1))=11)))
   (Bs.j6 y y_2 (decide ((W (1 + y_2.1))=12))))
def Bs.j4 (y:Int×Ab) (y_2:Int×Ab) (x122_4:Bool):Option (Ae×Ab):=
 cond (x122_4)
  ((A3 y_2.2 3).bind fun y_19=>
  Bs.j7 y_19.2 (Ae.mk y.1 (W (1 + y_2.1)) (W (1 + y_19.1)) 0 (A4.mk (Av.mk 0 0) 0 ([]:(List Ah)))))
  (cond (decide ((W (1 + y_2.1))=9))
   (Bs.j5 y y_2 (decide ((W (1 + y_2.1))=9)))
   (Bs.j5 y y_2 (decide ((W (1 + y_2.1))=10))))
def Bs.j2 (y:Int×Ab) (e_2:Al) (y_2:Int×Ab) (x63_2:Bool):Option (Ae×Ab):=
 cond (x63_2)
  ((A3 y_2.2 4).bind fun y_8=>
  Bs.j7 y_8.2 (Ae.mk y.1 (W (1 + y_2.1)) (W (1 + y_8.1)) 0 (A4.mk (Av.mk 0 0) 0 ([]:(List Ah)))))
  (cond (decide ((W (1 + y_2.1))=5))
   ((A3 y_2.2 (W ((e_2.Identities.length:Int) + 1))).bind fun y_9=>
   (Ng).bind fun y_10=>
   (Jx).bind fun y_11=>
   (A3 y_9.2 2).bind fun y_12=>
   (Bo ([y_10,y_11]:List Av) y_12.1).bind fun e_4=>
   (A3 y_12.2 3).bind fun y_13=>
   (A3 y_13.2 2).bind fun y_14=>
   (Hr e_2.Name e_4 (W (200 + y_13.1)) (W (1 + y_14.1)) 901).bind fun y_15=>
   Bs.j7 y_14.2 (Ae.mk y.1 (W (1 + y_2.1)) 0 y_9.1 y_15))
   (cond (decide ((W (1 + y_2.1))=6))
    ((A3 y_2.2 4).bind fun y_16=>
    cond (decide (0 < (e_2.Identities.length:Int)))
     ((Ed y_16.2 4).bind fun y_17=>
     Bs.j3 y e_2 y_2 y_16 (!y_17.1) y_17.2)
     (Bs.j3 y e_2 y_2 y_16 false y_16.2))
    (cond (decide ((W (1 + y_2.1))=7))
     (Bs.j4 y y_2 (decide ((W (1 + y_2.1))=7)))
     (Bs.j4 y y_2 (decide ((W (1 + y_2.1))=8))))))
def Bs (d:Ab) (e:An):Option (Ae×Ab):=
 (A3 d (e.Endpoints.length:Int)).bind fun y=>
 (Bo e.Endpoints y.1).bind fun e_2=>
 (A3 y.2 12).bind fun y_2=>
 cond (decide ((W (1 + y_2.1))=1))
  ((A3 y_2.2 16).bind fun y_3=>
  (A3 y_3.2 (W ((e_2.Suites.length:Int) + 1))).bind fun y_4=>
  Bs.j7 y_4.2 (Ae.mk y.1 (W (1 + y_2.1)) (W (1 + y_3.1)) y_4.1 (A4.mk (Av.mk 0 0) 0 ([]:(List Ah)))))
  (cond (decide ((W (1 + y_2.1))=2))
   ((A3 y_2.2 16).bind fun y_5=>
   cond (decide (0 < (e_2.Suites.length:Int)))
    ((Ed y_5.2 4).bind fun y_6=>
    Bs.j1 y e_2 y_2 y_5 (!y_6.1) y_6.2)
    (Bs.j1 y e_2 y_2 y_5 false y_5.2))
   (cond (decide ((W (1 + y_2.1))=3))
    (Bs.j2 y e_2 y_2 (decide ((W (1 + y_2.1))=3)))
    (Bs.j2 y e_2 y_2 (decide ((W (1 + y_2.1))=4)))))
def F1.j1 (b_1:Ab) (c_1:Ae):Option (Ae×Ab):=
 some (c_1,b_1)
def F1 (d:Ab) (c:Ae):Option (Ae×Ab):=
 (A3 d 7).bind fun y=>
 cond (decide (y.1=0))
  ((A3 y.2 15).bind fun y_2=>
  F1.j1 y_2.2 (Ae.mk c.Endpoint (W (y_2.1 - 1)) c.Number c.At c.Identity))
  (cond (decide (y.1=1))
   ((Cf y.2 ([0,-1,17,70000,2]:List Int)).bind fun y_3=>
   F1.j1 y_3.2 (Ae.mk c.Endpoint c.Kind y_3.1 c.At c.Identity))
   (cond (decide (y.1=2))
    ((Cf y.2 ([-1,1,99]:List Int)).bind fun y_4=>
    F1.j1 y_4.2 (Ae.mk c.Endpoint c.Kind c.Number y_4.1 c.Identity))
    (cond (decide (y.1=3))
     ((Jx).bind fun y_5=>
     (Hr (⟨#[97,112,112]⟩:ByteArray) y_5 7 1 50).bind fun y_6=>
     F1.j1 y.2 (Ae.mk c.Endpoint c.Kind c.Number c.At y_6))
     (cond (decide (y.1=4))
      ((Cf y.2 ([-1,9,0]:List Int)).bind fun y_7=>
      F1.j1 y_7.2 (Ae.mk y_7.1 c.Kind c.Number c.At c.Identity))
      (F1.j1 y.2 c)))))
def F6.l1 (l:(List Int)) (n:Int) (i_1:Int):Option (Lp (Int) (Bool)):=
 cond (decide (i_1 < (l.length:Int)))
  ((Bo l i_1).bind fun e=>
  cond (decide (e=n))
   (up (some true))
   (some (.next (W (i_1 + 1)))))
  (up (
   some false))
def F6 (l:(List Int)) (n:Int):Option (Bool):=
 B1 (fun q'=>F6.l1 l n q') 0
def Ds (alg:Int) (bits:Int):Option (Av):=
 some (Av.mk alg bits)
def Dz (code:Int) (name:ByteArray) (exchange:Av) (sign:Av) (cipher:Av) (mac:Av) (least:Int) (most:Int):Option (A7):=
 some (A7.mk code name exchange sign cipher mac least most)
def Jy:Option ((List A7)):=
 (Ds 10 0).bind fun y=>
 (Ds 5 0).bind fun y_2=>
 (Ds 14 128).bind fun y_3=>
 (Ds 15 168).bind fun y_4=>
 (Ds 16 128).bind fun y_5=>
 (Ds 17 128).bind fun y_6=>
 (Ds 17 256).bind fun y_7=>
 (Ds 19 0).bind fun y_8=>
 (Ds 20 0).bind fun y_9=>
 (Ds 21 0).bind fun y_10=>
 (Ds 22 0).bind fun y_11=>
 (Ds 12 256).bind fun y_12=>
 (Ds 18 0).bind fun y_13=>
 (Dz 1 (⟨#[114,115,97,45,114,99,52,45,109,100,53]⟩:ByteArray) y y_2 y_3 y_8 1 2).bind fun y_14=>
 (Dz 2 (⟨#[114,115,97,45,114,99,52,45,115,104,97]⟩:ByteArray) y y_2 y_3 y_9 1 3).bind fun y_15=>
 (Dz 3 (⟨#[114,115,97,45,100,101,115,51,45,115,104,97]⟩:ByteArray) y y_2 y_4 y_9 1 3).bind fun y_16=>
 (Ds 11 1024).bind fun y_17=>
 (Ds 6 0).bind fun y_18=>
 (Dz 4 (⟨#[100,104,101,45,100,115,97,45,100,101,115,51,45,115,104,97]⟩:ByteArray) y_17 y_18 y_4 y_9 1 3).bind fun y_19=>
 (Ds 11 1024).bind fun y_20=>
 (Dz 5 (⟨#[100,104,101,45,114,115,97,45,100,101,115,51,45,115,104,97]⟩:ByteArray) y_20 y_2 y_4 y_9 1 3).bind fun y_21=>
 (Dz 6 (⟨#[114,115,97,45,97,101,115,49,50,56,45,115,104,97]⟩:ByteArray) y y_2 y_5 y_9 1 3).bind fun y_22=>
 (Ds 11 2048).bind fun y_23=>
 (Dz 7 (⟨#[100,104,101,45,114,115,97,45,97,101,115,49,50,56,45,115,104,97]⟩:ByteArray) y_23 y_2 y_5 y_9 1 3).bind fun y_24=>
 (Dz 8 (⟨#[101,99,100,104,101,45,114,115,97,45,97,101,115,49,50,56,45,115,104,97]⟩:ByteArray) y_12 y_2 y_5 y_9 1 3).bind fun y_25=>
 (Ds 7 0).bind fun y_26=>
 (Ds 16 256).bind fun y_27=>
 (Dz 9 (⟨#[101,99,100,104,101,45,101,99,100,115,97,45,97,101,115,50,53,54,45,115,104,97,50,53,54]⟩:ByteArray) y_12 y_26 y_27 y_10 3 3).bind fun y_28=>
 (Dz 10 (⟨#[101,99,100,104,101,45,114,115,97,45,97,101,115,49,50,56,45,103,99,109]⟩:ByteArray) y_12 y_2 y_6 y_11 3 3).bind fun y_29=>
 (Ds 12 384).bind fun y_30=>
 (Ds 7 0).bind fun y_31=>
 (Dz 11 (⟨#[101,99,100,104,101,45,101,99,100,115,97,45,97,101,115,50,53,54,45,103,99,109]⟩:ByteArray) y_30 y_31 y_7 y_11 3 3).bind fun y_32=>
 (Dz 12 (⟨#[101,99,100,104,101,45,114,115,97,45,99,104,97,99,104,97]⟩:ByteArray) y_12 y_2 y_13 y_11 3 3).bind fun y_33=>
 (Dz 13 (⟨#[114,115,97,45,97,101,115,50,53,54,45,103,99,109]⟩:ByteArray) y y_2 y_7 y_11 3 3).bind fun y_34=>
 (Dz 14 (⟨#[97,101,115,49,50,56,45,103,99,109]⟩:ByteArray) y_12 (Av.mk 0 0) y_6 y_11 4 4).bind fun y_35=>
 (Dz 15 (⟨#[99,104,97,99,104,97]⟩:ByteArray) y_12 (Av.mk 0 0) y_13 y_11 4 4).bind fun y_36=>
 (Ds 13 768).bind fun y_37=>
 (Dz 16 (⟨#[109,108,107,101,109,45,97,101,115,50,53,54,45,103,99,109]⟩:ByteArray) y_37 (Av.mk 0 0) y_7 y_11 4 4).bind fun y_38=>
 some ([y_14,y_15,y_16,y_19,y_21,y_22,y_24,y_25,y_28,y_29,y_32,y_33,y_34,y_35,y_36,y_38]:List A7)
def Fx.j1 (code:Int) (x9_1:Bool):Option (A7×Int):=
 cond (x9_1)
  (some ((A7.mk 0 (⟨#[]⟩:ByteArray) (Av.mk 0 0) (Av.mk 0 0) (Av.mk 0 0) (Av.mk 0 0) 0 0),8))
  ((Jy).bind fun y=>
  (Bo y (W (code - 1))).bind fun e=>
  some (e,0))
def Fx (code:Int):Option (A7×Int):=
 cond (decide (code < 1))
  (Fx.j1 code true)
  (Fx.j1 code (decide (16 < code)))
def Hw (code:Int):Option (Int):=
 (Fx code).bind fun y=>
 cond (!decide (y.2=0))
  (some 0)
  ((Ay y.1.Cipher).bind fun y_2=>
  some y_2)
def Dp.j3 (l:(List Int)) (i_1:Int) (out_1:List Int) (k_2:Int) (x29_3:Bool):Option (Lp (Int) (Lp (Int×List Int) ((List Int)))):=
 cond (x29_3)
  (some (.next (W (k_2 - 1))))
  (up (
   (Xx out_1 0 k_2).bind fun l_2=>
   (Gs 8 ([]:List Int) ((out_1.drop ((0:Int).toNat)).take ((k_2:Int).toNat - (0:Int).toNat))).bind fun l_3=>
   (Bo l i_1).bind fun e_3=>
   (Gs 8 l_3 ([e_3]:List Int)).bind fun l_4=>
   (Xx out_1 k_2 (out_1.length:Int)).bind fun l_5=>
   (Gs 8 l_4 ((out_1.drop ((k_2:Int).toNat)).take (((out_1.length:Int):Int).toNat - (k_2:Int).toNat))).bind fun l_6=>
   some (.next (W (i_1 + 1),l_6))))
def Dp.l2 (l:(List Int)) (i_1:Int) (out_1:List Int) (k_2:Int):Option (Lp (Int) (Lp (Int×List Int) ((List Int)))):=
 cond (decide (0 < k_2))
  ((Bo out_1 (W (k_2 - 1))).bind fun e=>
  (Hw e).bind fun y=>
  (Bo l i_1).bind fun e_2=>
  (Hw e_2).bind fun y_2=>
  Dp.j3 l i_1 out_1 k_2 (decide (y < y_2)))
  (Dp.j3 l i_1 out_1 k_2 false)
def Dp.l1 (l:(List Int)) (i_1:Int) (out_1:List Int):Option (Lp (Int×List Int) ((List Int))):=
 cond (decide (i_1 < (l.length:Int)))
  (B1 (fun q'=>Dp.l2 l i_1 out_1 q') (out_1.length:Int))
  (up (
   some out_1))
def Dp (l:(List Int)):Option ((List Int)):=
 B1 (fun q'=>Dp.l1 l q'.1 q'.2) (0,([]:List Int))
def Ec.j2 (i_1:Int) (d_2:Ab) (l_2:List Int):Option (Lp (Int×Ab×List Int) ((List Int)×Ab)):=
 some (.next (W (i_1 - 1),d_2,l_2))
def Ec.l1 (i_1:Int) (d_1:Ab) (l_1:List Int):Option (Lp (Int×Ab×List Int) ((List Int)×Ab)):=
 cond (decide (0 < i_1))
  ((A3 d_1 16).bind fun y_2=>
  (F6 l_1 (W (1 + y_2.1))).bind fun y_3=>
  cond (!y_3)
   ((Gs 8 l_1 ([W (1 + y_2.1)]:List Int)).bind fun l=>
   Ec.j2 i_1 y_2.2 l)
   (Ec.j2 i_1 y_2.2 l_1))
  (up (
   (Ed d_1 4).bind fun y_4=>
   cond (y_4.1)
    ((Dp l_1).bind fun y_5=>
    some (y_5,y_4.2))
    (some (l_1,y_4.2))))
def Ec (d:Ab):Option ((List Int)×Ab):=
 (A3 d 9).bind fun y=>
 B1 (fun q'=>Ec.l1 q'.1 q'.2.1 q'.2.2) (W (2 + y.1),y.2,([]:List Int))
def Cy.j3 (d:Ab) (x40_3:Bool):Option (Int×Ab):=
 cond (x40_3)
  ((Cf d ([128,256]:List Int)).bind fun y_7=>
  some (y_7.1,y_7.2))
  (some (0,d))
def Cy.j2 (d:Ab) (a:Int) (x14_2:Bool):Option (Int×Ab):=
 cond (x14_2)
  ((Cf d ([256,160,224,384,521]:List Int)).bind fun y_2=>
  some (y_2.1,y_2.2))
  (cond (decide (a=9))
   ((Cf d ([65,44,87]:List Int)).bind fun y_3=>
   some (y_3.1,y_3.2))
   (cond (decide (a=13))
    ((Cf d ([768,512,1024]:List Int)).bind fun y_4=>
    some (y_4.1,y_4.2))
    (cond (decide (a=14))
     ((Cf d ([128,40]:List Int)).bind fun y_5=>
     some (y_5.1,y_5.2))
     (cond (decide (a=15))
      ((Cf d ([168,112]:List Int)).bind fun y_6=>
      some (y_6.1,y_6.2))
      (cond (decide (a=16))
       (Cy.j3 d (decide (a=16)))
       (Cy.j3 d (decide (a=17))))))))
def Cy.j1 (d:Ab) (a:Int) (x6_1:Bool):Option (Int×Ab):=
 cond (x6_1)
  ((Cf d ([2048,1024,512,3072,1023,4096,16384]:List Int)).bind fun y=>
  some (y.1,y.2))
  (cond (decide (a=7))
   (Cy.j2 d a (decide (a=7)))
   (Cy.j2 d a (decide (a=12))))
def Cy (d:Ab) (a:Int):Option (Int×Ab):=
 cond (decide (a=5))
  (Cy.j1 d a (decide (a=5)))
  (cond (decide (a=6))
   (Cy.j1 d a (decide (a=6)))
   (cond (decide (a=10))
    (Cy.j1 d a (decide (a=10)))
    (Cy.j1 d a (decide (a=11)))))
def Nn (d:Ab):Option (Av×Ab):=
 (Cf d ([5,7,5,6,8,9]:List Int)).bind fun y=>
 (Cy y.2 y.1).bind fun y_2=>
 some ((Av.mk y.1 y_2.1),y_2.2)
def Cl.j2 (issuer:ByteArray) (subject:ByteArray) (key:Av) (id:Int) (signer:Int) (authority:Bool) (y:Int×Ab) (y_2:Int×Ab) (y_3:Int×Ab) (y_4:Int×Ab) (c_1:Int) (b_2:Ab) (l_2:List ByteArray):Option (Ah×Ab):=
 (Fa (Ah.mk y.1 issuer subject key id (Av.mk y_2.1 0) y_3.1 y_4.1 authority c_1 l_2 (Eb.mk 0 0)) signer).bind fun y_7=>
 some (y_7.1,b_2)
def Cl.j1 (issuer:ByteArray) (subject:ByteArray) (key:Av) (id:Int) (signer:Int) (authority:Bool) (y:Int×Ab) (y_2:Int×Ab) (y_3:Int×Ab) (y_4:Int×Ab) (d_1:Ab) (c_1:Int):Option (Ah×Ab):=
 (Ed d_1 3).bind fun y_6=>
 cond (y_6.1)
  ((uF subject (⟨#[120]⟩:ByteArray)).bind fun s=>
  (Gs 16 ([subject]:List ByteArray) ([s]:List ByteArray)).bind fun l=>
  Cl.j2 issuer subject key id signer authority y y_2 y_3 y_4 c_1 y_6.2 l)
  (Cl.j2 issuer subject key id signer authority y y_2 y_3 y_4 c_1 y_6.2 ([subject]:List ByteArray))
def Cl (d:Ab) (issuer:ByteArray) (subject:ByteArray) (key:Av) (id:Int) (signer:Int) (authority:Bool):Option (Ah×Ab):=
 (A3 d 1000).bind fun y=>
 (Cf y.2 ([3,2,4,1]:List Int)).bind fun y_2=>
 (Cf y_2.2 ([0,5,10]:List Int)).bind fun y_3=>
 (Cf y_3.2 ([1000,100,50,20]:List Int)).bind fun y_4=>
 cond (authority)
  ((Cf y_4.2 ([3,0,1]:List Int)).bind fun y_5=>
  Cl.j1 issuer subject key id signer authority y y_2 y_3 y_4 y_5.2 y_5.1)
  (Cl.j1 issuer subject key id signer authority y y_2 y_3 y_4 y_4.2 0)
def G2.l1 (name:ByteArray) (key:Av) (id:Int) (y:Int×Ab) (signer_1:Int) (issuer_1:ByteArray) (i_1:Int) (d_1:Ab) (above_1:List Ah):Option (Lp (Int×ByteArray×Int×Ab×List Ah) ((List Ah)×Ab)):=
 cond (decide (i_1 < y.1))
  ((Bo ([(⟨#[99,97]⟩:ByteArray),(⟨#[99,98]⟩:ByteArray),(⟨#[99,99]⟩:ByteArray)]:List ByteArray) i_1).bind fun e=>
  (Cl d_1 issuer_1 e (Av.mk 5 2048) (W (11 + i_1)) signer_1 true).bind fun y_3=>
  (Gs 2280 ([y_3.1]:List Ah) above_1).bind fun l=>
  some (.next (W (11 + i_1),e,W (i_1 + 1),y_3.2,l)))
  (up (
   (Cl d_1 issuer_1 name key id signer_1 false).bind fun y_4=>
   (Gs 2280 ([y_4.1]:List Ah) above_1).bind fun l_2=>
   some (l_2,y_4.2)))
def G2 (d:Ab) (name:ByteArray) (key:Av) (id:Int):Option ((List Ah)×Ab):=
 (Cf d ([1,0,2]:List Int)).bind fun y=>
 (A3 y.2 2).bind fun y_2=>
 B1 (fun q'=>G2.l1 name key id y q'.1 q'.2.1 q'.2.2.1 q'.2.2.2.1 q'.2.2.2.2) (W (1 + y_2.1),(⟨#[114,111,111,116]⟩:ByteArray),0,y_2.2,([]:List Ah))
def B8.j4 (i_2:Int) (l_2:List A4) (key_3:Int) (key_3_2:Int) (y_13:Int×Ab) (d_4:List Int) (d_4_2:Int) (l_4:List Ah):Option (Lp (Int×List Int×Int×List A4) (Al×Ab)):=
 (Gs 192 l_2 ([(A4.mk (Av.mk key_3 key_3_2) (W (100 + y_13.1)) l_4)]:List A4)).bind fun l=>
 some (.next (W (i_2 - 1),d_4,d_4_2,l))
def B8.j3 (name:ByteArray) (i_2:Int) (l_2:List A4) (d_3:List Int) (d_3_2:Int) (key_3:Int) (key_3_2:Int):Option (Lp (Int×List Int×Int×List A4) (Al×Ab)):=
 (A3 (Ab.mk d_3 d_3_2) 20).bind fun y_13=>
 (Ed y_13.2 9).bind fun y_14=>
 cond (!y_14.1)
  ((G2 y_14.2 name (Av.mk key_3 key_3_2) (W (100 + y_13.1))).bind fun y_15=>
  B8.j4 i_2 l_2 key_3 key_3_2 y_13 y_15.2.L y_15.2.At y_15.1)
  (B8.j4 i_2 l_2 key_3 key_3_2 y_13 y_14.2.L y_14.2.At ([]:List Ah))
def B8.l2 (name:ByteArray) (y_2:(List Int)×Ab) (y_3:Bool×Ab) (y_4:Bool×Ab) (e_1:Int) (e_1_2:Int) (i_2:Int) (d_2:List Int) (d_2_2:Int) (l_2:List A4):Option (Lp (Int×List Int×Int×List A4) (Al×Ab)):=
 cond (decide (0 < i_2))
  ((Nn (Ab.mk d_2 d_2_2)).bind fun y_9=>
  (A3 y_9.2 3).bind fun y_10=>
  cond (decide (0 < y_10.1))
   ((Cf y_10.2 ([5,7]:List Int)).bind fun y_11=>
   (Cy y_11.2 y_11.1).bind fun y_12=>
   B8.j3 name i_2 l_2 y_12.2.L y_12.2.At y_11.1 y_12.1)
   (B8.j3 name i_2 l_2 y_10.2.L y_10.2.At y_9.1.Alg y_9.1.Bits))
  (up (
   (A3 (Ab.mk d_2 d_2_2) 5).bind fun y_16=>
   (Bo ([([1,2]:List Int),([1,2]:List Int),([1]:List Int),([2,11]:List Int),([]:(List Int))]:List (List Int)) y_16.1).bind fun e=>
   (A3 y_16.2 3).bind fun y_17=>
   (Bo ([([1,2,3,4]:List Int),([2,3,4]:List Int),([3,4]:List Int)]:List (List Int)) y_17.1).bind fun e_2=>
   some ((Al.mk name e_1 e_1_2 y_2.1 y_3.1 l_2 e e_2 y_4.1),y_17.2)))
def B8.j1 (name:ByteArray) (y_2:(List Int)×Ab) (y_3:Bool×Ab) (y_4:Bool×Ab) (d_1:List Int) (d_1_2:Int) (e_1:Int) (e_1_2:Int):Option (Al×Ab):=
 (Cf (Ab.mk d_1 d_1_2) ([1,2,1,3,0]:List Int)).bind fun y_8=>
 B1 (fun q'=>B8.l2 name y_2 y_3 y_4 e_1 e_1_2 q'.1 q'.2.1 q'.2.2.1 q'.2.2.2) (y_8.1,y_8.2.L,y_8.2.At,([]:List A4))
def B8 (d:Ab) (name:ByteArray):Option (Al×Ab):=
 (Cf d ([1,1,2,3]:List Int)).bind fun y=>
 (Ec y.2).bind fun y_2=>
 (Ed y_2.2 2).bind fun y_3=>
 (Ed y_3.2 2).bind fun y_4=>
 (A3 y_4.2 (W (5 - y.1))).bind fun y_5=>
 (A3 y_5.2 3).bind fun y_6=>
 cond (decide (0 < y_6.1))
  ((Cf y_6.2 ([3,4,2]:List Int)).bind fun y_7=>
  B8.j1 name y_2 y_3 y_4 y_7.2.L y_7.2.At 1 y_7.1)
  (B8.j1 name y_2 y_3 y_4 y_6.2.L y_6.2.At y.1 (W (y.1 + y_5.1)))
def B5.j5 (k_3:Int) (d_5:Ab) (l_5:List Aw):Option (Lp (Int×Ab×List Aw) (Lp (Int×Ab×List Aw) (An×Ab))):=
 some (.next (W (k_3 + 1),d_5,l_5))
def B5.j4 (i_2:Int) (k_3:Int) (l_3:List Aw) (x50_4:Bool) (d_4:Ab):Option (Lp (Int×Ab×List Aw) (Lp (Int×Ab×List Aw) (An×Ab))):=
 cond (x50_4)
  ((Gs 32 l_3 ([(Aw.mk i_2 k_3)]:List Aw)).bind fun l_4=>
  B5.j5 k_3 d_4 l_4)
  (B5.j5 k_3 d_4 l_3)
def B5.l3 (y:Int×Ab) (i_2:Int) (k_3:Int) (d_3:Ab) (l_3:List Aw):Option (Lp (Int×Ab×List Aw) (Lp (Int×Ab×List Aw) (An×Ab))):=
 cond (decide (k_3 < ((((W (2 + y.1):Int).toNat - (0:Int).toNat):Nat):Int)))
  (cond (!decide (i_2=k_3))
   ((A3 d_3 3).bind fun y_3=>
   B5.j4 i_2 k_3 l_3 (decide (y_3.1=0)) y_3.2)
   (B5.j4 i_2 k_3 l_3 false d_3))
  (up (
   some (.next (W (i_2 + 1),d_3,l_3))))
def B5.l6 (l_1:List Al) (l_2_2:List Aw) (i_6:Int) (d_6:Ab) (l_6:List Bp):Option (Lp (Int×Ab×List Bp) (An×Ab)):=
 cond (decide (0 < i_6))
  ((Hx d_6 ([(⟨#[98,97,99,107,117,112]⟩:ByteArray),(⟨#[100,101,101,100]⟩:ByteArray)]:List ByteArray)).bind fun y_5=>
  (G6 y_5.2 y_5.1).bind fun y_6=>
  (Gs 320 l_6 ([y_6.1]:List Bp)).bind fun l_7=>
  some (.next (W (i_6 - 1),y_6.2,l_7)))
  (up (
   some ((An.mk l_1 l_2_2 l_6),d_6)))
def B5.l2 (y:Int×Ab) (l_1:List Al) (i_2:Int) (d_2:Ab) (l_2_2:List Aw):Option (Lp (Int×Ab×List Aw) (An×Ab)):=
 cond (decide (i_2 < ((((W (2 + y.1):Int).toNat - (0:Int).toNat):Nat):Int)))
  (B1 (fun q'=>B5.l3 y i_2 q'.1 q'.2.1 q'.2.2) (0,d_2,l_2_2))
  (up (
   (A3 d_2 3).bind fun y_4=>
   B1 (fun q'=>B5.l6 l_1 l_2_2 q'.1 q'.2.1 q'.2.2) (y_4.1,y_4.2,([]:List Bp))))
def B5.l1 (y:Int×Ab) (i_1:Int) (d_1:Ab) (l_1:List Al):Option (Lp (Int×Ab×List Al) (An×Ab)):=
 cond (decide (i_1 < ((((W (2 + y.1):Int).toNat - (0:Int).toNat):Nat):Int)))
  ((Bo ((([(⟨#[97,112,112]⟩:ByteArray),(⟨#[100,98]⟩:ByteArray),(⟨#[109,97,105,108]⟩:ByteArray),(⟨#[119,101,98]⟩:ByteArray)]:List ByteArray).drop ((0:Int).toNat)).take ((W (2 + y.1):Int).toNat - (0:Int).toNat)) i_1).bind fun e=>
  (B8 d_1 e).bind fun y_2=>
  (Gs 1296 l_1 ([y_2.1]:List Al)).bind fun l_2=>
  some (.next (W (i_1 + 1),y_2.2,l_2)))
  (up (
   B1 (fun q'=>B5.l2 y l_1 q'.1 q'.2.1 q'.2.2) (0,d_1,([]:List Aw))))
def B5 (d:Ab):Option (An×Ab):=
 (A3 d 3).bind fun y=>
 (Xx ([(⟨#[97,112,112]⟩:ByteArray),(⟨#[100,98]⟩:ByteArray),(⟨#[109,97,105,108]⟩:ByteArray),(⟨#[119,101,98]⟩:ByteArray)]:List ByteArray) 0 (W (2 + y.1))).bind fun l=>
 B1 (fun q'=>B5.l1 y q'.1 q'.2.1 q'.2.2) (0,y.2,([]:List Al))
def Gk (s:ByteArray) (c:UInt8):Option (Int):=
 some (eO s c)
def D5 (s:ByteArray) (c:UInt8):Option (Int):=
 (Gk s c).bind fun y=>
 some y
def Im (c:UInt8) (others:ByteArray):Option (Bool):=
 cond (decide (97<=(c.toNat:Int)))
  (cond (decide ((c.toNat:Int)<=122))
   (some true)
   (cond (decide (65<=(c.toNat:Int)))
    (cond (decide ((c.toNat:Int)<=90))
     (some true)
     (cond (decide (48<=(c.toNat:Int)))
      (cond (decide ((c.toNat:Int)<=57))
       (some true)
       ((D5 others c).bind fun y=>
       some (decide (0<=y))))
      ((D5 others c).bind fun y_2=>
      some (decide (0<=y_2)))))
    (cond (decide (48<=(c.toNat:Int)))
     (cond (decide ((c.toNat:Int)<=57))
      (some true)
      ((D5 others c).bind fun y_3=>
      some (decide (0<=y_3))))
     ((D5 others c).bind fun y_4=>
     some (decide (0<=y_4))))))
  (cond (decide (65<=(c.toNat:Int)))
   (cond (decide ((c.toNat:Int)<=90))
    (some true)
    (cond (decide (48<=(c.toNat:Int)))
     (cond (decide ((c.toNat:Int)<=57))
      (some true)
      ((D5 others c).bind fun y_5=>
      some (decide (0<=y_5))))
     ((D5 others c).bind fun y_6=>
     some (decide (0<=y_6)))))
   (cond (decide (48<=(c.toNat:Int)))
    (cond (decide ((c.toNat:Int)<=57))
     (some true)
     ((D5 others c).bind fun y_7=>
     some (decide (0<=y_7))))
    ((D5 others c).bind fun y_8=>
    some (decide (0<=y_8)))))
def Eh.l1 (s:ByteArray) (x8_1:Int):Option (Lp (Int) (Bool)):=
 cond (decide (x8_1 < ((K0 s).length:Int)))
  ((Bo (K0 s) x8_1).bind fun e=>
  (Im e (⟨#[45,95,46]⟩:ByteArray)).bind fun y=>
  cond (!y)
   (up (some false))
   (some (.next (W (x8_1 + 1)))))
  (up (
   cond (decide (1<=(s.size:Int)))
    (some (decide ((s.size:Int)<=32)))
    (some false)))
def Eh (s:ByteArray):Option (Bool):=
 B1 (fun q'=>Eh.l1 s q') 0
def Da (alg:Int) (bits:Int):Option (Av):=
 some (Av.mk alg bits)
def Ev.l1 (y:Av) (y_2:Av) (y_3:Av) (y_4:Av) (y_5:Av) (y_6:Av) (y_7:Av) (y_8:Av) (y_9:Av) (y_10:Av) (y_11:Av) (y_12:Av) (y_13:Av) (y_14:Av) (y_15:Av) (y_16:Av) (y_17:Av) (y_18:Av) (y_19:Av) (y_20:Av) (y_21:Av) (y_22:Av) (x114_1:Int) (l_1:List A7):Option (Lp (Int×List A7) ((List A7))):=
 cond (decide (x114_1 < (([(A7.mk 0 (⟨#[114,115,97,45,114,99,52,45,109,100,53]⟩:ByteArray) y y_2 y_14 y_10 1 2),(A7.mk 0 (⟨#[114,115,97,45,114,99,52,45,115,104,97]⟩:ByteArray) y y_2 y_15 y_11 1 3),(A7.mk 0 (⟨#[114,115,97,45,100,101,115,51,45,115,104,97]⟩:ByteArray) y y_2 y_5 y_11 1 3),(A7.mk 0 (⟨#[100,104,101,45,100,115,97,45,100,101,115,51,45,115,104,97]⟩:ByteArray) y_16 y_3 y_5 y_11 1 3),(A7.mk 0 (⟨#[100,104,101,45,114,115,97,45,100,101,115,51,45,115,104,97]⟩:ByteArray) y_17 y_2 y_5 y_11 1 3),(A7.mk 0 (⟨#[114,115,97,45,97,101,115,49,50,56,45,115,104,97]⟩:ByteArray) y y_2 y_6 y_11 1 3),(A7.mk 0 (⟨#[100,104,101,45,114,115,97,45,97,101,115,49,50,56,45,115,104,97]⟩:ByteArray) y_18 y_2 y_6 y_11 1 3),(A7.mk 0 (⟨#[101,99,100,104,101,45,114,115,97,45,97,101,115,49,50,56,45,115,104,97]⟩:ByteArray) y_13 y_2 y_6 y_11 1 3),(A7.mk 0 (⟨#[101,99,100,104,101,45,101,99,100,115,97,45,97,101,115,50,53,54,45,115,104,97,50,53,54]⟩:ByteArray) y_13 y_4 y_19 y_20 3 3),(A7.mk 0 (⟨#[101,99,100,104,101,45,114,115,97,45,97,101,115,49,50,56,45,103,99,109]⟩:ByteArray) y_13 y_2 y_7 y_12 3 3),(A7.mk 0 (⟨#[101,99,100,104,101,45,101,99,100,115,97,45,97,101,115,50,53,54,45,103,99,109]⟩:ByteArray) y_21 y_4 y_8 y_12 3 3),(A7.mk 0 (⟨#[101,99,100,104,101,45,114,115,97,45,99,104,97,99,104,97]⟩:ByteArray) y_13 y_2 y_9 y_12 3 3),(A7.mk 0 (⟨#[114,115,97,45,97,101,115,50,53,54,45,103,99,109]⟩:ByteArray) y y_2 y_8 y_12 3 3),(A7.mk 0 (⟨#[97,101,115,49,50,56,45,103,99,109]⟩:ByteArray) y_13 (Av.mk 0 0) y_7 y_12 4 4),(A7.mk 0 (⟨#[99,104,97,99,104,97]⟩:ByteArray) y_13 (Av.mk 0 0) y_9 y_12 4 4),(A7.mk 0 (⟨#[109,108,107,101,109,45,97,101,115,50,53,54,45,103,99,109]⟩:ByteArray) y_22 (Av.mk 0 0) y_8 y_12 4 4)]:List A7).length:Int)))
  ((Bo l_1 x114_1).bind fun e=>
  some (.next (W (x114_1 + 1),Dj l_1 ((x114_1).toNat) (A7.mk (W (x114_1 + 1)) e.Name e.Exchange e.Sign e.Cipher e.Mac e.Least e.Most))))
  (up (
   some l_1))
def Ev:Option ((List A7)):=
 (Da 10 0).bind fun y=>
 (Da 5 0).bind fun y_2=>
 (Da 6 0).bind fun y_3=>
 (Da 7 0).bind fun y_4=>
 (Da 15 168).bind fun y_5=>
 (Da 16 128).bind fun y_6=>
 (Da 17 128).bind fun y_7=>
 (Da 17 256).bind fun y_8=>
 (Da 18 0).bind fun y_9=>
 (Da 19 0).bind fun y_10=>
 (Da 20 0).bind fun y_11=>
 (Da 22 0).bind fun y_12=>
 (Da 12 256).bind fun y_13=>
 (Da 14 128).bind fun y_14=>
 (Da 14 128).bind fun y_15=>
 (Da 11 1024).bind fun y_16=>
 (Da 11 1024).bind fun y_17=>
 (Da 11 2048).bind fun y_18=>
 (Da 16 256).bind fun y_19=>
 (Da 21 0).bind fun y_20=>
 (Da 12 384).bind fun y_21=>
 (Da 13 768).bind fun y_22=>
 B1 (fun q'=>Ev.l1 y y_2 y_3 y_4 y_5 y_6 y_7 y_8 y_9 y_10 y_11 y_12 y_13 y_14 y_15 y_16 y_17 y_18 y_19 y_20 y_21 y_22 q'.1 q'.2) (0,([(A7.mk 0 (⟨#[114,115,97,45,114,99,52,45,109,100,53]⟩:ByteArray) y y_2 y_14 y_10 1 2),(A7.mk 0 (⟨#[114,115,97,45,114,99,52,45,115,104,97]⟩:ByteArray) y y_2 y_15 y_11 1 3),(A7.mk 0 (⟨#[114,115,97,45,100,101,115,51,45,115,104,97]⟩:ByteArray) y y_2 y_5 y_11 1 3),(A7.mk 0 (⟨#[100,104,101,45,100,115,97,45,100,101,115,51,45,115,104,97]⟩:ByteArray) y_16 y_3 y_5 y_11 1 3),(A7.mk 0 (⟨#[100,104,101,45,114,115,97,45,100,101,115,51,45,115,104,97]⟩:ByteArray) y_17 y_2 y_5 y_11 1 3),(A7.mk 0 (⟨#[114,115,97,45,97,101,115,49,50,56,45,115,104,97]⟩:ByteArray) y y_2 y_6 y_11 1 3),(A7.mk 0 (⟨#[100,104,101,45,114,115,97,45,97,101,115,49,50,56,45,115,104,97]⟩:ByteArray) y_18 y_2 y_6 y_11 1 3),(A7.mk 0 (⟨#[101,99,100,104,101,45,114,115,97,45,97,101,115,49,50,56,45,115,104,97]⟩:ByteArray) y_13 y_2 y_6 y_11 1 3),(A7.mk 0 (⟨#[101,99,100,104,101,45,101,99,100,115,97,45,97,101,115,50,53,54,45,115,104,97,50,53,54]⟩:ByteArray) y_13 y_4 y_19 y_20 3 3),(A7.mk 0 (⟨#[101,99,100,104,101,45,114,115,97,45,97,101,115,49,50,56,45,103,99,109]⟩:ByteArray) y_13 y_2 y_7 y_12 3 3),(A7.mk 0 (⟨#[101,99,100,104,101,45,101,99,100,115,97,45,97,101,115,50,53,54,45,103,99,109]⟩:ByteArray) y_21 y_4 y_8 y_12 3 3),(A7.mk 0 (⟨#[101,99,100,104,101,45,114,115,97,45,99,104,97,99,104,97]⟩:ByteArray) y_13 y_2 y_9 y_12 3 3),(A7.mk 0 (⟨#[114,115,97,45,97,101,115,50,53,54,45,103,99,109]⟩:ByteArray) y y_2 y_8 y_12 3 3),(A7.mk 0 (⟨#[97,101,115,49,50,56,45,103,99,109]⟩:ByteArray) y_13 (Av.mk 0 0) y_7 y_12 4 4),(A7.mk 0 (⟨#[99,104,97,99,104,97]⟩:ByteArray) y_13 (Av.mk 0 0) y_9 y_12 4 4),(A7.mk 0 (⟨#[109,108,107,101,109,45,97,101,115,50,53,54,45,103,99,109]⟩:ByteArray) y_22 (Av.mk 0 0) y_8 y_12 4 4)]:List A7))
def Fk.j1 (code:Int) (y:(List A7)) (x13_1:Bool):Option (A7×Int):=
 cond (x13_1)
  (some ((A7.mk 0 (⟨#[]⟩:ByteArray) (Av.mk 0 0) (Av.mk 0 0) (Av.mk 0 0) (Av.mk 0 0) 0 0),8))
  ((Bo y (W (code - 1))).bind fun e=>
  some (e,0))
def Fk (code:Int):Option (A7×Int):=
 (Ev).bind fun y=>
 cond (decide (code < 1))
  (Fk.j1 code y true)
  (Fk.j1 code y (decide ((y.length:Int) < code)))
def Ck.l1 (s:(List Int)) (v:Int) (x8_1:Int):Option (Lp (Int) (Int)):=
 cond (decide (x8_1 < (s.length:Int)))
  ((Bo s x8_1).bind fun e=>
  cond (decide (v=e))
   (up (some x8_1))
   (some (.next (W (x8_1 + 1)))))
  (up (
   some (-1)))
def Ck (s:(List Int)) (v:Int):Option (Int):=
 B1 (fun q'=>Ck.l1 s v q') 0
def Er (s:(List Int)) (v:Int):Option (Bool):=
 (Ck s v).bind fun y=>
 some (decide (0<=y))
def Dg.j2 (x9_1:Int) (x27_2:Bool):Option (Lp (Int) (Bool)):=
 cond (x27_2)
  (up (some false))
  (some (.next (W (x9_1 + 1))))
def Dg.l1 (l:(List Int)) (x9_1:Int):Option (Lp (Int) (Bool)):=
 cond (decide (x9_1 < (l.length:Int)))
  ((Bo l x9_1).bind fun e=>
  (Fk e).bind fun y=>
  cond (!decide (y.2=0))
   (Dg.j2 x9_1 true)
   ((Xx l 0 x9_1).bind fun l_2=>
   (Er l_2 e).bind fun y_2=>
   Dg.j2 x9_1 y_2))
  (up (
   some true))
def Dg (l:(List Int)):Option (Bool):=
 B1 (fun q'=>Dg.l1 l q') 0
def C0.j2 (x6_1:Int) (x22_2:Bool):Option (Lp (Int) (Bool)):=
 cond (x22_2)
  (up (some false))
  (some (.next (W (x6_1 + 1))))
def C0.l1 (l:(List Int)) (x6_1:Int):Option (Lp (Int) (Bool)):=
 cond (decide (x6_1 < (l.length:Int)))
  (cond (decide (0 < x6_1))
   ((Bo l (W (x6_1 - 1))).bind fun e=>
   (Bo l x6_1).bind fun e_2=>
   C0.j2 x6_1 (decide (e_2<=e)))
   (C0.j2 x6_1 false))
  (up (
   some true))
def C0 (l:(List Int)):Option (Bool):=
 B1 (fun q'=>C0.l1 l q') 0
def Ob:Option ((List Cg)):=
 some ([(Cg.mk (⟨#[]⟩:ByteArray) 0 0 ([]:(List Int)) ([]:(List Int))),(Cg.mk (⟨#[109,100,53]⟩:ByteArray) 1 0 ([]:(List Int)) ([18]:List Int)),(Cg.mk (⟨#[115,104,97,49]⟩:ByteArray) 1 0 ([]:(List Int)) ([60]:List Int)),(Cg.mk (⟨#[115,104,97,50,53,54]⟩:ByteArray) 1 0 ([]:(List Int)) ([128]:List Int)),(Cg.mk (⟨#[115,104,97,51,56,52]⟩:ByteArray) 1 0 ([]:(List Int)) ([192]:List Int)),(Cg.mk (⟨#[114,115,97]⟩:ByteArray) 2 1 ([]:(List Int)) ([]:(List Int))),(Cg.mk (⟨#[100,115,97]⟩:ByteArray) 2 1 ([]:(List Int)) ([]:(List Int))),(Cg.mk (⟨#[101,99,100,115,97]⟩:ByteArray) 2 2 ([]:(List Int)) ([]:(List Int))),(Cg.mk (⟨#[101,100,50,53,53,49,57]⟩:ByteArray) 2 0 ([]:(List Int)) ([128]:List Int)),(Cg.mk (⟨#[109,108,100,115,97]⟩:ByteArray) 2 3 ([44,65,87]:List Int) ([128,192,256]:List Int)),(Cg.mk (⟨#[114,115,97,107,120]⟩:ByteArray) 3 1 ([]:(List Int)) ([]:(List Int))),(Cg.mk (⟨#[100,104,101]⟩:ByteArray) 3 1 ([]:(List Int)) ([]:(List Int))),(Cg.mk (⟨#[101,99,100,104,101]⟩:ByteArray) 3 2 ([]:(List Int)) ([]:(List Int))),(Cg.mk (⟨#[109,108,107,101,109]⟩:ByteArray) 3 3 ([512,768,1024]:List Int) ([128,192,256]:List Int)),(Cg.mk (⟨#[114,99,52]⟩:ByteArray) 4 3 ([40,128]:List Int) ([40,60]:List Int)),(Cg.mk (⟨#[100,101,115,51]⟩:ByteArray) 4 3 ([112,168]:List Int) ([80,112]:List Int)),(Cg.mk (⟨#[97,101,115,99,98,99]⟩:ByteArray) 4 3 ([128,256]:List Int) ([128,256]:List Int)),(Cg.mk (⟨#[97,101,115,103,99,109]⟩:ByteArray) 4 3 ([128,256]:List Int) ([128,256]:List Int)),(Cg.mk (⟨#[99,104,97,99,104,97]⟩:ByteArray) 4 0 ([]:(List Int)) ([256]:List Int)),(Cg.mk (⟨#[104,109,97,99,109,100,53]⟩:ByteArray) 5 0 ([]:(List Int)) ([64]:List Int)),(Cg.mk (⟨#[104,109,97,99,115,104,97,49]⟩:ByteArray) 5 0 ([]:(List Int)) ([80]:List Int)),(Cg.mk (⟨#[104,109,97,99,115,104,97,50,53,54]⟩:ByteArray) 5 0 ([]:(List Int)) ([128]:List Int)),(Cg.mk (⟨#[97,101,97,100]⟩:ByteArray) 5 0 ([]:(List Int)) ([256]:List Int))]:List Cg)
def E2.j1 (alg:Int) (x9_1:Bool):Option (Cg×Bool):=
 cond (x9_1)
  (some ((Cg.mk (⟨#[]⟩:ByteArray) 0 0 ([]:(List Int)) ([]:(List Int))),false))
  ((Ob).bind fun y=>
  (Bo (aE0 23 y) alg).bind fun e=>
  some (e,true))
def E2 (alg:Int):Option (Cg×Bool):=
 cond (decide (alg < 1))
  (E2.j1 alg true)
  (E2.j1 alg (decide (22 < alg)))
def Dq.l1 (bits:Int) (x11_1:Int):Option (Lp (Int) (Int)):=
 cond (decide (x11_1 < 5))
  ((Bo ([([1024,56]:List Int),([2048,80]:List Int),([3072,112]:List Int),([7680,128]:List Int),([15360,192]:List Int)]:List (List Int)) x11_1).bind fun e=>
  cond (decide (bits < (e[0]!)))
   (up (some (e[1]!)))
   (some (.next (W (x11_1 + 1)))))
  (up (
   some 256))
def Dq (bits:Int):Option (Int):=
 B1 (fun q'=>Dq.l1 bits q') 0
def A9.j1 (u:Av) (x34_1:Bool):Option (Int):=
 cond (x34_1)
  ((Dq u.Bits).bind fun y_2=>
  some y_2)
  (some 0)
def A9 (u:Av):Option (Int):=
 (E2 u.Alg).bind fun y=>
 cond (!y.2)
  (some 0)
  (cond (decide (y.1.way=0))
   (cond (decide (u.Bits=0))
    ((Bo y.1.strengths 0).bind fun e=>
    some e)
    (some 0))
   (cond (decide (y.1.way=1))
    (cond (decide (512<=u.Bits))
     (A9.j1 u (decide (u.Bits<=16384)))
     (A9.j1 u false))
    (cond (decide (y.1.way=2))
     ((Er ([160,224,256,384,521]:List Int) u.Bits).bind fun y_3=>
     cond (y_3)
      ((Ml u.Bits 2).bind fun q=>
      some q)
      (some 0))
     (cond (decide (y.1.way=3))
      ((Ck y.1.sizes u.Bits).bind fun y_4=>
      cond (decide (0<=y_4))
       ((Bo y.1.strengths y_4).bind fun e_2=>
       some e_2)
       (some 0))
      (some 0)))))
def Hb (u:Av):Option (Bool):=
 (A9 u).bind fun y=>
 some (decide (0 < y))
def H2 (alg:Int):Option (Int):=
 (E2 alg).bind fun y=>
 some y.1.kind
def Fc (n:Int):Option (Bool):=
 cond (decide (0<=n))
  (some (decide (n<=2147483648)))
  (some false)
def C4.j2 (x8_1:Int) (x17_2:Bool):Option (Lp (Int) (Bool)):=
 cond (x17_2)
  (up (some false))
  (some (.next (W (x8_1 + 1))))
def C4.l1 (s:ByteArray) (x8_1:Int):Option (Lp (Int) (Bool)):=
 cond (decide (x8_1 < ((K0 s).length:Int)))
  ((Bo (K0 s) x8_1).bind fun e=>
  cond (decide ((e.toNat:Int)<=32))
   (C4.j2 x8_1 true)
   (C4.j2 x8_1 (decide (126 < (e.toNat:Int)))))
  (up (
   cond (decide (1<=(s.size:Int)))
    (some (decide ((s.size:Int)<=32)))
    (some false)))
def C4 (s:ByteArray):Option (Bool):=
 B1 (fun q'=>C4.l1 s q') 0
def Ci.j2 (x7_1:Int) (x27_2:Bool):Option (Lp (Int) (Bool)):=
 cond (x27_2)
  (up (some false))
  (some (.next (W (x7_1 + 1))))
def Ci.l1 (l:(List ByteArray)) (x7_1:Int):Option (Lp (Int) (Bool)):=
 cond (decide (x7_1 < (l.length:Int)))
  ((Bo l x7_1).bind fun e=>
  (C4 e).bind fun y=>
  cond (!y)
   (Ci.j2 x7_1 true)
   (cond (decide (0 < x7_1))
    ((Bo l (W (x7_1 - 1))).bind fun e_2=>
    Ci.j2 x7_1 (!fS (K0 e_2) (K0 e)))
    (Ci.j2 x7_1 false)))
  (up (
   some (decide ((l.length:Int)<=8))))
def Ci (l:(List ByteArray)):Option (Bool):=
 B1 (fun q'=>Ci.l1 l q') 0
def Hy (u:Av) (kind:Int):Option (Bool):=
 (Hb u).bind fun y=>
 cond (y)
  ((H2 u.Alg).bind fun y_2=>
  some (decide (y_2=kind)))
  (some false)
def Il (n:Int):Option (Bool):=
 cond (decide (0<=n))
  (some (decide (n < 4294967296)))
  (some false)
def Bj.j3 (c:Ah) (x73_3:Bool):Option (Bool):=
 cond (x73_3)
  (some false)
  (cond (decide (0<=c.Path))
   (cond (decide (c.Path<=8))
    (cond (c.Authority)
     (some true)
     (some (decide (c.Path=0))))
    (some false))
   (some false))
def Bj.j2 (c:Ah) (x58_2:Bool):Option (Bool):=
 cond (x58_2)
  (some false)
  (cond (decide (c.From < 0))
   (Bj.j3 c true)
   (cond (decide (c.To < c.From))
    (Bj.j3 c true)
    (Bj.j3 c (decide (40000 < c.To)))))
def Bj.j1 (c:Ah) (x28_1:Bool):Option (Bool):=
 cond (x28_1)
  (some false)
  ((Hy c.Key 2).bind fun y_4=>
  cond (!y_4)
   (Bj.j2 c true)
   ((Fc c.KeyId).bind fun y_5=>
   cond (!y_5)
    (Bj.j2 c true)
    ((Hy c.Hash 1).bind fun y_6=>
    cond (!y_6)
     (Bj.j2 c true)
     ((Fc c.Seal.Key).bind fun y_7=>
     cond (!y_7)
      (Bj.j2 c true)
      ((Il c.Seal.Sum).bind fun y_8=>
      Bj.j2 c (!y_8))))))
def Bj (c:Ah):Option (Bool):=
 cond (decide (c.Serial < 0))
  (Bj.j1 c true)
  (cond (decide (1099511627776 < c.Serial))
   (Bj.j1 c true)
   ((C4 c.Issuer).bind fun y=>
   cond (!y)
    (Bj.j1 c true)
    ((C4 c.Subject).bind fun y_2=>
    cond (!y_2)
     (Bj.j1 c true)
     ((Ci c.Names).bind fun y_3=>
     Bj.j1 c (!y_3)))))
def Hk (c:Ah):Option (Int):=
 (Bj c).bind fun y=>
 cond (!y)
  (some 9)
  (some 0)
def Ct.l2 (key:Av) (id:Int) (l:(List Ah)) (x30_2:Int):Option (Lp (Int) (Bool)):=
 cond (decide (x30_2 < (l.length:Int)))
  ((Bo l x30_2).bind fun e=>
  (Hk e).bind fun y_4=>
  cond (!decide (y_4=0))
   (up (some false))
   (some (.next (W (x30_2 + 1)))))
  (up (
   cond (decide ((l.length:Int)=0))
    (some true)
    ((Bo l 0).bind fun e_2=>
    cond (decide (e_2.Key=key))
     (some (decide (e_2.KeyId=id)))
     (some false))))
def Ct.j1 (key:Av) (id:Int) (l:(List Ah)) (x27_1:Bool):Option (Bool):=
 cond (x27_1)
  (some false)
  (B1 (fun q'=>Ct.l2 key id l q') 0)
def Ct (key:Av) (id:Int) (l:(List Ah)):Option (Bool):=
 (Hb key).bind fun y=>
 cond (!y)
  (Ct.j1 key id l true)
  ((H2 key.Alg).bind fun y_2=>
  cond (!decide (y_2=2))
   (Ct.j1 key id l true)
   ((Fc id).bind fun y_3=>
   cond (!y_3)
    (Ct.j1 key id l true)
    (Ct.j1 key id l (decide (8 < (l.length:Int))))))
def I3:Option (Unit):=
 some ()
def Gh (n:Int):Option (Bool):=
 (Fc n).bind fun y=>
 some (!y)
def B2.l1 (s:(List Int)) (f:Int->Option (Bool)) (x8_1:Int):Option (Lp (Int) (Int)):=
 cond (decide (x8_1 < (s.length:Int)))
  ((Bo s x8_1).bind fun e=>
  (f e).bind fun y=>
  cond (y)
   (up (some x8_1))
   (some (.next (W (x8_1 + 1)))))
  (up (
   some (-1)))
def B2 (s:(List Int)) (f:Int->Option (Bool)):Option (Int):=
 B1 (fun q'=>B2.l1 s f q') 0
def D2 (s:(List Int)) (f:Int->Option (Bool)):Option (Bool):=
 (B2 s f).bind fun y=>
 some (decide (0<=y))
def I0:Option (Unit):=
 some ()
def Jm (alg:Int):Option (Bool):=
 (H2 alg).bind fun y=>
 some (decide (y=1))
def Gf (n:Int):Option (Bool):=
 (Jm n).bind fun y=>
 some (!y)
def Bz.j4 (x82_4:Bool):Option (Int):=
 cond (x82_4)
  (some 19)
  (some 0)
def Bz.l3 (e:Al) (x58_3:Int):Option (Lp (Int) (Int)):=
 cond (decide (x58_3 < (e.Identities.length:Int)))
  ((Bo e.Identities x58_3).bind fun e_2=>
  (Ct e_2.Key e_2.KeyId e_2.Chain).bind fun y_5=>
  cond (!y_5)
   (up (some 19))
   (some (.next (W (x58_3 + 1)))))
  (up (
   (I3).bind fun y_6=>
   (D2 e.Anchors (fun x0=>Gh x0)).bind fun y_7=>
   cond (y_7)
    (Bz.j4 true)
    ((I0).bind fun y_8=>
    (D2 e.Hashes (fun x0=>Gf x0)).bind fun y_9=>
    Bz.j4 y_9)))
def Bz.j2 (e:Al) (x54_2:Bool):Option (Int):=
 cond (x54_2)
  (some 19)
  (B1 (fun q'=>Bz.l3 e q') 0)
def Bz.j1 (e:Al) (x32_1:Bool):Option (Int):=
 cond (x32_1)
  (some 19)
  (cond (decide (4 < (e.Identities.length:Int)))
   (Bz.j2 e true)
   (cond (decide (16 < (e.Anchors.length:Int)))
    (Bz.j2 e true)
    ((C0 e.Anchors).bind fun y_3=>
    cond (!y_3)
     (Bz.j2 e true)
     ((C0 e.Hashes).bind fun y_4=>
     Bz.j2 e (!y_4)))))
def Bz (e:Al):Option (Int):=
 (Eh e.Name).bind fun y=>
 cond (!y)
  (Bz.j1 e true)
  (cond (decide (e.Least < 1))
   (Bz.j1 e true)
   (cond (decide (e.Most < e.Least))
    (Bz.j1 e true)
    (cond (decide (4 < e.Most))
     (Bz.j1 e true)
     ((Dg e.Suites).bind fun y_2=>
     Bz.j1 e (!y_2)))))
def Bh.j4 (x47_3:Int) (x81_4:Bool):Option (Lp (Int) (Int)):=
 cond (x81_4)
  (up (some 30))
  (some (.next (W (x47_3 + 1))))
def Bh.j5 (x95_5:Bool):Option (Int):=
 cond (x95_5)
  (some 30)
  (some 0)
def Bh.l3 (i:Bp) (x47_3:Int):Option (Lp (Int) (Int)):=
 cond (decide (x47_3 < (i.Links.length:Int)))
  ((Bo i.Links x47_3).bind fun e=>
  (Hb e.Use).bind fun y_2=>
  cond (!y_2)
   (Bh.j4 x47_3 true)
   (cond (decide (e.Day < 0))
    (Bh.j4 x47_3 true)
    (cond (decide (40000 < e.Day))
     (Bh.j4 x47_3 true)
     (cond (decide (0 < x47_3))
      ((Bo i.Links (W (x47_3 - 1))).bind fun e_2=>
      Bh.j4 x47_3 (decide (e.Day<=e_2.Day)))
      (Bh.j4 x47_3 false)))))
  (up (
   (Bo i.Links 0).bind fun e_3=>
   cond (decide (i.Until < e_3.Day))
    (Bh.j5 true)
    (Bh.j5 (decide (40000 < i.Until)))))
def Bh.j2 (i:Bp) (x43_2:Bool):Option (Int):=
 cond (x43_2)
  (some 30)
  (B1 (fun q'=>Bh.l3 i q') 0)
def Bh.j1 (i:Bp) (known_1:Bool):Option (Int):=
 (C4 i.Name).bind fun y=>
 cond (!y)
  (Bh.j2 i true)
  (cond (!known_1)
   (Bh.j2 i true)
   (cond (decide (i.Purpose < 1))
    (Bh.j2 i true)
    (cond (decide (4 < i.Purpose))
     (Bh.j2 i true)
     (cond (decide ((i.Links.length:Int) < 1))
      (Bh.j2 i true)
      (Bh.j2 i (decide (8 < (i.Links.length:Int))))))))
def Bh (i:Bp):Option (Int):=
 cond (decide (i.Kind=1))
  (Bh.j1 i true)
  (Bh.j1 i (decide (i.Kind=2)))
def Fs (x':Bp):Option (Bool):=
 (Bh x').bind fun y=>
 some (!decide (y=0))
def Bw.l1 (s:(List Bp)) (f:Bp->Option (Bool)) (x8_1:Int):Option (Lp (Int) (Int)):=
 cond (decide (x8_1 < (s.length:Int)))
  ((Bo s x8_1).bind fun e=>
  (f e).bind fun y=>
  cond (y)
   (up (some x8_1))
   (some (.next (W (x8_1 + 1)))))
  (up (
   some (-1)))
def Bw (s:(List Bp)) (f:Bp->Option (Bool)):Option (Int):=
 B1 (fun q'=>Bw.l1 s f q') 0
def Et (s:(List Bp)) (f:Bp->Option (Bool)):Option (Bool):=
 (Bw s f).bind fun y=>
 some (decide (0<=y))
def Bx.j3 (x9_1:Int) (x75_3:Bool):Option (Lp (Int) (Bool)):=
 cond (x75_3)
  (up (some false))
  (some (.next (W (x9_1 + 1))))
def Bx.j2 (l:(List Aw)) (x9_1:Int) (e:Aw) (x40_2:Bool):Option (Lp (Int) (Bool)):=
 cond (x40_2)
  (up (some false))
  (cond (decide (0 < x9_1))
   ((Bo l (W (x9_1 - 1))).bind fun e_2=>
   cond (decide (e.Client < e_2.Client))
    (Bx.j3 x9_1 true)
    (cond (decide (e_2.Client=e.Client))
     (Bx.j3 x9_1 (decide (e.Server<=e_2.Server)))
     (Bx.j3 x9_1 false)))
   (Bx.j3 x9_1 false))
def Bx.l1 (l:(List Aw)) (size:Int) (x9_1:Int):Option (Lp (Int) (Bool)):=
 cond (decide (x9_1 < (l.length:Int)))
  ((Bo l x9_1).bind fun e=>
  cond (decide (e.Client < 0))
   (Bx.j2 l x9_1 e true)
   (cond (decide (size<=e.Client))
    (Bx.j2 l x9_1 e true)
    (cond (decide (e.Server < 0))
     (Bx.j2 l x9_1 e true)
     (cond (decide (size<=e.Server))
      (Bx.j2 l x9_1 e true)
      (Bx.j2 l x9_1 e (decide (e.Client=e.Server)))))))
  (up (
   some (decide ((l.length:Int)<=40))))
def Bx (l:(List Aw)) (size:Int):Option (Bool):=
 B1 (fun q'=>Bx.l1 l size q') 0
def Ca.j2 (x9_1:Int) (x32_2:Bool):Option (Lp (Int) (Int)):=
 cond (x32_2)
  (up (some 31))
  (some (.next (W (x9_1 + 1))))
def Ca.j3 (x58_3:Bool):Option (Int):=
 cond (x58_3)
  (some 31)
  (some 0)
def Ca.l1 (e:An) (x9_1:Int):Option (Lp (Int) (Int)):=
 cond (decide (x9_1 < (e.Endpoints.length:Int)))
  ((Bo e.Endpoints x9_1).bind fun e_2=>
  (Bz e_2).bind fun y=>
  cond (!decide (y=0))
   (Ca.j2 x9_1 true)
   (cond (decide (0 < x9_1))
    ((Bo e.Endpoints (W (x9_1 - 1))).bind fun e_3=>
    Ca.j2 x9_1 (!fS (K0 e_3.Name) (K0 e_2.Name)))
    (Ca.j2 x9_1 false)))
  (up (
   (Et e.Items (fun x0=>Fs x0)).bind fun y_2=>
   cond (y_2)
    (Ca.j3 true)
    (cond (decide (16 < (e.Endpoints.length:Int)))
     (Ca.j3 true)
     (cond (decide (30 < (e.Items.length:Int)))
      (Ca.j3 true)
      ((Bx e.Edges (e.Endpoints.length:Int)).bind fun y_3=>
      Ca.j3 (!y_3))))))
def Ca (e:An):Option (Int):=
 B1 (fun q'=>Ca.l1 e q') 0
def Hn (e:An) (c:Ae):Option (Bool):=
 cond (decide (0<=c.Endpoint))
  (some (decide (c.Endpoint < (e.Endpoints.length:Int))))
  (some false)
def F4 (c:Ae) (c0:An):Option (Bool):=
 (Hn c0 c).bind fun y=>
 some (!y)
def Bq.l1 (s:(List Ae)) (f:Ae->Option (Bool)) (x8_1:Int):Option (Lp (Int) (Int)):=
 cond (decide (x8_1 < (s.length:Int)))
  ((Bo s x8_1).bind fun e=>
  (f e).bind fun y=>
  cond (y)
   (up (some x8_1))
   (some (.next (W (x8_1 + 1)))))
  (up (
   some (-1)))
def Bq (s:(List Ae)) (f:Ae->Option (Bool)):Option (Int):=
 B1 (fun q'=>Bq.l1 s f q') 0
def Ej (s:(List Ae)) (f:Ae->Option (Bool)):Option (Bool):=
 (Bq s f).bind fun y=>
 some (decide (0<=y))
def De.l1 (s:(List Aw)) (v:Aw) (x8_1:Int):Option (Lp (Int) (Int)):=
 cond (decide (x8_1 < (s.length:Int)))
  ((Bo s x8_1).bind fun e=>
  cond (decide (v=e))
   (up (some x8_1))
   (some (.next (W (x8_1 + 1)))))
  (up (
   some (-1)))
def De (s:(List Aw)) (v:Aw):Option (Int):=
 B1 (fun q'=>De.l1 s v q') 0
def Ey (s:(List Aw)) (v:Aw):Option (Bool):=
 (De s v).bind fun y=>
 some (decide (0<=y))
def Kt (e:An) (a:Int) (b:Int):Option (Bool):=
 cond (decide (a=b))
  (some true)
  ((Ey e.Edges (Aw.mk a b)).bind fun y=>
  cond (y)
   (some true)
   ((Ey e.Edges (Aw.mk b a)).bind fun y_2=>
   some y_2))
def Ce.j5 (x32_3:Int) (out_5:List Ac):Option (Lp (Int×List Ac) (Lp (Int×List Ac) ((List Ac)×Int))):=
 some (.next (W (x32_3 + 1),out_5))
def Ce.j4 (x25_2:Int) (x32_3:Int) (out_3:List Ac) (x61_4:Bool):Option (Lp (Int×List Ac) (Lp (Int×List Ac) ((List Ac)×Int))):=
 cond (x61_4)
  ((Gs 32 out_3 ([(Ac.mk x25_2 x32_3)]:List Ac)).bind fun l_2=>
  Ce.j5 x32_3 l_2)
  (Ce.j5 x32_3 out_3)
def Ce.l3 (e:An) (l:(List Ae)) (x25_2:Int) (e_2:Ae) (x32_3:Int) (out_3:List Ac):Option (Lp (Int×List Ac) (Lp (Int×List Ac) ((List Ac)×Int))):=
 cond (decide (x32_3 < (l.length:Int)))
  ((Bo l x32_3).bind fun e_3=>
  (Bo e.Endpoints e_2.Endpoint).bind fun e_4=>
  (Cs e_4 e_2).bind fun y_3=>
  (Bo e.Endpoints e_3.Endpoint).bind fun e_5=>
  (Cs e_5 e_3).bind fun y_4=>
  cond (decide (y_3 < y_4))
   ((Kt e e_2.Endpoint e_3.Endpoint).bind fun y_5=>
   Ce.j4 x25_2 x32_3 out_3 y_5)
   (Ce.j4 x25_2 x32_3 out_3 false))
  (up (
   some (.next (W (x25_2 + 1),out_3))))
def Ce.l2 (e:An) (l:(List Ae)) (x25_2:Int) (out_2:List Ac):Option (Lp (Int×List Ac) ((List Ac)×Int)):=
 cond (decide (x25_2 < (l.length:Int)))
  ((Bo l x25_2).bind fun e_2=>
  B1 (fun q'=>Ce.l3 e l x25_2 e_2 q'.1 q'.2) (0,out_2))
  (up (
   (C6 out_2).bind fun y_6=>
   some (y_6,0)))
def Ce (e:An) (l:(List Ae)):Option ((List Ac)×Int):=
 (Ca e).bind fun y=>
 cond (!decide (y=0))
  (some (([]:(List Ac)),31))
  (cond (decide (24 < (l.length:Int)))
   (some (([]:(List Ac)),3))
   ((Ej l (fun x0=>F4 x0 e)).bind fun y_2=>
   cond (y_2)
    (some (([]:(List Ac)),40))
    (B1 (fun q'=>Ce.l2 e l q'.1 q'.2) (0,([]:List Ac)))))
def Bm.j3 (i_2:Int) (x55_3:Bool):Option (Lp (Int) (Bool)):=
 cond (x55_3)
  (up (some false))
  (some (.next (W (i_2 + 1))))
def Bm.l2 (s:ByteArray) (i_2:Int):Option (Lp (Int) (Bool)):=
 cond (decide (i_2 < (s.size:Int)))
  ((idxT s i_2).bind fun c=>
  cond (decide ((c.toNat:Int) < 97))
   (cond (decide ((c.toNat:Int) < 65))
    (cond (decide ((c.toNat:Int) < 48))
     (cond (!decide ((c.toNat:Int)=45))
      (cond (!decide ((c.toNat:Int)=95))
       (Bm.j3 i_2 (!decide ((c.toNat:Int)=46)))
       (Bm.j3 i_2 false))
      (Bm.j3 i_2 false))
     (cond (decide (57 < (c.toNat:Int)))
      (cond (!decide ((c.toNat:Int)=45))
       (cond (!decide ((c.toNat:Int)=95))
        (Bm.j3 i_2 (!decide ((c.toNat:Int)=46)))
        (Bm.j3 i_2 false))
       (Bm.j3 i_2 false))
      (Bm.j3 i_2 false)))
    (cond (decide (90 < (c.toNat:Int)))
     (cond (decide ((c.toNat:Int) < 48))
      (cond (!decide ((c.toNat:Int)=45))
       (cond (!decide ((c.toNat:Int)=95))
        (Bm.j3 i_2 (!decide ((c.toNat:Int)=46)))
        (Bm.j3 i_2 false))
       (Bm.j3 i_2 false))
      (cond (decide (57 < (c.toNat:Int)))
       (cond (!decide ((c.toNat:Int)=45))
        (cond (!decide ((c.toNat:Int)=95))
         (Bm.j3 i_2 (!decide ((c.toNat:Int)=46)))
         (Bm.j3 i_2 false))
        (Bm.j3 i_2 false))
       (Bm.j3 i_2 false)))
     (Bm.j3 i_2 false)))
   (cond (decide (122 < (c.toNat:Int)))
    (cond (decide ((c.toNat:Int) < 65))
     (cond (decide ((c.toNat:Int) < 48))
      (cond (!decide ((c.toNat:Int)=45))
       (cond (!decide ((c.toNat:Int)=95))
        (Bm.j3 i_2 (!decide ((c.toNat:Int)=46)))
        (Bm.j3 i_2 false))
       (Bm.j3 i_2 false))
      (cond (decide (57 < (c.toNat:Int)))
       (cond (!decide ((c.toNat:Int)=45))
        (cond (!decide ((c.toNat:Int)=95))
         (Bm.j3 i_2 (!decide ((c.toNat:Int)=46)))
         (Bm.j3 i_2 false))
        (Bm.j3 i_2 false))
       (Bm.j3 i_2 false)))
     (cond (decide (90 < (c.toNat:Int)))
      (cond (decide ((c.toNat:Int) < 48))
       (cond (!decide ((c.toNat:Int)=45))
        (cond (!decide ((c.toNat:Int)=95))
         (Bm.j3 i_2 (!decide ((c.toNat:Int)=46)))
         (Bm.j3 i_2 false))
        (Bm.j3 i_2 false))
       (cond (decide (57 < (c.toNat:Int)))
        (cond (!decide ((c.toNat:Int)=45))
         (cond (!decide ((c.toNat:Int)=95))
          (Bm.j3 i_2 (!decide ((c.toNat:Int)=46)))
          (Bm.j3 i_2 false))
         (Bm.j3 i_2 false))
        (Bm.j3 i_2 false)))
      (Bm.j3 i_2 false)))
    (Bm.j3 i_2 false)))
  (up (
   some true))
def Bm.j1 (s:ByteArray) (x12_1:Bool):Option (Bool):=
 cond (x12_1)
  (some false)
  (B1 (fun q'=>Bm.l2 s q') 0)
def Bm (s:ByteArray):Option (Bool):=
 cond (decide ((s.size:Int) < 1))
  (Bm.j1 s true)
  (Bm.j1 s (decide (32 < (s.size:Int))))
def Dk.l2 (key:Av) (id:Int) (chain:(List Ah)) (i_2:Int):Option (Lp (Int) (Bool)):=
 cond (decide (i_2 < (chain.length:Int)))
  ((Bo chain i_2).bind fun e=>
  (Ba e).bind fun y_2=>
  cond (!decide (y_2=0))
   (up (some false))
   (some (.next (W (i_2 + 1)))))
  (up (
   cond (decide ((chain.length:Int)=0))
    (some true)
    ((Bo chain 0).bind fun e_2=>
    cond (decide (e_2.Key=key))
     (some (decide (e_2.KeyId=id)))
     (some false))))
def Dk.j1 (key:Av) (id:Int) (chain:(List Ah)) (x23_1:Bool):Option (Bool):=
 cond (x23_1)
  (some false)
  (B1 (fun q'=>Dk.l2 key id chain q') 0)
def Dk (key:Av) (id:Int) (chain:(List Ah)):Option (Bool):=
 (G7 key).bind fun y=>
 cond (!y)
  (Dk.j1 key id chain true)
  (cond (decide (id < 0))
   (Dk.j1 key id chain true)
   (cond (decide (2147483648 < id))
    (Dk.j1 key id chain true)
    (Dk.j1 key id chain (decide (8 < (chain.length:Int))))))
def Bb.j3 (i_2:Int) (x77_3:Bool):Option (Lp (Int) (Int)):=
 cond (x77_3)
  (up (some 19))
  (some (.next (W (i_2 + 1))))
def Bb.j6 (i_5:Int) (x143_6:Bool):Option (Lp (Int) (Int)):=
 cond (x143_6)
  (up (some 19))
  (some (.next (W (i_5 + 1))))
def Bb.j8 (i_7:Int) (x175_8:Bool):Option (Lp (Int) (Int)):=
 cond (x175_8)
  (up (some 19))
  (some (.next (W (i_7 + 1))))
def Bb.l7 (e:Al) (i_7:Int):Option (Lp (Int) (Int)):=
 cond (decide (i_7 < (e.Hashes.length:Int)))
  ((Bo e.Hashes i_7).bind fun e_6=>
  (Fg e_6).bind fun y_5=>
  cond (!decide (y_5=1))
   (Bb.j8 i_7 true)
   (cond (decide (0 < i_7))
    ((Bo e.Hashes (W (i_7 - 1))).bind fun e_7=>
    Bb.j8 i_7 (decide (e_6<=e_7)))
    (Bb.j8 i_7 false)))
  (up (
   some 0))
def Bb.l5 (e:Al) (i_5:Int):Option (Lp (Int) (Int)):=
 cond (decide (i_5 < (e.Anchors.length:Int)))
  ((Bo e.Anchors i_5).bind fun e_4=>
  cond (decide (e_4 < 0))
   (Bb.j6 i_5 true)
   (cond (decide (2147483648 < e_4))
    (Bb.j6 i_5 true)
    (cond (decide (0 < i_5))
     ((Bo e.Anchors (W (i_5 - 1))).bind fun e_5=>
     Bb.j6 i_5 (decide (e_4<=e_5)))
     (Bb.j6 i_5 false))))
  (up (
   B1 (fun q'=>Bb.l7 e q') 0))
def Bb.l4 (e:Al) (i_4:Int):Option (Lp (Int) (Int)):=
 cond (decide (i_4 < (e.Identities.length:Int)))
  ((Bo e.Identities i_4).bind fun e_3=>
  (Dk e_3.Key e_3.KeyId e_3.Chain).bind fun y_4=>
  cond (!y_4)
   (up (some 19))
   (some (.next (W (i_4 + 1)))))
  (up (
   B1 (fun q'=>Bb.l5 e q') 0))
def Bb.l2 (e:Al) (i_2:Int):Option (Lp (Int) (Int)):=
 cond (decide (i_2 < (e.Suites.length:Int)))
  ((Bo e.Suites i_2).bind fun e_2=>
  (Fx e_2).bind fun y_2=>
  cond (!decide (y_2.2=0))
   (Bb.j3 i_2 true)
   ((Xx e.Suites 0 i_2).bind fun l=>
   (F6 l e_2).bind fun y_3=>
   Bb.j3 i_2 y_3))
  (up (
   B1 (fun q'=>Bb.l4 e q') 0))
def Bb.j1 (e:Al) (x47_1:Bool):Option (Int):=
 cond (x47_1)
  (some 19)
  (B1 (fun q'=>Bb.l2 e q') 0)
def Bb (e:Al):Option (Int):=
 (Bm e.Name).bind fun y=>
 cond (!y)
  (Bb.j1 e true)
  (cond (decide (e.Least < 1))
   (Bb.j1 e true)
   (cond (decide (e.Most < e.Least))
    (Bb.j1 e true)
    (cond (decide (4 < e.Most))
     (Bb.j1 e true)
     (cond (decide (16 < (e.Suites.length:Int)))
      (Bb.j1 e true)
      (cond (decide (4 < (e.Identities.length:Int)))
       (Bb.j1 e true)
       (Bb.j1 e (decide (16 < (e.Anchors.length:Int)))))))))
def Br.j3 (i_2:Int) (x107_3:Bool):Option (Lp (Int) (Int)):=
 cond (x107_3)
  (up (some 30))
  (some (.next (W (i_2 + 1))))
def Br.l2 (x':Bp) (i_2:Int):Option (Lp (Int) (Int)):=
 cond (decide (i_2 < (x'.Links.length:Int)))
  ((Bo x'.Links i_2).bind fun e_3=>
  (Iq e_3.Use).bind fun y_2=>
  cond (!y_2)
   (Br.j3 i_2 true)
   (cond (decide (e_3.Day < 0))
    (Br.j3 i_2 true)
    (cond (decide (40000 < e_3.Day))
     (Br.j3 i_2 true)
     (cond (decide (0 < i_2))
      ((Bo x'.Links (W (i_2 - 1))).bind fun e_4=>
      Br.j3 i_2 (decide (e_3.Day<=e_4.Day)))
      (Br.j3 i_2 false)))))
  (up (
   some 0))
def Br.j1 (x':Bp) (x54_1:Bool):Option (Int):=
 cond (x54_1)
  (some 30)
  (B1 (fun q'=>Br.l2 x' q') 0)
def Br (x':Bp):Option (Int):=
 (C2 x'.Name).bind fun y=>
 cond (!y)
  (Br.j1 x' true)
  (cond (!decide (x'.Kind=1))
   (cond (!decide (x'.Kind=2))
    (Br.j1 x' true)
    (cond (decide (x'.Purpose < 1))
     (Br.j1 x' true)
     (cond (decide (4 < x'.Purpose))
      (Br.j1 x' true)
      (cond (decide ((x'.Links.length:Int) < 1))
       (Br.j1 x' true)
       (cond (decide (8 < (x'.Links.length:Int)))
        (Br.j1 x' true)
        (cond (decide (40000 < x'.Until))
         (Br.j1 x' true)
         ((Bo x'.Links 0).bind fun e=>
         Br.j1 x' (decide (x'.Until < e.Day)))))))))
   (cond (decide (x'.Purpose < 1))
    (Br.j1 x' true)
    (cond (decide (4 < x'.Purpose))
     (Br.j1 x' true)
     (cond (decide ((x'.Links.length:Int) < 1))
      (Br.j1 x' true)
      (cond (decide (8 < (x'.Links.length:Int)))
       (Br.j1 x' true)
       (cond (decide (40000 < x'.Until))
        (Br.j1 x' true)
        ((Bo x'.Links 0).bind fun e_2=>
        Br.j1 x' (decide (x'.Until < e_2.Day)))))))))
def Bd.j3 (i_2:Int) (x56_3:Bool):Option (Lp (Int) (Int)):=
 cond (x56_3)
  (up (some 31))
  (some (.next (W (i_2 + 1))))
def Bd.j6 (i_4:Int) (x137_6:Bool):Option (Lp (Int) (Int)):=
 cond (x137_6)
  (up (some 31))
  (some (.next (W (i_4 + 1))))
def Bd.j5 (e:An) (i_4:Int) (e_4:Aw) (x99_5:Bool):Option (Lp (Int) (Int)):=
 cond (x99_5)
  (up (some 31))
  (cond (decide (0 < i_4))
   ((Bo e.Edges (W (i_4 - 1))).bind fun e_5=>
   cond (decide (e_4.Client < e_5.Client))
    (Bd.j6 i_4 true)
    (cond (decide (e_5.Client=e_4.Client))
     (Bd.j6 i_4 (decide (e_4.Server<=e_5.Server)))
     (Bd.j6 i_4 false)))
   (Bd.j6 i_4 false))
def Bd.l7 (e:An) (i_7:Int):Option (Lp (Int) (Int)):=
 cond (decide (i_7 < (e.Items.length:Int)))
  ((Bo e.Items i_7).bind fun e_6=>
  (Br e_6).bind fun y_2=>
  cond (!decide (y_2=0))
   (up (some 31))
   (some (.next (W (i_7 + 1)))))
  (up (
   some 0))
def Bd.l4 (e:An) (i_4:Int):Option (Lp (Int) (Int)):=
 cond (decide (i_4 < (e.Edges.length:Int)))
  ((Bo e.Edges i_4).bind fun e_4=>
  cond (decide (e_4.Client < 0))
   (Bd.j5 e i_4 e_4 true)
   (cond (decide ((e.Endpoints.length:Int)<=e_4.Client))
    (Bd.j5 e i_4 e_4 true)
    (cond (decide (e_4.Server < 0))
     (Bd.j5 e i_4 e_4 true)
     (cond (decide ((e.Endpoints.length:Int)<=e_4.Server))
      (Bd.j5 e i_4 e_4 true)
      (Bd.j5 e i_4 e_4 (decide (e_4.Client=e_4.Server)))))))
  (up (
   B1 (fun q'=>Bd.l7 e q') 0))
def Bd.l2 (e:An) (i_2:Int):Option (Lp (Int) (Int)):=
 cond (decide (i_2 < (e.Endpoints.length:Int)))
  ((Bo e.Endpoints i_2).bind fun e_2=>
  (Bb e_2).bind fun y=>
  cond (!decide (y=0))
   (Bd.j3 i_2 true)
   (cond (decide (0 < i_2))
    ((Bo e.Endpoints (W (i_2 - 1))).bind fun e_3=>
    Bd.j3 i_2 (!fS (K0 e_3.Name) (K0 e_2.Name)))
    (Bd.j3 i_2 false)))
  (up (
   B1 (fun q'=>Bd.l4 e q') 0))
def Bd.j1 (e:An) (x22_1:Bool):Option (Int):=
 cond (x22_1)
  (some 31)
  (B1 (fun q'=>Bd.l2 e q') 0)
def Bd (e:An):Option (Int):=
 cond (decide (16 < (e.Endpoints.length:Int)))
  (Bd.j1 e true)
  (cond (decide (40 < (e.Edges.length:Int)))
   (Bd.j1 e true)
   (Bd.j1 e (decide (30 < (e.Items.length:Int)))))
def Di.j2 (x15_1:Int) (x40_2:Bool):Option (Lp (Int) (Bool)):=
 cond (x40_2)
  (up (some true))
  (some (.next (W (x15_1 + 1))))
def Di.l1 (e:An) (a:Int) (b:Int) (x15_1:Int):Option (Lp (Int) (Bool)):=
 cond (decide (x15_1 < (e.Edges.length:Int)))
  ((Bo e.Edges x15_1).bind fun e_2=>
  cond (decide (e_2.Client=a))
   (cond (decide (e_2.Server=b))
    (Di.j2 x15_1 true)
    (cond (decide (e_2.Client=b))
     (Di.j2 x15_1 (decide (e_2.Server=a)))
     (Di.j2 x15_1 false)))
   (cond (decide (e_2.Client=b))
    (Di.j2 x15_1 (decide (e_2.Server=a)))
    (Di.j2 x15_1 false)))
  (up (
   some false))
def Di (e:An) (a:Int) (b:Int):Option (Bool):=
 cond (decide (a=b))
  (some true)
  (B1 (fun q'=>Di.l1 e a b q') 0)
def Ek.j2 (e:Al) (c:Ae) (x12_2:Bool):Option (Int):=
 cond (x12_2)
  (some 2)
  (cond (decide (c.Kind=3))
   (cond (decide (e.Most < c.Number))
    (some 2)
    (some 3))
   (cond (decide (c.Kind=4))
    (cond (decide (c.Number < e.Least))
     (some 2)
     (some 3))
    (cond (decide (c.Kind=11))
     (cond (decide (c.Number=1))
      (some 2)
      (some 3))
     (some 3))))
def Ek.j1 (e:Al) (c:Ae) (x7_1:Bool):Option (Int):=
 cond (x7_1)
  (some 0)
  (cond (decide (c.Kind=5))
   (some 1)
   (cond (decide (c.Kind=1))
    (Ek.j2 e c (decide (c.Kind=1)))
    (Ek.j2 e c (decide (c.Kind=12)))))
def Ek (e:Al) (c:Ae):Option (Int):=
 cond (decide (c.Kind=7))
  (Ek.j1 e c (decide (c.Kind=7)))
  (Ek.j1 e c (decide (c.Kind=9)))
def Bi.j2 (x21_1:Int) (x35_2:Bool):Option (Lp (Int) ((List Ac)×Int)):=
 cond (x35_2)
  (up (some (([]:(List Ac)),40)))
  (some (.next (W (x21_1 + 1))))
def Bi.j6 (x46_4:Int) (out_6:List Ac):Option (Lp (Int×List Ac) (Lp (Int×List Ac) ((List Ac)×Int))):=
 some (.next (W (x46_4 + 1),out_6))
def Bi.j5 (x39_3:Int) (x46_4:Int) (out_4:List Ac) (x75_5:Bool):Option (Lp (Int×List Ac) (Lp (Int×List Ac) ((List Ac)×Int))):=
 cond (x75_5)
  ((Gs 32 out_4 ([(Ac.mk x39_3 x46_4)]:List Ac)).bind fun l_2=>
  Bi.j6 x46_4 l_2)
  (Bi.j6 x46_4 out_4)
def Bi.l4 (e:An) (l:(List Ae)) (x39_3:Int) (e_3:Ae) (x46_4:Int) (out_4:List Ac):Option (Lp (Int×List Ac) (Lp (Int×List Ac) ((List Ac)×Int))):=
 cond (decide (x46_4 < (l.length:Int)))
  ((Bo l x46_4).bind fun e_4=>
  (Di e e_3.Endpoint e_4.Endpoint).bind fun y_2=>
  cond (y_2)
   ((Bo e.Endpoints e_3.Endpoint).bind fun e_5=>
   (Ek e_5 e_3).bind fun y_3=>
   (Bo e.Endpoints e_4.Endpoint).bind fun e_6=>
   (Ek e_6 e_4).bind fun y_4=>
   Bi.j5 x39_3 x46_4 out_4 (decide (y_3 < y_4)))
   (Bi.j5 x39_3 x46_4 out_4 false))
  (up (
   some (.next (W (x39_3 + 1),out_4))))
def Bi.l3 (e:An) (l:(List Ae)) (x39_3:Int) (out_3:List Ac):Option (Lp (Int×List Ac) ((List Ac)×Int)):=
 cond (decide (x39_3 < (l.length:Int)))
  ((Bo l x39_3).bind fun e_3=>
  B1 (fun q'=>Bi.l4 e l x39_3 e_3 q'.1 q'.2) (0,out_3))
  (up (
   some (out_3,0)))
def Bi.l1 (e:An) (l:(List Ae)) (x21_1:Int):Option (Lp (Int) ((List Ac)×Int)):=
 cond (decide (x21_1 < (l.length:Int)))
  ((Bo l x21_1).bind fun e_2=>
  cond (decide (e_2.Endpoint < 0))
   (Bi.j2 x21_1 true)
   (Bi.j2 x21_1 (decide ((e.Endpoints.length:Int)<=e_2.Endpoint))))
  (up (
   B1 (fun q'=>Bi.l3 e l q'.1 q'.2) (0,([]:List Ac))))
def Bi (e:An) (l:(List Ae)):Option ((List Ac)×Int):=
 (Bd e).bind fun y=>
 cond (!decide (y=0))
  (some (([]:(List Ac)),31))
  (cond (decide (24 < (l.length:Int)))
   (some (([]:(List Ac)),3))
   (B1 (fun q'=>Bi.l1 e l q') 0))
def D9.l1 (a:(List Ac)) (b:(List Ac)) (x13_1:Int):Option (Lp (Int) (Bool)):=
 cond (decide (x13_1 < (a.length:Int)))
  ((Bo a x13_1).bind fun e=>
  (Bo b x13_1).bind fun e_2=>
  cond (!decide (e=e_2))
   (up (some false))
   (some (.next (W (x13_1 + 1)))))
  (up (
   some true))
def D9 (a:(List Ac)) (b:(List Ac)):Option (Bool):=
 cond (!decide ((a.length:Int)=(b.length:Int)))
  (some false)
  (B1 (fun q'=>D9.l1 a b q') 0)
def Ky (i:Int) (c0:(List Ae)):Option (Bool):=
 cond (decide (0<=i))
  (some (decide (i < (c0.length:Int))))
  (some false)
def Cw.j6 (x70_4:Int) (out_6:List Int):Option (Lp (Int×List Int) ((List Int)×Int)):=
 some (.next (W (x70_4 + 1),out_6))
def Cw.j5 (x70_4:Int) (out_4:List Int) (x86_5:Bool):Option (Lp (Int×List Int) ((List Int)×Int)):=
 cond (x86_5)
  ((Gs 8 out_4 ([x70_4]:List Int)).bind fun l_2=>
  Cw.j6 x70_4 l_2)
  (Cw.j6 x70_4 out_4)
def Cw.l4 (e:An) (e_4:Ae) (e_5:Ae) (x70_4:Int) (out_4:List Int):Option (Lp (Int×List Int) ((List Int)×Int)):=
 cond (decide (x70_4 < (e.Edges.length:Int)))
  ((Bo e.Edges x70_4).bind fun e_6=>
  cond (decide (e_6=(Aw.mk e_4.Endpoint e_5.Endpoint)))
   (Cw.j5 x70_4 out_4 true)
   (Cw.j5 x70_4 out_4 (decide (e_6=(Aw.mk e_5.Endpoint e_4.Endpoint)))))
  (up (
   some (out_4,0)))
def Cw.j3 (e:An) (l:(List Ae)) (r':Ac) (x36_3:Bool):Option ((List Int)×Int):=
 cond (x36_3)
  (some (([]:(List Int)),40))
  ((Bo l r'.First).bind fun e_4=>
  (Bo l r'.Then).bind fun e_5=>
  B1 (fun q'=>Cw.l4 e e_4 e_5 q'.1 q'.2) (0,([]:List Int)))
def Cw.j2 (e:An) (l:(List Ae)) (r':Ac) (x23_2:Bool):Option ((List Int)×Int):=
 cond (x23_2)
  (some (([]:(List Int)),44))
  ((Bo l r'.First).bind fun e_2=>
  (Hn e e_2).bind fun y_4=>
  cond (!y_4)
   (Cw.j3 e l r' true)
   ((Bo l r'.Then).bind fun e_3=>
   (Hn e e_3).bind fun y_5=>
   Cw.j3 e l r' (!y_5)))
def Cw (e:An) (l:(List Ae)) (r':Ac):Option ((List Int)×Int):=
 (Ca e).bind fun y=>
 cond (!decide (y=0))
  (some (([]:(List Int)),31))
  (cond (decide (24 < (l.length:Int)))
   (some (([]:(List Int)),3))
   ((Ky r'.First l).bind fun y_2=>
   cond (!y_2)
    (Cw.j2 e l r' true)
    ((Ky r'.Then l).bind fun y_3=>
    Cw.j2 e l r' (!y_3))))
def B6.j5 (x76_3:Int) (out_5:List Int):Option (Lp (Int×List Int) ((List Int)×Int)):=
 some (.next (W (x76_3 + 1),out_5))
def B6.j4 (x76_3:Int) (out_3:List Int) (x107_4:Bool):Option (Lp (Int×List Int) ((List Int)×Int)):=
 cond (x107_4)
  ((Gs 8 out_3 ([x76_3]:List Int)).bind fun l_2=>
  B6.j5 x76_3 l_2)
  (B6.j5 x76_3 out_3)
def B6.l3 (e:An) (e_2:Ae) (e_3:Ae) (x76_3:Int) (out_3:List Int):Option (Lp (Int×List Int) ((List Int)×Int)):=
 cond (decide (x76_3 < (e.Edges.length:Int)))
  ((Bo e.Edges x76_3).bind fun e_4=>
  cond (!decide (e_2.Endpoint=e_3.Endpoint))
   (cond (decide (e_4.Client=e_2.Endpoint))
    (cond (decide (e_4.Server=e_3.Endpoint))
     (B6.j4 x76_3 out_3 true)
     (cond (decide (e_4.Client=e_3.Endpoint))
      (B6.j4 x76_3 out_3 (decide (e_4.Server=e_2.Endpoint)))
      (B6.j4 x76_3 out_3 false)))
    (cond (decide (e_4.Client=e_3.Endpoint))
     (B6.j4 x76_3 out_3 (decide (e_4.Server=e_2.Endpoint)))
     (B6.j4 x76_3 out_3 false)))
   (B6.j4 x76_3 out_3 false))
  (up (
   some (out_3,0)))
def B6.j2 (e:An) (e_2:Ae) (e_3:Ae) (x72_2:Bool):Option ((List Int)×Int):=
 cond (x72_2)
  (some (([]:(List Int)),40))
  (B1 (fun q'=>B6.l3 e e_2 e_3 q'.1 q'.2) (0,([]:List Int)))
def B6.j1 (e:An) (l:(List Ae)) (r':Ac) (x40_1:Bool):Option ((List Int)×Int):=
 cond (x40_1)
  (some (([]:(List Int)),44))
  ((Bo l r'.First).bind fun e_2=>
  (Bo l r'.Then).bind fun e_3=>
  cond (decide (e_2.Endpoint < 0))
   (B6.j2 e e_2 e_3 true)
   (cond (decide (e_3.Endpoint < 0))
    (B6.j2 e e_2 e_3 true)
    (cond (decide ((e.Endpoints.length:Int)<=e_2.Endpoint))
     (B6.j2 e e_2 e_3 true)
     (B6.j2 e e_2 e_3 (decide ((e.Endpoints.length:Int)<=e_3.Endpoint))))))
def B6 (e:An) (l:(List Ae)) (r':Ac):Option ((List Int)×Int):=
 (Bd e).bind fun y=>
 cond (!decide (y=0))
  (some (([]:(List Int)),31))
  (cond (decide (24 < (l.length:Int)))
   (some (([]:(List Int)),3))
   (cond (decide (r'.First < 0))
    (B6.j1 e l r' true)
    (cond (decide (r'.Then < 0))
     (B6.j1 e l r' true)
     (cond (decide ((l.length:Int)<=r'.First))
      (B6.j1 e l r' true)
      (B6.j1 e l r' (decide ((l.length:Int)<=r'.Then)))))))
def Ei.l1 (a:(List Int)) (b:(List Int)) (x13_1:Int):Option (Lp (Int) (Bool)):=
 cond (decide (x13_1 < (a.length:Int)))
  ((Bo a x13_1).bind fun e=>
  (Bo b x13_1).bind fun e_2=>
  cond (!decide (e=e_2))
   (up (some false))
   (some (.next (W (x13_1 + 1)))))
  (up (
   some true))
def Ei (a:(List Int)) (b:(List Int)):Option (Bool):=
 cond (!decide ((a.length:Int)=(b.length:Int)))
  (some false)
  (B1 (fun q'=>Ei.l1 a b q') 0)
def Kl (a:Ac) (b:Ac):Option (Bool):=
 cond (!decide (a.First=b.First))
  (some (decide (a.First < b.First)))
  (some (decide (a.Then < b.Then)))
def C7.j3 (l:(List Ac)) (r':Ac) (at_1:Int) (x32_3:Bool):Option ((List Ac)):=
 cond (x32_3)
  (some l)
  ((Xx l 0 at_1).bind fun l_2=>
  (Gs 32 ([]:List Ac) l_2).bind fun l_3=>
  (Gs 32 l_3 ([r']:List Ac)).bind fun l_4=>
  (Xx l at_1 (l.length:Int)).bind fun l_5=>
  (Gs 32 l_4 l_5).bind fun l_6=>
  some l_6)
def C7.j2 (l:(List Ac)) (r':Ac) (at_1:Int) (x18_2:Bool):Option (Lp (Int) ((List Ac))):=
 cond (x18_2)
  (some (.next (W (at_1 + 1))))
  (up (
   cond (decide (at_1 < (l.length:Int)))
    ((Bo l at_1).bind fun e_2=>
    C7.j3 l r' at_1 (decide (e_2=r')))
    (C7.j3 l r' at_1 false)))
def C7.l1 (l:(List Ac)) (r':Ac) (at_1:Int):Option (Lp (Int) ((List Ac))):=
 cond (decide (at_1 < (l.length:Int)))
  ((Bo l at_1).bind fun e=>
  (Kl e r').bind fun y=>
  C7.j2 l r' at_1 y)
  (C7.j2 l r' at_1 false)
def C7 (l:(List Ac)) (r':Ac):Option ((List Ac)):=
 B1 (fun q'=>C7.l1 l r' q') 0
def C5.l2 (b:(List Ac)) (out_2:List Ac) (x22_2:Int):Option (Lp (List Ac×Int) ((List Ac))):=
 cond (decide (x22_2 < (b.length:Int)))
  ((Bo b x22_2).bind fun e_2=>
  (C7 out_2 e_2).bind fun y_2=>
  some (.next (y_2,W (x22_2 + 1))))
  (up (
   some out_2))
def C5.l1 (a:(List Ac)) (b:(List Ac)) (out_1:List Ac) (x12_1:Int):Option (Lp (List Ac×Int) ((List Ac))):=
 cond (decide (x12_1 < (a.length:Int)))
  ((Bo a x12_1).bind fun e=>
  (C7 out_1 e).bind fun y=>
  some (.next (y,W (x12_1 + 1))))
  (up (
   B1 (fun q'=>C5.l2 b q'.1 q'.2) (out_1,0)))
def C5 (a:(List Ac)) (b:(List Ac)):Option ((List Ac)):=
 B1 (fun q'=>C5.l1 a b q'.1 q'.2) (([]:List Ac),0)
def Dm.j3 (k_1:Int) (l_3:List Ac) (d_3:Ab):Option (Lp (List Ac×Int×Ab) ((List Ac)×Ab)):=
 some (.next (l_3,W (k_1 - 1),d_3))
def Dm.j2 (n:Int) (l_1:List Ac) (k_1:Int) (d_1:Ab) (x19_2:Bool):Option (Lp (List Ac×Int×Ab) ((List Ac)×Ab)):=
 cond (x19_2)
  ((A3 d_1 n).bind fun y_2=>
  (A3 y_2.2 n).bind fun y_3=>
  cond (decide (y_2.1 < y_3.1))
   ((C5 l_1 ([(Ac.mk y_2.1 y_3.1)]:List Ac)).bind fun y_4=>
   Dm.j3 k_1 y_4 y_3.2)
   (Dm.j3 k_1 l_1 y_3.2))
  (up (
   some (l_1,d_1)))
def Dm.l1 (n:Int) (l_1:List Ac) (k_1:Int) (d_1:Ab):Option (Lp (List Ac×Int×Ab) ((List Ac)×Ab)):=
 cond (decide (0 < k_1))
  (Dm.j2 n l_1 k_1 d_1 (decide (1 < n)))
  (Dm.j2 n l_1 k_1 d_1 false)
def Dm (d:Ab) (n:Int):Option ((List Ac)×Ab):=
 (A3 d (W ((W (2 * n)) + 1))).bind fun y=>
 B1 (fun q'=>Dm.l1 n q'.1 q'.2.1 q'.2.2) (([]:List Ac),y.1,y.2)
def Cq.j1 (s:(List Ac)) (x4_1:Bool):Option ((List Ac)):=
 cond (x4_1)
  (some ([]:(List Ac)))
  ((Gs 32 ([]:List Ac) s).bind fun l=>
  some l)
def Cq (s:(List Ac)):Option ((List Ac)):=
 gN (s)
  (Cq.j1 s true)
  (Cq.j1 s false)
def Km (a:(List Ac)) (b:(List Ac)):Option ((List Ac)):=
 (Cq a).bind fun y=>
 (Gs 32 y b).bind fun l=>
 (C6 l).bind fun y_2=>
 some y_2
def Dt (r':Ac) (c0:Int):Option (Bool):=
 cond (decide (r'.First < 0))
  (some true)
  (cond (decide (c0<=r'.First))
   (some true)
   (cond (decide (r'.Then < 0))
    (some true)
    (cond (decide (c0<=r'.Then))
     (some true)
     (some (decide (r'.First=r'.Then))))))
def Bc.l1 (s:(List Ac)) (f:Ac->Option (Bool)) (x8_1:Int):Option (Lp (Int) (Int)):=
 cond (decide (x8_1 < (s.length:Int)))
  ((Bo s x8_1).bind fun e=>
  (f e).bind fun y=>
  cond (y)
   (up (some x8_1))
   (some (.next (W (x8_1 + 1)))))
  (up (
   some (-1)))
def Bc (s:(List Ac)) (f:Ac->Option (Bool)):Option (Int):=
 B1 (fun q'=>Bc.l1 s f q') 0
def C8 (s:(List Ac)) (f:Ac->Option (Bool)):Option (Bool):=
 (Bc s f).bind fun y=>
 some (decide (0<=y))
def C3.l1 (s1:(List Ac)) (s2:(List Ac)) (x13_1:Int):Option (Lp (Int) (Bool)):=
 cond (decide (x13_1 < (s1.length:Int)))
  ((Bo s1 x13_1).bind fun e=>
  (Bo s2 x13_1).bind fun e_2=>
  cond (!decide (e=e_2))
   (up (some false))
   (some (.next (W (x13_1 + 1)))))
  (up (
   some true))
def C3 (s1:(List Ac)) (s2:(List Ac)):Option (Bool):=
 cond (!decide ((s1.length:Int)=(s2.length:Int)))
  (some false)
  (B1 (fun q'=>C3.l1 s1 s2 q') 0)
def B4.j6 (x30_4:Int) (ways_6:(List (Ac×Bool))):Option (Lp (Int×(List (Ac×Bool))) (Lp (Int×(List (Ac×Bool))) (Lp (Int×(List (Ac×Bool))) ((List (Ac×Bool)))))):=
 some (.next (W (x30_4 + 1),ways_6))
def B4.j5 (x26_3:Int) (x30_4:Int) (ways_4:(List (Ac×Bool))) (x44_5:Bool):Option (Lp (Int×(List (Ac×Bool))) (Lp (Int×(List (Ac×Bool))) (Lp (Int×(List (Ac×Bool))) ((List (Ac×Bool)))))):=
 cond (x44_5)
  (B4.j6 x30_4 (Kg ways_4 (Ac.mk x26_3 x30_4) true))
  (B4.j6 x30_4 ways_4)
def B4.l4 (n:Int) (x22_2:Int) (x26_3:Int) (x30_4:Int) (ways_4:(List (Ac×Bool))):Option (Lp (Int×(List (Ac×Bool))) (Lp (Int×(List (Ac×Bool))) (Lp (Int×(List (Ac×Bool))) ((List (Ac×Bool)))))):=
 cond (decide (x30_4 < n))
  (cond ((Ga ways_4 (Ac.mk x26_3 x22_2) false))
   (B4.j5 x26_3 x30_4 ways_4 (Ga ways_4 (Ac.mk x22_2 x30_4) false))
   (B4.j5 x26_3 x30_4 ways_4 false))
  (up (
   some (.next (W (x26_3 + 1),ways_4))))
def B4.l3 (n:Int) (x22_2:Int) (x26_3:Int) (ways_3:(List (Ac×Bool))):Option (Lp (Int×(List (Ac×Bool))) (Lp (Int×(List (Ac×Bool))) ((List (Ac×Bool))))):=
 cond (decide (x26_3 < n))
  (B1 (fun q'=>B4.l4 n x22_2 x26_3 q'.1 q'.2) (0,ways_3))
  (up (
   some (.next (W (x22_2 + 1),ways_3))))
def B4.l2 (n:Int) (x22_2:Int) (ways_2:(List (Ac×Bool))):Option (Lp (Int×(List (Ac×Bool))) ((List (Ac×Bool)))):=
 cond (decide (x22_2 < n))
  (B1 (fun q'=>B4.l3 n x22_2 q'.1 q'.2) (0,ways_2))
  (up (
   some ways_2))
def B4.l1 (n:Int) (l:(List Ac)) (x14_1:Int) (ways_1:(List (Ac×Bool))):Option (Lp (Int×(List (Ac×Bool))) ((List (Ac×Bool)))):=
 cond (decide (x14_1 < (l.length:Int)))
  ((Bo l x14_1).bind fun e=>
  some (.next (W (x14_1 + 1),Kg ways_1 e true)))
  (up (
   B1 (fun q'=>B4.l2 n q'.1 q'.2) (0,ways_1)))
def B4 (n:Int) (l:(List Ac)):Option ((List (Ac×Bool))):=
 B1 (fun q'=>B4.l1 n l q'.1 q'.2) (0,([]:(List (Ac×Bool))))
def Bl.j7 (x47_4:Int) (out_7:List Ac):Option (Lp (Int×List Ac) ((List Ac)×Int)):=
 some (.next (W (x47_4 + 1),out_7))
def Bl.j6 (x52_5:Int) (longer_6:Bool):Option (Lp (Bool×Int) (Lp (Int×List Ac) ((List Ac)×Int))):=
 some (.next (longer_6,W (x52_5 + 1)))
def Bl.l5 (n:Int) (y_4:(List (Ac×Bool))) (x47_4:Int) (out_4:List Ac) (e:Ac) (longer_5:Bool) (x52_5:Int):Option (Lp (Bool×Int) (Lp (Int×List Ac) ((List Ac)×Int))):=
 cond (decide (x52_5 < n))
  (cond (longer_5)
   (Bl.j6 x52_5 true)
   (cond ((Ga y_4 (Ac.mk e.First x52_5) false))
    (Bl.j6 x52_5 (Ga y_4 (Ac.mk x52_5 e.Then) false))
    (Bl.j6 x52_5 false)))
  (up (
   cond (!longer_5)
    ((Gs 32 out_4 ([e]:List Ac)).bind fun l_2=>
    Bl.j7 x47_4 l_2)
    (Bl.j7 x47_4 out_4)))
def Bl.l4 (n:Int) (l:(List Ac)) (y_4:(List (Ac×Bool))) (x47_4:Int) (out_4:List Ac):Option (Lp (Int×List Ac) ((List Ac)×Int)):=
 cond (decide (x47_4 < (l.length:Int)))
  ((Bo l x47_4).bind fun e=>
  B1 (fun q'=>Bl.l5 n y_4 x47_4 out_4 e q'.1 q'.2) (false,0))
  (up (
   some (out_4,0)))
def Bl.l3 (n:Int) (l:(List Ac)) (y_4:(List (Ac×Bool))) (x36_3:Int):Option (Lp (Int) ((List Ac)×Int)):=
 cond (decide (x36_3 < n))
  (cond ((Ga y_4 (Ac.mk x36_3 x36_3) false))
   (up (some (([]:(List Ac)),45)))
   (some (.next (W (x36_3 + 1)))))
  (up (
   B1 (fun q'=>Bl.l4 n l y_4 q'.1 q'.2) (0,([]:List Ac))))
def Bl.j2 (n:Int) (l:(List Ac)) (x15_2:Bool):Option ((List Ac)×Int):=
 cond (x15_2)
  (some (([]:(List Ac)),2))
  ((C8 l (fun x0=>Dt x0 n)).bind fun y=>
  cond (y)
   (some (([]:(List Ac)),44))
   ((C6 l).bind fun y_2=>
   (C3 y_2 l).bind fun y_3=>
   cond (!y_3)
    (some (([]:(List Ac)),6))
    ((B4 n l).bind fun y_4=>
    B1 (fun q'=>Bl.l3 n l y_4 q') 0)))
def Bl (n:Int) (l:(List Ac)):Option ((List Ac)×Int):=
 cond (decide (n < 0))
  (Bl.j2 n l true)
  (Bl.j2 n l (decide (24 < n)))
def Bt.j8 (x44_6:Int) (out_8:List (List Bool)):Option (Lp (Int×List (List Bool)) (Lp (Int×List (List Bool)) (Lp (Int×List (List Bool)) ((List (List Bool)))))):=
 some (.next (W (x44_6 + 1),out_8))
def Bt.j7 (x40_5:Int) (x44_6:Int) (out_6:List (List Bool)) (x62_7:Bool):Option (Lp (Int×List (List Bool)) (Lp (Int×List (List Bool)) (Lp (Int×List (List Bool)) ((List (List Bool)))))):=
 cond (x62_7)
  ((Bo out_6 x40_5).bind fun e_8=>
  (Bo e_8 x44_6).bind fun e_9=>
  Bt.j8 x44_6 (Dj out_6 ((x40_5).toNat) (Dj e_8 ((x44_6).toNat) true)))
  (Bt.j8 x44_6 out_6)
def Bt.l6 (n:Int) (x36_4:Int) (x40_5:Int) (x44_6:Int) (out_6:List (List Bool)):Option (Lp (Int×List (List Bool)) (Lp (Int×List (List Bool)) (Lp (Int×List (List Bool)) ((List (List Bool)))))):=
 cond (decide (x44_6 < n))
  ((Bo out_6 x40_5).bind fun e_4=>
  (Bo e_4 x36_4).bind fun e_5=>
  cond (e_5)
   ((Bo out_6 x36_4).bind fun e_6=>
   (Bo e_6 x44_6).bind fun e_7=>
   Bt.j7 x40_5 x44_6 out_6 e_7)
   (Bt.j7 x40_5 x44_6 out_6 false))
  (up (
   some (.next (W (x40_5 + 1),out_6))))
def Bt.l5 (n:Int) (x36_4:Int) (x40_5:Int) (out_5:List (List Bool)):Option (Lp (Int×List (List Bool)) (Lp (Int×List (List Bool)) ((List (List Bool))))):=
 cond (decide (x40_5 < n))
  (B1 (fun q'=>Bt.l6 n x36_4 x40_5 q'.1 q'.2) (0,out_5))
  (up (
   some (.next (W (x36_4 + 1),out_5))))
def Bt.l4 (n:Int) (x36_4:Int) (out_4:List (List Bool)):Option (Lp (Int×List (List Bool)) ((List (List Bool)))):=
 cond (decide (x36_4 < n))
  (B1 (fun q'=>Bt.l5 n x36_4 q'.1 q'.2) (0,out_4))
  (up (
   some out_4))
def Bt.l3 (n:Int) (l:(List Ac)) (x22_3:Int) (out_3:List (List Bool)):Option (Lp (Int×List (List Bool)) ((List (List Bool)))):=
 cond (decide (x22_3 < (l.length:Int)))
  ((Bo l x22_3).bind fun e=>
  (Bo out_3 e.First).bind fun e_2=>
  (Bo e_2 e.Then).bind fun e_3=>
  some (.next (W (x22_3 + 1),Dj out_3 ((e.First).toNat) (Dj e_2 ((e.Then).toNat) true))))
  (up (
   B1 (fun q'=>Bt.l4 n q'.1 q'.2) (0,out_3)))
def Bt.l2 (n:Int) (l:(List Ac)) (x12_2:Int) (out_2:List (List Bool)):Option (Lp (Int×List (List Bool)) ((List (List Bool)))):=
 cond (decide (x12_2 < n))
  ((oL 1 n (false:Bool)).bind fun m=>
  (Gs 24 out_2 ([m]:List (List Bool))).bind fun l_2=>
  some (.next (W (x12_2 + 1),l_2)))
  (up (
   B1 (fun q'=>Bt.l3 n l q'.1 q'.2) (0,out_2)))
def Bt (n:Int) (l:(List Ac)):Option ((List (List Bool))):=
 B1 (fun q'=>Bt.l2 n l q'.1 q'.2) (0,([]:List (List Bool)))
def By.j3 (x18_2:Int) (x48_3:Bool):Option (Lp (Int) (Int)):=
 cond (x48_3)
  (up (some 44))
  (some (.next (W (x18_2 + 1))))
def By.l5 (n:Int) (y_2:(List (List Bool))) (x71_5:Int):Option (Lp (Int) (Int)):=
 cond (decide (x71_5 < n))
  ((Bo y_2 x71_5).bind fun e_4=>
  (Bo e_4 x71_5).bind fun e_5=>
  cond (e_5)
   (up (some 45))
   (some (.next (W (x71_5 + 1)))))
  (up (
   some 0))
def By.l4 (n:Int) (l:(List Ac)) (i_4:Int):Option (Lp (Int) (Int)):=
 cond (decide (i_4 < (l.length:Int)))
  ((Bo l (W (i_4 - 1))).bind fun e_2=>
  (Bo l i_4).bind fun e_3=>
  (Kl e_2 e_3).bind fun y=>
  cond (!y)
   (up (some 6))
   (some (.next (W (i_4 + 1)))))
  (up (
   (Bt n l).bind fun y_2=>
   B1 (fun q'=>By.l5 n y_2 q') 0))
def By.l2 (n:Int) (l:(List Ac)) (x18_2:Int):Option (Lp (Int) (Int)):=
 cond (decide (x18_2 < (l.length:Int)))
  ((Bo l x18_2).bind fun e=>
  cond (decide (e.First < 0))
   (By.j3 x18_2 true)
   (cond (decide (e.Then < 0))
    (By.j3 x18_2 true)
    (cond (decide (n<=e.First))
     (By.j3 x18_2 true)
     (cond (decide (n<=e.Then))
      (By.j3 x18_2 true)
      (By.j3 x18_2 (decide (e.First=e.Then)))))))
  (up (
   B1 (fun q'=>By.l4 n l q') 1))
def By.j1 (n:Int) (l:(List Ac)) (x15_1:Bool):Option (Int):=
 cond (x15_1)
  (some 2)
  (B1 (fun q'=>By.l2 n l q') 0)
def By (n:Int) (l:(List Ac)):Option (Int):=
 cond (decide (n < 0))
  (By.j1 n l true)
  (By.j1 n l (decide (24 < n)))
def B3.j4 (x24_1:Int) (out_4:List Ac):Option (Lp (Int×List Ac) ((List Ac)×Int)):=
 some (.next (W (x24_1 + 1),out_4))
def B3.j3 (x29_2:Int) (long_3:Bool):Option (Lp (Bool×Int) (Lp (Int×List Ac) ((List Ac)×Int))):=
 some (.next (long_3,W (x29_2 + 1)))
def B3.l2 (n:Int) (y_2:(List (List Bool))) (x24_1:Int) (out_1:List Ac) (e:Ac) (long_2:Bool) (x29_2:Int):Option (Lp (Bool×Int) (Lp (Int×List Ac) ((List Ac)×Int))):=
 cond (decide (x29_2 < n))
  (cond (long_2)
   (B3.j3 x29_2 true)
   ((Bo y_2 e.First).bind fun e_2=>
   (Bo e_2 x29_2).bind fun e_3=>
   cond (e_3)
    ((Bo y_2 x29_2).bind fun e_4=>
    (Bo e_4 e.Then).bind fun e_5=>
    B3.j3 x29_2 e_5)
    (B3.j3 x29_2 false)))
  (up (
   cond (!long_2)
    ((Gs 32 out_1 ([e]:List Ac)).bind fun l_2=>
    B3.j4 x24_1 l_2)
    (B3.j4 x24_1 out_1)))
def B3.l1 (n:Int) (l:(List Ac)) (y_2:(List (List Bool))) (x24_1:Int) (out_1:List Ac):Option (Lp (Int×List Ac) ((List Ac)×Int)):=
 cond (decide (x24_1 < (l.length:Int)))
  ((Bo l x24_1).bind fun e=>
  B1 (fun q'=>B3.l2 n y_2 x24_1 out_1 e q'.1 q'.2) (false,0))
  (up (
   some (out_1,0)))
def B3 (n:Int) (l:(List Ac)):Option ((List Ac)×Int):=
 (By n l).bind fun y=>
 cond (!decide (y=0))
  (some (([]:(List Ac)),y))
  ((Bt n l).bind fun y_2=>
  B1 (fun q'=>B3.l1 n l y_2 q'.1 q'.2) (0,([]:List Ac)))
def Ar.j6 (x106_5:Int) (x132_6:Bool):Option (Lp (Int) (Lp (Int) (Bool))):=
 cond (x132_6)
  (up (up (some false)))
  (some (.next (W (x106_5 + 1))))
def Ar.l5 (r':Ac) (l_2:List Ae) (x70_3:Int) (e:An) (y_13:Int) (y_14:Int) (x106_5:Int):Option (Lp (Int) (Lp (Int) (Bool))):=
 cond (decide (x106_5 < (([r',(Ac.mk (W (y_13 - 1)) y_14)]:List Ac).length:Int)))
  ((Bo ([r',(Ac.mk (W (y_13 - 1)) y_14)]:List Ac) x106_5).bind fun e_2=>
  (Cw e l_2 e_2).bind fun y_15=>
  (B6 e l_2 e_2).bind fun y_16=>
  cond (!decide (y_15.2=y_16.2))
   (Ar.j6 x106_5 true)
   ((Ei y_15.1 y_16.1).bind fun y_17=>
   Ar.j6 x106_5 (!y_17)))
  (up (
   some (.next (W (x70_3 + 1)))))
def Ar.j4 (r':Ac) (l_2:List Ae) (x70_3:Int) (e:An) (x94_4:Bool):Option (Lp (Int) (Bool)):=
 cond (x94_4)
  (up (some false))
  ((Ke r'.First 9).bind fun y_13=>
  (Ke r'.Then 9).bind fun y_14=>
  B1 (fun q'=>Ar.l5 r' l_2 x70_3 e y_13 y_14 q') 0)
def Ar.l8 (y_4:An×Ab) (x137_7:Int) (e_3:Ae) (x144_8:Int):Option (Lp (Int) (Lp (Int) (Bool))):=
 cond (decide (x144_8 < (y_4.1.Endpoints.length:Int)))
  ((Bo y_4.1.Endpoints x144_8).bind fun e_4=>
  (Cs e_4 e_3).bind fun y_18=>
  (Ek e_4 e_3).bind fun y_19=>
  cond (!decide (y_18=y_19))
   (up (up (some false)))
   (some (.next (W (x144_8 + 1)))))
  (up (
   some (.next (W (x137_7 + 1)))))
def Ar.j12 (x194_11:Int) (x218_12:Bool):Option (Lp (Int) (Lp (Int) (Bool))):=
 cond (x218_12)
  (up (up (some false)))
  (some (.next (W (x194_11 + 1))))
def Ar.l11 (raw:(List Ac)) (y_20:(List Ac)×Ab) (x183_10:Int) (e_5:Int) (y_28:(List Ac)) (x194_11:Int):Option (Lp (Int) (Lp (Int) (Bool))):=
 cond (decide (x194_11 < (([y_20.1,raw,y_28]:List (List Ac)).length:Int)))
  ((Bo ([y_20.1,raw,y_28]:List (List Ac)) x194_11).bind fun e_6=>
  (Bl e_5 e_6).bind fun y_29=>
  (B3 e_5 e_6).bind fun y_30=>
  cond (!decide (y_29.2=y_30.2))
   (Ar.j12 x194_11 true)
   ((D9 y_29.1 y_30.1).bind fun y_31=>
   Ar.j12 x194_11 (!y_31)))
  (up (
   some (.next (W (x183_10 + 1)))))
def Ar.l10 (raw:(List Ac)) (n:Int) (y_20:(List Ac)×Ab) (y_27:Int) (x183_10:Int):Option (Lp (Int) (Bool)):=
 cond (decide (x183_10 < (([n,7,W (y_27 - 1)]:List Int).length:Int)))
  ((Bo ([n,7,W (y_27 - 1)]:List Int) x183_10).bind fun e_5=>
  (C5 y_20.1 raw).bind fun y_28=>
  B1 (fun q'=>Ar.l11 raw y_20 x183_10 e_5 y_28 q') 0)
  (up (
   (Jn).bind fun y_32=>
   some y_32))
def Ar.j9 (raw:(List Ac)) (n:Int) (y_20:(List Ac)×Ab) (x176_9:Bool):Option (Bool):=
 cond (x176_9)
  (some false)
  ((Ke n 30).bind fun y_27=>
  B1 (fun q'=>Ar.l10 raw n y_20 y_27 q') 0)
def Ar.l7 (raw:(List Ac)) (n:Int) (y_4:An×Ab) (l_2:List Ae) (y_9:An×Ab) (x137_7:Int):Option (Lp (Int) (Bool)):=
 cond (decide (x137_7 < (l_2.length:Int)))
  ((Bo l_2 x137_7).bind fun e_3=>
  B1 (fun q'=>Ar.l8 y_4 x137_7 e_3 q') 0)
  (up (
   (Dm y_9.2 7).bind fun y_20=>
   (Km y_20.1 raw).bind fun y_21=>
   (C5 y_20.1 raw).bind fun y_22=>
   (D9 y_21 y_22).bind fun y_23=>
   cond (!y_23)
    (Ar.j9 raw n y_20 true)
    ((Km raw y_20.1).bind fun y_24=>
    (C5 raw y_20.1).bind fun y_25=>
    (D9 y_24 y_25).bind fun y_26=>
    Ar.j9 raw n y_20 (!y_26))))
def Ar.l3 (raw:(List Ac)) (r':Ac) (n:Int) (y_4:An×Ab) (l_2:List Ae) (y_9:An×Ab) (x70_3:Int):Option (Lp (Int) (Bool)):=
 cond (decide (x70_3 < (([y_4.1,y_9.1]:List An).length:Int)))
  ((Bo ([y_4.1,y_9.1]:List An) x70_3).bind fun e=>
  (Ce e l_2).bind fun y_10=>
  (Bi e l_2).bind fun y_11=>
  cond (!decide (y_10.2=y_11.2))
   (Ar.j4 r' l_2 x70_3 e true)
   ((D9 y_10.1 y_11.1).bind fun y_12=>
   Ar.j4 r' l_2 x70_3 e (!y_12)))
  (up (
   B1 (fun q'=>Ar.l7 raw n y_4 l_2 y_9 q') 0))
def Ar.j2 (raw:(List Ac)) (r':Ac) (n:Int) (y_4:An×Ab) (d_2:Ab) (l_2:List Ae):Option (Bool):=
 (B5 d_2).bind fun y_9=>
 B1 (fun q'=>Ar.l3 raw r' n y_4 l_2 y_9 q') 0
def Ar.j1 (t:(List Int)) (raw:(List Ac)) (r':Ac) (n:Int) (x45_1:Bool):Option (Bool):=
 cond (x45_1)
  ((Jn).bind fun y_2=>
  some y_2)
  ((Ov t).bind fun y_3=>
  (Bk y_3).bind fun y_4=>
  (Au y_4.2 y_4.1).bind fun y_5=>
  (Ed y_5.2 4).bind fun y_6=>
  cond (y_6.1)
   ((Bs y_6.2 y_4.1).bind fun y_7=>
   (F1 y_7.2 y_7.1).bind fun y_8=>
   (Gs 640 y_5.1 ([y_8.1]:List Ae)).bind fun l=>
   Ar.j2 raw r' n y_4 y_8.2 l)
   (Ar.j2 raw r' n y_4 y_6.2 y_5.1))
def Ar (t:(List Int)) (raw:(List Ac)) (r':Ac) (n:Int):Option (Bool):=
 (M8 t).bind fun y=>
 cond (!y)
  (Ar.j1 t raw r' n true)
  (Ar.j1 t raw r' n (decide (60 < (raw.length:Int))))
end
end Go.Proofs.YtkioneinddihlaaGreat
