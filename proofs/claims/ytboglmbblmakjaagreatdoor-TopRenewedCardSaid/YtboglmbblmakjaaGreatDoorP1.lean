import Derived.Test.YtboglmbblmakjaaGreatDoorPU
set_option linter.unusedVariables false
set_option linter.unusedSimpArgs false
namespace Go.Proofs.YtboglmbblmakjaaGreatDoor
noncomputable section
def wR:List UInt8:=[0,1,28,2,29,14,24,3,30,22,20,15,25,17,4,8,31,27,13,23,21,19,16,7,26,12,18,6,11,5,10,9]
def Rn:List UInt8:=[0,0,0,0,0,0,0,0,0,1,1,1,1,1,0,0,0,0,0,0,0,0,0,0,0,0,0,0,0,0,0,0,1,0,0,0,0,0,0,0,0,0,0,0,0,0,0,0,0,0,0,0,0,0,0,0,0,0,0,0,0,0,0,0,0,0,0,0,0,0,0,0,0,0,0,0,0,0,0,0,0,0,0,0,0,0,0,0,0,0,0,0,0,0,0,0,0,0,0,0,0,0,0,0,0,0,0,0,0,0,0,0,0,0,0,0,0,0,0,0,0,0,0,0,0,0,0,0,0,0,0,0,0,0,0,0,0,0,0,0,0,0,0,0,0,0,0,0,0,0,0,0,0,0,0,0,0,0,0,0,0,0,0,0,0,0,0,0,0,0,0,0,0,0,0,0,0,0,0,0,0,0,0,0,0,0,0,0,0,0,0,0,0,0,0,0,0,0,0,0,0,0,0,0,0,0,0,0,0,0,0,0,0,0,0,0,0,0,0,0,0,0,0,0,0,0,0,0,0,0,0,0,0,0,0,0,0,0,0,0,0,0,0,0,0,0,0,0,0,0,0,0,0,0,0,0]
structure Ae where
 L:(List Int)
 At:Int
 deriving DecidableEq,Inhabited
structure Ah where
 Alg:Int
 Bits:Int
 deriving DecidableEq,Inhabited
structure E9 where
 Key:Int
 Sum:Int
 deriving DecidableEq,Inhabited
structure Ab where
 Serial:Int
 Issuer:ByteArray
 Subject:ByteArray
 Key:Ah
 KeyId:Int
 Hash:Ah
 From:Int
 To:Int
 Authority:Bool
 Path:Int
 Names:(List ByteArray)
 Seal:E9
 deriving DecidableEq,Inhabited
structure Av where
 Key:Ah
 KeyId:Int
 Chain:(List Ab)
 deriving DecidableEq,Inhabited
structure Ad where
 Name:ByteArray
 Least:Int
 Most:Int
 Suites:(List Int)
 OwnOrder:Bool
 Identities:(List Av)
 Anchors:(List Int)
 Hashes:(List Int)
 Fallback:Bool
 deriving DecidableEq,Inhabited
structure Bi where
 Client:Int
 Server:Int
 deriving DecidableEq,Inhabited
structure A1 where
 Use:Ah
 Day:Int
 deriving DecidableEq,Inhabited
structure Aq where
 Name:ByteArray
 Kind:Int
 Purpose:Int
 Links:(List A1)
 Until:Int
 deriving DecidableEq,Inhabited
structure Ak where
 Endpoints:(List Ad)
 Edges:(List Bi)
 Items:(List Aq)
 deriving DecidableEq,Inhabited
structure Al where
 Allow:Bool
 Alg:Int
 Below:Int
 Purpose:Int
 From:Int
 To:Int
 deriving DecidableEq,Inhabited
structure Bk where
 Purpose:Int
 Days:Int
 deriving DecidableEq,Inhabited
structure Br where
 Rules:(List Al)
 Keeps:(List Bk)
 deriving DecidableEq,Inhabited
structure L1 where
 Item:Int
 Link:A1
 deriving DecidableEq,Inhabited
structure Ay where
 Kind:Int
 Index:Int
 Suite:Int
 deriving DecidableEq,Inhabited
structure Bh where
 From:Int
 To:Int
 deriving DecidableEq,Inhabited
structure Ap where
 Use:Ah
 Purpose:Int
 Endpoint:ByteArray
 Days:Bh
 Seals:(List E9)
 deriving DecidableEq,Inhabited
structure Fl where
 Keys:(List Int)
 Need:Int
 deriving DecidableEq,Inhabited
structure Bq where
 First:Int
 Then:Int
 deriving DecidableEq,Inhabited
structure Aw where
 Days:Bh
 Teams:(List Int)
 deriving DecidableEq,Inhabited
structure A5 where
 Windows:(List Aw)
 Team:(List Int)
 Room:(List Int)
 deriving DecidableEq,Inhabited
structure Fx where
 Endpoint:Int
 Kind:Int
 Number:Int
 At:Int
 Identity:Av
 deriving DecidableEq,Inhabited
structure A4 where
 n:Int
 before:(List Int)
 after:(List Int)
 deriving DecidableEq,Inhabited
structure Ao where
 name:ByteArray
 kind:Int
 deriving DecidableEq,Inhabited
structure Aa where
 Tag:Int
 Bytes:(List UInt8)
 Nested:Bool
 Elements:(List Aa)
structure Am where
 Code:Int
 Name:ByteArray
 Exchange:Ah
 Sign:Ah
 Cipher:Ah
 Mac:Ah
 Least:Int
 Most:Int
 deriving DecidableEq,Inhabited
structure C9 where
 name:ByteArray
 kind:Int
 way:Int
 sizes:(List Int)
 strengths:(List Int)
 deriving DecidableEq,Inhabited
structure Bd where
 day:Int
 fall:Int
 falls:Bool
 deriving DecidableEq,Inhabited
structure Fs where
 estate:Ak
 policy:Br
 exceptions:(List Ap)
 owners:Fl
 weak:Int
 deriving DecidableEq,Inhabited
structure C8 where
 Version:Int
 Suite:Int
 deriving DecidableEq,Inhabited
structure Ai where
 Outcome:C8
 Most:Int
 Suites:(List Int)
 deriving DecidableEq,Inhabited
structure Cw where
 server:Ad
 version:Int
 suites:(List Int)
 deriving DecidableEq,Inhabited
structure F0 where
 words:(List ByteArray)
 deriving DecidableEq,Inhabited
inductive Cd where
 | nil
 | c235 (x:List Bd)
 | c236 (x:List Bd)
deriving Inhabited
def Cd.elim {β:Type} (k:Cd) (f0:Option β) (f235:List Bd->Option β) (f236:List Bd->Option β):Option β:=
 match k with
 | .nil=>f0
 | .c235 x=>f235 x
 | .c236 x=>f236 x
def Sx (l:(List Int)):Option (Bool):=
 some (decide ((l.length:Int)<=400))
def H5 (x':Int):Option (Bool):=
 some (!decide (x'=x'))
def Gl (x':Int) (y:Int):Option (Int):=
 (H5 x').bind fun y_2=>
 (H5 y).bind fun y_3=>
 cond (y_2)
  (cond (y_3)
   (some 0)
   (some (-1)))
  (cond (y_3)
   (some 1)
   (cond (decide (x' < y))
    (some (-1))
    (cond (decide (y < x'))
     (some 1)
     (some 0))))
def Hj.l1 (vals:(List Int)) (x8_1:Int):Option (Lp (Int) (Int)):=
 cond (decide (x8_1 < (vals.length:Int)))
  ((Bn vals x8_1).bind fun e=>
  cond (!decide (e=0))
   (up (some e))
   (some (.next (W (x8_1 + 1)))))
  (up (
   some 0))
def Hj (vals:(List Int)):Option (Int):=
 C7 (fun q'=>Hj.l1 vals q') 0
def Nb (a:Bq) (b:Bq):Option (Int):=
 (Gl a.First b.First).bind fun y=>
 (Gl a.Then b.Then).bind fun y_2=>
 (Hj ([y,y_2]:List Int)).bind fun y_3=>
 some y_3
def J6 (s:Int) (i:Int):Option (Bool):=
 (Q3 .u32 s i).bind fun q=>
 some (decide ((W7 .u32 q 1)=1))
def Jz (s:Int):Option (Int):=
 some s
def Gc (x':Int):Option (Int):=
 cond (decide (x'=0))
  (some 32)
  ((Q3 .u32 (IntKind.wrap .u32 ((W7 .u32 x' (IntKind.wrap .u32 (-x'))) * 125613361)) 27).bind fun q=>
  (Bn wR q).bind fun e=>
  some (e.toNat:Int))
def Ce.l1 {S:Type} (yield':Int->(Nat×S)->Option (Bool×(Nat×S))) (q_1:(Nat×S)) (b_1:Int):Option (Lp ((Nat×S)×Int) (Int×(Nat×S))):=
 cond (!decide (b_1=0))
  ((Gc b_1).bind fun y=>
  (cE .u32 1 y).bind fun q_2=>
  (yield' y q_1).bind fun y_2=>
  cond (!y_2.1)
   (up (some (Qn .u32 b_1 q_2,y_2.2)))
   (some (.next (y_2.2,Qn .u32 b_1 q_2))))
  (up (some (b_1,q_1)))
def Ce {S:Type} (yield':Int->(Nat×S)->Option (Bool×(Nat×S))) (c0:Int) (q:(Nat×S)):Option (Int×(Nat×S)):=
 C7 (fun q'=>Ce.l1 yield' q'.1 q'.2) (q,c0)
def Bm.j4 (x44_3:Int) (l_4:List Int):Option (Lp (Int×List Int) (Lp (Int×List Int) (A4))):=
 some (.next (W (x44_3 + 1),l_4))
def Bm.l3 (n:Int) (x40_2:Int) (x44_3:Int) (l_3:List Int):Option (Lp (Int×List Int) (Lp (Int×List Int) (A4))):=
 cond (decide (x44_3 < n))
  ((Bn l_3 x44_3).bind fun e_3=>
  (J6 e_3 x40_2).bind fun y=>
  cond (y)
   ((Bn l_3 x40_2).bind fun e_4=>
   Bm.j4 x44_3 (Jd l_3 ((x44_3).toNat) (cA .u32 e_3 e_4)))
   (Bm.j4 x44_3 l_3))
  (up (
   some (.next (W (x40_2 + 1),l_3))))
def Bm.r6 (x75_5:Int) (a:Int) (l_6:List Int):Option (Nat×(List Int)):=
 (Bn l_6 a).bind fun e_6=>
 (cE .u32 1 x75_5).bind fun q_2=>
 some (0,Jd l_6 ((a).toNat) (cA .u32 e_6 q_2))
def Bm.l5 (n:Int) (l_2:List Int) (x75_5:Int) (l_5:List Int):Option (Lp (Int×List Int) (A4)):=
 cond (decide (x75_5 < n))
  ((Bn l_2 x75_5).bind fun e_5=>
  (Jz e_5).bind fun y_2=>
  (Ce (fun a0' q'=>tO (fun s'=>Bm.r6 x75_5 a0' s') q') y_2 (0,l_5)).bind fun y_3=>
  cond (Nat.beq y_3.2.1 0)
   (some (.next (W (x75_5 + 1),y_3.2.2)))
   (none))
  (up (
   some (A4.mk n l_2 l_5)))
def Bm.l2 (n:Int) (m_2:List Int) (x40_2:Int) (l_2:List Int):Option (Lp (Int×List Int) (A4)):=
 cond (decide (x40_2 < n))
  (C7 (fun q'=>Bm.l3 n x40_2 q'.1 q'.2) (0,l_2))
  (up (
   C7 (fun q'=>Bm.l5 n l_2 q'.1 q'.2) (0,m_2)))
def Bm.l1 (n:Int) (l:(List Bq)) (m_2:List Int) (x21_1:Int) (l_1:List Int):Option (Lp (Int×List Int) (A4)):=
 cond (decide (x21_1 < (l.length:Int)))
  ((Bn l x21_1).bind fun e=>
  (Bn l_1 e.Then).bind fun e_2=>
  (cE .u32 1 e.First).bind fun q=>
  some (.next (W (x21_1 + 1),Jd l_1 ((e.Then).toNat) (cA .u32 e_2 q))))
  (up (
   C7 (fun q'=>Bm.l2 n m_2 q'.1 q'.2) (0,l_1)))
def Bm (n:Int) (l:(List Bq)):Option (A4):=
 (jI 4 n (0:Int)).bind fun m=>
 (jI 4 n (0:Int)).bind fun m_2=>
 C7 (fun q'=>Bm.l1 n l m_2 q'.1 q'.2) (0,m)
def B3.j3 (x20_2:Int) (x50_3:Bool):Option (Lp (Int) (Option A4×Int)):=
 cond (x50_3)
  (up (some (none,44)))
  (some (.next (W (x20_2 + 1))))
def B3.j5 (x54_4:Int) (x71_5:Bool):Option (Lp (Int) (Option A4×Int)):=
 cond (x71_5)
  (up (some (none,6)))
  (some (.next (W (x54_4 + 1))))
def B3.l6 (y_2:A4) (x81_6:Int):Option (Lp (Int) (Option A4×Int)):=
 cond (decide (x81_6 < (y_2.before.length:Int)))
  ((Bn y_2.before x81_6).bind fun e_4=>
  (J6 e_4 x81_6).bind fun y_3=>
  cond (y_3)
   (up (some (none,45)))
   (some (.next (W (x81_6 + 1)))))
  (up (
   some (some y_2,0)))
def B3.l4 (n:Int) (l:(List Bq)) (x54_4:Int):Option (Lp (Int) (Option A4×Int)):=
 cond (decide (x54_4 < (l.length:Int)))
  (cond (decide (0 < x54_4))
   ((Bn l (W (x54_4 - 1))).bind fun e_2=>
   (Bn l x54_4).bind fun e_3=>
   (Nb e_2 e_3).bind fun y=>
   B3.j5 x54_4 (decide (0<=y)))
   (B3.j5 x54_4 false))
  (up (
   (Bm n l).bind fun y_2=>
   C7 (fun q'=>B3.l6 y_2 q') 0))
def B3.l2 (n:Int) (l:(List Bq)) (x20_2:Int):Option (Lp (Int) (Option A4×Int)):=
 cond (decide (x20_2 < (l.length:Int)))
  ((Bn l x20_2).bind fun e=>
  cond (decide (e.First < 0))
   (B3.j3 x20_2 true)
   (cond (decide (n<=e.First))
    (B3.j3 x20_2 true)
    (cond (decide (e.Then < 0))
     (B3.j3 x20_2 true)
     (cond (decide (n<=e.Then))
      (B3.j3 x20_2 true)
      (B3.j3 x20_2 (decide (e.First=e.Then)))))))
  (up (
   C7 (fun q'=>B3.l4 n l q') 0))
def B3.j1 (n:Int) (l:(List Bq)) (x17_1:Bool):Option (Option A4×Int):=
 cond (x17_1)
  (some (none,2))
  (C7 (fun q'=>B3.l2 n l q') 0)
def B3 (n:Int) (l:(List Bq)):Option (Option A4×Int):=
 cond (decide (n < 0))
  (B3.j1 n l true)
  (B3.j1 n l (decide (24 < n)))
def Cn.j3 (x11_1:Int) (out_3:Int):Option (Lp (Int×Int) (Int×A4)):=
 some (.next (out_3,W (x11_1 + 1)))
def Cn.j2 (out_1:Int) (x11_1:Int) (x29_2:Bool):Option (Lp (Int×Int) (Int×A4)):=
 cond (x29_2)
  ((cE .u32 1 x11_1).bind fun q=>
  Cn.j3 x11_1 (cA .u32 out_1 q))
  (Cn.j3 x11_1 out_1)
def Cn.l1 (o:A4) (s:Int) (out_1:Int) (x11_1:Int):Option (Lp (Int×Int) (Int×A4)):=
 cond (decide (x11_1 < o.n))
  ((J6 s x11_1).bind fun y=>
  cond (!y)
   ((Bn o.before x11_1).bind fun e=>
   Cn.j2 out_1 x11_1 (decide ((Qn .u32 e s)=0)))
   (Cn.j2 out_1 x11_1 false))
  (up (
   some (out_1,o)))
def Cn (o:A4) (s:Int):Option (Int×A4):=
 C7 (fun q'=>Cn.l1 o s q'.1 q'.2) (0,0)
def Cz.j3 (x_3:Int) (n_3:Int):Option (Int):=
 (Wo (⟨#[0,1,2,2,3,3,3,3,4,4,4,4,4,4,4,4,5,5,5,5,5,5,5,5,5,5,5,5,5,5,5,5,6,6,6,6,6,6,6,6,6,6,6,6,6,6,6,6,6,6,6,6,6,6,6,6,6,6,6,6,6,6,6,6,7,7,7,7,7,7,7,7,7,7,7,7,7,7,7,7,7,7,7,7,7,7,7,7,7,7,7,7,7,7,7,7,7,7,7,7,7,7,7,7,7,7,7,7,7,7,7,7,7,7,7,7,7,7,7,7,7,7,7,7,7,7,7,7,8,8,8,8,8,8,8,8,8,8,8,8,8,8,8,8,8,8,8,8,8,8,8,8,8,8,8,8,8,8,8,8,8,8,8,8,8,8,8,8,8,8,8,8,8,8,8,8,8,8,8,8,8,8,8,8,8,8,8,8,8,8,8,8,8,8,8,8,8,8,8,8,8,8,8,8,8,8,8,8,8,8,8,8,8,8,8,8,8,8,8,8,8,8,8,8,8,8,8,8,8,8,8,8,8,8,8,8,8,8,8,8,8,8,8,8,8,8,8,8,8,8,8,8,8,8,8,8]⟩:ByteArray) ((u8 x_3).toNat:Int)).bind fun c=>
 some (W (n_3 + (c.toNat:Int)))
def Cz.j2 (x_2:Int) (n_2:Int):Option (Int):=
 cond (decide (256<=x_2))
  ((Q3 .u64 x_2 8).bind fun q_3=>
  Cz.j3 q_3 (W (n_2 + 8)))
  (Cz.j3 x_2 n_2)
def Cz.j1 (x_1:Int) (n_1:Int):Option (Int):=
 cond (decide (65536<=x_1))
  ((Q3 .u64 x_1 16).bind fun q_2=>
  Cz.j2 q_2 (W (n_1 + 16)))
  (Cz.j2 x_1 n_1)
def Cz (x':Int):Option (Int):=
 cond (decide (4294967296<=x'))
  ((Q3 .u64 x' 32).bind fun q=>
  Cz.j1 q 32)
  (Cz.j1 x' 0)
def Hf (x':Int):Option (Int):=
 (Cz x').bind fun y=>
 some y
def Ht (x':Int):Option (Bool):=
 some (!decide (x'=x'))
def Ic (x':Int) (y:Int):Option (Int):=
 (Ht x').bind fun y_2=>
 (Ht y).bind fun y_3=>
 cond (y_2)
  (cond (y_3)
   (some 0)
   (some (-1)))
  (cond (y_3)
   (some 1)
   (cond (decide (x' < y))
    (some (-1))
    (cond (decide (y < x'))
     (some 1)
     (some 0))))
def K8 (a:Int) (b:Int):Option (Int):=
 (Gc (bS .u32 a b)).bind fun y=>
 (Q3 .u32 b y).bind fun q=>
 (Q3 .u32 a y).bind fun q_2=>
 (Ic (W7 .u32 q 1) (W7 .u32 q_2 1)).bind fun y_2=>
 some y_2
def Aj.j3 (i_1:Int) (j_2:Int) (data_2:List Int) (x34_3:Bool):Option (Lp (Int×List Int) (Lp (Int×List Int) ((List Int)))):=
 cond (x34_3)
  ((Bn data_2 (W (j_2 - 1))).bind fun e_3=>
  (Bn data_2 j_2).bind fun e_4=>
  (Bn (Jd data_2 ((j_2).toNat) e_3) (W (j_2 - 1))).bind fun e_5=>
  some (.next (W (j_2 - 1),Jd (Jd data_2 ((j_2).toNat) e_3) ((W (j_2 - 1)).toNat) e_4)))
  (up (
   some (.next (W (i_1 + 1),data_2))))
def Aj.l2 (a:Int) (cmp:Int->Int->Option (Int)) (i_1:Int) (j_2:Int) (data_2:List Int):Option (Lp (Int×List Int) (Lp (Int×List Int) ((List Int)))):=
 cond (decide (a < j_2))
  ((Bn data_2 j_2).bind fun e=>
  (Bn data_2 (W (j_2 - 1))).bind fun e_2=>
  (cmp e e_2).bind fun y=>
  Aj.j3 i_1 j_2 data_2 (decide (y < 0)))
  (Aj.j3 i_1 j_2 data_2 false)
def Aj.l1 (a:Int) (b:Int) (cmp:Int->Int->Option (Int)) (i_1:Int) (data_1:List Int):Option (Lp (Int×List Int) ((List Int))):=
 cond (decide (i_1 < b))
  (C7 (fun q'=>Aj.l2 a cmp i_1 q'.1 q'.2) (i_1,data_1))
  (up (some data_1))
def Aj (data:List Int) (a:Int) (b:Int) (cmp:Int->Int->Option (Int)):Option ((List Int)):=
 C7 (fun q'=>Aj.l1 a b cmp q'.1 q'.2) (W (a + 1),data)
def B0.l1 (data:List Int) (a:Int) (b:Int) (limit:Int) (cmp:Int->Int->Option (Int)):Option (Lp (Unit) ((List Int))):=
 cond (decide ((W (b - a))<=12))
  ((Aj data a b cmp).bind fun y=>
  up (some y))
  (cond (decide (limit=0))
   (none)
   (none))
def B0 (data:List Int) (a:Int) (b:Int) (limit:Int) (cmp:Int->Int->Option (Int)):Option ((List Int)):=
 C7 (fun _=>B0.l1 data a b limit cmp) ()
def G2 (x':List Int) (cmp:Int->Int->Option (Int)):Option ((List Int)):=
 (Hf (IntKind.wrap .u64 (x'.length:Int))).bind fun y=>
 (B0 x' 0 (x'.length:Int) y cmp).bind fun y_2=>
 some y_2
def F6.r1 (a:Int) (l_1:List Int):Option (Nat×(List Int)):=
 (Hc 8 l_1 ([a]:List Int)).bind fun l=>
 some (0,l)
def F6 (s:Int):Option ((List Int)):=
 (Jz s).bind fun y=>
 (Ce (fun a0' q'=>tO (fun s'=>F6.r1 a0' s') q') y (0,([]:List Int))).bind fun y_2=>
 cond (Nat.beq y_2.2.1 0)
  (some y_2.2.2)
  (none)
def Dn.r3 (e:Int) (a:Int) (m_3:(List (Int×Bool))) (l_3:List Int):Option (Nat×((List (Int×Bool))×List Int)):=
 (cE .u32 1 a).bind fun q=>
 cond (!(Pm m_3 (cA .u32 e q) false))
  ((Hc 4 l_3 ([cA .u32 e q]:List Int)).bind fun l_4=>
  some (0,(Rc m_3 (cA .u32 e q) true,l_4)))
  (some (0,(m_3,l_3)))
def Dn.l4 (o_2:A4) (y_5:(List Int)) (x69_4:Int) (out_4:List (List Int)):Option (Lp (Int×List (List Int)) (Lp (A4×List (List Int)×List Int) ((List (List Int))×Int))):=
 cond (decide (x69_4 < (y_5.length:Int)))
  ((Bn y_5 x69_4).bind fun e_2=>
  (F6 e_2).bind fun y_6=>
  (Hc 24 out_4 ([y_6]:List (List Int))).bind fun l_5=>
  some (.next (W (x69_4 + 1),l_5)))
  (up (
   some (.next (o_2,out_4,y_5))))
def Dn.l2 (out_1:List (List Int)) (row_1:List Int) (x35_2:Int) (o_2:A4) (m_2:(List (Int×Bool))) (l_2:List Int):Option (Lp (Int×A4×(List (Int×Bool))×List Int) (Lp (A4×List (List Int)×List Int) ((List (List Int))×Int))):=
 cond (decide (x35_2 < (row_1.length:Int)))
  ((Bn row_1 x35_2).bind fun e=>
  (Cn o_2 e).bind fun y_2=>
  (Jz y_2.1).bind fun y_3=>
  (Ce (fun a0' q'=>tO (fun s'=>Dn.r3 e a0' s'.1 s'.2) q') y_3 (0,(m_2,l_2))).bind fun y_4=>
  cond (Nat.beq y_4.2.1 0)
   (cond (decide (4096 < (W ((out_1.length:Int) + (y_4.2.2.2.length:Int)))))
    (up (up (some (([]:(List (List Int))),3))))
    (some (.next (W (x35_2 + 1),y_2.2,y_4.2.2.1,y_4.2.2.2))))
   (none))
  (up (
   (G2 l_2 (fun x0 x1=>K8 x0 x1)).bind fun y_5=>
   C7 (fun q'=>Dn.l4 o_2 y_5 q'.1 q'.2) (0,out_1)))
def Dn.l1 (o_1:A4) (out_1:List (List Int)) (row_1:List Int):Option (Lp (A4×List (List Int)×List Int) ((List (List Int))×Int)):=
 cond (decide (0 < (row_1.length:Int)))
  (C7 (fun q'=>Dn.l2 out_1 row_1 q'.1 q'.2.1 q'.2.2.1 q'.2.2.2) (0,o_1,([]:(List (Int×Bool))),([]:List Int)))
  (up (
   some (out_1,0)))
def Dn (n:Int) (l:(List Bq)):Option ((List (List Int))×Int):=
 (B3 n l).bind fun y=>
 zF y.1
  (cond (!decide (y.2=0))
   (some (([]:(List (List Int))),y.2))
   (none))
  (fun o=>
  cond (!decide (y.2=0))
   (some (([]:(List (List Int))),y.2))
   (C7 (fun q'=>Dn.l1 q'.1 q'.2.1 q'.2.2) (o,([([]:(List Int))]:List (List Int)),([0]:List Int))))
def Rz (n:Int):Option (A5):=
 (jI 8 n (0:Int)).bind fun m=>
 some (A5.mk ([(Aw.mk (Bh.mk 0 300) ([0]:List Int))]:List Aw) m ([24]:List Int))
def Ju (n:Int):Option (Bool):=
 cond (decide (n < 0))
  (some true)
  (some (decide (24 < n)))
def Az.l1 (s:(List Int)) (f:Int->Option (Bool)) (x8_1:Int):Option (Lp (Int) (Int)):=
 cond (decide (x8_1 < (s.length:Int)))
  ((Bn s x8_1).bind fun e=>
  (f e).bind fun y=>
  cond (y)
   (up (some x8_1))
   (some (.next (W (x8_1 + 1)))))
  (up (
   some (-1)))
def Az (s:(List Int)) (f:Int->Option (Bool)):Option (Int):=
 C7 (fun q'=>Az.l1 s f q') 0
def Cs (s:(List Int)) (f:Int->Option (Bool)):Option (Bool):=
 (Az s f).bind fun y=>
 some (decide (0<=y))
def Jr (w:Aw):Option (Bool):=
 cond (decide (w.Days.From < 0))
  (some true)
  (cond (decide (w.Days.To<=w.Days.From))
   (some true)
   (some (decide (40001 < w.Days.To))))
def Be.l1 (s:(List Aw)) (f:Aw->Option (Bool)) (x8_1:Int):Option (Lp (Int) (Int)):=
 cond (decide (x8_1 < (s.length:Int)))
  ((Bn s x8_1).bind fun e=>
  (f e).bind fun y=>
  cond (y)
   (up (some x8_1))
   (some (.next (W (x8_1 + 1)))))
  (up (
   some (-1)))
def Be (s:(List Aw)) (f:Aw->Option (Bool)):Option (Int):=
 C7 (fun q'=>Be.l1 s f q') 0
def D6 (s:(List Aw)) (f:Aw->Option (Bool)):Option (Bool):=
 (Be s f).bind fun y=>
 some (decide (0<=y))
def O7 (c:A5) (n:Int):Option (Bool):=
 cond (decide (0<=n))
  (some (decide (n < (c.Room.length:Int))))
  (some false)
def Hp (n:Int) (c0:A5):Option (Bool):=
 (O7 c0 n).bind fun y=>
 some (!y)
def Js (w:Aw) (c0:A5):Option (Bool):=
 (Cs w.Teams (fun x0=>Hp x0 c0)).bind fun y=>
 some y
def By.j5 (x53_4:Int) (x69_5:Bool):Option (Lp (Int) (Lp (Int) (Int))):=
 cond (x69_5)
  (up (up (some 6)))
  (some (.next (W (x53_4 + 1))))
def By.l4 (x29_2:Int) (e:Aw) (x53_4:Int):Option (Lp (Int) (Lp (Int) (Int))):=
 cond (decide (x53_4 < (e.Teams.length:Int)))
  ((Bn e.Teams x53_4).bind fun e_3=>
  cond (decide (0 < x53_4))
   ((Bn e.Teams (W (x53_4 - 1))).bind fun e_4=>
   By.j5 x53_4 (decide (e_3<=e_4)))
   (By.j5 x53_4 false))
  (up (
   some (.next (W (x29_2 + 1)))))
def By.j3 (x29_2:Int) (e:Aw) (x49_3:Bool):Option (Lp (Int) (Int)):=
 cond (x49_3)
  (up (some 6))
  (C7 (fun q'=>By.l4 x29_2 e q') 0)
def By.j8 (x87_8:Bool):Option (Int):=
 cond (x87_8)
  (some 1)
  (some 0)
def By.l2 (c:A5) (endpoints:Int) (x29_2:Int):Option (Lp (Int) (Int)):=
 cond (decide (x29_2 < (c.Windows.length:Int)))
  ((Bn c.Windows x29_2).bind fun e=>
  cond (decide (0 < x29_2))
   ((Bn c.Windows (W (x29_2 - 1))).bind fun e_2=>
   By.j3 x29_2 e (decide (e.Days.From < e_2.Days.To)))
   (By.j3 x29_2 e false))
  (up (
   (D6 c.Windows (fun x0=>Js x0 c)).bind fun y_3=>
   cond (y_3)
    (some 2)
    (cond (!decide ((c.Team.length:Int)=endpoints))
     (By.j8 true)
     ((Cs c.Team (fun x0=>Hp x0 c)).bind fun y_4=>
     By.j8 y_4))))
def By.j1 (c:A5) (endpoints:Int) (x19_1:Bool):Option (Int):=
 cond (x19_1)
  (some 3)
  ((Cs c.Room (fun x0=>Ju x0)).bind fun y=>
  cond (y)
   (some 2)
   ((D6 c.Windows (fun x0=>Jr x0)).bind fun y_2=>
   cond (y_2)
    (some 47)
    (C7 (fun q'=>By.l2 c endpoints q') 0)))
def By (c:A5) (endpoints:Int):Option (Int):=
 cond (decide (32 < (c.Windows.length:Int)))
  (By.j1 c endpoints true)
  (By.j1 c endpoints (decide (8 < (c.Room.length:Int))))
def Qb (c:A5):Option (Int):=
 (By c (c.Team.length:Int)).bind fun y=>
 some y
def Mf (w:Aw) (c0:Int):Option (Bool):=
 cond (decide (w.Days.From<=c0))
  (some (decide (c0 < w.Days.To)))
  (some false)
def Ry (c:A5) (day:Int):Option (Int):=
 (Be c.Windows (fun x0=>Mf x0 day)).bind fun y=>
 some y
def Rw (c:A5) (day:Int):Option (Int×Bool×Int):=
 (Qb c).bind fun y=>
 cond (!decide (y=0))
  (some (0,false,y))
  ((Ry c day).bind fun y_2=>
  some (max y_2 0,decide (0<=y_2),0))
def Iq.l1 (s:ByteArray) (h_1:Int) (x7_1:Int):Option (Lp (Int×Int) (Int)):=
 cond (decide (x7_1 < (s.size:Int)))
  ((Wo s x7_1).bind fun c=>
  some (.next (IntKind.wrap .u32 ((bS .u32 h_1 (IntKind.wrap .u32 (c.toNat:Int))) * 16777619),W (x7_1 + 1))))
  (up (
   some (W h_1)))
def Iq (s:ByteArray):Option (Int):=
 C7 (fun q'=>Iq.l1 s q'.1 q'.2) (2166136261,0)
def D7.j3 (more_3:Bool):Option (Int):=
 cond (more_3)
  (some 2)
  (some 3)
def D7.j2 (e:Ad) (c:Fx) (x13_2:Bool):Option (Int):=
 cond (x13_2)
  (D7.j3 true)
  (cond (decide (c.Kind=3))
   (D7.j3 (decide (e.Most < c.Number)))
   (cond (decide (c.Kind=4))
    (D7.j3 (decide (c.Number < e.Least)))
    (cond (decide (c.Kind=11))
     (D7.j3 (decide (c.Number=1)))
     (D7.j3 false))))
def D7.j1 (e:Ad) (c:Fx) (x8_1:Bool):Option (Int):=
 cond (x8_1)
  (some 0)
  (cond (decide (c.Kind=5))
   (some 1)
   (cond (decide (c.Kind=1))
    (D7.j2 e c (decide (c.Kind=1)))
    (D7.j2 e c (decide (c.Kind=12)))))
def D7 (e:Ad) (c:Fx):Option (Int):=
 cond (decide (c.Kind=7))
  (D7.j1 e c (decide (c.Kind=7)))
  (D7.j1 e c (decide (c.Kind=9)))
def Iz:Option (Bool):=
 (Dn 2 ([(Bq.mk 0 1)]:List Bq)).bind fun y=>
 (Rz 1).bind fun y_2=>
 (Rw y_2 7).bind fun y_3=>
 cond (decide (y.2=0))
  (cond (decide (y_3.2.2=0))
   (cond (decide ((y.1.length:Int)=3))
    (cond (y_3.2.1)
     (cond (decide (y_3.1=0))
      ((Iq (⟨#[]⟩:ByteArray)).bind fun y_4=>
      cond (decide (y_4=2166136261))
       ((D7 (Ad.mk (⟨#[]⟩:ByteArray) 0 0 ([]:(List Int)) false ([]:(List Av)) ([]:(List Int)) ([]:(List Int)) false) (Fx.mk 0 5 0 0 (Av.mk (Ah.mk 0 0) 0 ([]:(List Ab))))).bind fun y_5=>
       some (decide (y_5=1)))
       (some false))
      (some false))
     (some false))
    (some false))
   (some false))
  (some false)
def Ue (l:(List Int)):Option (Ae):=
 some (Ae.mk l 0)
def Tt (n:Int) (k:Int):Option (Int):=
 cond (decide (k < 1))
  (some 0)
  ((dW n k).bind fun q=>
  (dW (W (q + k)) k).bind fun q_2=>
  some q_2)
def Et (d:Ae) (n:Int):Option (Int×Ae):=
 cond (decide ((d.L.length:Int)<=d.At))
  (some (0,d))
  ((Bn d.L (W ((W (d.At + 1)) - 1))).bind fun e=>
  (Tt e n).bind fun y=>
  some (y,(Ae.mk d.L (W (d.At + 1)))))
def Ir (d:Ae) (l:(List Int)):Option (Int×Ae):=
 (Et d (l.length:Int)).bind fun y=>
 (Bn l y.1).bind fun e=>
 some (e,y.2)
def La (d:Ae) (n:Int):Option (Bool×Ae):=
 (Et d n).bind fun y=>
 some (decide (y.1=(W (n - 1))),y.2)
def V2:Option (Ah):=
 some (Ah.mk 5 2048)
def Qo (c:Ab):Option (Ab):=
 (Hc 16 ([]:List ByteArray) c.Names).bind fun l=>
 some (Ab.mk c.Serial c.Issuer c.Subject c.Key c.KeyId c.Hash c.From c.To c.Authority c.Path l c.Seal)
def Dx.j3 (i_2:Int) (x27_3:Bool):Option (Lp (Int) (Bool)):=
 cond (x27_3)
  (up (some false))
  (some (.next (W (i_2 + 1))))
def Dx.l2 (s:ByteArray) (i_2:Int):Option (Lp (Int) (Bool)):=
 cond (decide (i_2 < (s.size:Int)))
  ((Wo s i_2).bind fun c=>
  cond (decide ((c.toNat:Int) < 33))
   (Dx.j3 i_2 true)
   ((Wo s i_2).bind fun c_2=>
   Dx.j3 i_2 (decide (126 < (c_2.toNat:Int)))))
  (up (
   some true))
def Dx.j1 (s:ByteArray) (x11_1:Bool):Option (Bool):=
 cond (x11_1)
  (some false)
  (C7 (fun q'=>Dx.l2 s q') 0)
def Dx (s:ByteArray):Option (Bool):=
 cond (decide ((s.size:Int) < 1))
  (Dx.j1 s true)
  (Dx.j1 s (decide (32 < (s.size:Int))))
def Fk.j1 (b:Int) (x3_1:Bool):Option (Int):=
 cond (x3_1)
  (some 0)
  (cond (decide (b < 1024))
   (some 56)
   (cond (decide (b < 2048))
    (some 80)
    (cond (decide (b < 3072))
     (some 112)
     (cond (decide (b < 7680))
      (some 128)
      (cond (decide (b < 15360))
       (some 192)
       (some 256))))))
def Fk (b:Int):Option (Int):=
 cond (decide (b < 512))
  (Fk.j1 b true)
  (Fk.j1 b (decide (16384 < b)))
def C3.l1 (b:Int) (sizes:(List Int)) (strengths:(List Int)) (i_1:Int):Option (Lp (Int) (Int)):=
 cond (decide (i_1 < (sizes.length:Int)))
  ((Bn sizes i_1).bind fun e=>
  cond (decide (e=b))
   ((Bn strengths i_1).bind fun e_2=>
   up (some e_2))
   (some (.next (W (i_1 + 1)))))
  (up (
   some 0))
def C3 (b:Int) (sizes:(List Int)) (strengths:(List Int)):Option (Int):=
 C7 (fun q'=>C3.l1 b sizes strengths q') 0
def E8.j2 (alg:Int) (x14_2:Bool):Option (Int):=
 cond (x14_2)
  (some 256)
  (cond (decide (alg=19))
   (some 64)
   (cond (decide (alg=20))
    (some 80)
    (some 0)))
def E8.j1 (alg:Int) (x8_1:Bool):Option (Int):=
 cond (x8_1)
  (some 128)
  (cond (decide (alg=4))
   (some 192)
   (cond (decide (alg=18))
    (E8.j2 alg (decide (alg=18)))
    (E8.j2 alg (decide (alg=22)))))
def E8 (alg:Int):Option (Int):=
 cond (decide (alg=1))
  (some 18)
  (cond (decide (alg=2))
   (some 60)
   (cond (decide (alg=3))
    (E8.j1 alg (decide (alg=3)))
    (cond (decide (alg=8))
     (E8.j1 alg (decide (alg=8)))
     (E8.j1 alg (decide (alg=21))))))
def Au.j3 (u:Ah) (x35_3:Bool):Option (Int):=
 cond (x35_3)
  ((cD u.Bits 2).bind fun q=>
  some q)
  (some 0)
def Au.j4 (u:Ah) (x62_4:Bool):Option (Int):=
 cond (x62_4)
  ((C3 u.Bits ([128,256]:List Int) ([128,256]:List Int)).bind fun y_6=>
  some y_6)
  ((E8 u.Alg).bind fun y_7=>
  (C3 u.Bits ([0]:List Int) ([y_7]:List Int)).bind fun y_8=>
  some y_8)
def Au.j2 (u:Ah) (x15_2:Bool):Option (Int):=
 cond (x15_2)
  (cond (decide (u.Bits=160))
   (Au.j3 u true)
   (cond (decide (u.Bits=224))
    (Au.j3 u true)
    (cond (decide (u.Bits=256))
     (Au.j3 u true)
     (cond (decide (u.Bits=384))
      (Au.j3 u true)
      (Au.j3 u (decide (u.Bits=521)))))))
  (cond (decide (u.Alg=9))
   ((C3 u.Bits ([44,65,87]:List Int) ([128,192,256]:List Int)).bind fun y_2=>
   some y_2)
   (cond (decide (u.Alg=13))
    ((C3 u.Bits ([512,768,1024]:List Int) ([128,192,256]:List Int)).bind fun y_3=>
    some y_3)
    (cond (decide (u.Alg=14))
     ((C3 u.Bits ([40,128]:List Int) ([40,60]:List Int)).bind fun y_4=>
     some y_4)
     (cond (decide (u.Alg=15))
      ((C3 u.Bits ([112,168]:List Int) ([80,112]:List Int)).bind fun y_5=>
      some y_5)
      (cond (decide (u.Alg=16))
       (Au.j4 u (decide (u.Alg=16)))
       (Au.j4 u (decide (u.Alg=17))))))))
def Au.j1 (u:Ah) (x8_1:Bool):Option (Int):=
 cond (x8_1)
  ((Fk u.Bits).bind fun y=>
  some y)
  (cond (decide (u.Alg=7))
   (Au.j2 u (decide (u.Alg=7)))
   (Au.j2 u (decide (u.Alg=12))))
def Au (u:Ah):Option (Int):=
 cond (decide (u.Alg=5))
  (Au.j1 u (decide (u.Alg=5)))
  (cond (decide (u.Alg=6))
   (Au.j1 u (decide (u.Alg=6)))
   (cond (decide (u.Alg=10))
    (Au.j1 u (decide (u.Alg=10)))
    (Au.j1 u (decide (u.Alg=11)))))
def Ni (u:Ah):Option (Bool):=
 (Au u).bind fun y=>
 some (decide (0 < y))
def V5:Option ((List Ao)):=
 some ([(Ao.mk (⟨#[]⟩:ByteArray) 0),(Ao.mk (⟨#[109,100,53]⟩:ByteArray) 1),(Ao.mk (⟨#[115,104,97,49]⟩:ByteArray) 1),(Ao.mk (⟨#[115,104,97,50,53,54]⟩:ByteArray) 1),(Ao.mk (⟨#[115,104,97,51,56,52]⟩:ByteArray) 1),(Ao.mk (⟨#[114,115,97]⟩:ByteArray) 2),(Ao.mk (⟨#[100,115,97]⟩:ByteArray) 2),(Ao.mk (⟨#[101,99,100,115,97]⟩:ByteArray) 2),(Ao.mk (⟨#[101,100,50,53,53,49,57]⟩:ByteArray) 2),(Ao.mk (⟨#[109,108,100,115,97]⟩:ByteArray) 2),(Ao.mk (⟨#[114,115,97,107,120]⟩:ByteArray) 3),(Ao.mk (⟨#[100,104,101]⟩:ByteArray) 3),(Ao.mk (⟨#[101,99,100,104,101]⟩:ByteArray) 3),(Ao.mk (⟨#[109,108,107,101,109]⟩:ByteArray) 3),(Ao.mk (⟨#[114,99,52]⟩:ByteArray) 4),(Ao.mk (⟨#[100,101,115,51]⟩:ByteArray) 4),(Ao.mk (⟨#[97,101,115,99,98,99]⟩:ByteArray) 4),(Ao.mk (⟨#[97,101,115,103,99,109]⟩:ByteArray) 4),(Ao.mk (⟨#[99,104,97,99,104,97]⟩:ByteArray) 4),(Ao.mk (⟨#[104,109,97,99,109,100,53]⟩:ByteArray) 5),(Ao.mk (⟨#[104,109,97,99,115,104,97,49]⟩:ByteArray) 5),(Ao.mk (⟨#[104,109,97,99,115,104,97,50,53,54]⟩:ByteArray) 5),(Ao.mk (⟨#[97,101,97,100]⟩:ByteArray) 5)]:List Ao)
def Hg.j1 (alg:Int) (x8_1:Bool):Option (Int):=
 cond (x8_1)
  (some 0)
  ((V5).bind fun y=>
  (Bn y alg).bind fun e=>
  some e.kind)
def Hg (alg:Int):Option (Int):=
 cond (decide (alg < 1))
  (Hg.j1 alg true)
  (Hg.j1 alg (decide (22 < alg)))
def Le (u:Ah):Option (Bool):=
 (Ni u).bind fun y=>
 cond (y)
  ((Hg u.Alg).bind fun y_2=>
  some (decide (y_2=2)))
  (some false)
def A8.j5 (i_4:Int) (x123_5:Bool):Option (Lp (Int) (Int)):=
 cond (x123_5)
  (up (some 9))
  (some (.next (W (i_4 + 1))))
def A8.j6 (x145_6:Bool):Option (Int):=
 cond (x145_6)
  (some 9)
  (some 0)
def A8.l4 (c:Ab) (i_4:Int):Option (Lp (Int) (Int)):=
 cond (decide (i_4 < (c.Names.length:Int)))
  ((Bn c.Names i_4).bind fun e=>
  (Dx e).bind fun y_6=>
  cond (!y_6)
   (A8.j5 i_4 true)
   (cond (decide (0 < i_4))
    ((Bn c.Names (W (i_4 - 1))).bind fun e_2=>
    A8.j5 i_4 (!tP (Q2 e_2) (Q2 e)))
    (A8.j5 i_4 false)))
  (up (
   cond (decide (c.Seal.Key < 0))
    (A8.j6 true)
    (cond (decide (2147483648 < c.Seal.Key))
     (A8.j6 true)
     (cond (decide (c.Seal.Sum < 0))
      (A8.j6 true)
      (A8.j6 (decide (4294967296<=c.Seal.Sum)))))))
def A8.j3 (c:Ab) (x91_3:Bool):Option (Int):=
 cond (x91_3)
  (some 9)
  (C7 (fun q'=>A8.l4 c q') 0)
def A8.j2 (c:Ab) (x67_2:Bool):Option (Int):=
 cond (x67_2)
  (some 9)
  (cond (decide (c.Path < 0))
   (A8.j3 c true)
   (cond (decide (8 < c.Path))
    (A8.j3 c true)
    (cond (!c.Authority)
     (cond (!decide (c.Path=0))
      (A8.j3 c true)
      (A8.j3 c (decide (8 < (c.Names.length:Int)))))
     (A8.j3 c (decide (8 < (c.Names.length:Int)))))))
def A8.j1 (c:Ab) (x39_1:Bool):Option (Int):=
 cond (x39_1)
  (some 9)
  ((Ni c.Hash).bind fun y_4=>
  cond (!y_4)
   (A8.j2 c true)
   ((Hg c.Hash.Alg).bind fun y_5=>
   cond (!decide (y_5=1))
    (A8.j2 c true)
    (cond (decide (c.From < 0))
     (A8.j2 c true)
     (cond (decide (c.To < c.From))
      (A8.j2 c true)
      (A8.j2 c (decide (40000 < c.To)))))))
def A8 (c:Ab):Option (Int):=
 cond (decide (c.Serial < 0))
  (A8.j1 c true)
  (cond (decide (1099511627776 < c.Serial))
   (A8.j1 c true)
   ((Dx c.Issuer).bind fun y=>
   cond (!y)
    (A8.j1 c true)
    ((Dx c.Subject).bind fun y_2=>
    cond (!y_2)
     (A8.j1 c true)
     ((Le c.Key).bind fun y_3=>
     cond (!y_3)
      (A8.j1 c true)
      (cond (decide (c.KeyId < 0))
       (A8.j1 c true)
       (A8.j1 c (decide (2147483648 < c.KeyId))))))))
def M0 (s:ByteArray):Option (Aa):=
 some (Aa.mk 12 (Q2 s) false ([]:(List Aa)))
def Dq.j2 (x_1:Int) (b_1:List UInt8) (x35_2:Bool):Option (Lp (Int×List UInt8) (Aa)):=
 cond (x35_2)
  ((Hc 1 ([(u8 x_1)]:List UInt8) b_1).bind fun l=>
  (Q3 .i64 x_1 8).bind fun q_2=>
  some (.next (q_2,l)))
  (up (
   some (Aa.mk 2 b_1 false ([]:(List Aa)))))
def Dq.l1 (x_1:Int) (b_1:List UInt8):Option (Lp (Int×List UInt8) (Aa)):=
 cond (!decide (x_1=0))
  (cond (!decide (x_1=(-1)))
   (Dq.j2 x_1 b_1 true)
   (cond (decide (x_1=0))
    ((Bn b_1 0).bind fun e=>
    cond (decide (128<=(e.toNat:Int)))
     (Dq.j2 x_1 b_1 true)
     (cond (decide (x_1=(-1)))
      (Dq.j2 x_1 b_1 (decide ((e.toNat:Int) < 128)))
      (Dq.j2 x_1 b_1 false)))
    (cond (decide (x_1=(-1)))
     ((Bn b_1 0).bind fun e_2=>
     Dq.j2 x_1 b_1 (decide ((e_2.toNat:Int) < 128)))
     (Dq.j2 x_1 b_1 false))))
  (cond (decide (x_1=0))
   ((Bn b_1 0).bind fun e_3=>
   cond (decide (128<=(e_3.toNat:Int)))
    (Dq.j2 x_1 b_1 true)
    (cond (decide (x_1=(-1)))
     (Dq.j2 x_1 b_1 (decide ((e_3.toNat:Int) < 128)))
     (Dq.j2 x_1 b_1 false)))
   (cond (decide (x_1=(-1)))
    ((Bn b_1 0).bind fun e_4=>
    Dq.j2 x_1 b_1 (decide ((e_4.toNat:Int) < 128)))
    (Dq.j2 x_1 b_1 false)))
def Dq (n:Int):Option (Aa):=
 (Q3 .i64 n 8).bind fun q=>
 C7 (fun q'=>Dq.l1 q'.1 q'.2) (q,([(u8 n)]:List UInt8))
def Dy.l1 (rec:(List Aa)->Option ((List Aa))) (l:(List Aa)) (i_1:Int) (out_1:List Aa):Option (Lp (Int×List Aa) ((List Aa))):=
 cond (decide (i_1 < (l.length:Int)))
  ((Bn l i_1).bind fun e=>
  (Hc 1 ([]:List UInt8) e.Bytes).bind fun l_2=>
  (rec e.Elements).bind fun y=>
  (Hc 256 out_1 ([(Aa.mk e.Tag l_2 e.Nested y)]:List Aa)).bind fun l_3=>
  some (.next (W (i_1 + 1),l_3)))
  (up (
   some out_1))
def Dy.F (rec:(List Aa)->Option ((List Aa))) (l:(List Aa)):Option ((List Aa)):=
 C7 (fun q'=>Dy.l1 rec l q'.1 q'.2) (0,([]:List Aa))
def Dy (l:(List Aa)):Option ((List Aa)):=aB (fun rec (x:(List Aa))=>Dy.F (fun l=>rec l) x) l
def Lb (l:(List Aa)):Option (Aa):=
 (Dy l).bind fun y=>
 some (Aa.mk 48 ([]:(List UInt8)) true y)
def P1 (u:Ah):Option (Aa):=
 (Dq u.Alg).bind fun y=>
 (Dq u.Bits).bind fun y_2=>
 (Lb ([y,y_2]:List Aa)).bind fun y_3=>
 some y_3
def S0 (b:Bool):Option (Aa):=
 cond (b)
  (some (Aa.mk 1 ([(255:UInt8)]:List UInt8) false ([]:(List Aa))))
  (some (Aa.mk 1 ([(0:UInt8)]:List UInt8) false ([]:(List Aa))))
def G5.l1 (c:Ab) (i_1:Int) (names_1:List Aa):Option (Lp (Int×List Aa) (Aa)):=
 cond (decide (i_1 < (c.Names.length:Int)))
  ((Bn c.Names i_1).bind fun e=>
  (M0 e).bind fun y=>
  (Hc 256 names_1 ([y]:List Aa)).bind fun l=>
  some (.next (W (i_1 + 1),l)))
  (up (
   (Dq c.Serial).bind fun y_12=>
   (M0 c.Issuer).bind fun y_13=>
   (M0 c.Subject).bind fun y_14=>
   (P1 c.Key).bind fun y_15=>
   (Dq c.KeyId).bind fun y_16=>
   (P1 c.Hash).bind fun y_17=>
   (Dq c.From).bind fun y_18=>
   (Dq c.To).bind fun y_19=>
   (S0 c.Authority).bind fun y_20=>
   (Dq c.Path).bind fun y_21=>
   (Lb names_1).bind fun y_22=>
   (Lb ([y_12,y_13,y_14,y_15,y_16,y_17,y_18,y_19,y_20,y_21,y_22]:List Aa)).bind fun y_23=>
   some y_23))
def G5 (c:Ab):Option (Aa):=
 C7 (fun q'=>G5.l1 c q'.1 q'.2) (0,([]:List Aa))
def Rr (n:Int):Option (Bool):=
 cond (decide (1<=n))
  (cond (decide (n<=255))
   ((dW n 32).bind fun q=>
   some (!decide (q=31)))
   (some false))
  (some false)
def Cg.l2 (rec:Aa->Option (Bool)) (v:Aa) (i_2:Int):Option (Lp (Int) (Bool)):=
 cond (decide (i_2 < (v.Elements.length:Int)))
  ((Bn v.Elements i_2).bind fun e=>
  (rec e).bind fun y_2=>
  cond (!y_2)
   (up (some false))
   (some (.next (W (i_2 + 1)))))
  (up (
   some true))
def Cg.j1 (rec:Aa->Option (Bool)) (v:Aa) (x38_1:Bool):Option (Bool):=
 cond (x38_1)
  (some false)
  (C7 (fun q'=>Cg.l2 rec v q') 0)
def Cg.F (rec:Aa->Option (Bool)) (v:Aa):Option (Bool):=
 (Rr v.Tag).bind fun y=>
 cond (!y)
  (Cg.j1 rec v true)
  ((cD v.Tag 32).bind fun q=>
  (dW q 2).bind fun q_2=>
  cond (!decide (v.Nested=(decide (q_2=1))))
   (Cg.j1 rec v true)
   (cond (v.Nested)
    (cond (decide (0 < (v.Bytes.length:Int)))
     (Cg.j1 rec v true)
     (Cg.j1 rec v false))
    (Cg.j1 rec v (decide (0 < (v.Elements.length:Int))))))
def Cg (v:Aa):Option (Bool):=aB (fun rec (x:Aa)=>Cg.F (fun v=>rec v) x) v
def D9.l1 (rec:Aa->Option (Int)) (v:Aa) (d_1:Int) (i_1:Int):Option (Lp (Int×Int) (Int)):=
 cond (decide (i_1 < (v.Elements.length:Int)))
  ((Bn v.Elements i_1).bind fun e=>
  (rec e).bind fun y=>
  some (.next (max d_1 y,W (i_1 + 1))))
  (up (
   some (W (d_1 + 1))))
def D9.F (rec:Aa->Option (Int)) (v:Aa):Option (Int):=
 C7 (fun q'=>D9.l1 rec v q'.1 q'.2) (0,0)
def D9 (v:Aa):Option (Int):=aB (fun rec (x:Aa)=>D9.F (fun v=>rec v) x) v
def Ge.l1 (n_1:Int) (b_1:List UInt8):Option (Lp (Int×List UInt8) ((List UInt8))):=
 cond (decide (0 < n_1))
  ((dW n_1 256).bind fun q=>
  (Hc 1 ([(u8 q)]:List UInt8) b_1).bind fun l=>
  (cD n_1 256).bind fun q_2=>
  some (.next (q_2,l)))
  (up (
   (Hc 1 ([(u8 (W (128 + (b_1.length:Int))))]:List UInt8) b_1).bind fun l_2=>
   some l_2))
def Ge (n:Int):Option ((List UInt8)):=
 cond (decide (n < 128))
  (some ([(u8 n)]:List UInt8))
  (C7 (fun q'=>Ge.l1 q'.1 q'.2) (n,([]:List UInt8)))
def Fc.l1 (rec:Aa->Option ((List UInt8))) (v:Aa) (i_1:Int) (b_1:List UInt8):Option (Lp (Int×List UInt8) ((List UInt8))):=
 cond (decide (i_1 < (v.Elements.length:Int)))
  ((Bn v.Elements i_1).bind fun e=>
  (rec e).bind fun y=>
  (Hc 1 b_1 y).bind fun l_2=>
  some (.next (W (i_1 + 1),l_2)))
  (up (
   (Ge (b_1.length:Int)).bind fun y_2=>
   (Hc 1 ([(u8 v.Tag)]:List UInt8) y_2).bind fun l_3=>
   (Hc 1 l_3 b_1).bind fun l_4=>
   some l_4))
def Fc.F (rec:Aa->Option ((List UInt8))) (v:Aa):Option ((List UInt8)):=
 (Hc 1 ([]:List UInt8) v.Bytes).bind fun l=>
 C7 (fun q'=>Fc.l1 rec v q'.1 q'.2) (0,l)
def Fc (v:Aa):Option ((List UInt8)):=aB (fun rec (x:Aa)=>Fc.F (fun v=>rec v) x) v
def N0 (v:Aa):Option ((List UInt8)×Int):=
 (Cg v).bind fun y=>
 cond (!y)
  (some (([]:(List UInt8)),1))
  ((D9 v).bind fun y_2=>
  cond (decide (16 < y_2))
   (some (([]:(List UInt8)),3))
   ((Fc v).bind fun y_3=>
   cond (decide (4096 < (y_3.length:Int)))
    (some (([]:(List UInt8)),3))
    (some (y_3,0))))
def Nh (c:Ab):Option ((List UInt8)×Int):=
 (A8 c).bind fun y=>
 cond (!decide (y=0))
  (some (([]:(List UInt8)),9))
  ((G5 c).bind fun y_2=>
  (N0 y_2).bind fun y_3=>
  some (y_3.1,y_3.2))
def Ib.l1 (b:(List UInt8)) (h_1:Int) (i_1:Int):Option (Lp (Int×Int) (Int)):=
 cond (decide (i_1 < (b.length:Int)))
  ((Bn b i_1).bind fun e=>
  some (.next (IntKind.wrap .u32 ((bS .u32 h_1 (IntKind.wrap .u32 (e.toNat:Int))) * 16777619),W (i_1 + 1))))
  (up (
   some (W h_1)))
def Ib (b:(List UInt8)):Option (Int):=
 C7 (fun q'=>Ib.l1 b q'.1 q'.2) (2166136261,0)
def Hk.j1 (key:Int) (y:Ab) (x22_1:Bool):Option (Ab×Int):=
 cond (x22_1)
  (some ((Ab.mk 0 (⟨#[]⟩:ByteArray) (⟨#[]⟩:ByteArray) (Ah.mk 0 0) 0 (Ah.mk 0 0) 0 0 false 0 ([]:(List ByteArray)) (E9.mk 0 0)),9))
  ((Nh (Ab.mk y.Serial y.Issuer y.Subject y.Key y.KeyId y.Hash y.From y.To y.Authority y.Path y.Names (E9.mk 0 0))).bind fun y_3=>
  (Ib y_3.1).bind fun y_4=>
  some ((Ab.mk y.Serial y.Issuer y.Subject y.Key y.KeyId y.Hash y.From y.To y.Authority y.Path y.Names (E9.mk key y_4)),0))
def Hk (c:Ab) (key:Int):Option (Ab×Int):=
 (Qo c).bind fun y=>
 (A8 (Ab.mk y.Serial y.Issuer y.Subject y.Key y.KeyId y.Hash y.From y.To y.Authority y.Path y.Names (E9.mk 0 0))).bind fun y_2=>
 cond (!decide (y_2=0))
  (Hk.j1 key y true)
  (cond (decide (key < 0))
   (Hk.j1 key y true)
   (Hk.j1 key y (decide (2147483648 < key))))
def Pu (name:ByteArray) (key:Ah) (id:Int) (anchor:Int) (to:Int):Option (Av):=
 (Hk (Ab.mk id (⟨#[114,111,111,116]⟩:ByteArray) name key id (Ah.mk 3 0) 0 to false 0 ([name]:List ByteArray) (E9.mk 0 0)) anchor).bind fun y=>
 some (Av.mk key id ([y.1]:List Ab))
def L7 (d:Ae) (l:(List ByteArray)):Option (ByteArray×Ae):=
 (Et d (l.length:Int)).bind fun y=>
 (Bn l y.1).bind fun e=>
 some (e,y.2)
def Kk.l1 (name:ByteArray) (y:Int×Ae) (y_2:Int×Ae) (day_1:Int) (i_1:Int) (d_1:Ae) (l_1:List A1):Option (Lp (Int×Int×Ae×List A1) (Aq×Ae)):=
 cond (decide (0 < i_1))
  ((Et d_1 6).bind fun y_5=>
  (Bn ([(Ah.mk 2 0),(Ah.mk 1 0),(Ah.mk 5 2048),(Ah.mk 16 128),(Ah.mk 3 0),(Ah.mk 15 168)]:List Ah) y_5.1).bind fun e=>
  (Hc 72 l_1 ([(A1.mk e day_1)]:List A1)).bind fun l=>
  (Ir y_5.2 ([5,30,0,100]:List Int)).bind fun y_6=>
  some (.next (W ((W (day_1 + 1)) + y_6.1),W (i_1 - 1),y_6.2,l)))
  (up (
   (Bn l_1 0).bind fun e_2=>
   (Ir d_1 ([50,300,0,3000]:List Int)).bind fun y_7=>
   some ((Aq.mk name (W (1 + y.1)) (W (1 + y_2.1)) l_1 (W (e_2.Day + y_7.1))),y_7.2)))
def Kk (d:Ae) (name:ByteArray):Option (Aq×Ae):=
 (Et d 2).bind fun y=>
 (Et y.2 4).bind fun y_2=>
 (Et y_2.2 20).bind fun y_3=>
 (Et y_3.2 3).bind fun y_4=>
 C7 (fun q'=>Kk.l1 name y y_2 q'.1 q'.2.1 q'.2.2.1 q'.2.2.2) (y_3.1,W (1 + y_4.1),y_4.2,([]:List A1))
def Bp.j2 (x18_1:Int) (l_1:List Ad) (e:ByteArray) (y_2:Int×Ae) (y_4:Bool×Ae) (y_5:Bool×Ae) (x_2:List Int):Option (Lp (Int×Ae×List Ad) (Ak×Ae)):=
 (V2).bind fun y_6=>
 (Pu e y_6 (W (100 + x18_1)) 1 901).bind fun y_7=>
 (Hc 1296 l_1 ([(Ad.mk e 1 y_2.1 x_2 y_4.1 ([y_7]:List Av) ([1]:List Int) ([2,3]:List Int) y_5.1)]:List Ad)).bind fun l_3=>
 some (.next (W (x18_1 + 1),y_5.2,l_3))
def Bp.j9 (x71_7:Int) (d_9:Ae) (l_9:List Bi):Option (Lp (Int×Ae×List Bi) (Lp (Int×Ae×List Bi) (Ak×Ae))):=
 some (.next (W (x71_7 + 1),d_9,l_9))
def Bp.j8 (x66_6:Int) (x71_7:Int) (l_7:List Bi) (x87_8:Bool) (d_8:Ae):Option (Lp (Int×Ae×List Bi) (Lp (Int×Ae×List Bi) (Ak×Ae))):=
 cond (x87_8)
  ((Hc 32 l_7 ([(Bi.mk x66_6 x71_7)]:List Bi)).bind fun l_4=>
  Bp.j9 x71_7 d_8 l_4)
  (Bp.j9 x71_7 d_8 l_7)
def Bp.l7 (y:Int×Ae) (x66_6:Int) (x71_7:Int) (d_7:Ae) (l_7:List Bi):Option (Lp (Int×Ae×List Bi) (Lp (Int×Ae×List Bi) (Ak×Ae))):=
 cond (decide (x71_7 < ((((W (2 + y.1):Int).toNat - (0:Int).toNat):Nat):Int)))
  (cond (!decide (x66_6=x71_7))
   ((Et d_7 3).bind fun y_8=>
   cond (decide (0 < y_8.1))
    (Bp.j8 x66_6 x71_7 l_7 (decide ((l_7.length:Int) < 3)) y_8.2)
    (Bp.j8 x66_6 x71_7 l_7 false y_8.2))
   (Bp.j8 x66_6 x71_7 l_7 false d_7))
  (up (
   some (.next (W (x66_6 + 1),d_7,l_7))))
def Bp.l11 (l_1:List Ad) (l_10:List Bi) (i_11:Int) (d_11:Ae) (l_11:List Aq):Option (Lp (Int×Ae×List Aq) (Ak×Ae)):=
 cond (decide (0 < i_11))
  ((L7 d_11 ([(⟨#[98,97,99,107,117,112]⟩:ByteArray),(⟨#[100,101,101,100]⟩:ByteArray)]:List ByteArray)).bind fun y_10=>
  (Kk y_10.2 y_10.1).bind fun y_11=>
  (Hc 320 l_11 ([y_11.1]:List Aq)).bind fun l_5=>
  some (.next (W (i_11 - 1),y_11.2,l_5)))
  (up (
   some ((Ak.mk l_1 l_10 l_11),d_11)))
def Bp.j10 (l_1:List Ad) (d_6:Ae) (l_10:List Bi):Option (Ak×Ae):=
 (Et d_6 3).bind fun y_9=>
 C7 (fun q'=>Bp.l11 l_1 l_10 q'.1 q'.2.1 q'.2.2) (y_9.1,y_9.2,([]:List Aq))
def Bp.l6 (y:Int×Ae) (l_1:List Ad) (x66_6:Int) (d_6:Ae) (l_6:List Bi):Option (Lp (Int×Ae×List Bi) (Ak×Ae)):=
 cond (decide (x66_6 < ((((W (2 + y.1):Int).toNat - (0:Int).toNat):Nat):Int)))
  (C7 (fun q'=>Bp.l7 y x66_6 q'.1 q'.2.1 q'.2.2) (0,d_6,l_6))
  (up (
   cond (decide ((l_6.length:Int)=0))
    (Bp.j10 l_1 d_6 ([(Bi.mk 0 1)]:List Bi))
    (Bp.j10 l_1 d_6 l_6)))
def Bp.l1 (y:Int×Ae) (x18_1:Int) (d_1:Ae) (l_1:List Ad):Option (Lp (Int×Ae×List Ad) (Ak×Ae)):=
 cond (decide (x18_1 < ((((W (2 + y.1):Int).toNat - (0:Int).toNat):Nat):Int)))
  ((Bn ((([(⟨#[97,112,112]⟩:ByteArray),(⟨#[100,98]⟩:ByteArray),(⟨#[119,101,98]⟩:ByteArray)]:List ByteArray).drop ((0:Int).toNat)).take ((W (2 + y.1):Int).toNat - (0:Int).toNat)) x18_1).bind fun e=>
  (Ir d_1 ([3,3,4]:List Int)).bind fun y_2=>
  (Et y_2.2 3).bind fun y_3=>
  (Bn ([([10,8,2]:List Int),([8,2]:List Int),([2,10,8,3]:List Int)]:List (List Int)) y_3.1).bind fun e_2=>
  (La y_3.2 2).bind fun y_4=>
  (La y_4.2 3).bind fun y_5=>
  cond (decide (y_2.1=4))
   ((Hc 8 ([14]:List Int) e_2).bind fun l_2=>
   Bp.j2 x18_1 l_1 e y_2 y_4 y_5 l_2)
   (Bp.j2 x18_1 l_1 e y_2 y_4 y_5 e_2))
  (up (
   C7 (fun q'=>Bp.l6 y l_1 q'.1 q'.2.1 q'.2.2) (0,d_1,([]:List Bi))))
def Bp (d:Ae):Option (Ak×Ae):=
 (Et d 2).bind fun y=>
 (pY ([(⟨#[97,112,112]⟩:ByteArray),(⟨#[100,98]⟩:ByteArray),(⟨#[119,101,98]⟩:ByteArray)]:List ByteArray) 0 (W (2 + y.1))).bind fun l=>
 C7 (fun q'=>Bp.l1 y q'.1 q'.2.1 q'.2.2) (0,y.2,([]:List Ad))
def Iy (s:ByteArray) (c:UInt8):Option (Int):=
 some (pH s c)
def Fo (s:ByteArray) (c:UInt8):Option (Int):=
 (Iy s c).bind fun y=>
 some y
def Ld (c:UInt8) (others:ByteArray):Option (Bool):=
 cond (decide (97<=(c.toNat:Int)))
  (cond (decide ((c.toNat:Int)<=122))
   (some true)
   (cond (decide (65<=(c.toNat:Int)))
    (cond (decide ((c.toNat:Int)<=90))
     (some true)
     (cond (decide (48<=(c.toNat:Int)))
      (cond (decide ((c.toNat:Int)<=57))
       (some true)
       ((Fo others c).bind fun y=>
       some (decide (0<=y))))
      ((Fo others c).bind fun y_2=>
      some (decide (0<=y_2)))))
    (cond (decide (48<=(c.toNat:Int)))
     (cond (decide ((c.toNat:Int)<=57))
      (some true)
      ((Fo others c).bind fun y_3=>
      some (decide (0<=y_3))))
     ((Fo others c).bind fun y_4=>
     some (decide (0<=y_4))))))
  (cond (decide (65<=(c.toNat:Int)))
   (cond (decide ((c.toNat:Int)<=90))
    (some true)
    (cond (decide (48<=(c.toNat:Int)))
     (cond (decide ((c.toNat:Int)<=57))
      (some true)
      ((Fo others c).bind fun y_5=>
      some (decide (0<=y_5))))
     ((Fo others c).bind fun y_6=>
     some (decide (0<=y_6)))))
   (cond (decide (48<=(c.toNat:Int)))
    (cond (decide ((c.toNat:Int)<=57))
     (some true)
     ((Fo others c).bind fun y_7=>
     some (decide (0<=y_7))))
    ((Fo others c).bind fun y_8=>
    some (decide (0<=y_8)))))
def F8.l1 (s:ByteArray) (x8_1:Int):Option (Lp (Int) (Bool)):=
 cond (decide (x8_1 < ((Q2 s).length:Int)))
  ((Bn (Q2 s) x8_1).bind fun e=>
  (Ld e (⟨#[45,95,46]⟩:ByteArray)).bind fun y=>
  cond (!y)
   (up (some false))
   (some (.next (W (x8_1 + 1)))))
  (up (
   cond (decide (1<=(s.size:Int)))
    (some (decide ((s.size:Int)<=32)))
    (some false)))
def F8 (s:ByteArray):Option (Bool):=
 C7 (fun q'=>F8.l1 s q') 0
def Dp (alg:Int) (bits:Int):Option (Ah):=
 some (Ah.mk alg bits)
def E1.l1 (y:Ah) (y_2:Ah) (y_3:Ah) (y_4:Ah) (y_5:Ah) (y_6:Ah) (y_7:Ah) (y_8:Ah) (y_9:Ah) (y_10:Ah) (y_11:Ah) (y_12:Ah) (y_13:Ah) (y_14:Ah) (y_15:Ah) (y_16:Ah) (y_17:Ah) (y_18:Ah) (y_19:Ah) (y_20:Ah) (y_21:Ah) (y_22:Ah) (x114_1:Int) (l_1:List Am):Option (Lp (Int×List Am) ((List Am))):=
 cond (decide (x114_1 < (([(Am.mk 0 (⟨#[114,115,97,45,114,99,52,45,109,100,53]⟩:ByteArray) y y_2 y_14 y_10 1 2),(Am.mk 0 (⟨#[114,115,97,45,114,99,52,45,115,104,97]⟩:ByteArray) y y_2 y_15 y_11 1 3),(Am.mk 0 (⟨#[114,115,97,45,100,101,115,51,45,115,104,97]⟩:ByteArray) y y_2 y_5 y_11 1 3),(Am.mk 0 (⟨#[100,104,101,45,100,115,97,45,100,101,115,51,45,115,104,97]⟩:ByteArray) y_16 y_3 y_5 y_11 1 3),(Am.mk 0 (⟨#[100,104,101,45,114,115,97,45,100,101,115,51,45,115,104,97]⟩:ByteArray) y_17 y_2 y_5 y_11 1 3),(Am.mk 0 (⟨#[114,115,97,45,97,101,115,49,50,56,45,115,104,97]⟩:ByteArray) y y_2 y_6 y_11 1 3),(Am.mk 0 (⟨#[100,104,101,45,114,115,97,45,97,101,115,49,50,56,45,115,104,97]⟩:ByteArray) y_18 y_2 y_6 y_11 1 3),(Am.mk 0 (⟨#[101,99,100,104,101,45,114,115,97,45,97,101,115,49,50,56,45,115,104,97]⟩:ByteArray) y_13 y_2 y_6 y_11 1 3),(Am.mk 0 (⟨#[101,99,100,104,101,45,101,99,100,115,97,45,97,101,115,50,53,54,45,115,104,97,50,53,54]⟩:ByteArray) y_13 y_4 y_19 y_20 3 3),(Am.mk 0 (⟨#[101,99,100,104,101,45,114,115,97,45,97,101,115,49,50,56,45,103,99,109]⟩:ByteArray) y_13 y_2 y_7 y_12 3 3),(Am.mk 0 (⟨#[101,99,100,104,101,45,101,99,100,115,97,45,97,101,115,50,53,54,45,103,99,109]⟩:ByteArray) y_21 y_4 y_8 y_12 3 3),(Am.mk 0 (⟨#[101,99,100,104,101,45,114,115,97,45,99,104,97,99,104,97]⟩:ByteArray) y_13 y_2 y_9 y_12 3 3),(Am.mk 0 (⟨#[114,115,97,45,97,101,115,50,53,54,45,103,99,109]⟩:ByteArray) y y_2 y_8 y_12 3 3),(Am.mk 0 (⟨#[97,101,115,49,50,56,45,103,99,109]⟩:ByteArray) y_13 (Ah.mk 0 0) y_7 y_12 4 4),(Am.mk 0 (⟨#[99,104,97,99,104,97]⟩:ByteArray) y_13 (Ah.mk 0 0) y_9 y_12 4 4),(Am.mk 0 (⟨#[109,108,107,101,109,45,97,101,115,50,53,54,45,103,99,109]⟩:ByteArray) y_22 (Ah.mk 0 0) y_8 y_12 4 4)]:List Am).length:Int)))
  ((Bn l_1 x114_1).bind fun e=>
  some (.next (W (x114_1 + 1),Jd l_1 ((x114_1).toNat) (Am.mk (W (x114_1 + 1)) e.Name e.Exchange e.Sign e.Cipher e.Mac e.Least e.Most))))
  (up (
   some l_1))
def E1:Option ((List Am)):=
 (Dp 10 0).bind fun y=>
 (Dp 5 0).bind fun y_2=>
 (Dp 6 0).bind fun y_3=>
 (Dp 7 0).bind fun y_4=>
 (Dp 15 168).bind fun y_5=>
 (Dp 16 128).bind fun y_6=>
 (Dp 17 128).bind fun y_7=>
 (Dp 17 256).bind fun y_8=>
 (Dp 18 0).bind fun y_9=>
 (Dp 19 0).bind fun y_10=>
 (Dp 20 0).bind fun y_11=>
 (Dp 22 0).bind fun y_12=>
 (Dp 12 256).bind fun y_13=>
 (Dp 14 128).bind fun y_14=>
 (Dp 14 128).bind fun y_15=>
 (Dp 11 1024).bind fun y_16=>
 (Dp 11 1024).bind fun y_17=>
 (Dp 11 2048).bind fun y_18=>
 (Dp 16 256).bind fun y_19=>
 (Dp 21 0).bind fun y_20=>
 (Dp 12 384).bind fun y_21=>
 (Dp 13 768).bind fun y_22=>
 C7 (fun q'=>E1.l1 y y_2 y_3 y_4 y_5 y_6 y_7 y_8 y_9 y_10 y_11 y_12 y_13 y_14 y_15 y_16 y_17 y_18 y_19 y_20 y_21 y_22 q'.1 q'.2) (0,([(Am.mk 0 (⟨#[114,115,97,45,114,99,52,45,109,100,53]⟩:ByteArray) y y_2 y_14 y_10 1 2),(Am.mk 0 (⟨#[114,115,97,45,114,99,52,45,115,104,97]⟩:ByteArray) y y_2 y_15 y_11 1 3),(Am.mk 0 (⟨#[114,115,97,45,100,101,115,51,45,115,104,97]⟩:ByteArray) y y_2 y_5 y_11 1 3),(Am.mk 0 (⟨#[100,104,101,45,100,115,97,45,100,101,115,51,45,115,104,97]⟩:ByteArray) y_16 y_3 y_5 y_11 1 3),(Am.mk 0 (⟨#[100,104,101,45,114,115,97,45,100,101,115,51,45,115,104,97]⟩:ByteArray) y_17 y_2 y_5 y_11 1 3),(Am.mk 0 (⟨#[114,115,97,45,97,101,115,49,50,56,45,115,104,97]⟩:ByteArray) y y_2 y_6 y_11 1 3),(Am.mk 0 (⟨#[100,104,101,45,114,115,97,45,97,101,115,49,50,56,45,115,104,97]⟩:ByteArray) y_18 y_2 y_6 y_11 1 3),(Am.mk 0 (⟨#[101,99,100,104,101,45,114,115,97,45,97,101,115,49,50,56,45,115,104,97]⟩:ByteArray) y_13 y_2 y_6 y_11 1 3),(Am.mk 0 (⟨#[101,99,100,104,101,45,101,99,100,115,97,45,97,101,115,50,53,54,45,115,104,97,50,53,54]⟩:ByteArray) y_13 y_4 y_19 y_20 3 3),(Am.mk 0 (⟨#[101,99,100,104,101,45,114,115,97,45,97,101,115,49,50,56,45,103,99,109]⟩:ByteArray) y_13 y_2 y_7 y_12 3 3),(Am.mk 0 (⟨#[101,99,100,104,101,45,101,99,100,115,97,45,97,101,115,50,53,54,45,103,99,109]⟩:ByteArray) y_21 y_4 y_8 y_12 3 3),(Am.mk 0 (⟨#[101,99,100,104,101,45,114,115,97,45,99,104,97,99,104,97]⟩:ByteArray) y_13 y_2 y_9 y_12 3 3),(Am.mk 0 (⟨#[114,115,97,45,97,101,115,50,53,54,45,103,99,109]⟩:ByteArray) y y_2 y_8 y_12 3 3),(Am.mk 0 (⟨#[97,101,115,49,50,56,45,103,99,109]⟩:ByteArray) y_13 (Ah.mk 0 0) y_7 y_12 4 4),(Am.mk 0 (⟨#[99,104,97,99,104,97]⟩:ByteArray) y_13 (Ah.mk 0 0) y_9 y_12 4 4),(Am.mk 0 (⟨#[109,108,107,101,109,45,97,101,115,50,53,54,45,103,99,109]⟩:ByteArray) y_22 (Ah.mk 0 0) y_8 y_12 4 4)]:List Am))
def Du.j1 (code:Int) (y:(List Am)) (x13_1:Bool):Option (Am×Int):=
 cond (x13_1)
  (some ((Am.mk 0 (⟨#[]⟩:ByteArray) (Ah.mk 0 0) (Ah.mk 0 0) (Ah.mk 0 0) (Ah.mk 0 0) 0 0),8))
  ((Bn y (W (code - 1))).bind fun e=>
  some (e,0))
def Du (code:Int):Option (Am×Int):=
 (E1).bind fun y=>
 cond (decide (code < 1))
  (Du.j1 code y true)
  (Du.j1 code y (decide ((y.length:Int) < code)))
def C0.l1 (s:(List Int)) (v:Int) (x8_1:Int):Option (Lp (Int) (Int)):=
 cond (decide (x8_1 < (s.length:Int)))
  ((Bn s x8_1).bind fun e=>
  cond (decide (v=e))
   (up (some x8_1))
   (some (.next (W (x8_1 + 1)))))
  (up (
   some (-1)))
def C0 (s:(List Int)) (v:Int):Option (Int):=
 C7 (fun q'=>C0.l1 s v q') 0
def Ds (s:(List Int)) (v:Int):Option (Bool):=
 (C0 s v).bind fun y=>
 some (decide (0<=y))
def D5.j2 (x9_1:Int) (x27_2:Bool):Option (Lp (Int) (Bool)):=
 cond (x27_2)
  (up (some false))
  (some (.next (W (x9_1 + 1))))
def D5.l1 (l:(List Int)) (x9_1:Int):Option (Lp (Int) (Bool)):=
 cond (decide (x9_1 < (l.length:Int)))
  ((Bn l x9_1).bind fun e=>
  (Du e).bind fun y=>
  cond (!decide (y.2=0))
   (D5.j2 x9_1 true)
   ((pY l 0 x9_1).bind fun l_2=>
   (Ds l_2 e).bind fun y_2=>
   D5.j2 x9_1 y_2))
  (up (
   some true))
def D5 (l:(List Int)):Option (Bool):=
 C7 (fun q'=>D5.l1 l q') 0
def Dr.j2 (x6_1:Int) (x22_2:Bool):Option (Lp (Int) (Bool)):=
 cond (x22_2)
  (up (some false))
  (some (.next (W (x6_1 + 1))))
def Dr.l1 (l:(List Int)) (x6_1:Int):Option (Lp (Int) (Bool)):=
 cond (decide (x6_1 < (l.length:Int)))
  (cond (decide (0 < x6_1))
   ((Bn l (W (x6_1 - 1))).bind fun e=>
   (Bn l x6_1).bind fun e_2=>
   Dr.j2 x6_1 (decide (e_2<=e)))
   (Dr.j2 x6_1 false))
  (up (
   some true))
def Dr (l:(List Int)):Option (Bool):=
 C7 (fun q'=>Dr.l1 l q') 0
def Tu:Option ((List C9)):=
 some ([(C9.mk (⟨#[]⟩:ByteArray) 0 0 ([]:(List Int)) ([]:(List Int))),(C9.mk (⟨#[109,100,53]⟩:ByteArray) 1 0 ([]:(List Int)) ([18]:List Int)),(C9.mk (⟨#[115,104,97,49]⟩:ByteArray) 1 0 ([]:(List Int)) ([60]:List Int)),(C9.mk (⟨#[115,104,97,50,53,54]⟩:ByteArray) 1 0 ([]:(List Int)) ([128]:List Int)),(C9.mk (⟨#[115,104,97,51,56,52]⟩:ByteArray) 1 0 ([]:(List Int)) ([192]:List Int)),(C9.mk (⟨#[114,115,97]⟩:ByteArray) 2 1 ([]:(List Int)) ([]:(List Int))),(C9.mk (⟨#[100,115,97]⟩:ByteArray) 2 1 ([]:(List Int)) ([]:(List Int))),(C9.mk (⟨#[101,99,100,115,97]⟩:ByteArray) 2 2 ([]:(List Int)) ([]:(List Int))),(C9.mk (⟨#[101,100,50,53,53,49,57]⟩:ByteArray) 2 0 ([]:(List Int)) ([128]:List Int)),(C9.mk (⟨#[109,108,100,115,97]⟩:ByteArray) 2 3 ([44,65,87]:List Int) ([128,192,256]:List Int)),(C9.mk (⟨#[114,115,97,107,120]⟩:ByteArray) 3 1 ([]:(List Int)) ([]:(List Int))),(C9.mk (⟨#[100,104,101]⟩:ByteArray) 3 1 ([]:(List Int)) ([]:(List Int))),(C9.mk (⟨#[101,99,100,104,101]⟩:ByteArray) 3 2 ([]:(List Int)) ([]:(List Int))),(C9.mk (⟨#[109,108,107,101,109]⟩:ByteArray) 3 3 ([512,768,1024]:List Int) ([128,192,256]:List Int)),(C9.mk (⟨#[114,99,52]⟩:ByteArray) 4 3 ([40,128]:List Int) ([40,60]:List Int)),(C9.mk (⟨#[100,101,115,51]⟩:ByteArray) 4 3 ([112,168]:List Int) ([80,112]:List Int)),(C9.mk (⟨#[97,101,115,99,98,99]⟩:ByteArray) 4 3 ([128,256]:List Int) ([128,256]:List Int)),(C9.mk (⟨#[97,101,115,103,99,109]⟩:ByteArray) 4 3 ([128,256]:List Int) ([128,256]:List Int)),(C9.mk (⟨#[99,104,97,99,104,97]⟩:ByteArray) 4 0 ([]:(List Int)) ([256]:List Int)),(C9.mk (⟨#[104,109,97,99,109,100,53]⟩:ByteArray) 5 0 ([]:(List Int)) ([64]:List Int)),(C9.mk (⟨#[104,109,97,99,115,104,97,49]⟩:ByteArray) 5 0 ([]:(List Int)) ([80]:List Int)),(C9.mk (⟨#[104,109,97,99,115,104,97,50,53,54]⟩:ByteArray) 5 0 ([]:(List Int)) ([128]:List Int)),(C9.mk (⟨#[97,101,97,100]⟩:ByteArray) 5 0 ([]:(List Int)) ([256]:List Int))]:List C9)
def Gr.j1 (alg:Int) (x9_1:Bool):Option (C9×Bool):=
 cond (x9_1)
  (some ((C9.mk (⟨#[]⟩:ByteArray) 0 0 ([]:(List Int)) ([]:(List Int))),false))
  ((Tu).bind fun y=>
  (Bn (aTq 23 y) alg).bind fun e=>
  some (e,true))
def Gr (alg:Int):Option (C9×Bool):=
 cond (decide (alg < 1))
  (Gr.j1 alg true)
  (Gr.j1 alg (decide (22 < alg)))
def E0.l1 (bits:Int) (x11_1:Int):Option (Lp (Int) (Int)):=
 cond (decide (x11_1 < 5))
  ((Bn ([([1024,56]:List Int),([2048,80]:List Int),([3072,112]:List Int),([7680,128]:List Int),([15360,192]:List Int)]:List (List Int)) x11_1).bind fun e=>
  cond (decide (bits < (e[0]!)))
   (up (some (e[1]!)))
   (some (.next (W (x11_1 + 1)))))
  (up (
   some 256))
def E0 (bits:Int):Option (Int):=
 C7 (fun q'=>E0.l1 bits q') 0
def A6.j1 (u:Ah) (x34_1:Bool):Option (Int):=
 cond (x34_1)
  ((E0 u.Bits).bind fun y_2=>
  some y_2)
  (some 0)
def A6 (u:Ah):Option (Int):=
 (Gr u.Alg).bind fun y=>
 cond (!y.2)
  (some 0)
  (cond (decide (y.1.way=0))
   (cond (decide (u.Bits=0))
    ((Bn y.1.strengths 0).bind fun e=>
    some e)
    (some 0))
   (cond (decide (y.1.way=1))
    (cond (decide (512<=u.Bits))
     (A6.j1 u (decide (u.Bits<=16384)))
     (A6.j1 u false))
    (cond (decide (y.1.way=2))
     ((Ds ([160,224,256,384,521]:List Int) u.Bits).bind fun y_3=>
     cond (y_3)
      ((cD u.Bits 2).bind fun q=>
      some q)
      (some 0))
     (cond (decide (y.1.way=3))
      ((C0 y.1.sizes u.Bits).bind fun y_4=>
      cond (decide (0<=y_4))
       ((Bn y.1.strengths y_4).bind fun e_2=>
       some e_2)
       (some 0))
      (some 0)))))
def Gx (u:Ah):Option (Bool):=
 (A6 u).bind fun y=>
 some (decide (0 < y))
def Kw (alg:Int):Option (Int):=
 (Gr alg).bind fun y=>
 some y.1.kind
def Gn (n:Int):Option (Bool):=
 cond (decide (0<=n))
  (some (decide (n<=2147483648)))
  (some false)
def Dm.j2 (x8_1:Int) (x17_2:Bool):Option (Lp (Int) (Bool)):=
 cond (x17_2)
  (up (some false))
  (some (.next (W (x8_1 + 1))))
def Dm.l1 (s:ByteArray) (x8_1:Int):Option (Lp (Int) (Bool)):=
 cond (decide (x8_1 < ((Q2 s).length:Int)))
  ((Bn (Q2 s) x8_1).bind fun e=>
  cond (decide ((e.toNat:Int)<=32))
   (Dm.j2 x8_1 true)
   (Dm.j2 x8_1 (decide (126 < (e.toNat:Int)))))
  (up (
   cond (decide (1<=(s.size:Int)))
    (some (decide ((s.size:Int)<=32)))
    (some false)))
def Dm (s:ByteArray):Option (Bool):=
 C7 (fun q'=>Dm.l1 s q') 0
def Dd.j2 (x7_1:Int) (x27_2:Bool):Option (Lp (Int) (Bool)):=
 cond (x27_2)
  (up (some false))
  (some (.next (W (x7_1 + 1))))
def Dd.l1 (l:(List ByteArray)) (x7_1:Int):Option (Lp (Int) (Bool)):=
 cond (decide (x7_1 < (l.length:Int)))
  ((Bn l x7_1).bind fun e=>
  (Dm e).bind fun y=>
  cond (!y)
   (Dd.j2 x7_1 true)
   (cond (decide (0 < x7_1))
    ((Bn l (W (x7_1 - 1))).bind fun e_2=>
    Dd.j2 x7_1 (!tP (Q2 e_2) (Q2 e)))
    (Dd.j2 x7_1 false)))
  (up (
   some (decide ((l.length:Int)<=8))))
def Dd (l:(List ByteArray)):Option (Bool):=
 C7 (fun q'=>Dd.l1 l q') 0
def Km (u:Ah) (kind:Int):Option (Bool):=
 (Gx u).bind fun y=>
 cond (y)
  ((Kw u.Alg).bind fun y_2=>
  some (decide (y_2=kind)))
  (some false)
def Lc (n:Int):Option (Bool):=
 cond (decide (0<=n))
  (some (decide (n < 4294967296)))
  (some false)
def Bj.j3 (c:Ab) (x73_3:Bool):Option (Bool):=
 cond (x73_3)
  (some false)
  (cond (decide (0<=c.Path))
   (cond (decide (c.Path<=8))
    (cond (c.Authority)
     (some true)
     (some (decide (c.Path=0))))
    (some false))
   (some false))
def Bj.j2 (c:Ab) (x58_2:Bool):Option (Bool):=
 cond (x58_2)
  (some false)
  (cond (decide (c.From < 0))
   (Bj.j3 c true)
   (cond (decide (c.To < c.From))
    (Bj.j3 c true)
    (Bj.j3 c (decide (40000 < c.To)))))
def Bj.j1 (c:Ab) (x28_1:Bool):Option (Bool):=
 cond (x28_1)
  (some false)
  ((Km c.Key 2).bind fun y_4=>
  cond (!y_4)
   (Bj.j2 c true)
   ((Gn c.KeyId).bind fun y_5=>
   cond (!y_5)
    (Bj.j2 c true)
    ((Km c.Hash 1).bind fun y_6=>
    cond (!y_6)
     (Bj.j2 c true)
     ((Gn c.Seal.Key).bind fun y_7=>
     cond (!y_7)
      (Bj.j2 c true)
      ((Lc c.Seal.Sum).bind fun y_8=>
      Bj.j2 c (!y_8))))))
def Bj (c:Ab):Option (Bool):=
 cond (decide (c.Serial < 0))
  (Bj.j1 c true)
  (cond (decide (1099511627776 < c.Serial))
   (Bj.j1 c true)
   ((Dm c.Issuer).bind fun y=>
   cond (!y)
    (Bj.j1 c true)
    ((Dm c.Subject).bind fun y_2=>
    cond (!y_2)
     (Bj.j1 c true)
     ((Dd c.Names).bind fun y_3=>
     Bj.j1 c (!y_3)))))
def Gz (c:Ab):Option (Int):=
 (Bj c).bind fun y=>
 cond (!y)
  (some 9)
  (some 0)
def Dj.l2 (key:Ah) (id:Int) (l:(List Ab)) (x30_2:Int):Option (Lp (Int) (Bool)):=
 cond (decide (x30_2 < (l.length:Int)))
  ((Bn l x30_2).bind fun e=>
  (Gz e).bind fun y_4=>
  cond (!decide (y_4=0))
   (up (some false))
   (some (.next (W (x30_2 + 1)))))
  (up (
   cond (decide ((l.length:Int)=0))
    (some true)
    ((Bn l 0).bind fun e_2=>
    cond (decide (e_2.Key=key))
     (some (decide (e_2.KeyId=id)))
     (some false))))
def Dj.j1 (key:Ah) (id:Int) (l:(List Ab)) (x27_1:Bool):Option (Bool):=
 cond (x27_1)
  (some false)
  (C7 (fun q'=>Dj.l2 key id l q') 0)
def Dj (key:Ah) (id:Int) (l:(List Ab)):Option (Bool):=
 (Gx key).bind fun y=>
 cond (!y)
  (Dj.j1 key id l true)
  ((Kw key.Alg).bind fun y_2=>
  cond (!decide (y_2=2))
   (Dj.j1 key id l true)
   ((Gn id).bind fun y_3=>
   cond (!y_3)
    (Dj.j1 key id l true)
    (Dj.j1 key id l (decide (8 < (l.length:Int))))))
def Lr:Option (Unit):=
 some ()
def Ig (n:Int):Option (Bool):=
 (Gn n).bind fun y=>
 some (!y)
def Ln:Option (Unit):=
 some ()
def Na (alg:Int):Option (Bool):=
 (Kw alg).bind fun y=>
 some (decide (y=1))
def Ii (n:Int):Option (Bool):=
 (Na n).bind fun y=>
 some (!y)
def Bu.j4 (x82_4:Bool):Option (Int):=
 cond (x82_4)
  (some 19)
  (some 0)
def Bu.l3 (e:Ad) (x58_3:Int):Option (Lp (Int) (Int)):=
 cond (decide (x58_3 < (e.Identities.length:Int)))
  ((Bn e.Identities x58_3).bind fun e_2=>
  (Dj e_2.Key e_2.KeyId e_2.Chain).bind fun y_5=>
  cond (!y_5)
   (up (some 19))
   (some (.next (W (x58_3 + 1)))))
  (up (
   (Lr).bind fun y_6=>
   (Cs e.Anchors (fun x0=>Ig x0)).bind fun y_7=>
   cond (y_7)
    (Bu.j4 true)
    ((Ln).bind fun y_8=>
    (Cs e.Hashes (fun x0=>Ii x0)).bind fun y_9=>
    Bu.j4 y_9)))
def Bu.j2 (e:Ad) (x54_2:Bool):Option (Int):=
 cond (x54_2)
  (some 19)
  (C7 (fun q'=>Bu.l3 e q') 0)
def Bu.j1 (e:Ad) (x32_1:Bool):Option (Int):=
 cond (x32_1)
  (some 19)
  (cond (decide (4 < (e.Identities.length:Int)))
   (Bu.j2 e true)
   (cond (decide (16 < (e.Anchors.length:Int)))
    (Bu.j2 e true)
    ((Dr e.Anchors).bind fun y_3=>
    cond (!y_3)
     (Bu.j2 e true)
     ((Dr e.Hashes).bind fun y_4=>
     Bu.j2 e (!y_4)))))
def Bu (e:Ad):Option (Int):=
 (F8 e.Name).bind fun y=>
 cond (!y)
  (Bu.j1 e true)
  (cond (decide (e.Least < 1))
   (Bu.j1 e true)
   (cond (decide (e.Most < e.Least))
    (Bu.j1 e true)
    (cond (decide (4 < e.Most))
     (Bu.j1 e true)
     ((D5 e.Suites).bind fun y_2=>
     Bu.j1 e (!y_2)))))
def A9.j4 (x47_3:Int) (x81_4:Bool):Option (Lp (Int) (Int)):=
 cond (x81_4)
  (up (some 30))
  (some (.next (W (x47_3 + 1))))
def A9.j5 (x95_5:Bool):Option (Int):=
 cond (x95_5)
  (some 30)
  (some 0)
def A9.l3 (i:Aq) (x47_3:Int):Option (Lp (Int) (Int)):=
 cond (decide (x47_3 < (i.Links.length:Int)))
  ((Bn i.Links x47_3).bind fun e=>
  (Gx e.Use).bind fun y_2=>
  cond (!y_2)
   (A9.j4 x47_3 true)
   (cond (decide (e.Day < 0))
    (A9.j4 x47_3 true)
    (cond (decide (40000 < e.Day))
     (A9.j4 x47_3 true)
     (cond (decide (0 < x47_3))
      ((Bn i.Links (W (x47_3 - 1))).bind fun e_2=>
      A9.j4 x47_3 (decide (e.Day<=e_2.Day)))
      (A9.j4 x47_3 false)))))
  (up (
   (Bn i.Links 0).bind fun e_3=>
   cond (decide (i.Until < e_3.Day))
    (A9.j5 true)
    (A9.j5 (decide (40000 < i.Until)))))
def A9.j2 (i:Aq) (x43_2:Bool):Option (Int):=
 cond (x43_2)
  (some 30)
  (C7 (fun q'=>A9.l3 i q') 0)
def A9.j1 (i:Aq) (known_1:Bool):Option (Int):=
 (Dm i.Name).bind fun y=>
 cond (!y)
  (A9.j2 i true)
  (cond (!known_1)
   (A9.j2 i true)
   (cond (decide (i.Purpose < 1))
    (A9.j2 i true)
    (cond (decide (4 < i.Purpose))
     (A9.j2 i true)
     (cond (decide ((i.Links.length:Int) < 1))
      (A9.j2 i true)
      (A9.j2 i (decide (8 < (i.Links.length:Int))))))))
def A9 (i:Aq):Option (Int):=
 cond (decide (i.Kind=1))
  (A9.j1 i true)
  (A9.j1 i (decide (i.Kind=2)))
def Ho (x':Aq):Option (Bool):=
 (A9 x').bind fun y=>
 some (!decide (y=0))
def B6.l1 (s:(List Aq)) (f:Aq->Option (Bool)) (x8_1:Int):Option (Lp (Int) (Int)):=
 cond (decide (x8_1 < (s.length:Int)))
  ((Bn s x8_1).bind fun e=>
  (f e).bind fun y=>
  cond (y)
   (up (some x8_1))
   (some (.next (W (x8_1 + 1)))))
  (up (
   some (-1)))
def B6 (s:(List Aq)) (f:Aq->Option (Bool)):Option (Int):=
 C7 (fun q'=>B6.l1 s f q') 0
def Gg (s:(List Aq)) (f:Aq->Option (Bool)):Option (Bool):=
 (B6 s f).bind fun y=>
 some (decide (0<=y))
def B8.j3 (x9_1:Int) (x75_3:Bool):Option (Lp (Int) (Bool)):=
 cond (x75_3)
  (up (some false))
  (some (.next (W (x9_1 + 1))))
def B8.j2 (l:(List Bi)) (x9_1:Int) (e:Bi) (x40_2:Bool):Option (Lp (Int) (Bool)):=
 cond (x40_2)
  (up (some false))
  (cond (decide (0 < x9_1))
   ((Bn l (W (x9_1 - 1))).bind fun e_2=>
   cond (decide (e.Client < e_2.Client))
    (B8.j3 x9_1 true)
    (cond (decide (e_2.Client=e.Client))
     (B8.j3 x9_1 (decide (e.Server<=e_2.Server)))
     (B8.j3 x9_1 false)))
   (B8.j3 x9_1 false))
def B8.l1 (l:(List Bi)) (size:Int) (x9_1:Int):Option (Lp (Int) (Bool)):=
 cond (decide (x9_1 < (l.length:Int)))
  ((Bn l x9_1).bind fun e=>
  cond (decide (e.Client < 0))
   (B8.j2 l x9_1 e true)
   (cond (decide (size<=e.Client))
    (B8.j2 l x9_1 e true)
    (cond (decide (e.Server < 0))
     (B8.j2 l x9_1 e true)
     (cond (decide (size<=e.Server))
      (B8.j2 l x9_1 e true)
      (B8.j2 l x9_1 e (decide (e.Client=e.Server)))))))
  (up (
   some (decide ((l.length:Int)<=40))))
def B8 (l:(List Bi)) (size:Int):Option (Bool):=
 C7 (fun q'=>B8.l1 l size q') 0
def Cp.j2 (x9_1:Int) (x32_2:Bool):Option (Lp (Int) (Int)):=
 cond (x32_2)
  (up (some 31))
  (some (.next (W (x9_1 + 1))))
def Cp.j3 (x58_3:Bool):Option (Int):=
 cond (x58_3)
  (some 31)
  (some 0)
def Cp.l1 (e:Ak) (x9_1:Int):Option (Lp (Int) (Int)):=
 cond (decide (x9_1 < (e.Endpoints.length:Int)))
  ((Bn e.Endpoints x9_1).bind fun e_2=>
  (Bu e_2).bind fun y=>
  cond (!decide (y=0))
   (Cp.j2 x9_1 true)
   (cond (decide (0 < x9_1))
    ((Bn e.Endpoints (W (x9_1 - 1))).bind fun e_3=>
    Cp.j2 x9_1 (!tP (Q2 e_3.Name) (Q2 e_2.Name)))
    (Cp.j2 x9_1 false)))
  (up (
   (Gg e.Items (fun x0=>Ho x0)).bind fun y_2=>
   cond (y_2)
    (Cp.j3 true)
    (cond (decide (16 < (e.Endpoints.length:Int)))
     (Cp.j3 true)
     (cond (decide (30 < (e.Items.length:Int)))
      (Cp.j3 true)
      ((B8 e.Edges (e.Endpoints.length:Int)).bind fun y_3=>
      Cp.j3 (!y_3))))))
def Cp (e:Ak):Option (Int):=
 C7 (fun q'=>Cp.l1 e q') 0
def Qx (r':Al):Option (Bool):=
 cond (decide (0<=r'.Alg))
  (cond (decide (r'.Alg<=22))
   (cond (decide (0<=r'.Below))
    (cond (decide (r'.Below<=16384))
     (cond (decide (0<=r'.Purpose))
      (cond (decide (r'.Purpose<=4))
       (cond (decide (0<=r'.From))
        (cond (decide (r'.From < r'.To))
         (some (decide (r'.To<=40001)))
         (some false))
        (some false))
       (some false))
      (some false))
     (some false))
    (some false))
   (some false))
  (some false)
def I4 (r':Al):Option (Bool):=
 (Qx r').bind fun y=>
 some (!y)
def Co.l1 (s:(List Al)) (f:Al->Option (Bool)) (x8_1:Int):Option (Lp (Int) (Int)):=
 cond (decide (x8_1 < (s.length:Int)))
  ((Bn s x8_1).bind fun e=>
  (f e).bind fun y=>
  cond (y)
   (up (some x8_1))
   (some (.next (W (x8_1 + 1)))))
  (up (
   some (-1)))
def Co (s:(List Al)) (f:Al->Option (Bool)):Option (Int):=
 C7 (fun q'=>Co.l1 s f q') 0
def Gf (s:(List Al)) (f:Al->Option (Bool)):Option (Bool):=
 (Co s f).bind fun y=>
 some (decide (0<=y))
def R1 (k:Bk):Option (Bool):=
 cond (decide (1<=k.Purpose))
  (cond (decide (k.Purpose<=4))
   (cond (decide (0<=k.Days))
    (some (decide (k.Days<=40000)))
    (some false))
   (some false))
  (some false)
def I6 (k:Bk):Option (Bool):=
 (R1 k).bind fun y=>
 some (!y)
def Cm.l1 (s:(List Bk)) (f:Bk->Option (Bool)) (x8_1:Int):Option (Lp (Int) (Int)):=
 cond (decide (x8_1 < (s.length:Int)))
  ((Bn s x8_1).bind fun e=>
  (f e).bind fun y=>
  cond (y)
   (up (some x8_1))
   (some (.next (W (x8_1 + 1)))))
  (up (
   some (-1)))
def Cm (s:(List Bk)) (f:Bk->Option (Bool)):Option (Int):=
 C7 (fun q'=>Cm.l1 s f q') 0
def Gi (s:(List Bk)) (f:Bk->Option (Bool)):Option (Bool):=
 (Cm s f).bind fun y=>
 some (decide (0<=y))
def Eg.j2 (x24_2:Bool):Option (Int):=
 cond (x24_2)
  (some 25)
  (some 0)
def Eg.j1 (p:Br) (wrong_1:Bool):Option (Int):=
 cond (wrong_1)
  (Eg.j2 true)
  (cond (decide (60 < (p.Rules.length:Int)))
   (Eg.j2 true)
   (Eg.j2 (decide (60 < (p.Keeps.length:Int)))))
def Eg (p:Br):Option (Int):=
 (Gf p.Rules (fun x0=>I4 x0)).bind fun y=>
 cond (y)
  (Eg.j1 p true)
  ((Gi p.Keeps (fun x0=>I6 x0)).bind fun y_2=>
  Eg.j1 p y_2)
def N9 (e:Ak) (p:Br):Option (Int):=
 (Cp e).bind fun y=>
 cond (!decide (y=0))
  (some 31)
  ((Eg p).bind fun y_2=>
  cond (!decide (y_2=0))
   (some 25)
   (some 0))
def Ej.j1 (x19_1:Bool):Option (Int):=
 cond (x19_1)
  (some 2)
  (some 0)
def Ej (p:Br) (u:Ah) (purpose:Int) (day:Int):Option (Int):=
 (Eg p).bind fun y=>
 cond (!decide (y=0))
  (some y)
  ((Gx u).bind fun y_2=>
  cond (!y_2)
   (some 7)
   (cond (decide (purpose < 1))
    (Ej.j1 true)
    (cond (decide (4 < purpose))
     (Ej.j1 true)
     (cond (decide (day < 0))
      (Ej.j1 true)
      (Ej.j1 (decide (40000 < day)))))))
def Tc (x':Int) (y:Int):Option (Bool):=
 (H5 x').bind fun y_2=>
 cond (y_2)
  ((H5 y).bind fun y_3=>
  cond (!y_3)
   (some true)
   (some (decide (x' < y))))
  (some (decide (x' < y)))
def Bc.j3 (i_1:Int) (j_2:Int) (data_2:List Int) (x30_3:Bool):Option (Lp (Int×List Int) (Lp (Int×List Int) ((List Int)))):=
 cond (x30_3)
  ((Bn data_2 (W (j_2 - 1))).bind fun e_3=>
  (Bn data_2 j_2).bind fun e_4=>
  (Bn (Jd data_2 ((j_2).toNat) e_3) (W (j_2 - 1))).bind fun e_5=>
  some (.next (W (j_2 - 1),Jd (Jd data_2 ((j_2).toNat) e_3) ((W (j_2 - 1)).toNat) e_4)))
  (up (
   some (.next (W (i_1 + 1),data_2))))
def Bc.l2 (a:Int) (i_1:Int) (j_2:Int) (data_2:List Int):Option (Lp (Int×List Int) (Lp (Int×List Int) ((List Int)))):=
 cond (decide (a < j_2))
  ((Bn data_2 j_2).bind fun e=>
  (Bn data_2 (W (j_2 - 1))).bind fun e_2=>
  (Tc e e_2).bind fun y=>
  Bc.j3 i_1 j_2 data_2 y)
  (Bc.j3 i_1 j_2 data_2 false)
def Bc.l1 (a:Int) (b:Int) (i_1:Int) (data_1:List Int):Option (Lp (Int×List Int) ((List Int))):=
 cond (decide (i_1 < b))
  (C7 (fun q'=>Bc.l2 a i_1 q'.1 q'.2) (i_1,data_1))
  (up (some data_1))
def Bc (data:List Int) (a:Int) (b:Int):Option ((List Int)):=
 C7 (fun q'=>Bc.l1 a b q'.1 q'.2) (W (a + 1),data)
def Eh.l1 (data:List Int) (a:Int) (b:Int) (limit:Int):Option (Lp (Unit) ((List Int))):=
 cond (decide ((W (b - a))<=12))
  ((Bc data a b).bind fun y=>
  up (some y))
  (cond (decide (limit=0))
   (none)
   (none))
def Eh (data:List Int) (a:Int) (b:Int) (limit:Int):Option ((List Int)):=
 C7 (fun _=>Eh.l1 data a b limit) ()
def Jt (x':List Int):Option ((List Int)):=
 (Hf (IntKind.wrap .u64 (x'.length:Int))).bind fun y=>
 (Eh x' 0 (x'.length:Int) y).bind fun y_2=>
 some y_2
def Cl.j3 (k2_2:Int) (k_3:Int) (s_3:List Int):Option (Lp (Int×Int×List Int) (Lp (Int) ((List Int)))):=
 some (.next (k_3,W (k2_2 + 1),s_3))
def Cl.l2 (s:List Int) (k_1:Int) (k_2:Int) (k2_2:Int) (s_2:List Int):Option (Lp (Int×Int×List Int) (Lp (Int) ((List Int)))):=
 cond (decide (k2_2 < (((((s.length:Int):Int).toNat - (k_1:Int).toNat):Nat):Int)))
  ((Bn ((s_2.drop ((k_1:Int).toNat)).take (((s.length:Int):Int).toNat - (k_1:Int).toNat)) k2_2).bind fun e_3=>
  (Bn ((s_2.drop ((k_1:Int).toNat)).take (((s.length:Int):Int).toNat - (k_1:Int).toNat)) (W (k2_2 - 1))).bind fun e_4=>
  cond (!decide (e_3=e_4))
   ((Bn s_2 k_2).bind fun e_5=>
   Cl.j3 k2_2 (W (k_2 + 1)) (Jd s_2 ((k_2).toNat) e_3))
   (Cl.j3 k2_2 k_2 s_2))
  (up (
   (pY s_2 k_2 (s_2.length:Int)).bind fun l_2=>
   (aIk s_2 ((k_2:Int).toNat) (((s_2.length:Int):Int).toNat - (k_2:Int).toNat) (0:Int)).bind fun l_3=>
   (pY l_3 0 k_2).bind fun l_4=>
   up (some (l_3.take ((k_2:Int).toNat - (0:Int).toNat)))))
def Cl.l1 (s:List Int) (k_1:Int):Option (Lp (Int) ((List Int))):=
 cond (decide (k_1 < (s.length:Int)))
  ((Bn s k_1).bind fun e=>
  (Bn s (W (k_1 - 1))).bind fun e_2=>
  cond (decide (e=e_2))
   ((pY s k_1 (s.length:Int)).bind fun l=>
   C7 (fun q'=>Cl.l2 s k_1 q'.1 q'.2.1 q'.2.2) (k_1,1,s))
   (some (.next (W (k_1 + 1)))))
  (up (
   some s))
def Cl (s:List Int):Option ((List Int)):=
 cond (decide ((s.length:Int) < 2))
  (some s)
  (C7 (fun q'=>Cl.l1 s q') 1)
def Jj.l1 (p:Br) (x10_1:Int) (out_1:List Int):Option (Lp (Int×List Int) ((List Int))):=
 cond (decide (x10_1 < (p.Rules.length:Int)))
  ((Bn p.Rules x10_1).bind fun e=>
  (Hc 8 out_1 ([e.From,e.To]:List Int)).bind fun l=>
  some (.next (W (x10_1 + 1),l)))
  (up (
   (Hc 8 out_1 ([40001]:List Int)).bind fun l_2=>
   (Jt l_2).bind fun y=>
   (Cl y).bind fun y_2=>
   some y_2))
def Jj (p:Br):Option ((List Int)):=
 C7 (fun q'=>Jj.l1 p q'.1 q'.2) (0,([0]:List Int))
def Ix (s:(List Al)):Option ((List Al)):=
 some s
def Eo.j1 (r':Al) (u:Ah) (x27_1:Bool):Option (Bool):=
 cond (x27_1)
  (some false)
  (cond (decide (r'.Below=0))
   (some true)
   (cond (decide (0 < u.Bits))
    (some (decide (u.Bits < r'.Below)))
    (some false)))
def Eo (r':Al) (u:Ah) (purpose:Int):Option (Bool):=
 cond (!decide (r'.Alg=0))
  (cond (!decide (r'.Alg=u.Alg))
   (Eo.j1 r' u true)
   (cond (!decide (r'.Purpose=0))
    (Eo.j1 r' u (!decide (r'.Purpose=purpose)))
    (Eo.j1 r' u false)))
  (cond (!decide (r'.Purpose=0))
   (Eo.j1 r' u (!decide (r'.Purpose=purpose)))
   (Eo.j1 r' u false))
def A7.l1 {S:Type} (yield':Int->Al->(Nat×S)->Option (Bool×(Nat×S))) (c0:(List Al)) (i_1:Int) (q_1:(Nat×S)):Option (Lp (Int×(Nat×S)) ((Nat×S))):=
 cond (decide (0<=i_1))
  ((Bn c0 i_1).bind fun e=>
  (yield' i_1 e q_1).bind fun y=>
  cond (!y.1)
   (up (some y.2))
   (some (.next (W (i_1 - 1),y.2))))
  (up (some q_1))
def A7 {S:Type} (yield':Int->Al->(Nat×S)->Option (Bool×(Nat×S))) (c0:(List Al)) (q:(Nat×S)):Option ((Nat×S)):=
 C7 (fun q'=>A7.l1 yield' c0 q'.1 q'.2) (W ((c0.length:Int) - 1),q)
def C5.j2 (b_1:Int) (a:Int) (x31_2:Bool):Option (Nat×(Int)):=
 cond (x31_2)
  (some (1,a))
  (some (0,b_1))
def C5.r1 (u:Ah) (purpose:Int) (day:Int) (a:Int) (a_2:Al) (b_1:Int):Option (Nat×(Int)):=
 (Eo a_2 u purpose).bind fun y_2=>
 cond (y_2)
  (cond (decide (a_2.From<=day))
   (C5.j2 b_1 a (decide (day < a_2.To)))
   (C5.j2 b_1 a false))
  (C5.j2 b_1 a false)
def C5 (p:Br) (u:Ah) (purpose:Int) (day:Int):Option (Int):=
 (Ix p.Rules).bind fun y=>
 (A7 (fun a0' a1' q'=>tO (fun s'=>C5.r1 u purpose day a0' a1' s') q') y (0,0)).bind fun y_3=>
 cond (Nat.beq y_3.1 0)
  (some (-1))
  (cond (Nat.beq y_3.1 1)
   (some y_3.2)
   (none))
def I0 (p:Br) (u:Ah) (purpose:Int) (day:Int):Option (Bool):=
 (C5 p u purpose day).bind fun y=>
 cond (decide (y < 0))
  (some true)
  ((Bn p.Rules y).bind fun e=>
  some e.Allow)
def Ch.j3 (x18_1:Int) (out_3:List Bh):Option (Lp (Int×List Bh) ((List Bh))):=
 some (.next (W (x18_1 + 1),out_3))
def Ch.j2 (x18_1:Int) (out_1:List Bh) (e:Int) (e_2:Int) (x49_2:Bool):Option (Lp (Int×List Bh) ((List Bh))):=
 cond (x49_2)
  ((Bn out_1 (W ((out_1.length:Int) - 1))).bind fun e_4=>
  Ch.j3 x18_1 (Jd out_1 ((W ((out_1.length:Int) - 1)).toNat) (Bh.mk e_4.From e_2)))
  ((Hc 32 out_1 ([(Bh.mk e e_2)]:List Bh)).bind fun l=>
  Ch.j3 x18_1 l)
def Ch.l1 (p:Br) (u:Ah) (purpose:Int) (y:(List Int)) (x18_1:Int) (out_1:List Bh):Option (Lp (Int×List Bh) ((List Bh))):=
 cond (decide (x18_1 < (W ((y.length:Int) - 1))))
  ((Bn y x18_1).bind fun e=>
  (Bn y (W (x18_1 + 1))).bind fun e_2=>
  (I0 p u purpose e).bind fun y_2=>
  cond (!y_2)
   (Ch.j3 x18_1 out_1)
   (cond (decide (0 < (out_1.length:Int)))
    ((Bn out_1 (W ((out_1.length:Int) - 1))).bind fun e_3=>
    Ch.j2 x18_1 out_1 e e_2 (decide (e_3.To=e)))
    (Ch.j2 x18_1 out_1 e e_2 false)))
  (up (
   some out_1))
def Ch (p:Br) (u:Ah) (purpose:Int):Option ((List Bh)):=
 (Jj p).bind fun y=>
 C7 (fun q'=>Ch.l1 p u purpose y q'.1 q'.2) (0,([]:List Bh))
def I5 (p:Br) (u:Ah) (purpose:Int):Option (Int×Bool×Int):=
 (Ej p u purpose 0).bind fun y=>
 cond (!decide (y=0))
  (some (0,false,y))
  ((Ch p u purpose).bind fun y_2=>
  cond (decide ((y_2.length:Int)=0))
   (some (0,true,0))
   ((Bn y_2 (W ((y_2.length:Int) - 1))).bind fun e=>
   cond (decide (e.To=40001))
    (some (0,false,0))
    (some (e.To,true,0))))
def F1.l1 (p:Br) (i:Aq) (x27_1:Int) (l_1:List Bd):Option (Lp (Int×List Bd) (Cd×Int)):=
 cond (decide (x27_1 < (i.Links.length:Int)))
  ((Bn i.Links x27_1).bind fun e=>
  (I5 p e.Use i.Purpose).bind fun y_3=>
  cond (!decide (y_3.2.2=0))
   (up (some (Cd.nil,y_3.2.2)))
   ((Hc 72 l_1 ([(Bd.mk e.Day y_3.1 y_3.2.1)]:List Bd)).bind fun l=>
   some (.next (W (x27_1 + 1),l))))
  (up (
   cond (decide (i.Kind=1))
    (some ((Cd.c235 l_1),0))
    (some ((Cd.c236 l_1),0))))
def F1 (p:Br) (i:Aq):Option (Cd×Int):=
 (Eg p).bind fun y=>
 cond (!decide (y=0))
  (some (Cd.nil,y))
  ((A9 i).bind fun y_2=>
  cond (!decide (y_2=0))
   (some (Cd.nil,y_2))
   (C7 (fun q'=>F1.l1 p i q'.1 q'.2) (0,([]:List Bd))))
def Ia (x':Bd):Option (Int×Bool):=
 some (max x'.day x'.fall,x'.falls)
def Bt.j3 (x12_1:Int) (first_3:Int) (some_3:Bool):Option (Lp (Int×Bool×Int) (Int×Bool)):=
 some (.next (first_3,some_3,W (x12_1 + 1)))
def Bt.j2 (first_1:Int) (some_1:Bool) (x12_1:Int) (y:Int×Bool) (x30_2:Bool):Option (Lp (Int×Bool×Int) (Int×Bool)):=
 cond (x30_2)
  (Bt.j3 x12_1 y.1 true)
  (Bt.j3 x12_1 first_1 some_1)
def Bt.l1 (s:(List Bd)) (first_1:Int) (some_1:Bool) (x12_1:Int):Option (Lp (Int×Bool×Int) (Int×Bool)):=
 cond (decide (x12_1 < (s.length:Int)))
  ((Bn s x12_1).bind fun e=>
  (Ia e).bind fun y=>
  cond (y.2)
   (cond (!some_1)
    (Bt.j2 first_1 some_1 x12_1 y true)
    (Bt.j2 first_1 some_1 x12_1 y (decide (y.1 < first_1))))
   (Bt.j2 first_1 some_1 x12_1 y false))
  (up (
   some (first_1,some_1)))
def Bt (s:(List Bd)):Option (Int×Bool):=
 C7 (fun q'=>Bt.l1 s q'.1 q'.2.1 q'.2.2) (0,false,0)
def Cr.j2 (n_1:Int) (x30_2:Bool):Option (Lp (Int) (Int)):=
 cond (x30_2)
  (some (.next (W (n_1 + 1))))
  (up (
   some n_1))
def Cr.l1 (s:(List Bd)) (n_1:Int):Option (Lp (Int) (Int)):=
 cond (decide (n_1 < (s.length:Int)))
  ((Bn s (W (n_1 - 1))).bind fun e=>
  cond (!e.falls)
   (Cr.j2 n_1 true)
   ((Bn s n_1).bind fun e_2=>
   Cr.j2 n_1 (decide (e_2.day < e.fall))))
  (Cr.j2 n_1 false)
def Cr (s:(List Bd)):Option (Int):=
 C7 (fun q'=>Cr.l1 s q') 1
def Fz (s:(List Bd)):Option (Int×Bool):=
 (Cr s).bind fun y=>
 (Bn s (W (y - 1))).bind fun e=>
 (Ia e).bind fun y_2=>
 cond (!y_2.2)
  (some (0,false))
  (some (y_2.1,true))
def Dh.j1 (day_1:Int) (ok_1:Bool):Option (Int×Bool×Int):=
 some (day_1,ok_1,0)
def Dh (p:Br) (i:Aq):Option (Int×Bool×Int):=
 (F1 p i).bind fun y=>
 cond (!decide (y.2=0))
  (some (0,false,y.2))
  (Cd.elim y.1
   (none)
   (fun l=>
   (Bt l).bind fun y_2=>
   Dh.j1 y_2.1 y_2.2)
   (fun l_2=>
   (Fz l_2).bind fun y_3=>
   Dh.j1 y_3.1 y_3.2))
def Mv (s:(List Bd)):Option (Bool):=
 some false
def It (s:(List Bd)):Option (Bool):=
 (Cr s).bind fun y=>
 some (decide (y=(s.length:Int)))
def Bv.j3 (i:Aq) (last_3:Int):Option (Int×Bool×Int):=
 (Bn i.Links (W ((i.Links.length:Int) - 1))).bind fun e=>
 cond (decide (last_3<=e.Day))
  (some (0,false,0))
  (some (last_3,true,0))
def Bv.j2 (i:Aq) (day_2:Int) (ok_2:Bool):Option (Int×Bool×Int):=
 cond (ok_2)
  (Bv.j3 i (W (day_2 - 1)))
  (Bv.j3 i 40000)
def Bv.j1 (i:Aq) (y:Cd×Int) (k_1:Cd) (x24_1:Bool):Option (Int×Bool×Int):=
 cond (x24_1)
  (some (0,false,y.2))
  (Cd.elim k_1
   (none)
   (fun l_3=>
   (Bt l_3).bind fun y_4=>
   Bv.j2 i y_4.1 y_4.2)
   (fun l_4=>
   (Fz l_4).bind fun y_5=>
   Bv.j2 i y_5.1 y_5.2))
def Bv (p:Br) (i:Aq):Option (Int×Bool×Int):=
 (F1 p i).bind fun y=>
 Cd.elim y.1
  (cond (!decide (y.2=0))
   (Bv.j1 i y Cd.nil true)
   (none))
  (fun l=>
  cond (!decide (y.2=0))
   (Bv.j1 i y (Cd.c235 l) true)
   ((Mv l).bind fun y_2=>
   Bv.j1 i y (Cd.c235 l) (!y_2)))
  (fun l_2=>
  cond (!decide (y.2=0))
   (Bv.j1 i y (Cd.c236 l_2) true)
   ((It l_2).bind fun y_3=>
   Bv.j1 i y (Cd.c236 l_2) (!y_3)))
def Rp (p:Br) (i:Aq):Option (Bool×Int×Bool):=
 (Dh p i).bind fun y=>
 (Bv p i).bind fun y_2=>
 cond (y.2.1)
  (some (decide (y.1<=i.Until),y_2.1,y_2.2.1))
  (some (false,y_2.1,y_2.2.1))
def Qt (s:(List Int)):Option ((List Int)):=
 some s
def Fr.j3 (x24_1:Int) (out_3:List Int):Option (Lp (Int×List Int) ((List Int)×Int)):=
 some (.next (W (x24_1 + 1),out_3))
def Fr.j2 (x24_1:Int) (out_1:List Int) (x41_2:Bool):Option (Lp (Int×List Int) ((List Int)×Int)):=
 cond (x41_2)
  ((Hc 8 out_1 ([x24_1]:List Int)).bind fun l=>
  Fr.j3 x24_1 l)
  (Fr.j3 x24_1 out_1)
def Fr.l1 (e:Ak) (p:Br) (renewable:Bool) (x24_1:Int) (out_1:List Int):Option (Lp (Int×List Int) ((List Int)×Int)):=
 cond (decide (x24_1 < (e.Items.length:Int)))
  ((Bn e.Items x24_1).bind fun e_2=>
  (Rp p e_2).bind fun y_2=>
  cond (y_2.1)
   (Fr.j2 x24_1 out_1 (decide (y_2.2.2=renewable)))
   (Fr.j2 x24_1 out_1 false))
  (up (
   (Qt out_1).bind fun y_3=>
   some (y_3,0)))
def Fr (e:Ak) (p:Br) (renewable:Bool):Option ((List Int)×Int):=
 (N9 e p).bind fun y=>
 cond (!decide (y=0))
  (some (([]:(List Int)),y))
  (C7 (fun q'=>Fr.l1 e p renewable q'.1 q'.2) (0,([]:List Int)))
def S6 (e:Ak) (p:Br):Option ((List Int)×Int):=
 (Fr e p true).bind fun y=>
 some (y.1,y.2)
def M5 (p:Br) (i:Aq):Option (Int):=
 (Eg p).bind fun y=>
 cond (!decide (y=0))
  (some 25)
  ((A9 i).bind fun y_2=>
  cond (!decide (y_2=0))
   (some 30)
   (some 0))
def Hd (u:Ah):Option (Bool):=
 (Gx u).bind fun y=>
 some (!y)
def Cy.l1 (s:(List Ah)) (f:Ah->Option (Bool)) (x8_1:Int):Option (Lp (Int) (Int)):=
 cond (decide (x8_1 < (s.length:Int)))
  ((Bn s x8_1).bind fun e=>
  (f e).bind fun y=>
  cond (y)
   (up (some x8_1))
   (some (.next (W (x8_1 + 1)))))
  (up (
   some (-1)))
def Cy (s:(List Ah)) (f:Ah->Option (Bool)):Option (Int):=
 C7 (fun q'=>Cy.l1 s f q') 0
def Hr (s:(List Ah)) (f:Ah->Option (Bool)):Option (Bool):=
 (Cy s f).bind fun y=>
 some (decide (0<=y))
def Jw (uses:(List Ah)):Option (Bool):=
 (Hr uses (fun x0=>Hd x0)).bind fun y=>
 some y
def Jy (p:Br) (i:Aq):Option (Int):=
 (Dh p i).bind fun y=>
 cond (!y.2.1)
  (some 40000)
  (some (W (y.1 - 1)))
def M4 (p:Br) (u:Ah) (purpose:Int):Option ((List Bh)×Int):=
 (Ej p u purpose 0).bind fun y=>
 cond (!decide (y=0))
  (some (([]:(List Bh)),y))
  ((Ch p u purpose).bind fun y_2=>
  some (y_2,0))
def Gb (i:Int) (c0:(List Bh)) (c1:Int):Option (Bool):=
 (Bn c0 i).bind fun e=>
 some (decide (c1 < e.To))
def Fj.l1 (f:Int->Option (Bool)) (i_1:Int) (j_1:Int):Option (Lp (Int×Int) (Int)):=
 cond (decide (i_1 < j_1))
  ((Q3 .u64 (IntKind.wrap .u64 (W (i_1 + j_1))) 1).bind fun q=>
  (f (W q)).bind fun y=>
  cond (!y)
   (some (.next (W ((W q) + 1),j_1)))
   (some (.next (i_1,W q))))
  (up (
   some i_1))
def Fj (n:Int) (f:Int->Option (Bool)):Option (Int):=
 C7 (fun q'=>Fj.l1 f q'.1 q'.2) (0,n)
def Nf (l:(List Bh)) (from':Int) (to:Int):Option (Int×Bool):=
 (Fj (l.length:Int) (fun x0=>Gb x0 l from')).bind fun y=>
 cond (decide (y=(l.length:Int)))
  (some (0,false))
  ((Bn l y).bind fun e=>
  some (max from' e.From,decide ((max from' e.From)<=to)))
def B2.j4 (x26_1:Int) (found_4:Bool) (last_4:Int) (out_4:A1):Option (Lp (Bool×Int×Int×A1) (A1×Bool)):=
 some (.next (found_4,last_4,W (x26_1 + 1),out_4))
def B2.j3 (found_1:Bool) (last_1:Int) (x26_1:Int) (out_1:A1) (e:Ah) (y_2:Int×Bool) (fall_2:Int) (x73_3:Bool):Option (Lp (Bool×Int×Int×A1) (A1×Bool)):=
 cond (x73_3)
  (B2.j4 x26_1 true fall_2 (A1.mk e y_2.1))
  (B2.j4 x26_1 found_1 last_1 out_1)
def B2.j2 (found_1:Bool) (last_1:Int) (x26_1:Int) (out_1:A1) (e:Ah) (y_2:Int×Bool) (fall_2:Int):Option (Lp (Bool×Int×Int×A1) (A1×Bool)):=
 cond (!found_1)
  (B2.j3 found_1 last_1 x26_1 out_1 e y_2 fall_2 true)
  (cond (decide (last_1 < fall_2))
   (B2.j3 found_1 last_1 x26_1 out_1 e y_2 fall_2 true)
   (cond (decide (fall_2=last_1))
    (B2.j3 found_1 last_1 x26_1 out_1 e y_2 fall_2 (decide (y_2.1 < out_1.Day)))
    (B2.j3 found_1 last_1 x26_1 out_1 e y_2 fall_2 false)))
def B2.l1 (p:Br) (uses:(List Ah)) (purpose:Int) (from':Int) (to:Int) (found_1:Bool) (last_1:Int) (x26_1:Int) (out_1:A1):Option (Lp (Bool×Int×Int×A1) (A1×Bool)):=
 cond (decide (x26_1 < (uses.length:Int)))
  ((Bn uses x26_1).bind fun e=>
  (M4 p e purpose).bind fun y=>
  (Nf y.1 from' to).bind fun y_2=>
  cond (!y_2.2)
   (B2.j4 x26_1 found_1 last_1 out_1)
   ((I5 p e purpose).bind fun y_3=>
   cond (!y_3.2.1)
    (B2.j2 found_1 last_1 x26_1 out_1 e y_2 40001)
    (B2.j2 found_1 last_1 x26_1 out_1 e y_2 y_3.1)))
  (up (
   some (out_1,found_1)))
def B2 (p:Br) (uses:(List Ah)) (purpose:Int) (from':Int) (to:Int):Option (A1×Bool):=
 C7 (fun q'=>B2.l1 p uses purpose from' to q'.1 q'.2.1 q'.2.2.1 q'.2.2.2) (false,0,0,(A1.mk (Ah.mk 0 0) 0))
def D4.j1 (s:(List A1)) (x4_1:Bool):Option ((List A1)):=
 cond (x4_1)
  (some ([]:(List A1)))
  ((Hc 72 ([]:List A1) s).bind fun l=>
  some l)
def D4 (s:(List A1)):Option ((List A1)):=
 Yr (s)
  (D4.j1 s true)
  (D4.j1 s false)
def K7 (i:Aq) (l:(List A1)):Option (Aq):=
 (D4 i.Links).bind fun y=>
 (Hc 72 y l).bind fun l_2=>
 some (Aq.mk i.Name i.Kind i.Purpose l_2 i.Until)
def Df.l2 (p:Br) (uses:(List Ah)) (from':Int) (i_2:Aq) (out_2:List A1):Option (Lp (Aq×List A1) ((List A1)×Int)):=
 (Jy p i_2).bind fun y_3=>
 cond (decide (y_3 < i_2.Until))
  ((Bv p i_2).bind fun y_4=>
  cond (!y_4.2.1)
   (up (some (([]:(List A1)),51)))
   ((Bn i_2.Links (W ((i_2.Links.length:Int) - 1))).bind fun e=>
   (B2 p uses i_2.Purpose (max from' (W (e.Day + 1))) y_4.1).bind fun y_5=>
   cond (!y_5.2)
    (up (some (([]:(List A1)),51)))
    (cond (decide (8<=(i_2.Links.length:Int)))
     (up (some (([]:(List A1)),3)))
     ((K7 i_2 ([y_5.1]:List A1)).bind fun y_6=>
     (Jy p y_6).bind fun y_7=>
     (Jy p i_2).bind fun y_8=>
     cond (decide (y_7<=y_8))
      (up (some (([]:(List A1)),51)))
      ((Hc 72 out_2 ([y_5.1]:List A1)).bind fun l=>
      some (.next (y_6,l)))))))
  (up (
   some (out_2,0)))
def Df.j1 (p:Br) (i:Aq) (uses:(List Ah)) (from':Int) (x26_1:Bool):Option ((List A1)×Int):=
 cond (x26_1)
  (some (([]:(List A1)),2))
  (C7 (fun q'=>Df.l2 p uses from' q'.1 q'.2) (i,([]:List A1)))
def Df (p:Br) (i:Aq) (uses:(List Ah)) (from':Int):Option ((List A1)×Int):=
 (M5 p i).bind fun y=>
 cond (!decide (y=0))
  (some (([]:(List A1)),y))
  ((Jw uses).bind fun y_2=>
  cond (y_2)
   (some (([]:(List A1)),7))
   (cond (decide (from' < 0))
    (Df.j1 p i uses from' true)
    (Df.j1 p i uses from' (decide (40000 < from')))))
def F7.j1 (i:Aq) (u:Ah) (day:Int) (x28_1:Bool):Option (Aq×Int):=
 cond (x28_1)
  (some ((Aq.mk (⟨#[]⟩:ByteArray) 0 0 ([]:(List A1)) 0),13))
  (cond (decide ((i.Links.length:Int)=8))
   (some ((Aq.mk (⟨#[]⟩:ByteArray) 0 0 ([]:(List A1)) 0),3))
   ((D4 i.Links).bind fun y_3=>
   (Hc 72 y_3 ([(A1.mk u day)]:List A1)).bind fun l=>
   some ((Aq.mk i.Name i.Kind i.Purpose l i.Until),0)))
def F7 (p:Br) (i:Aq) (u:Ah) (day:Int):Option (Aq×Int):=
 (F1 p i).bind fun y=>
 cond (!decide (y.2=0))
  (some ((Aq.mk (⟨#[]⟩:ByteArray) 0 0 ([]:(List A1)) 0),y.2))
  ((Gx u).bind fun y_2=>
  cond (!y_2)
   (some ((Aq.mk (⟨#[]⟩:ByteArray) 0 0 ([]:(List A1)) 0),7))
   ((Bn i.Links (W ((i.Links.length:Int) - 1))).bind fun e=>
   cond (decide (day<=e.Day))
    (F7.j1 i u day true)
    (F7.j1 i u day (decide (40000 < day)))))
def G4 (p:Br) (u:Ah) (purpose:Int) (day:Int):Option (Bool×Int×Int):=
 (Ej p u purpose day).bind fun y=>
 cond (!decide (y=0))
  (some (false,0,y))
  ((I0 p u purpose day).bind fun y_2=>
  (C5 p u purpose day).bind fun y_3=>
  some (y_2,y_3,0))
def E3.j1 (s:(List Int)) (x4_1:Bool):Option ((List Int)):=
 cond (x4_1)
  (some ([]:(List Int)))
  ((Hc 8 ([]:List Int) s).bind fun l=>
  some l)
def E3 (s:(List Int)):Option ((List Int)):=
 Yr (s)
  (E3.j1 s true)
  (E3.j1 s false)
def Ei.j1 (s:(List Av)) (x4_1:Bool):Option ((List Av)):=
 cond (x4_1)
  (some ([]:(List Av)))
  ((Hc 192 ([]:List Av) s).bind fun l=>
  some l)
def Ei (s:(List Av)):Option ((List Av)):=
 Yr (s)
  (Ei.j1 s true)
  (Ei.j1 s false)
def D2.j1 (s:(List Ab)) (x4_1:Bool):Option ((List Ab)):=
 cond (x4_1)
  (some ([]:(List Ab)))
  ((Hc 2280 ([]:List Ab) s).bind fun l=>
  some l)
def D2 (s:(List Ab)):Option ((List Ab)):=
 Yr (s)
  (D2.j1 s true)
  (D2.j1 s false)
def Fy.j1 (s:(List ByteArray)) (x4_1:Bool):Option ((List ByteArray)):=
 cond (x4_1)
  (some ([]:(List ByteArray)))
  ((Hc 16 ([]:List ByteArray) s).bind fun l=>
  some l)
def Fy (s:(List ByteArray)):Option ((List ByteArray)):=
 Yr (s)
  (Fy.j1 s true)
  (Fy.j1 s false)
def Ek.l1 (x':Av) (y:(List Ab)) (x12_1:Int) (l_1:List Ab):Option (Lp (Int×List Ab) (Av)):=
 cond (decide (x12_1 < (y.length:Int)))
  ((Bn l_1 x12_1).bind fun e=>
  (Fy e.Names).bind fun y_2=>
  some (.next (W (x12_1 + 1),Jd l_1 ((x12_1).toNat) (Ab.mk e.Serial e.Issuer e.Subject e.Key e.KeyId e.Hash e.From e.To e.Authority e.Path y_2 e.Seal))))
  (up (
   some (Av.mk x'.Key x'.KeyId l_1)))
def Ek (x':Av):Option (Av):=
 (D2 x'.Chain).bind fun y=>
 C7 (fun q'=>Ek.l1 x' y q'.1 q'.2) (0,y)
def Em.l1 (e:Ad) (y:(List Int)) (y_2:(List Int)) (y_3:(List Int)) (y_4:(List Av)) (x24_1:Int) (l_1:List Av):Option (Lp (Int×List Av) (Ad)):=
 cond (decide (x24_1 < (y_4.length:Int)))
  ((Bn l_1 x24_1).bind fun e_2=>
  (Ek e_2).bind fun y_5=>
  some (.next (W (x24_1 + 1),Jd l_1 ((x24_1).toNat) y_5)))
  (up (
   some (Ad.mk e.Name e.Least e.Most y e.OwnOrder l_1 y_2 y_3 e.Fallback)))
def Em (e:Ad):Option (Ad):=
 (E3 e.Suites).bind fun y=>
 (E3 e.Anchors).bind fun y_2=>
 (E3 e.Hashes).bind fun y_3=>
 (Ei e.Identities).bind fun y_4=>
 C7 (fun q'=>Em.l1 e y y_2 y_3 y_4 q'.1 q'.2) (0,y_4)
def En.l2 (e:Ak) (l:List Bi) (l_1:List Ad) (x31_2:Int) (l_2_2:List Aq):Option (Lp (Int×List Aq) (Ak)):=
 cond (decide (x31_2 < (e.Items.length:Int)))
  ((Bn e.Items x31_2).bind fun e_3=>
  (Hc 72 ([]:List A1) e_3.Links).bind fun l_3=>
  (Hc 320 l_2_2 ([(Aq.mk e_3.Name e_3.Kind e_3.Purpose l_3 e_3.Until)]:List Aq)).bind fun l_4=>
  some (.next (W (x31_2 + 1),l_4)))
  (up (
   some (Ak.mk l_1 l l_2_2)))
def En.l1 (e:Ak) (l:List Bi) (x16_1:Int) (l_1:List Ad):Option (Lp (Int×List Ad) (Ak)):=
 cond (decide (x16_1 < (e.Endpoints.length:Int)))
  ((Bn e.Endpoints x16_1).bind fun e_2=>
  (Em e_2).bind fun y=>
  (Hc 1296 l_1 ([y]:List Ad)).bind fun l_2=>
  some (.next (W (x16_1 + 1),l_2)))
  (up (
   C7 (fun q'=>En.l2 e l l_1 q'.1 q'.2) (0,([]:List Aq))))
def En (e:Ak):Option (Ak):=
 (Hc 32 ([]:List Bi) e.Edges).bind fun l=>
 C7 (fun q'=>En.l1 e l q'.1 q'.2) (0,([]:List Ad))
def I2.j1 (e:Ak) (p:Br) (j:L1) (x32_1:Bool):Option (Ak×Int):=
 cond (x32_1)
  (some ((Ak.mk ([]:(List Ad)) ([]:(List Bi)) ([]:(List Aq))),52))
  ((Bn e.Items j.Item).bind fun e_2=>
  (F7 p e_2 j.Link.Use j.Link.Day).bind fun y_2=>
  cond (!decide (y_2.2=0))
   (some ((Ak.mk ([]:(List Ad)) ([]:(List Bi)) ([]:(List Aq))),y_2.2))
   ((G4 p j.Link.Use y_2.1.Purpose j.Link.Day).bind fun y_3=>
   cond (!y_3.1)
    (some ((Ak.mk ([]:(List Ad)) ([]:(List Bi)) ([]:(List Aq))),43))
    ((En e).bind fun y_4=>
    (Bn y_4.Items j.Item).bind fun e_3=>
    some ((Ak.mk y_4.Endpoints y_4.Edges (Jd y_4.Items ((j.Item).toNat) y_2.1)),0))))
def I2 (e:Ak) (p:Br) (j:L1):Option (Ak×Int):=
 (N9 e p).bind fun y=>
 cond (!decide (y=0))
  (some ((Ak.mk ([]:(List Ad)) ([]:(List Bi)) ([]:(List Aq))),y))
  (cond (decide (j.Item < 0))
   (I2.j1 e p j true)
   (I2.j1 e p j (decide ((e.Items.length:Int)<=j.Item))))
def B9.j4 (x53_3:Int) (x87_4:Bool):Option (Lp (Int) (Int)):=
 cond (x87_4)
  (up (some 26))
  (some (.next (W (x53_3 + 1))))
def B9.l3 (x':Ap) (x53_3:Int):Option (Lp (Int) (Int)):=
 cond (decide (x53_3 < (x'.Seals.length:Int)))
  ((Bn x'.Seals x53_3).bind fun e=>
  (Gn e.Key).bind fun y_3=>
  cond (!y_3)
   (B9.j4 x53_3 true)
   (cond (decide (e.Sum < 0))
    (B9.j4 x53_3 true)
    (cond (decide (4294967296<=e.Sum))
     (B9.j4 x53_3 true)
     (cond (decide (0 < x53_3))
      ((Bn x'.Seals (W (x53_3 - 1))).bind fun e_2=>
      B9.j4 x53_3 (decide (e.Key<=e_2.Key)))
      (B9.j4 x53_3 false)))))
  (up (
   some 0))
def B9.j2 (x':Ap) (x49_2:Bool):Option (Int):=
 cond (x49_2)
  (some 26)
  (C7 (fun q'=>B9.l3 x' q') 0)
def B9.j1 (x':Ap) (x24_1:Bool):Option (Int):=
 cond (x24_1)
  (some 26)
  (cond (decide (x'.Days.From < 0))
   (B9.j2 x' true)
   (cond (decide (x'.Days.To<=x'.Days.From))
    (B9.j2 x' true)
    (cond (decide (40001 < x'.Days.To))
     (B9.j2 x' true)
     (B9.j2 x' (decide (8 < (x'.Seals.length:Int)))))))
def B9 (x':Ap):Option (Int):=
 (Gx x'.Use).bind fun y=>
 cond (!y)
  (B9.j1 x' true)
  (cond (decide (x'.Purpose < 1))
   (B9.j1 x' true)
   (cond (decide (4 < x'.Purpose))
    (B9.j1 x' true)
    ((Dm x'.Endpoint).bind fun y_2=>
    B9.j1 x' (!y_2))))
def H0 (x':Ap):Option (Bool):=
 (B9 x').bind fun y=>
 some (!decide (y=0))
def Bl.l1 (s:(List Ap)) (f:Ap->Option (Bool)) (x8_1:Int):Option (Lp (Int) (Int)):=
 cond (decide (x8_1 < (s.length:Int)))
  ((Bn s x8_1).bind fun e=>
  (f e).bind fun y=>
  cond (y)
   (up (some x8_1))
   (some (.next (W (x8_1 + 1)))))
  (up (
   some (-1)))
def Bl (s:(List Ap)) (f:Ap->Option (Bool)):Option (Int):=
 C7 (fun q'=>Bl.l1 s f q') 0
def C1 (s:(List Ap)) (f:Ap->Option (Bool)):Option (Bool):=
 (Bl s f).bind fun y=>
 some (decide (0<=y))
def El.j1 (x23_1:Bool):Option (Int):=
 cond (x23_1)
  (some 2)
  (some 0)
def El (v:Fs) (day:Int):Option (Int):=
 (Cp v.estate).bind fun y=>
 cond (!decide (y=0))
  (some y)
  ((Eg v.policy).bind fun y_2=>
  cond (!decide (y_2=0))
   (some y_2)
   ((C1 v.exceptions (fun x0=>H0 x0)).bind fun y_3=>
   cond (y_3)
    (some 26)
    (cond (decide (day < 0))
     (El.j1 true)
     (cond (decide (40000 < day))
      (El.j1 true)
      (cond (decide (v.weak < 0))
       (El.j1 true)
       (El.j1 (decide (512 < v.weak))))))))
def Jv (client:Ad) (server:Ad):Option (Bool):=
 (Bu client).bind fun y=>
 cond (decide (y=0))
  ((Bu server).bind fun y_2=>
  some (decide (y_2=0)))
  (some false)
def L3 (t:Cw):Option ((List Int)):=
 some t.server.Suites
def Gh (x':Av) (c0:Am):Option (Bool):=
 cond (decide (c0.Sign.Alg=0))
  (some true)
  (some (decide (x'.Key.Alg=c0.Sign.Alg)))
def B4.l1 (s:(List Av)) (f:Av->Option (Bool)) (x8_1:Int):Option (Lp (Int) (Int)):=
 cond (decide (x8_1 < (s.length:Int)))
  ((Bn s x8_1).bind fun e=>
  (f e).bind fun y=>
  cond (y)
   (up (some x8_1))
   (some (.next (W (x8_1 + 1)))))
  (up (
   some (-1)))
def B4 (s:(List Av)) (f:Av->Option (Bool)):Option (Int):=
 C7 (fun q'=>B4.l1 s f q') 0
def Fe (server:Ad) (suite:Int):Option (Int×Bool):=
 (Du suite).bind fun y=>
 cond (!decide (y.2=0))
  (some (-1,false))
  ((B4 server.Identities (fun x0=>Gh x0 y.1)).bind fun y_2=>
  some (y_2,decide (0<=y_2)))
def Bx.j1 (t:Cw) (suite:Int) (x44_1:Bool):Option (Bool):=
 cond (x44_1)
  (some false)
  ((Fe t.server suite).bind fun y_4=>
  some y_4.2)
def Bx (t:Cw) (suite:Int):Option (Bool):=
 (Du suite).bind fun y=>
 cond (!decide (y.2=0))
  (Bx.j1 t suite true)
  (cond (decide (t.version < y.1.Least))
   (Bx.j1 t suite true)
   (cond (decide (y.1.Most < t.version))
    (Bx.j1 t suite true)
    ((Ds t.suites suite).bind fun y_2=>
    cond (!y_2)
     (Bx.j1 t suite true)
     ((Ds t.server.Suites suite).bind fun y_3=>
     Bx.j1 t suite (!y_3)))))
def Og (c:Ab):Option (Bool):=
 (Gz c).bind fun y=>
 some (!decide (y=0))
def Bf.l1 (s:(List Ab)) (f:Ab->Option (Bool)) (x8_1:Int):Option (Lp (Int) (Int)):=
 cond (decide (x8_1 < (s.length:Int)))
  ((Bn s x8_1).bind fun e=>
  (f e).bind fun y=>
  cond (y)
   (up (some x8_1))
   (some (.next (W (x8_1 + 1)))))
  (up (
   some (-1)))
def Bf (s:(List Ab)) (f:Ab->Option (Bool)):Option (Int):=
 C7 (fun q'=>Bf.l1 s f q') 0
def Dl (s:(List Ab)) (f:Ab->Option (Bool)):Option (Bool):=
 (Bf s f).bind fun y=>
 some (decide (0<=y))
def Fi.l1 (s:(List ByteArray)) (v:ByteArray) (x8_1:Int):Option (Lp (Int) (Int)):=
 cond (decide (x8_1 < (s.length:Int)))
  ((Bn s x8_1).bind fun e=>
  cond (decide (v=e))
   (up (some x8_1))
   (some (.next (W (x8_1 + 1)))))
  (up (
   some (-1)))
def Fi (s:(List ByteArray)) (v:ByteArray):Option (Int):=
 C7 (fun q'=>Fi.l1 s v q') 0
def Hy (s:(List ByteArray)) (v:ByteArray):Option (Bool):=
 (Fi s v).bind fun y=>
 some (decide (0<=y))
def Mt (c:Ab) (hashes:(List Int)) (day:Int) (e:Int):Option (Bool):=
 cond (decide (e=13))
  (cond (decide (day < c.From))
   (some true)
   (some (decide (c.To<=day))))
  ((Ds hashes c.Hash.Alg).bind fun y=>
  some (!y))
def Om (c:Ab) (c0:(List Int)) (c1:Int) (c2:Int):Option (Bool):=
 (Mt c c0 c1 c2).bind fun y=>
 some y
def Iv.j1 (l:(List Ab)) (at':Int) (x12_1:Bool):Option (Bool):=
 cond (x12_1)
  (some false)
  (cond (decide (at'=0))
   (some true)
   ((Bn l at').bind fun e=>
   cond (e.Authority)
    (some (decide ((W (at' - 1))<=e.Path)))
    (some false)))
def Iv (l:(List Ab)) (at':Int):Option (Bool):=
 cond (decide (at' < 0))
  (Iv.j1 l at' true)
  (Iv.j1 l at' (decide ((l.length:Int)<=at')))
def Qc (l:(List Ab)) (at':Int):Option (Int):=
 cond (decide ((W (at' + 1)) < (l.length:Int)))
  ((Bn l (W (at' + 1))).bind fun e=>
  some e.KeyId)
  ((Bn l at').bind fun e_2=>
  some e_2.Seal.Key)
def N1 (s:ByteArray):Option (Aa):=
 some (Aa.mk 12 (Q2 s) false ([]:(List Aa)))
def Dw.j3 (b_2:List UInt8) (x43_3:Bool):Option (Lp (List UInt8) (Aa)):=
 cond (x43_3)
  ((pY b_2 1 (b_2.length:Int)).bind fun l_2=>
  some (.next l_2))
  (up (
   some (Aa.mk 2 b_2 false ([]:(List Aa)))))
def Dw.l2 (b_2:List UInt8):Option (Lp (List UInt8) (Aa)):=
 cond (decide (1 < (b_2.length:Int)))
  ((Bn b_2 0).bind fun e=>
  cond (decide ((e.toNat:Int)=0))
   ((Bn b_2 1).bind fun e_2=>
   cond (decide ((e_2.toNat:Int) < 128))
    (Dw.j3 b_2 true)
    (cond (decide ((e.toNat:Int)=255))
     (Dw.j3 b_2 (decide (128<=(e_2.toNat:Int))))
     (Dw.j3 b_2 false)))
   (cond (decide ((e.toNat:Int)=255))
    ((Bn b_2 1).bind fun e_3=>
    Dw.j3 b_2 (decide (128<=(e_3.toNat:Int))))
    (Dw.j3 b_2 false)))
  (Dw.j3 b_2 false)
def Dw.l1 (n:Int) (i_1:Int) (b_1:List UInt8):Option (Lp (Int×List UInt8) (Aa)):=
 cond (decide (0<=i_1))
  ((Q3 .u64 (IntKind.wrap .u64 n) i_1).bind fun q=>
  (Hc 1 b_1 ([(u8 q)]:List UInt8)).bind fun l=>
  some (.next (W (i_1 - 8),l)))
  (up (
   C7 (fun q'=>Dw.l2 q') b_1))
def Dw (n:Int):Option (Aa):=
 C7 (fun q'=>Dw.l1 n q'.1 q'.2) (56,([]:List UInt8))
def Hx.j1 (b:(List UInt8)) (x4_1:Bool):Option ((List UInt8)):=
 cond (x4_1)
  (some ([]:(List UInt8)))
  ((Hc 1 ([]:List UInt8) b).bind fun l=>
  some l)
def Hx (b:(List UInt8)):Option ((List UInt8)):=
 Yr (b)
  (Hx.j1 b true)
  (Hx.j1 b false)
def Er.l1 (rec:(List Aa)->Option ((List Aa))) (l:(List Aa)) (x8_1:Int) (out_1:List Aa):Option (Lp (Int×List Aa) ((List Aa))):=
 cond (decide (x8_1 < (l.length:Int)))
  ((Bn l x8_1).bind fun e=>
  (Hx e.Bytes).bind fun y=>
  (rec e.Elements).bind fun y_2=>
  (Hc 256 out_1 ([(Aa.mk e.Tag y e.Nested y_2)]:List Aa)).bind fun l_2=>
  some (.next (W (x8_1 + 1),l_2)))
  (up (
   some out_1))
def Er.F (rec:(List Aa)->Option ((List Aa))) (l:(List Aa)):Option ((List Aa)):=
 C7 (fun q'=>Er.l1 rec l q'.1 q'.2) (0,([]:List Aa))
def Er (l:(List Aa)):Option ((List Aa)):=aB (fun rec (x:(List Aa))=>Er.F (fun l=>rec l) x) l
def Q0 (l:(List Aa)):Option (Aa):=
 (Er l).bind fun y=>
 some (Aa.mk 48 ([]:(List UInt8)) true y)
def Jx (u:Ah):Option (Aa):=
 (Dw u.Alg).bind fun y=>
 (Dw u.Bits).bind fun y_2=>
 (Q0 ([y,y_2]:List Aa)).bind fun y_3=>
 some y_3
def Vq (b:Bool):Option (Aa):=
 cond (b)
  (some (Aa.mk 1 ([(255:UInt8)]:List UInt8) false ([]:(List Aa))))
  (some (Aa.mk 1 ([(0:UInt8)]:List UInt8) false ([]:(List Aa))))
def Tm (l:(List Aa)):Option (Aa):=
 (Q0 l).bind fun y=>
 some y
def E2.l1 (c:Ab) (x9_1:Int) (names_1:List Aa):Option (Lp (Int×List Aa) (Aa)):=
 cond (decide (x9_1 < (c.Names.length:Int)))
  ((Bn c.Names x9_1).bind fun e=>
  (N1 e).bind fun y=>
  (Hc 256 names_1 ([y]:List Aa)).bind fun l=>
  some (.next (W (x9_1 + 1),l)))
  (up (
   (Dw c.Serial).bind fun y_12=>
   (N1 c.Issuer).bind fun y_13=>
   (N1 c.Subject).bind fun y_14=>
   (Jx c.Key).bind fun y_15=>
   (Dw c.KeyId).bind fun y_16=>
   (Jx c.Hash).bind fun y_17=>
   (Dw c.From).bind fun y_18=>
   (Dw c.To).bind fun y_19=>
   (Vq c.Authority).bind fun y_20=>
   (Dw c.Path).bind fun y_21=>
   (Tm names_1).bind fun y_22=>
   (Q0 ([y_12,y_13,y_14,y_15,y_16,y_17,y_18,y_19,y_20,y_21,y_22]:List Aa)).bind fun y_23=>
   some y_23))
def E2 (c:Ab):Option (Aa):=
 C7 (fun q'=>E2.l1 c q'.1 q'.2) (0,([]:List Aa))
def Uz (n:Int):Option (Bool):=
 cond (decide (1<=n))
  (cond (decide (n<=255))
   (some (!decide ((W7 .i64 n 31)=31)))
   (some false))
  (some false)
def H2 (rec:Aa->Option (Bool)) (x':Aa):Option (Bool):=
 (rec x').bind fun y=>
 some (!y)
def Ci.l1 (s:(List Aa)) (f:Aa->Option (Bool)) (x8_1:Int):Option (Lp (Int) (Int)):=
 cond (decide (x8_1 < (s.length:Int)))
  ((Bn s x8_1).bind fun e=>
  (f e).bind fun y=>
  cond (y)
   (up (some x8_1))
   (some (.next (W (x8_1 + 1)))))
  (up (
   some (-1)))
def Ci (rec:Aa->Option (Bool)) (s:(List Aa)) (f:Aa->Option (Bool)):Option (Int):=
 C7 (fun q'=>Ci.l1 s f q') 0
def Ev (rec:Aa->Option (Bool)) (s:(List Aa)) (f:Aa->Option (Bool)):Option (Bool):=
 (Ci rec s f).bind fun y=>
 some (decide (0<=y))
def Dz.j1 (rec:Aa->Option (Bool)) (v:Aa) (x36_1:Bool):Option (Bool):=
 cond (x36_1)
  (some false)
  ((Ev rec v.Elements (fun x0=>H2 rec x0)).bind fun y_2=>
  some (!y_2))
def Dz.F (rec:Aa->Option (Bool)) (v:Aa):Option (Bool):=
 (Uz v.Tag).bind fun y=>
 cond (!y)
  (Dz.j1 rec v true)
  (cond (!decide (v.Nested=(!decide ((W7 .i64 v.Tag 32)=0))))
   (Dz.j1 rec v true)
   (cond (v.Nested)
    (cond (decide (0 < (v.Bytes.length:Int)))
     (Dz.j1 rec v true)
     (Dz.j1 rec v false))
    (Dz.j1 rec v (decide (0 < (v.Elements.length:Int))))))
def Dz (v:Aa):Option (Bool):=aB (fun rec (x:Aa)=>Dz.F (fun v=>rec v) x) v
def Fb.l1 (rec:Aa->Option (Int)) (v:Aa) (most_1:Int) (x9_1:Int):Option (Lp (Int×Int) (Int)):=
 cond (decide (x9_1 < (v.Elements.length:Int)))
  ((Bn v.Elements x9_1).bind fun e=>
  (rec e).bind fun y=>
  some (.next (max most_1 y,W (x9_1 + 1))))
  (up (
   some (W (most_1 + 1))))
def Fb.F (rec:Aa->Option (Int)) (v:Aa):Option (Int):=
 C7 (fun q'=>Fb.l1 rec v q'.1 q'.2) (0,0)
def Fb (v:Aa):Option (Int):=aB (fun rec (x:Aa)=>Fb.F (fun v=>rec v) x) v
def Ey.l2 (n:Int) (i_2:Int) (b_2:List UInt8):Option (Lp (Int×List UInt8) ((List UInt8))):=
 cond (decide (0<=i_2))
  ((Q3 .i64 n (W (8 * i_2))).bind fun q_2=>
  (Hc 1 b_2 ([(u8 q_2)]:List UInt8)).bind fun l_3=>
  some (.next (W (i_2 - 1),l_3)))
  (up (
   some b_2))
def Ey.l1 (b:List UInt8) (n:Int) (count_1:Int) (m_1:Int):Option (Lp (Int×Int) ((List UInt8))):=
 cond (decide (0 < m_1))
  ((Q3 .i64 m_1 8).bind fun q=>
  some (.next (W (count_1 + 1),q)))
  (up (
   (Hc 1 b ([(u8 (W (128 + count_1)))]:List UInt8)).bind fun l_2=>
   C7 (fun q'=>Ey.l2 n q'.1 q'.2) (W (count_1 - 1),l_2)))
def Ey (b:List UInt8) (n:Int):Option ((List UInt8)):=
 cond (decide (n < 128))
  ((Hc 1 b ([(u8 n)]:List UInt8)).bind fun l=>
  some l)
  (C7 (fun q'=>Ey.l1 b n q'.1 q'.2) (0,n))
def Kj (rec:Aa->Option ((List UInt8))) (b:List UInt8) (v:Aa):Option ((List UInt8)):=
 (rec v).bind fun y=>
 (Hc 1 b ([(u8 v.Tag)]:List UInt8)).bind fun l=>
 (Ey l (y.length:Int)).bind fun y_2=>
 (Hc 1 y_2 y).bind fun l_2=>
 some l_2
def Dt.l1 (rec:Aa->Option ((List UInt8))) (v:Aa) (x14_1:Int) (out_1:List UInt8):Option (Lp (Int×List UInt8) ((List UInt8))):=
 cond (decide (x14_1 < (v.Elements.length:Int)))
  ((Bn v.Elements x14_1).bind fun e=>
  (Kj rec out_1 e).bind fun y=>
  some (.next (W (x14_1 + 1),y)))
  (up (
   some out_1))
def Dt.F (rec:Aa->Option ((List UInt8))) (v:Aa):Option ((List UInt8)):=
 cond (!v.Nested)
  (some v.Bytes)
  (C7 (fun q'=>Dt.l1 rec v q'.1 q'.2) (0,([]:List UInt8)))
def Dt (v:Aa):Option ((List UInt8)):=aB (fun rec (x:Aa)=>Dt.F (fun v=>rec v) x) v
def Nv (v:Aa):Option ((List UInt8)):=
 (Dt v).bind fun y=>
 (Hc 1 ([]:List UInt8) ([(u8 v.Tag)]:List UInt8)).bind fun l=>
 (Ey l (y.length:Int)).bind fun y_2=>
 (Hc 1 y_2 y).bind fun l_2=>
 some l_2
def Oq (v:Aa):Option ((List UInt8)×Int):=
 (Dz v).bind fun y=>
 cond (!y)
  (some (([]:(List UInt8)),1))
  ((Fb v).bind fun y_2=>
  cond (decide (16 < y_2))
   (some (([]:(List UInt8)),3))
   ((Nv v).bind fun y_3=>
   cond (decide (4096 < (y_3.length:Int)))
    (some (([]:(List UInt8)),3))
    (some (y_3,0))))
def Kc (c:Ab):Option ((List UInt8)×Int):=
 (Bj c).bind fun y=>
 cond (!y)
  (some (([]:(List UInt8)),9))
  ((E2 c).bind fun y_2=>
  (Oq y_2).bind fun y_3=>
  some (y_3.1,y_3.2))
def Ez.l1 (b:(List UInt8)) (s_1:Int) (x8_1:Int):Option (Lp (Int×Int) (Int)):=
 cond (decide (x8_1 < (b.length:Int)))
  ((Bn b x8_1).bind fun e=>
  some (.next (IntKind.wrap .u32 ((bS .u32 s_1 (IntKind.wrap .u32 (e.toNat:Int))) * 16777619),W (x8_1 + 1))))
  (up (
   some (W s_1)))
def Ez (b:(List UInt8)):Option (Int):=
 C7 (fun q'=>Ez.l1 b q'.1 q'.2) (2166136261,0)
def Jo (c:Ab) (key:Int):Option (Bool):=
 (Kc c).bind fun y=>
 cond (decide (y.2=0))
  ((Ez y.1).bind fun y_2=>
  some (decide (c.Seal=(E9.mk key y_2))))
  (some false)
def Ew.j2 (x9_1:Int) (wrong_2:Bool):Option (Lp (Int) (Bool)):=
 cond (wrong_2)
  (up (some true))
  (some (.next (W (x9_1 + 1))))
def Ew.l1 (l:(List Ab)) (e:Int) (x9_1:Int):Option (Lp (Int) (Bool)):=
 cond (decide (x9_1 < (l.length:Int)))
  (cond (decide (e=11))
   (cond (decide ((W (x9_1 + 1)) < (l.length:Int)))
    ((Bn l x9_1).bind fun e_2=>
    (Bn l (W (x9_1 + 1))).bind fun e_3=>
    Ew.j2 x9_1 (!decide (e_2.Issuer=e_3.Subject)))
    (Ew.j2 x9_1 false))
   (cond (decide (e=15))
    ((Iv l x9_1).bind fun y=>
    Ew.j2 x9_1 (!y))
    ((Bn l x9_1).bind fun e_4=>
    (Qc l x9_1).bind fun y_2=>
    (Jo e_4 y_2).bind fun y_3=>
    Ew.j2 x9_1 (!y_3))))
  (up (
   some false))
def Ew (l:(List Ab)) (e:Int):Option (Bool):=
 C7 (fun q'=>Ew.l1 l e q') 0
def Db.l3 (l:(List Ab)) (anchors:(List Int)) (x44_3:Int):Option (Lp (Int) (Int)):=
 cond (decide (x44_3 < 3))
  ((Bn ([11,15,10]:List Int) x44_3).bind fun e_3=>
  (Ew l e_3).bind fun y_4=>
  cond (y_4)
   (up (some e_3))
   (some (.next (W (x44_3 + 1)))))
  (up (
   (Bn l (W ((l.length:Int) - 1))).bind fun e_4=>
   (Ds anchors e_4.Seal.Key).bind fun y_5=>
   cond (!y_5)
    (some 12)
    (some 0)))
def Db.l1 (l:(List Ab)) (anchors:(List Int)) (hashes:(List Int)) (day:Int) (x35_1:Int):Option (Lp (Int) (Int)):=
 cond (decide (x35_1 < 2))
  ((Bn ([13,7]:List Int) x35_1).bind fun e_2=>
  (Dl l (fun x0=>Om x0 hashes day e_2)).bind fun y_3=>
  cond (y_3)
   (up (some e_2))
   (some (.next (W (x35_1 + 1)))))
  (up (
   C7 (fun q'=>Db.l3 l anchors q') 0))
def Db (l:(List Ab)) (anchors:(List Int)) (hashes:(List Int)) (day:Int) (name:ByteArray):Option (Int):=
 cond (decide ((l.length:Int)=0))
  (some 4)
  (cond (decide (8 < (l.length:Int)))
   (some 3)
   ((Dl l (fun x0=>Og x0)).bind fun y=>
   cond (y)
    (some 9)
    ((Bn l 0).bind fun e=>
    (Hy e.Names name).bind fun y_2=>
    cond (!y_2)
     (some 14)
     (C7 (fun q'=>Db.l1 l anchors hashes day q') 0))))
def Lm (t:Cw):Option ((List Int)):=
 some t.suites
def Di.j2 (client:Ad) (server:Ad) (day:Int) (most:Int) (suites:(List Int)) (x58_2:Bool):Option (C8×Int):=
 cond (x58_2)
  (some ((C8.mk 0 0),27))
  (cond (server.OwnOrder)
   ((L3 (Cw.mk server (min most server.Most) suites)).bind fun y_2=>
   (Az y_2 (fun x0=>Bx (Cw.mk server (min most server.Most) suites) x0)).bind fun y_3=>
   cond (decide (y_3 < 0))
    (some ((C8.mk 0 0),28))
    ((Bn y_2 y_3).bind fun e=>
    (Fe server e).bind fun y_4=>
    (Bn server.Identities y_4.1).bind fun e_2=>
    (Db e_2.Chain client.Anchors client.Hashes day server.Name).bind fun y_5=>
    cond (!decide (y_5=0))
     (some ((C8.mk 0 0),29))
     (some ((C8.mk (min most server.Most) e),0))))
   ((Lm (Cw.mk server (min most server.Most) suites)).bind fun y_6=>
   (Az y_6 (fun x0=>Bx (Cw.mk server (min most server.Most) suites) x0)).bind fun y_7=>
   cond (decide (y_7 < 0))
    (some ((C8.mk 0 0),28))
    ((Bn y_6 y_7).bind fun e_3=>
    (Fe server e_3).bind fun y_8=>
    (Bn server.Identities y_8.1).bind fun e_4=>
    (Db e_4.Chain client.Anchors client.Hashes day server.Name).bind fun y_9=>
    cond (!decide (y_9=0))
     (some ((C8.mk 0 0),29))
     (some ((C8.mk (min most server.Most) e_3),0)))))
def Di.j1 (client:Ad) (server:Ad) (day:Int) (most:Int) (suites:(List Int)) (x24_1:Bool):Option (C8×Int):=
 cond (x24_1)
  (some ((C8.mk 0 0),2))
  (cond (decide ((min most server.Most) < client.Least))
   (Di.j2 client server day most suites true)
   (Di.j2 client server day most suites (decide ((min most server.Most) < server.Least))))
def Di (client:Ad) (server:Ad) (day:Int) (most:Int) (suites:(List Int)):Option (C8×Int):=
 (Jv client server).bind fun y=>
 cond (!y)
  (some ((C8.mk 0 0),19))
  (cond (decide (day < 0))
   (Di.j1 client server day most suites true)
   (cond (decide (40000 < day))
    (Di.j1 client server day most suites true)
    (cond (decide (most < 1))
     (Di.j1 client server day most suites true)
     (Di.j1 client server day most suites (decide (4 < most))))))
def Kt (client:Ad) (server:Ad) (day:Int):Option (C8×Int):=
 (Jv client server).bind fun y=>
 cond (!y)
  (some ((C8.mk 0 0),19))
  ((Di client server day client.Most client.Suites).bind fun y_2=>
  some (y_2.1,y_2.2))
def Hu (more:(List Ay)):Option ((List Ay)):=
 (Hc 72 ([]:List Ay) more).bind fun l=>
 some l
def Gj.j1 (y_2:Am×Int) (e:Av) (s_1:Int):Option ((List Ah)×Int):=
 some (([(Ah.mk y_2.1.Exchange.Alg s_1),e.Key,y_2.1.Cipher,y_2.1.Mac]:List Ah),0)
def Gj (server:Ad) (o:C8):Option ((List Ah)×Int):=
 (Bu server).bind fun y=>
 cond (!decide (y=0))
  (some (([]:(List Ah)),y))
  ((Du o.Suite).bind fun y_2=>
  cond (!decide (y_2.2=0))
   (some (([]:(List Ah)),y_2.2))
   ((Fe server o.Suite).bind fun y_3=>
   cond (!y_3.2)
    (some (([]:(List Ah)),4))
    ((Bn server.Identities y_3.1).bind fun e=>
    cond (decide (y_2.1.Exchange.Bits=0))
     (Gj.j1 y_2 e e.Key.Bits)
     (Gj.j1 y_2 e y_2.1.Exchange.Bits))))
def Iw (x':Ap):Option (Bool):=
 (B9 x').bind fun y=>
 some (!decide (y=0))
def Pn (x':Ap) (u:Ah) (purpose:Int) (endpoint:ByteArray) (day:Int):Option (Bool):=
 cond (decide (x'.Use=u))
  (cond (decide (x'.Purpose=purpose))
   (cond (decide (x'.Endpoint=endpoint))
    (cond (decide (x'.Days.From<=day))
     (some (decide (day < x'.Days.To)))
     (some false))
    (some false))
   (some false))
  (some false)
def Qf (x':Ap):Option ((List UInt8)×Int):=
 (B9 x').bind fun y=>
 cond (!decide (y=0))
  (some (([]:(List UInt8)),y))
  ((Dw x'.Use.Alg).bind fun y_2=>
  (Dw x'.Use.Bits).bind fun y_3=>
  (Dw x'.Purpose).bind fun y_4=>
  (N1 x'.Endpoint).bind fun y_5=>
  (Dw x'.Days.From).bind fun y_6=>
  (Dw x'.Days.To).bind fun y_7=>
  (Q0 ([y_2,y_3,y_4,y_5,y_6,y_7]:List Aa)).bind fun y_8=>
  (Oq y_8).bind fun y_9=>
  some (y_9.1,y_9.2))
def Cq.e3 (o:Fl) (count_3:Int):Option (Lp (Int) (Bool)):=
 up (
  some (decide (o.Need<=count_3)))
def Cq.j4 (count_3:Int) (x55_4:Bool):Option (Lp (Int) (Bool)):=
 cond (x55_4)
  (some (.next (W (count_3 + 1))))
  (some (.next count_3))
def Cq.l3 (o:Fl) (y:(List UInt8)×Int) (kv:Int×Int) (count_3:Int):Option (Lp (Int) (Bool)):=
 (Ez y.1).bind fun y_2=>
 cond (decide (kv.2=y_2))
  ((Ds o.Keys kv.1).bind fun y_3=>
  Cq.j4 count_3 y_3)
  (Cq.j4 count_3 false)
def Cq.l2 (x':Ap) (o:Fl) (y:(List UInt8)×Int) (x29_2:Int) (sums_2:(List (Int×Int))):Option (Lp (Int×(List (Int×Int))) (Bool)):=
 cond (decide (x29_2 < (x'.Seals.length:Int)))
  ((Bn x'.Seals x29_2).bind fun e=>
  some (.next (W (x29_2 + 1),Rc sums_2 e.Key e.Sum)))
  (up (
   sG (fun p' q'=>Cq.l3 o y p' q') (fun q'=>Cq.e3 o q') sums_2 0))
def Cq.j1 (x':Ap) (o:Fl) (y:(List UInt8)×Int) (x24_1:Bool):Option (Bool):=
 cond (x24_1)
  (some false)
  (C7 (fun q'=>Cq.l2 x' o y q'.1 q'.2) (0,([]:(List (Int×Int)))))
def Cq (x':Ap) (o:Fl):Option (Bool):=
 (Qf x').bind fun y=>
 cond (!decide (y.2=0))
  (Cq.j1 x' o y true)
  (Cq.j1 x' o y (decide (o.Need < 1)))
def D0.j3 (x20_1:Int) (most_3:Int) (some_3:Bool):Option (Lp (Int×Bool×Int) (Int×Bool)):=
 some (.next (most_3,some_3,W (x20_1 + 1)))
def D0.j2 (most_1:Int) (some_1:Bool) (x20_1:Int) (e:Ap) (x34_2:Bool):Option (Lp (Int×Bool×Int) (Int×Bool)):=
 cond (x34_2)
  (D0.j3 x20_1 (max most_1 e.Days.To) true)
  (D0.j3 x20_1 most_1 some_1)
def D0.l1 (l:(List Ap)) (o:Fl) (u:Ah) (purpose:Int) (endpoint:ByteArray) (day:Int) (most_1:Int) (some_1:Bool) (x20_1:Int):Option (Lp (Int×Bool×Int) (Int×Bool)):=
 cond (decide (x20_1 < (l.length:Int)))
  ((Bn l x20_1).bind fun e=>
  (Pn e u purpose endpoint day).bind fun y=>
  cond (y)
   ((Cq e o).bind fun y_2=>
   D0.j2 most_1 some_1 x20_1 e y_2)
   (D0.j2 most_1 some_1 x20_1 e false))
  (up (
   some (most_1,some_1)))
def D0 (l:(List Ap)) (o:Fl) (u:Ah) (purpose:Int) (endpoint:ByteArray) (day:Int):Option (Int×Bool):=
 C7 (fun q'=>D0.l1 l o u purpose endpoint day q'.1 q'.2.1 q'.2.2) (0,false,0)
def Ka (p:Br) (l:(List Ap)) (o:Fl) (u:Ah) (purpose:Int) (endpoint:ByteArray) (day:Int):Option (Bool×Int):=
 (G4 p u purpose day).bind fun y=>
 cond (!decide (y.2.2=0))
  (some (false,y.2.2))
  ((C1 l (fun x0=>Iw x0)).bind fun y_2=>
  cond (y_2)
   (some (false,26))
   ((D0 l o u purpose endpoint day).bind fun y_3=>
   cond (y.1)
    (some (true,0))
    (some (y_3.2,0))))
def De.j2 (x32_1:Int) (forbidden_2:Bool):Option (Lp (Bool×Int) (Bool×Int)):=
 some (.next (forbidden_2,W (x32_1 + 1)))
def De.l1 (p:Br) (l:(List Ap)) (o:Fl) (server:Ad) (day:Int) (y:(List Ah)×Int) (forbidden_1:Bool) (x32_1:Int):Option (Lp (Bool×Int) (Bool×Int)):=
 cond (decide (x32_1 < (y.1.length:Int)))
  ((Bn y.1 x32_1).bind fun e=>
  (Ka p l o e 1 server.Name day).bind fun y_2=>
  cond (!decide (y_2.2=0))
   (up (some (false,y_2.2)))
   (cond (forbidden_1)
    (De.j2 x32_1 true)
    (De.j2 x32_1 (!y_2.1))))
  (up (
   some (forbidden_1,0)))
def De (p:Br) (l:(List Ap)) (o:Fl) (server:Ad) (out:C8) (day:Int):Option (Bool×Int):=
 (Gj server out).bind fun y=>
 cond (!decide (y.2=0))
  (some (false,y.2))
  (C7 (fun q'=>De.l1 p l o server day y q'.1 q'.2) (false,0))
def Hv (w:Ai) (c0:C8):Option (Bool):=
 some (decide (w.Outcome=c0))
def Cu.l1 (s:(List Ai)) (f:Ai->Option (Bool)) (x8_1:Int):Option (Lp (Int) (Int)):=
 cond (decide (x8_1 < (s.length:Int)))
  ((Bn s x8_1).bind fun e=>
  (f e).bind fun y=>
  cond (y)
   (up (some x8_1))
   (some (.next (W (x8_1 + 1)))))
  (up (
   some (-1)))
def Cu (s:(List Ai)) (f:Ai->Option (Bool)):Option (Int):=
 C7 (fun q'=>Cu.l1 s f q') 0
def Gp (s:(List Ai)) (f:Ai->Option (Bool)):Option (Bool):=
 (Cu s f).bind fun y=>
 some (decide (0<=y))
def Es.j2 (most:Int) (suites:(List Int)) (c3:(List Ai)) (y:C8×Int) (x26_2:Bool):Option ((List Ai)):=
 cond (x26_2)
  ((E3 suites).bind fun y_3=>
  (Hc 192 c3 ([(Ai.mk y.1 most y_3)]:List Ai)).bind fun l=>
  some l)
  (some c3)
def Es (most:Int) (suites:(List Int)) (c0:Ad) (c1:Ad) (c2:Int) (c3:(List Ai)):Option ((List Ai)):=
 (Di c0 c1 c2 most suites).bind fun y=>
 cond (decide (y.2=0))
  ((Gp c3 (fun x0=>Hv x0 y.1)).bind fun y_2=>
  Es.j2 most suites c3 y (!y_2))
  (Es.j2 most suites c3 y false)
def Ko (code:Int) (weak:Int):Option (Bool):=
 (Du code).bind fun y=>
 cond (decide (y.2=0))
  ((A6 y.1.Mac).bind fun y_2=>
  some (decide (y_2 < weak)))
  (some false)
def F2 (a:Ai) (b:Ai):Option (Int):=
 (Gl a.Outcome.Version b.Outcome.Version).bind fun y=>
 (Gl a.Outcome.Suite b.Outcome.Suite).bind fun y_2=>
 (Hj ([y,y_2]:List Int)).bind fun y_3=>
 some y_3
def An.j3 (i_1:Int) (j_2:Int) (data_2:List Ai) (x34_3:Bool):Option (Lp (Int×List Ai) (Lp (Int×List Ai) ((List Ai)))):=
 cond (x34_3)
  ((Bn data_2 (W (j_2 - 1))).bind fun e_3=>
  (Bn data_2 j_2).bind fun e_4=>
  (Bn (Jd data_2 ((j_2).toNat) e_3) (W (j_2 - 1))).bind fun e_5=>
  some (.next (W (j_2 - 1),Jd (Jd data_2 ((j_2).toNat) e_3) ((W (j_2 - 1)).toNat) e_4)))
  (up (
   some (.next (W (i_1 + 1),data_2))))
def An.l2 (a:Int) (cmp:Ai->Ai->Option (Int)) (i_1:Int) (j_2:Int) (data_2:List Ai):Option (Lp (Int×List Ai) (Lp (Int×List Ai) ((List Ai)))):=
 cond (decide (a < j_2))
  ((Bn data_2 j_2).bind fun e=>
  (Bn data_2 (W (j_2 - 1))).bind fun e_2=>
  (cmp e e_2).bind fun y=>
  An.j3 i_1 j_2 data_2 (decide (y < 0)))
  (An.j3 i_1 j_2 data_2 false)
def An.l1 (a:Int) (b:Int) (cmp:Ai->Ai->Option (Int)) (i_1:Int) (data_1:List Ai):Option (Lp (Int×List Ai) ((List Ai))):=
 cond (decide (i_1 < b))
  (C7 (fun q'=>An.l2 a cmp i_1 q'.1 q'.2) (i_1,data_1))
  (up (some data_1))
def An (data:List Ai) (a:Int) (b:Int) (cmp:Ai->Ai->Option (Int)):Option ((List Ai)):=
 C7 (fun q'=>An.l1 a b cmp q'.1 q'.2) (W (a + 1),data)
def Ck.l1 (data:List Ai) (a:Int) (b:Int) (limit:Int) (cmp:Ai->Ai->Option (Int)):Option (Lp (Unit) ((List Ai))):=
 cond (decide ((W (b - a))<=12))
  ((An data a b cmp).bind fun y=>
  up (some y))
  (cond (decide (limit=0))
   (none)
   (none))
def Ck (data:List Ai) (a:Int) (b:Int) (limit:Int) (cmp:Ai->Ai->Option (Int)):Option ((List Ai)):=
 C7 (fun _=>Ck.l1 data a b limit cmp) ()
def Hn (x':List Ai) (cmp:Ai->Ai->Option (Int)):Option ((List Ai)):=
 (Hf (IntKind.wrap .u64 (x'.length:Int))).bind fun y=>
 (Ck x' 0 (x'.length:Int) y cmp).bind fun y_2=>
 some y_2
def Bg.j9 (x71_8:Int) (l_9:List Ai):Option (Lp (Int×List Ai) (Lp (Int×List Ai) ((List Ai)×Int))):=
 some (.next (W (x71_8 + 1),l_9))
def Bg.l8 (client:Ad) (server:Ad) (day:Int) (weak:Int) (most_7:Int) (x71_8:Int) (l_8:List Ai):Option (Lp (Int×List Ai) (Lp (Int×List Ai) ((List Ai)×Int))):=
 cond (decide (x71_8 < (client.Suites.length:Int)))
  ((Bn client.Suites x71_8).bind fun e=>
  (Ko e weak).bind fun y_4=>
  cond (y_4)
   ((Es most_7 ([e]:List Int) client server day l_8).bind fun y_5=>
   Bg.j9 x71_8 y_5)
   (Bg.j9 x71_8 l_8))
  (up (
   some (.next (W (most_7 - 1),l_8))))
def Bg.l7 (client:Ad) (server:Ad) (day:Int) (weak:Int) (most_7:Int) (l_7:List Ai):Option (Lp (Int×List Ai) ((List Ai)×Int)):=
 cond (decide (client.Least<=most_7))
  (C7 (fun q'=>Bg.l8 client server day weak most_7 q'.1 q'.2) (0,l_7))
  (up (
   (Hn l_7 (fun x0 x1=>F2 x0 x1)).bind fun y_6=>
   some (y_6,0)))
def Bg.l6 (client:Ad) (server:Ad) (day:Int) (weak:Int) (least_5:Int) (most_6:Int) (l_6:List Ai):Option (Lp (Int×List Ai) ((List Ai)×Int)):=
 cond (decide (least_5<=most_6))
  ((Es most_6 client.Suites client server day l_6).bind fun y_3=>
  some (.next (W (most_6 - 1),y_3)))
  (up (
   C7 (fun q'=>Bg.l7 client server day weak q'.1 q'.2) (client.Most,l_6)))
def Bg.j5 (client:Ad) (server:Ad) (day:Int) (weak:Int) (least_5:Int):Option ((List Ai)×Int):=
 C7 (fun q'=>Bg.l6 client server day weak least_5 q'.1 q'.2) (client.Most,([]:List Ai))
def Bg.j2 (client:Ad) (server:Ad) (day:Int) (weak:Int) (x26_2:Bool):Option ((List Ai)×Int):=
 cond (x26_2)
  (some (([]:(List Ai)),2))
  (cond (client.Fallback)
   (Bg.j5 client server day weak client.Least)
   (Bg.j5 client server day weak client.Most))
def Bg.j1 (client:Ad) (server:Ad) (day:Int) (weak:Int) (x17_1:Bool):Option ((List Ai)×Int):=
 cond (x17_1)
  (some (([]:(List Ai)),19))
  (cond (decide (day < 0))
   (Bg.j2 client server day weak true)
   (cond (decide (40000 < day))
    (Bg.j2 client server day weak true)
    (cond (decide (weak < 0))
     (Bg.j2 client server day weak true)
     (Bg.j2 client server day weak (decide (512 < weak))))))
def Bg (client:Ad) (server:Ad) (day:Int) (weak:Int):Option ((List Ai)×Int):=
 (Bu client).bind fun y=>
 cond (!decide (y=0))
  (Bg.j1 client server day weak true)
  ((Bu server).bind fun y_2=>
  Bg.j1 client server day weak (!decide (y_2=0)))
def Eu.j2 (x36_1:Int) (out_2:List Ai):Option (Lp (Int×List Ai) ((List Ai)×Int)):=
 some (.next (W (x36_1 + 1),out_2))
def Eu.l1 (server:Ad) (p:Br) (l:(List Ap)) (o:Fl) (day:Int) (y:(List Ai)×Int) (x36_1:Int) (out_1:List Ai):Option (Lp (Int×List Ai) ((List Ai)×Int)):=
 cond (decide (x36_1 < (y.1.length:Int)))
  ((Bn y.1 x36_1).bind fun e=>
  (De p l o server e.Outcome day).bind fun y_2=>
  cond (!decide (y_2.2=0))
   (up (some (([]:(List Ai)),y_2.2)))
   (cond (y_2.1)
    ((Hc 192 out_1 ([e]:List Ai)).bind fun l_2=>
    Eu.j2 x36_1 l_2)
    (Eu.j2 x36_1 out_1)))
  (up (
   some (out_1,0)))
def Eu (client:Ad) (server:Ad) (p:Br) (l:(List Ap)) (o:Fl) (day:Int) (weak:Int):Option ((List Ai)×Int):=
 (Bg client server day weak).bind fun y=>
 cond (!decide (y.2=0))
  (some (([]:(List Ai)),y.2))
  (C7 (fun q'=>Eu.l1 server p l o day y q'.1 q'.2) (0,([]:List Ai)))
def Hq (l:List Ay) (more:(List Ay)):Option ((List Ay)):=
 (Hc 72 l more).bind fun l_2=>
 some l_2
def Bs.j4 (x91_2:Int) (out_4:List Ay):Option (Lp (Int×List Ay) ((List Ay))):=
 some (.next (W (x91_2 + 1),out_4))
def Bs.j3 (i:Int) (x91_2:Int) (out_2:List Ay) (e_4:Ai) (x102_3:Bool):Option (Lp (Int×List Ay) ((List Ay))):=
 cond (x102_3)
  ((Hq out_2 ([(Ay.mk 3 i e_4.Outcome.Suite)]:List Ay)).bind fun y_6=>
  Bs.j4 x91_2 y_6)
  (Bs.j4 x91_2 out_2)
def Bs.l2 (i:Int) (y:C8×Int) (y_5:(List Ai)×Int) (x91_2:Int) (out_2:List Ay):Option (Lp (Int×List Ay) ((List Ay))):=
 cond (decide (x91_2 < (y_5.1.length:Int)))
  ((Bn y_5.1 x91_2).bind fun e_4=>
  cond (!decide (y.2=0))
   (Bs.j3 i x91_2 out_2 e_4 true)
   (Bs.j3 i x91_2 out_2 e_4 (!decide (e_4.Outcome=y.1))))
  (up (
   some out_2))
def Bs.j1 (v:Fs) (i:Int) (day:Int) (e_2:Ad) (e_3:Ad) (y:C8×Int) (out_1:List Ay):Option ((List Ay)):=
 (Eu e_2 e_3 v.policy v.exceptions v.owners day v.weak).bind fun y_5=>
 C7 (fun q'=>Bs.l2 i y y_5 q'.1 q'.2) (0,out_1)
def Bs (v:Fs) (i:Int) (day:Int):Option ((List Ay)):=
 (Bn v.estate.Edges i).bind fun e=>
 (Bn v.estate.Endpoints e.Client).bind fun e_2=>
 (Bn v.estate.Endpoints e.Server).bind fun e_3=>
 (Kt e_2 e_3 day).bind fun y=>
 cond (!decide (y.2=0))
  ((Hu ([(Ay.mk 1 i 0)]:List Ay)).bind fun y_2=>
  Bs.j1 v i day e_2 e_3 y y_2)
  ((De v.policy v.exceptions v.owners e_3 y.1 day).bind fun y_3=>
  cond (y_3.1)
   ((Hu ([(Ay.mk 2 i y.1.Suite)]:List Ay)).bind fun y_4=>
   Bs.j1 v i day e_2 e_3 y y_4)
   (Bs.j1 v i day e_2 e_3 y ([]:List Ay)))
def C2.j4 (x51_2:Int) (out_4:List Ay):Option (Lp (Int×List Ay) ((List Ay)×Int)):=
 some (.next (W (x51_2 + 1),out_4))
def C2.j3 (x51_2:Int) (out_2:List Ay) (x71_3:Bool):Option (Lp (Int×List Ay) ((List Ay)×Int)):=
 cond (x71_3)
  ((Hq out_2 ([(Ay.mk 4 x51_2 0)]:List Ay)).bind fun y_5=>
  C2.j4 x51_2 y_5)
  (C2.j4 x51_2 out_2)
def C2.l2 (e:Ak) (p:Br) (day:Int) (x51_2:Int) (out_2:List Ay):Option (Lp (Int×List Ay) ((List Ay)×Int)):=
 cond (decide (x51_2 < (e.Items.length:Int)))
  ((Bn e.Items x51_2).bind fun e_2=>
  (Dh p e_2).bind fun y_4=>
  cond (y_4.2.1)
   (C2.j3 x51_2 out_2 (decide (y_4.1<=(min e_2.Until day))))
   (C2.j3 x51_2 out_2 false))
  (up (
   some (out_2,0)))
def C2.l1 (e:Ak) (p:Br) (l:(List Ap)) (o:Fl) (day:Int) (weak:Int) (x38_1:Int) (out_1:List Ay):Option (Lp (Int×List Ay) ((List Ay)×Int)):=
 cond (decide (x38_1 < (e.Edges.length:Int)))
  ((Bs (Fs.mk e p l o weak) x38_1 day).bind fun y_2=>
  (Hq out_1 y_2).bind fun y_3=>
  some (.next (W (x38_1 + 1),y_3)))
  (up (
   C7 (fun q'=>C2.l2 e p day q'.1 q'.2) (0,out_1)))
def C2 (e:Ak) (p:Br) (l:(List Ap)) (o:Fl) (day:Int) (weak:Int):Option ((List Ay)×Int):=
 (El (Fs.mk e p l o weak) day).bind fun y=>
 cond (!decide (y=0))
  (some (([]:(List Ay)),y))
  (C7 (fun q'=>C2.l1 e p l o day weak q'.1 q'.2) (0,([]:List Ay)))
def J9.l1 (l:(List Int)) (n:Int) (x9_1:Int):Option (Lp (Int) (Bool)):=
 cond (decide (x9_1 < (l.length:Int)))
  ((Bn l x9_1).bind fun e=>
  cond (decide (e=n))
   (up (some true))
   (some (.next (W (x9_1 + 1)))))
  (up (
   some false))
def J9 (l:(List Int)) (n:Int):Option (Bool):=
 C7 (fun q'=>J9.l1 l n q') 0
def Bb.j6 (na_4:Int) (a_4:List ByteArray) (s_2:ByteArray) (i_5:Int) (x91_6:Bool):Option (Lp (Int) (Lp (Int×Int×Int×List ByteArray) ((List ByteArray)))):=
 cond (x91_6)
  (some (.next (W (i_5 + 1))))
  (up (
   some (.next (W (na_4 + 1),i_5,i_5,Jd a_4 ((na_4).toNat) s_2))))
def Bb.l5 (s:ByteArray) (na_4:Int) (a_4:List ByteArray) (s_2:ByteArray) (i_5:Int):Option (Lp (Int) (Lp (Int×Int×Int×List ByteArray) ((List ByteArray)))):=
 cond (decide (i_5 < (s.size:Int)))
  ((Wo s i_5).bind fun c_4=>
  (Bn Rn (c_4.toNat:Int)).bind fun e_5=>
  Bb.j6 na_4 a_4 s_2 i_5 (!decide ((e_5.toNat:Int)=0)))
  (Bb.j6 na_4 a_4 s_2 i_5 false)
def Bb.l4 (s:ByteArray) (na_4:Int) (fieldStart_4:Int) (i_4:Int) (a_4:List ByteArray):Option (Lp (Int×Int×Int×List ByteArray) ((List ByteArray))):=
 cond (decide (i_4 < (s.size:Int)))
  ((Wo s i_4).bind fun c_3=>
  (Bn Rn (c_3.toNat:Int)).bind fun e_3=>
  cond (decide ((e_3.toNat:Int)=0))
   (some (.next (na_4,fieldStart_4,W (i_4 + 1),a_4)))
   ((eM s fieldStart_4 i_4).bind fun s_2=>
   (Bn a_4 na_4).bind fun e_4=>
   C7 (fun q'=>Bb.l5 s na_4 a_4 s_2 q') (W (i_4 + 1))))
  (up (
   cond (decide (fieldStart_4 < (s.size:Int)))
    ((eM s fieldStart_4 (s.size:Int)).bind fun s_3=>
    (Bn a_4 na_4).bind fun e_6=>
    some (Jd a_4 ((na_4).toNat) s_3))
    (some a_4)))
def Bb.j3 (s:ByteArray) (m:List ByteArray) (i_2:Int) (x53_3:Bool):Option (Lp (Int) ((List ByteArray))):=
 cond (x53_3)
  (some (.next (W (i_2 + 1))))
  (up (
   C7 (fun q'=>Bb.l4 s q'.1 q'.2.1 q'.2.2.1 q'.2.2.2) (0,i_2,i_2,m)))
def Bb.l2 (s:ByteArray) (m:List ByteArray) (i_2:Int):Option (Lp (Int) ((List ByteArray))):=
 cond (decide (i_2 < (s.size:Int)))
  ((Wo s i_2).bind fun c_2=>
  (Bn Rn (c_2.toNat:Int)).bind fun e_2=>
  Bb.j3 s m i_2 (!decide ((e_2.toNat:Int)=0)))
  (Bb.j3 s m i_2 false)
def Bb.l1 (s:ByteArray) (n_1:Int) (wasSpace_1:Int) (setBits_1:UInt8) (i_1:Int):Option (Lp (Int×Int×UInt8×Int) ((List ByteArray))):=
 cond (decide (i_1 < (s.size:Int)))
  ((Wo s i_1).bind fun c=>
  (Bn Rn (c.toNat:Int)).bind fun e=>
  some (.next (W (n_1 + (W7 .i64 wasSpace_1 (aFn .i64 (e.toNat:Int)))),(e.toNat:Int),(setBits_1 ||| c),W (i_1 + 1))))
  (up (
   cond (decide (128<=(setBits_1.toNat:Int)))
    (none)
    ((jI 16 n_1 ((⟨#[]⟩:ByteArray):ByteArray)).bind fun m=>
    C7 (fun q'=>Bb.l2 s m q') 0)))
def Bb (s:ByteArray):Option ((List ByteArray)):=
 C7 (fun q'=>Bb.l1 s q'.1 q'.2.1 q'.2.2.1 q'.2.2.2) (0,1,(0:UInt8),0)
def Hb.j1 (kind:Int) (y:(List ByteArray)) (x16_1:Bool):Option (ByteArray×Bool):=
 cond (x16_1)
  (some ((⟨#[]⟩:ByteArray),false))
  ((Bn y (W (kind - 1))).bind fun e=>
  some (e,true))
def Hb (words:ByteArray) (kind:Int):Option (ByteArray×Bool):=
 (Bb words).bind fun y=>
 cond (decide (kind < 1))
  (Hb.j1 kind y true)
  (Hb.j1 kind y (decide ((y.length:Int) < kind)))
def Qj:Option (F0):=
 some (F0.mk ([]:(List ByteArray)))
def F9 (l:F0) (s:ByteArray):Option (F0):=
 (Hc 16 l.words ([s]:List ByteArray)).bind fun l_2=>
 some (F0.mk l_2)
def Nt (l:F0):Option (ByteArray×F0):=
 (N8 l.words (⟨#[32]⟩:ByteArray)).bind fun y=>
 (aFv y (⟨#[10]⟩:ByteArray)).bind fun s=>
 some (s,l)
def Cc.j5 (l_5:List ByteArray):Option (ByteArray×Int):=
 (Nt (F0.mk l_5)).bind fun y_9=>
 some (y_9.1,0)
def Cc.j4 (r':Ay) (l_3:List ByteArray) (x86_4:Bool):Option (ByteArray×Int):=
 cond (x86_4)
  ((Du r'.Suite).bind fun y_7=>
  cond (!decide (y_7.2=0))
   (some ((⟨#[]⟩:ByteArray),2))
   ((F9 (F0.mk l_3) y_7.1.Name).bind fun y_8=>
   Cc.j5 y_8.words))
  (cond (!decide (r'.Suite=0))
   (some ((⟨#[]⟩:ByteArray),2))
   (Cc.j5 l_3))
def Cc.j3 (r':Ay) (l_3:List ByteArray):Option (ByteArray×Int):=
 cond (decide (r'.Kind=2))
  (Cc.j4 r' l_3 true)
  (Cc.j4 r' l_3 (decide (r'.Kind=3)))
def Cc.j2 (e:Ak) (r':Ay) (y:ByteArray×Bool) (x40_2:Bool):Option (ByteArray×Int):=
 cond (x40_2)
  (some ((⟨#[]⟩:ByteArray),2))
  ((Qj).bind fun y_2=>
  (F9 y_2 y.1).bind fun y_3=>
  cond (decide (r'.Kind=4))
   ((Bn e.Items r'.Index).bind fun e_2=>
   (F9 y_3 e_2.Name).bind fun y_4=>
   Cc.j3 r' y_4.words)
   ((Bn e.Edges r'.Index).bind fun e_3=>
   (Bn e.Endpoints e_3.Client).bind fun e_4=>
   (F9 y_3 e_4.Name).bind fun y_5=>
   (Bn e.Endpoints e_3.Server).bind fun e_5=>
   (F9 y_5 e_5.Name).bind fun y_6=>
   Cc.j3 r' y_6.words))
def Cc.j1 (e:Ak) (r':Ay) (y:ByteArray×Bool) (n_1:Int):Option (ByteArray×Int):=
 cond (!y.2)
  (Cc.j2 e r' y true)
  (cond (decide (r'.Index < 0))
   (Cc.j2 e r' y true)
   (Cc.j2 e r' y (decide (n_1<=r'.Index))))
def Cc (e:Ak) (r':Ay):Option (ByteArray×Int):=
 (Hb (⟨#[98,114,111,107,101,110,32,111,112,101,110,32,100,111,119,110,32,105,116,101,109]⟩:ByteArray) r'.Kind).bind fun y=>
 cond (decide (r'.Kind=4))
  (Cc.j1 e r' y (e.Items.length:Int))
  (Cc.j1 e r' y (e.Edges.length:Int))
def O6 (e:Ak) (r':Ay):Option (ByteArray×Int):=
 (Cp e).bind fun y=>
 cond (!decide (y=0))
  (some ((⟨#[]⟩:ByteArray),31))
  ((Cc e r').bind fun y_2=>
  some (y_2.1,y_2.2))
def A3.j9 (x53_2:Int) (x_9:Ak):Option (Lp (Int×Ak) (Bool)):=
 some (.next (W (x53_2 + 1),x_9))
def A3.j8 (x139_6:Int) (x163_8:Bool):Option (Lp (Int) (Lp (Int×Ak) (Bool))):=
 cond (x163_8)
  (up (up (some false)))
  (some (.next (W (x139_6 + 1))))
def A3.j7 (x_4:Ak) (x139_6:Int) (e_5:Ay) (x151_7:Bool):Option (Lp (Int) (Lp (Int×Ak) (Bool))):=
 cond (x151_7)
  (up (up (some false)))
  ((O6 x_4 e_5).bind fun y_13=>
  cond (!decide (y_13.2=0))
   (A3.j8 x139_6 true)
   (A3.j8 x139_6 (decide (y_13.1=(⟨#[]⟩:ByteArray)))))
def A3.l6 (x53_2:Int) (e:Int) (x_4:Ak) (y_11:(List Ay)×Int) (x139_6:Int):Option (Lp (Int) (Lp (Int×Ak) (Bool))):=
 cond (decide (x139_6 < (y_11.1.length:Int)))
  ((Bn y_11.1 x139_6).bind fun e_5=>
  cond (decide (e_5.Kind=4))
   (A3.j7 x_4 x139_6 e_5 (decide (e_5.Index=e)))
   (A3.j7 x_4 x139_6 e_5 false))
  (up (
   A3.j9 x53_2 x_4))
def A3.j5 (x53_2:Int) (e:Int) (x_4:Ak) (y_11:(List Ay)×Int) (x136_5:Bool):Option (Lp (Int×Ak) (Bool)):=
 cond (x136_5)
  (up (some false))
  (C7 (fun q'=>A3.l6 x53_2 e x_4 y_11 q') 0)
def A3.l4 (y_5:Int×Ae) (y_6:Int×Ae) (x53_2:Int) (e:Int) (y_8:(List A1)×Int) (x85_4:Int) (x_4:Ak):Option (Lp (Int×Ak) (Lp (Int×Ak) (Bool))):=
 cond (decide (x85_4 < (y_8.1.length:Int)))
  ((Bn y_8.1 x85_4).bind fun e_3=>
  (I2 x_4 (Br.mk ([(Al.mk false y_5.1 0 0 y_6.1 40001)]:List Al) ([]:(List Bk))) (L1.mk e e_3)).bind fun y_9=>
  cond (!decide (y_9.2=0))
   (up (up (some false)))
   (some (.next (W (x85_4 + 1),y_9.1))))
  (up (
   (S6 x_4 (Br.mk ([(Al.mk false y_5.1 0 0 y_6.1 40001)]:List Al) ([]:(List Bk)))).bind fun y_10=>
   (Bn x_4.Items e).bind fun e_4=>
   (C2 x_4 (Br.mk ([(Al.mk false y_5.1 0 0 y_6.1 40001)]:List Al) ([]:(List Bk))) ([]:(List Ap)) (Fl.mk ([]:(List Int)) 0) e_4.Until 0).bind fun y_11=>
   cond (!decide (y_10.2=0))
    (A3.j5 x53_2 e x_4 y_11 true)
    (cond (!decide (y_11.2=0))
     (A3.j5 x53_2 e x_4 y_11 true)
     ((J9 y_10.1 e).bind fun y_12=>
     cond (y_12)
      (A3.j5 x53_2 e x_4 y_11 true)
      (A3.j5 x53_2 e x_4 y_11 (decide ((y_8.1.length:Int)=0)))))))
def A3.j3 (y_4:Ak×Ae) (y_5:Int×Ae) (y_6:Int×Ae) (x53_2:Int) (x_2:Ak) (e:Int) (x65_3:Bool):Option (Lp (Int×Ak) (Bool)):=
 cond (x65_3)
  (up (some false))
  ((Bn y_4.1.Items e).bind fun e_2=>
  (Df (Br.mk ([(Al.mk false y_5.1 0 0 y_6.1 40001)]:List Al) ([]:(List Bk))) e_2 ([(Ah.mk 3 0),(Ah.mk 4 0)]:List Ah) 0).bind fun y_8=>
  cond (!decide (y_8.2=0))
   (cond (decide (y_8.2=51))
    (A3.j9 x53_2 x_2)
    (up (some false)))
   (C7 (fun q'=>A3.l4 y_5 y_6 x53_2 e y_8 q'.1 q'.2) (0,x_2)))
def A3.l2 (y_4:Ak×Ae) (y_5:Int×Ae) (y_6:Int×Ae) (y_7:(List Int)×Int) (x53_2:Int) (x_2:Ak):Option (Lp (Int×Ak) (Bool)):=
 cond (decide (x53_2 < (y_7.1.length:Int)))
  ((Bn y_7.1 x53_2).bind fun e=>
  cond (decide (e < 0))
   (A3.j3 y_4 y_5 y_6 x53_2 x_2 e true)
   (A3.j3 y_4 y_5 y_6 x53_2 x_2 e (decide ((y_4.1.Items.length:Int)<=e))))
  (up (
   (Iz).bind fun y_14=>
   some y_14))
def A3 (t:(List Int)):Option (Bool):=
 (Sx t).bind fun y=>
 cond (!y)
  ((Iz).bind fun y_2=>
  some y_2)
  ((Ue t).bind fun y_3=>
  (Bp y_3).bind fun y_4=>
  (Ir y_4.2 ([2,1,5]:List Int)).bind fun y_5=>
  (Ir y_5.2 ([30,60,200]:List Int)).bind fun y_6=>
  (S6 y_4.1 (Br.mk ([(Al.mk false y_5.1 0 0 y_6.1 40001)]:List Al) ([]:(List Bk)))).bind fun y_7=>
  cond (!decide (y_7.2=0))
   (some false)
   (C7 (fun q'=>A3.l2 y_4 y_5 y_6 y_7 q'.1 q'.2) (0,y_4.1)))
end
end Go.Proofs.YtboglmbblmakjaaGreatDoor
