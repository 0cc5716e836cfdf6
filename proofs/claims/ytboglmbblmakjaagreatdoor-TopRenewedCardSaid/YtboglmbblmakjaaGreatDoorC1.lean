import Derived.Test.YtboglmbblmakjaaGreatDoorL3
import Derived.Test.YtboglmbblmakjaaGreatDoorP1
set_option linter.unusedVariables false
set_option linter.unusedSimpArgs false
namespace Go.Proofs.YtboglmbblmakjaaGreatDoor
theorem As.yld_ {S:Type} {r r':S->Option (Nat×S)} (h:∀ s,As (r s) (r' s)) (q:Nat×S):As (tO r q) (tO r' q):=fun y hy=>by
 obtain⟨s,z,rfl,rfl,hz⟩:=W6 hy
 show (r' s).map _=_
 rw [h s z hz]
 rfl
theorem As.optC_ {α R:Type} {o:Option α} {a a':Option R} {b b':α->Option R} (h:As a a') (k:∀ x,As (b x) (b' x)):As (zF o a b) (zF o a' b'):=by
 cases o with
 | none=>exact h
 | some x=>exact k x
def Pe (fu:Nat) (x':Int):Option (Bool):=
 some (!decide (x'=x'))
theorem Zw (fu:Nat) {x':Int}:As (Pe fu x') (H5 x'):=by
 unfold Pe H5
 repeat' (with_reducible first | assumption | apply As.bind_ | apply As.cond_ | apply As.up_ | exact As.refl | intro _)
def Nu (fu:Nat) (x':Int) (y:Int):Option (Int):=
 (Pe fu x').bind fun y_2=>
 (Pe fu y).bind fun y_3=>
 cond (y_2)
  (cond (y_3)
   (some 0)
   (some (-1)))
  (cond (y_3)
   (some 1)
   (cond (decide (x' < y))
    (some (-1))
    (cond (decide (y < x'))
     (some 1)
     (some 0))))
theorem W3 (fu:Nat) {x':Int} {y:Int}:As (Nu fu x' y) (Gl x' y):=by
 unfold Nu Gl
 repeat' (with_reducible first | assumption | apply As.bind_ | apply As.cond_ | apply As.up_ | apply Zw | exact As.refl | intro _)
def Kg.l1 (fu:Nat) (vals:(List Int)) (x8_1:Int):Option (Lp (Int) (Int)):=
 cond (decide (x8_1 < (vals.length:Int)))
  ((Bn vals x8_1).bind fun e=>
  cond (!decide (e=0))
   (up (some e))
   (some (.next (W (x8_1 + 1)))))
  (up (
   some 0))
theorem Kg.l1_le (fu:Nat) {vals:(List Int)} {x8_1:Int}:As (Kg.l1 fu vals x8_1) (Hj.l1 vals x8_1):=by
 unfold Kg.l1 Hj.l1
 repeat' (with_reducible first | assumption | apply As.bind_ | apply As.cond_ | apply As.up_ | exact As.refl | intro _)
def Kg (fu:Nat) (vals:(List Int)):Option (Int):=
 Md fu (fun q'=>Kg.l1 fu vals q') 0
theorem gC (fu:Nat) {vals:(List Int)}:As (Kg fu vals) (Hj vals):=by
 unfold Kg Hj
 repeat' (with_reducible first | assumption | apply As.bind_ | apply As.cond_ | apply As.up_ | apply Kg.l1_le | (refine As.lpC _ (fun _=>?_) _) | exact As.refl | intro _)
def R6 (fu:Nat) (a:Bq) (b:Bq):Option (Int):=
 (Nu fu a.First b.First).bind fun y=>
 (Nu fu a.Then b.Then).bind fun y_2=>
 (Kg fu ([y,y_2]:List Int)).bind fun y_3=>
 some y_3
theorem Z3 (fu:Nat) {a:Bq} {b:Bq}:As (R6 fu a b) (Nb a b):=by
 unfold R6 Nb
 repeat' (with_reducible first | assumption | apply As.bind_ | apply As.cond_ | apply As.up_ | apply W3 | apply gC | exact As.refl | intro _)
def M8 (fu:Nat) (s:Int) (i:Int):Option (Bool):=
 (Q3 .u32 s i).bind fun q=>
 some (decide ((W7 .u32 q 1)=1))
theorem Pk (fu:Nat) {s:Int} {i:Int}:As (M8 fu s i) (J6 s i):=by
 unfold M8 J6
 repeat' (with_reducible first | assumption | apply As.bind_ | apply As.cond_ | apply As.up_ | exact As.refl | intro _)
def Nd (fu:Nat) (s:Int):Option (Int):=
 some s
theorem Pg (fu:Nat) {s:Int}:As (Nd fu s) (Jz s):=by
 unfold Nd Jz
 repeat' (with_reducible first | assumption | apply As.bind_ | apply As.cond_ | apply As.up_ | exact As.refl | intro _)
def Ih (fu:Nat) (x':Int):Option (Int):=
 cond (decide (x'=0))
  (some 32)
  ((Q3 .u32 (IntKind.wrap .u32 ((W7 .u32 x' (IntKind.wrap .u32 (-x'))) * 125613361)) 27).bind fun q=>
  (Bn wR q).bind fun e=>
  some (e.toNat:Int))
theorem Mc (fu:Nat) {x':Int}:As (Ih fu x') (Gc x'):=by
 unfold Ih Gc
 repeat' (with_reducible first | assumption | apply As.bind_ | apply As.cond_ | apply As.up_ | exact As.refl | intro _)
def Fw.l1 (fu:Nat) {S:Type} (yield':Int->(Nat×S)->Option (Bool×(Nat×S))) (q_1:(Nat×S)) (b_1:Int):Option (Lp ((Nat×S)×Int) (Int×(Nat×S))):=
 cond (!decide (b_1=0))
  ((Ih fu b_1).bind fun y=>
  (cE .u32 1 y).bind fun q_2=>
  (yield' y q_1).bind fun y_2=>
  cond (!y_2.1)
   (up (some (Qn .u32 b_1 q_2,y_2.2)))
   (some (.next (y_2.2,Qn .u32 b_1 q_2))))
  (up (some (b_1,q_1)))
theorem Tq.l1 {S:Type} {yield':Int->(Nat×S)->Option (Bool×(Nat×S))} {q_1:(Nat×S)} {b_1:Int} {yield'_p:Int->(Nat×S)->Option (Bool×(Nat×S))} (h_yield':∀ (x0:Int) (x1:(Nat×S)),As (yield' x0 x1) (yield'_p x0 x1)):As (Ce.l1 yield' q_1 b_1) (Ce.l1 yield'_p q_1 b_1):=by
 unfold Ce.l1
 repeat' (with_reducible first | assumption | apply As.bind_ | apply As.cond_ | apply As.up_ | apply h_yield' | exact As.refl | intro _)
theorem Fw.l1_le (fu:Nat) {S:Type} {yield':Int->(Nat×S)->Option (Bool×(Nat×S))} {q_1:(Nat×S)} {b_1:Int} {yield'_p:Int->(Nat×S)->Option (Bool×(Nat×S))} (h_yield':∀ (x0:Int) (x1:(Nat×S)),As (yield' x0 x1) (yield'_p x0 x1)):As (Fw.l1 fu yield' q_1 b_1) (Ce.l1 yield'_p q_1 b_1):=by
 unfold Fw.l1 Ce.l1
 repeat' (with_reducible first | assumption | apply As.bind_ | apply As.cond_ | apply As.up_ | apply h_yield' | apply Mc | exact As.refl | intro _)
def Fw (fu:Nat) {S:Type} (yield':Int->(Nat×S)->Option (Bool×(Nat×S))) (c0:Int) (q:(Nat×S)):Option (Int×(Nat×S)):=
 Md fu (fun q'=>Fw.l1 fu yield' q'.1 q'.2) (q,c0)
theorem Tq {S:Type} {yield':Int->(Nat×S)->Option (Bool×(Nat×S))} {c0:Int} {q:(Nat×S)} {yield'_p:Int->(Nat×S)->Option (Bool×(Nat×S))} (h_yield':∀ (x0:Int) (x1:(Nat×S)),As (yield' x0 x1) (yield'_p x0 x1)):As (Ce yield' c0 q) (Ce yield'_p c0 q):=by
 unfold Ce
 repeat' (with_reducible first | assumption | apply As.bind_ | apply As.cond_ | apply As.up_ | apply h_yield' | apply Tq.l1 | (refine As.lp (fun _=>?_) _) | exact As.refl | intro _)
theorem Nl (fu:Nat) {S:Type} {yield':Int->(Nat×S)->Option (Bool×(Nat×S))} {c0:Int} {q:(Nat×S)} {yield'_p:Int->(Nat×S)->Option (Bool×(Nat×S))} (h_yield':∀ (x0:Int) (x1:(Nat×S)),As (yield' x0 x1) (yield'_p x0 x1)):As (Fw fu yield' c0 q) (Ce yield'_p c0 q):=by
 unfold Fw Ce
 repeat' (with_reducible first | assumption | apply As.bind_ | apply As.cond_ | apply As.up_ | apply h_yield' | apply Fw.l1_le | (refine As.lpC _ (fun _=>?_) _) | exact As.refl | intro _)
def Bw.j4 (fu:Nat) (x44_3:Int) (l_4:List Int):Option (Lp (Int×List Int) (Lp (Int×List Int) (A4))):=
 some (.next (W (x44_3 + 1),l_4))
theorem Bw.j4_le (fu:Nat) {x44_3:Int} {l_4:List Int}:As (Bw.j4 fu x44_3 l_4) (Bm.j4 x44_3 l_4):=by
 unfold Bw.j4 Bm.j4
 repeat' (with_reducible first | assumption | apply As.bind_ | apply As.cond_ | apply As.up_ | exact As.refl | intro _)
def Bw.l3 (fu:Nat) (n:Int) (x40_2:Int) (x44_3:Int) (l_3:List Int):Option (Lp (Int×List Int) (Lp (Int×List Int) (A4))):=
 cond (decide (x44_3 < n))
  ((Bn l_3 x44_3).bind fun e_3=>
  (M8 fu e_3 x40_2).bind fun y=>
  cond (y)
   ((Bn l_3 x40_2).bind fun e_4=>
   Bw.j4 fu x44_3 (Jd l_3 ((x44_3).toNat) (cA .u32 e_3 e_4)))
   (Bw.j4 fu x44_3 l_3))
  (up (
   some (.next (W (x40_2 + 1),l_3))))
theorem Bw.l3_le (fu:Nat) {n:Int} {x40_2:Int} {x44_3:Int} {l_3:List Int}:As (Bw.l3 fu n x40_2 x44_3 l_3) (Bm.l3 n x40_2 x44_3 l_3):=by
 unfold Bw.l3 Bm.l3
 repeat' (with_reducible first | assumption | apply As.bind_ | apply As.cond_ | apply As.up_ | apply Pk | apply Bw.j4_le | exact As.refl | intro _)
def Bw.r6 (fu:Nat) (x75_5:Int) (a:Int) (l_6:List Int):Option (Nat×(List Int)):=
 (Bn l_6 a).bind fun e_6=>
 (cE .u32 1 x75_5).bind fun q_2=>
 some (0,Jd l_6 ((a).toNat) (cA .u32 e_6 q_2))
theorem Bw.r6_le (fu:Nat) {x75_5:Int} {a:Int} {l_6:List Int}:As (Bw.r6 fu x75_5 a l_6) (Bm.r6 x75_5 a l_6):=by
 unfold Bw.r6 Bm.r6
 repeat' (with_reducible first | assumption | apply As.bind_ | apply As.cond_ | apply As.up_ | exact As.refl | intro _)
def Bw.l5 (fu:Nat) (n:Int) (l_2:List Int) (x75_5:Int) (l_5:List Int):Option (Lp (Int×List Int) (A4)):=
 cond (decide (x75_5 < n))
  ((Bn l_2 x75_5).bind fun e_5=>
  (Nd fu e_5).bind fun y_2=>
  (Fw fu (fun a0' q'=>tO (fun s'=>Bw.r6 fu x75_5 a0' s') q') y_2 (0,l_5)).bind fun y_3=>
  cond (Nat.beq y_3.2.1 0)
   (some (.next (W (x75_5 + 1),y_3.2.2)))
   (none))
  (up (
   some (A4.mk n l_2 l_5)))
theorem Bw.l5_le (fu:Nat) {n:Int} {l_2:List Int} {x75_5:Int} {l_5:List Int}:As (Bw.l5 fu n l_2 x75_5 l_5) (Bm.l5 n l_2 x75_5 l_5):=by
 unfold Bw.l5 Bm.l5
 repeat' (with_reducible first | assumption | apply As.bind_ | apply As.cond_ | apply As.up_ | apply Pg | apply Nl | apply Bw.r6_le | (refine As.yld_ (fun _=>?_) _) | exact As.refl | intro _)
def Bw.l2 (fu:Nat) (n:Int) (m_2:List Int) (x40_2:Int) (l_2:List Int):Option (Lp (Int×List Int) (A4)):=
 cond (decide (x40_2 < n))
  (Md fu (fun q'=>Bw.l3 fu n x40_2 q'.1 q'.2) (0,l_2))
  (up (
   Md fu (fun q'=>Bw.l5 fu n l_2 q'.1 q'.2) (0,m_2)))
theorem Bw.l2_le (fu:Nat) {n:Int} {m_2:List Int} {x40_2:Int} {l_2:List Int}:As (Bw.l2 fu n m_2 x40_2 l_2) (Bm.l2 n m_2 x40_2 l_2):=by
 unfold Bw.l2 Bm.l2
 repeat' (with_reducible first | assumption | apply As.bind_ | apply As.cond_ | apply As.up_ | apply Bw.l3_le | apply Bw.l5_le | (refine As.lpC _ (fun _=>?_) _) | exact As.refl | intro _)
def Bw.l1 (fu:Nat) (n:Int) (l:(List Bq)) (m_2:List Int) (x21_1:Int) (l_1:List Int):Option (Lp (Int×List Int) (A4)):=
 cond (decide (x21_1 < (l.length:Int)))
  ((Bn l x21_1).bind fun e=>
  (Bn l_1 e.Then).bind fun e_2=>
  (cE .u32 1 e.First).bind fun q=>
  some (.next (W (x21_1 + 1),Jd l_1 ((e.Then).toNat) (cA .u32 e_2 q))))
  (up (
   Md fu (fun q'=>Bw.l2 fu n m_2 q'.1 q'.2) (0,l_1)))
theorem Bw.l1_le (fu:Nat) {n:Int} {l:(List Bq)} {m_2:List Int} {x21_1:Int} {l_1:List Int}:As (Bw.l1 fu n l m_2 x21_1 l_1) (Bm.l1 n l m_2 x21_1 l_1):=by
 unfold Bw.l1 Bm.l1
 repeat' (with_reducible first | assumption | apply As.bind_ | apply As.cond_ | apply As.up_ | apply Bw.l2_le | (refine As.lpC _ (fun _=>?_) _) | exact As.refl | intro _)
def Bw (fu:Nat) (n:Int) (l:(List Bq)):Option (A4):=
 (jI 4 n (0:Int)).bind fun m=>
 (jI 4 n (0:Int)).bind fun m_2=>
 Md fu (fun q'=>Bw.l1 fu n l m_2 q'.1 q'.2) (0,m)
theorem Zn (fu:Nat) {n:Int} {l:(List Bq)}:As (Bw fu n l) (Bm n l):=by
 unfold Bw Bm
 repeat' (with_reducible first | assumption | apply As.bind_ | apply As.cond_ | apply As.up_ | apply Bw.l1_le | (refine As.lpC _ (fun _=>?_) _) | exact As.refl | intro _)
def B1.j3 (fu:Nat) (x20_2:Int) (x50_3:Bool):Option (Lp (Int) (Option A4×Int)):=
 cond (x50_3)
  (up (some (none,44)))
  (some (.next (W (x20_2 + 1))))
theorem B1.j3_le (fu:Nat) {x20_2:Int} {x50_3:Bool}:As (B1.j3 fu x20_2 x50_3) (B3.j3 x20_2 x50_3):=by
 unfold B1.j3 B3.j3
 repeat' (with_reducible first | assumption | apply As.bind_ | apply As.cond_ | apply As.up_ | exact As.refl | intro _)
def B1.j5 (fu:Nat) (x54_4:Int) (x71_5:Bool):Option (Lp (Int) (Option A4×Int)):=
 cond (x71_5)
  (up (some (none,6)))
  (some (.next (W (x54_4 + 1))))
theorem B1.j5_le (fu:Nat) {x54_4:Int} {x71_5:Bool}:As (B1.j5 fu x54_4 x71_5) (B3.j5 x54_4 x71_5):=by
 unfold B1.j5 B3.j5
 repeat' (with_reducible first | assumption | apply As.bind_ | apply As.cond_ | apply As.up_ | exact As.refl | intro _)
def B1.l6 (fu:Nat) (y_2:A4) (x81_6:Int):Option (Lp (Int) (Option A4×Int)):=
 cond (decide (x81_6 < (y_2.before.length:Int)))
  ((Bn y_2.before x81_6).bind fun e_4=>
  (M8 fu e_4 x81_6).bind fun y_3=>
  cond (y_3)
   (up (some (none,45)))
   (some (.next (W (x81_6 + 1)))))
  (up (
   some (some y_2,0)))
theorem B1.l6_le (fu:Nat) {y_2:A4} {x81_6:Int}:As (B1.l6 fu y_2 x81_6) (B3.l6 y_2 x81_6):=by
 unfold B1.l6 B3.l6
 repeat' (with_reducible first | assumption | apply As.bind_ | apply As.cond_ | apply As.up_ | apply Pk | exact As.refl | intro _)
def B1.l4 (fu:Nat) (n:Int) (l:(List Bq)) (x54_4:Int):Option (Lp (Int) (Option A4×Int)):=
 cond (decide (x54_4 < (l.length:Int)))
  (cond (decide (0 < x54_4))
   ((Bn l (W (x54_4 - 1))).bind fun e_2=>
   (Bn l x54_4).bind fun e_3=>
   (R6 fu e_2 e_3).bind fun y=>
   B1.j5 fu x54_4 (decide (0<=y)))
   (B1.j5 fu x54_4 false))
  (up (
   (Bw fu n l).bind fun y_2=>
   Md fu (fun q'=>B1.l6 fu y_2 q') 0))
theorem B1.l4_le (fu:Nat) {n:Int} {l:(List Bq)} {x54_4:Int}:As (B1.l4 fu n l x54_4) (B3.l4 n l x54_4):=by
 unfold B1.l4 B3.l4
 repeat' (with_reducible first | assumption | apply As.bind_ | apply As.cond_ | apply As.up_ | apply Z3 | apply B1.j5_le | apply Zn | apply B1.l6_le | (refine As.lpC _ (fun _=>?_) _) | exact As.refl | intro _)
def B1.l2 (fu:Nat) (n:Int) (l:(List Bq)) (x20_2:Int):Option (Lp (Int) (Option A4×Int)):=
 cond (decide (x20_2 < (l.length:Int)))
  ((Bn l x20_2).bind fun e=>
  cond (decide (e.First < 0))
   (B1.j3 fu x20_2 true)
   (cond (decide (n<=e.First))
    (B1.j3 fu x20_2 true)
    (cond (decide (e.Then < 0))
     (B1.j3 fu x20_2 true)
     (cond (decide (n<=e.Then))
      (B1.j3 fu x20_2 true)
      (B1.j3 fu x20_2 (decide (e.First=e.Then)))))))
  (up (
   Md fu (fun q'=>B1.l4 fu n l q') 0))
theorem B1.l2_le (fu:Nat) {n:Int} {l:(List Bq)} {x20_2:Int}:As (B1.l2 fu n l x20_2) (B3.l2 n l x20_2):=by
 unfold B1.l2 B3.l2
 repeat' (with_reducible first | assumption | apply As.bind_ | apply As.cond_ | apply As.up_ | apply B1.j3_le | apply B1.l4_le | (refine As.lpC _ (fun _=>?_) _) | exact As.refl | intro _)
def B1.j1 (fu:Nat) (n:Int) (l:(List Bq)) (x17_1:Bool):Option (Option A4×Int):=
 cond (x17_1)
  (some (none,2))
  (Md fu (fun q'=>B1.l2 fu n l q') 0)
theorem B1.j1_le (fu:Nat) {n:Int} {l:(List Bq)} {x17_1:Bool}:As (B1.j1 fu n l x17_1) (B3.j1 n l x17_1):=by
 unfold B1.j1 B3.j1
 repeat' (with_reducible first | assumption | apply As.bind_ | apply As.cond_ | apply As.up_ | apply B1.l2_le | (refine As.lpC _ (fun _=>?_) _) | exact As.refl | intro _)
def B1 (fu:Nat) (n:Int) (l:(List Bq)):Option (Option A4×Int):=
 cond (decide (n < 0))
  (B1.j1 fu n l true)
  (B1.j1 fu n l (decide (24 < n)))
theorem cL (fu:Nat) {n:Int} {l:(List Bq)}:As (B1 fu n l) (B3 n l):=by
 unfold B1 B3
 repeat' (with_reducible first | assumption | apply As.bind_ | apply As.cond_ | apply As.up_ | apply B1.j1_le | exact As.refl | intro _)
def Ct.j3 (fu:Nat) (x11_1:Int) (out_3:Int):Option (Lp (Int×Int) (Int×A4)):=
 some (.next (out_3,W (x11_1 + 1)))
theorem Ct.j3_le (fu:Nat) {x11_1:Int} {out_3:Int}:As (Ct.j3 fu x11_1 out_3) (Cn.j3 x11_1 out_3):=by
 unfold Ct.j3 Cn.j3
 repeat' (with_reducible first | assumption | apply As.bind_ | apply As.cond_ | apply As.up_ | exact As.refl | intro _)
def Ct.j2 (fu:Nat) (out_1:Int) (x11_1:Int) (x29_2:Bool):Option (Lp (Int×Int) (Int×A4)):=
 cond (x29_2)
  ((cE .u32 1 x11_1).bind fun q=>
  Ct.j3 fu x11_1 (cA .u32 out_1 q))
  (Ct.j3 fu x11_1 out_1)
theorem Ct.j2_le (fu:Nat) {out_1:Int} {x11_1:Int} {x29_2:Bool}:As (Ct.j2 fu out_1 x11_1 x29_2) (Cn.j2 out_1 x11_1 x29_2):=by
 unfold Ct.j2 Cn.j2
 repeat' (with_reducible first | assumption | apply As.bind_ | apply As.cond_ | apply As.up_ | apply Ct.j3_le | exact As.refl | intro _)
def Ct.l1 (fu:Nat) (o:A4) (s:Int) (out_1:Int) (x11_1:Int):Option (Lp (Int×Int) (Int×A4)):=
 cond (decide (x11_1 < o.n))
  ((M8 fu s x11_1).bind fun y=>
  cond (!y)
   ((Bn o.before x11_1).bind fun e=>
   Ct.j2 fu out_1 x11_1 (decide ((Qn .u32 e s)=0)))
   (Ct.j2 fu out_1 x11_1 false))
  (up (
   some (out_1,o)))
theorem Ct.l1_le (fu:Nat) {o:A4} {s:Int} {out_1:Int} {x11_1:Int}:As (Ct.l1 fu o s out_1 x11_1) (Cn.l1 o s out_1 x11_1):=by
 unfold Ct.l1 Cn.l1
 repeat' (with_reducible first | assumption | apply As.bind_ | apply As.cond_ | apply As.up_ | apply Pk | apply Ct.j2_le | exact As.refl | intro _)
def Ct (fu:Nat) (o:A4) (s:Int):Option (Int×A4):=
 Md fu (fun q'=>Ct.l1 fu o s q'.1 q'.2) (0,0)
theorem Vt (fu:Nat) {o:A4} {s:Int}:As (Ct fu o s) (Cn o s):=by
 unfold Ct Cn
 repeat' (with_reducible first | assumption | apply As.bind_ | apply As.cond_ | apply As.up_ | apply Ct.l1_le | (refine As.lpC _ (fun _=>?_) _) | exact As.refl | intro _)
def C4.j3 (fu:Nat) (x_3:Int) (n_3:Int):Option (Int):=
 (Wo (⟨#[0,1,2,2,3,3,3,3,4,4,4,4,4,4,4,4,5,5,5,5,5,5,5,5,5,5,5,5,5,5,5,5,6,6,6,6,6,6,6,6,6,6,6,6,6,6,6,6,6,6,6,6,6,6,6,6,6,6,6,6,6,6,6,6,7,7,7,7,7,7,7,7,7,7,7,7,7,7,7,7,7,7,7,7,7,7,7,7,7,7,7,7,7,7,7,7,7,7,7,7,7,7,7,7,7,7,7,7,7,7,7,7,7,7,7,7,7,7,7,7,7,7,7,7,7,7,7,7,8,8,8,8,8,8,8,8,8,8,8,8,8,8,8,8,8,8,8,8,8,8,8,8,8,8,8,8,8,8,8,8,8,8,8,8,8,8,8,8,8,8,8,8,8,8,8,8,8,8,8,8,8,8,8,8,8,8,8,8,8,8,8,8,8,8,8,8,8,8,8,8,8,8,8,8,8,8,8,8,8,8,8,8,8,8,8,8,8,8,8,8,8,8,8,8,8,8,8,8,8,8,8,8,8,8,8,8,8,8,8,8,8,8,8,8,8,8,8,8,8,8,8,8,8,8,8,8]⟩:ByteArray) ((u8 x_3).toNat:Int)).bind fun c=>
 some (W (n_3 + (c.toNat:Int)))
theorem C4.j3_le (fu:Nat) {x_3:Int} {n_3:Int}:As (C4.j3 fu x_3 n_3) (Cz.j3 x_3 n_3):=by
 unfold C4.j3 Cz.j3
 repeat' (with_reducible first | assumption | apply As.bind_ | apply As.cond_ | apply As.up_ | exact As.refl | intro _)
def C4.j2 (fu:Nat) (x_2:Int) (n_2:Int):Option (Int):=
 cond (decide (256<=x_2))
  ((Q3 .u64 x_2 8).bind fun q_3=>
  C4.j3 fu q_3 (W (n_2 + 8)))
  (C4.j3 fu x_2 n_2)
theorem C4.j2_le (fu:Nat) {x_2:Int} {n_2:Int}:As (C4.j2 fu x_2 n_2) (Cz.j2 x_2 n_2):=by
 unfold C4.j2 Cz.j2
 repeat' (with_reducible first | assumption | apply As.bind_ | apply As.cond_ | apply As.up_ | apply C4.j3_le | exact As.refl | intro _)
def C4.j1 (fu:Nat) (x_1:Int) (n_1:Int):Option (Int):=
 cond (decide (65536<=x_1))
  ((Q3 .u64 x_1 16).bind fun q_2=>
  C4.j2 fu q_2 (W (n_1 + 16)))
  (C4.j2 fu x_1 n_1)
theorem C4.j1_le (fu:Nat) {x_1:Int} {n_1:Int}:As (C4.j1 fu x_1 n_1) (Cz.j1 x_1 n_1):=by
 unfold C4.j1 Cz.j1
 repeat' (with_reducible first | assumption | apply As.bind_ | apply As.cond_ | apply As.up_ | apply C4.j2_le | exact As.refl | intro _)
def C4 (fu:Nat) (x':Int):Option (Int):=
 cond (decide (4294967296<=x'))
  ((Q3 .u64 x' 32).bind fun q=>
  C4.j1 fu q 32)
  (C4.j1 fu x' 0)
theorem W4 (fu:Nat) {x':Int}:As (C4 fu x') (Cz x'):=by
 unfold C4 Cz
 repeat' (with_reducible first | assumption | apply As.bind_ | apply As.cond_ | apply As.up_ | apply C4.j1_le | exact As.refl | intro _)
def Sb (fu:Nat) (x':Int):Option (Int):=
 (C4 fu x').bind fun y=>
 some y
theorem Zf (fu:Nat) {x':Int}:As (Sb fu x') (Hf x'):=by
 unfold Sb Hf
 repeat' (with_reducible first | assumption | apply As.bind_ | apply As.cond_ | apply As.up_ | apply W4 | exact As.refl | intro _)
def Kx (fu:Nat) (x':Int):Option (Bool):=
 some (!decide (x'=x'))
theorem Ul (fu:Nat) {x':Int}:As (Kx fu x') (Ht x'):=by
 unfold Kx Ht
 repeat' (with_reducible first | assumption | apply As.bind_ | apply As.cond_ | apply As.up_ | exact As.refl | intro _)
def Me (fu:Nat) (x':Int) (y:Int):Option (Int):=
 (Kx fu x').bind fun y_2=>
 (Kx fu y).bind fun y_3=>
 cond (y_2)
  (cond (y_3)
   (some 0)
   (some (-1)))
  (cond (y_3)
   (some 1)
   (cond (decide (x' < y))
    (some (-1))
    (cond (decide (y < x'))
     (some 1)
     (some 0))))
theorem Tk (fu:Nat) {x':Int} {y:Int}:As (Me fu x' y) (Ic x' y):=by
 unfold Me Ic
 repeat' (with_reducible first | assumption | apply As.bind_ | apply As.cond_ | apply As.up_ | apply Ul | exact As.refl | intro _)
def Sf (fu:Nat) (a:Int) (b:Int):Option (Int):=
 (Ih fu (bS .u32 a b)).bind fun y=>
 (Q3 .u32 b y).bind fun q=>
 (Q3 .u32 a y).bind fun q_2=>
 (Me fu (W7 .u32 q 1) (W7 .u32 q_2 1)).bind fun y_2=>
 some y_2
theorem Zl (fu:Nat) {a:Int} {b:Int}:As (Sf fu a b) (K8 a b):=by
 unfold Sf K8
 repeat' (with_reducible first | assumption | apply As.bind_ | apply As.cond_ | apply As.up_ | apply Mc | apply Tk | exact As.refl | intro _)
def Ax.j3 (fu:Nat) (i_1:Int) (j_2:Int) (data_2:List Int) (x34_3:Bool):Option (Lp (Int×List Int) (Lp (Int×List Int) ((List Int)))):=
 cond (x34_3)
  ((Bn data_2 (W (j_2 - 1))).bind fun e_3=>
  (Bn data_2 j_2).bind fun e_4=>
  (Bn (Jd data_2 ((j_2).toNat) e_3) (W (j_2 - 1))).bind fun e_5=>
  some (.next (W (j_2 - 1),Jd (Jd data_2 ((j_2).toNat) e_3) ((W (j_2 - 1)).toNat) e_4)))
  (up (
   some (.next (W (i_1 + 1),data_2))))
theorem Ax.j3_le (fu:Nat) {i_1:Int} {j_2:Int} {data_2:List Int} {x34_3:Bool}:As (Ax.j3 fu i_1 j_2 data_2 x34_3) (Aj.j3 i_1 j_2 data_2 x34_3):=by
 unfold Ax.j3 Aj.j3
 repeat' (with_reducible first | assumption | apply As.bind_ | apply As.cond_ | apply As.up_ | exact As.refl | intro _)
def Ax.l2 (fu:Nat) (a:Int) (cmp:Int->Int->Option (Int)) (i_1:Int) (j_2:Int) (data_2:List Int):Option (Lp (Int×List Int) (Lp (Int×List Int) ((List Int)))):=
 cond (decide (a < j_2))
  ((Bn data_2 j_2).bind fun e=>
  (Bn data_2 (W (j_2 - 1))).bind fun e_2=>
  (cmp e e_2).bind fun y=>
  Ax.j3 fu i_1 j_2 data_2 (decide (y < 0)))
  (Ax.j3 fu i_1 j_2 data_2 false)
theorem E5.l2 {a:Int} {cmp:Int->Int->Option (Int)} {i_1:Int} {j_2:Int} {data_2:List Int} {cmp_p:Int->Int->Option (Int)} (h_cmp:∀ (x0:Int) (x1:Int),As (cmp x0 x1) (cmp_p x0 x1)):As (Aj.l2 a cmp i_1 j_2 data_2) (Aj.l2 a cmp_p i_1 j_2 data_2):=by
 unfold Aj.l2
 repeat' (with_reducible first | assumption | apply As.bind_ | apply As.cond_ | apply As.up_ | apply h_cmp | exact As.refl | intro _)
theorem Ax.l2_le (fu:Nat) {a:Int} {cmp:Int->Int->Option (Int)} {i_1:Int} {j_2:Int} {data_2:List Int} {cmp_p:Int->Int->Option (Int)} (h_cmp:∀ (x0:Int) (x1:Int),As (cmp x0 x1) (cmp_p x0 x1)):As (Ax.l2 fu a cmp i_1 j_2 data_2) (Aj.l2 a cmp_p i_1 j_2 data_2):=by
 unfold Ax.l2 Aj.l2
 repeat' (with_reducible first | assumption | apply As.bind_ | apply As.cond_ | apply As.up_ | apply h_cmp | apply Ax.j3_le | exact As.refl | intro _)
def Ax.l1 (fu:Nat) (a:Int) (b:Int) (cmp:Int->Int->Option (Int)) (i_1:Int) (data_1:List Int):Option (Lp (Int×List Int) ((List Int))):=
 cond (decide (i_1 < b))
  (Md fu (fun q'=>Ax.l2 fu a cmp i_1 q'.1 q'.2) (i_1,data_1))
  (up (some data_1))
theorem E5.l1 {a:Int} {b:Int} {cmp:Int->Int->Option (Int)} {i_1:Int} {data_1:List Int} {cmp_p:Int->Int->Option (Int)} (h_cmp:∀ (x0:Int) (x1:Int),As (cmp x0 x1) (cmp_p x0 x1)):As (Aj.l1 a b cmp i_1 data_1) (Aj.l1 a b cmp_p i_1 data_1):=by
 unfold Aj.l1
 repeat' (with_reducible first | assumption | apply As.bind_ | apply As.cond_ | apply As.up_ | apply h_cmp | apply E5.l2 | (refine As.lp (fun _=>?_) _) | exact As.refl | intro _)
theorem Ax.l1_le (fu:Nat) {a:Int} {b:Int} {cmp:Int->Int->Option (Int)} {i_1:Int} {data_1:List Int} {cmp_p:Int->Int->Option (Int)} (h_cmp:∀ (x0:Int) (x1:Int),As (cmp x0 x1) (cmp_p x0 x1)):As (Ax.l1 fu a b cmp i_1 data_1) (Aj.l1 a b cmp_p i_1 data_1):=by
 unfold Ax.l1 Aj.l1
 repeat' (with_reducible first | assumption | apply As.bind_ | apply As.cond_ | apply As.up_ | apply h_cmp | apply Ax.l2_le | (refine As.lpC _ (fun _=>?_) _) | exact As.refl | intro _)
def Ax (fu:Nat) (data:List Int) (a:Int) (b:Int) (cmp:Int->Int->Option (Int)):Option ((List Int)):=
 Md fu (fun q'=>Ax.l1 fu a b cmp q'.1 q'.2) (W (a + 1),data)
theorem E5 {data:List Int} {a:Int} {b:Int} {cmp:Int->Int->Option (Int)} {cmp_p:Int->Int->Option (Int)} (h_cmp:∀ (x0:Int) (x1:Int),As (cmp x0 x1) (cmp_p x0 x1)):As (Aj data a b cmp) (Aj data a b cmp_p):=by
 unfold Aj
 repeat' (with_reducible first | assumption | apply As.bind_ | apply As.cond_ | apply As.up_ | apply h_cmp | apply E5.l1 | (refine As.lp (fun _=>?_) _) | exact As.refl | intro _)
theorem Mz (fu:Nat) {data:List Int} {a:Int} {b:Int} {cmp:Int->Int->Option (Int)} {cmp_p:Int->Int->Option (Int)} (h_cmp:∀ (x0:Int) (x1:Int),As (cmp x0 x1) (cmp_p x0 x1)):As (Ax fu data a b cmp) (Aj data a b cmp_p):=by
 unfold Ax Aj
 repeat' (with_reducible first | assumption | apply As.bind_ | apply As.cond_ | apply As.up_ | apply h_cmp | apply Ax.l1_le | (refine As.lpC _ (fun _=>?_) _) | exact As.refl | intro _)
def Do.l1 (fu:Nat) (data:List Int) (a:Int) (b:Int) (limit:Int) (cmp:Int->Int->Option (Int)):Option (Lp (Unit) ((List Int))):=
 cond (decide ((W (b - a))<=12))
  ((Ax fu data a b cmp).bind fun y=>
  up (some y))
  (cond (decide (limit=0))
   (none)
   (none))
theorem K3.l1 {data:List Int} {a:Int} {b:Int} {limit:Int} {cmp:Int->Int->Option (Int)} {cmp_p:Int->Int->Option (Int)} (h_cmp:∀ (x0:Int) (x1:Int),As (cmp x0 x1) (cmp_p x0 x1)):As (B0.l1 data a b limit cmp) (B0.l1 data a b limit cmp_p):=by
 unfold B0.l1
 repeat' (with_reducible first | assumption | apply As.bind_ | apply As.cond_ | apply As.up_ | apply h_cmp | apply E5 | exact As.refl | intro _)
theorem Do.l1_le (fu:Nat) {data:List Int} {a:Int} {b:Int} {limit:Int} {cmp:Int->Int->Option (Int)} {cmp_p:Int->Int->Option (Int)} (h_cmp:∀ (x0:Int) (x1:Int),As (cmp x0 x1) (cmp_p x0 x1)):As (Do.l1 fu data a b limit cmp) (B0.l1 data a b limit cmp_p):=by
 unfold Do.l1 B0.l1
 repeat' (with_reducible first | assumption | apply As.bind_ | apply As.cond_ | apply As.up_ | apply h_cmp | apply Mz | exact As.refl | intro _)
def Do (fu:Nat) (data:List Int) (a:Int) (b:Int) (limit:Int) (cmp:Int->Int->Option (Int)):Option ((List Int)):=
 Md fu (fun _=>Do.l1 fu data a b limit cmp) ()
theorem K3 {data:List Int} {a:Int} {b:Int} {limit:Int} {cmp:Int->Int->Option (Int)} {cmp_p:Int->Int->Option (Int)} (h_cmp:∀ (x0:Int) (x1:Int),As (cmp x0 x1) (cmp_p x0 x1)):As (B0 data a b limit cmp) (B0 data a b limit cmp_p):=by
 unfold B0
 repeat' (with_reducible first | assumption | apply As.bind_ | apply As.cond_ | apply As.up_ | apply h_cmp | apply K3.l1 | (refine As.lp (fun _=>?_) _) | exact As.refl | intro _)
theorem Ow (fu:Nat) {data:List Int} {a:Int} {b:Int} {limit:Int} {cmp:Int->Int->Option (Int)} {cmp_p:Int->Int->Option (Int)} (h_cmp:∀ (x0:Int) (x1:Int),As (cmp x0 x1) (cmp_p x0 x1)):As (Do fu data a b limit cmp) (B0 data a b limit cmp_p):=by
 unfold Do B0
 repeat' (with_reducible first | assumption | apply As.bind_ | apply As.cond_ | apply As.up_ | apply h_cmp | apply Do.l1_le | (refine As.lpC _ (fun _=>?_) _) | exact As.refl | intro _)
def Kd (fu:Nat) (x':List Int) (cmp:Int->Int->Option (Int)):Option ((List Int)):=
 (Sb fu (IntKind.wrap .u64 (x'.length:Int))).bind fun y=>
 (Do fu x' 0 (x'.length:Int) y cmp).bind fun y_2=>
 some y_2
theorem Rk (fu:Nat) {x':List Int} {cmp:Int->Int->Option (Int)} {cmp_p:Int->Int->Option (Int)} (h_cmp:∀ (x0:Int) (x1:Int),As (cmp x0 x1) (cmp_p x0 x1)):As (Kd fu x' cmp) (G2 x' cmp_p):=by
 unfold Kd G2
 repeat' (with_reducible first | assumption | apply As.bind_ | apply As.cond_ | apply As.up_ | apply h_cmp | apply Zf | apply Ow | exact As.refl | intro _)
def Hi.r1 (fu:Nat) (a:Int) (l_1:List Int):Option (Nat×(List Int)):=
 (Hc 8 l_1 ([a]:List Int)).bind fun l=>
 some (0,l)
theorem Hi.r1_le (fu:Nat) {a:Int} {l_1:List Int}:As (Hi.r1 fu a l_1) (F6.r1 a l_1):=by
 unfold Hi.r1 F6.r1
 repeat' (with_reducible first | assumption | apply As.bind_ | apply As.cond_ | apply As.up_ | exact As.refl | intro _)
def Hi (fu:Nat) (s:Int):Option ((List Int)):=
 (Nd fu s).bind fun y=>
 (Fw fu (fun a0' q'=>tO (fun s'=>Hi.r1 fu a0' s') q') y (0,([]:List Int))).bind fun y_2=>
 cond (Nat.beq y_2.2.1 0)
  (some y_2.2.2)
  (none)
theorem Yt (fu:Nat) {s:Int}:As (Hi fu s) (F6 s):=by
 unfold Hi F6
 repeat' (with_reducible first | assumption | apply As.bind_ | apply As.cond_ | apply As.up_ | apply Pg | apply Nl | apply Hi.r1_le | (refine As.yld_ (fun _=>?_) _) | exact As.refl | intro _)
def D1.r3 (fu:Nat) (e:Int) (a:Int) (m_3:(List (Int×Bool))) (l_3:List Int):Option (Nat×((List (Int×Bool))×List Int)):=
 (cE .u32 1 a).bind fun q=>
 cond (!(Pm m_3 (cA .u32 e q) false))
  ((Hc 4 l_3 ([cA .u32 e q]:List Int)).bind fun l_4=>
  some (0,(Rc m_3 (cA .u32 e q) true,l_4)))
  (some (0,(m_3,l_3)))
theorem D1.r3_le (fu:Nat) {e:Int} {a:Int} {m_3:(List (Int×Bool))} {l_3:List Int}:As (D1.r3 fu e a m_3 l_3) (Dn.r3 e a m_3 l_3):=by
 unfold D1.r3 Dn.r3
 repeat' (with_reducible first | assumption | apply As.bind_ | apply As.cond_ | apply As.up_ | exact As.refl | intro _)
def D1.l4 (fu:Nat) (o_2:A4) (y_5:(List Int)) (x69_4:Int) (out_4:List (List Int)):Option (Lp (Int×List (List Int)) (Lp (A4×List (List Int)×List Int) ((List (List Int))×Int))):=
 cond (decide (x69_4 < (y_5.length:Int)))
  ((Bn y_5 x69_4).bind fun e_2=>
  (Hi fu e_2).bind fun y_6=>
  (Hc 24 out_4 ([y_6]:List (List Int))).bind fun l_5=>
  some (.next (W (x69_4 + 1),l_5)))
  (up (
   some (.next (o_2,out_4,y_5))))
theorem D1.l4_le (fu:Nat) {o_2:A4} {y_5:(List Int)} {x69_4:Int} {out_4:List (List Int)}:As (D1.l4 fu o_2 y_5 x69_4 out_4) (Dn.l4 o_2 y_5 x69_4 out_4):=by
 unfold D1.l4 Dn.l4
 repeat' (with_reducible first | assumption | apply As.bind_ | apply As.cond_ | apply As.up_ | apply Yt | exact As.refl | intro _)
def D1.l2 (fu:Nat) (out_1:List (List Int)) (row_1:List Int) (x35_2:Int) (o_2:A4) (m_2:(List (Int×Bool))) (l_2:List Int):Option (Lp (Int×A4×(List (Int×Bool))×List Int) (Lp (A4×List (List Int)×List Int) ((List (List Int))×Int))):=
 cond (decide (x35_2 < (row_1.length:Int)))
  ((Bn row_1 x35_2).bind fun e=>
  (Ct fu o_2 e).bind fun y_2=>
  (Nd fu y_2.1).bind fun y_3=>
  (Fw fu (fun a0' q'=>tO (fun s'=>D1.r3 fu e a0' s'.1 s'.2) q') y_3 (0,(m_2,l_2))).bind fun y_4=>
  cond (Nat.beq y_4.2.1 0)
   (cond (decide (4096 < (W ((out_1.length:Int) + (y_4.2.2.2.length:Int)))))
    (up (up (some (([]:(List (List Int))),3))))
    (some (.next (W (x35_2 + 1),y_2.2,y_4.2.2.1,y_4.2.2.2))))
   (none))
  (up (
   (Kd fu l_2 (fun x0 x1=>Sf fu x0 x1)).bind fun y_5=>
   Md fu (fun q'=>D1.l4 fu o_2 y_5 q'.1 q'.2) (0,out_1)))
theorem D1.l2_le (fu:Nat) {out_1:List (List Int)} {row_1:List Int} {x35_2:Int} {o_2:A4} {m_2:(List (Int×Bool))} {l_2:List Int}:As (D1.l2 fu out_1 row_1 x35_2 o_2 m_2 l_2) (Dn.l2 out_1 row_1 x35_2 o_2 m_2 l_2):=by
 unfold D1.l2 Dn.l2
 repeat' (with_reducible first | assumption | apply As.bind_ | apply As.cond_ | apply As.up_ | apply Vt | apply Pg | apply Nl | apply D1.r3_le | apply Rk | apply Zl | apply D1.l4_le | (refine As.lpC _ (fun _=>?_) _) | (refine As.yld_ (fun _=>?_) _) | exact As.refl | intro _)
def D1.l1 (fu:Nat) (o_1:A4) (out_1:List (List Int)) (row_1:List Int):Option (Lp (A4×List (List Int)×List Int) ((List (List Int))×Int)):=
 cond (decide (0 < (row_1.length:Int)))
  (Md fu (fun q'=>D1.l2 fu out_1 row_1 q'.1 q'.2.1 q'.2.2.1 q'.2.2.2) (0,o_1,([]:(List (Int×Bool))),([]:List Int)))
  (up (
   some (out_1,0)))
theorem D1.l1_le (fu:Nat) {o_1:A4} {out_1:List (List Int)} {row_1:List Int}:As (D1.l1 fu o_1 out_1 row_1) (Dn.l1 o_1 out_1 row_1):=by
 unfold D1.l1 Dn.l1
 repeat' (with_reducible first | assumption | apply As.bind_ | apply As.cond_ | apply As.up_ | apply D1.l2_le | (refine As.lpC _ (fun _=>?_) _) | exact As.refl | intro _)
def D1 (fu:Nat) (n:Int) (l:(List Bq)):Option ((List (List Int))×Int):=
 (B1 fu n l).bind fun y=>
 zF y.1
  (cond (!decide (y.2=0))
   (some (([]:(List (List Int))),y.2))
   (none))
  (fun o=>
  cond (!decide (y.2=0))
   (some (([]:(List (List Int))),y.2))
   (Md fu (fun q'=>D1.l1 fu q'.1 q'.2.1 q'.2.2) (o,([([]:(List Int))]:List (List Int)),([0]:List Int))))
theorem gE (fu:Nat) {n:Int} {l:(List Bq)}:As (D1 fu n l) (Dn n l):=by
 unfold D1 Dn
 repeat' (with_reducible first | assumption | apply As.bind_ | apply As.cond_ | apply As.up_ | apply cL | apply D1.l1_le | (refine As.lpC _ (fun _=>?_) _) | (refine As.optC_ ?_ (fun _=>?_)) | exact As.refl | intro _)
def Xh (fu:Nat) (n:Int):Option (A5):=
 (jI 8 n (0:Int)).bind fun m=>
 some (A5.mk ([(Aw.mk (Bh.mk 0 300) ([0]:List Int))]:List Aw) m ([24]:List Int))
theorem iM (fu:Nat) {n:Int}:As (Xh fu n) (Rz n):=by
 unfold Xh Rz
 repeat' (with_reducible first | assumption | apply As.bind_ | apply As.cond_ | apply As.up_ | exact As.refl | intro _)
def Qw (fu:Nat) (n:Int):Option (Bool):=
 cond (decide (n < 0))
  (some true)
  (some (decide (24 < n)))
theorem Xq (fu:Nat) {n:Int}:As (Qw fu n) (Ju n):=by
 unfold Qw Ju
 repeat' (with_reducible first | assumption | apply As.bind_ | apply As.cond_ | apply As.up_ | exact As.refl | intro _)
def Fp.l1 (fu:Nat) (s:(List Int)) (f:Int->Option (Bool)) (x8_1:Int):Option (Lp (Int) (Int)):=
 cond (decide (x8_1 < (s.length:Int)))
  ((Bn s x8_1).bind fun e=>
  (f e).bind fun y=>
  cond (y)
   (up (some x8_1))
   (some (.next (W (x8_1 + 1)))))
  (up (
   some (-1)))
theorem Qy.l1 {s:(List Int)} {f:Int->Option (Bool)} {x8_1:Int} {f_p:Int->Option (Bool)} (h_f:∀ (x0:Int),As (f x0) (f_p x0)):As (Az.l1 s f x8_1) (Az.l1 s f_p x8_1):=by
 unfold Az.l1
 repeat' (with_reducible first | assumption | apply As.bind_ | apply As.cond_ | apply As.up_ | apply h_f | exact As.refl | intro _)
theorem Fp.l1_le (fu:Nat) {s:(List Int)} {f:Int->Option (Bool)} {x8_1:Int} {f_p:Int->Option (Bool)} (h_f:∀ (x0:Int),As (f x0) (f_p x0)):As (Fp.l1 fu s f x8_1) (Az.l1 s f_p x8_1):=by
 unfold Fp.l1 Az.l1
 repeat' (with_reducible first | assumption | apply As.bind_ | apply As.cond_ | apply As.up_ | apply h_f | exact As.refl | intro _)
def Fp (fu:Nat) (s:(List Int)) (f:Int->Option (Bool)):Option (Int):=
 Md fu (fun q'=>Fp.l1 fu s f q') 0
theorem Qy {s:(List Int)} {f:Int->Option (Bool)} {f_p:Int->Option (Bool)} (h_f:∀ (x0:Int),As (f x0) (f_p x0)):As (Az s f) (Az s f_p):=by
 unfold Az
 repeat' (with_reducible first | assumption | apply As.bind_ | apply As.cond_ | apply As.up_ | apply h_f | apply Qy.l1 | (refine As.lp (fun _=>?_) _) | exact As.refl | intro _)
theorem T0 (fu:Nat) {s:(List Int)} {f:Int->Option (Bool)} {f_p:Int->Option (Bool)} (h_f:∀ (x0:Int),As (f x0) (f_p x0)):As (Fp fu s f) (Az s f_p):=by
 unfold Fp Az
 repeat' (with_reducible first | assumption | apply As.bind_ | apply As.cond_ | apply As.up_ | apply h_f | apply Fp.l1_le | (refine As.lpC _ (fun _=>?_) _) | exact As.refl | intro _)
def Hm (fu:Nat) (s:(List Int)) (f:Int->Option (Bool)):Option (Bool):=
 (Fp fu s f).bind fun y=>
 some (decide (0<=y))
theorem J1 (fu:Nat) {s:(List Int)} {f:Int->Option (Bool)} {f_p:Int->Option (Bool)} (h_f:∀ (x0:Int),As (f x0) (f_p x0)):As (Hm fu s f) (Cs s f_p):=by
 unfold Hm Cs
 repeat' (with_reducible first | assumption | apply As.bind_ | apply As.cond_ | apply As.up_ | apply h_f | apply T0 | exact As.refl | intro _)
def Qp (fu:Nat) (w:Aw):Option (Bool):=
 cond (decide (w.Days.From < 0))
  (some true)
  (cond (decide (w.Days.To<=w.Days.From))
   (some true)
   (some (decide (40001 < w.Days.To))))
theorem Xv (fu:Nat) {w:Aw}:As (Qp fu w) (Jr w):=by
 unfold Qp Jr
 repeat' (with_reducible first | assumption | apply As.bind_ | apply As.cond_ | apply As.up_ | exact As.refl | intro _)
def Dv.l1 (fu:Nat) (s:(List Aw)) (f:Aw->Option (Bool)) (x8_1:Int):Option (Lp (Int) (Int)):=
 cond (decide (x8_1 < (s.length:Int)))
  ((Bn s x8_1).bind fun e=>
  (f e).bind fun y=>
  cond (y)
   (up (some x8_1))
   (some (.next (W (x8_1 + 1)))))
  (up (
   some (-1)))
theorem Mo.l1 {s:(List Aw)} {f:Aw->Option (Bool)} {x8_1:Int} {f_p:Aw->Option (Bool)} (h_f:∀ (x0:Aw),As (f x0) (f_p x0)):As (Be.l1 s f x8_1) (Be.l1 s f_p x8_1):=by
 unfold Be.l1
 repeat' (with_reducible first | assumption | apply As.bind_ | apply As.cond_ | apply As.up_ | apply h_f | exact As.refl | intro _)
theorem Dv.l1_le (fu:Nat) {s:(List Aw)} {f:Aw->Option (Bool)} {x8_1:Int} {f_p:Aw->Option (Bool)} (h_f:∀ (x0:Aw),As (f x0) (f_p x0)):As (Dv.l1 fu s f x8_1) (Be.l1 s f_p x8_1):=by
 unfold Dv.l1 Be.l1
 repeat' (with_reducible first | assumption | apply As.bind_ | apply As.cond_ | apply As.up_ | apply h_f | exact As.refl | intro _)
def Dv (fu:Nat) (s:(List Aw)) (f:Aw->Option (Bool)):Option (Int):=
 Md fu (fun q'=>Dv.l1 fu s f q') 0
theorem Mo {s:(List Aw)} {f:Aw->Option (Bool)} {f_p:Aw->Option (Bool)} (h_f:∀ (x0:Aw),As (f x0) (f_p x0)):As (Be s f) (Be s f_p):=by
 unfold Be
 repeat' (with_reducible first | assumption | apply As.bind_ | apply As.cond_ | apply As.up_ | apply h_f | apply Mo.l1 | (refine As.lp (fun _=>?_) _) | exact As.refl | intro _)
theorem Lj (fu:Nat) {s:(List Aw)} {f:Aw->Option (Bool)} {f_p:Aw->Option (Bool)} (h_f:∀ (x0:Aw),As (f x0) (f_p x0)):As (Dv fu s f) (Be s f_p):=by
 unfold Dv Be
 repeat' (with_reducible first | assumption | apply As.bind_ | apply As.cond_ | apply As.up_ | apply h_f | apply Dv.l1_le | (refine As.lpC _ (fun _=>?_) _) | exact As.refl | intro _)
def G7 (fu:Nat) (s:(List Aw)) (f:Aw->Option (Bool)):Option (Bool):=
 (Dv fu s f).bind fun y=>
 some (decide (0<=y))
theorem Ki (fu:Nat) {s:(List Aw)} {f:Aw->Option (Bool)} {f_p:Aw->Option (Bool)} (h_f:∀ (x0:Aw),As (f x0) (f_p x0)):As (G7 fu s f) (D6 s f_p):=by
 unfold G7 D6
 repeat' (with_reducible first | assumption | apply As.bind_ | apply As.cond_ | apply As.up_ | apply h_f | apply Lj | exact As.refl | intro _)
def Um (fu:Nat) (c:A5) (n:Int):Option (Bool):=
 cond (decide (0<=n))
  (some (decide (n < (c.Room.length:Int))))
  (some false)
theorem cS (fu:Nat) {c:A5} {n:Int}:As (Um fu c n) (O7 c n):=by
 unfold Um O7
 repeat' (with_reducible first | assumption | apply As.bind_ | apply As.cond_ | apply As.up_ | exact As.refl | intro _)
def Nw (fu:Nat) (n:Int) (c0:A5):Option (Bool):=
 (Um fu c0 n).bind fun y=>
 some (!y)
theorem Rv (fu:Nat) {n:Int} {c0:A5}:As (Nw fu n c0) (Hp n c0):=by
 unfold Nw Hp
 repeat' (with_reducible first | assumption | apply As.bind_ | apply As.cond_ | apply As.up_ | apply cS | exact As.refl | intro _)
def Qm (fu:Nat) (w:Aw) (c0:A5):Option (Bool):=
 (Hm fu w.Teams (fun x0=>Nw fu x0 c0)).bind fun y=>
 some y
theorem X1 (fu:Nat) {w:Aw} {c0:A5}:As (Qm fu w c0) (Js w c0):=by
 unfold Qm Js
 repeat' (with_reducible first | assumption | apply As.bind_ | apply As.cond_ | apply As.up_ | apply J1 | apply Rv | exact As.refl | intro _)
def Bz.j5 (fu:Nat) (x53_4:Int) (x69_5:Bool):Option (Lp (Int) (Lp (Int) (Int))):=
 cond (x69_5)
  (up (up (some 6)))
  (some (.next (W (x53_4 + 1))))
theorem Bz.j5_le (fu:Nat) {x53_4:Int} {x69_5:Bool}:As (Bz.j5 fu x53_4 x69_5) (By.j5 x53_4 x69_5):=by
 unfold Bz.j5 By.j5
 repeat' (with_reducible first | assumption | apply As.bind_ | apply As.cond_ | apply As.up_ | exact As.refl | intro _)
def Bz.l4 (fu:Nat) (x29_2:Int) (e:Aw) (x53_4:Int):Option (Lp (Int) (Lp (Int) (Int))):=
 cond (decide (x53_4 < (e.Teams.length:Int)))
  ((Bn e.Teams x53_4).bind fun e_3=>
  cond (decide (0 < x53_4))
   ((Bn e.Teams (W (x53_4 - 1))).bind fun e_4=>
   Bz.j5 fu x53_4 (decide (e_3<=e_4)))
   (Bz.j5 fu x53_4 false))
  (up (
   some (.next (W (x29_2 + 1)))))
theorem Bz.l4_le (fu:Nat) {x29_2:Int} {e:Aw} {x53_4:Int}:As (Bz.l4 fu x29_2 e x53_4) (By.l4 x29_2 e x53_4):=by
 unfold Bz.l4 By.l4
 repeat' (with_reducible first | assumption | apply As.bind_ | apply As.cond_ | apply As.up_ | apply Bz.j5_le | exact As.refl | intro _)
def Bz.j3 (fu:Nat) (x29_2:Int) (e:Aw) (x49_3:Bool):Option (Lp (Int) (Int)):=
 cond (x49_3)
  (up (some 6))
  (Md fu (fun q'=>Bz.l4 fu x29_2 e q') 0)
theorem Bz.j3_le (fu:Nat) {x29_2:Int} {e:Aw} {x49_3:Bool}:As (Bz.j3 fu x29_2 e x49_3) (By.j3 x29_2 e x49_3):=by
 unfold Bz.j3 By.j3
 repeat' (with_reducible first | assumption | apply As.bind_ | apply As.cond_ | apply As.up_ | apply Bz.l4_le | (refine As.lpC _ (fun _=>?_) _) | exact As.refl | intro _)
def Bz.j8 (fu:Nat) (x87_8:Bool):Option (Int):=
 cond (x87_8)
  (some 1)
  (some 0)
theorem Bz.j8_le (fu:Nat) {x87_8:Bool}:As (Bz.j8 fu x87_8) (By.j8 x87_8):=by
 unfold Bz.j8 By.j8
 repeat' (with_reducible first | assumption | apply As.bind_ | apply As.cond_ | apply As.up_ | exact As.refl | intro _)
def Bz.l2 (fu:Nat) (c:A5) (endpoints:Int) (x29_2:Int):Option (Lp (Int) (Int)):=
 cond (decide (x29_2 < (c.Windows.length:Int)))
  ((Bn c.Windows x29_2).bind fun e=>
  cond (decide (0 < x29_2))
   ((Bn c.Windows (W (x29_2 - 1))).bind fun e_2=>
   Bz.j3 fu x29_2 e (decide (e.Days.From < e_2.Days.To)))
   (Bz.j3 fu x29_2 e false))
  (up (
   (G7 fu c.Windows (fun x0=>Qm fu x0 c)).bind fun y_3=>
   cond (y_3)
    (some 2)
    (cond (!decide ((c.Team.length:Int)=endpoints))
     (Bz.j8 fu true)
     ((Hm fu c.Team (fun x0=>Nw fu x0 c)).bind fun y_4=>
     Bz.j8 fu y_4))))
theorem Bz.l2_le (fu:Nat) {c:A5} {endpoints:Int} {x29_2:Int}:As (Bz.l2 fu c endpoints x29_2) (By.l2 c endpoints x29_2):=by
 unfold Bz.l2 By.l2
 repeat' (with_reducible first | assumption | apply As.bind_ | apply As.cond_ | apply As.up_ | apply Bz.j3_le | apply Ki | apply X1 | apply Bz.j8_le | apply J1 | apply Rv | exact As.refl | intro _)
def Bz.j1 (fu:Nat) (c:A5) (endpoints:Int) (x19_1:Bool):Option (Int):=
 cond (x19_1)
  (some 3)
  ((Hm fu c.Room (fun x0=>Qw fu x0)).bind fun y=>
  cond (y)
   (some 2)
   ((G7 fu c.Windows (fun x0=>Qp fu x0)).bind fun y_2=>
   cond (y_2)
    (some 47)
    (Md fu (fun q'=>Bz.l2 fu c endpoints q') 0)))
theorem Bz.j1_le (fu:Nat) {c:A5} {endpoints:Int} {x19_1:Bool}:As (Bz.j1 fu c endpoints x19_1) (By.j1 c endpoints x19_1):=by
 unfold Bz.j1 By.j1
 repeat' (with_reducible first | assumption | apply As.bind_ | apply As.cond_ | apply As.up_ | apply J1 | apply Xq | apply Ki | apply Xv | apply Bz.l2_le | (refine As.lpC _ (fun _=>?_) _) | exact As.refl | intro _)
def Bz (fu:Nat) (c:A5) (endpoints:Int):Option (Int):=
 cond (decide (32 < (c.Windows.length:Int)))
  (Bz.j1 fu c endpoints true)
  (Bz.j1 fu c endpoints (decide (8 < (c.Room.length:Int))))
theorem aS (fu:Nat) {c:A5} {endpoints:Int}:As (Bz fu c endpoints) (By c endpoints):=by
 unfold Bz By
 repeat' (with_reducible first | assumption | apply As.bind_ | apply As.cond_ | apply As.up_ | apply Bz.j1_le | exact As.refl | intro _)
def Vo (fu:Nat) (c:A5):Option (Int):=
 (Bz fu c (c.Team.length:Int)).bind fun y=>
 some y
theorem fD (fu:Nat) {c:A5}:As (Vo fu c) (Qb c):=by
 unfold Vo Qb
 repeat' (with_reducible first | assumption | apply As.bind_ | apply As.cond_ | apply As.up_ | apply aS | exact As.refl | intro _)
def Te (fu:Nat) (w:Aw) (c0:Int):Option (Bool):=
 cond (decide (w.Days.From<=c0))
  (some (decide (c0 < w.Days.To)))
  (some false)
theorem aE (fu:Nat) {w:Aw} {c0:Int}:As (Te fu w c0) (Mf w c0):=by
 unfold Te Mf
 repeat' (with_reducible first | assumption | apply As.bind_ | apply As.cond_ | apply As.up_ | exact As.refl | intro _)
def Xs (fu:Nat) (c:A5) (day:Int):Option (Int):=
 (Dv fu c.Windows (fun x0=>Te fu x0 day)).bind fun y=>
 some y
theorem jU (fu:Nat) {c:A5} {day:Int}:As (Xs fu c day) (Ry c day):=by
 unfold Xs Ry
 repeat' (with_reducible first | assumption | apply As.bind_ | apply As.cond_ | apply As.up_ | apply Lj | apply aE | exact As.refl | intro _)
def Xb (fu:Nat) (c:A5) (day:Int):Option (Int×Bool×Int):=
 (Vo fu c).bind fun y=>
 cond (!decide (y=0))
  (some (0,false,y))
  ((Xs fu c day).bind fun y_2=>
  some (max y_2 0,decide (0<=y_2),0))
theorem jJ (fu:Nat) {c:A5} {day:Int}:As (Xb fu c day) (Rw c day):=by
 unfold Xb Rw
 repeat' (with_reducible first | assumption | apply As.bind_ | apply As.cond_ | apply As.up_ | apply fD | apply jU | exact As.refl | intro _)
def Jh.l1 (fu:Nat) (s:ByteArray) (h_1:Int) (x7_1:Int):Option (Lp (Int×Int) (Int)):=
 cond (decide (x7_1 < (s.size:Int)))
  ((Wo s x7_1).bind fun c=>
  some (.next (IntKind.wrap .u32 ((bS .u32 h_1 (IntKind.wrap .u32 (c.toNat:Int))) * 16777619),W (x7_1 + 1))))
  (up (
   some (W h_1)))
theorem Jh.l1_le (fu:Nat) {s:ByteArray} {h_1:Int} {x7_1:Int}:As (Jh.l1 fu s h_1 x7_1) (Iq.l1 s h_1 x7_1):=by
 unfold Jh.l1 Iq.l1
 repeat' (with_reducible first | assumption | apply As.bind_ | apply As.cond_ | apply As.up_ | exact As.refl | intro _)
def Jh (fu:Nat) (s:ByteArray):Option (Int):=
 Md fu (fun q'=>Jh.l1 fu s q'.1 q'.2) (2166136261,0)
theorem dX (fu:Nat) {s:ByteArray}:As (Jh fu s) (Iq s):=by
 unfold Jh Iq
 repeat' (with_reducible first | assumption | apply As.bind_ | apply As.cond_ | apply As.up_ | apply Jh.l1_le | (refine As.lpC _ (fun _=>?_) _) | exact As.refl | intro _)
def Ef.j3 (fu:Nat) (more_3:Bool):Option (Int):=
 cond (more_3)
  (some 2)
  (some 3)
theorem Ef.j3_le (fu:Nat) {more_3:Bool}:As (Ef.j3 fu more_3) (D7.j3 more_3):=by
 unfold Ef.j3 D7.j3
 repeat' (with_reducible first | assumption | apply As.bind_ | apply As.cond_ | apply As.up_ | exact As.refl | intro _)
def Ef.j2 (fu:Nat) (e:Ad) (c:Fx) (x13_2:Bool):Option (Int):=
 cond (x13_2)
  (Ef.j3 fu true)
  (cond (decide (c.Kind=3))
   (Ef.j3 fu (decide (e.Most < c.Number)))
   (cond (decide (c.Kind=4))
    (Ef.j3 fu (decide (c.Number < e.Least)))
    (cond (decide (c.Kind=11))
     (Ef.j3 fu (decide (c.Number=1)))
     (Ef.j3 fu false))))
theorem Ef.j2_le (fu:Nat) {e:Ad} {c:Fx} {x13_2:Bool}:As (Ef.j2 fu e c x13_2) (D7.j2 e c x13_2):=by
 unfold Ef.j2 D7.j2
 repeat' (with_reducible first | assumption | apply As.bind_ | apply As.cond_ | apply As.up_ | apply Ef.j3_le | exact As.refl | intro _)
def Ef.j1 (fu:Nat) (e:Ad) (c:Fx) (x8_1:Bool):Option (Int):=
 cond (x8_1)
  (some 0)
  (cond (decide (c.Kind=5))
   (some 1)
   (cond (decide (c.Kind=1))
    (Ef.j2 fu e c (decide (c.Kind=1)))
    (Ef.j2 fu e c (decide (c.Kind=12)))))
theorem Ef.j1_le (fu:Nat) {e:Ad} {c:Fx} {x8_1:Bool}:As (Ef.j1 fu e c x8_1) (D7.j1 e c x8_1):=by
 unfold Ef.j1 D7.j1
 repeat' (with_reducible first | assumption | apply As.bind_ | apply As.cond_ | apply As.up_ | apply Ef.j2_le | exact As.refl | intro _)
def Ef (fu:Nat) (e:Ad) (c:Fx):Option (Int):=
 cond (decide (c.Kind=7))
  (Ef.j1 fu e c (decide (c.Kind=7)))
  (Ef.j1 fu e c (decide (c.Kind=9)))
theorem iH (fu:Nat) {e:Ad} {c:Fx}:As (Ef fu e c) (D7 e c):=by
 unfold Ef D7
 repeat' (with_reducible first | assumption | apply As.bind_ | apply As.cond_ | apply As.up_ | apply Ef.j1_le | exact As.refl | intro _)
def Uc (fu:Nat):Option (Bool):=
 (D1 fu 2 ([(Bq.mk 0 1)]:List Bq)).bind fun y=>
 (Xh fu 1).bind fun y_2=>
 (Xb fu y_2 7).bind fun y_3=>
 cond (decide (y.2=0))
  (cond (decide (y_3.2.2=0))
   (cond (decide ((y.1.length:Int)=3))
    (cond (y_3.2.1)
     (cond (decide (y_3.1=0))
      ((Jh fu (⟨#[]⟩:ByteArray)).bind fun y_4=>
      cond (decide (y_4=2166136261))
       ((Ef fu (Ad.mk (⟨#[]⟩:ByteArray) 0 0 ([]:(List Int)) false ([]:(List Av)) ([]:(List Int)) ([]:(List Int)) false) (Fx.mk 0 5 0 0 (Av.mk (Ah.mk 0 0) 0 ([]:(List Ab))))).bind fun y_5=>
       some (decide (y_5=1)))
       (some false))
      (some false))
     (some false))
    (some false))
   (some false))
  (some false)
theorem Xr (fu:Nat):As (Uc fu) (Iz):=by
 unfold Uc Iz
 repeat' (with_reducible first | assumption | apply As.bind_ | apply As.cond_ | apply As.up_ | apply gE | apply iM | apply jJ | apply dX | apply iH | exact As.refl | intro _)
theorem m_ref01_copies.l1 {rec:(List Aa)->Option ((List Aa))} {l:(List Aa)} {i_1:Int} {out_1:List Aa} {rec_p:(List Aa)->Option ((List Aa))} (h_rec:∀ (x0:(List Aa)),As (rec x0) (rec_p x0)):As (Dy.l1 rec l i_1 out_1) (Dy.l1 rec_p l i_1 out_1):=by
 unfold Dy.l1
 repeat' (with_reducible first | assumption | apply As.bind_ | apply As.cond_ | apply As.up_ | apply h_rec | exact As.refl | intro _)
theorem m_ref01_copies.F {rec:(List Aa)->Option ((List Aa))} {l:(List Aa)} {rec_p:(List Aa)->Option ((List Aa))} (h_rec:∀ (x0:(List Aa)),As (rec x0) (rec_p x0)):As (Dy.F rec l) (Dy.F rec_p l):=by
 unfold Dy.F
 repeat' (with_reducible first | assumption | apply As.bind_ | apply As.cond_ | apply As.up_ | apply h_rec | apply m_ref01_copies.l1 | (refine As.lp (fun _=>?_) _) | exact As.refl | intro _)
theorem bI:Wi (fun rec (x:(List Aa))=>Dy.F (fun l=>rec l) x):=fun p q h a=>by
 apply m_ref01_copies.F
 intros
 apply h
theorem m_ref01_formed.l2 {rec:Aa->Option (Bool)} {v:Aa} {i_2:Int} {rec_p:Aa->Option (Bool)} (h_rec:∀ (x0:Aa),As (rec x0) (rec_p x0)):As (Cg.l2 rec v i_2) (Cg.l2 rec_p v i_2):=by
 unfold Cg.l2
 repeat' (with_reducible first | assumption | apply As.bind_ | apply As.cond_ | apply As.up_ | apply h_rec | exact As.refl | intro _)
theorem m_ref01_formed.j1 {rec:Aa->Option (Bool)} {v:Aa} {x38_1:Bool} {rec_p:Aa->Option (Bool)} (h_rec:∀ (x0:Aa),As (rec x0) (rec_p x0)):As (Cg.j1 rec v x38_1) (Cg.j1 rec_p v x38_1):=by
 unfold Cg.j1
 repeat' (with_reducible first | assumption | apply As.bind_ | apply As.cond_ | apply As.up_ | apply h_rec | apply m_ref01_formed.l2 | (refine As.lp (fun _=>?_) _) | exact As.refl | intro _)
theorem m_ref01_formed.F {rec:Aa->Option (Bool)} {v:Aa} {rec_p:Aa->Option (Bool)} (h_rec:∀ (x0:Aa),As (rec x0) (rec_p x0)):As (Cg.F rec v) (Cg.F rec_p v):=by
 unfold Cg.F
 repeat' (with_reducible first | assumption | apply As.bind_ | apply As.cond_ | apply As.up_ | apply h_rec | apply m_ref01_formed.j1 | exact As.refl | intro _)
theorem aV:Wi (fun rec (x:Aa)=>Cg.F (fun v=>rec v) x):=fun p q h a=>by
 apply m_ref01_formed.F
 intros
 apply h
theorem m_ref01_depth.l1 {rec:Aa->Option (Int)} {v:Aa} {d_1:Int} {i_1:Int} {rec_p:Aa->Option (Int)} (h_rec:∀ (x0:Aa),As (rec x0) (rec_p x0)):As (D9.l1 rec v d_1 i_1) (D9.l1 rec_p v d_1 i_1):=by
 unfold D9.l1
 repeat' (with_reducible first | assumption | apply As.bind_ | apply As.cond_ | apply As.up_ | apply h_rec | exact As.refl | intro _)
theorem m_ref01_depth.F {rec:Aa->Option (Int)} {v:Aa} {rec_p:Aa->Option (Int)} (h_rec:∀ (x0:Aa),As (rec x0) (rec_p x0)):As (D9.F rec v) (D9.F rec_p v):=by
 unfold D9.F
 repeat' (with_reducible first | assumption | apply As.bind_ | apply As.cond_ | apply As.up_ | apply h_rec | apply m_ref01_depth.l1 | (refine As.lp (fun _=>?_) _) | exact As.refl | intro _)
theorem dZ:Wi (fun rec (x:Aa)=>D9.F (fun v=>rec v) x):=fun p q h a=>by
 apply m_ref01_depth.F
 intros
 apply h
theorem m_ref01_put.l1 {rec:Aa->Option ((List UInt8))} {v:Aa} {i_1:Int} {b_1:List UInt8} {rec_p:Aa->Option ((List UInt8))} (h_rec:∀ (x0:Aa),As (rec x0) (rec_p x0)):As (Fc.l1 rec v i_1 b_1) (Fc.l1 rec_p v i_1 b_1):=by
 unfold Fc.l1
 repeat' (with_reducible first | assumption | apply As.bind_ | apply As.cond_ | apply As.up_ | apply h_rec | exact As.refl | intro _)
theorem m_ref01_put.F {rec:Aa->Option ((List UInt8))} {v:Aa} {rec_p:Aa->Option ((List UInt8))} (h_rec:∀ (x0:Aa),As (rec x0) (rec_p x0)):As (Fc.F rec v) (Fc.F rec_p v):=by
 unfold Fc.F
 repeat' (with_reducible first | assumption | apply As.bind_ | apply As.cond_ | apply As.up_ | apply h_rec | apply m_ref01_put.l1 | (refine As.lp (fun _=>?_) _) | exact As.refl | intro _)
theorem jD:Wi (fun rec (x:Aa)=>Fc.F (fun v=>rec v) x):=fun p q h a=>by
 apply m_ref01_put.F
 intros
 apply h
def D3 (fu:Nat) (alg:Int) (bits:Int):Option (Ah):=
 some (Ah.mk alg bits)
theorem dS (fu:Nat) {alg:Int} {bits:Int}:As (D3 fu alg bits) (Dp alg bits):=by
 unfold D3 Dp
 repeat' (with_reducible first | assumption | apply As.bind_ | apply As.cond_ | apply As.up_ | exact As.refl | intro _)
def Hl.l1 (fu:Nat) (y:Ah) (y_2:Ah) (y_3:Ah) (y_4:Ah) (y_5:Ah) (y_6:Ah) (y_7:Ah) (y_8:Ah) (y_9:Ah) (y_10:Ah) (y_11:Ah) (y_12:Ah) (y_13:Ah) (y_14:Ah) (y_15:Ah) (y_16:Ah) (y_17:Ah) (y_18:Ah) (y_19:Ah) (y_20:Ah) (y_21:Ah) (y_22:Ah) (x114_1:Int) (l_1:List Am):Option (Lp (Int×List Am) ((List Am))):=
 cond (decide (x114_1 < (([(Am.mk 0 (⟨#[114,115,97,45,114,99,52,45,109,100,53]⟩:ByteArray) y y_2 y_14 y_10 1 2),(Am.mk 0 (⟨#[114,115,97,45,114,99,52,45,115,104,97]⟩:ByteArray) y y_2 y_15 y_11 1 3),(Am.mk 0 (⟨#[114,115,97,45,100,101,115,51,45,115,104,97]⟩:ByteArray) y y_2 y_5 y_11 1 3),(Am.mk 0 (⟨#[100,104,101,45,100,115,97,45,100,101,115,51,45,115,104,97]⟩:ByteArray) y_16 y_3 y_5 y_11 1 3),(Am.mk 0 (⟨#[100,104,101,45,114,115,97,45,100,101,115,51,45,115,104,97]⟩:ByteArray) y_17 y_2 y_5 y_11 1 3),(Am.mk 0 (⟨#[114,115,97,45,97,101,115,49,50,56,45,115,104,97]⟩:ByteArray) y y_2 y_6 y_11 1 3),(Am.mk 0 (⟨#[100,104,101,45,114,115,97,45,97,101,115,49,50,56,45,115,104,97]⟩:ByteArray) y_18 y_2 y_6 y_11 1 3),(Am.mk 0 (⟨#[101,99,100,104,101,45,114,115,97,45,97,101,115,49,50,56,45,115,104,97]⟩:ByteArray) y_13 y_2 y_6 y_11 1 3),(Am.mk 0 (⟨#[101,99,100,104,101,45,101,99,100,115,97,45,97,101,115,50,53,54,45,115,104,97,50,53,54]⟩:ByteArray) y_13 y_4 y_19 y_20 3 3),(Am.mk 0 (⟨#[101,99,100,104,101,45,114,115,97,45,97,101,115,49,50,56,45,103,99,109]⟩:ByteArray) y_13 y_2 y_7 y_12 3 3),(Am.mk 0 (⟨#[101,99,100,104,101,45,101,99,100,115,97,45,97,101,115,50,53,54,45,103,99,109]⟩:ByteArray) y_21 y_4 y_8 y_12 3 3),(Am.mk 0 (⟨#[101,99,100,104,101,45,114,115,97,45,99,104,97,99,104,97]⟩:ByteArray) y_13 y_2 y_9 y_12 3 3),(Am.mk 0 (⟨#[114,115,97,45,97,101,115,50,53,54,45,103,99,109]⟩:ByteArray) y y_2 y_8 y_12 3 3),(Am.mk 0 (⟨#[97,101,115,49,50,56,45,103,99,109]⟩:ByteArray) y_13 (Ah.mk 0 0) y_7 y_12 4 4),(Am.mk 0 (⟨#[99,104,97,99,104,97]⟩:ByteArray) y_13 (Ah.mk 0 0) y_9 y_12 4 4),(Am.mk 0 (⟨#[109,108,107,101,109,45,97,101,115,50,53,54,45,103,99,109]⟩:ByteArray) y_22 (Ah.mk 0 0) y_8 y_12 4 4)]:List Am).length:Int)))
  ((Bn l_1 x114_1).bind fun e=>
  some (.next (W (x114_1 + 1),Jd l_1 ((x114_1).toNat) (Am.mk (W (x114_1 + 1)) e.Name e.Exchange e.Sign e.Cipher e.Mac e.Least e.Most))))
  (up (
   some l_1))
theorem Hl.l1_le (fu:Nat) {y:Ah} {y_2:Ah} {y_3:Ah} {y_4:Ah} {y_5:Ah} {y_6:Ah} {y_7:Ah} {y_8:Ah} {y_9:Ah} {y_10:Ah} {y_11:Ah} {y_12:Ah} {y_13:Ah} {y_14:Ah} {y_15:Ah} {y_16:Ah} {y_17:Ah} {y_18:Ah} {y_19:Ah} {y_20:Ah} {y_21:Ah} {y_22:Ah} {x114_1:Int} {l_1:List Am}:As (Hl.l1 fu y y_2 y_3 y_4 y_5 y_6 y_7 y_8 y_9 y_10 y_11 y_12 y_13 y_14 y_15 y_16 y_17 y_18 y_19 y_20 y_21 y_22 x114_1 l_1) (E1.l1 y y_2 y_3 y_4 y_5 y_6 y_7 y_8 y_9 y_10 y_11 y_12 y_13 y_14 y_15 y_16 y_17 y_18 y_19 y_20 y_21 y_22 x114_1 l_1):=by
 unfold Hl.l1 E1.l1
 repeat' (with_reducible first | assumption | apply As.bind_ | apply As.cond_ | apply As.up_ | exact As.refl | intro _)
def Hl (fu:Nat):Option ((List Am)):=
 (D3 fu 10 0).bind fun y=>
 (D3 fu 5 0).bind fun y_2=>
 (D3 fu 6 0).bind fun y_3=>
 (D3 fu 7 0).bind fun y_4=>
 (D3 fu 15 168).bind fun y_5=>
 (D3 fu 16 128).bind fun y_6=>
 (D3 fu 17 128).bind fun y_7=>
 (D3 fu 17 256).bind fun y_8=>
 (D3 fu 18 0).bind fun y_9=>
 (D3 fu 19 0).bind fun y_10=>
 (D3 fu 20 0).bind fun y_11=>
 (D3 fu 22 0).bind fun y_12=>
 (D3 fu 12 256).bind fun y_13=>
 (D3 fu 14 128).bind fun y_14=>
 (D3 fu 14 128).bind fun y_15=>
 (D3 fu 11 1024).bind fun y_16=>
 (D3 fu 11 1024).bind fun y_17=>
 (D3 fu 11 2048).bind fun y_18=>
 (D3 fu 16 256).bind fun y_19=>
 (D3 fu 21 0).bind fun y_20=>
 (D3 fu 12 384).bind fun y_21=>
 (D3 fu 13 768).bind fun y_22=>
 Md fu (fun q'=>Hl.l1 fu y y_2 y_3 y_4 y_5 y_6 y_7 y_8 y_9 y_10 y_11 y_12 y_13 y_14 y_15 y_16 y_17 y_18 y_19 y_20 y_21 y_22 q'.1 q'.2) (0,([(Am.mk 0 (⟨#[114,115,97,45,114,99,52,45,109,100,53]⟩:ByteArray) y y_2 y_14 y_10 1 2),(Am.mk 0 (⟨#[114,115,97,45,114,99,52,45,115,104,97]⟩:ByteArray) y y_2 y_15 y_11 1 3),(Am.mk 0 (⟨#[114,115,97,45,100,101,115,51,45,115,104,97]⟩:ByteArray) y y_2 y_5 y_11 1 3),(Am.mk 0 (⟨#[100,104,101,45,100,115,97,45,100,101,115,51,45,115,104,97]⟩:ByteArray) y_16 y_3 y_5 y_11 1 3),(Am.mk 0 (⟨#[100,104,101,45,114,115,97,45,100,101,115,51,45,115,104,97]⟩:ByteArray) y_17 y_2 y_5 y_11 1 3),(Am.mk 0 (⟨#[114,115,97,45,97,101,115,49,50,56,45,115,104,97]⟩:ByteArray) y y_2 y_6 y_11 1 3),(Am.mk 0 (⟨#[100,104,101,45,114,115,97,45,97,101,115,49,50,56,45,115,104,97]⟩:ByteArray) y_18 y_2 y_6 y_11 1 3),(Am.mk 0 (⟨#[101,99,100,104,101,45,114,115,97,45,97,101,115,49,50,56,45,115,104,97]⟩:ByteArray) y_13 y_2 y_6 y_11 1 3),(Am.mk 0 (⟨#[101,99,100,104,101,45,101,99,100,115,97,45,97,101,115,50,53,54,45,115,104,97,50,53,54]⟩:ByteArray) y_13 y_4 y_19 y_20 3 3),(Am.mk 0 (⟨#[101,99,100,104,101,45,114,115,97,45,97,101,115,49,50,56,45,103,99,109]⟩:ByteArray) y_13 y_2 y_7 y_12 3 3),(Am.mk 0 (⟨#[101,99,100,104,101,45,101,99,100,115,97,45,97,101,115,50,53,54,45,103,99,109]⟩:ByteArray) y_21 y_4 y_8 y_12 3 3),(Am.mk 0 (⟨#[101,99,100,104,101,45,114,115,97,45,99,104,97,99,104,97]⟩:ByteArray) y_13 y_2 y_9 y_12 3 3),(Am.mk 0 (⟨#[114,115,97,45,97,101,115,50,53,54,45,103,99,109]⟩:ByteArray) y y_2 y_8 y_12 3 3),(Am.mk 0 (⟨#[97,101,115,49,50,56,45,103,99,109]⟩:ByteArray) y_13 (Ah.mk 0 0) y_7 y_12 4 4),(Am.mk 0 (⟨#[99,104,97,99,104,97]⟩:ByteArray) y_13 (Ah.mk 0 0) y_9 y_12 4 4),(Am.mk 0 (⟨#[109,108,107,101,109,45,97,101,115,50,53,54,45,103,99,109]⟩:ByteArray) y_22 (Ah.mk 0 0) y_8 y_12 4 4)]:List Am))
theorem Yp (fu:Nat):As (Hl fu) (E1):=by
 unfold Hl E1
 repeat' (with_reducible first | assumption | apply As.bind_ | apply As.cond_ | apply As.up_ | apply dS | apply Hl.l1_le | (refine As.lpC _ (fun _=>?_) _) | exact As.refl | intro _)
def Gw.j1 (fu:Nat) (code:Int) (y:(List Am)) (x13_1:Bool):Option (Am×Int):=
 cond (x13_1)
  (some ((Am.mk 0 (⟨#[]⟩:ByteArray) (Ah.mk 0 0) (Ah.mk 0 0) (Ah.mk 0 0) (Ah.mk 0 0) 0 0),8))
  ((Bn y (W (code - 1))).bind fun e=>
  some (e,0))
theorem Gw.j1_le (fu:Nat) {code:Int} {y:(List Am)} {x13_1:Bool}:As (Gw.j1 fu code y x13_1) (Du.j1 code y x13_1):=by
 unfold Gw.j1 Du.j1
 repeat' (with_reducible first | assumption | apply As.bind_ | apply As.cond_ | apply As.up_ | exact As.refl | intro _)
def Gw (fu:Nat) (code:Int):Option (Am×Int):=
 (Hl fu).bind fun y=>
 cond (decide (code < 1))
  (Gw.j1 fu code y true)
  (Gw.j1 fu code y (decide ((y.length:Int) < code)))
theorem Zo (fu:Nat) {code:Int}:As (Gw fu code) (Du code):=by
 unfold Gw Du
 repeat' (with_reducible first | assumption | apply As.bind_ | apply As.cond_ | apply As.up_ | apply Yp | apply Gw.j1_le | exact As.refl | intro _)
theorem Nq.l1 {s:(List Aq)} {f:Aq->Option (Bool)} {x8_1:Int} {f_p:Aq->Option (Bool)} (h_f:∀ (x0:Aq),As (f x0) (f_p x0)):As (B6.l1 s f x8_1) (B6.l1 s f_p x8_1):=by
 unfold B6.l1
 repeat' (with_reducible first | assumption | apply As.bind_ | apply As.cond_ | apply As.up_ | apply h_f | exact As.refl | intro _)
theorem Nq {s:(List Aq)} {f:Aq->Option (Bool)} {f_p:Aq->Option (Bool)} (h_f:∀ (x0:Aq),As (f x0) (f_p x0)):As (B6 s f) (B6 s f_p):=by
 unfold B6
 repeat' (with_reducible first | assumption | apply As.bind_ | apply As.cond_ | apply As.up_ | apply h_f | apply Nq.l1 | (refine As.lp (fun _=>?_) _) | exact As.refl | intro _)
theorem Nr.l1 {s:(List Al)} {f:Al->Option (Bool)} {x8_1:Int} {f_p:Al->Option (Bool)} (h_f:∀ (x0:Al),As (f x0) (f_p x0)):As (Co.l1 s f x8_1) (Co.l1 s f_p x8_1):=by
 unfold Co.l1
 repeat' (with_reducible first | assumption | apply As.bind_ | apply As.cond_ | apply As.up_ | apply h_f | exact As.refl | intro _)
theorem Nr {s:(List Al)} {f:Al->Option (Bool)} {f_p:Al->Option (Bool)} (h_f:∀ (x0:Al),As (f x0) (f_p x0)):As (Co s f) (Co s f_p):=by
 unfold Co
 repeat' (with_reducible first | assumption | apply As.bind_ | apply As.cond_ | apply As.up_ | apply h_f | apply Nr.l1 | (refine As.lp (fun _=>?_) _) | exact As.refl | intro _)
theorem Ns.l1 {s:(List Bk)} {f:Bk->Option (Bool)} {x8_1:Int} {f_p:Bk->Option (Bool)} (h_f:∀ (x0:Bk),As (f x0) (f_p x0)):As (Cm.l1 s f x8_1) (Cm.l1 s f_p x8_1):=by
 unfold Cm.l1
 repeat' (with_reducible first | assumption | apply As.bind_ | apply As.cond_ | apply As.up_ | apply h_f | exact As.refl | intro _)
theorem Ns {s:(List Bk)} {f:Bk->Option (Bool)} {f_p:Bk->Option (Bool)} (h_f:∀ (x0:Bk),As (f x0) (f_p x0)):As (Cm s f) (Cm s f_p):=by
 unfold Cm
 repeat' (with_reducible first | assumption | apply As.bind_ | apply As.cond_ | apply As.up_ | apply h_f | apply Ns.l1 | (refine As.lp (fun _=>?_) _) | exact As.refl | intro _)
theorem Jm.l1 {S:Type} {yield':Int->Al->(Nat×S)->Option (Bool×(Nat×S))} {c0:(List Al)} {i_1:Int} {q_1:(Nat×S)} {yield'_p:Int->Al->(Nat×S)->Option (Bool×(Nat×S))} (h_yield':∀ (x0:Int) (x1:Al) (x2:(Nat×S)),As (yield' x0 x1 x2) (yield'_p x0 x1 x2)):As (A7.l1 yield' c0 i_1 q_1) (A7.l1 yield'_p c0 i_1 q_1):=by
 unfold A7.l1
 repeat' (with_reducible first | assumption | apply As.bind_ | apply As.cond_ | apply As.up_ | apply h_yield' | exact As.refl | intro _)
theorem Jm {S:Type} {yield':Int->Al->(Nat×S)->Option (Bool×(Nat×S))} {c0:(List Al)} {q:(Nat×S)} {yield'_p:Int->Al->(Nat×S)->Option (Bool×(Nat×S))} (h_yield':∀ (x0:Int) (x1:Al) (x2:(Nat×S)),As (yield' x0 x1 x2) (yield'_p x0 x1 x2)):As (A7 yield' c0 q) (A7 yield'_p c0 q):=by
 unfold A7
 repeat' (with_reducible first | assumption | apply As.bind_ | apply As.cond_ | apply As.up_ | apply h_yield' | apply Jm.l1 | (refine As.lp (fun _=>?_) _) | exact As.refl | intro _)
theorem N7.l1 {s:(List Ah)} {f:Ah->Option (Bool)} {x8_1:Int} {f_p:Ah->Option (Bool)} (h_f:∀ (x0:Ah),As (f x0) (f_p x0)):As (Cy.l1 s f x8_1) (Cy.l1 s f_p x8_1):=by
 unfold Cy.l1
 repeat' (with_reducible first | assumption | apply As.bind_ | apply As.cond_ | apply As.up_ | apply h_f | exact As.refl | intro _)
theorem N7 {s:(List Ah)} {f:Ah->Option (Bool)} {f_p:Ah->Option (Bool)} (h_f:∀ (x0:Ah),As (f x0) (f_p x0)):As (Cy s f) (Cy s f_p):=by
 unfold Cy
 repeat' (with_reducible first | assumption | apply As.bind_ | apply As.cond_ | apply As.up_ | apply h_f | apply N7.l1 | (refine As.lp (fun _=>?_) _) | exact As.refl | intro _)
theorem Y2.l1 {f:Int->Option (Bool)} {i_1:Int} {j_1:Int} {f_p:Int->Option (Bool)} (h_f:∀ (x0:Int),As (f x0) (f_p x0)):As (Fj.l1 f i_1 j_1) (Fj.l1 f_p i_1 j_1):=by
 unfold Fj.l1
 repeat' (with_reducible first | assumption | apply As.bind_ | apply As.cond_ | apply As.up_ | apply h_f | exact As.refl | intro _)
theorem Y2 {n:Int} {f:Int->Option (Bool)} {f_p:Int->Option (Bool)} (h_f:∀ (x0:Int),As (f x0) (f_p x0)):As (Fj n f) (Fj n f_p):=by
 unfold Fj
 repeat' (with_reducible first | assumption | apply As.bind_ | apply As.cond_ | apply As.up_ | apply h_f | apply Y2.l1 | (refine As.lp (fun _=>?_) _) | exact As.refl | intro _)
theorem Lf.l1 {s:(List Ap)} {f:Ap->Option (Bool)} {x8_1:Int} {f_p:Ap->Option (Bool)} (h_f:∀ (x0:Ap),As (f x0) (f_p x0)):As (Bl.l1 s f x8_1) (Bl.l1 s f_p x8_1):=by
 unfold Bl.l1
 repeat' (with_reducible first | assumption | apply As.bind_ | apply As.cond_ | apply As.up_ | apply h_f | exact As.refl | intro _)
theorem Lf {s:(List Ap)} {f:Ap->Option (Bool)} {f_p:Ap->Option (Bool)} (h_f:∀ (x0:Ap),As (f x0) (f_p x0)):As (Bl s f) (Bl s f_p):=by
 unfold Bl
 repeat' (with_reducible first | assumption | apply As.bind_ | apply As.cond_ | apply As.up_ | apply h_f | apply Lf.l1 | (refine As.lp (fun _=>?_) _) | exact As.refl | intro _)
theorem Ls.l1 {s:(List Av)} {f:Av->Option (Bool)} {x8_1:Int} {f_p:Av->Option (Bool)} (h_f:∀ (x0:Av),As (f x0) (f_p x0)):As (B4.l1 s f x8_1) (B4.l1 s f_p x8_1):=by
 unfold B4.l1
 repeat' (with_reducible first | assumption | apply As.bind_ | apply As.cond_ | apply As.up_ | apply h_f | exact As.refl | intro _)
theorem Ls {s:(List Av)} {f:Av->Option (Bool)} {f_p:Av->Option (Bool)} (h_f:∀ (x0:Av),As (f x0) (f_p x0)):As (B4 s f) (B4 s f_p):=by
 unfold B4
 repeat' (with_reducible first | assumption | apply As.bind_ | apply As.cond_ | apply As.up_ | apply h_f | apply Ls.l1 | (refine As.lp (fun _=>?_) _) | exact As.refl | intro _)
theorem Ku.l1 {s:(List Ab)} {f:Ab->Option (Bool)} {x8_1:Int} {f_p:Ab->Option (Bool)} (h_f:∀ (x0:Ab),As (f x0) (f_p x0)):As (Bf.l1 s f x8_1) (Bf.l1 s f_p x8_1):=by
 unfold Bf.l1
 repeat' (with_reducible first | assumption | apply As.bind_ | apply As.cond_ | apply As.up_ | apply h_f | exact As.refl | intro _)
theorem Ku {s:(List Ab)} {f:Ab->Option (Bool)} {f_p:Ab->Option (Bool)} (h_f:∀ (x0:Ab),As (f x0) (f_p x0)):As (Bf s f) (Bf s f_p):=by
 unfold Bf
 repeat' (with_reducible first | assumption | apply As.bind_ | apply As.cond_ | apply As.up_ | apply h_f | apply Ku.l1 | (refine As.lp (fun _=>?_) _) | exact As.refl | intro _)
theorem m_der_copied.l1 {rec:(List Aa)->Option ((List Aa))} {l:(List Aa)} {x8_1:Int} {out_1:List Aa} {rec_p:(List Aa)->Option ((List Aa))} (h_rec:∀ (x0:(List Aa)),As (rec x0) (rec_p x0)):As (Er.l1 rec l x8_1 out_1) (Er.l1 rec_p l x8_1 out_1):=by
 unfold Er.l1
 repeat' (with_reducible first | assumption | apply As.bind_ | apply As.cond_ | apply As.up_ | apply h_rec | exact As.refl | intro _)
theorem m_der_copied.F {rec:(List Aa)->Option ((List Aa))} {l:(List Aa)} {rec_p:(List Aa)->Option ((List Aa))} (h_rec:∀ (x0:(List Aa)),As (rec x0) (rec_p x0)):As (Er.F rec l) (Er.F rec_p l):=by
 unfold Er.F
 repeat' (with_reducible first | assumption | apply As.bind_ | apply As.cond_ | apply As.up_ | apply h_rec | apply m_der_copied.l1 | (refine As.lp (fun _=>?_) _) | exact As.refl | intro _)
theorem fS:Wi (fun rec (x:(List Aa))=>Er.F (fun l=>rec l) x):=fun p q h a=>by
 apply m_der_copied.F
 intros
 apply h
theorem fF {rec:Aa->Option (Bool)} {x':Aa} {rec_p:Aa->Option (Bool)} (h_rec:∀ (x0:Aa),As (rec x0) (rec_p x0)):As (H2 rec x') (H2 rec_p x'):=by
 unfold H2
 repeat' (with_reducible first | assumption | apply As.bind_ | apply As.cond_ | apply As.up_ | apply h_rec | exact As.refl | intro _)
theorem J4.l1 {s:(List Aa)} {f:Aa->Option (Bool)} {x8_1:Int} {f_p:Aa->Option (Bool)} (h_f:∀ (x0:Aa),As (f x0) (f_p x0)):As (Ci.l1 s f x8_1) (Ci.l1 s f_p x8_1):=by
 unfold Ci.l1
 repeat' (with_reducible first | assumption | apply As.bind_ | apply As.cond_ | apply As.up_ | apply h_f | exact As.refl | intro _)
theorem J4 {rec:Aa->Option (Bool)} {s:(List Aa)} {f:Aa->Option (Bool)} {rec_p:Aa->Option (Bool)} {f_p:Aa->Option (Bool)} (h_rec:∀ (x0:Aa),As (rec x0) (rec_p x0)) (h_f:∀ (x0:Aa),As (f x0) (f_p x0)):As (Ci rec s f) (Ci rec_p s f_p):=by
 unfold Ci
 repeat' (with_reducible first | assumption | apply As.bind_ | apply As.cond_ | apply As.up_ | apply h_rec | apply h_f | apply J4.l1 | (refine As.lp (fun _=>?_) _) | exact As.refl | intro _)
theorem Q7 {rec:Aa->Option (Bool)} {s:(List Aa)} {f:Aa->Option (Bool)} {rec_p:Aa->Option (Bool)} {f_p:Aa->Option (Bool)} (h_rec:∀ (x0:Aa),As (rec x0) (rec_p x0)) (h_f:∀ (x0:Aa),As (f x0) (f_p x0)):As (Ev rec s f) (Ev rec_p s f_p):=by
 unfold Ev
 repeat' (with_reducible first | assumption | apply As.bind_ | apply As.cond_ | apply As.up_ | apply h_rec | apply h_f | apply J4 | exact As.refl | intro _)
theorem m_der_formed.j1 {rec:Aa->Option (Bool)} {v:Aa} {x36_1:Bool} {rec_p:Aa->Option (Bool)} (h_rec:∀ (x0:Aa),As (rec x0) (rec_p x0)):As (Dz.j1 rec v x36_1) (Dz.j1 rec_p v x36_1):=by
 unfold Dz.j1
 repeat' (with_reducible first | assumption | apply As.bind_ | apply As.cond_ | apply As.up_ | apply h_rec | apply Q7 | apply fF | exact As.refl | intro _)
theorem m_der_formed.F {rec:Aa->Option (Bool)} {v:Aa} {rec_p:Aa->Option (Bool)} (h_rec:∀ (x0:Aa),As (rec x0) (rec_p x0)):As (Dz.F rec v) (Dz.F rec_p v):=by
 unfold Dz.F
 repeat' (with_reducible first | assumption | apply As.bind_ | apply As.cond_ | apply As.up_ | apply h_rec | apply m_der_formed.j1 | exact As.refl | intro _)
theorem fP:Wi (fun rec (x:Aa)=>Dz.F (fun v=>rec v) x):=fun p q h a=>by
 apply m_der_formed.F
 intros
 apply h
theorem m_der_depth.l1 {rec:Aa->Option (Int)} {v:Aa} {most_1:Int} {x9_1:Int} {rec_p:Aa->Option (Int)} (h_rec:∀ (x0:Aa),As (rec x0) (rec_p x0)):As (Fb.l1 rec v most_1 x9_1) (Fb.l1 rec_p v most_1 x9_1):=by
 unfold Fb.l1
 repeat' (with_reducible first | assumption | apply As.bind_ | apply As.cond_ | apply As.up_ | apply h_rec | exact As.refl | intro _)
theorem m_der_depth.F {rec:Aa->Option (Int)} {v:Aa} {rec_p:Aa->Option (Int)} (h_rec:∀ (x0:Aa),As (rec x0) (rec_p x0)):As (Fb.F rec v) (Fb.F rec_p v):=by
 unfold Fb.F
 repeat' (with_reducible first | assumption | apply As.bind_ | apply As.cond_ | apply As.up_ | apply h_rec | apply m_der_depth.l1 | (refine As.lp (fun _=>?_) _) | exact As.refl | intro _)
theorem jZ:Wi (fun rec (x:Aa)=>Fb.F (fun v=>rec v) x):=fun p q h a=>by
 apply m_der_depth.F
 intros
 apply h
theorem lF {rec:Aa->Option ((List UInt8))} {b:List UInt8} {v:Aa} {rec_p:Aa->Option ((List UInt8))} (h_rec:∀ (x0:Aa),As (rec x0) (rec_p x0)):As (Kj rec b v) (Kj rec_p b v):=by
 unfold Kj
 repeat' (with_reducible first | assumption | apply As.bind_ | apply As.cond_ | apply As.up_ | apply h_rec | exact As.refl | intro _)
theorem m_der_contents.l1 {rec:Aa->Option ((List UInt8))} {v:Aa} {x14_1:Int} {out_1:List UInt8} {rec_p:Aa->Option ((List UInt8))} (h_rec:∀ (x0:Aa),As (rec x0) (rec_p x0)):As (Dt.l1 rec v x14_1 out_1) (Dt.l1 rec_p v x14_1 out_1):=by
 unfold Dt.l1
 repeat' (with_reducible first | assumption | apply As.bind_ | apply As.cond_ | apply As.up_ | apply h_rec | apply lF | exact As.refl | intro _)
theorem m_der_contents.F {rec:Aa->Option ((List UInt8))} {v:Aa} {rec_p:Aa->Option ((List UInt8))} (h_rec:∀ (x0:Aa),As (rec x0) (rec_p x0)):As (Dt.F rec v) (Dt.F rec_p v):=by
 unfold Dt.F
 repeat' (with_reducible first | assumption | apply As.bind_ | apply As.cond_ | apply As.up_ | apply h_rec | apply m_der_contents.l1 | (refine As.lp (fun _=>?_) _) | exact As.refl | intro _)
theorem bH:Wi (fun rec (x:Aa)=>Dt.F (fun v=>rec v) x):=fun p q h a=>by
 apply m_der_contents.F
 intros
 apply h
theorem N6.l1 {s:(List Ai)} {f:Ai->Option (Bool)} {x8_1:Int} {f_p:Ai->Option (Bool)} (h_f:∀ (x0:Ai),As (f x0) (f_p x0)):As (Cu.l1 s f x8_1) (Cu.l1 s f_p x8_1):=by
 unfold Cu.l1
 repeat' (with_reducible first | assumption | apply As.bind_ | apply As.cond_ | apply As.up_ | apply h_f | exact As.refl | intro _)
theorem N6 {s:(List Ai)} {f:Ai->Option (Bool)} {f_p:Ai->Option (Bool)} (h_f:∀ (x0:Ai),As (f x0) (f_p x0)):As (Cu s f) (Cu s f_p):=by
 unfold Cu
 repeat' (with_reducible first | assumption | apply As.bind_ | apply As.cond_ | apply As.up_ | apply h_f | apply N6.l1 | (refine As.lp (fun _=>?_) _) | exact As.refl | intro _)
theorem Ff.l2 {a:Int} {cmp:Ai->Ai->Option (Int)} {i_1:Int} {j_2:Int} {data_2:List Ai} {cmp_p:Ai->Ai->Option (Int)} (h_cmp:∀ (x0:Ai) (x1:Ai),As (cmp x0 x1) (cmp_p x0 x1)):As (An.l2 a cmp i_1 j_2 data_2) (An.l2 a cmp_p i_1 j_2 data_2):=by
 unfold An.l2
 repeat' (with_reducible first | assumption | apply As.bind_ | apply As.cond_ | apply As.up_ | apply h_cmp | exact As.refl | intro _)
theorem Ff.l1 {a:Int} {b:Int} {cmp:Ai->Ai->Option (Int)} {i_1:Int} {data_1:List Ai} {cmp_p:Ai->Ai->Option (Int)} (h_cmp:∀ (x0:Ai) (x1:Ai),As (cmp x0 x1) (cmp_p x0 x1)):As (An.l1 a b cmp i_1 data_1) (An.l1 a b cmp_p i_1 data_1):=by
 unfold An.l1
 repeat' (with_reducible first | assumption | apply As.bind_ | apply As.cond_ | apply As.up_ | apply h_cmp | apply Ff.l2 | (refine As.lp (fun _=>?_) _) | exact As.refl | intro _)
theorem Ff {data:List Ai} {a:Int} {b:Int} {cmp:Ai->Ai->Option (Int)} {cmp_p:Ai->Ai->Option (Int)} (h_cmp:∀ (x0:Ai) (x1:Ai),As (cmp x0 x1) (cmp_p x0 x1)):As (An data a b cmp) (An data a b cmp_p):=by
 unfold An
 repeat' (with_reducible first | assumption | apply As.bind_ | apply As.cond_ | apply As.up_ | apply h_cmp | apply Ff.l1 | (refine As.lp (fun _=>?_) _) | exact As.refl | intro _)
theorem Lu.l1 {data:List Ai} {a:Int} {b:Int} {limit:Int} {cmp:Ai->Ai->Option (Int)} {cmp_p:Ai->Ai->Option (Int)} (h_cmp:∀ (x0:Ai) (x1:Ai),As (cmp x0 x1) (cmp_p x0 x1)):As (Ck.l1 data a b limit cmp) (Ck.l1 data a b limit cmp_p):=by
 unfold Ck.l1
 repeat' (with_reducible first | assumption | apply As.bind_ | apply As.cond_ | apply As.up_ | apply h_cmp | apply Ff | exact As.refl | intro _)
theorem Lu {data:List Ai} {a:Int} {b:Int} {limit:Int} {cmp:Ai->Ai->Option (Int)} {cmp_p:Ai->Ai->Option (Int)} (h_cmp:∀ (x0:Ai) (x1:Ai),As (cmp x0 x1) (cmp_p x0 x1)):As (Ck data a b limit cmp) (Ck data a b limit cmp_p):=by
 unfold Ck
 repeat' (with_reducible first | assumption | apply As.bind_ | apply As.cond_ | apply As.up_ | apply h_cmp | apply Lu.l1 | (refine As.lp (fun _=>?_) _) | exact As.refl | intro _)
def Bo.j6 (fu:Nat) (na_4:Int) (a_4:List ByteArray) (s_2:ByteArray) (i_5:Int) (x91_6:Bool):Option (Lp (Int) (Lp (Int×Int×Int×List ByteArray) ((List ByteArray)))):=
 cond (x91_6)
  (some (.next (W (i_5 + 1))))
  (up (
   some (.next (W (na_4 + 1),i_5,i_5,Jd a_4 ((na_4).toNat) s_2))))
theorem Bo.j6_le (fu:Nat) {na_4:Int} {a_4:List ByteArray} {s_2:ByteArray} {i_5:Int} {x91_6:Bool}:As (Bo.j6 fu na_4 a_4 s_2 i_5 x91_6) (Bb.j6 na_4 a_4 s_2 i_5 x91_6):=by
 unfold Bo.j6 Bb.j6
 repeat' (with_reducible first | assumption | apply As.bind_ | apply As.cond_ | apply As.up_ | exact As.refl | intro _)
def Bo.l5 (fu:Nat) (s:ByteArray) (na_4:Int) (a_4:List ByteArray) (s_2:ByteArray) (i_5:Int):Option (Lp (Int) (Lp (Int×Int×Int×List ByteArray) ((List ByteArray)))):=
 cond (decide (i_5 < (s.size:Int)))
  ((Wo s i_5).bind fun c_4=>
  (Bn Rn (c_4.toNat:Int)).bind fun e_5=>
  Bo.j6 fu na_4 a_4 s_2 i_5 (!decide ((e_5.toNat:Int)=0)))
  (Bo.j6 fu na_4 a_4 s_2 i_5 false)
theorem Bo.l5_le (fu:Nat) {s:ByteArray} {na_4:Int} {a_4:List ByteArray} {s_2:ByteArray} {i_5:Int}:As (Bo.l5 fu s na_4 a_4 s_2 i_5) (Bb.l5 s na_4 a_4 s_2 i_5):=by
 unfold Bo.l5 Bb.l5
 repeat' (with_reducible first | assumption | apply As.bind_ | apply As.cond_ | apply As.up_ | apply Bo.j6_le | exact As.refl | intro _)
def Bo.l4 (fu:Nat) (s:ByteArray) (na_4:Int) (fieldStart_4:Int) (i_4:Int) (a_4:List ByteArray):Option (Lp (Int×Int×Int×List ByteArray) ((List ByteArray))):=
 cond (decide (i_4 < (s.size:Int)))
  ((Wo s i_4).bind fun c_3=>
  (Bn Rn (c_3.toNat:Int)).bind fun e_3=>
  cond (decide ((e_3.toNat:Int)=0))
   (some (.next (na_4,fieldStart_4,W (i_4 + 1),a_4)))
   ((eM s fieldStart_4 i_4).bind fun s_2=>
   (Bn a_4 na_4).bind fun e_4=>
   Md fu (fun q'=>Bo.l5 fu s na_4 a_4 s_2 q') (W (i_4 + 1))))
  (up (
   cond (decide (fieldStart_4 < (s.size:Int)))
    ((eM s fieldStart_4 (s.size:Int)).bind fun s_3=>
    (Bn a_4 na_4).bind fun e_6=>
    some (Jd a_4 ((na_4).toNat) s_3))
    (some a_4)))
theorem Bo.l4_le (fu:Nat) {s:ByteArray} {na_4:Int} {fieldStart_4:Int} {i_4:Int} {a_4:List ByteArray}:As (Bo.l4 fu s na_4 fieldStart_4 i_4 a_4) (Bb.l4 s na_4 fieldStart_4 i_4 a_4):=by
 unfold Bo.l4 Bb.l4
 repeat' (with_reducible first | assumption | apply As.bind_ | apply As.cond_ | apply As.up_ | apply Bo.l5_le | (refine As.lpC _ (fun _=>?_) _) | exact As.refl | intro _)
def Bo.j3 (fu:Nat) (s:ByteArray) (m:List ByteArray) (i_2:Int) (x53_3:Bool):Option (Lp (Int) ((List ByteArray))):=
 cond (x53_3)
  (some (.next (W (i_2 + 1))))
  (up (
   Md fu (fun q'=>Bo.l4 fu s q'.1 q'.2.1 q'.2.2.1 q'.2.2.2) (0,i_2,i_2,m)))
theorem Bo.j3_le (fu:Nat) {s:ByteArray} {m:List ByteArray} {i_2:Int} {x53_3:Bool}:As (Bo.j3 fu s m i_2 x53_3) (Bb.j3 s m i_2 x53_3):=by
 unfold Bo.j3 Bb.j3
 repeat' (with_reducible first | assumption | apply As.bind_ | apply As.cond_ | apply As.up_ | apply Bo.l4_le | (refine As.lpC _ (fun _=>?_) _) | exact As.refl | intro _)
def Bo.l2 (fu:Nat) (s:ByteArray) (m:List ByteArray) (i_2:Int):Option (Lp (Int) ((List ByteArray))):=
 cond (decide (i_2 < (s.size:Int)))
  ((Wo s i_2).bind fun c_2=>
  (Bn Rn (c_2.toNat:Int)).bind fun e_2=>
  Bo.j3 fu s m i_2 (!decide ((e_2.toNat:Int)=0)))
  (Bo.j3 fu s m i_2 false)
theorem Bo.l2_le (fu:Nat) {s:ByteArray} {m:List ByteArray} {i_2:Int}:As (Bo.l2 fu s m i_2) (Bb.l2 s m i_2):=by
 unfold Bo.l2 Bb.l2
 repeat' (with_reducible first | assumption | apply As.bind_ | apply As.cond_ | apply As.up_ | apply Bo.j3_le | exact As.refl | intro _)
def Bo.l1 (fu:Nat) (s:ByteArray) (n_1:Int) (wasSpace_1:Int) (setBits_1:UInt8) (i_1:Int):Option (Lp (Int×Int×UInt8×Int) ((List ByteArray))):=
 cond (decide (i_1 < (s.size:Int)))
  ((Wo s i_1).bind fun c=>
  (Bn Rn (c.toNat:Int)).bind fun e=>
  some (.next (W (n_1 + (W7 .i64 wasSpace_1 (aFn .i64 (e.toNat:Int)))),(e.toNat:Int),(setBits_1 ||| c),W (i_1 + 1))))
  (up (
   cond (decide (128<=(setBits_1.toNat:Int)))
    (none)
    ((jI 16 n_1 ((⟨#[]⟩:ByteArray):ByteArray)).bind fun m=>
    Md fu (fun q'=>Bo.l2 fu s m q') 0)))
theorem Bo.l1_le (fu:Nat) {s:ByteArray} {n_1:Int} {wasSpace_1:Int} {setBits_1:UInt8} {i_1:Int}:As (Bo.l1 fu s n_1 wasSpace_1 setBits_1 i_1) (Bb.l1 s n_1 wasSpace_1 setBits_1 i_1):=by
 unfold Bo.l1 Bb.l1
 repeat' (with_reducible first | assumption | apply As.bind_ | apply As.cond_ | apply As.up_ | apply Bo.l2_le | (refine As.lpC _ (fun _=>?_) _) | exact As.refl | intro _)
def Bo (fu:Nat) (s:ByteArray):Option ((List ByteArray)):=
 Md fu (fun q'=>Bo.l1 fu s q'.1 q'.2.1 q'.2.2.1 q'.2.2.2) (0,1,(0:UInt8),0)
theorem Yx (fu:Nat) {s:ByteArray}:As (Bo fu s) (Bb s):=by
 unfold Bo Bb
 repeat' (with_reducible first | assumption | apply As.bind_ | apply As.cond_ | apply As.up_ | apply Bo.l1_le | (refine As.lpC _ (fun _=>?_) _) | exact As.refl | intro _)
end Go.Proofs.YtboglmbblmakjaaGreatDoor
