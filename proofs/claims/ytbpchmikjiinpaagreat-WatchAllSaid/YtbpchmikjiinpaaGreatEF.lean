import Derived.Test.YtbpchmikjiinpaaGreatEE
set_option linter.unusedVariables false
set_option linter.unusedSimpArgs false
namespace Go.Proofs.YtbpchmikjiinpaaGreat
open Go.RowKit
abbrev vk (x:Int):DV:=.val (.int .i64 x)
abbrev ws (x:ByteArray):DV:=.val (.string x)
class Nh (P:Program) (t:TypeId) (ag:outParam Bool) (sz:outParam Nat):Prop where
 h:Ty P t ag sz
class Lz (P:Program) (s:TypeId) (f:Nat) (off:outParam Nat) (ft:outParam TypeId):Prop where
 h:Fd P s f off ft
class Ww (P:Program) (t:TypeId) (e sz bytes:outParam Nat):Prop where
 h:Ix P t e sz bytes
class Xs (P:Program) (t:TypeId) (z:outParam (List Value)):Prop where
 h:Zt P t z
class Ys (P:Program) (t:TypeId) (d:outParam TypeDesc):Prop where
 h:P.underlying t=some d
class Pd {α:Type} (f:α->List C) (sz:outParam Nat):Prop where
 h:∀ x,(f x).length=sz
instance:Pd eI 1:=⟨Rf⟩
instance {k:IntKind}:Pd (eK k) 1:=⟨aEs k⟩
instance:Pd e8 1:=⟨aGy⟩
instance:Pd eS 1:=⟨iY⟩
instance:Pd eB 1:=⟨aEn⟩
instance {α:Type} {sz:Nat} {f:α->List C}:Pd (eL sz f) 1:=⟨iV sz f⟩
section
variable {P:Program} {cx:Cx} {ops:Array Oper} {Rt:Option (List Nat)} {nb i:Nat} {l:List Oper} {lg lg':jT} {σ σ':St} {Q:St->Prop} {fz:List Nat} {m':List (Nat×Oper)}
def Gm (P:Program) (cx:Cx) (fz:List Nat) (ops:Array Oper) (Rt:Option (List Nat)) (nb:Nat) (m:List (Nat×Oper)) (lg:jT) (σ:St) (m':List (Nat×Oper)) (lg':jT) (σ':St):Prop:=∀ Q,Chain (Df P cx fz) ops Rt nb m' lg' σ' Q->Chain (Df P cx fz) ops Rt nb m lg σ Q
theorem Gm.z {m:List (Nat×Oper)}:Gm P cx fz ops Rt nb m lg σ m lg σ:=fun _ h=>h
theorem Gm.s {dst:Option Tmp} {op:Op} {ty:TypeId} {pos:String} {af:Array Edge} {g:Option (Nat×Bool)} {ds:List (DV×Option LB)} {rd wr:List Nat} {e:Nq} (hds:E0 σ (Kj op) op.operands.toList=some ds) (h:F1 P (nb + 8 * i) op ty ds wr e)
  (k:Gm P cx fz ops Rt nb (idx (i + 1) l) ((i,false,nb + 8 * i,rd,wr) :: lg) (σ.app dst e) m' lg' σ') (G:Kh ops σ ⟨dst,op,ty,pos,af,g⟩=some true) (hrd:(bif Kj op then Lx (Mp op) ds else [])=rd)
  (hok:(K9 Rt i false (nb + 8 * i) rd wr lg && (Nat.beq (zM fz (nb + 8 * i)) 0 && Ov cx.np op wr))=true) :
  Gm P cx fz ops Rt nb (idx i (⟨dst,op,ty,pos,af,g⟩ :: l)) lg σ m' lg' σ':=fun Q hq=>by
 simp only [aFx] at hok
 exact Mz G hds h hrd hok.1 (k Q hq) (aDj hok.2.1) hok.2.2
theorem Gm.k {dst:Option Tmp} {op:Op} {ty:TypeId} {pos:String} {af:Array Edge} {g:Nat×Bool} (G:Kh ops σ ⟨dst,op,ty,pos,af,some g⟩=some false)
  (hok:K9 Rt i false (nb + 8 * i) [] [] lg=true) (k:Gm P cx fz ops Rt nb (idx (i + 1) l) ((i,false,nb + 8 * i,[],[]) :: lg) (σ.app dst nD) m' lg' σ') :
  Gm P cx fz ops Rt nb (idx i (⟨dst,op,ty,pos,af,some g⟩ :: l)) lg σ m' lg' σ':=fun Q hq=>aBh G hok (k Q hq)
theorem aKy {dst:Option Tmp} {op:Op} {ty:TypeId} {pos:String} {af:Array Edge}:Kh ops σ ⟨dst,op,ty,pos,af,none⟩=some true:=rfl
theorem tP {dst:Option Tmp} {op:Op} {ty:TypeId} {pos:String} {af:Array Edge} {g:Nat} {c:Bool} {t:Tmp} (ht:(ops[g]?).bind (·.dst)=some t) (hF:σ.F t=some (.val (.bool c))) (hc:c=false):Kh ops σ ⟨dst,op,ty,pos,af,some (g,true)⟩=some false:=aCu ht hF hc
theorem wC {dst:Option Tmp} {op:Op} {ty:TypeId} {pos:String} {af:Array Edge} {g:Nat} {c:Bool} {t:Tmp} (ht:(ops[g]?).bind (·.dst)=some t) (hF:σ.F t=some (.val (.bool c))) (hc:c=true):Kh ops σ ⟨dst,op,ty,pos,af,some (g,false)⟩=some false:=aCu ht hF hc
theorem aC8 {dst:Option Tmp} {op:Op} {ty:TypeId} {pos:String} {af:Array Edge} {g:Nat} {b:Bool} {t:Tmp} (ht:(ops[g]?).bind (·.dst)=some t) (hF:σ.F t=some (.val undef)):Kh ops σ ⟨dst,op,ty,pos,af,some (g,b)⟩=some false:=by
 unfold Kh
 simp only []
 rw [ht]
 simp only []
 rw [hF]
 rfl
theorem aGt {α:Type} {l t t':List α} {x:α} (h:l=x :: t) (k:t=t'):l=x :: t':=by rw [h,k]
variable {dst:Option Tmp} {ty:TypeId} {pos:String} {af:Array Edge} {g:Option (Nat×Bool)}
theorem Gm.move {x:Operand} {d:DV} {q:Option LB} (hds:E0 σ false [x]=some [(d,q)])  (G:Kh ops σ ⟨dst,.move x,ty,pos,af,g⟩=some true)
  (hok:(K9 Rt i false (nb + 8 * i) [] [] lg && (Nat.beq (zM fz (nb + 8 * i)) 0 && Ov cx.np (.move x) []))=true) (k:Gm P cx fz ops Rt nb (idx (i + 1) l) ((i,false,nb + 8 * i,[],[]) :: lg) (σ.app dst (v0 d)) m' lg' σ'):Gm P cx fz ops Rt nb (idx i (⟨dst,.move x,ty,pos,af,g⟩ :: l)) lg σ m' lg' σ':=
 Gm.s hds (.move) k G rfl hok
theorem Gm.assign {x:Operand} {d:DV} {q:Option LB} (hds:E0 σ false [x]=some [(d,q)])  (G:Kh ops σ ⟨dst,.assign x,ty,pos,af,g⟩=some true)
  (hok:(K9 Rt i false (nb + 8 * i) [] [] lg && (Nat.beq (zM fz (nb + 8 * i)) 0 && Ov cx.np (.assign x) []))=true) (k:Gm P cx fz ops Rt nb (idx (i + 1) l) ((i,false,nb + 8 * i,[],[]) :: lg) (σ.app dst (v0 d)) m' lg' σ'):Gm P cx fz ops Rt nb (idx i (⟨dst,.assign x,ty,pos,af,g⟩ :: l)) lg σ m' lg' σ':=
 Gm.s hds (.assign) k G rfl hok
theorem Gm.fieldP {x:Operand} {s f k j off ft sz:Nat} {ag:Bool} {q:Option LB} [F:Lz P s f off ft] [T:Nh P ft ag sz] (hds:E0 σ false [x]=some [(.ptr k j,q)]) (hz0:Nat.blt 0 sz=true) (G:Kh ops σ ⟨dst,.fieldAddr s x f,ty,pos,af,g⟩=some true)
  (hok:(K9 Rt i false (nb + 8 * i) [] [] lg && (Nat.beq (zM fz (nb + 8 * i)) 0 && Ov cx.np (.fieldAddr s x f) []))=true) (k:Gm P cx fz ops Rt nb (idx (i + 1) l) ((i,false,nb + 8 * i,[],[]) :: lg) (σ.app dst (v0 (.ptr k (j + off)))) m' lg' σ'):Gm P cx fz ops Rt nb (idx i (⟨dst,.fieldAddr s x f,ty,pos,af,g⟩ :: l)) lg σ m' lg' σ':=
 Gm.s hds (.fieldP F.h T.h (aCt hz0)) k G rfl hok
theorem Gm.load1 {x:Operand} {t k j bt sz:Nat} {ds:List DV} {d:DV} [T:Nh P t false sz] (hds:E0 σ true [x]=some [(.ptr k j,some (.box ds bt))]) (hd:ds[j]?=some d) (G:Kh ops σ ⟨dst,.load t x,ty,pos,af,g⟩=some true)
  (hok:(K9 Rt i false (nb + 8 * i) [k] [] lg && (Nat.beq (zM fz (nb + 8 * i)) 0 && Ov cx.np (.load t x) []))=true) (k:Gm P cx fz ops Rt nb (idx (i + 1) l) ((i,false,nb + 8 * i,[k],[]) :: lg) (σ.app dst (v0 d)) m' lg' σ'):Gm P cx fz ops Rt nb (idx i (⟨dst,.load t x,ty,pos,af,g⟩ :: l)) lg σ m' lg' σ':=
 Gm.s hds (.loadB1 T.h hd) k G rfl hok
theorem Gm.loadA {x:Operand} {t k j bt sz:Nat} {ds:List DV} [T:Nh P t true sz] (hds:E0 σ true [x]=some [(.ptr k j,some (.box ds bt))]) (hd:Nat.ble (j + sz) ds.length=true) (G:Kh ops σ ⟨dst,.load t x,ty,pos,af,g⟩=some true)
  (hok:(K9 Rt i false (nb + 8 * i) [k] [] lg && (Nat.beq (zM fz (nb + 8 * i)) 0 && Ov cx.np (.load t x) []))=true) (k:Gm P cx fz ops Rt nb (idx (i + 1) l) ((i,false,nb + 8 * i,[k],[]) :: lg) (σ.app dst (v0 (.agg ((ds.drop j).take sz)))) m' lg' σ'):Gm P cx fz ops Rt nb (idx i (⟨dst,.load t x,ty,pos,af,g⟩ :: l)) lg σ m' lg' σ':=
 Gm.s hds (.loadBA T.h (aCt hd)) k G rfl hok
theorem Gm.pickF {x y z:Operand} {c:Bool} {d1 d2:DV} {q1 q2 q3:Option LB} (hds:E0 σ false [x,y,z]=some [(.val (.bool c),q1),(d1,q2),(d2,q3)]) (hc:c=false) (G:Kh ops σ ⟨dst,.pick x y z,ty,pos,af,g⟩=some true)
  (hok:(K9 Rt i false (nb + 8 * i) [] [] lg && (Nat.beq (zM fz (nb + 8 * i)) 0 && Ov cx.np (.pick x y z) []))=true) (k:Gm P cx fz ops Rt nb (idx (i + 1) l) ((i,false,nb + 8 * i,[],[]) :: lg) (σ.app dst (v0 d2)) m' lg' σ'):Gm P cx fz ops Rt nb (idx i (⟨dst,.pick x y z,ty,pos,af,g⟩ :: l)) lg σ m' lg' σ':=
 Gm.s hds (aB0 hc) k G rfl hok
theorem Gm.pickT {x y z:Operand} {c:Bool} {d1 d2:DV} {q1 q2 q3:Option LB} (hds:E0 σ false [x,y,z]=some [(.val (.bool c),q1),(d1,q2),(d2,q3)]) (hc:c=true) (G:Kh ops σ ⟨dst,.pick x y z,ty,pos,af,g⟩=some true)
  (hok:(K9 Rt i false (nb + 8 * i) [] [] lg && (Nat.beq (zM fz (nb + 8 * i)) 0 && Ov cx.np (.pick x y z) []))=true) (k:Gm P cx fz ops Rt nb (idx (i + 1) l) ((i,false,nb + 8 * i,[],[]) :: lg) (σ.app dst (v0 d1)) m' lg' σ'):Gm P cx fz ops Rt nb (idx i (⟨dst,.pick x y z,ty,pos,af,g⟩ :: l)) lg σ m' lg' σ':=
 Gm.s hds (aAa hc) k G rfl hok
theorem Gm.storeB {x y:Operand} {t k j bt sz:Nat} {ag:Bool} {ds ds':List DV} {d:DV} {q:Option LB} {rd:List Nat} [T:Nh P t ag sz] (hds:E0 σ true [x,y]=some [(.ptr k j,some (.box ds bt)),(d,q)]) (hs:(C2 d).length=sz) (hi:Nat.ble (j + sz) ds.length=true) (ho:(C2 d).all aG=true) (hn:Di ds j (C2 d)=ds') (hr:Lx false [(DV.ptr k j,some (LB.box ds bt)),(d,q)]=rd) (G:Kh ops σ ⟨dst,.store t x y,ty,pos,af,g⟩=some true)
  (hok:(K9 Rt i false (nb + 8 * i) rd [k] lg && (Nat.beq (zM fz (nb + 8 * i)) 0 && Ov cx.np (.store t x y) [k]))=true) (k:Gm P cx fz ops Rt nb (idx (i + 1) l) ((i,false,nb + 8 * i,rd,[k]) :: lg) (σ.app dst (rI k (.box ds' bt))) m' lg' σ'):Gm P cx fz ops Rt nb (idx i (⟨dst,.store t x y,ty,pos,af,g⟩ :: l)) lg σ m' lg' σ':=
 Gm.s hds (uN T.h hs (aCt hi) ho hn) k G hr hok
theorem Gm.extract {x:Operand} {n:Nat} {ds:List DV} {d:DV} {q:Option LB} (hds:E0 σ false [x]=some [(.tup ds,q)]) (hd:ds[n]?=some d) (G:Kh ops σ ⟨dst,.extract x n,ty,pos,af,g⟩=some true)
  (hok:(K9 Rt i false (nb + 8 * i) [] [] lg && (Nat.beq (zM fz (nb + 8 * i)) 0 && Ov cx.np (.extract x n) []))=true) (k:Gm P cx fz ops Rt nb (idx (i + 1) l) ((i,false,nb + 8 * i,[],[]) :: lg) (σ.app dst (v0 d)) m' lg' σ'):Gm P cx fz ops Rt nb (idx i (⟨dst,.extract x n,ty,pos,af,g⟩ :: l)) lg σ m' lg' σ':=
 Gm.s hds (.extract hd) k G rfl hok
theorem Gm.lss {x y:Operand} {t yt:TypeId} {kk:IntKind} {a b:Int} {q1 q2:Option LB} (hds:E0 σ false [x,y]=some [(.val (.int kk a),q1),(.val (.int kk b),q2)])  (G:Kh ops σ ⟨dst,.binOp .lss t x y yt,ty,pos,af,g⟩=some true)
  (hok:(K9 Rt i false (nb + 8 * i) [] [] lg && (Nat.beq (zM fz (nb + 8 * i)) 0 && Ov cx.np (.binOp .lss t x y yt) []))=true) (k:Gm P cx fz ops Rt nb (idx (i + 1) l) ((i,false,nb + 8 * i,[],[]) :: lg) (σ.app dst (v0 (.val (.bool (decide (a < b)))))) m' lg' σ'):Gm P cx fz ops Rt nb (idx i (⟨dst,.binOp .lss t x y yt,ty,pos,af,g⟩ :: l)) lg σ m' lg' σ':=
 Gm.s hds (aIe) k G rfl hok
theorem Gm.eql {x y:Operand} {t yt:TypeId} {kk:IntKind} {a b:Int} {q1 q2:Option LB} (hds:E0 σ false [x,y]=some [(.val (.int kk a),q1),(.val (.int kk b),q2)])  (G:Kh ops σ ⟨dst,.binOp .eql t x y yt,ty,pos,af,g⟩=some true)
  (hok:(K9 Rt i false (nb + 8 * i) [] [] lg && (Nat.beq (zM fz (nb + 8 * i)) 0 && Ov cx.np (.binOp .eql t x y yt) []))=true) (k:Gm P cx fz ops Rt nb (idx (i + 1) l) ((i,false,nb + 8 * i,[],[]) :: lg) (σ.app dst (v0 (.val (.bool (decide (a=b)))))) m' lg' σ'):Gm P cx fz ops Rt nb (idx i (⟨dst,.binOp .eql t x y yt,ty,pos,af,g⟩ :: l)) lg σ m' lg' σ':=
 Gm.s hds (aH6) k G rfl hok
theorem Gm.gtr {x y:Operand} {t yt:TypeId} {kk:IntKind} {a b:Int} {q1 q2:Option LB} (hds:E0 σ false [x,y]=some [(.val (.int kk a),q1),(.val (.int kk b),q2)])  (G:Kh ops σ ⟨dst,.binOp .gtr t x y yt,ty,pos,af,g⟩=some true)
  (hok:(K9 Rt i false (nb + 8 * i) [] [] lg && (Nat.beq (zM fz (nb + 8 * i)) 0 && Ov cx.np (.binOp .gtr t x y yt) []))=true) (k:Gm P cx fz ops Rt nb (idx (i + 1) l) ((i,false,nb + 8 * i,[],[]) :: lg) (σ.app dst (v0 (.val (.bool (decide (b < a)))))) m' lg' σ'):Gm P cx fz ops Rt nb (idx i (⟨dst,.binOp .gtr t x y yt,ty,pos,af,g⟩ :: l)) lg σ m' lg' σ':=
 Gm.s hds (aJt) k G rfl hok
theorem Gm.leq {x y:Operand} {t yt:TypeId} {kk:IntKind} {a b:Int} {q1 q2:Option LB} (hds:E0 σ false [x,y]=some [(.val (.int kk a),q1),(.val (.int kk b),q2)])  (G:Kh ops σ ⟨dst,.binOp .leq t x y yt,ty,pos,af,g⟩=some true)
  (hok:(K9 Rt i false (nb + 8 * i) [] [] lg && (Nat.beq (zM fz (nb + 8 * i)) 0 && Ov cx.np (.binOp .leq t x y yt) []))=true) (k:Gm P cx fz ops Rt nb (idx (i + 1) l) ((i,false,nb + 8 * i,[],[]) :: lg) (σ.app dst (v0 (.val (.bool (decide (a<=b)))))) m' lg' σ'):Gm P cx fz ops Rt nb (idx i (⟨dst,.binOp .leq t x y yt,ty,pos,af,g⟩ :: l)) lg σ m' lg' σ':=
 Gm.s hds (aH7) k G rfl hok
theorem Gm.geq {x y:Operand} {t yt:TypeId} {kk:IntKind} {a b:Int} {q1 q2:Option LB} (hds:E0 σ false [x,y]=some [(.val (.int kk a),q1),(.val (.int kk b),q2)])  (G:Kh ops σ ⟨dst,.binOp .geq t x y yt,ty,pos,af,g⟩=some true)
  (hok:(K9 Rt i false (nb + 8 * i) [] [] lg && (Nat.beq (zM fz (nb + 8 * i)) 0 && Ov cx.np (.binOp .geq t x y yt) []))=true) (k:Gm P cx fz ops Rt nb (idx (i + 1) l) ((i,false,nb + 8 * i,[],[]) :: lg) (σ.app dst (v0 (.val (.bool (decide (b<=a)))))) m' lg' σ'):Gm P cx fz ops Rt nb (idx i (⟨dst,.binOp .geq t x y yt,ty,pos,af,g⟩ :: l)) lg σ m' lg' σ':=
 Gm.s hds (aJ6) k G rfl hok
theorem Gm.neq {x y:Operand} {t yt:TypeId} {kk:IntKind} {a b:Int} {q1 q2:Option LB} (hds:E0 σ false [x,y]=some [(.val (.int kk a),q1),(.val (.int kk b),q2)])  (G:Kh ops σ ⟨dst,.binOp .neq t x y yt,ty,pos,af,g⟩=some true)
  (hok:(K9 Rt i false (nb + 8 * i) [] [] lg && (Nat.beq (zM fz (nb + 8 * i)) 0 && Ov cx.np (.binOp .neq t x y yt) []))=true) (k:Gm P cx fz ops Rt nb (idx (i + 1) l) ((i,false,nb + 8 * i,[],[]) :: lg) (σ.app dst (v0 (.val (.bool (!decide (a=b)))))) m' lg' σ'):Gm P cx fz ops Rt nb (idx i (⟨dst,.binOp .neq t x y yt,ty,pos,af,g⟩ :: l)) lg σ m' lg' σ':=
 Gm.s hds (aJ3) k G rfl hok
theorem Gm.seql {x y:Operand} {t yt:TypeId} {a b:ByteArray} {q1 q2:Option LB} (hds:E0 σ false [x,y]=some [(.val (.string a),q1),(.val (.string b),q2)])  (G:Kh ops σ ⟨dst,.binOp .eql t x y yt,ty,pos,af,g⟩=some true)
  (hok:(K9 Rt i false (nb + 8 * i) [] [] lg && (Nat.beq (zM fz (nb + 8 * i)) 0 && Ov cx.np (.binOp .eql t x y yt) []))=true) (k:Gm P cx fz ops Rt nb (idx (i + 1) l) ((i,false,nb + 8 * i,[],[]) :: lg) (σ.app dst (v0 (.val (.bool (decide (a=b)))))) m' lg' σ'):Gm P cx fz ops Rt nb (idx i (⟨dst,.binOp .eql t x y yt,ty,pos,af,g⟩ :: l)) lg σ m' lg' σ':=
 Gm.s hds (aDw) k G rfl hok
theorem Gm.sneq {x y:Operand} {t yt:TypeId} {a b:ByteArray} {q1 q2:Option LB} (hds:E0 σ false [x,y]=some [(.val (.string a),q1),(.val (.string b),q2)])  (G:Kh ops σ ⟨dst,.binOp .neq t x y yt,ty,pos,af,g⟩=some true)
  (hok:(K9 Rt i false (nb + 8 * i) [] [] lg && (Nat.beq (zM fz (nb + 8 * i)) 0 && Ov cx.np (.binOp .neq t x y yt) []))=true) (k:Gm P cx fz ops Rt nb (idx (i + 1) l) ((i,false,nb + 8 * i,[],[]) :: lg) (σ.app dst (v0 (.val (.bool (!decide (a=b)))))) m' lg' σ'):Gm P cx fz ops Rt nb (idx i (⟨dst,.binOp .neq t x y yt,ty,pos,af,g⟩ :: l)) lg σ m' lg' σ':=
 Gm.s hds (aF8) k G rfl hok
theorem Gm.add {x y:Operand} {t yt:TypeId} {a b:Int} {q1 q2:Option LB} (hds:E0 σ false [x,y]=some [(.val (.int .i64 a),q1),(.val (.int .i64 b),q2)])  (G:Kh ops σ ⟨dst,.binOp .add t x y yt,ty,pos,af,g⟩=some true)
  (hok:(K9 Rt i false (nb + 8 * i) [] [] lg && (Nat.beq (zM fz (nb + 8 * i)) 0 && Ov cx.np (.binOp .add t x y yt) []))=true) (k:Gm P cx fz ops Rt nb (idx (i + 1) l) ((i,false,nb + 8 * i,[],[]) :: lg) (σ.app dst (v0 (.val (.int .i64 (W (a + b)))))) m' lg' σ'):Gm P cx fz ops Rt nb (idx i (⟨dst,.binOp .add t x y yt,ty,pos,af,g⟩ :: l)) lg σ m' lg' σ':=
 Gm.s hds (aC0) k G rfl hok
theorem Gm.sub {x y:Operand} {t yt:TypeId} {a b:Int} {q1 q2:Option LB} (hds:E0 σ false [x,y]=some [(.val (.int .i64 a),q1),(.val (.int .i64 b),q2)])  (G:Kh ops σ ⟨dst,.binOp .sub t x y yt,ty,pos,af,g⟩=some true)
  (hok:(K9 Rt i false (nb + 8 * i) [] [] lg && (Nat.beq (zM fz (nb + 8 * i)) 0 && Ov cx.np (.binOp .sub t x y yt) []))=true) (k:Gm P cx fz ops Rt nb (idx (i + 1) l) ((i,false,nb + 8 * i,[],[]) :: lg) (σ.app dst (v0 (.val (.int .i64 (W (a - b)))))) m' lg' σ'):Gm P cx fz ops Rt nb (idx i (⟨dst,.binOp .sub t x y yt,ty,pos,af,g⟩ :: l)) lg σ m' lg' σ':=
 Gm.s hds (aIu) k G rfl hok
theorem Gm.mul {x y:Operand} {t yt:TypeId} {a b:Int} {q1 q2:Option LB} (hds:E0 σ false [x,y]=some [(.val (.int .i64 a),q1),(.val (.int .i64 b),q2)])  (G:Kh ops σ ⟨dst,.binOp .mul t x y yt,ty,pos,af,g⟩=some true)
  (hok:(K9 Rt i false (nb + 8 * i) [] [] lg && (Nat.beq (zM fz (nb + 8 * i)) 0 && Ov cx.np (.binOp .mul t x y yt) []))=true) (k:Gm P cx fz ops Rt nb (idx (i + 1) l) ((i,false,nb + 8 * i,[],[]) :: lg) (σ.app dst (v0 (.val (.int .i64 (W (a * b)))))) m' lg' σ'):Gm P cx fz ops Rt nb (idx i (⟨dst,.binOp .mul t x y yt,ty,pos,af,g⟩ :: l)) lg σ m' lg' σ':=
 Gm.s hds (aKe) k G rfl hok
theorem Gm.alloc {t:TypeId} {z:List Value} [Z:Xs P t z] (hds:E0 σ false []=some [])  (G:Kh ops σ ⟨dst,.alloc t,ty,pos,af,g⟩=some true)
  (hok:(K9 Rt i false (nb + 8 * i) [] [] lg && (Nat.beq (zM fz (nb + 8 * i)) 0 && Ov cx.np (.alloc t) []))=true) (k:Gm P cx fz ops Rt nb (idx (i + 1) l) ((i,false,nb + 8 * i,[],[]) :: lg) (σ.app dst (Pw (nb + 8 * i) (.box (z.map .val) t) (.ptr (nb + 8 * i) 0))) m' lg' σ'):Gm P cx fz ops Rt nb (idx i (⟨dst,.alloc t,ty,pos,af,g⟩ :: l)) lg σ m' lg' σ':=
 Gm.s hds (.alloc Z.h) k G rfl hok
theorem Gm.box {x:Operand} {t:TypeId} {d:DV} {q:Option LB} (hds:E0 σ false [x]=some [(d,q)]) (ho:(C2 d).all aG=true) (G:Kh ops σ ⟨dst,.box t x,ty,pos,af,g⟩=some true)
  (hok:(K9 Rt i false (nb + 8 * i) [] [] lg && (Nat.beq (zM fz (nb + 8 * i)) 0 && Ov cx.np (.box t x) []))=true) (k:Gm P cx fz ops Rt nb (idx (i + 1) l) ((i,false,nb + 8 * i,[],[]) :: lg) (σ.app dst (Pw (nb + 8 * i) (.box (C2 d) t) (.ptr (nb + 8 * i) 0))) m' lg' σ'):Gm P cx fz ops Rt nb (idx i (⟨dst,.box t x,ty,pos,af,g⟩ :: l)) lg σ m' lg' σ':=
 Gm.s hds (.box ho) k G rfl hok
theorem Gm.not {x:Operand} {t:TypeId} {b:Bool} {q:Option LB} (hds:E0 σ false [x]=some [(.val (.bool b),q)])  (G:Kh ops σ ⟨dst,.unOp .not t x,ty,pos,af,g⟩=some true)
  (hok:(K9 Rt i false (nb + 8 * i) [] [] lg && (Nat.beq (zM fz (nb + 8 * i)) 0 && Ov cx.np (.unOp .not t x) []))=true) (k:Gm P cx fz ops Rt nb (idx (i + 1) l) ((i,false,nb + 8 * i,[],[]) :: lg) (σ.app dst (v0 (.val (.bool (!b))))) m' lg' σ'):Gm P cx fz ops Rt nb (idx i (⟨dst,.unOp .not t x,ty,pos,af,g⟩ :: l)) lg σ m' lg' σ':=
 Gm.s hds (aId) k G rfl hok
theorem Gm.lenS {α:Type} {f:α->List C} {L:List α} {x:Operand} {t e sz by_:Nat} {q:Option LB} [S:Ww P t e sz by_] (hds:E0 σ true [x]=some [(.sl sz (Aj f L),q)]) (E:Pd f sz) (G:Kh ops σ ⟨dst,.call ⟨.builtin .len,#[x],#[t]⟩,ty,pos,af,g⟩=some true)
  (hok:(K9 Rt i false (nb + 8 * i) [] [] lg && (Nat.beq (zM fz (nb + 8 * i)) 0 && Ov cx.np (.call ⟨.builtin .len,#[x],#[t]⟩) []))=true) (k:Gm P cx fz ops Rt nb (idx (i + 1) l) ((i,false,nb + 8 * i,[],[]) :: lg) (σ.app dst (v0 (.val (.int .i64 (L.length:Int))))) m' lg' σ'):Gm P cx fz ops Rt nb (idx i (⟨dst,.call ⟨.builtin .len,#[x],#[t]⟩,ty,pos,af,g⟩ :: l)) lg σ m' lg' σ':=
 Gm.s hds (aEk S.h E.h) k G rfl hok
theorem Gm.lenR {α:Type} {f:α->List C} {L:List α} {x:Operand} {t e e' sz by_ k:Nat} [S:Ww P t e sz by_] (hds:E0 σ true [x]=some [(.row k,some (.row e' sz (Aj f L)))]) (E:Pd f sz) (G:Kh ops σ ⟨dst,.call ⟨.builtin .len,#[x],#[t]⟩,ty,pos,af,g⟩=some true)
  (hok:(K9 Rt i false (nb + 8 * i) [k] [] lg && (Nat.beq (zM fz (nb + 8 * i)) 0 && Ov cx.np (.call ⟨.builtin .len,#[x],#[t]⟩) []))=true) (k:Gm P cx fz ops Rt nb (idx (i + 1) l) ((i,false,nb + 8 * i,[k],[]) :: lg) (σ.app dst (v0 (.val (.int .i64 (L.length:Int))))) m' lg' σ'):Gm P cx fz ops Rt nb (idx i (⟨dst,.call ⟨.builtin .len,#[x],#[t]⟩,ty,pos,af,g⟩ :: l)) lg σ m' lg' σ':=
 Gm.s hds (aG2 S.h E.h) k G rfl hok
theorem Gm.idxS {α:Type} {f:α->List C} {L:List α} {a:α} {x y:Operand} {t e sz by_:Nat} {kk:IntKind} {n:Int} {q1 q2:Option LB} [S:Ww P t e sz by_] (hds:E0 σ true [x,y]=some [(.sl sz (Aj f L),q1),(.val (.int kk n),q2)]) (E:Pd f sz) (hx:Bu L n=some a) (G:Kh ops σ ⟨dst,.indexAddr t x y,ty,pos,af,g⟩=some true)
  (hok:(K9 Rt i false (nb + 8 * i) [] [] lg && (Nat.beq (zM fz (nb + 8 * i)) 0 && Ov cx.np (.indexAddr t x y) []))=true) (k:Gm P cx fz ops Rt nb (idx (i + 1) l) ((i,false,nb + 8 * i,[],[]) :: lg) (σ.app dst (v0 (.elt ((Aj f L).drop (n.toNat * sz))))) m' lg' σ'):Gm P cx fz ops Rt nb (idx i (⟨dst,.indexAddr t x y,ty,pos,af,g⟩ :: l)) lg σ m' lg' σ':=
 Gm.s hds (wE S.h E.h (N4 hx) (Dj hx)) k G rfl hok
theorem Gm.idxR {α:Type} {f:α->List C} {L:List α} {a:α} {x y:Operand} {t e e' sz by_ k:Nat} {kk:IntKind} {n:Int} {q2:Option LB} [S:Ww P t e sz by_] (hds:E0 σ true [x,y]=some [(.row k,some (.row e' sz (Aj f L))),(.val (.int kk n),q2)]) (E:Pd f sz) (hx:Bu L n=some a) (G:Kh ops σ ⟨dst,.indexAddr t x y,ty,pos,af,g⟩=some true)
  (hok:(K9 Rt i false (nb + 8 * i) [k] [] lg && (Nat.beq (zM fz (nb + 8 * i)) 0 && Ov cx.np (.indexAddr t x y) []))=true) (k:Gm P cx fz ops Rt nb (idx (i + 1) l) ((i,false,nb + 8 * i,[k],[]) :: lg) (σ.app dst (v0 (.ptr k (n.toNat * sz)))) m' lg' σ'):Gm P cx fz ops Rt nb (idx i (⟨dst,.indexAddr t x y,ty,pos,af,g⟩ :: l)) lg σ m' lg' σ':=
 Gm.s hds (vQ S.h E.h (N4 hx) (Dj hx)) k G rfl hok
theorem Gm.nilP {x:Operand} {k j:Nat} {q:Option LB} (hds:E0 σ false [x]=some [(.ptr k j,q)])  (G:Kh ops σ ⟨dst,.nilCheck x,ty,pos,af,g⟩=some true)
  (hok:(K9 Rt i false (nb + 8 * i) [] [] lg && (Nat.beq (zM fz (nb + 8 * i)) 0 && Ov cx.np (.nilCheck x) []))=true) (k:Gm P cx fz ops Rt nb (idx (i + 1) l) ((i,false,nb + 8 * i,[],[]) :: lg) (σ.app dst (v0 (.ptr k j))) m' lg' σ'):Gm P cx fz ops Rt nb (idx i (⟨dst,.nilCheck x,ty,pos,af,g⟩ :: l)) lg σ m' lg' σ':=
 Gm.s hds (.nilP) k G rfl hok
theorem Gm.nilE {x:Operand} {cs:List C} {q:Option LB} (hds:E0 σ false [x]=some [(.elt cs,q)])  (G:Kh ops σ ⟨dst,.nilCheck x,ty,pos,af,g⟩=some true)
  (hok:(K9 Rt i false (nb + 8 * i) [] [] lg && (Nat.beq (zM fz (nb + 8 * i)) 0 && Ov cx.np (.nilCheck x) []))=true) (k:Gm P cx fz ops Rt nb (idx (i + 1) l) ((i,false,nb + 8 * i,[],[]) :: lg) (σ.app dst (v0 (.elt cs))) m' lg' σ'):Gm P cx fz ops Rt nb (idx i (⟨dst,.nilCheck x,ty,pos,af,g⟩ :: l)) lg σ m' lg' σ':=
 Gm.s hds (.nilE) k G rfl hok
theorem Gm.field1 {x:Operand} {s f off ft sz:Nat} {ds:List DV} {d:DV} {q:Option LB} [F:Lz P s f off ft] [T:Nh P ft false sz] (hds:E0 σ false [x]=some [(.agg ds,q)]) (hd:ds[off]?=some d) (G:Kh ops σ ⟨dst,.field s x f,ty,pos,af,g⟩=some true)
  (hok:(K9 Rt i false (nb + 8 * i) [] [] lg && (Nat.beq (zM fz (nb + 8 * i)) 0 && Ov cx.np (.field s x f) []))=true) (k:Gm P cx fz ops Rt nb (idx (i + 1) l) ((i,false,nb + 8 * i,[],[]) :: lg) (σ.app dst (v0 d)) m' lg' σ'):Gm P cx fz ops Rt nb (idx i (⟨dst,.field s x f,ty,pos,af,g⟩ :: l)) lg σ m' lg' σ':=
 Gm.s hds (.field1 F.h T.h hd) k G rfl hok
theorem Gm.fieldA {x:Operand} {s f off ft sz:Nat} {ds:List DV} {q:Option LB} [F:Lz P s f off ft] [T:Nh P ft true sz] (hds:E0 σ false [x]=some [(.agg ds,q)])  (G:Kh ops σ ⟨dst,.field s x f,ty,pos,af,g⟩=some true)
  (hok:(K9 Rt i false (nb + 8 * i) [] [] lg && (Nat.beq (zM fz (nb + 8 * i)) 0 && Ov cx.np (.field s x f) []))=true) (k:Gm P cx fz ops Rt nb (idx (i + 1) l) ((i,false,nb + 8 * i,[],[]) :: lg) (σ.app dst (v0 (.agg ((ds.drop off).take sz)))) m' lg' σ'):Gm P cx fz ops Rt nb (idx i (⟨dst,.field s x f,ty,pos,af,g⟩ :: l)) lg σ m' lg' σ':=
 Gm.s hds (.fieldA F.h T.h) k G rfl hok
theorem Gm.makeF {f:Nat} {first caps:Array Operand} {ds:List (DV×Option LB)} (hds:E0 σ false (Op.makeFunc (.func f) first caps).operands.toList=some ds)  (G:Kh ops σ ⟨dst,.makeFunc (.func f) first caps,ty,pos,af,g⟩=some true)
  (hok:(K9 Rt i false (nb + 8 * i) [] [] lg && (Nat.beq (zM fz (nb + 8 * i)) 0 && Ov cx.np (.makeFunc (.func f) first caps) []))=true) (k:Gm P cx fz ops Rt nb (idx (i + 1) l) ((i,false,nb + 8 * i,[],[]) :: lg) (σ.app dst (v0 (.clo f first.size (ds.map (·.1))))) m' lg' σ'):Gm P cx fz ops Rt nb (idx i (⟨dst,.makeFunc (.func f) first caps,ty,pos,af,g⟩ :: l)) lg σ m' lg' σ':=
 Gm.s hds (.makeFunc) k G rfl hok
theorem Kf {p:Prop} (h:p:=by first | with_reducible exact aKy | exact Nn rfl rfl (by first | with_reducible assumption | with_reducible rfl | with_reducible exact cN (by with_reducible assumption) | with_reducible exact cV (by with_reducible assumption))):p:=h
theorem gm_ {p:Prop} (h:p:=by
  repeat first
   | (apply Gm.move; exact rfl; exact Kf; exact rfl)
   | (apply Gm.assign; exact rfl; exact Kf; exact rfl)
   | (apply Gm.fieldP; exact rfl; (exact rfl); exact Kf; exact rfl)
   | (apply Gm.load1; exact rfl; (exact rfl); exact Kf; exact rfl)
   | (apply Gm.loadA; exact rfl; (exact rfl); exact Kf; exact rfl)
   | (apply Gm.pickF; exact rfl; (first | with_reducible assumption | with_reducible rfl | with_reducible exact cN (by with_reducible assumption)); exact Kf; exact rfl)
   | (apply Gm.pickT; exact rfl; (first | with_reducible assumption | with_reducible rfl | with_reducible exact cV (by with_reducible assumption)); exact Kf; exact rfl)
   | (apply Gm.k; (first | exact tP rfl rfl (by first | with_reducible assumption | with_reducible rfl | with_reducible exact cN (by with_reducible assumption) | with_reducible exact cV (by with_reducible assumption)) | exact wC rfl rfl (by first | with_reducible assumption | with_reducible rfl | with_reducible exact cN (by with_reducible assumption) | with_reducible exact cV (by with_reducible assumption)) | exact aC8 rfl rfl); exact rfl)
   | (apply Gm.storeB; exact rfl; (exact rfl); (exact rfl); (exact rfl); (focus repeat first | exact (rfl:_=[]) | (apply aGt; exact rfl)); (first | exact (rfl:_=[_]) | exact (rfl:_=[_,_]) | exact (rfl:_=[_,_,_])); exact Kf; exact rfl)
   | (apply Gm.extract; exact rfl; (exact rfl); exact Kf; exact rfl)
   | (apply Gm.lss; exact rfl; exact Kf; exact rfl)
   | (apply Gm.eql; exact rfl; exact Kf; exact rfl)
   | (apply Gm.gtr; exact rfl; exact Kf; exact rfl)
   | (apply Gm.leq; exact rfl; exact Kf; exact rfl)
   | (apply Gm.geq; exact rfl; exact Kf; exact rfl)
   | (apply Gm.neq; exact rfl; exact Kf; exact rfl)
   | (apply Gm.seql; exact rfl; exact Kf; exact rfl)
   | (apply Gm.sneq; exact rfl; exact Kf; exact rfl)
   | (apply Gm.add; exact rfl; exact Kf; exact rfl)
   | (apply Gm.sub; exact rfl; exact Kf; exact rfl)
   | (apply Gm.mul; exact rfl; exact Kf; exact rfl)
   | (apply Gm.alloc; exact rfl; exact Kf; exact rfl)
   | (apply Gm.box; exact rfl; (exact rfl); exact Kf; exact rfl)
   | (apply Gm.not; exact rfl; exact Kf; exact rfl)
   | (apply Gm.lenS; exact rfl; (exact inferInstance); exact Kf; exact rfl)
   | (apply Gm.lenR; exact rfl; (exact inferInstance); exact Kf; exact rfl)
   | (apply Gm.idxS; exact rfl; (exact inferInstance); (with_reducible assumption); exact Kf; exact rfl)
   | (apply Gm.idxR; exact rfl; (exact inferInstance); (with_reducible assumption); exact Kf; exact rfl)
   | (apply Gm.nilP; exact rfl; exact Kf; exact rfl)
   | (apply Gm.nilE; exact rfl; exact Kf; exact rfl)
   | (apply Gm.field1; exact rfl; (exact rfl); exact Kf; exact rfl)
   | (apply Gm.fieldA; exact rfl; exact Kf; exact rfl)
   | (apply Gm.makeF; exact rfl; exact Kf; exact rfl)
  exact Gm.z):p:=h
theorem Me {m:List (Nat×Oper)} (k:Chain (Df P cx fz) ops Rt nb m' lg' σ' Q) (h:Gm P cx fz ops Rt nb m lg σ m' lg' σ':=by exact gm_):Chain (Df P cx fz) ops Rt nb m lg σ Q:=h Q k
end
theorem bc_ {R:Type} {b:Bool} {X Y:Option R} {r:R} (G:cond b X Y=some r):(b=true/\X=some r)\/(b=false/\Y=some r):=by
 cases b with
 | true=>exact .inl ⟨rfl,G⟩
 | false=>exact .inr ⟨rfl,G⟩
section
variable {P:Program} {cx:Cx} {σ:St} {Q:Exit->St->Prop} {x y:Code}
theorem Jf {R:Type} {t:Nat} {b:Bool} {X Y:Option R} {r:R} (hc:σ.F t=some (.val (.bool b))) (G:cond b X Y=some r) (h1:b=true->X=some r->Oy P cx x Q σ) (h2:b=false->Y=some r->Oy P cx y Q σ):Oy P cx (.cond (.tmp t) x y) Q σ:=
 J9 hc (fun h=>h1 h (aF4 h G)) fun h=>h2 h (aHr h G)
theorem B9 {fl:List (Nat×DV)} {ll:List (Nat×LB)} {n:Nat} (θ:List (Nat×Nat))
  (hF:aAf σ (Gf θ) fl:=by
   repeat' first
    | exact trivial
    | refine⟨⟨_,rfl,?_⟩,?_⟩
    | exact Cv.val _
    | exact Cv.sl _ _
    | exact Cv.ptr rfl
    | exact Cv.row rfl
    | exact Cv.part rfl
    | exact Cv.nil rfl
    | exact Cv.nils _
    | exact Cv.elt _
    | exact Cv.mp _
    | refine Cv.clo _ _ ?_
    | refine Cv.agg ?_
    | refine Cv.tup ?_
    | refine Cv.clo _ _ ?_
    | exact Tq.nil
    | refine Tq.cons ?_ ?_
    | exact Cv.frzM rfl (Fr rfl)
    | exact Cv.frz rfl (Fr rfl)
   first | done | fail)
  (hL:rT σ (Gf θ) ll:=by
   repeat' first
    | exact trivial
    | refine⟨.inl ⟨_,_,rfl,rfl,⟨rfl,rfl,rfl⟩⟩,?_⟩
    | refine⟨.inl ⟨_,_,rfl,rfl,⟨rfl,?_⟩⟩,?_⟩
    | refine⟨.inr ⟨rfl,_,_,rfl⟩,?_⟩
    | exact Cv.val _
    | exact Cv.sl _ _
    | exact Cv.ptr rfl
    | exact Cv.row rfl
    | exact Cv.part rfl
    | exact Cv.nil rfl
    | exact Cv.nils _
    | exact Cv.elt _
    | exact Cv.mp _
    | refine Cv.clo _ _ ?_
    | refine Cv.agg ?_
    | exact Tq.nil
    | refine Tq.cons ?_ ?_
    | exact Cv.frzM rfl (Fr rfl)
    | exact Cv.frz rfl (Fr rfl)
   first | done | fail)
  (hc:sG fl ll n θ=true:=by rfl) (hp:nU θ n cx.np=true:=by rfl):O5 cx σ (mk fl ll n):=O5.lists θ hc hp hF hL
theorem G7 {S R:Type} {body:S->Option (Lp S R)} {s0:S} {r:R} (st:S->St) (G:B2 body s0=some r) (h0:O5 cx σ (st s0)) (round:∀ (s:S) (m:Nat) (o:Lp S R),body s=some o->Zj (Pn body m) o=some r->Oy P cx x (tF (fun σ'=>∃ j:S×Nat,j.2 < m + 1/\Pn body j.2 j.1=some r/\O5 cx σ' (st j.1)) Q) (st s)):Oy P cx (.loop x) Q σ:=by
 obtain⟨n,G⟩:=U0 G
 refine vZ (ι:=S×Nat) (fun q=>st q.1) (fun q=>Pn body q.2 q.1=some r) (fun q=>q.2) (s0,n) h0 G ?_
 rintro⟨s,k⟩ hk
 obtain⟨m,o,rfl,h1,h2⟩:=rO (show Pn body k s=some r from hk)
 exact round s m o h1 h2
theorem Tk {fn:Func} {np:Nat} {R:DV->List LB->Prop} {ds:List DV} {r:DV} {bx:List LB} (θ:List (Nat×Nat)) (hR:R r bx)
  (h1:Tf P σ fn.results.toList ds:=by
   repeat first
    | exact Tf.nil
    | (apply Tf.cons; exact .tmp rfl)
    | (apply Tf.cons; exact .cell1 rfl rfl Nh.h rfl)
    | (apply Tf.cons; exact .cellA rfl rfl Nh.h rfl))
  (h2:Cv σ (Gf θ) (vR ds) r:=by
   repeat' first
    | exact Cv.val _
    | exact Cv.sl _ _
    | exact Cv.ptr rfl
    | exact Cv.row rfl
    | exact Cv.nil rfl
    | exact Cv.nils _
    | exact Cv.elt _
    | exact Cv.mp _
    | refine Cv.clo _ _ ?_
    | refine Cv.agg ?_
    | refine Cv.tup ?_
    | exact Tq.nil
    | refine Tq.cons ?_ ?_
    | exact Cv.frzM rfl (Fr rfl)
    | exact Cv.frz rfl (Fr rfl)
   first | done | fail)
  (h3:rT σ (Gf θ) (ix 0 bx):=by
   repeat' first
    | exact trivial
    | refine⟨.inl ⟨_,_,rfl,rfl,⟨rfl,rfl,rfl⟩⟩,?_⟩
    | refine⟨.inl ⟨_,_,rfl,rfl,⟨rfl,?_⟩⟩,?_⟩
    | refine⟨.inr ⟨rfl,_,_,rfl⟩,?_⟩
    | exact Cv.val _
    | exact Cv.sl _ _
    | exact Cv.ptr rfl
    | exact Cv.row rfl
    | exact Cv.nil rfl
    | exact Cv.nils _
    | exact Cv.elt _
    | exact Cv.mp _
    | refine Cv.clo _ _ ?_
    | refine Cv.agg ?_
    | exact Tq.nil
    | refine Tq.cons ?_ ?_
    | exact Cv.frzM rfl (Fr rfl)
    | exact Cv.frz rfl (Fr rfl)
   first | done | fail)
  (h4:sG [(0,r)] (ix 0 bx) bx.length θ=true:=by rfl) (h5:nU θ bx.length np=true:=by rfl) (h6:Nat.ble np bx.length=true:=by rfl) (h7:Nat.ble bx.length (np + 8)=true:=by rfl):Fin P fn np R σ:=
 ⟨ds,r,bx,θ,h1,hR,h2,h3,h4,h5,h6,h7⟩
end
section
variable {P:Program} {cx:Cx} {ops:Array Oper} {Rt:Option (List Nat)} {nb i:Nat} {l:List Oper} {lg:jT} {σ:St} {Q:St->Prop} {fz:List Nat}
theorem Ni {dst:Option Tmp} {f:FuncId} {xs:Array Operand} {tys:Array TypeId} {ty:TypeId} {pos:String} {af:Array Edge} {g:Option (Nat×Bool)} {dsA:List (DV×Option LB)} {args:List DV} {d:DV}
  (hF:Fn P f 0 args [] (fun d' b'=>d'=d/\b'=[]))
  (k:Chain (Df P cx fz) ops Rt nb (idx (i + 1) l) ((i,true,nb + 8 * i,[],[]) :: lg) (σ.app dst (dE [] [] d [])) Q)
  (hds:E0 σ true xs.toList=some dsA:=by rfl)
  (hA:Nk false ([] ++ []) (Lu σ []) (dsA.map (·.1)) args:=by
   repeat' first
    | exact Nk.nil
    | exact Ag.val
    | exact Ag.sl
    | exact Ag.nils
    | exact Ag.elt
    | exact Ag.fn
    | refine Ag.agg ?_
    | refine Ag.clo ?_
    | refine Nk.cons ?_ ?_
   first | done | fail)
  (G:Kh ops σ ⟨dst,.call ⟨.value (.func f),xs,tys⟩,ty,pos,af,g⟩=some true:=by exact Kf)
  (hrd:O3 σ 3 (Qn dsA)=[]:=by rfl) (hok:K9 Rt i true (nb + 8 * i) [] [] lg=true:=by rfl) (hr:Jr d=[]:=by rfl) :
  Chain (Df P cx fz) ops Rt nb (idx i (⟨dst,.call ⟨.value (.func f),xs,tys⟩,ty,pos,af,g⟩ :: l)) lg σ Q:=
 cZ (ps:=[]) (gs:=[]) (rd:=[]) (bx:=[]) (b:=[]) false G hF hds hrd hA rfl rfl (fun h=>by cases h) hok hr rfl rfl k
theorem P5 {dst:Option Tmp} {f:FuncId} {xs:Array Operand} {tys:Array TypeId} {ty:TypeId} {pos:String} {af:Array Edge} {g:Option (Nat×Bool)} {dsA:List (DV×Option LB)} {args:List DV} {bx:List LB} {d:DV} {b:List LB} (rd ps gs:List Nat) (fl:Bool)
  (hF:Fn P f ps.length args bx (fun d' b'=>d'=d/\b'=b))
  (k:Chain (Df P cx fz) ops Rt nb (idx (i + 1) l) ((i,true,nb + 8 * i,rd,ps ++ gs) :: lg) (σ.app dst (dE ps gs d b)) Q)
  (hds:E0 σ true xs.toList=some dsA:=by rfl)
  (hA:Nk fl (ps ++ gs) (Lu σ rd) (dsA.map (·.1)) args:=by
   repeat' first
    | exact Nk.nil
    | exact Ag.val
    | exact Ag.sl
    | exact Ag.nils
    | exact Ag.elt
    | exact Ag.fn
    | exact Ag.ptr rfl
    | exact Ag.rowK rfl
    | exact Ag.row rfl (by repeat first | exact List.Mem.head _ | refine List.Mem.tail _ ?_) rfl
    | refine Ag.agg ?_
    | refine Ag.clo ?_
    | refine Nk.cons ?_ ?_
   first | done | fail)
  (hB:aI fl (ps ++ gs) (Lu σ rd) (ps ++ gs) bx:=by
   repeat' first
    | exact (rfl:_=[])
    | refine⟨_,_,_,rfl,(.head _),⟨_,rfl,?_⟩,?_⟩
    | refine⟨_,_,_,rfl,(.tail _ (.head _)),⟨_,rfl,?_⟩,?_⟩
    | refine⟨_,_,_,rfl,(.tail _ (.tail _ (.head _))),⟨_,rfl,?_⟩,?_⟩
    | refine⟨_,_,_,rfl,(.tail _ (.tail _ (.tail _ (.head _)))),⟨_,rfl,?_⟩,?_⟩
    | refine⟨_,_,_,rfl,(.tail _ (.tail _ (.tail _ (.tail _ (.head _))))),⟨_,rfl,?_⟩,?_⟩
    | refine⟨_,_,_,rfl,(.tail _ (.tail _ (.tail _ (.tail _ (.tail _ (.head _)))))),⟨_,rfl,?_⟩,?_⟩
    | refine⟨_,_,_,rfl,(.tail _ (.tail _ (.tail _ (.tail _ (.tail _ (.tail _ (.head _))))))),⟨_,rfl,?_⟩,?_⟩
    | refine⟨_,_,_,rfl,(.head _),rfl,?_⟩
    | refine⟨_,_,_,rfl,(.tail _ (.head _)),rfl,?_⟩
    | refine⟨_,_,_,rfl,(.tail _ (.tail _ (.head _))),rfl,?_⟩
    | refine⟨_,_,_,rfl,(.tail _ (.tail _ (.tail _ (.head _)))),rfl,?_⟩
    | refine⟨_,_,_,rfl,(.tail _ (.tail _ (.tail _ (.tail _ (.head _))))),rfl,?_⟩
    | refine⟨_,_,_,rfl,(.tail _ (.tail _ (.tail _ (.tail _ (.tail _ (.head _)))))),rfl,?_⟩
    | refine⟨_,_,_,rfl,(.tail _ (.tail _ (.tail _ (.tail _ (.tail _ (.tail _ (.head _))))))),rfl,?_⟩
    | exact Nk.nil
    | exact Ag.val
    | exact Ag.sl
    | exact Ag.nils
    | exact Ag.elt
    | exact Ag.ptr rfl
    | refine Nk.cons ?_ ?_
   first | done | fail)
  (G:Kh ops σ ⟨dst,.call ⟨.value (.func f),xs,tys⟩,ty,pos,af,g⟩=some true:=by exact Kf)
  (hrd:O3 σ 3 (Qn dsA)=rd:=by rfl) (hnd:Rs cx.np ps gs=true:=by rfl) (hfl:fl=true->J6 d/\∀ lb∈b,Qi lb:=by first | (intro h; cases h; done) | exact fun _=>⟨by simp [J6,Mb],by simp [Qi,Mb,J6]⟩)
  (hok:K9 Rt i true (nb + 8 * i) rd (ps ++ gs) lg=true:=by rfl) (hr:Jr d=[]:=by rfl) (hl:b.length=ps.length:=by rfl) (hb:b.flatMap Z6=[]:=by rfl) :
  Chain (Df P cx fz) ops Rt nb (idx i (⟨dst,.call ⟨.value (.func f),xs,tys⟩,ty,pos,af,g⟩ :: l)) lg σ Q:=
 cZ fl G hF hds hrd hA hB hnd hfl hok hr hl hb k
end
theorem sU {p:Prop} (h:p:=by refine Me ?_; refine aBs fun B=>?_; refine aBa ?_; obtain rfl:=oi_ G; exact Tk [] ⟨rfl,rfl⟩):p:=h
theorem Mf {p q:Prop} (k:q) (h:q->p:=by intro k; refine Me ?_; refine aBs ?_; exact k):p:=h k
theorem rp_ {p q:Prop} (k:q) (h:q->p:=by intro k; (repeat first | refine st_ ?_ | refine sn_ ?_); exact k):p:=h k
theorem yT {p:Prop} (h:p:=by (repeat first | exact (rfl:_=[]) | (apply aGt; exact rfl)); first | done | fail):p:=h
theorem dc_ {p:Prop} (h:p:=by (repeat first | exact Ly.nil | (apply Ly.cons; first | exact eU.int | exact eU.bool | exact eU.str | exact eU.sl | exact eU.nil)); first | done | fail):p:=h
theorem t3_ {p:Prop} (h:p:=by refine aBa ?_; obtain rfl:=oi_ G; exact Tk [] ⟨rfl,rfl⟩):p:=h
theorem Vc {p q:Prop} (k:q) (h:q->p:=by intro k; refine yL ?_; (repeat first | refine st_ ?_ | refine sn_ ?_); exact k):p:=h k
theorem ex_ {p q:Prop} (k:q) (h:q->p:=by intro k; refine uH ?_; (repeat first | refine st_ ?_ | refine sn_ ?_); exact k):p:=h k
class yQ {α:Type} (f:α->List C):Prop where
 h:∀ x,∀ c∈f x,qC c=true
theorem qZ {α:Type} {f:α->List C} [F:yQ f] {e s:Nat} {l:List α}:Qi (.row e s (Aj f l)):=fun c hc=>by
 unfold Aj at hc
 obtain⟨x,-,h⟩:=List.mem_flatMap.1 hc
 exact F.h x c h
instance:yQ eI:=⟨fun x c hc=>by rw [aDi.1 hc]; rfl⟩
theorem fb_ {p:Prop} (h:p:=by first | (simp [Qi,Mb,J6]; done) | (repeat' first | exact qZ | refine List.forall_mem_cons.2 ⟨?_,?_⟩ | exact (fun _ h=>nomatch h) | simp [Qi,Mb,J6])):p:=h
theorem jY {α:Type} {l l':List α} (h:l.length=l'.length):Di l 0 l'=l':=by
 unfold Di
 rw [List.take_zero,aQp,aLq,<- h,List.drop_length,aOq]
section
variable {P:Program} {cx:Cx} {ops:Array Oper} {Rt:Option (List Nat)} {nb i:Nat} {l:List Oper} {lg:jT} {σ:St} {Q:St->Prop} {fz:List Nat} {α:Type} {f:α->List C} {L:List α} {a:α} {n:Int} {m:Nat} {t:TypeId} {x y:Operand} {dst:Option Tmp} {ty:TypeId} {pos:String} {af:Array Edge} {g:Option (Nat×Bool)}
theorem lE_ (he:Bu L n=some a) {b1:Option LB} {cs:List C} (k:Chain (Df P cx fz) ops Rt nb (idx (i + 1) l) ((i,false,nb + 8 * i,[],[]) :: lg) (σ.app dst (v0 (.agg (cs.map Uz)))) Q) [T:Nh P t true m]
  (hds:E0 σ true [x]=some [(.elt ((Aj f L).drop (n.toNat * m)),b1)]:=by exact rfl) (E:Pd f m:=by exact inferInstance) (hc:f a=cs:=by exact yT) (G:Kh ops σ ⟨dst,.load t x,ty,pos,af,g⟩=some true:=by exact Kf)
  (hok:K9 Rt i false (nb + 8 * i) [] [] lg=true:=by exact rfl) (hz:zM fz (nb + 8 * i)=0:=by exact rfl) (hap:Ov cx.np (.load t x) []=true:=by exact rfl):Chain (Df P cx fz) ops Rt nb (idx i (⟨dst,.load t x,ty,pos,af,g⟩ :: l)) lg σ Q:=
 Et G hds (Ef T.h (Kb E.h (Dj he) (o:=0) (m:=m) (by rw [aS7,aH0 (by rw [E.h]; exact aHx _)]; exact hc) (by omega) rfl) (Gd E.h (Dj he) (o:=0) (m:=m) (by omega) rfl)) rfl hok k hz hap
theorem l1_ (he:Bu L n=some a) {b1:Option LB} {c:C} {sz:Nat} (k:Chain (Df P cx fz) ops Rt nb (idx (i + 1) l) ((i,false,nb + 8 * i,[],[]) :: lg) (σ.app dst (v0 (Uz c))) Q) [T:Nh P t false sz]
  (hds:E0 σ true [x]=some [(.elt ((Aj f L).drop (n.toNat * 1)),b1)]:=by exact rfl) (E:Pd f 1:=by exact inferInstance) (hc:f a=[c]:=by exact rfl) (G:Kh ops σ ⟨dst,.load t x,ty,pos,af,g⟩=some true:=by exact Kf)
  (hok:K9 Rt i false (nb + 8 * i) [] [] lg=true:=by exact rfl) (hz:zM fz (nb + 8 * i)=0:=by exact rfl) (hap:Ov cx.np (.load t x) []=true:=by exact rfl):Chain (Df P cx fz) ops Rt nb (idx i (⟨dst,.load t x,ty,pos,af,g⟩ :: l)) lg σ Q:=
 Et G hds (En T.h (Ng E.h (Dj he) (o:=0) (by rw [hc]; rfl) rfl)) rfl hok k hz hap
theorem lR_ (he:Bu L n=some a) {kr e':Nat} {cs:List C} (k:Chain (Df P cx fz) ops Rt nb (idx (i + 1) l) ((i,false,nb + 8 * i,[kr],[]) :: lg) (σ.app dst (v0 (.agg (cs.map Uz)))) Q) [T:Nh P t true m]
  (hds:E0 σ true [x]=some [(.ptr kr (n.toNat * m),some (.row e' m (Aj f L)))]:=by exact rfl) (E:Pd f m:=by exact inferInstance) (hc:f a=cs:=by exact yT) (G:Kh ops σ ⟨dst,.load t x,ty,pos,af,g⟩=some true:=by exact Kf)
  (hok:K9 Rt i false (nb + 8 * i) [kr] [] lg=true:=by exact rfl) (hz:zM fz (nb + 8 * i)=0:=by exact rfl) (hap:Ov cx.np (.load t x) []=true:=by exact rfl):Chain (Df P cx fz) ops Rt nb (idx i (⟨dst,.load t x,ty,pos,af,g⟩ :: l)) lg σ Q:=
 Mz (rd:=[kr]) G hds (Xd T.h (Kb E.h (Dj he) (o:=0) (m:=m) (by rw [aS7,aH0 (by rw [E.h]; exact aHx _)]; exact hc) (by omega) rfl) (Gd E.h (Dj he) (o:=0) (m:=m) (by omega) rfl)) rfl hok k hz hap
theorem Vn {ck:List (Option Nat)} (hk:Kk P 20 t=ck) (he:Bu L n=some a) {x':α} {d:DV} {b2:Option LB} {kr e':Nat} {cs':List C} {ag:Bool} {rd:List Nat} (k:Chain (Df P cx fz) ops Rt nb (idx (i + 1) l) ((i,false,nb + 8 * i,rd,[kr]) :: lg) (σ.app dst (rI kr (.row e' m (Aj f (C3 L n.toNat x'))))) Q) [T:Nh P t ag m]
  (hds:E0 σ true [x,y]=some [(.ptr kr (n.toNat * m),some (.row e' m (Aj f L))),(d,b2)]:=by exact rfl) (E:Pd f m:=by exact inferInstance) (hx:f x'=cs':=by exact yT) (hd:Ly ck (C2 d) cs':=by exact dc_) (hs:(C2 d).length=m:=by exact rfl)
  (hr:Lx false [(DV.ptr kr (n.toNat * m),some (LB.row e' m (Aj f L))),(d,b2)]=rd:=by first | exact (rfl:_=[_]) | exact (rfl:_=[_,_]) | exact (rfl:_=[_,_,_])) (G:Kh ops σ ⟨dst,.store t x y,ty,pos,af,g⟩=some true:=by exact Kf)
  (hok:K9 Rt i false (nb + 8 * i) rd [kr] lg=true:=by exact rfl) (hz:zM fz (nb + 8 * i)=0:=by exact rfl) (hap:Ov cx.np (.store t x y) [kr]=true:=by exact rfl):Chain (Df P cx fz) ops Rt nb (idx i (⟨dst,.store t x y,ty,pos,af,g⟩ :: l)) lg σ Q:=
 Mz G hds (lK T.h hs (Gd E.h (Dj he) (o:=0) (m:=m) (by omega) rfl) hk hd (bC E.h (Dj he) (o:=0) (x':=x') (by rw [<- hx,E.h]; omega) (by rw [<- hx]; exact jY (by rw [E.h,E.h])) rfl)) hr hok k hz hap
theorem Hj {e sz bytes len:Nat} {parts:Array (Nat×Operand)} {ds:List (DV×Option LB)} {z:List Value} {cs:List C} {ck:List (Option Nat)} (hS:Ix P t e sz bytes) (hz:Zt P e z) (hk:Kk P 20 e=ck) (lv:List α) (fv:α->List C) (k:Chain (Df P cx fz) ops Rt nb (idx (i + 1) l) ((i,false,nb + 8 * i,[],[]) :: lg) (σ.app dst (Pw (nb + 8 * i) (.row e sz (Aj fv lv)) (.row (nb + 8 * i)))) Q)
  (hds:E0 σ false (Op.buildSlice t len parts).operands.toList=some ds:=by exact rfl) (hc:Ly (List.replicate len ck).flatten (ds.flatMap fun q=>C2 q.1) cs:=by exact dc_) (h:Aj fv lv=cs:=by exact rfl) (hlen:Nat.ble (len * sz) 16777216=true:=by exact rfl) (hp:parts.toList.map (·.1)=List.range' 0 len:=by exact rfl) (hzl:z.length=sz:=by exact rfl) (hn:ds.length=len:=by exact rfl)
  (hs:ds.all (fun q=>Nat.beq (C2 q.1).length sz)=true:=by exact rfl) (ho:ds.all (fun q=>(C2 q.1).all aG)=true:=by exact rfl) (G:Kh ops σ ⟨dst,.buildSlice t len parts,ty,pos,af,g⟩=some true:=by exact Kf)
  (hok:K9 Rt i false (nb + 8 * i) [] [] lg=true:=by exact rfl) (hz':zM fz (nb + 8 * i)=0:=by exact rfl) (hap:Ov cx.np (.buildSlice t len parts) []=true:=by exact rfl):Chain (Df P cx fz) ops Rt nb (idx i (⟨dst,.buildSlice t len parts,ty,pos,af,g⟩ :: l)) lg σ Q:=
 Et G hds (Fw hS hz (aCt hlen) hp hzl hn hs hk hc ho h) rfl hok k hz' hap
theorem Ra {e sz bytes len:Nat} {parts:Array (Nat×Operand)} {ds:List (DV×Option LB)} {z:List Value} {cs:List C} {ck:List (Option Nat)} (hS:Ix P t e sz bytes) (hz:Zt P e z) (hk:Kk P 20 e=ck) (lv:List α) (fv:α->List C) (k:Chain (Df P cx fz) ops Rt nb (idx (i + 1) l) ((i,false,nb + 8 * i,[],[]) :: lg) (σ.app dst (cL sz (Aj fv lv) [])) Q)
  (hds:E0 σ false (Op.buildSlice t len parts).operands.toList=some ds:=by exact rfl) (hc:Ly (List.replicate len ck).flatten (ds.flatMap fun q=>C2 q.1) cs:=by exact dc_) (h:Aj fv lv=cs:=by exact rfl) (hlen:Nat.ble (len * sz) 16777216=true:=by exact rfl) (hp:parts.toList.map (·.1)=List.range' 0 len:=by exact rfl) (hzl:z.length=sz:=by exact rfl) (hn:ds.length=len:=by exact rfl)
  (hs:ds.all (fun q=>Nat.beq (C2 q.1).length sz)=true:=by exact rfl) (ho:ds.all (fun q=>(C2 q.1).all aG)=true:=by exact rfl) (G:Kh ops σ ⟨dst,.buildSlice t len parts,ty,pos,af,g⟩=some true:=by exact Kf)
  (hok:K9 Rt i false (nb + 8 * i) [] [] lg=true:=by exact rfl) (hz':zM fz (nb + 8 * i)=1:=by exact rfl) (hap:Ov cx.np (.buildSlice t len parts) []=true:=by exact rfl):Chain (Df P cx fz) ops Rt nb (idx i (⟨dst,.buildSlice t len parts,ty,pos,af,g⟩ :: l)) lg σ Q:=
 aEp (rd:=[]) G hds (Fw hS hz (aCt hlen) hp hzl hn hs hk hc ho h) rfl rfl hok k hz' hap
theorem L1 {fields:_} {places:List (Nat×Nat)} {z:List Value} {r0 r:List DV} {parts:Array (Nat×Operand)} {ds:List (DV×Option LB)} (hu:P.underlying t=some (.struct fields)) (hp:fields.toList.map (fun f=>(P.info? f.type).map fun i=>(f.offset,i.size))=places.map some) (hz:Zt P t z) (k:Chain (Df P cx fz) ops Rt nb (idx (i + 1) l) ((i,false,nb + 8 * i,[],[]) :: lg) (σ.app dst (v0 (.agg r))) Q)
  (hds:E0 σ false (Op.build t parts).operands.toList=some ds:=by exact rfl) (hd:Ja (fun i=>places[i]?) (z.map .val) ((parts.toList.map (·.1)).zip (ds.map (·.1)))=some r0:=by exact rfl) (hr:r0=r:=by exact yT) (ho:ds.all (fun q=>(C2 q.1).all aG)=true:=by exact rfl) (G:Kh ops σ ⟨dst,.build t parts,ty,pos,af,g⟩=some true:=by exact Kf)
  (hok:K9 Rt i false (nb + 8 * i) [] [] lg=true:=by exact rfl) (hz':zM fz (nb + 8 * i)=0:=by exact rfl) (hap:Ov cx.np (.build t parts) []=true:=by exact rfl):Chain (Df P cx fz) ops Rt nb (idx i (⟨dst,.build t parts,ty,pos,af,g⟩ :: l)) lg σ Q:=
 Et G hds (.build hu hp hz (hr ▸ hd) ho) rfl hok k hz' hap
end
theorem Rk {P:Program} {cx:Cx} {id:Nat} {l:List Oper} {σ:St} {y:Code} {Q:Exit->St->Prop} (nb nb':Nat) (B:∀ k,nb<=k->σ.U k=false) {j:Nat} {lg':jT} {σ':St} {q:Prop} (k:(∀ j,nb'<=j->σ'.U j=false)->q)
  (h:Gm P cx [] l.toArray none nb (idx 0 l) [] σ (idx j []) lg' σ':=by exact gm_) (s:rB (tF (Oy P cx y Q) Q .normal σ') q:=by exact inferInstance) (hn:Nat.ble (nb + 8 * l.length) nb'=true:=by rfl) (hd:iK cx.N l=true:=by rfl):Oy P cx (.seq (.region id l.toArray false) y) Q σ:=
 Ol nb nb' B (h _ (aBs k)) hn hd
end Go.Proofs.YtbpchmikjiinpaaGreat
