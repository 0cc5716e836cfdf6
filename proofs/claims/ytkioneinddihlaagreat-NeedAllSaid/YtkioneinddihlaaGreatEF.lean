import Derived.Test.YtkioneinddihlaaGreatEE
set_option linter.unusedVariables false
set_option linter.unusedSimpArgs false
namespace Go.Proofs.YtkioneinddihlaaGreat
open Go.RowKit
abbrev vk (x:Int):DV:=.val (.int .i64 x)
abbrev ws (x:ByteArray):DV:=.val (.string x)
class L1 (P:Program) (t:TypeId) (ag:outParam Bool) (sz:outParam Nat):Prop where
 h:Ty P t ag sz
class Kz (P:Program) (s:TypeId) (f:Nat) (off:outParam Nat) (ft:outParam TypeId):Prop where
 h:Fd P s f off ft
class Sg (P:Program) (t:TypeId) (e sz bytes:outParam Nat):Prop where
 h:Gl P t e sz bytes
class T8 (P:Program) (t:TypeId) (z:outParam (List Value)):Prop where
 h:Zt P t z
class V6 (P:Program) (t:TypeId) (d:outParam TypeDesc):Prop where
 h:P.underlying t=some d
class Nc {α:Type} (f:α->List C) (sz:outParam Nat):Prop where
 h:∀ x,(f x).length=sz
instance:Nc eI 1:=⟨O4⟩
instance {k:IntKind}:Nc (eK k) 1:=⟨aDc k⟩
instance:Nc e8 1:=⟨aAv⟩
instance:Nc eS 1:=⟨fM⟩
instance:Nc eB 1:=⟨Od⟩
instance {α:Type} {sz:Nat} {f:α->List C}:Nc (eL sz f) 1:=⟨Gy sz f⟩
section
variable {P:Program} {cx:Cx} {ops:Array Oper} {Rt:Option (List Nat)} {nb i:Nat} {l:List Oper} {lg lg':fT} {σ σ':St} {Q:St->Prop} {fz:List Nat} {m':List (Nat×Oper)}
def Gm (P:Program) (cx:Cx) (fz:List Nat) (ops:Array Oper) (Rt:Option (List Nat)) (nb:Nat) (m:List (Nat×Oper)) (lg:fT) (σ:St) (m':List (Nat×Oper)) (lg':fT) (σ':St):Prop:=∀ Q,Chain (Dx P cx fz) ops Rt nb m' lg' σ' Q->Chain (Dx P cx fz) ops Rt nb m lg σ Q
theorem Gm.z {m:List (Nat×Oper)}:Gm P cx fz ops Rt nb m lg σ m lg σ:=fun _ h=>h
theorem Gm.s {dst:Option Tmp} {op:Op} {ty:TypeId} {pos:String} {af:Array Edge} {g:Option (Nat×Bool)} {ds:List (DV×Option LB)} {rd wr:List Nat} {e:Lz} (hds:Ef σ (Jc op) op.operands.toList=some ds) (h:Fi P (nb + 8 * i) op ty ds wr e)
  (k:Gm P cx fz ops Rt nb (idx (i + 1) l) ((i,false,nb + 8 * i,rd,wr) :: lg) (σ.app dst e) m' lg' σ') (G:I7 ops σ ⟨dst,op,ty,pos,af,g⟩=some true) (hrd:(bif Jc op then Kk (K3 op) ds else [])=rd)
  (hok:(Ju Rt i false (nb + 8 * i) rd wr lg && (Nat.beq (zM fz (nb + 8 * i)) 0 && M1 cx.np op wr))=true) :
  Gm P cx fz ops Rt nb (idx i (⟨dst,op,ty,pos,af,g⟩ :: l)) lg σ m' lg' σ':=fun Q hq=>by
 simp only [aEs] at hok
 exact Ik G hds h hrd hok.1 (k Q hq) (aEr hok.2.1) hok.2.2
theorem Gm.k {dst:Option Tmp} {op:Op} {ty:TypeId} {pos:String} {af:Array Edge} {g:Nat×Bool} (G:I7 ops σ ⟨dst,op,ty,pos,af,some g⟩=some false)
  (hok:Ju Rt i false (nb + 8 * i) [] [] lg=true) (k:Gm P cx fz ops Rt nb (idx (i + 1) l) ((i,false,nb + 8 * i,[],[]) :: lg) (σ.app dst lA) m' lg' σ') :
  Gm P cx fz ops Rt nb (idx i (⟨dst,op,ty,pos,af,some g⟩ :: l)) lg σ m' lg' σ':=fun Q hq=>vT G hok (k Q hq)
theorem aF1 {dst:Option Tmp} {op:Op} {ty:TypeId} {pos:String} {af:Array Edge}:I7 ops σ ⟨dst,op,ty,pos,af,none⟩=some true:=rfl
theorem tV {dst:Option Tmp} {op:Op} {ty:TypeId} {pos:String} {af:Array Edge} {g:Nat} {c:Bool} {t:Tmp} (ht:(ops[g]?).bind (·.dst)=some t) (hF:σ.F t=some (.val (.bool c))) (hc:c=false):I7 ops σ ⟨dst,op,ty,pos,af,some (g,true)⟩=some false:=aAb ht hF hc
theorem qX {dst:Option Tmp} {op:Op} {ty:TypeId} {pos:String} {af:Array Edge} {g:Nat} {c:Bool} {t:Tmp} (ht:(ops[g]?).bind (·.dst)=some t) (hF:σ.F t=some (.val (.bool c))) (hc:c=true):I7 ops σ ⟨dst,op,ty,pos,af,some (g,false)⟩=some false:=aAb ht hF hc
theorem zS {dst:Option Tmp} {op:Op} {ty:TypeId} {pos:String} {af:Array Edge} {g:Nat} {b:Bool} {t:Tmp} (ht:(ops[g]?).bind (·.dst)=some t) (hF:σ.F t=some (.val undef)):I7 ops σ ⟨dst,op,ty,pos,af,some (g,b)⟩=some false:=by
 unfold I7
 simp only []
 rw [ht]
 simp only []
 rw [hF]
 rfl
theorem aBb {α:Type} {l t t':List α} {x:α} (h:l=x :: t) (k:t=t'):l=x :: t':=by rw [h,k]
variable {dst:Option Tmp} {ty:TypeId} {pos:String} {af:Array Edge} {g:Option (Nat×Bool)}
theorem Gm.move {x:Operand} {d:DV} {q:Option LB} (hds:Ef σ false [x]=some [(d,q)])  (G:I7 ops σ ⟨dst,.move x,ty,pos,af,g⟩=some true)
  (hok:(Ju Rt i false (nb + 8 * i) [] [] lg && (Nat.beq (zM fz (nb + 8 * i)) 0 && M1 cx.np (.move x) []))=true) (k:Gm P cx fz ops Rt nb (idx (i + 1) l) ((i,false,nb + 8 * i,[],[]) :: lg) (σ.app dst (v0 d)) m' lg' σ'):Gm P cx fz ops Rt nb (idx i (⟨dst,.move x,ty,pos,af,g⟩ :: l)) lg σ m' lg' σ':=
 Gm.s hds (.move) k G rfl hok
theorem Gm.assign {x:Operand} {d:DV} {q:Option LB} (hds:Ef σ false [x]=some [(d,q)])  (G:I7 ops σ ⟨dst,.assign x,ty,pos,af,g⟩=some true)
  (hok:(Ju Rt i false (nb + 8 * i) [] [] lg && (Nat.beq (zM fz (nb + 8 * i)) 0 && M1 cx.np (.assign x) []))=true) (k:Gm P cx fz ops Rt nb (idx (i + 1) l) ((i,false,nb + 8 * i,[],[]) :: lg) (σ.app dst (v0 d)) m' lg' σ'):Gm P cx fz ops Rt nb (idx i (⟨dst,.assign x,ty,pos,af,g⟩ :: l)) lg σ m' lg' σ':=
 Gm.s hds (.assign) k G rfl hok
theorem Gm.fieldP {x:Operand} {s f k j off ft sz:Nat} {ag:Bool} {q:Option LB} [F:Kz P s f off ft] [T:L1 P ft ag sz] (hds:Ef σ false [x]=some [(.ptr k j,q)]) (hz0:Nat.blt 0 sz=true) (G:I7 ops σ ⟨dst,.fieldAddr s x f,ty,pos,af,g⟩=some true)
  (hok:(Ju Rt i false (nb + 8 * i) [] [] lg && (Nat.beq (zM fz (nb + 8 * i)) 0 && M1 cx.np (.fieldAddr s x f) []))=true) (k:Gm P cx fz ops Rt nb (idx (i + 1) l) ((i,false,nb + 8 * i,[],[]) :: lg) (σ.app dst (v0 (.ptr k (j + off)))) m' lg' σ'):Gm P cx fz ops Rt nb (idx i (⟨dst,.fieldAddr s x f,ty,pos,af,g⟩ :: l)) lg σ m' lg' σ':=
 Gm.s hds (.fieldP F.h T.h (aEn hz0)) k G rfl hok
theorem Gm.load1 {x:Operand} {t k j bt sz:Nat} {ds:List DV} {d:DV} [T:L1 P t false sz] (hds:Ef σ true [x]=some [(.ptr k j,some (.box ds bt))]) (hd:ds[j]?=some d) (G:I7 ops σ ⟨dst,.load t x,ty,pos,af,g⟩=some true)
  (hok:(Ju Rt i false (nb + 8 * i) [k] [] lg && (Nat.beq (zM fz (nb + 8 * i)) 0 && M1 cx.np (.load t x) []))=true) (k:Gm P cx fz ops Rt nb (idx (i + 1) l) ((i,false,nb + 8 * i,[k],[]) :: lg) (σ.app dst (v0 d)) m' lg' σ'):Gm P cx fz ops Rt nb (idx i (⟨dst,.load t x,ty,pos,af,g⟩ :: l)) lg σ m' lg' σ':=
 Gm.s hds (.loadB1 T.h hd) k G rfl hok
theorem Gm.loadA {x:Operand} {t k j bt sz:Nat} {ds:List DV} [T:L1 P t true sz] (hds:Ef σ true [x]=some [(.ptr k j,some (.box ds bt))]) (hd:Nat.ble (j + sz) ds.length=true) (G:I7 ops σ ⟨dst,.load t x,ty,pos,af,g⟩=some true)
  (hok:(Ju Rt i false (nb + 8 * i) [k] [] lg && (Nat.beq (zM fz (nb + 8 * i)) 0 && M1 cx.np (.load t x) []))=true) (k:Gm P cx fz ops Rt nb (idx (i + 1) l) ((i,false,nb + 8 * i,[k],[]) :: lg) (σ.app dst (v0 (.agg ((ds.drop j).take sz)))) m' lg' σ'):Gm P cx fz ops Rt nb (idx i (⟨dst,.load t x,ty,pos,af,g⟩ :: l)) lg σ m' lg' σ':=
 Gm.s hds (.loadBA T.h (aEn hd)) k G rfl hok
theorem Gm.pickF {x y z:Operand} {c:Bool} {d1 d2:DV} {q1 q2 q3:Option LB} (hds:Ef σ false [x,y,z]=some [(.val (.bool c),q1),(d1,q2),(d2,q3)]) (hc:c=false) (G:I7 ops σ ⟨dst,.pick x y z,ty,pos,af,g⟩=some true)
  (hok:(Ju Rt i false (nb + 8 * i) [] [] lg && (Nat.beq (zM fz (nb + 8 * i)) 0 && M1 cx.np (.pick x y z) []))=true) (k:Gm P cx fz ops Rt nb (idx (i + 1) l) ((i,false,nb + 8 * i,[],[]) :: lg) (σ.app dst (v0 d2)) m' lg' σ'):Gm P cx fz ops Rt nb (idx i (⟨dst,.pick x y z,ty,pos,af,g⟩ :: l)) lg σ m' lg' σ':=
 Gm.s hds (xD hc) k G rfl hok
theorem Gm.pickT {x y z:Operand} {c:Bool} {d1 d2:DV} {q1 q2 q3:Option LB} (hds:Ef σ false [x,y,z]=some [(.val (.bool c),q1),(d1,q2),(d2,q3)]) (hc:c=true) (G:I7 ops σ ⟨dst,.pick x y z,ty,pos,af,g⟩=some true)
  (hok:(Ju Rt i false (nb + 8 * i) [] [] lg && (Nat.beq (zM fz (nb + 8 * i)) 0 && M1 cx.np (.pick x y z) []))=true) (k:Gm P cx fz ops Rt nb (idx (i + 1) l) ((i,false,nb + 8 * i,[],[]) :: lg) (σ.app dst (v0 d1)) m' lg' σ'):Gm P cx fz ops Rt nb (idx i (⟨dst,.pick x y z,ty,pos,af,g⟩ :: l)) lg σ m' lg' σ':=
 Gm.s hds (yR hc) k G rfl hok
theorem Gm.storeB {x y:Operand} {t k j bt sz:Nat} {ag:Bool} {ds ds':List DV} {d:DV} {q:Option LB} {rd:List Nat} [T:L1 P t ag sz] (hds:Ef σ true [x,y]=some [(.ptr k j,some (.box ds bt)),(d,q)]) (hs:(Co d).length=sz) (hi:Nat.ble (j + sz) ds.length=true) (ho:(Co d).all Tv=true) (hn:Cu ds j (Co d)=ds') (hr:Kk false [(DV.ptr k j,some (LB.box ds bt)),(d,q)]=rd) (G:I7 ops σ ⟨dst,.store t x y,ty,pos,af,g⟩=some true)
  (hok:(Ju Rt i false (nb + 8 * i) rd [k] lg && (Nat.beq (zM fz (nb + 8 * i)) 0 && M1 cx.np (.store t x y) [k]))=true) (k:Gm P cx fz ops Rt nb (idx (i + 1) l) ((i,false,nb + 8 * i,rd,[k]) :: lg) (σ.app dst (nR k (.box ds' bt))) m' lg' σ'):Gm P cx fz ops Rt nb (idx i (⟨dst,.store t x y,ty,pos,af,g⟩ :: l)) lg σ m' lg' σ':=
 Gm.s hds (sQ T.h hs (aEn hi) ho hn) k G hr hok
theorem Gm.extract {x:Operand} {n:Nat} {ds:List DV} {d:DV} {q:Option LB} (hds:Ef σ false [x]=some [(.tup ds,q)]) (hd:ds[n]?=some d) (G:I7 ops σ ⟨dst,.extract x n,ty,pos,af,g⟩=some true)
  (hok:(Ju Rt i false (nb + 8 * i) [] [] lg && (Nat.beq (zM fz (nb + 8 * i)) 0 && M1 cx.np (.extract x n) []))=true) (k:Gm P cx fz ops Rt nb (idx (i + 1) l) ((i,false,nb + 8 * i,[],[]) :: lg) (σ.app dst (v0 d)) m' lg' σ'):Gm P cx fz ops Rt nb (idx i (⟨dst,.extract x n,ty,pos,af,g⟩ :: l)) lg σ m' lg' σ':=
 Gm.s hds (.extract hd) k G rfl hok
theorem Gm.lss {x y:Operand} {t yt:TypeId} {kk:IntKind} {a b:Int} {q1 q2:Option LB} (hds:Ef σ false [x,y]=some [(.val (.int kk a),q1),(.val (.int kk b),q2)])  (G:I7 ops σ ⟨dst,.binOp .lss t x y yt,ty,pos,af,g⟩=some true)
  (hok:(Ju Rt i false (nb + 8 * i) [] [] lg && (Nat.beq (zM fz (nb + 8 * i)) 0 && M1 cx.np (.binOp .lss t x y yt) []))=true) (k:Gm P cx fz ops Rt nb (idx (i + 1) l) ((i,false,nb + 8 * i,[],[]) :: lg) (σ.app dst (v0 (.val (.bool (decide (a < b)))))) m' lg' σ'):Gm P cx fz ops Rt nb (idx i (⟨dst,.binOp .lss t x y yt,ty,pos,af,g⟩ :: l)) lg σ m' lg' σ':=
 Gm.s hds (aGp) k G rfl hok
theorem Gm.eql {x y:Operand} {t yt:TypeId} {kk:IntKind} {a b:Int} {q1 q2:Option LB} (hds:Ef σ false [x,y]=some [(.val (.int kk a),q1),(.val (.int kk b),q2)])  (G:I7 ops σ ⟨dst,.binOp .eql t x y yt,ty,pos,af,g⟩=some true)
  (hok:(Ju Rt i false (nb + 8 * i) [] [] lg && (Nat.beq (zM fz (nb + 8 * i)) 0 && M1 cx.np (.binOp .eql t x y yt) []))=true) (k:Gm P cx fz ops Rt nb (idx (i + 1) l) ((i,false,nb + 8 * i,[],[]) :: lg) (σ.app dst (v0 (.val (.bool (decide (a=b)))))) m' lg' σ'):Gm P cx fz ops Rt nb (idx i (⟨dst,.binOp .eql t x y yt,ty,pos,af,g⟩ :: l)) lg σ m' lg' σ':=
 Gm.s hds (aHl) k G rfl hok
theorem Gm.gtr {x y:Operand} {t yt:TypeId} {kk:IntKind} {a b:Int} {q1 q2:Option LB} (hds:Ef σ false [x,y]=some [(.val (.int kk a),q1),(.val (.int kk b),q2)])  (G:I7 ops σ ⟨dst,.binOp .gtr t x y yt,ty,pos,af,g⟩=some true)
  (hok:(Ju Rt i false (nb + 8 * i) [] [] lg && (Nat.beq (zM fz (nb + 8 * i)) 0 && M1 cx.np (.binOp .gtr t x y yt) []))=true) (k:Gm P cx fz ops Rt nb (idx (i + 1) l) ((i,false,nb + 8 * i,[],[]) :: lg) (σ.app dst (v0 (.val (.bool (decide (b < a)))))) m' lg' σ'):Gm P cx fz ops Rt nb (idx i (⟨dst,.binOp .gtr t x y yt,ty,pos,af,g⟩ :: l)) lg σ m' lg' σ':=
 Gm.s hds (aFn) k G rfl hok
theorem Gm.leq {x y:Operand} {t yt:TypeId} {kk:IntKind} {a b:Int} {q1 q2:Option LB} (hds:Ef σ false [x,y]=some [(.val (.int kk a),q1),(.val (.int kk b),q2)])  (G:I7 ops σ ⟨dst,.binOp .leq t x y yt,ty,pos,af,g⟩=some true)
  (hok:(Ju Rt i false (nb + 8 * i) [] [] lg && (Nat.beq (zM fz (nb + 8 * i)) 0 && M1 cx.np (.binOp .leq t x y yt) []))=true) (k:Gm P cx fz ops Rt nb (idx (i + 1) l) ((i,false,nb + 8 * i,[],[]) :: lg) (σ.app dst (v0 (.val (.bool (decide (a<=b)))))) m' lg' σ'):Gm P cx fz ops Rt nb (idx i (⟨dst,.binOp .leq t x y yt,ty,pos,af,g⟩ :: l)) lg σ m' lg' σ':=
 Gm.s hds (aGi) k G rfl hok
theorem Gm.geq {x y:Operand} {t yt:TypeId} {kk:IntKind} {a b:Int} {q1 q2:Option LB} (hds:Ef σ false [x,y]=some [(.val (.int kk a),q1),(.val (.int kk b),q2)])  (G:I7 ops σ ⟨dst,.binOp .geq t x y yt,ty,pos,af,g⟩=some true)
  (hok:(Ju Rt i false (nb + 8 * i) [] [] lg && (Nat.beq (zM fz (nb + 8 * i)) 0 && M1 cx.np (.binOp .geq t x y yt) []))=true) (k:Gm P cx fz ops Rt nb (idx (i + 1) l) ((i,false,nb + 8 * i,[],[]) :: lg) (σ.app dst (v0 (.val (.bool (decide (b<=a)))))) m' lg' σ'):Gm P cx fz ops Rt nb (idx i (⟨dst,.binOp .geq t x y yt,ty,pos,af,g⟩ :: l)) lg σ m' lg' σ':=
 Gm.s hds (aHw) k G rfl hok
theorem Gm.neq {x y:Operand} {t yt:TypeId} {kk:IntKind} {a b:Int} {q1 q2:Option LB} (hds:Ef σ false [x,y]=some [(.val (.int kk a),q1),(.val (.int kk b),q2)])  (G:I7 ops σ ⟨dst,.binOp .neq t x y yt,ty,pos,af,g⟩=some true)
  (hok:(Ju Rt i false (nb + 8 * i) [] [] lg && (Nat.beq (zM fz (nb + 8 * i)) 0 && M1 cx.np (.binOp .neq t x y yt) []))=true) (k:Gm P cx fz ops Rt nb (idx (i + 1) l) ((i,false,nb + 8 * i,[],[]) :: lg) (σ.app dst (v0 (.val (.bool (!decide (a=b)))))) m' lg' σ'):Gm P cx fz ops Rt nb (idx i (⟨dst,.binOp .neq t x y yt,ty,pos,af,g⟩ :: l)) lg σ m' lg' σ':=
 Gm.s hds (aGl) k G rfl hok
theorem Gm.seql {x y:Operand} {t yt:TypeId} {a b:ByteArray} {q1 q2:Option LB} (hds:Ef σ false [x,y]=some [(.val (.string a),q1),(.val (.string b),q2)])  (G:I7 ops σ ⟨dst,.binOp .eql t x y yt,ty,pos,af,g⟩=some true)
  (hok:(Ju Rt i false (nb + 8 * i) [] [] lg && (Nat.beq (zM fz (nb + 8 * i)) 0 && M1 cx.np (.binOp .eql t x y yt) []))=true) (k:Gm P cx fz ops Rt nb (idx (i + 1) l) ((i,false,nb + 8 * i,[],[]) :: lg) (σ.app dst (v0 (.val (.bool (decide (a=b)))))) m' lg' σ'):Gm P cx fz ops Rt nb (idx i (⟨dst,.binOp .eql t x y yt,ty,pos,af,g⟩ :: l)) lg σ m' lg' σ':=
 Gm.s hds (aA9) k G rfl hok
theorem Gm.sneq {x y:Operand} {t yt:TypeId} {a b:ByteArray} {q1 q2:Option LB} (hds:Ef σ false [x,y]=some [(.val (.string a),q1),(.val (.string b),q2)])  (G:I7 ops σ ⟨dst,.binOp .neq t x y yt,ty,pos,af,g⟩=some true)
  (hok:(Ju Rt i false (nb + 8 * i) [] [] lg && (Nat.beq (zM fz (nb + 8 * i)) 0 && M1 cx.np (.binOp .neq t x y yt) []))=true) (k:Gm P cx fz ops Rt nb (idx (i + 1) l) ((i,false,nb + 8 * i,[],[]) :: lg) (σ.app dst (v0 (.val (.bool (!decide (a=b)))))) m' lg' σ'):Gm P cx fz ops Rt nb (idx i (⟨dst,.binOp .neq t x y yt,ty,pos,af,g⟩ :: l)) lg σ m' lg' σ':=
 Gm.s hds (aBy) k G rfl hok
theorem Gm.add {x y:Operand} {t yt:TypeId} {a b:Int} {q1 q2:Option LB} (hds:Ef σ false [x,y]=some [(.val (.int .i64 a),q1),(.val (.int .i64 b),q2)])  (G:I7 ops σ ⟨dst,.binOp .add t x y yt,ty,pos,af,g⟩=some true)
  (hok:(Ju Rt i false (nb + 8 * i) [] [] lg && (Nat.beq (zM fz (nb + 8 * i)) 0 && M1 cx.np (.binOp .add t x y yt) []))=true) (k:Gm P cx fz ops Rt nb (idx (i + 1) l) ((i,false,nb + 8 * i,[],[]) :: lg) (σ.app dst (v0 (.val (.int .i64 (W (a + b)))))) m' lg' σ'):Gm P cx fz ops Rt nb (idx i (⟨dst,.binOp .add t x y yt,ty,pos,af,g⟩ :: l)) lg σ m' lg' σ':=
 Gm.s hds (aHd) k G rfl hok
theorem Gm.sub {x y:Operand} {t yt:TypeId} {a b:Int} {q1 q2:Option LB} (hds:Ef σ false [x,y]=some [(.val (.int .i64 a),q1),(.val (.int .i64 b),q2)])  (G:I7 ops σ ⟨dst,.binOp .sub t x y yt,ty,pos,af,g⟩=some true)
  (hok:(Ju Rt i false (nb + 8 * i) [] [] lg && (Nat.beq (zM fz (nb + 8 * i)) 0 && M1 cx.np (.binOp .sub t x y yt) []))=true) (k:Gm P cx fz ops Rt nb (idx (i + 1) l) ((i,false,nb + 8 * i,[],[]) :: lg) (σ.app dst (v0 (.val (.int .i64 (W (a - b)))))) m' lg' σ'):Gm P cx fz ops Rt nb (idx i (⟨dst,.binOp .sub t x y yt,ty,pos,af,g⟩ :: l)) lg σ m' lg' σ':=
 Gm.s hds (aGj) k G rfl hok
theorem Gm.mul {x y:Operand} {t yt:TypeId} {a b:Int} {q1 q2:Option LB} (hds:Ef σ false [x,y]=some [(.val (.int .i64 a),q1),(.val (.int .i64 b),q2)])  (G:I7 ops σ ⟨dst,.binOp .mul t x y yt,ty,pos,af,g⟩=some true)
  (hok:(Ju Rt i false (nb + 8 * i) [] [] lg && (Nat.beq (zM fz (nb + 8 * i)) 0 && M1 cx.np (.binOp .mul t x y yt) []))=true) (k:Gm P cx fz ops Rt nb (idx (i + 1) l) ((i,false,nb + 8 * i,[],[]) :: lg) (σ.app dst (v0 (.val (.int .i64 (W (a * b)))))) m' lg' σ'):Gm P cx fz ops Rt nb (idx i (⟨dst,.binOp .mul t x y yt,ty,pos,af,g⟩ :: l)) lg σ m' lg' σ':=
 Gm.s hds (aE4) k G rfl hok
theorem Gm.alloc {t:TypeId} {z:List Value} [Z:T8 P t z] (hds:Ef σ false []=some [])  (G:I7 ops σ ⟨dst,.alloc t,ty,pos,af,g⟩=some true)
  (hok:(Ju Rt i false (nb + 8 * i) [] [] lg && (Nat.beq (zM fz (nb + 8 * i)) 0 && M1 cx.np (.alloc t) []))=true) (k:Gm P cx fz ops Rt nb (idx (i + 1) l) ((i,false,nb + 8 * i,[],[]) :: lg) (σ.app dst (M6 (nb + 8 * i) (.box (z.map .val) t) (.ptr (nb + 8 * i) 0))) m' lg' σ'):Gm P cx fz ops Rt nb (idx i (⟨dst,.alloc t,ty,pos,af,g⟩ :: l)) lg σ m' lg' σ':=
 Gm.s hds (.alloc Z.h) k G rfl hok
theorem Gm.box {x:Operand} {t:TypeId} {d:DV} {q:Option LB} (hds:Ef σ false [x]=some [(d,q)]) (ho:(Co d).all Tv=true) (G:I7 ops σ ⟨dst,.box t x,ty,pos,af,g⟩=some true)
  (hok:(Ju Rt i false (nb + 8 * i) [] [] lg && (Nat.beq (zM fz (nb + 8 * i)) 0 && M1 cx.np (.box t x) []))=true) (k:Gm P cx fz ops Rt nb (idx (i + 1) l) ((i,false,nb + 8 * i,[],[]) :: lg) (σ.app dst (M6 (nb + 8 * i) (.box (Co d) t) (.ptr (nb + 8 * i) 0))) m' lg' σ'):Gm P cx fz ops Rt nb (idx i (⟨dst,.box t x,ty,pos,af,g⟩ :: l)) lg σ m' lg' σ':=
 Gm.s hds (.box ho) k G rfl hok
theorem Gm.not {x:Operand} {t:TypeId} {b:Bool} {q:Option LB} (hds:Ef σ false [x]=some [(.val (.bool b),q)])  (G:I7 ops σ ⟨dst,.unOp .not t x,ty,pos,af,g⟩=some true)
  (hok:(Ju Rt i false (nb + 8 * i) [] [] lg && (Nat.beq (zM fz (nb + 8 * i)) 0 && M1 cx.np (.unOp .not t x) []))=true) (k:Gm P cx fz ops Rt nb (idx (i + 1) l) ((i,false,nb + 8 * i,[],[]) :: lg) (σ.app dst (v0 (.val (.bool (!b))))) m' lg' σ'):Gm P cx fz ops Rt nb (idx i (⟨dst,.unOp .not t x,ty,pos,af,g⟩ :: l)) lg σ m' lg' σ':=
 Gm.s hds (aE8) k G rfl hok
theorem Gm.lenS {α:Type} {f:α->List C} {L:List α} {x:Operand} {t e sz by_:Nat} {q:Option LB} [S:Sg P t e sz by_] (hds:Ef σ true [x]=some [(.sl sz (Ak f L),q)]) (E:Nc f sz) (G:I7 ops σ ⟨dst,.call ⟨.builtin .len,#[x],#[t]⟩,ty,pos,af,g⟩=some true)
  (hok:(Ju Rt i false (nb + 8 * i) [] [] lg && (Nat.beq (zM fz (nb + 8 * i)) 0 && M1 cx.np (.call ⟨.builtin .len,#[x],#[t]⟩) []))=true) (k:Gm P cx fz ops Rt nb (idx (i + 1) l) ((i,false,nb + 8 * i,[],[]) :: lg) (σ.app dst (v0 (.val (.int .i64 (L.length:Int))))) m' lg' σ'):Gm P cx fz ops Rt nb (idx i (⟨dst,.call ⟨.builtin .len,#[x],#[t]⟩,ty,pos,af,g⟩ :: l)) lg σ m' lg' σ':=
 Gm.s hds (aEj S.h E.h) k G rfl hok
theorem Gm.lenR {α:Type} {f:α->List C} {L:List α} {x:Operand} {t e e' sz by_ k:Nat} [S:Sg P t e sz by_] (hds:Ef σ true [x]=some [(.row k,some (.row e' sz (Ak f L)))]) (E:Nc f sz) (G:I7 ops σ ⟨dst,.call ⟨.builtin .len,#[x],#[t]⟩,ty,pos,af,g⟩=some true)
  (hok:(Ju Rt i false (nb + 8 * i) [k] [] lg && (Nat.beq (zM fz (nb + 8 * i)) 0 && M1 cx.np (.call ⟨.builtin .len,#[x],#[t]⟩) []))=true) (k:Gm P cx fz ops Rt nb (idx (i + 1) l) ((i,false,nb + 8 * i,[k],[]) :: lg) (σ.app dst (v0 (.val (.int .i64 (L.length:Int))))) m' lg' σ'):Gm P cx fz ops Rt nb (idx i (⟨dst,.call ⟨.builtin .len,#[x],#[t]⟩,ty,pos,af,g⟩ :: l)) lg σ m' lg' σ':=
 Gm.s hds (aDo S.h E.h) k G rfl hok
theorem Gm.idxS {α:Type} {f:α->List C} {L:List α} {a:α} {x y:Operand} {t e sz by_:Nat} {kk:IntKind} {n:Int} {q1 q2:Option LB} [S:Sg P t e sz by_] (hds:Ef σ true [x,y]=some [(.sl sz (Ak f L),q1),(.val (.int kk n),q2)]) (E:Nc f sz) (hx:Bo L n=some a) (G:I7 ops σ ⟨dst,.indexAddr t x y,ty,pos,af,g⟩=some true)
  (hok:(Ju Rt i false (nb + 8 * i) [] [] lg && (Nat.beq (zM fz (nb + 8 * i)) 0 && M1 cx.np (.indexAddr t x y) []))=true) (k:Gm P cx fz ops Rt nb (idx (i + 1) l) ((i,false,nb + 8 * i,[],[]) :: lg) (σ.app dst (v0 (.elt ((Ak f L).drop (n.toNat * sz))))) m' lg' σ'):Gm P cx fz ops Rt nb (idx i (⟨dst,.indexAddr t x y,ty,pos,af,g⟩ :: l)) lg σ m' lg' σ':=
 Gm.s hds (tF S.h E.h (H6 hx) (Cc hx)) k G rfl hok
theorem Gm.idxR {α:Type} {f:α->List C} {L:List α} {a:α} {x y:Operand} {t e e' sz by_ k:Nat} {kk:IntKind} {n:Int} {q2:Option LB} [S:Sg P t e sz by_] (hds:Ef σ true [x,y]=some [(.row k,some (.row e' sz (Ak f L))),(.val (.int kk n),q2)]) (E:Nc f sz) (hx:Bo L n=some a) (G:I7 ops σ ⟨dst,.indexAddr t x y,ty,pos,af,g⟩=some true)
  (hok:(Ju Rt i false (nb + 8 * i) [k] [] lg && (Nat.beq (zM fz (nb + 8 * i)) 0 && M1 cx.np (.indexAddr t x y) []))=true) (k:Gm P cx fz ops Rt nb (idx (i + 1) l) ((i,false,nb + 8 * i,[k],[]) :: lg) (σ.app dst (v0 (.ptr k (n.toNat * sz)))) m' lg' σ'):Gm P cx fz ops Rt nb (idx i (⟨dst,.indexAddr t x y,ty,pos,af,g⟩ :: l)) lg σ m' lg' σ':=
 Gm.s hds (rR S.h E.h (H6 hx) (Cc hx)) k G rfl hok
theorem Gm.nilP {x:Operand} {k j:Nat} {q:Option LB} (hds:Ef σ false [x]=some [(.ptr k j,q)])  (G:I7 ops σ ⟨dst,.nilCheck x,ty,pos,af,g⟩=some true)
  (hok:(Ju Rt i false (nb + 8 * i) [] [] lg && (Nat.beq (zM fz (nb + 8 * i)) 0 && M1 cx.np (.nilCheck x) []))=true) (k:Gm P cx fz ops Rt nb (idx (i + 1) l) ((i,false,nb + 8 * i,[],[]) :: lg) (σ.app dst (v0 (.ptr k j))) m' lg' σ'):Gm P cx fz ops Rt nb (idx i (⟨dst,.nilCheck x,ty,pos,af,g⟩ :: l)) lg σ m' lg' σ':=
 Gm.s hds (.nilP) k G rfl hok
theorem Gm.nilE {x:Operand} {cs:List C} {q:Option LB} (hds:Ef σ false [x]=some [(.elt cs,q)])  (G:I7 ops σ ⟨dst,.nilCheck x,ty,pos,af,g⟩=some true)
  (hok:(Ju Rt i false (nb + 8 * i) [] [] lg && (Nat.beq (zM fz (nb + 8 * i)) 0 && M1 cx.np (.nilCheck x) []))=true) (k:Gm P cx fz ops Rt nb (idx (i + 1) l) ((i,false,nb + 8 * i,[],[]) :: lg) (σ.app dst (v0 (.elt cs))) m' lg' σ'):Gm P cx fz ops Rt nb (idx i (⟨dst,.nilCheck x,ty,pos,af,g⟩ :: l)) lg σ m' lg' σ':=
 Gm.s hds (.nilE) k G rfl hok
theorem Gm.field1 {x:Operand} {s f off ft sz:Nat} {ds:List DV} {d:DV} {q:Option LB} [F:Kz P s f off ft] [T:L1 P ft false sz] (hds:Ef σ false [x]=some [(.agg ds,q)]) (hd:ds[off]?=some d) (G:I7 ops σ ⟨dst,.field s x f,ty,pos,af,g⟩=some true)
  (hok:(Ju Rt i false (nb + 8 * i) [] [] lg && (Nat.beq (zM fz (nb + 8 * i)) 0 && M1 cx.np (.field s x f) []))=true) (k:Gm P cx fz ops Rt nb (idx (i + 1) l) ((i,false,nb + 8 * i,[],[]) :: lg) (σ.app dst (v0 d)) m' lg' σ'):Gm P cx fz ops Rt nb (idx i (⟨dst,.field s x f,ty,pos,af,g⟩ :: l)) lg σ m' lg' σ':=
 Gm.s hds (.field1 F.h T.h hd) k G rfl hok
theorem Gm.fieldA {x:Operand} {s f off ft sz:Nat} {ds:List DV} {q:Option LB} [F:Kz P s f off ft] [T:L1 P ft true sz] (hds:Ef σ false [x]=some [(.agg ds,q)])  (G:I7 ops σ ⟨dst,.field s x f,ty,pos,af,g⟩=some true)
  (hok:(Ju Rt i false (nb + 8 * i) [] [] lg && (Nat.beq (zM fz (nb + 8 * i)) 0 && M1 cx.np (.field s x f) []))=true) (k:Gm P cx fz ops Rt nb (idx (i + 1) l) ((i,false,nb + 8 * i,[],[]) :: lg) (σ.app dst (v0 (.agg ((ds.drop off).take sz)))) m' lg' σ'):Gm P cx fz ops Rt nb (idx i (⟨dst,.field s x f,ty,pos,af,g⟩ :: l)) lg σ m' lg' σ':=
 Gm.s hds (.fieldA F.h T.h) k G rfl hok
theorem Gm.makeF {f:Nat} {first caps:Array Operand} {ds:List (DV×Option LB)} (hds:Ef σ false (Op.makeFunc (.func f) first caps).operands.toList=some ds)  (G:I7 ops σ ⟨dst,.makeFunc (.func f) first caps,ty,pos,af,g⟩=some true)
  (hok:(Ju Rt i false (nb + 8 * i) [] [] lg && (Nat.beq (zM fz (nb + 8 * i)) 0 && M1 cx.np (.makeFunc (.func f) first caps) []))=true) (k:Gm P cx fz ops Rt nb (idx (i + 1) l) ((i,false,nb + 8 * i,[],[]) :: lg) (σ.app dst (v0 (.clo f first.size (ds.map (·.1))))) m' lg' σ'):Gm P cx fz ops Rt nb (idx i (⟨dst,.makeFunc (.func f) first caps,ty,pos,af,g⟩ :: l)) lg σ m' lg' σ':=
 Gm.s hds (.makeFunc) k G rfl hok
theorem I5 {p:Prop} (h:p:=by first | with_reducible exact aF1 | exact Ht rfl rfl (by first | with_reducible assumption | with_reducible rfl | with_reducible exact Zb (by with_reducible assumption) | with_reducible exact Y3 (by with_reducible assumption))):p:=h
theorem gm_ {p:Prop} (h:p:=by
  repeat first
   | (apply Gm.move; exact rfl; exact I5; exact rfl)
   | (apply Gm.assign; exact rfl; exact I5; exact rfl)
   | (apply Gm.fieldP; exact rfl; (exact rfl); exact I5; exact rfl)
   | (apply Gm.load1; exact rfl; (exact rfl); exact I5; exact rfl)
   | (apply Gm.loadA; exact rfl; (exact rfl); exact I5; exact rfl)
   | (apply Gm.pickF; exact rfl; (first | with_reducible assumption | with_reducible rfl | with_reducible exact Zb (by with_reducible assumption)); exact I5; exact rfl)
   | (apply Gm.pickT; exact rfl; (first | with_reducible assumption | with_reducible rfl | with_reducible exact Y3 (by with_reducible assumption)); exact I5; exact rfl)
   | (apply Gm.k; (first | exact tV rfl rfl (by first | with_reducible assumption | with_reducible rfl | with_reducible exact Zb (by with_reducible assumption) | with_reducible exact Y3 (by with_reducible assumption)) | exact qX rfl rfl (by first | with_reducible assumption | with_reducible rfl | with_reducible exact Zb (by with_reducible assumption) | with_reducible exact Y3 (by with_reducible assumption)) | exact zS rfl rfl); exact rfl)
   | (apply Gm.storeB; exact rfl; (exact rfl); (exact rfl); (exact rfl); (focus repeat first | exact (rfl:_=[]) | (apply aBb; exact rfl)); (first | exact (rfl:_=[_]) | exact (rfl:_=[_,_]) | exact (rfl:_=[_,_,_])); exact I5; exact rfl)
   | (apply Gm.extract; exact rfl; (exact rfl); exact I5; exact rfl)
   | (apply Gm.lss; exact rfl; exact I5; exact rfl)
   | (apply Gm.eql; exact rfl; exact I5; exact rfl)
   | (apply Gm.gtr; exact rfl; exact I5; exact rfl)
   | (apply Gm.leq; exact rfl; exact I5; exact rfl)
   | (apply Gm.geq; exact rfl; exact I5; exact rfl)
   | (apply Gm.neq; exact rfl; exact I5; exact rfl)
   | (apply Gm.seql; exact rfl; exact I5; exact rfl)
   | (apply Gm.sneq; exact rfl; exact I5; exact rfl)
   | (apply Gm.add; exact rfl; exact I5; exact rfl)
   | (apply Gm.sub; exact rfl; exact I5; exact rfl)
   | (apply Gm.mul; exact rfl; exact I5; exact rfl)
   | (apply Gm.alloc; exact rfl; exact I5; exact rfl)
   | (apply Gm.box; exact rfl; (exact rfl); exact I5; exact rfl)
   | (apply Gm.not; exact rfl; exact I5; exact rfl)
   | (apply Gm.lenS; exact rfl; (exact inferInstance); exact I5; exact rfl)
   | (apply Gm.lenR; exact rfl; (exact inferInstance); exact I5; exact rfl)
   | (apply Gm.idxS; exact rfl; (exact inferInstance); (with_reducible assumption); exact I5; exact rfl)
   | (apply Gm.idxR; exact rfl; (exact inferInstance); (with_reducible assumption); exact I5; exact rfl)
   | (apply Gm.nilP; exact rfl; exact I5; exact rfl)
   | (apply Gm.nilE; exact rfl; exact I5; exact rfl)
   | (apply Gm.field1; exact rfl; (exact rfl); exact I5; exact rfl)
   | (apply Gm.fieldA; exact rfl; exact I5; exact rfl)
   | (apply Gm.makeF; exact rfl; exact I5; exact rfl)
  exact Gm.z):p:=h
theorem Kr {m:List (Nat×Oper)} (k:Chain (Dx P cx fz) ops Rt nb m' lg' σ' Q) (h:Gm P cx fz ops Rt nb m lg σ m' lg' σ':=by exact gm_):Chain (Dx P cx fz) ops Rt nb m lg σ Q:=h Q k
end
theorem bc_ {R:Type} {b:Bool} {X Y:Option R} {r:R} (G:cond b X Y=some r):(b=true/\X=some r)\/(b=false/\Y=some r):=by
 cases b with
 | true=>exact .inl ⟨rfl,G⟩
 | false=>exact .inr ⟨rfl,G⟩
section
variable {P:Program} {cx:Cx} {σ:St} {Q:Exit->St->Prop} {x y:Code}
theorem Ja {R:Type} {t:Nat} {b:Bool} {X Y:Option R} {r:R} (hc:σ.F t=some (.val (.bool b))) (G:cond b X Y=some r) (h1:b=true->X=some r->N1 P cx x Q σ) (h2:b=false->Y=some r->N1 P cx y Q σ):N1 P cx (.cond (.tmp t) x y) Q σ:=
 vA hc (fun h=>h1 h (aD1 h G)) fun h=>h2 h (aAz h G)
theorem B9 {fl:List (Nat×DV)} {ll:List (Nat×LB)} {n:Nat} (θ:List (Nat×Nat))
  (hF:vU σ (E5 θ) fl:=by
   repeat' first
    | exact trivial
    | refine⟨⟨_,rfl,?_⟩,?_⟩
    | exact Cv.val _
    | exact Cv.sl _ _
    | exact Cv.ptr rfl
    | exact Cv.row rfl
    | exact Cv.part rfl
    | exact Cv.nil rfl
    | exact Cv.nils _
    | exact Cv.elt _
    | exact Cv.mp _
    | refine Cv.clo _ _ ?_
    | refine Cv.agg ?_
    | refine Cv.tup ?_
    | refine Cv.clo _ _ ?_
    | exact Q0.nil
    | refine Q0.cons ?_ ?_
    | exact Cv.frzM rfl (Ij rfl)
    | exact Cv.frz rfl (Ij rfl)
    | exact Cv.frzT rfl (Ij rfl)
   first | done | fail)
  (hL:oT σ (E5 θ) ll:=by
   repeat' first
    | exact trivial
    | refine⟨.inl ⟨_,_,rfl,rfl,⟨rfl,rfl,rfl⟩⟩,?_⟩
    | refine⟨.inl ⟨_,_,rfl,rfl,⟨rfl,rfl,rfl,rfl,rfl,rfl,rfl,rfl⟩⟩,?_⟩
    | refine⟨.inl ⟨_,_,rfl,rfl,trivial⟩,?_⟩
    | refine⟨.inl ⟨_,_,rfl,rfl,rfl⟩,?_⟩
    | refine⟨.inl ⟨_,_,rfl,rfl,⟨rfl,?_⟩⟩,?_⟩
    | refine⟨.inr ⟨rfl,_,_,rfl⟩,?_⟩
    | exact Cv.val _
    | exact Cv.sl _ _
    | exact Cv.ptr rfl
    | exact Cv.row rfl
    | exact Cv.part rfl
    | exact Cv.nil rfl
    | exact Cv.nils _
    | exact Cv.elt _
    | exact Cv.mp _
    | refine Cv.clo _ _ ?_
    | refine Cv.agg ?_
    | exact Q0.nil
    | refine Q0.cons ?_ ?_
    | exact Cv.frzM rfl (Ij rfl)
    | exact Cv.frz rfl (Ij rfl)
    | exact Cv.frzT rfl (Ij rfl)
   first | done | fail)
  (hc:pC fl ll n θ=true:=by rfl) (hp:kT θ n cx.np=true:=by rfl):P4 cx σ (mk fl ll n):=P4.lists θ hc hp hF hL
theorem Gc {S R:Type} {body:S->Option (Lp S R)} {s0:S} {r:R} (st:S->St) (G:B1 body s0=some r) (h0:P4 cx σ (st s0)) (round:∀ (s:S) (m:Nat) (o:Lp S R),body s=some o->W0 (Nw body m) o=some r->N1 P cx x (vG (fun σ'=>∃ j:S×Nat,j.2 < m + 1/\Nw body j.2 j.1=some r/\P4 cx σ' (st j.1)) Q) (st s)):N1 P cx (.loop x) Q σ:=by
 obtain⟨n,G⟩:=R9 G
 refine uV (ι:=S×Nat) (fun q=>st q.1) (fun q=>Nw body q.2 q.1=some r) (fun q=>q.2) (s0,n) h0 G ?_
 rintro⟨s,k⟩ hk
 obtain⟨m,o,rfl,h1,h2⟩:=pB (show Nw body k s=some r from hk)
 exact round s m o h1 h2
theorem Q2 {fn:Func} {np:Nat} {R:DV->List LB->Prop} {ds:List DV} {r:DV} {bx:List LB} (θ:List (Nat×Nat)) (hR:R r bx)
  (h1:Qs P σ fn.results.toList ds:=by
   repeat first
    | exact Qs.nil
    | (apply Qs.cons; exact .tmp rfl)
    | (apply Qs.cons; exact .cell1 rfl rfl L1.h rfl)
    | (apply Qs.cons; exact .cellA rfl rfl L1.h rfl))
  (h2:Cv σ (E5 θ) (tC ds) r:=by
   repeat' first
    | exact Cv.val _
    | exact Cv.sl _ _
    | exact Cv.ptr rfl
    | exact Cv.row rfl
    | exact Cv.nil rfl
    | exact Cv.nils _
    | exact Cv.elt _
    | exact Cv.mp _
    | refine Cv.clo _ _ ?_
    | refine Cv.agg ?_
    | refine Cv.tup ?_
    | exact Q0.nil
    | refine Q0.cons ?_ ?_
    | exact Cv.frzM rfl (Ij rfl)
    | exact Cv.frz rfl (Ij rfl)
    | exact Cv.frzT rfl (Ij rfl)
   first | done | fail)
  (h3:oT σ (E5 θ) (ix 0 bx):=by
   repeat' first
    | exact trivial
    | refine⟨.inl ⟨_,_,rfl,rfl,⟨rfl,rfl,rfl⟩⟩,?_⟩
    | refine⟨.inl ⟨_,_,rfl,rfl,⟨rfl,rfl,rfl,rfl,rfl,rfl,rfl,rfl⟩⟩,?_⟩
    | refine⟨.inl ⟨_,_,rfl,rfl,trivial⟩,?_⟩
    | refine⟨.inl ⟨_,_,rfl,rfl,rfl⟩,?_⟩
    | refine⟨.inl ⟨_,_,rfl,rfl,⟨rfl,?_⟩⟩,?_⟩
    | refine⟨.inr ⟨rfl,_,_,rfl⟩,?_⟩
    | exact Cv.val _
    | exact Cv.sl _ _
    | exact Cv.ptr rfl
    | exact Cv.row rfl
    | exact Cv.nil rfl
    | exact Cv.nils _
    | exact Cv.elt _
    | exact Cv.mp _
    | refine Cv.clo _ _ ?_
    | refine Cv.agg ?_
    | exact Q0.nil
    | refine Q0.cons ?_ ?_
    | exact Cv.frzM rfl (Ij rfl)
    | exact Cv.frz rfl (Ij rfl)
    | exact Cv.frzT rfl (Ij rfl)
   first | done | fail)
  (h4:pC [(0,r)] (ix 0 bx) bx.length θ=true:=by rfl) (h5:kT θ bx.length np=true:=by rfl) (h6:Nat.ble np bx.length=true:=by rfl) (h7:Nat.ble bx.length (np + 8)=true:=by rfl) (h8:(bx.take np).all noT=true:=by rfl):Fin P fn np R σ:=
 ⟨ds,r,bx,θ,h1,hR,h2,h3,h4,h5,h6,h7,h8⟩
end
section
variable {P:Program} {cx:Cx} {ops:Array Oper} {Rt:Option (List Nat)} {nb i:Nat} {l:List Oper} {lg:fT} {σ:St} {Q:St->Prop} {fz:List Nat}
theorem Mb {dst:Option Tmp} {f:FuncId} {xs:Array Operand} {tys:Array TypeId} {ty:TypeId} {pos:String} {af:Array Edge} {g:Option (Nat×Bool)} {dsA:List (DV×Option LB)} {args:List DV} {d:DV}
  (hF:Fn P f 0 args [] (fun d' b'=>d'=d/\b'=[]))
  (k:Chain (Dx P cx fz) ops Rt nb (idx (i + 1) l) ((i,true,nb + 8 * i,[],[]) :: lg) (σ.app dst (Ym [] [] d [])) Q)
  (hds:Ef σ true xs.toList=some dsA:=by rfl)
  (hA:Of false ([] ++ []) (Kj σ []) (dsA.map (·.1)) args:=by
   repeat' first
    | exact Of.nil
    | exact Ag.val
    | exact Ag.sl
    | exact Ag.nils
    | exact Ag.elt
    | exact Ag.fn
    | refine Ag.agg ?_
    | refine Ag.clo ?_
    | refine Of.cons ?_ ?_
   first | done | fail)
  (G:I7 ops σ ⟨dst,.call ⟨.value (.func f),xs,tys⟩,ty,pos,af,g⟩=some true:=by exact I5)
  (hrd:M9 σ 3 (Oe dsA)=[]:=by rfl) (hok:Ju Rt i true (nb + 8 * i) [] [] lg=true:=by rfl) (hr:Hq d=[]:=by rfl) :
  Chain (Dx P cx fz) ops Rt nb (idx i (⟨dst,.call ⟨.value (.func f),xs,tys⟩,ty,pos,af,g⟩ :: l)) lg σ Q:=
 Zu (ps:=[]) (gs:=[]) (rd:=[]) (bx:=[]) (b:=[]) false G hF hds hrd hA rfl rfl (fun h=>by cases h) hok hr rfl rfl k
theorem L3 {dst:Option Tmp} {f:FuncId} {xs:Array Operand} {tys:Array TypeId} {ty:TypeId} {pos:String} {af:Array Edge} {g:Option (Nat×Bool)} {dsA:List (DV×Option LB)} {args:List DV} {bx:List LB} {d:DV} {b:List LB} (rd ps gs:List Nat) (fl:Bool)
  (hF:Fn P f ps.length args bx (fun d' b'=>d'=d/\b'=b))
  (k:Chain (Dx P cx fz) ops Rt nb (idx (i + 1) l) ((i,true,nb + 8 * i,rd,ps ++ gs) :: lg) (σ.app dst (Ym ps gs d b)) Q)
  (hds:Ef σ true xs.toList=some dsA:=by rfl)
  (hA:Of fl (ps ++ gs) (Kj σ rd) (dsA.map (·.1)) args:=by
   repeat' first
    | exact Of.nil
    | exact Ag.val
    | exact Ag.sl
    | exact Ag.nils
    | exact Ag.elt
    | exact Ag.fn
    | exact Ag.ptr rfl
    | exact Ag.rowK rfl
    | exact Ag.row rfl (by repeat first | exact List.Mem.head _ | refine List.Mem.tail _ ?_) rfl
    | refine Ag.agg ?_
    | refine Ag.clo ?_
    | refine Of.cons ?_ ?_
   first | done | fail)
  (hB:Xz fl (ps ++ gs) (Kj σ rd) (ps ++ gs) bx:=by
   repeat' first
    | exact (rfl:_=[])
    | refine⟨_,_,_,rfl,(.head _),⟨_,rfl,?_⟩,?_⟩
    | refine⟨_,_,_,rfl,(.tail _ (.head _)),⟨_,rfl,?_⟩,?_⟩
    | refine⟨_,_,_,rfl,(.tail _ (.tail _ (.head _))),⟨_,rfl,?_⟩,?_⟩
    | refine⟨_,_,_,rfl,(.tail _ (.tail _ (.tail _ (.head _)))),⟨_,rfl,?_⟩,?_⟩
    | refine⟨_,_,_,rfl,(.tail _ (.tail _ (.tail _ (.tail _ (.head _))))),⟨_,rfl,?_⟩,?_⟩
    | refine⟨_,_,_,rfl,(.tail _ (.tail _ (.tail _ (.tail _ (.tail _ (.head _)))))),⟨_,rfl,?_⟩,?_⟩
    | refine⟨_,_,_,rfl,(.tail _ (.tail _ (.tail _ (.tail _ (.tail _ (.tail _ (.head _))))))),⟨_,rfl,?_⟩,?_⟩
    | refine⟨_,_,_,rfl,(.head _),rfl,?_⟩
    | refine⟨_,_,_,rfl,(.tail _ (.head _)),rfl,?_⟩
    | refine⟨_,_,_,rfl,(.tail _ (.tail _ (.head _))),rfl,?_⟩
    | refine⟨_,_,_,rfl,(.tail _ (.tail _ (.tail _ (.head _)))),rfl,?_⟩
    | refine⟨_,_,_,rfl,(.tail _ (.tail _ (.tail _ (.tail _ (.head _))))),rfl,?_⟩
    | refine⟨_,_,_,rfl,(.tail _ (.tail _ (.tail _ (.tail _ (.tail _ (.head _)))))),rfl,?_⟩
    | refine⟨_,_,_,rfl,(.tail _ (.tail _ (.tail _ (.tail _ (.tail _ (.tail _ (.head _))))))),rfl,?_⟩
    | exact Of.nil
    | exact Ag.val
    | exact Ag.sl
    | exact Ag.nils
    | exact Ag.elt
    | exact Ag.ptr rfl
    | refine Of.cons ?_ ?_
   first | done | fail)
  (G:I7 ops σ ⟨dst,.call ⟨.value (.func f),xs,tys⟩,ty,pos,af,g⟩=some true:=by exact I5)
  (hrd:M9 σ 3 (Oe dsA)=rd:=by rfl) (hnd:Pl cx.np ps gs=true:=by rfl) (hfl:fl=true->Kn d/\∀ lb∈b,Qw lb:=by first | (intro h; cases h; done) | exact fun _=>⟨by simp [Kn,O3],by simp [Qw,O3,Kn]⟩)
  (hok:Ju Rt i true (nb + 8 * i) rd (ps ++ gs) lg=true:=by rfl) (hr:Hq d=[]:=by rfl) (hl:b.length=ps.length:=by rfl) (hb:b.flatMap Xg=[]:=by rfl) :
  Chain (Dx P cx fz) ops Rt nb (idx i (⟨dst,.call ⟨.value (.func f),xs,tys⟩,ty,pos,af,g⟩ :: l)) lg σ Q:=
 Zu fl G hF hds hrd hA hB hnd hfl hok hr hl hb k
end
theorem t5_ {p:Prop} (h:p:=by refine Kr ?_; refine vO fun B=>?_; refine yI ?_; obtain rfl:=oi_ G; exact Q2 [] ⟨rfl,rfl⟩):p:=h
theorem Ni {p q:Prop} (k:q) (h:q->p:=by intro k; refine Kr ?_; refine vO ?_; exact k):p:=h k
theorem rp_ {p q:Prop} (k:q) (h:q->p:=by intro k; (repeat first | refine st_ ?_ | refine sn_ ?_); exact k):p:=h k
theorem vI {p:Prop} (h:p:=by (repeat first | exact (rfl:_=[]) | (apply aBb; exact rfl)); first | done | fail):p:=h
theorem dc_ {p:Prop} (h:p:=by (repeat first | exact Gw.nil | (apply Gw.cons; first | exact bD.int | exact bD.bool | exact bD.str | exact bD.sl | exact bD.nil)); first | done | fail):p:=h
theorem jP {p q:Prop} (k:q) (h:q->p:=by intro k; refine tG ?_; (repeat first | refine st_ ?_ | refine sn_ ?_); exact k):p:=h k
theorem ex_ {p q:Prop} (k:q) (h:q->p:=by intro k; refine uB ?_; (repeat first | refine st_ ?_ | refine sn_ ?_); exact k):p:=h k
class FlC {α:Type} (f:α->List C):Prop where
 h:∀ x,∀ c∈f x,lQ c=true
instance:FlC eI:=⟨fun x c hc=>by rw [aEp.1 hc]; rfl⟩
theorem hQ {α:Type} {l l':List α} (h:l.length=l'.length):Cu l 0 l'=l':=by
 unfold Cu
 rw [List.take_zero,aOl,aI4,<- h,List.drop_length,aMl]
section
variable {P:Program} {cx:Cx} {ops:Array Oper} {Rt:Option (List Nat)} {nb i:Nat} {l:List Oper} {lg:fT} {σ:St} {Q:St->Prop} {fz:List Nat} {α:Type} {f:α->List C} {L:List α} {a:α} {n:Int} {m:Nat} {t:TypeId} {x y:Operand} {dst:Option Tmp} {ty:TypeId} {pos:String} {af:Array Edge} {g:Option (Nat×Bool)}
theorem lE_ (he:Bo L n=some a) {b1:Option LB} {cs:List C} (k:Chain (Dx P cx fz) ops Rt nb (idx (i + 1) l) ((i,false,nb + 8 * i,[],[]) :: lg) (σ.app dst (v0 (.agg (cs.map P3)))) Q) [T:L1 P t true m]
  (hds:Ef σ true [x]=some [(.elt ((Ak f L).drop (n.toNat * m)),b1)]:=by exact rfl) (E:Nc f m:=by exact inferInstance) (hc:f a=cs:=by exact vI) (G:I7 ops σ ⟨dst,.load t x,ty,pos,af,g⟩=some true:=by exact I5)
  (hok:Ju Rt i false (nb + 8 * i) [] [] lg=true:=by exact rfl) (hz:zM fz (nb + 8 * i)=0:=by exact rfl) (hap:M1 cx.np (.load t x) []=true:=by exact rfl):Chain (Dx P cx fz) ops Rt nb (idx i (⟨dst,.load t x,ty,pos,af,g⟩ :: l)) lg σ Q:=
 Fw G hds (Mn T.h (Iy E.h (Cc he) (o:=0) (m:=m) (by rw [aPx,aHx (by rw [E.h]; exact aHy _)]; exact hc) (by omega) rfl) (Fe E.h (Cc he) (o:=0) (m:=m) (by omega) rfl)) rfl hok k hz hap
theorem l1_ (he:Bo L n=some a) {b1:Option LB} {c:C} {sz:Nat} (k:Chain (Dx P cx fz) ops Rt nb (idx (i + 1) l) ((i,false,nb + 8 * i,[],[]) :: lg) (σ.app dst (v0 (P3 c))) Q) [T:L1 P t false sz]
  (hds:Ef σ true [x]=some [(.elt ((Ak f L).drop (n.toNat * 1)),b1)]:=by exact rfl) (E:Nc f 1:=by exact inferInstance) (hc:f a=[c]:=by exact rfl) (G:I7 ops σ ⟨dst,.load t x,ty,pos,af,g⟩=some true:=by exact I5)
  (hok:Ju Rt i false (nb + 8 * i) [] [] lg=true:=by exact rfl) (hz:zM fz (nb + 8 * i)=0:=by exact rfl) (hap:M1 cx.np (.load t x) []=true:=by exact rfl):Chain (Dx P cx fz) ops Rt nb (idx i (⟨dst,.load t x,ty,pos,af,g⟩ :: l)) lg σ Q:=
 Fw G hds (Fr T.h (Fj E.h (Cc he) (o:=0) (by rw [hc]; rfl) rfl)) rfl hok k hz hap
theorem lR_ (he:Bo L n=some a) {kr e':Nat} {cs:List C} (k:Chain (Dx P cx fz) ops Rt nb (idx (i + 1) l) ((i,false,nb + 8 * i,[kr],[]) :: lg) (σ.app dst (v0 (.agg (cs.map P3)))) Q) [T:L1 P t true m]
  (hds:Ef σ true [x]=some [(.ptr kr (n.toNat * m),some (.row e' m (Ak f L)))]:=by exact rfl) (E:Nc f m:=by exact inferInstance) (hc:f a=cs:=by exact vI) (G:I7 ops σ ⟨dst,.load t x,ty,pos,af,g⟩=some true:=by exact I5)
  (hok:Ju Rt i false (nb + 8 * i) [kr] [] lg=true:=by exact rfl) (hz:zM fz (nb + 8 * i)=0:=by exact rfl) (hap:M1 cx.np (.load t x) []=true:=by exact rfl):Chain (Dx P cx fz) ops Rt nb (idx i (⟨dst,.load t x,ty,pos,af,g⟩ :: l)) lg σ Q:=
 Ik (rd:=[kr]) G hds (Va T.h (Iy E.h (Cc he) (o:=0) (m:=m) (by rw [aPx,aHx (by rw [E.h]; exact aHy _)]; exact hc) (by omega) rfl) (Fe E.h (Cc he) (o:=0) (m:=m) (by omega) rfl)) rfl hok k hz hap
theorem Su {ck:List (Option Nat)} (hk:H1 P 20 t=ck) (he:Bo L n=some a) {x':α} {d:DV} {b2:Option LB} {kr e':Nat} {cs':List C} {ag:Bool} {rd:List Nat} (k:Chain (Dx P cx fz) ops Rt nb (idx (i + 1) l) ((i,false,nb + 8 * i,rd,[kr]) :: lg) (σ.app dst (nR kr (.row e' m (Ak f (Dj L n.toNat x'))))) Q) [T:L1 P t ag m]
  (hds:Ef σ true [x,y]=some [(.ptr kr (n.toNat * m),some (.row e' m (Ak f L))),(d,b2)]:=by exact rfl) (E:Nc f m:=by exact inferInstance) (hx:f x'=cs':=by exact vI) (hd:Gw ck (Co d) cs':=by exact dc_) (hs:(Co d).length=m:=by exact rfl)
  (hr:Kk false [(DV.ptr kr (n.toNat * m),some (LB.row e' m (Ak f L))),(d,b2)]=rd:=by first | exact (rfl:_=[_]) | exact (rfl:_=[_,_]) | exact (rfl:_=[_,_,_])) (G:I7 ops σ ⟨dst,.store t x y,ty,pos,af,g⟩=some true:=by exact I5)
  (hok:Ju Rt i false (nb + 8 * i) rd [kr] lg=true:=by exact rfl) (hz:zM fz (nb + 8 * i)=0:=by exact rfl) (hap:M1 cx.np (.store t x y) [kr]=true:=by exact rfl):Chain (Dx P cx fz) ops Rt nb (idx i (⟨dst,.store t x y,ty,pos,af,g⟩ :: l)) lg σ Q:=
 Ik G hds (fW T.h hs (Fe E.h (Cc he) (o:=0) (m:=m) (by omega) rfl) hk hd (Nz E.h (Cc he) (o:=0) (x':=x') (by rw [<- hx,E.h]; omega) (by rw [<- hx]; exact hQ (by rw [E.h,E.h])) rfl)) hr hok k hz hap
theorem H0 {e sz bytes len:Nat} {parts:Array (Nat×Operand)} {ds:List (DV×Option LB)} {z:List Value} {cs:List C} {ck:List (Option Nat)} (hS:Gl P t e sz bytes) (hz:Zt P e z) (hk:H1 P 20 e=ck) (lv:List α) (fv:α->List C) (k:Chain (Dx P cx fz) ops Rt nb (idx (i + 1) l) ((i,false,nb + 8 * i,[],[]) :: lg) (σ.app dst (M6 (nb + 8 * i) (.row e sz (Ak fv lv)) (.row (nb + 8 * i)))) Q)
  (hds:Ef σ false (Op.buildSlice t len parts).operands.toList=some ds:=by exact rfl) (hc:Gw (List.replicate len ck).flatten (ds.flatMap fun q=>Co q.1) cs:=by exact dc_) (h:Ak fv lv=cs:=by exact rfl) (hlen:Nat.ble (len * sz) 16777216=true:=by exact rfl) (hp:parts.toList.map (·.1)=List.range' 0 len:=by exact rfl) (hzl:z.length=sz:=by exact rfl) (hn:ds.length=len:=by exact rfl)
  (hs:ds.all (fun q=>Nat.beq (Co q.1).length sz)=true:=by exact rfl) (ho:ds.all (fun q=>(Co q.1).all Tv)=true:=by exact rfl) (G:I7 ops σ ⟨dst,.buildSlice t len parts,ty,pos,af,g⟩=some true:=by exact I5)
  (hok:Ju Rt i false (nb + 8 * i) [] [] lg=true:=by exact rfl) (hz':zM fz (nb + 8 * i)=0:=by exact rfl) (hap:M1 cx.np (.buildSlice t len parts) []=true:=by exact rfl):Chain (Dx P cx fz) ops Rt nb (idx i (⟨dst,.buildSlice t len parts,ty,pos,af,g⟩ :: l)) lg σ Q:=
 Fw G hds (G5 hS hz (aEn hlen) hp hzl hn hs hk hc ho h) rfl hok k hz' hap
theorem Qv {e sz bytes len:Nat} {parts:Array (Nat×Operand)} {ds:List (DV×Option LB)} {z:List Value} {cs:List C} {ck:List (Option Nat)} (hS:Gl P t e sz bytes) (hz:Zt P e z) (hk:H1 P 20 e=ck) (lv:List α) (fv:α->List C) (k:Chain (Dx P cx fz) ops Rt nb (idx (i + 1) l) ((i,false,nb + 8 * i,[],[]) :: lg) (σ.app dst (Yu sz (Ak fv lv) [])) Q)
  (hds:Ef σ false (Op.buildSlice t len parts).operands.toList=some ds:=by exact rfl) (hc:Gw (List.replicate len ck).flatten (ds.flatMap fun q=>Co q.1) cs:=by exact dc_) (h:Ak fv lv=cs:=by exact rfl) (hlen:Nat.ble (len * sz) 16777216=true:=by exact rfl) (hp:parts.toList.map (·.1)=List.range' 0 len:=by exact rfl) (hzl:z.length=sz:=by exact rfl) (hn:ds.length=len:=by exact rfl)
  (hs:ds.all (fun q=>Nat.beq (Co q.1).length sz)=true:=by exact rfl) (ho:ds.all (fun q=>(Co q.1).all Tv)=true:=by exact rfl) (G:I7 ops σ ⟨dst,.buildSlice t len parts,ty,pos,af,g⟩=some true:=by exact I5)
  (hok:Ju Rt i false (nb + 8 * i) [] [] lg=true:=by exact rfl) (hz':zM fz (nb + 8 * i)=1:=by exact rfl) (hap:M1 cx.np (.buildSlice t len parts) []=true:=by exact rfl):Chain (Dx P cx fz) ops Rt nb (idx i (⟨dst,.buildSlice t len parts,ty,pos,af,g⟩ :: l)) lg σ Q:=
 yP (rd:=[]) G hds (G5 hS hz (aEn hlen) hp hzl hn hs hk hc ho h) rfl rfl hok k hz' hap
theorem Kp {fields:_} {places:List (Nat×Nat)} {z:List Value} {r0 r:List DV} {parts:Array (Nat×Operand)} {ds:List (DV×Option LB)} (hu:P.underlying t=some (.struct fields)) (hp:fields.toList.map (fun f=>(P.info? f.type).map fun i=>(f.offset,i.size))=places.map some) (hz:Zt P t z) (k:Chain (Dx P cx fz) ops Rt nb (idx (i + 1) l) ((i,false,nb + 8 * i,[],[]) :: lg) (σ.app dst (v0 (.agg r))) Q)
  (hds:Ef σ false (Op.build t parts).operands.toList=some ds:=by exact rfl) (hd:Gt (fun i=>places[i]?) (z.map .val) ((parts.toList.map (·.1)).zip (ds.map (·.1)))=some r0:=by exact rfl) (hr:r0=r:=by exact vI) (ho:ds.all (fun q=>(Co q.1).all Tv)=true:=by exact rfl) (G:I7 ops σ ⟨dst,.build t parts,ty,pos,af,g⟩=some true:=by exact I5)
  (hok:Ju Rt i false (nb + 8 * i) [] [] lg=true:=by exact rfl) (hz':zM fz (nb + 8 * i)=0:=by exact rfl) (hap:M1 cx.np (.build t parts) []=true:=by exact rfl):Chain (Dx P cx fz) ops Rt nb (idx i (⟨dst,.build t parts,ty,pos,af,g⟩ :: l)) lg σ Q:=
 Fw G hds (.build hu hp hz (hr ▸ hd) ho) rfl hok k hz' hap
end
theorem eM {P:Program} {cx:Cx} {id:Nat} {l:List Oper} {σ:St} {y:Code} {Q:Exit->St->Prop} (nb nb':Nat) (B:∀ k,nb<=k->σ.U k=false) {j:Nat} {lg':fT} {σ':St} {q:Prop} (k:(∀ j,nb'<=j->σ'.U j=false)->q)
  (h:Gm P cx [] l.toArray none nb (idx 0 l) [] σ (idx j []) lg' σ':=by exact gm_) (s:nT (vG (N1 P cx y Q) Q .normal σ') q:=by exact inferInstance) (hn:Nat.ble (nb + 8 * l.length) nb'=true:=by rfl) (hd:dO cx.N l=true:=by rfl):N1 P cx (.seq (.region id l.toArray false) y) Q σ:=
 Xs nb nb' B (h _ (vO k)) hn hd
end Go.Proofs.YtkioneinddihlaaGreat
