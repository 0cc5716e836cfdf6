import Derived.Test.YtobamahlipiakaaGreatEE
set_option linter.unusedVariables false
set_option linter.unusedSimpArgs false
namespace Go.Proofs.YtobamahlipiakaaGreat
open Go.RowKit
abbrev vj (x:Int):DV:=.val (.int .i64 x)
abbrev vk (x:ByteArray):DV:=.val (.string x)
class Ot (P:Program) (t:TypeId) (ag:outParam Bool) (sz:outParam Nat):Prop where
 h:Ty P t ag sz
class Lk (P:Program) (s:TypeId) (f:Nat) (off:outParam Nat) (ft:outParam TypeId):Prop where
 h:Fd P s f off ft
class Xd (P:Program) (t:TypeId) (e sz bytes:outParam Nat):Prop where
 h:Iy P t e sz bytes
class X1 (P:Program) (t:TypeId) (z:outParam (List Value)):Prop where
 h:Zt P t z
class Xm (P:Program) (t:TypeId) (d:outParam TypeDesc):Prop where
 h:P.underlying t=some d
class P0 {α:Type} (f:α->List C) (sz:outParam Nat):Prop where
 h:∀ x,(f x).length=sz
instance:P0 eI 1:=⟨Mu⟩
instance {k:IntKind}:P0 (eK k) 1:=⟨uM k⟩
instance:P0 e8 1:=⟨aD8⟩
instance:P0 eS 1:=⟨aMa⟩
instance:P0 eB 1:=⟨aLl⟩
instance {α:Type} {sz:Nat} {f:α->List C}:P0 (eL sz f) 1:=⟨wC sz f⟩
section
variable {P:Program} {cx:Cx} {ops:Array Oper} {Rt:Option (List Nat)} {nb i:Nat} {l:List Oper} {lg lg':oP} {σ σ':St} {Q:St->Prop} {fz:List Nat} {m':List (Nat×Oper)}
def Gm (P:Program) (cx:Cx) (fz:List Nat) (ops:Array Oper) (Rt:Option (List Nat)) (nb:Nat) (m:List (Nat×Oper)) (lg:oP) (σ:St) (m':List (Nat×Oper)) (lg':oP) (σ':St):Prop:=∀ Q,Chain (D9 P cx fz) ops Rt nb m' lg' σ' Q->Chain (D9 P cx fz) ops Rt nb m lg σ Q
theorem Gm.z {m:List (Nat×Oper)}:Gm P cx fz ops Rt nb m lg σ m lg σ:=fun _ h=>h
theorem Gm.s {dst:Option Tmp} {op:Op} {ty:TypeId} {pos:String} {af:Array Edge} {g:Option (Nat×Bool)} {ds:List (DV×Option LB)} {rd wr:List Nat} {e:Ow} (hds:Fz σ (K7 op) op.operands.toList=some ds) (h:Gw P (nb + 8 * i) op ty ds wr e)
  (k:Gm P cx fz ops Rt nb (idx (i + 1) l) ((i,false,nb + 8 * i,rd,wr) :: lg) (σ.app dst e) m' lg' σ') (G:Kr ops σ ⟨dst,op,ty,pos,af,g⟩=some true) (hrd:(bif K7 op then Mw (Nm op) ds else [])=rd)
  (hok:(Mc Rt i false (nb + 8 * i) rd wr lg && (Nat.beq (zM fz (nb + 8 * i)) 0 && P2 cx.np op wr))=true) :
  Gm P cx fz ops Rt nb (idx i (⟨dst,op,ty,pos,af,g⟩ :: l)) lg σ m' lg' σ':=fun Q hq=>by
 simp only [aF1] at hok
 exact Sk G hds h hrd hok.1 (k Q hq) (aF5 hok.2.1) hok.2.2
theorem Gm.k {dst:Option Tmp} {op:Op} {ty:TypeId} {pos:String} {af:Array Edge} {g:Nat×Bool} (G:Kr ops σ ⟨dst,op,ty,pos,af,some g⟩=some false)
  (hok:Mc Rt i false (nb + 8 * i) [] [] lg=true) (k:Gm P cx fz ops Rt nb (idx (i + 1) l) ((i,false,nb + 8 * i,[],[]) :: lg) (σ.app dst wF) m' lg' σ') :
  Gm P cx fz ops Rt nb (idx i (⟨dst,op,ty,pos,af,some g⟩ :: l)) lg σ m' lg' σ':=fun Q hq=>aG3 G hok (k Q hq)
theorem aQb {dst:Option Tmp} {op:Op} {ty:TypeId} {pos:String} {af:Array Edge}:Kr ops σ ⟨dst,op,ty,pos,af,none⟩=some true:=rfl
theorem aCr {dst:Option Tmp} {op:Op} {ty:TypeId} {pos:String} {af:Array Edge} {g:Nat} {c:Bool} {t:Tmp} (ht:(ops[g]?).bind (·.dst)=some t) (hF:σ.F t=some (.val (.bool c))) (hc:c=false):Kr ops σ ⟨dst,op,ty,pos,af,some (g,true)⟩=some false:=aJv ht hF hc
theorem aCo {dst:Option Tmp} {op:Op} {ty:TypeId} {pos:String} {af:Array Edge} {g:Nat} {c:Bool} {t:Tmp} (ht:(ops[g]?).bind (·.dst)=some t) (hF:σ.F t=some (.val (.bool c))) (hc:c=true):Kr ops σ ⟨dst,op,ty,pos,af,some (g,false)⟩=some false:=aJv ht hF hc
theorem aJu {dst:Option Tmp} {op:Op} {ty:TypeId} {pos:String} {af:Array Edge} {g:Nat} {b:Bool} {t:Tmp} (ht:(ops[g]?).bind (·.dst)=some t) (hF:σ.F t=some (.val undef)):Kr ops σ ⟨dst,op,ty,pos,af,some (g,b)⟩=some false:=by
 unfold Kr
 simp only []
 rw [ht]
 simp only []
 rw [hF]
 rfl
theorem aLs {α:Type} {l t t':List α} {x:α} (h:l=x :: t) (k:t=t'):l=x :: t':=by rw [h,k]
variable {dst:Option Tmp} {ty:TypeId} {pos:String} {af:Array Edge} {g:Option (Nat×Bool)}
theorem Gm.move {x:Operand} {d:DV} {q:Option LB} (hds:Fz σ false [x]=some [(d,q)])  (G:Kr ops σ ⟨dst,.move x,ty,pos,af,g⟩=some true)
  (hok:(Mc Rt i false (nb + 8 * i) [] [] lg && (Nat.beq (zM fz (nb + 8 * i)) 0 && P2 cx.np (.move x) []))=true) (k:Gm P cx fz ops Rt nb (idx (i + 1) l) ((i,false,nb + 8 * i,[],[]) :: lg) (σ.app dst (v0 d)) m' lg' σ'):Gm P cx fz ops Rt nb (idx i (⟨dst,.move x,ty,pos,af,g⟩ :: l)) lg σ m' lg' σ':=
 Gm.s hds (.move) k G rfl hok
theorem Gm.assign {x:Operand} {d:DV} {q:Option LB} (hds:Fz σ false [x]=some [(d,q)])  (G:Kr ops σ ⟨dst,.assign x,ty,pos,af,g⟩=some true)
  (hok:(Mc Rt i false (nb + 8 * i) [] [] lg && (Nat.beq (zM fz (nb + 8 * i)) 0 && P2 cx.np (.assign x) []))=true) (k:Gm P cx fz ops Rt nb (idx (i + 1) l) ((i,false,nb + 8 * i,[],[]) :: lg) (σ.app dst (v0 d)) m' lg' σ'):Gm P cx fz ops Rt nb (idx i (⟨dst,.assign x,ty,pos,af,g⟩ :: l)) lg σ m' lg' σ':=
 Gm.s hds (.assign) k G rfl hok
theorem Gm.fieldP {x:Operand} {s f k j off ft sz:Nat} {ag:Bool} {q:Option LB} [F:Lk P s f off ft] [T:Ot P ft ag sz] (hds:Fz σ false [x]=some [(.ptr k j,q)]) (hz0:Nat.blt 0 sz=true) (G:Kr ops σ ⟨dst,.fieldAddr s x f,ty,pos,af,g⟩=some true)
  (hok:(Mc Rt i false (nb + 8 * i) [] [] lg && (Nat.beq (zM fz (nb + 8 * i)) 0 && P2 cx.np (.fieldAddr s x f) []))=true) (k:Gm P cx fz ops Rt nb (idx (i + 1) l) ((i,false,nb + 8 * i,[],[]) :: lg) (σ.app dst (v0 (.ptr k (j + off)))) m' lg' σ'):Gm P cx fz ops Rt nb (idx i (⟨dst,.fieldAddr s x f,ty,pos,af,g⟩ :: l)) lg σ m' lg' σ':=
 Gm.s hds (.fieldP F.h T.h (aEi hz0)) k G rfl hok
theorem Gm.load1 {x:Operand} {t k j bt sz:Nat} {ds:List DV} {d:DV} [T:Ot P t false sz] (hds:Fz σ true [x]=some [(.ptr k j,some (.box ds bt))]) (hd:ds[j]?=some d) (G:Kr ops σ ⟨dst,.load t x,ty,pos,af,g⟩=some true)
  (hok:(Mc Rt i false (nb + 8 * i) [k] [] lg && (Nat.beq (zM fz (nb + 8 * i)) 0 && P2 cx.np (.load t x) []))=true) (k:Gm P cx fz ops Rt nb (idx (i + 1) l) ((i,false,nb + 8 * i,[k],[]) :: lg) (σ.app dst (v0 d)) m' lg' σ'):Gm P cx fz ops Rt nb (idx i (⟨dst,.load t x,ty,pos,af,g⟩ :: l)) lg σ m' lg' σ':=
 Gm.s hds (.loadB1 T.h hd) k G rfl hok
theorem Gm.loadA {x:Operand} {t k j bt sz:Nat} {ds:List DV} [T:Ot P t true sz] (hds:Fz σ true [x]=some [(.ptr k j,some (.box ds bt))]) (hd:Nat.ble (j + sz) ds.length=true) (G:Kr ops σ ⟨dst,.load t x,ty,pos,af,g⟩=some true)
  (hok:(Mc Rt i false (nb + 8 * i) [k] [] lg && (Nat.beq (zM fz (nb + 8 * i)) 0 && P2 cx.np (.load t x) []))=true) (k:Gm P cx fz ops Rt nb (idx (i + 1) l) ((i,false,nb + 8 * i,[k],[]) :: lg) (σ.app dst (v0 (.agg ((ds.drop j).take sz)))) m' lg' σ'):Gm P cx fz ops Rt nb (idx i (⟨dst,.load t x,ty,pos,af,g⟩ :: l)) lg σ m' lg' σ':=
 Gm.s hds (.loadBA T.h (aEi hd)) k G rfl hok
theorem Gm.pickF {x y z:Operand} {c:Bool} {d1 d2:DV} {q1 q2 q3:Option LB} (hds:Fz σ false [x,y,z]=some [(.val (.bool c),q1),(d1,q2),(d2,q3)]) (hc:c=false) (G:Kr ops σ ⟨dst,.pick x y z,ty,pos,af,g⟩=some true)
  (hok:(Mc Rt i false (nb + 8 * i) [] [] lg && (Nat.beq (zM fz (nb + 8 * i)) 0 && P2 cx.np (.pick x y z) []))=true) (k:Gm P cx fz ops Rt nb (idx (i + 1) l) ((i,false,nb + 8 * i,[],[]) :: lg) (σ.app dst (v0 d2)) m' lg' σ'):Gm P cx fz ops Rt nb (idx i (⟨dst,.pick x y z,ty,pos,af,g⟩ :: l)) lg σ m' lg' σ':=
 Gm.s hds (aIw hc) k G rfl hok
theorem Gm.pickT {x y z:Operand} {c:Bool} {d1 d2:DV} {q1 q2 q3:Option LB} (hds:Fz σ false [x,y,z]=some [(.val (.bool c),q1),(d1,q2),(d2,q3)]) (hc:c=true) (G:Kr ops σ ⟨dst,.pick x y z,ty,pos,af,g⟩=some true)
  (hok:(Mc Rt i false (nb + 8 * i) [] [] lg && (Nat.beq (zM fz (nb + 8 * i)) 0 && P2 cx.np (.pick x y z) []))=true) (k:Gm P cx fz ops Rt nb (idx (i + 1) l) ((i,false,nb + 8 * i,[],[]) :: lg) (σ.app dst (v0 d1)) m' lg' σ'):Gm P cx fz ops Rt nb (idx i (⟨dst,.pick x y z,ty,pos,af,g⟩ :: l)) lg σ m' lg' σ':=
 Gm.s hds (aHw hc) k G rfl hok
theorem Gm.storeB {x y:Operand} {t k j bt sz:Nat} {ag:Bool} {ds ds':List DV} {d:DV} {q:Option LB} {rd:List Nat} [T:Ot P t ag sz] (hds:Fz σ true [x,y]=some [(.ptr k j,some (.box ds bt)),(d,q)]) (hs:(Do d).length=sz) (hi:Nat.ble (j + sz) ds.length=true) (ho:(Do d).all eG=true) (hn:El ds j (Do d)=ds') (hr:Mw false [(DV.ptr k j,some (LB.box ds bt)),(d,q)]=rd) (G:Kr ops σ ⟨dst,.store t x y,ty,pos,af,g⟩=some true)
  (hok:(Mc Rt i false (nb + 8 * i) rd [k] lg && (Nat.beq (zM fz (nb + 8 * i)) 0 && P2 cx.np (.store t x y) [k]))=true) (k:Gm P cx fz ops Rt nb (idx (i + 1) l) ((i,false,nb + 8 * i,rd,[k]) :: lg) (σ.app dst (P1 k (.box ds' bt))) m' lg' σ'):Gm P cx fz ops Rt nb (idx i (⟨dst,.store t x y,ty,pos,af,g⟩ :: l)) lg σ m' lg' σ':=
 Gm.s hds (aCj T.h hs (aEi hi) ho hn) k G hr hok
theorem Gm.extract {x:Operand} {n:Nat} {ds:List DV} {d:DV} {q:Option LB} (hds:Fz σ false [x]=some [(.tup ds,q)]) (hd:ds[n]?=some d) (G:Kr ops σ ⟨dst,.extract x n,ty,pos,af,g⟩=some true)
  (hok:(Mc Rt i false (nb + 8 * i) [] [] lg && (Nat.beq (zM fz (nb + 8 * i)) 0 && P2 cx.np (.extract x n) []))=true) (k:Gm P cx fz ops Rt nb (idx (i + 1) l) ((i,false,nb + 8 * i,[],[]) :: lg) (σ.app dst (v0 d)) m' lg' σ'):Gm P cx fz ops Rt nb (idx i (⟨dst,.extract x n,ty,pos,af,g⟩ :: l)) lg σ m' lg' σ':=
 Gm.s hds (.extract hd) k G rfl hok
theorem Gm.lss {x y:Operand} {t yt:TypeId} {kk:IntKind} {a b:Int} {q1 q2:Option LB} (hds:Fz σ false [x,y]=some [(.val (.int kk a),q1),(.val (.int kk b),q2)])  (G:Kr ops σ ⟨dst,.binOp .lss t x y yt,ty,pos,af,g⟩=some true)
  (hok:(Mc Rt i false (nb + 8 * i) [] [] lg && (Nat.beq (zM fz (nb + 8 * i)) 0 && P2 cx.np (.binOp .lss t x y yt) []))=true) (k:Gm P cx fz ops Rt nb (idx (i + 1) l) ((i,false,nb + 8 * i,[],[]) :: lg) (σ.app dst (v0 (.val (.bool (decide (a < b)))))) m' lg' σ'):Gm P cx fz ops Rt nb (idx i (⟨dst,.binOp .lss t x y yt,ty,pos,af,g⟩ :: l)) lg σ m' lg' σ':=
 Gm.s hds (aPj) k G rfl hok
theorem Gm.eql {x y:Operand} {t yt:TypeId} {kk:IntKind} {a b:Int} {q1 q2:Option LB} (hds:Fz σ false [x,y]=some [(.val (.int kk a),q1),(.val (.int kk b),q2)])  (G:Kr ops σ ⟨dst,.binOp .eql t x y yt,ty,pos,af,g⟩=some true)
  (hok:(Mc Rt i false (nb + 8 * i) [] [] lg && (Nat.beq (zM fz (nb + 8 * i)) 0 && P2 cx.np (.binOp .eql t x y yt) []))=true) (k:Gm P cx fz ops Rt nb (idx (i + 1) l) ((i,false,nb + 8 * i,[],[]) :: lg) (σ.app dst (v0 (.val (.bool (decide (a=b)))))) m' lg' σ'):Gm P cx fz ops Rt nb (idx i (⟨dst,.binOp .eql t x y yt,ty,pos,af,g⟩ :: l)) lg σ m' lg' σ':=
 Gm.s hds (aQ6) k G rfl hok
theorem Gm.gtr {x y:Operand} {t yt:TypeId} {kk:IntKind} {a b:Int} {q1 q2:Option LB} (hds:Fz σ false [x,y]=some [(.val (.int kk a),q1),(.val (.int kk b),q2)])  (G:Kr ops σ ⟨dst,.binOp .gtr t x y yt,ty,pos,af,g⟩=some true)
  (hok:(Mc Rt i false (nb + 8 * i) [] [] lg && (Nat.beq (zM fz (nb + 8 * i)) 0 && P2 cx.np (.binOp .gtr t x y yt) []))=true) (k:Gm P cx fz ops Rt nb (idx (i + 1) l) ((i,false,nb + 8 * i,[],[]) :: lg) (σ.app dst (v0 (.val (.bool (decide (b < a)))))) m' lg' σ'):Gm P cx fz ops Rt nb (idx i (⟨dst,.binOp .gtr t x y yt,ty,pos,af,g⟩ :: l)) lg σ m' lg' σ':=
 Gm.s hds (aPp) k G rfl hok
theorem Gm.leq {x y:Operand} {t yt:TypeId} {kk:IntKind} {a b:Int} {q1 q2:Option LB} (hds:Fz σ false [x,y]=some [(.val (.int kk a),q1),(.val (.int kk b),q2)])  (G:Kr ops σ ⟨dst,.binOp .leq t x y yt,ty,pos,af,g⟩=some true)
  (hok:(Mc Rt i false (nb + 8 * i) [] [] lg && (Nat.beq (zM fz (nb + 8 * i)) 0 && P2 cx.np (.binOp .leq t x y yt) []))=true) (k:Gm P cx fz ops Rt nb (idx (i + 1) l) ((i,false,nb + 8 * i,[],[]) :: lg) (σ.app dst (v0 (.val (.bool (decide (a<=b)))))) m' lg' σ'):Gm P cx fz ops Rt nb (idx i (⟨dst,.binOp .leq t x y yt,ty,pos,af,g⟩ :: l)) lg σ m' lg' σ':=
 Gm.s hds (aRh) k G rfl hok
theorem Gm.geq {x y:Operand} {t yt:TypeId} {kk:IntKind} {a b:Int} {q1 q2:Option LB} (hds:Fz σ false [x,y]=some [(.val (.int kk a),q1),(.val (.int kk b),q2)])  (G:Kr ops σ ⟨dst,.binOp .geq t x y yt,ty,pos,af,g⟩=some true)
  (hok:(Mc Rt i false (nb + 8 * i) [] [] lg && (Nat.beq (zM fz (nb + 8 * i)) 0 && P2 cx.np (.binOp .geq t x y yt) []))=true) (k:Gm P cx fz ops Rt nb (idx (i + 1) l) ((i,false,nb + 8 * i,[],[]) :: lg) (σ.app dst (v0 (.val (.bool (decide (b<=a)))))) m' lg' σ'):Gm P cx fz ops Rt nb (idx i (⟨dst,.binOp .geq t x y yt,ty,pos,af,g⟩ :: l)) lg σ m' lg' σ':=
 Gm.s hds (aRp) k G rfl hok
theorem Gm.neq {x y:Operand} {t yt:TypeId} {kk:IntKind} {a b:Int} {q1 q2:Option LB} (hds:Fz σ false [x,y]=some [(.val (.int kk a),q1),(.val (.int kk b),q2)])  (G:Kr ops σ ⟨dst,.binOp .neq t x y yt,ty,pos,af,g⟩=some true)
  (hok:(Mc Rt i false (nb + 8 * i) [] [] lg && (Nat.beq (zM fz (nb + 8 * i)) 0 && P2 cx.np (.binOp .neq t x y yt) []))=true) (k:Gm P cx fz ops Rt nb (idx (i + 1) l) ((i,false,nb + 8 * i,[],[]) :: lg) (σ.app dst (v0 (.val (.bool (!decide (a=b)))))) m' lg' σ'):Gm P cx fz ops Rt nb (idx i (⟨dst,.binOp .neq t x y yt,ty,pos,af,g⟩ :: l)) lg σ m' lg' σ':=
 Gm.s hds (aRs) k G rfl hok
theorem Gm.seql {x y:Operand} {t yt:TypeId} {a b:ByteArray} {q1 q2:Option LB} (hds:Fz σ false [x,y]=some [(.val (.string a),q1),(.val (.string b),q2)])  (G:Kr ops σ ⟨dst,.binOp .eql t x y yt,ty,pos,af,g⟩=some true)
  (hok:(Mc Rt i false (nb + 8 * i) [] [] lg && (Nat.beq (zM fz (nb + 8 * i)) 0 && P2 cx.np (.binOp .eql t x y yt) []))=true) (k:Gm P cx fz ops Rt nb (idx (i + 1) l) ((i,false,nb + 8 * i,[],[]) :: lg) (σ.app dst (v0 (.val (.bool (decide (a=b)))))) m' lg' σ'):Gm P cx fz ops Rt nb (idx i (⟨dst,.binOp .eql t x y yt,ty,pos,af,g⟩ :: l)) lg σ m' lg' σ':=
 Gm.s hds (aMu) k G rfl hok
theorem Gm.sneq {x y:Operand} {t yt:TypeId} {a b:ByteArray} {q1 q2:Option LB} (hds:Fz σ false [x,y]=some [(.val (.string a),q1),(.val (.string b),q2)])  (G:Kr ops σ ⟨dst,.binOp .neq t x y yt,ty,pos,af,g⟩=some true)
  (hok:(Mc Rt i false (nb + 8 * i) [] [] lg && (Nat.beq (zM fz (nb + 8 * i)) 0 && P2 cx.np (.binOp .neq t x y yt) []))=true) (k:Gm P cx fz ops Rt nb (idx (i + 1) l) ((i,false,nb + 8 * i,[],[]) :: lg) (σ.app dst (v0 (.val (.bool (!decide (a=b)))))) m' lg' σ'):Gm P cx fz ops Rt nb (idx i (⟨dst,.binOp .neq t x y yt,ty,pos,af,g⟩ :: l)) lg σ m' lg' σ':=
 Gm.s hds (aLp) k G rfl hok
theorem Gm.add {x y:Operand} {t yt:TypeId} {a b:Int} {q1 q2:Option LB} (hds:Fz σ false [x,y]=some [(.val (.int .i64 a),q1),(.val (.int .i64 b),q2)])  (G:Kr ops σ ⟨dst,.binOp .add t x y yt,ty,pos,af,g⟩=some true)
  (hok:(Mc Rt i false (nb + 8 * i) [] [] lg && (Nat.beq (zM fz (nb + 8 * i)) 0 && P2 cx.np (.binOp .add t x y yt) []))=true) (k:Gm P cx fz ops Rt nb (idx (i + 1) l) ((i,false,nb + 8 * i,[],[]) :: lg) (σ.app dst (v0 (.val (.int .i64 (W (a + b)))))) m' lg' σ'):Gm P cx fz ops Rt nb (idx i (⟨dst,.binOp .add t x y yt,ty,pos,af,g⟩ :: l)) lg σ m' lg' σ':=
 Gm.s hds (aP3) k G rfl hok
theorem Gm.sub {x y:Operand} {t yt:TypeId} {a b:Int} {q1 q2:Option LB} (hds:Fz σ false [x,y]=some [(.val (.int .i64 a),q1),(.val (.int .i64 b),q2)])  (G:Kr ops σ ⟨dst,.binOp .sub t x y yt,ty,pos,af,g⟩=some true)
  (hok:(Mc Rt i false (nb + 8 * i) [] [] lg && (Nat.beq (zM fz (nb + 8 * i)) 0 && P2 cx.np (.binOp .sub t x y yt) []))=true) (k:Gm P cx fz ops Rt nb (idx (i + 1) l) ((i,false,nb + 8 * i,[],[]) :: lg) (σ.app dst (v0 (.val (.int .i64 (W (a - b)))))) m' lg' σ'):Gm P cx fz ops Rt nb (idx i (⟨dst,.binOp .sub t x y yt,ty,pos,af,g⟩ :: l)) lg σ m' lg' σ':=
 Gm.s hds (aRx) k G rfl hok
theorem Gm.mul {x y:Operand} {t yt:TypeId} {a b:Int} {q1 q2:Option LB} (hds:Fz σ false [x,y]=some [(.val (.int .i64 a),q1),(.val (.int .i64 b),q2)])  (G:Kr ops σ ⟨dst,.binOp .mul t x y yt,ty,pos,af,g⟩=some true)
  (hok:(Mc Rt i false (nb + 8 * i) [] [] lg && (Nat.beq (zM fz (nb + 8 * i)) 0 && P2 cx.np (.binOp .mul t x y yt) []))=true) (k:Gm P cx fz ops Rt nb (idx (i + 1) l) ((i,false,nb + 8 * i,[],[]) :: lg) (σ.app dst (v0 (.val (.int .i64 (W (a * b)))))) m' lg' σ'):Gm P cx fz ops Rt nb (idx i (⟨dst,.binOp .mul t x y yt,ty,pos,af,g⟩ :: l)) lg σ m' lg' σ':=
 Gm.s hds (aRm) k G rfl hok
theorem Gm.alloc {t:TypeId} {z:List Value} [Z:X1 P t z] (hds:Fz σ false []=some [])  (G:Kr ops σ ⟨dst,.alloc t,ty,pos,af,g⟩=some true)
  (hok:(Mc Rt i false (nb + 8 * i) [] [] lg && (Nat.beq (zM fz (nb + 8 * i)) 0 && P2 cx.np (.alloc t) []))=true) (k:Gm P cx fz ops Rt nb (idx (i + 1) l) ((i,false,nb + 8 * i,[],[]) :: lg) (σ.app dst (Rj (nb + 8 * i) (.box (z.map .val) t) (.ptr (nb + 8 * i) 0))) m' lg' σ'):Gm P cx fz ops Rt nb (idx i (⟨dst,.alloc t,ty,pos,af,g⟩ :: l)) lg σ m' lg' σ':=
 Gm.s hds (.alloc Z.h) k G rfl hok
theorem Gm.box {x:Operand} {t:TypeId} {d:DV} {q:Option LB} (hds:Fz σ false [x]=some [(d,q)]) (ho:(Do d).all eG=true) (G:Kr ops σ ⟨dst,.box t x,ty,pos,af,g⟩=some true)
  (hok:(Mc Rt i false (nb + 8 * i) [] [] lg && (Nat.beq (zM fz (nb + 8 * i)) 0 && P2 cx.np (.box t x) []))=true) (k:Gm P cx fz ops Rt nb (idx (i + 1) l) ((i,false,nb + 8 * i,[],[]) :: lg) (σ.app dst (Rj (nb + 8 * i) (.box (Do d) t) (.ptr (nb + 8 * i) 0))) m' lg' σ'):Gm P cx fz ops Rt nb (idx i (⟨dst,.box t x,ty,pos,af,g⟩ :: l)) lg σ m' lg' σ':=
 Gm.s hds (.box ho) k G rfl hok
theorem Gm.not {x:Operand} {t:TypeId} {b:Bool} {q:Option LB} (hds:Fz σ false [x]=some [(.val (.bool b),q)])  (G:Kr ops σ ⟨dst,.unOp .not t x,ty,pos,af,g⟩=some true)
  (hok:(Mc Rt i false (nb + 8 * i) [] [] lg && (Nat.beq (zM fz (nb + 8 * i)) 0 && P2 cx.np (.unOp .not t x) []))=true) (k:Gm P cx fz ops Rt nb (idx (i + 1) l) ((i,false,nb + 8 * i,[],[]) :: lg) (σ.app dst (v0 (.val (.bool (!b))))) m' lg' σ'):Gm P cx fz ops Rt nb (idx i (⟨dst,.unOp .not t x,ty,pos,af,g⟩ :: l)) lg σ m' lg' σ':=
 Gm.s hds (aQq) k G rfl hok
theorem Gm.lenS {α:Type} {f:α->List C} {L:List α} {x:Operand} {t e sz by_:Nat} {q:Option LB} [S:Xd P t e sz by_] (hds:Fz σ true [x]=some [(.sl sz (Ai f L),q)]) (E:P0 f sz) (G:Kr ops σ ⟨dst,.call ⟨.builtin .len,#[x],#[t]⟩,ty,pos,af,g⟩=some true)
  (hok:(Mc Rt i false (nb + 8 * i) [] [] lg && (Nat.beq (zM fz (nb + 8 * i)) 0 && P2 cx.np (.call ⟨.builtin .len,#[x],#[t]⟩) []))=true) (k:Gm P cx fz ops Rt nb (idx (i + 1) l) ((i,false,nb + 8 * i,[],[]) :: lg) (σ.app dst (v0 (.val (.int .i64 (L.length:Int))))) m' lg' σ'):Gm P cx fz ops Rt nb (idx i (⟨dst,.call ⟨.builtin .len,#[x],#[t]⟩,ty,pos,af,g⟩ :: l)) lg σ m' lg' σ':=
 Gm.s hds (aKr S.h E.h) k G rfl hok
theorem Gm.lenR {α:Type} {f:α->List C} {L:List α} {x:Operand} {t e e' sz by_ k:Nat} [S:Xd P t e sz by_] (hds:Fz σ true [x]=some [(.row k,some (.row e' sz (Ai f L)))]) (E:P0 f sz) (G:Kr ops σ ⟨dst,.call ⟨.builtin .len,#[x],#[t]⟩,ty,pos,af,g⟩=some true)
  (hok:(Mc Rt i false (nb + 8 * i) [k] [] lg && (Nat.beq (zM fz (nb + 8 * i)) 0 && P2 cx.np (.call ⟨.builtin .len,#[x],#[t]⟩) []))=true) (k:Gm P cx fz ops Rt nb (idx (i + 1) l) ((i,false,nb + 8 * i,[k],[]) :: lg) (σ.app dst (v0 (.val (.int .i64 (L.length:Int))))) m' lg' σ'):Gm P cx fz ops Rt nb (idx i (⟨dst,.call ⟨.builtin .len,#[x],#[t]⟩,ty,pos,af,g⟩ :: l)) lg σ m' lg' σ':=
 Gm.s hds (aNr S.h E.h) k G rfl hok
theorem Gm.idxS {α:Type} {f:α->List C} {L:List α} {a:α} {x y:Operand} {t e sz by_:Nat} {kk:IntKind} {n:Int} {q1 q2:Option LB} [S:Xd P t e sz by_] (hds:Fz σ true [x,y]=some [(.sl sz (Ai f L),q1),(.val (.int kk n),q2)]) (E:P0 f sz) (hx:Bm L n=some a) (G:Kr ops σ ⟨dst,.indexAddr t x y,ty,pos,af,g⟩=some true)
  (hok:(Mc Rt i false (nb + 8 * i) [] [] lg && (Nat.beq (zM fz (nb + 8 * i)) 0 && P2 cx.np (.indexAddr t x y) []))=true) (k:Gm P cx fz ops Rt nb (idx (i + 1) l) ((i,false,nb + 8 * i,[],[]) :: lg) (σ.app dst (v0 (.elt ((Ai f L).drop (n.toNat * sz))))) m' lg' σ'):Gm P cx fz ops Rt nb (idx i (⟨dst,.indexAddr t x y,ty,pos,af,g⟩ :: l)) lg σ m' lg' σ':=
 Gm.s hds (aFh S.h E.h (Tl hx) (D5 hx)) k G rfl hok
theorem Gm.idxR {α:Type} {f:α->List C} {L:List α} {a:α} {x y:Operand} {t e e' sz by_ k:Nat} {kk:IntKind} {n:Int} {q2:Option LB} [S:Xd P t e sz by_] (hds:Fz σ true [x,y]=some [(.row k,some (.row e' sz (Ai f L))),(.val (.int kk n),q2)]) (E:P0 f sz) (hx:Bm L n=some a) (G:Kr ops σ ⟨dst,.indexAddr t x y,ty,pos,af,g⟩=some true)
  (hok:(Mc Rt i false (nb + 8 * i) [k] [] lg && (Nat.beq (zM fz (nb + 8 * i)) 0 && P2 cx.np (.indexAddr t x y) []))=true) (k:Gm P cx fz ops Rt nb (idx (i + 1) l) ((i,false,nb + 8 * i,[k],[]) :: lg) (σ.app dst (v0 (.ptr k (n.toNat * sz)))) m' lg' σ'):Gm P cx fz ops Rt nb (idx i (⟨dst,.indexAddr t x y,ty,pos,af,g⟩ :: l)) lg σ m' lg' σ':=
 Gm.s hds (aFy S.h E.h (Tl hx) (D5 hx)) k G rfl hok
theorem Gm.nilP {x:Operand} {k j:Nat} {q:Option LB} (hds:Fz σ false [x]=some [(.ptr k j,q)])  (G:Kr ops σ ⟨dst,.nilCheck x,ty,pos,af,g⟩=some true)
  (hok:(Mc Rt i false (nb + 8 * i) [] [] lg && (Nat.beq (zM fz (nb + 8 * i)) 0 && P2 cx.np (.nilCheck x) []))=true) (k:Gm P cx fz ops Rt nb (idx (i + 1) l) ((i,false,nb + 8 * i,[],[]) :: lg) (σ.app dst (v0 (.ptr k j))) m' lg' σ'):Gm P cx fz ops Rt nb (idx i (⟨dst,.nilCheck x,ty,pos,af,g⟩ :: l)) lg σ m' lg' σ':=
 Gm.s hds (.nilP) k G rfl hok
theorem Gm.nilE {x:Operand} {cs:List C} {q:Option LB} (hds:Fz σ false [x]=some [(.elt cs,q)])  (G:Kr ops σ ⟨dst,.nilCheck x,ty,pos,af,g⟩=some true)
  (hok:(Mc Rt i false (nb + 8 * i) [] [] lg && (Nat.beq (zM fz (nb + 8 * i)) 0 && P2 cx.np (.nilCheck x) []))=true) (k:Gm P cx fz ops Rt nb (idx (i + 1) l) ((i,false,nb + 8 * i,[],[]) :: lg) (σ.app dst (v0 (.elt cs))) m' lg' σ'):Gm P cx fz ops Rt nb (idx i (⟨dst,.nilCheck x,ty,pos,af,g⟩ :: l)) lg σ m' lg' σ':=
 Gm.s hds (.nilE) k G rfl hok
theorem Gm.field1 {x:Operand} {s f off ft sz:Nat} {ds:List DV} {d:DV} {q:Option LB} [F:Lk P s f off ft] [T:Ot P ft false sz] (hds:Fz σ false [x]=some [(.agg ds,q)]) (hd:ds[off]?=some d) (G:Kr ops σ ⟨dst,.field s x f,ty,pos,af,g⟩=some true)
  (hok:(Mc Rt i false (nb + 8 * i) [] [] lg && (Nat.beq (zM fz (nb + 8 * i)) 0 && P2 cx.np (.field s x f) []))=true) (k:Gm P cx fz ops Rt nb (idx (i + 1) l) ((i,false,nb + 8 * i,[],[]) :: lg) (σ.app dst (v0 d)) m' lg' σ'):Gm P cx fz ops Rt nb (idx i (⟨dst,.field s x f,ty,pos,af,g⟩ :: l)) lg σ m' lg' σ':=
 Gm.s hds (.field1 F.h T.h hd) k G rfl hok
theorem Gm.fieldA {x:Operand} {s f off ft sz:Nat} {ds:List DV} {q:Option LB} [F:Lk P s f off ft] [T:Ot P ft true sz] (hds:Fz σ false [x]=some [(.agg ds,q)])  (G:Kr ops σ ⟨dst,.field s x f,ty,pos,af,g⟩=some true)
  (hok:(Mc Rt i false (nb + 8 * i) [] [] lg && (Nat.beq (zM fz (nb + 8 * i)) 0 && P2 cx.np (.field s x f) []))=true) (k:Gm P cx fz ops Rt nb (idx (i + 1) l) ((i,false,nb + 8 * i,[],[]) :: lg) (σ.app dst (v0 (.agg ((ds.drop off).take sz)))) m' lg' σ'):Gm P cx fz ops Rt nb (idx i (⟨dst,.field s x f,ty,pos,af,g⟩ :: l)) lg σ m' lg' σ':=
 Gm.s hds (.fieldA F.h T.h) k G rfl hok
theorem Gm.makeF {f:Nat} {first caps:Array Operand} {ds:List (DV×Option LB)} (hds:Fz σ false (Op.makeFunc (.func f) first caps).operands.toList=some ds)  (G:Kr ops σ ⟨dst,.makeFunc (.func f) first caps,ty,pos,af,g⟩=some true)
  (hok:(Mc Rt i false (nb + 8 * i) [] [] lg && (Nat.beq (zM fz (nb + 8 * i)) 0 && P2 cx.np (.makeFunc (.func f) first caps) []))=true) (k:Gm P cx fz ops Rt nb (idx (i + 1) l) ((i,false,nb + 8 * i,[],[]) :: lg) (σ.app dst (v0 (.clo f first.size (ds.map (·.1))))) m' lg' σ'):Gm P cx fz ops Rt nb (idx i (⟨dst,.makeFunc (.func f) first caps,ty,pos,af,g⟩ :: l)) lg σ m' lg' σ':=
 Gm.s hds (.makeFunc) k G rfl hok
theorem K1 {p:Prop} (h:p:=by first | with_reducible exact aQb | exact Mt rfl rfl (by first | with_reducible assumption | with_reducible rfl | with_reducible exact hQ (by with_reducible assumption) | with_reducible exact fG (by with_reducible assumption))):p:=h
theorem gm_ {p:Prop} (h:p:=by
  repeat first
   | (apply Gm.move; exact rfl; exact K1; exact rfl)
   | (apply Gm.assign; exact rfl; exact K1; exact rfl)
   | (apply Gm.fieldP; exact rfl; (exact rfl); exact K1; exact rfl)
   | (apply Gm.load1; exact rfl; (exact rfl); exact K1; exact rfl)
   | (apply Gm.loadA; exact rfl; (exact rfl); exact K1; exact rfl)
   | (apply Gm.pickF; exact rfl; (first | with_reducible assumption | with_reducible rfl | with_reducible exact hQ (by with_reducible assumption)); exact K1; exact rfl)
   | (apply Gm.pickT; exact rfl; (first | with_reducible assumption | with_reducible rfl | with_reducible exact fG (by with_reducible assumption)); exact K1; exact rfl)
   | (apply Gm.k; (first | exact aCr rfl rfl (by first | with_reducible assumption | with_reducible rfl | with_reducible exact hQ (by with_reducible assumption) | with_reducible exact fG (by with_reducible assumption)) | exact aCo rfl rfl (by first | with_reducible assumption | with_reducible rfl | with_reducible exact hQ (by with_reducible assumption) | with_reducible exact fG (by with_reducible assumption)) | exact aJu rfl rfl); exact rfl)
   | (apply Gm.storeB; exact rfl; (exact rfl); (exact rfl); (exact rfl); (focus repeat first | exact (rfl:_=[]) | (apply aLs; exact rfl)); (first | exact (rfl:_=[_]) | exact (rfl:_=[_,_]) | exact (rfl:_=[_,_,_])); exact K1; exact rfl)
   | (apply Gm.extract; exact rfl; (exact rfl); exact K1; exact rfl)
   | (apply Gm.lss; exact rfl; exact K1; exact rfl)
   | (apply Gm.eql; exact rfl; exact K1; exact rfl)
   | (apply Gm.gtr; exact rfl; exact K1; exact rfl)
   | (apply Gm.leq; exact rfl; exact K1; exact rfl)
   | (apply Gm.geq; exact rfl; exact K1; exact rfl)
   | (apply Gm.neq; exact rfl; exact K1; exact rfl)
   | (apply Gm.seql; exact rfl; exact K1; exact rfl)
   | (apply Gm.sneq; exact rfl; exact K1; exact rfl)
   | (apply Gm.add; exact rfl; exact K1; exact rfl)
   | (apply Gm.sub; exact rfl; exact K1; exact rfl)
   | (apply Gm.mul; exact rfl; exact K1; exact rfl)
   | (apply Gm.alloc; exact rfl; exact K1; exact rfl)
   | (apply Gm.box; exact rfl; (exact rfl); exact K1; exact rfl)
   | (apply Gm.not; exact rfl; exact K1; exact rfl)
   | (apply Gm.lenS; exact rfl; (exact inferInstance); exact K1; exact rfl)
   | (apply Gm.lenR; exact rfl; (exact inferInstance); exact K1; exact rfl)
   | (apply Gm.idxS; exact rfl; (exact inferInstance); (with_reducible assumption); exact K1; exact rfl)
   | (apply Gm.idxR; exact rfl; (exact inferInstance); (with_reducible assumption); exact K1; exact rfl)
   | (apply Gm.nilP; exact rfl; exact K1; exact rfl)
   | (apply Gm.nilE; exact rfl; exact K1; exact rfl)
   | (apply Gm.field1; exact rfl; (exact rfl); exact K1; exact rfl)
   | (apply Gm.fieldA; exact rfl; exact K1; exact rfl)
   | (apply Gm.makeF; exact rfl; exact K1; exact rfl)
  exact Gm.z):p:=h
theorem P9 {m:List (Nat×Oper)} (k:Chain (D9 P cx fz) ops Rt nb m' lg' σ' Q) (h:Gm P cx fz ops Rt nb m lg σ m' lg' σ':=by exact gm_):Chain (D9 P cx fz) ops Rt nb m lg σ Q:=h Q k
end
theorem bc_ {R:Type} {b:Bool} {X Y:Option R} {r:R} (G:cond b X Y=some r):(b=true/\X=some r)\/(b=false/\Y=some r):=by
 cases b with
 | true=>exact .inl ⟨rfl,G⟩
 | false=>exact .inr ⟨rfl,G⟩
section
variable {P:Program} {cx:Cx} {σ:St} {Q:Exit->St->Prop} {x y:Code}
theorem Kd {R:Type} {t:Nat} {b:Bool} {X Y:Option R} {r:R} (hc:σ.F t=some (.val (.bool b))) (G:cond b X Y=some r) (h1:b=true->X=some r->M1 P cx x Q σ) (h2:b=false->Y=some r->M1 P cx y Q σ):M1 P cx (.cond (.tmp t) x y) Q σ:=
 eO hc (fun h=>h1 h (aM0 h G)) fun h=>h2 h (aN0 h G)
theorem Cd {fl:List (Nat×DV)} {ll:List (Nat×LB)} {n:Nat} (θ:List (Nat×Nat))
  (hF:aGf σ (H9 θ) fl:=by
   repeat' first
    | exact trivial
    | refine⟨⟨_,rfl,?_⟩,?_⟩
    | exact Cv.val _
    | exact Cv.sl _ _
    | exact Cv.ptr rfl
    | exact Cv.row rfl
    | exact Cv.part rfl
    | exact Cv.nil rfl
    | exact Cv.nils _
    | exact Cv.elt _
    | exact Cv.mp _
    | refine Cv.clo _ _ ?_
    | refine Cv.agg ?_
    | refine Cv.tup ?_
    | refine Cv.clo _ _ ?_
    | exact Sz.nil
    | refine Sz.cons ?_ ?_
    | exact Cv.frzM rfl (H3 rfl)
    | exact Cv.frz rfl (H3 rfl)
   first | done | fail)
  (hL:oS σ (H9 θ) ll:=by
   repeat' first
    | exact trivial
    | refine⟨.inl ⟨_,_,rfl,rfl,⟨rfl,rfl,rfl⟩⟩,?_⟩
    | refine⟨.inl ⟨_,_,rfl,rfl,⟨⟨rfl,rfl,rfl⟩,?_⟩⟩,?_⟩
    | refine⟨.inl ⟨_,_,rfl,rfl,⟨rfl,?_⟩⟩,?_⟩
    | refine⟨.inr ⟨rfl,_,_,rfl⟩,?_⟩
    | exact Cv.val _
    | exact Cv.sl _ _
    | exact Cv.ptr rfl
    | exact Cv.row rfl
    | exact Cv.part rfl
    | exact Cv.nil rfl
    | exact Cv.nils _
    | exact Cv.elt _
    | exact Cv.mp _
    | refine Cv.clo _ _ ?_
    | refine Cv.agg ?_
    | exact Sz.nil
    | refine Sz.cons ?_ ?_
    | exact Cv.frzM rfl (H3 rfl)
    | exact Cv.frz rfl (H3 rfl)
   first | done | fail)
  (hc:oE fl ll n θ=true:=by rfl) (hp:kQ θ n cx.np=true:=by rfl):Rr cx σ (mk fl ll n):=Rr.lists θ hc hp hF hL
theorem He {S R:Type} {body:S->Option (Lp S R)} {s0:S} {r:R} (st:S->St) (G:Bz body s0=some r) (h0:Rr cx σ (st s0)) (round:∀ (s:S) (m:Nat) (o:Lp S R),body s=some o->R4 (Q6 body m) o=some r->M1 P cx x (thn (fun σ'=>∃ j:S×Nat,j.2 < m + 1/\Q6 body j.2 j.1=some r/\Rr cx σ' (st j.1)) Q) (st s)):M1 P cx (.loop x) Q σ:=by
 obtain⟨n,G⟩:=Wf G
 refine sW (ι:=S×Nat) (fun q=>st q.1) (fun q=>Q6 body q.2 q.1=some r) (fun q=>q.2) (s0,n) h0 G ?_
 rintro⟨s,k⟩ hk
 obtain⟨m,o,rfl,h1,h2⟩:=aAq (show Q6 body k s=some r from hk)
 exact round s m o h1 h2
theorem Sb {fn:Func} {np:Nat} {R:DV->List LB->Prop} {ds:List DV} {r:DV} {bx:List LB} (θ:List (Nat×Nat)) (hR:R r bx)
  (h1:Up P σ fn.results.toList ds:=by
   repeat first
    | exact Up.nil
    | (apply Up.cons; exact .tmp rfl)
    | (apply Up.cons; exact .cell1 rfl rfl Ot.h rfl)
    | (apply Up.cons; exact .cellA rfl rfl Ot.h rfl))
  (h2:Cv σ (H9 θ) (aF0 ds) r:=by
   repeat' first
    | exact Cv.val _
    | exact Cv.sl _ _
    | exact Cv.ptr rfl
    | exact Cv.row rfl
    | exact Cv.nil rfl
    | exact Cv.nils _
    | exact Cv.elt _
    | exact Cv.mp _
    | refine Cv.clo _ _ ?_
    | refine Cv.agg ?_
    | refine Cv.tup ?_
    | exact Sz.nil
    | refine Sz.cons ?_ ?_
    | exact Cv.frzM rfl (H3 rfl)
    | exact Cv.frz rfl (H3 rfl)
   first | done | fail)
  (h3:oS σ (H9 θ) (ix 0 bx):=by
   repeat' first
    | exact trivial
    | refine⟨.inl ⟨_,_,rfl,rfl,⟨rfl,rfl,rfl⟩⟩,?_⟩
    | refine⟨.inl ⟨_,_,rfl,rfl,⟨⟨rfl,rfl,rfl⟩,?_⟩⟩,?_⟩
    | refine⟨.inl ⟨_,_,rfl,rfl,⟨rfl,?_⟩⟩,?_⟩
    | refine⟨.inr ⟨rfl,_,_,rfl⟩,?_⟩
    | exact Cv.val _
    | exact Cv.sl _ _
    | exact Cv.ptr rfl
    | exact Cv.row rfl
    | exact Cv.nil rfl
    | exact Cv.nils _
    | exact Cv.elt _
    | exact Cv.mp _
    | refine Cv.clo _ _ ?_
    | refine Cv.agg ?_
    | exact Sz.nil
    | refine Sz.cons ?_ ?_
    | exact Cv.frzM rfl (H3 rfl)
    | exact Cv.frz rfl (H3 rfl)
   first | done | fail)
  (h4:oE [(0,r)] (ix 0 bx) bx.length θ=true:=by rfl) (h5:kQ θ bx.length np=true:=by rfl) (h6:Nat.ble np bx.length=true:=by rfl) (h7:Nat.ble bx.length (np + 8)=true:=by rfl):Fin P fn np R σ:=
 ⟨ds,r,bx,θ,h1,hR,h2,h3,h4,h5,h6,h7⟩
end
section
variable {P:Program} {cx:Cx} {ops:Array Oper} {Rt:Option (List Nat)} {nb i:Nat} {l:List Oper} {lg:oP} {σ:St} {Q:St->Prop} {fz:List Nat}
theorem L9 {dst:Option Tmp} {f:FuncId} {xs:Array Operand} {tys:Array TypeId} {ty:TypeId} {pos:String} {af:Array Edge} {g:Option (Nat×Bool)} {dsA:List (DV×Option LB)} {args:List DV} {d:DV}
  (hF:Fn P f 0 args [] (fun d' b'=>d'=d/\b'=[]))
  (k:Chain (D9 P cx fz) ops Rt nb (idx (i + 1) l) ((i,true,nb + 8 * i,[],[]) :: lg) (σ.app dst (eP [] [] d [])) Q)
  (hds:Fz σ true xs.toList=some dsA:=by rfl)
  (hA:K0 false ([] ++ []) (Jc σ []) (dsA.map (·.1)) args:=by
   repeat' first
    | exact K0.nil
    | exact Ag.val
    | exact Ag.sl
    | exact Ag.nils
    | exact Ag.elt
    | exact Ag.fn
    | refine Ag.agg ?_
    | refine Ag.clo ?_
    | refine K0.cons ?_ ?_
   first | done | fail)
  (G:Kr ops σ ⟨dst,.call ⟨.value (.func f),xs,tys⟩,ty,pos,af,g⟩=some true:=by exact K1)
  (hrd:Qe σ 3 (Rm dsA)=[]:=by rfl) (hok:Mc Rt i true (nb + 8 * i) [] [] lg=true:=by rfl) (hr:Me d=[]:=by rfl) :
  Chain (D9 P cx fz) ops Rt nb (idx i (⟨dst,.call ⟨.value (.func f),xs,tys⟩,ty,pos,af,g⟩ :: l)) lg σ Q:=
 gD (ps:=[]) (gs:=[]) (rd:=[]) (bx:=[]) (b:=[]) false G hF hds hrd hA rfl rfl (fun h=>by cases h) hok hr rfl rfl k
theorem R9 {dst:Option Tmp} {f:FuncId} {xs:Array Operand} {tys:Array TypeId} {ty:TypeId} {pos:String} {af:Array Edge} {g:Option (Nat×Bool)} {dsA:List (DV×Option LB)} {args:List DV} {bx:List LB} {d:DV} {b:List LB} (rd ps gs:List Nat) (fl:Bool)
  (hF:Fn P f ps.length args bx (fun d' b'=>d'=d/\b'=b))
  (k:Chain (D9 P cx fz) ops Rt nb (idx (i + 1) l) ((i,true,nb + 8 * i,rd,ps ++ gs) :: lg) (σ.app dst (eP ps gs d b)) Q)
  (hds:Fz σ true xs.toList=some dsA:=by rfl)
  (hA:K0 fl (ps ++ gs) (Jc σ rd) (dsA.map (·.1)) args:=by
   repeat' first
    | exact K0.nil
    | exact Ag.val
    | exact Ag.sl
    | exact Ag.nils
    | exact Ag.elt
    | exact Ag.fn
    | exact Ag.ptr rfl
    | exact Ag.rowK rfl
    | exact Ag.row rfl (by repeat first | exact List.Mem.head _ | refine List.Mem.tail _ ?_) rfl
    | refine Ag.agg ?_
    | refine Ag.clo ?_
    | refine K0.cons ?_ ?_
   first | done | fail)
  (hB:X8 fl (ps ++ gs) (Jc σ rd) (ps ++ gs) bx:=by
   repeat' first
    | exact (rfl:_=[])
    | refine⟨_,_,_,rfl,(.head _),⟨_,rfl,?_⟩,?_⟩
    | refine⟨_,_,_,rfl,(.tail _ (.head _)),⟨_,rfl,?_⟩,?_⟩
    | refine⟨_,_,_,rfl,(.tail _ (.tail _ (.head _))),⟨_,rfl,?_⟩,?_⟩
    | refine⟨_,_,_,rfl,(.tail _ (.tail _ (.tail _ (.head _)))),⟨_,rfl,?_⟩,?_⟩
    | refine⟨_,_,_,rfl,(.tail _ (.tail _ (.tail _ (.tail _ (.head _))))),⟨_,rfl,?_⟩,?_⟩
    | refine⟨_,_,_,rfl,(.tail _ (.tail _ (.tail _ (.tail _ (.tail _ (.head _)))))),⟨_,rfl,?_⟩,?_⟩
    | refine⟨_,_,_,rfl,(.tail _ (.tail _ (.tail _ (.tail _ (.tail _ (.tail _ (.head _))))))),⟨_,rfl,?_⟩,?_⟩
    | refine⟨_,_,_,rfl,(.head _),rfl,?_⟩
    | refine⟨_,_,_,rfl,(.tail _ (.head _)),rfl,?_⟩
    | refine⟨_,_,_,rfl,(.tail _ (.tail _ (.head _))),rfl,?_⟩
    | refine⟨_,_,_,rfl,(.tail _ (.tail _ (.tail _ (.head _)))),rfl,?_⟩
    | refine⟨_,_,_,rfl,(.tail _ (.tail _ (.tail _ (.tail _ (.head _))))),rfl,?_⟩
    | refine⟨_,_,_,rfl,(.tail _ (.tail _ (.tail _ (.tail _ (.tail _ (.head _)))))),rfl,?_⟩
    | refine⟨_,_,_,rfl,(.tail _ (.tail _ (.tail _ (.tail _ (.tail _ (.tail _ (.head _))))))),rfl,?_⟩
    | exact K0.nil
    | exact Ag.val
    | exact Ag.sl
    | exact Ag.nils
    | exact Ag.elt
    | exact Ag.ptr rfl
    | refine K0.cons ?_ ?_
   first | done | fail)
  (G:Kr ops σ ⟨dst,.call ⟨.value (.func f),xs,tys⟩,ty,pos,af,g⟩=some true:=by exact K1)
  (hrd:Qe σ 3 (Rm dsA)=rd:=by rfl) (hnd:N1 cx.np ps gs=true:=by rfl) (hfl:fl=true->Kg d/\∀ lb∈b,N4 lb:=by first | (intro h; cases h; done) | exact fun _=>⟨by simp [Kg,Nk],by simp [N4,Nk,Kg]⟩)
  (hok:Mc Rt i true (nb + 8 * i) rd (ps ++ gs) lg=true:=by rfl) (hr:Me d=[]:=by rfl) (hl:b.length=ps.length:=by rfl) (hb:b.flatMap rD=[]:=by rfl) :
  Chain (D9 P cx fz) ops Rt nb (idx i (⟨dst,.call ⟨.value (.func f),xs,tys⟩,ty,pos,af,g⟩ :: l)) lg σ Q:=
 gD fl G hF hds hrd hA hB hnd hfl hok hr hl hb k
end
theorem t2_ {p:Prop} (h:p:=by obtain rfl:=oi_ G; exact Sb [] ⟨rfl,rfl⟩):p:=h
theorem t5_ {p:Prop} (h:p:=by refine P9 ?_; refine qK fun B=>?_; refine aCd ?_; obtain rfl:=oi_ G; exact Sb [] ⟨rfl,rfl⟩):p:=h
theorem Ut {p q:Prop} (k:q) (h:q->p:=by intro k; refine P9 ?_; refine qK ?_; exact k):p:=h k
theorem rp_ {p q:Prop} (k:q) (h:q->p:=by intro k; (repeat first | refine st_ ?_ | refine sn_ ?_); exact k):p:=h k
theorem nl_ {p:Prop} (h:p:=by (repeat first | exact (rfl:_=[]) | (apply aLs; exact rfl)); first | done | fail):p:=h
theorem dc_ {p:Prop} (h:p:=by (repeat first | exact M2.nil | (apply M2.cons; first | exact kC.int | exact kC.bool | exact kC.str | exact kC.sl | exact kC.nil)); first | done | fail):p:=h
theorem t3_ {p:Prop} (h:p:=by refine aCd ?_; obtain rfl:=oi_ G; exact Sb [] ⟨rfl,rfl⟩):p:=h
theorem sk_ {p q:Prop} (k:q) (h:q->p:=by intro k; refine aDm ?_; (repeat first | refine st_ ?_ | refine sn_ ?_); exact k):p:=h k
theorem ex_ {p q:Prop} (k:q) (h:q->p:=by intro k; refine aDy ?_; (repeat first | refine st_ ?_ | refine sn_ ?_); exact k):p:=h k
class FlC {α:Type} (f:α->List C):Prop where
 h:∀ x,∀ c∈f x,yI c=true
theorem zC {α:Type} {f:α->List C} [F:FlC f] {e s:Nat} {l:List α}:N4 (.row e s (Ai f l)):=fun c hc=>by
 unfold Ai at hc
 obtain⟨x,-,h⟩:=List.mem_flatMap.1 hc
 exact F.h x c h
instance:FlC eI:=⟨fun x c hc=>by rw [aF4.1 hc]; rfl⟩
theorem fb_ {p:Prop} (h:p:=by first | (simp [N4,Nk,Kg]; done) | (repeat' first | exact zC | refine List.forall_mem_cons.2 ⟨?_,?_⟩ | exact (fun _ h=>nomatch h) | simp [N4,Nk,Kg])):p:=h
theorem rE {α:Type} {l l':List α} (h:l.length=l'.length):El l 0 l'=l':=by
 unfold El
 rw [List.take_zero,aSw,aR3,<- h,List.drop_length,aVv]
section
variable {P:Program} {cx:Cx} {ops:Array Oper} {Rt:Option (List Nat)} {nb i:Nat} {l:List Oper} {lg:oP} {σ:St} {Q:St->Prop} {fz:List Nat} {α:Type} {f:α->List C} {L:List α} {a:α} {n:Int} {m:Nat} {t:TypeId} {x y:Operand} {dst:Option Tmp} {ty:TypeId} {pos:String} {af:Array Edge} {g:Option (Nat×Bool)}
theorem lE_ (he:Bm L n=some a) {b1:Option LB} {cs:List C} (k:Chain (D9 P cx fz) ops Rt nb (idx (i + 1) l) ((i,false,nb + 8 * i,[],[]) :: lg) (σ.app dst (v0 (.agg (cs.map V2)))) Q) [T:Ot P t true m]
  (hds:Fz σ true [x]=some [(.elt ((Ai f L).drop (n.toNat * m)),b1)]:=by exact rfl) (E:P0 f m:=by exact inferInstance) (hc:f a=cs:=by exact nl_) (G:Kr ops σ ⟨dst,.load t x,ty,pos,af,g⟩=some true:=by exact K1)
  (hok:Mc Rt i false (nb + 8 * i) [] [] lg=true:=by exact rfl) (hz:zM fz (nb + 8 * i)=0:=by exact rfl) (hap:P2 cx.np (.load t x) []=true:=by exact rfl):Chain (D9 P cx fz) ops Rt nb (idx i (⟨dst,.load t x,ty,pos,af,g⟩ :: l)) lg σ Q:=
 F0 G hds (I2 T.h (Jj E.h (D5 he) (o:=0) (m:=m) (by rw [bBe,aJ0 (by rw [E.h]; exact aJf _)]; exact hc) (by omega) rfl) (Ga E.h (D5 he) (o:=0) (m:=m) (by omega) rfl)) rfl hok k hz hap
theorem l1_ (he:Bm L n=some a) {b1:Option LB} {c:C} {sz:Nat} (k:Chain (D9 P cx fz) ops Rt nb (idx (i + 1) l) ((i,false,nb + 8 * i,[],[]) :: lg) (σ.app dst (v0 (V2 c))) Q) [T:Ot P t false sz]
  (hds:Fz σ true [x]=some [(.elt ((Ai f L).drop (n.toNat * 1)),b1)]:=by exact rfl) (E:P0 f 1:=by exact inferInstance) (hc:f a=[c]:=by exact rfl) (G:Kr ops σ ⟨dst,.load t x,ty,pos,af,g⟩=some true:=by exact K1)
  (hok:Mc Rt i false (nb + 8 * i) [] [] lg=true:=by exact rfl) (hz:zM fz (nb + 8 * i)=0:=by exact rfl) (hap:P2 cx.np (.load t x) []=true:=by exact rfl):Chain (D9 P cx fz) ops Rt nb (idx i (⟨dst,.load t x,ty,pos,af,g⟩ :: l)) lg σ Q:=
 F0 G hds (Gq T.h (Pu E.h (D5 he) (o:=0) (by rw [hc]; rfl) rfl)) rfl hok k hz hap
theorem lR_ (he:Bm L n=some a) {kr e':Nat} {cs:List C} (k:Chain (D9 P cx fz) ops Rt nb (idx (i + 1) l) ((i,false,nb + 8 * i,[kr],[]) :: lg) (σ.app dst (v0 (.agg (cs.map V2)))) Q) [T:Ot P t true m]
  (hds:Fz σ true [x]=some [(.ptr kr (n.toNat * m),some (.row e' m (Ai f L)))]:=by exact rfl) (E:P0 f m:=by exact inferInstance) (hc:f a=cs:=by exact nl_) (G:Kr ops σ ⟨dst,.load t x,ty,pos,af,g⟩=some true:=by exact K1)
  (hok:Mc Rt i false (nb + 8 * i) [kr] [] lg=true:=by exact rfl) (hz:zM fz (nb + 8 * i)=0:=by exact rfl) (hap:P2 cx.np (.load t x) []=true:=by exact rfl):Chain (D9 P cx fz) ops Rt nb (idx i (⟨dst,.load t x,ty,pos,af,g⟩ :: l)) lg σ Q:=
 Sk (rd:=[kr]) G hds (aBq T.h (Jj E.h (D5 he) (o:=0) (m:=m) (by rw [bBe,aJ0 (by rw [E.h]; exact aJf _)]; exact hc) (by omega) rfl) (Ga E.h (D5 he) (o:=0) (m:=m) (by omega) rfl)) rfl hok k hz hap
theorem X7 {ck:List (Option Nat)} (hk:Kx P 20 t=ck) (he:Bm L n=some a) {x':α} {d:DV} {b2:Option LB} {kr e':Nat} {cs':List C} {ag:Bool} {rd:List Nat} (k:Chain (D9 P cx fz) ops Rt nb (idx (i + 1) l) ((i,false,nb + 8 * i,rd,[kr]) :: lg) (σ.app dst (P1 kr (.row e' m (Ai f (Ex L n.toNat x'))))) Q) [T:Ot P t ag m]
  (hds:Fz σ true [x,y]=some [(.ptr kr (n.toNat * m),some (.row e' m (Ai f L))),(d,b2)]:=by exact rfl) (E:P0 f m:=by exact inferInstance) (hx:f x'=cs':=by exact nl_) (hd:M2 ck (Do d) cs':=by exact dc_) (hs:(Do d).length=m:=by exact rfl)
  (hr:Mw false [(DV.ptr kr (n.toNat * m),some (LB.row e' m (Ai f L))),(d,b2)]=rd:=by first | exact (rfl:_=[_]) | exact (rfl:_=[_,_]) | exact (rfl:_=[_,_,_])) (G:Kr ops σ ⟨dst,.store t x y,ty,pos,af,g⟩=some true:=by exact K1)
  (hok:Mc Rt i false (nb + 8 * i) rd [kr] lg=true:=by exact rfl) (hz:zM fz (nb + 8 * i)=0:=by exact rfl) (hap:P2 cx.np (.store t x y) [kr]=true:=by exact rfl):Chain (D9 P cx fz) ops Rt nb (idx i (⟨dst,.store t x y,ty,pos,af,g⟩ :: l)) lg σ Q:=
 Sk G hds (Yi T.h hs (Ga E.h (D5 he) (o:=0) (m:=m) (by omega) rfl) hk hd (T9 E.h (D5 he) (o:=0) (x':=x') (by rw [<- hx,E.h]; omega) (by rw [<- hx]; exact rE (by rw [E.h,E.h])) rfl)) hr hok k hz hap
theorem Iz {e sz bytes len:Nat} {parts:Array (Nat×Operand)} {ds:List (DV×Option LB)} {z:List Value} {cs:List C} {ck:List (Option Nat)} (hS:Iy P t e sz bytes) (hz:Zt P e z) (hk:Kx P 20 e=ck) (lv:List α) (fv:α->List C) (k:Chain (D9 P cx fz) ops Rt nb (idx (i + 1) l) ((i,false,nb + 8 * i,[],[]) :: lg) (σ.app dst (Rj (nb + 8 * i) (.row e sz (Ai fv lv)) (.row (nb + 8 * i)))) Q)
  (hds:Fz σ false (Op.buildSlice t len parts).operands.toList=some ds:=by exact rfl) (hc:M2 (List.replicate len ck).flatten (ds.flatMap fun q=>Do q.1) cs:=by exact dc_) (h:Ai fv lv=cs:=by exact rfl) (hlen:Nat.ble (len * sz) 16777216=true:=by exact rfl) (hp:parts.toList.map (·.1)=List.range' 0 len:=by exact rfl) (hzl:z.length=sz:=by exact rfl) (hn:ds.length=len:=by exact rfl)
  (hs:ds.all (fun q=>Nat.beq (Do q.1).length sz)=true:=by exact rfl) (ho:ds.all (fun q=>(Do q.1).all eG)=true:=by exact rfl) (G:Kr ops σ ⟨dst,.buildSlice t len parts,ty,pos,af,g⟩=some true:=by exact K1)
  (hok:Mc Rt i false (nb + 8 * i) [] [] lg=true:=by exact rfl) (hz':zM fz (nb + 8 * i)=0:=by exact rfl) (hap:P2 cx.np (.buildSlice t len parts) []=true:=by exact rfl):Chain (D9 P cx fz) ops Rt nb (idx i (⟨dst,.buildSlice t len parts,ty,pos,af,g⟩ :: l)) lg σ Q:=
 F0 G hds (D0 hS hz (aEi hlen) hp hzl hn hs hk hc ho h) rfl hok k hz' hap
theorem Rk {e sz bytes len:Nat} {parts:Array (Nat×Operand)} {ds:List (DV×Option LB)} {z:List Value} {cs:List C} {ck:List (Option Nat)} (hS:Iy P t e sz bytes) (hz:Zt P e z) (hk:Kx P 20 e=ck) (lv:List α) (fv:α->List C) (k:Chain (D9 P cx fz) ops Rt nb (idx (i + 1) l) ((i,false,nb + 8 * i,[],[]) :: lg) (σ.app dst (hO sz (Ai fv lv) [])) Q)
  (hds:Fz σ false (Op.buildSlice t len parts).operands.toList=some ds:=by exact rfl) (hc:M2 (List.replicate len ck).flatten (ds.flatMap fun q=>Do q.1) cs:=by exact dc_) (h:Ai fv lv=cs:=by exact rfl) (hlen:Nat.ble (len * sz) 16777216=true:=by exact rfl) (hp:parts.toList.map (·.1)=List.range' 0 len:=by exact rfl) (hzl:z.length=sz:=by exact rfl) (hn:ds.length=len:=by exact rfl)
  (hs:ds.all (fun q=>Nat.beq (Do q.1).length sz)=true:=by exact rfl) (ho:ds.all (fun q=>(Do q.1).all eG)=true:=by exact rfl) (G:Kr ops σ ⟨dst,.buildSlice t len parts,ty,pos,af,g⟩=some true:=by exact K1)
  (hok:Mc Rt i false (nb + 8 * i) [] [] lg=true:=by exact rfl) (hz':zM fz (nb + 8 * i)=1:=by exact rfl) (hap:P2 cx.np (.buildSlice t len parts) []=true:=by exact rfl):Chain (D9 P cx fz) ops Rt nb (idx i (⟨dst,.buildSlice t len parts,ty,pos,af,g⟩ :: l)) lg σ Q:=
 wA (rd:=[]) G hds (D0 hS hz (aEi hlen) hp hzl hn hs hk hc ho h) rfl rfl hok k hz' hap
theorem M6 {fields:_} {places:List (Nat×Nat)} {z:List Value} {r0 r:List DV} {parts:Array (Nat×Operand)} {ds:List (DV×Option LB)} (hu:P.underlying t=some (.struct fields)) (hp:fields.toList.map (fun f=>(P.info? f.type).map fun i=>(f.offset,i.size))=places.map some) (hz:Zt P t z) (k:Chain (D9 P cx fz) ops Rt nb (idx (i + 1) l) ((i,false,nb + 8 * i,[],[]) :: lg) (σ.app dst (v0 (.agg r))) Q)
  (hds:Fz σ false (Op.build t parts).operands.toList=some ds:=by exact rfl) (hd:Jd (fun i=>places[i]?) (z.map .val) ((parts.toList.map (·.1)).zip (ds.map (·.1)))=some r0:=by exact rfl) (hr:r0=r:=by exact nl_) (ho:ds.all (fun q=>(Do q.1).all eG)=true:=by exact rfl) (G:Kr ops σ ⟨dst,.build t parts,ty,pos,af,g⟩=some true:=by exact K1)
  (hok:Mc Rt i false (nb + 8 * i) [] [] lg=true:=by exact rfl) (hz':zM fz (nb + 8 * i)=0:=by exact rfl) (hap:P2 cx.np (.build t parts) []=true:=by exact rfl):Chain (D9 P cx fz) ops Rt nb (idx i (⟨dst,.build t parts,ty,pos,af,g⟩ :: l)) lg σ Q:=
 F0 G hds (.build hu hp hz (hr ▸ hd) ho) rfl hok k hz' hap
end
theorem eE {P:Program} {cx:Cx} {id:Nat} {l:List Oper} {σ:St} {y:Code} {Q:Exit->St->Prop} (nb nb':Nat) (B:∀ k,nb<=k->σ.U k=false) {j:Nat} {lg':oP} {σ':St} {q:Prop} (k:(∀ j,nb'<=j->σ'.U j=false)->q)
  (h:Gm P cx [] l.toArray none nb (idx 0 l) [] σ (idx j []) lg' σ':=by exact gm_) (s:aAv (thn (M1 P cx y Q) Q .normal σ') q:=by exact inferInstance) (hn:Nat.ble (nb + 8 * l.length) nb'=true:=by rfl) (hd:nE cx.N l=true:=by rfl):M1 P cx (.seq (.region id l.toArray false) y) Q σ:=
 jF nb nb' B (h _ (qK k)) hn hd
end Go.Proofs.YtobamahlipiakaaGreat
