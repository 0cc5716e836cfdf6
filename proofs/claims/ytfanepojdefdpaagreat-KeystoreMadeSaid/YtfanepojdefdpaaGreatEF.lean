import Derived.Test.YtfanepojdefdpaaGreatEE
set_option linter.unusedVariables false
set_option linter.unusedSimpArgs false
namespace Go.Proofs.YtfanepojdefdpaaGreat
open Go.RowKit
abbrev vj (x:Int):DV:=.val (.int .i64 x)
abbrev vk (x:ByteArray):DV:=.val (.string x)
class Sc (P:Program) (t:TypeId) (ag:outParam Bool) (sz:outParam Nat):Prop where
 h:Ty P t ag sz
class Nb (P:Program) (s:TypeId) (f:Nat) (off:outParam Nat) (ft:outParam TypeId):Prop where
 h:Fd P s f off ft
class gS (P:Program) (t:TypeId) (e sz bytes:outParam Nat):Prop where
 h:Ht P t e sz bytes
class Z8 (P:Program) (t:TypeId) (z:outParam (List Value)):Prop where
 h:Zt P t z
class Xo {α:Type} (f:α->List C) (sz:outParam Nat):Prop where
 h:∀ x,(f x).length=sz
instance:Xo eI 1:=⟨La⟩
instance {k:IntKind}:Xo (eK k) 1:=⟨pX k⟩
instance:Xo e8 1:=⟨D7⟩
instance:Xo eS 1:=⟨Gz⟩
instance:Xo eB 1:=⟨qI⟩
instance {α:Type} {sz:Nat} {f:α->List C}:Xo (eL sz f) 1:=⟨nY sz f⟩
section
variable {P:Program} {cx:Cx} {ops:Array Oper} {Rt:Option (List Nat)} {nb i:Nat} {l:List Oper} {lg lg':aK} {σ σ':St} {Q:St->Prop} {fz:List Nat} {m':List (Nat×Oper)}
def Gm (P:Program) (cx:Cx) (fz:List Nat) (ops:Array Oper) (Rt:Option (List Nat)) (nb:Nat) (m:List (Nat×Oper)) (lg:aK) (σ:St) (m':List (Nat×Oper)) (lg':aK) (σ':St):Prop:=∀ Q,Chain (Bp P cx fz) ops Rt nb m' lg' σ' Q->Chain (Bp P cx fz) ops Rt nb m lg σ Q
theorem Gm.z {m:List (Nat×Oper)}:Gm P cx fz ops Rt nb m lg σ m lg σ:=fun _ h=>h
theorem Gm.s {dst:Option Tmp} {op:Op} {ty:TypeId} {pos:String} {af:Array Edge} {g:Option (Nat×Bool)} {ds:List (DV×Option LB)} {rd wr:List Nat} {e:I0} (hds:Dx σ (Hj op) op.operands.toList=some ds) (h:Ex P (nb + 8 * i) op ty ds wr e)
  (k:Gm P cx fz ops Rt nb (Ea (i + 1) l) ((i,false,nb + 8 * i,rd,wr) :: lg) (σ.app dst e) m' lg' σ') (D:H8 ops σ ⟨dst,op,ty,pos,af,g⟩=some true) (hrd:(bif Hj op then H5 (Ip op) ds else [])=rd)
  (hok:(Iy Rt i false (nb + 8 * i) rd wr lg && (Nat.beq (zM fz (nb + 8 * i)) 0 && L9 cx.np op wr))=true) :
  Gm P cx fz ops Rt nb (Ea i (⟨dst,op,ty,pos,af,g⟩ :: l)) lg σ m' lg' σ':=fun Q hq=>by
 simp only [vN] at hok
 exact Ed D hds h hrd hok.1 (k Q hq) (vS hok.2.1) hok.2.2
theorem Gm.k {dst:Option Tmp} {op:Op} {ty:TypeId} {pos:String} {af:Array Edge} {g:Nat×Bool} (D:H8 ops σ ⟨dst,op,ty,pos,af,some g⟩=some false)
  (hok:Iy Rt i false (nb + 8 * i) [] [] lg=true) (k:Gm P cx fz ops Rt nb (Ea (i + 1) l) ((i,false,nb + 8 * i,[],[]) :: lg) (σ.app dst aJ) m' lg' σ') :
  Gm P cx fz ops Rt nb (Ea i (⟨dst,op,ty,pos,af,some g⟩ :: l)) lg σ m' lg' σ':=fun Q hq=>kE D hok (k Q hq)
theorem tC {dst:Option Tmp} {op:Op} {ty:TypeId} {pos:String} {af:Array Edge}:H8 ops σ ⟨dst,op,ty,pos,af,none⟩=some true:=rfl
theorem qZ {dst:Option Tmp} {op:Op} {ty:TypeId} {pos:String} {af:Array Edge} {g:Nat} {c:Bool} {t:Tmp} (ht:(ops[g]?).bind (·.dst)=some t) (hF:σ.F t=some (.val (.bool c))) (hc:c=false):H8 ops σ ⟨dst,op,ty,pos,af,some (g,true)⟩=some false:=mL ht hF hc
theorem nW {dst:Option Tmp} {op:Op} {ty:TypeId} {pos:String} {af:Array Edge} {g:Nat} {c:Bool} {t:Tmp} (ht:(ops[g]?).bind (·.dst)=some t) (hF:σ.F t=some (.val (.bool c))) (hc:c=true):H8 ops σ ⟨dst,op,ty,pos,af,some (g,false)⟩=some false:=mL ht hF hc
theorem rR {dst:Option Tmp} {op:Op} {ty:TypeId} {pos:String} {af:Array Edge} {g:Nat} {b:Bool} {t:Tmp} (ht:(ops[g]?).bind (·.dst)=some t) (hF:σ.F t=some (.val undef)):H8 ops σ ⟨dst,op,ty,pos,af,some (g,b)⟩=some false:=by
 unfold H8
 simp only []
 rw [ht]
 simp only []
 rw [hF]
 rfl
theorem uQ {α:Type} {l t t':List α} {x:α} (h:l=x :: t) (k:t=t'):l=x :: t':=by rw [h,k]
variable {dst:Option Tmp} {ty:TypeId} {pos:String} {af:Array Edge} {g:Option (Nat×Bool)}
theorem Gm.move {x:Operand} {d:DV} {q:Option LB} (hds:Dx σ false [x]=some [(d,q)])  (D:H8 ops σ ⟨dst,.move x,ty,pos,af,g⟩=some true)
  (hok:(Iy Rt i false (nb + 8 * i) [] [] lg && (Nat.beq (zM fz (nb + 8 * i)) 0 && L9 cx.np (.move x) []))=true) (k:Gm P cx fz ops Rt nb (Ea (i + 1) l) ((i,false,nb + 8 * i,[],[]) :: lg) (σ.app dst (v0 d)) m' lg' σ'):Gm P cx fz ops Rt nb (Ea i (⟨dst,.move x,ty,pos,af,g⟩ :: l)) lg σ m' lg' σ':=
 Gm.s hds (.move) k D rfl hok
theorem Gm.assign {x:Operand} {d:DV} {q:Option LB} (hds:Dx σ false [x]=some [(d,q)])  (D:H8 ops σ ⟨dst,.assign x,ty,pos,af,g⟩=some true)
  (hok:(Iy Rt i false (nb + 8 * i) [] [] lg && (Nat.beq (zM fz (nb + 8 * i)) 0 && L9 cx.np (.assign x) []))=true) (k:Gm P cx fz ops Rt nb (Ea (i + 1) l) ((i,false,nb + 8 * i,[],[]) :: lg) (σ.app dst (v0 d)) m' lg' σ'):Gm P cx fz ops Rt nb (Ea i (⟨dst,.assign x,ty,pos,af,g⟩ :: l)) lg σ m' lg' σ':=
 Gm.s hds (.assign) k D rfl hok
theorem Gm.fieldP {x:Operand} {s f k j off ft sz:Nat} {ag:Bool} {q:Option LB} [F:Nb P s f off ft] [T:Sc P ft ag sz] (hds:Dx σ false [x]=some [(.ptr k j,q)]) (hz0:Nat.blt 0 sz=true) (D:H8 ops σ ⟨dst,.fieldAddr s x f,ty,pos,af,g⟩=some true)
  (hok:(Iy Rt i false (nb + 8 * i) [] [] lg && (Nat.beq (zM fz (nb + 8 * i)) 0 && L9 cx.np (.fieldAddr s x f) []))=true) (k:Gm P cx fz ops Rt nb (Ea (i + 1) l) ((i,false,nb + 8 * i,[],[]) :: lg) (σ.app dst (v0 (.ptr k (j + off)))) m' lg' σ'):Gm P cx fz ops Rt nb (Ea i (⟨dst,.fieldAddr s x f,ty,pos,af,g⟩ :: l)) lg σ m' lg' σ':=
 Gm.s hds (.fieldP F.h T.h (vP hz0)) k D rfl hok
theorem Gm.load1 {x:Operand} {t k j bt sz:Nat} {ds:List DV} {d:DV} [T:Sc P t false sz] (hds:Dx σ true [x]=some [(.ptr k j,some (.box ds bt))]) (hd:ds[j]?=some d) (D:H8 ops σ ⟨dst,.load t x,ty,pos,af,g⟩=some true)
  (hok:(Iy Rt i false (nb + 8 * i) [k] [] lg && (Nat.beq (zM fz (nb + 8 * i)) 0 && L9 cx.np (.load t x) []))=true) (k:Gm P cx fz ops Rt nb (Ea (i + 1) l) ((i,false,nb + 8 * i,[k],[]) :: lg) (σ.app dst (v0 d)) m' lg' σ'):Gm P cx fz ops Rt nb (Ea i (⟨dst,.load t x,ty,pos,af,g⟩ :: l)) lg σ m' lg' σ':=
 Gm.s hds (.loadB1 T.h hd) k D rfl hok
theorem Gm.loadA {x:Operand} {t k j bt sz:Nat} {ds:List DV} [T:Sc P t true sz] (hds:Dx σ true [x]=some [(.ptr k j,some (.box ds bt))]) (hd:Nat.ble (j + sz) ds.length=true) (D:H8 ops σ ⟨dst,.load t x,ty,pos,af,g⟩=some true)
  (hok:(Iy Rt i false (nb + 8 * i) [k] [] lg && (Nat.beq (zM fz (nb + 8 * i)) 0 && L9 cx.np (.load t x) []))=true) (k:Gm P cx fz ops Rt nb (Ea (i + 1) l) ((i,false,nb + 8 * i,[k],[]) :: lg) (σ.app dst (v0 (.agg ((ds.drop j).take sz)))) m' lg' σ'):Gm P cx fz ops Rt nb (Ea i (⟨dst,.load t x,ty,pos,af,g⟩ :: l)) lg σ m' lg' σ':=
 Gm.s hds (.loadBA T.h (vP hd)) k D rfl hok
theorem Gm.pickF {x y z:Operand} {c:Bool} {d1 d2:DV} {q1 q2 q3:Option LB} (hds:Dx σ false [x,y,z]=some [(.val (.bool c),q1),(d1,q2),(d2,q3)]) (hc:c=false) (D:H8 ops σ ⟨dst,.pick x y z,ty,pos,af,g⟩=some true)
  (hok:(Iy Rt i false (nb + 8 * i) [] [] lg && (Nat.beq (zM fz (nb + 8 * i)) 0 && L9 cx.np (.pick x y z) []))=true) (k:Gm P cx fz ops Rt nb (Ea (i + 1) l) ((i,false,nb + 8 * i,[],[]) :: lg) (σ.app dst (v0 d2)) m' lg' σ'):Gm P cx fz ops Rt nb (Ea i (⟨dst,.pick x y z,ty,pos,af,g⟩ :: l)) lg σ m' lg' σ':=
 Gm.s hds (kZ hc) k D rfl hok
theorem Gm.pickT {x y z:Operand} {c:Bool} {d1 d2:DV} {q1 q2 q3:Option LB} (hds:Dx σ false [x,y,z]=some [(.val (.bool c),q1),(d1,q2),(d2,q3)]) (hc:c=true) (D:H8 ops σ ⟨dst,.pick x y z,ty,pos,af,g⟩=some true)
  (hok:(Iy Rt i false (nb + 8 * i) [] [] lg && (Nat.beq (zM fz (nb + 8 * i)) 0 && L9 cx.np (.pick x y z) []))=true) (k:Gm P cx fz ops Rt nb (Ea (i + 1) l) ((i,false,nb + 8 * i,[],[]) :: lg) (σ.app dst (v0 d1)) m' lg' σ'):Gm P cx fz ops Rt nb (Ea i (⟨dst,.pick x y z,ty,pos,af,g⟩ :: l)) lg σ m' lg' σ':=
 Gm.s hds (lD hc) k D rfl hok
theorem Gm.storeB {x y:Operand} {t k j bt sz:Nat} {ag:Bool} {ds ds':List DV} {d:DV} {q:Option LB} {rd:List Nat} [T:Sc P t ag sz] (hds:Dx σ true [x,y]=some [(.ptr k j,some (.box ds bt)),(d,q)]) (hs:(B3 d).length=sz) (hi:Nat.ble (j + sz) ds.length=true) (ho:(B3 d).all Qw=true) (hn:B8 ds j (B3 d)=ds') (hr:H5 false [(DV.ptr k j,some (LB.box ds bt)),(d,q)]=rd) (D:H8 ops σ ⟨dst,.store t x y,ty,pos,af,g⟩=some true)
  (hok:(Iy Rt i false (nb + 8 * i) rd [k] lg && (Nat.beq (zM fz (nb + 8 * i)) 0 && L9 cx.np (.store t x y) [k]))=true) (k:Gm P cx fz ops Rt nb (Ea (i + 1) l) ((i,false,nb + 8 * i,rd,[k]) :: lg) (σ.app dst (eW k (.box ds' bt))) m' lg' σ'):Gm P cx fz ops Rt nb (Ea i (⟨dst,.store t x y,ty,pos,af,g⟩ :: l)) lg σ m' lg' σ':=
 Gm.s hds (iD T.h hs (vP hi) ho hn) k D hr hok
theorem Gm.extract {x:Operand} {n:Nat} {ds:List DV} {d:DV} {q:Option LB} (hds:Dx σ false [x]=some [(.tup ds,q)]) (hd:ds[n]?=some d) (D:H8 ops σ ⟨dst,.extract x n,ty,pos,af,g⟩=some true)
  (hok:(Iy Rt i false (nb + 8 * i) [] [] lg && (Nat.beq (zM fz (nb + 8 * i)) 0 && L9 cx.np (.extract x n) []))=true) (k:Gm P cx fz ops Rt nb (Ea (i + 1) l) ((i,false,nb + 8 * i,[],[]) :: lg) (σ.app dst (v0 d)) m' lg' σ'):Gm P cx fz ops Rt nb (Ea i (⟨dst,.extract x n,ty,pos,af,g⟩ :: l)) lg σ m' lg' σ':=
 Gm.s hds (.extract hd) k D rfl hok
theorem Gm.lss {x y:Operand} {t yt:TypeId} {kk:IntKind} {a b:Int} {q1 q2:Option LB} (hds:Dx σ false [x,y]=some [(.val (.int kk a),q1),(.val (.int kk b),q2)])  (D:H8 ops σ ⟨dst,.binOp .lss t x y yt,ty,pos,af,g⟩=some true)
  (hok:(Iy Rt i false (nb + 8 * i) [] [] lg && (Nat.beq (zM fz (nb + 8 * i)) 0 && L9 cx.np (.binOp .lss t x y yt) []))=true) (k:Gm P cx fz ops Rt nb (Ea (i + 1) l) ((i,false,nb + 8 * i,[],[]) :: lg) (σ.app dst (v0 (.val (.bool (decide (a < b)))))) m' lg' σ'):Gm P cx fz ops Rt nb (Ea i (⟨dst,.binOp .lss t x y yt,ty,pos,af,g⟩ :: l)) lg σ m' lg' σ':=
 Gm.s hds (sH) k D rfl hok
theorem Gm.eql {x y:Operand} {t yt:TypeId} {kk:IntKind} {a b:Int} {q1 q2:Option LB} (hds:Dx σ false [x,y]=some [(.val (.int kk a),q1),(.val (.int kk b),q2)])  (D:H8 ops σ ⟨dst,.binOp .eql t x y yt,ty,pos,af,g⟩=some true)
  (hok:(Iy Rt i false (nb + 8 * i) [] [] lg && (Nat.beq (zM fz (nb + 8 * i)) 0 && L9 cx.np (.binOp .eql t x y yt) []))=true) (k:Gm P cx fz ops Rt nb (Ea (i + 1) l) ((i,false,nb + 8 * i,[],[]) :: lg) (σ.app dst (v0 (.val (.bool (decide (a=b)))))) m' lg' σ'):Gm P cx fz ops Rt nb (Ea i (⟨dst,.binOp .eql t x y yt,ty,pos,af,g⟩ :: l)) lg σ m' lg' σ':=
 Gm.s hds (tQ) k D rfl hok
theorem Gm.gtr {x y:Operand} {t yt:TypeId} {kk:IntKind} {a b:Int} {q1 q2:Option LB} (hds:Dx σ false [x,y]=some [(.val (.int kk a),q1),(.val (.int kk b),q2)])  (D:H8 ops σ ⟨dst,.binOp .gtr t x y yt,ty,pos,af,g⟩=some true)
  (hok:(Iy Rt i false (nb + 8 * i) [] [] lg && (Nat.beq (zM fz (nb + 8 * i)) 0 && L9 cx.np (.binOp .gtr t x y yt) []))=true) (k:Gm P cx fz ops Rt nb (Ea (i + 1) l) ((i,false,nb + 8 * i,[],[]) :: lg) (σ.app dst (v0 (.val (.bool (decide (b < a)))))) m' lg' σ'):Gm P cx fz ops Rt nb (Ea i (⟨dst,.binOp .gtr t x y yt,ty,pos,af,g⟩ :: l)) lg σ m' lg' σ':=
 Gm.s hds (tP) k D rfl hok
theorem Gm.leq {x y:Operand} {t yt:TypeId} {kk:IntKind} {a b:Int} {q1 q2:Option LB} (hds:Dx σ false [x,y]=some [(.val (.int kk a),q1),(.val (.int kk b),q2)])  (D:H8 ops σ ⟨dst,.binOp .leq t x y yt,ty,pos,af,g⟩=some true)
  (hok:(Iy Rt i false (nb + 8 * i) [] [] lg && (Nat.beq (zM fz (nb + 8 * i)) 0 && L9 cx.np (.binOp .leq t x y yt) []))=true) (k:Gm P cx fz ops Rt nb (Ea (i + 1) l) ((i,false,nb + 8 * i,[],[]) :: lg) (σ.app dst (v0 (.val (.bool (decide (a<=b)))))) m' lg' σ'):Gm P cx fz ops Rt nb (Ea i (⟨dst,.binOp .leq t x y yt,ty,pos,af,g⟩ :: l)) lg σ m' lg' σ':=
 Gm.s hds (rL) k D rfl hok
theorem Gm.geq {x y:Operand} {t yt:TypeId} {kk:IntKind} {a b:Int} {q1 q2:Option LB} (hds:Dx σ false [x,y]=some [(.val (.int kk a),q1),(.val (.int kk b),q2)])  (D:H8 ops σ ⟨dst,.binOp .geq t x y yt,ty,pos,af,g⟩=some true)
  (hok:(Iy Rt i false (nb + 8 * i) [] [] lg && (Nat.beq (zM fz (nb + 8 * i)) 0 && L9 cx.np (.binOp .geq t x y yt) []))=true) (k:Gm P cx fz ops Rt nb (Ea (i + 1) l) ((i,false,nb + 8 * i,[],[]) :: lg) (σ.app dst (v0 (.val (.bool (decide (b<=a)))))) m' lg' σ'):Gm P cx fz ops Rt nb (Ea i (⟨dst,.binOp .geq t x y yt,ty,pos,af,g⟩ :: l)) lg σ m' lg' σ':=
 Gm.s hds (sZ) k D rfl hok
theorem Gm.neq {x y:Operand} {t yt:TypeId} {kk:IntKind} {a b:Int} {q1 q2:Option LB} (hds:Dx σ false [x,y]=some [(.val (.int kk a),q1),(.val (.int kk b),q2)])  (D:H8 ops σ ⟨dst,.binOp .neq t x y yt,ty,pos,af,g⟩=some true)
  (hok:(Iy Rt i false (nb + 8 * i) [] [] lg && (Nat.beq (zM fz (nb + 8 * i)) 0 && L9 cx.np (.binOp .neq t x y yt) []))=true) (k:Gm P cx fz ops Rt nb (Ea (i + 1) l) ((i,false,nb + 8 * i,[],[]) :: lg) (σ.app dst (v0 (.val (.bool (!decide (a=b)))))) m' lg' σ'):Gm P cx fz ops Rt nb (Ea i (⟨dst,.binOp .neq t x y yt,ty,pos,af,g⟩ :: l)) lg σ m' lg' σ':=
 Gm.s hds (rY) k D rfl hok
theorem Gm.seql {x y:Operand} {t yt:TypeId} {a b:ByteArray} {q1 q2:Option LB} (hds:Dx σ false [x,y]=some [(.val (.string a),q1),(.val (.string b),q2)])  (D:H8 ops σ ⟨dst,.binOp .eql t x y yt,ty,pos,af,g⟩=some true)
  (hok:(Iy Rt i false (nb + 8 * i) [] [] lg && (Nat.beq (zM fz (nb + 8 * i)) 0 && L9 cx.np (.binOp .eql t x y yt) []))=true) (k:Gm P cx fz ops Rt nb (Ea (i + 1) l) ((i,false,nb + 8 * i,[],[]) :: lg) (σ.app dst (v0 (.val (.bool (decide (a=b)))))) m' lg' σ'):Gm P cx fz ops Rt nb (Ea i (⟨dst,.binOp .eql t x y yt,ty,pos,af,g⟩ :: l)) lg σ m' lg' σ':=
 Gm.s hds (qQ) k D rfl hok
theorem Gm.sneq {x y:Operand} {t yt:TypeId} {a b:ByteArray} {q1 q2:Option LB} (hds:Dx σ false [x,y]=some [(.val (.string a),q1),(.val (.string b),q2)])  (D:H8 ops σ ⟨dst,.binOp .neq t x y yt,ty,pos,af,g⟩=some true)
  (hok:(Iy Rt i false (nb + 8 * i) [] [] lg && (Nat.beq (zM fz (nb + 8 * i)) 0 && L9 cx.np (.binOp .neq t x y yt) []))=true) (k:Gm P cx fz ops Rt nb (Ea (i + 1) l) ((i,false,nb + 8 * i,[],[]) :: lg) (σ.app dst (v0 (.val (.bool (!decide (a=b)))))) m' lg' σ'):Gm P cx fz ops Rt nb (Ea i (⟨dst,.binOp .neq t x y yt,ty,pos,af,g⟩ :: l)) lg σ m' lg' σ':=
 Gm.s hds (nH) k D rfl hok
theorem Gm.add {x y:Operand} {t yt:TypeId} {a b:Int} {q1 q2:Option LB} (hds:Dx σ false [x,y]=some [(.val (.int .i64 a),q1),(.val (.int .i64 b),q2)])  (D:H8 ops σ ⟨dst,.binOp .add t x y yt,ty,pos,af,g⟩=some true)
  (hok:(Iy Rt i false (nb + 8 * i) [] [] lg && (Nat.beq (zM fz (nb + 8 * i)) 0 && L9 cx.np (.binOp .add t x y yt) []))=true) (k:Gm P cx fz ops Rt nb (Ea (i + 1) l) ((i,false,nb + 8 * i,[],[]) :: lg) (σ.app dst (v0 (.val (.int .i64 (W (a + b)))))) m' lg' σ'):Gm P cx fz ops Rt nb (Ea i (⟨dst,.binOp .add t x y yt,ty,pos,af,g⟩ :: l)) lg σ m' lg' σ':=
 Gm.s hds (tN) k D rfl hok
theorem Gm.sub {x y:Operand} {t yt:TypeId} {a b:Int} {q1 q2:Option LB} (hds:Dx σ false [x,y]=some [(.val (.int .i64 a),q1),(.val (.int .i64 b),q2)])  (D:H8 ops σ ⟨dst,.binOp .sub t x y yt,ty,pos,af,g⟩=some true)
  (hok:(Iy Rt i false (nb + 8 * i) [] [] lg && (Nat.beq (zM fz (nb + 8 * i)) 0 && L9 cx.np (.binOp .sub t x y yt) []))=true) (k:Gm P cx fz ops Rt nb (Ea (i + 1) l) ((i,false,nb + 8 * i,[],[]) :: lg) (σ.app dst (v0 (.val (.int .i64 (W (a - b)))))) m' lg' σ'):Gm P cx fz ops Rt nb (Ea i (⟨dst,.binOp .sub t x y yt,ty,pos,af,g⟩ :: l)) lg σ m' lg' σ':=
 Gm.s hds (sC) k D rfl hok
theorem Gm.mul {x y:Operand} {t yt:TypeId} {a b:Int} {q1 q2:Option LB} (hds:Dx σ false [x,y]=some [(.val (.int .i64 a),q1),(.val (.int .i64 b),q2)])  (D:H8 ops σ ⟨dst,.binOp .mul t x y yt,ty,pos,af,g⟩=some true)
  (hok:(Iy Rt i false (nb + 8 * i) [] [] lg && (Nat.beq (zM fz (nb + 8 * i)) 0 && L9 cx.np (.binOp .mul t x y yt) []))=true) (k:Gm P cx fz ops Rt nb (Ea (i + 1) l) ((i,false,nb + 8 * i,[],[]) :: lg) (σ.app dst (v0 (.val (.int .i64 (W (a * b)))))) m' lg' σ'):Gm P cx fz ops Rt nb (Ea i (⟨dst,.binOp .mul t x y yt,ty,pos,af,g⟩ :: l)) lg σ m' lg' σ':=
 Gm.s hds (sW) k D rfl hok
theorem Gm.alloc {t:TypeId} {z:List Value} [Z:Z8 P t z] (hds:Dx σ false []=some [])  (D:H8 ops σ ⟨dst,.alloc t,ty,pos,af,g⟩=some true)
  (hok:(Iy Rt i false (nb + 8 * i) [] [] lg && (Nat.beq (zM fz (nb + 8 * i)) 0 && L9 cx.np (.alloc t) []))=true) (k:Gm P cx fz ops Rt nb (Ea (i + 1) l) ((i,false,nb + 8 * i,[],[]) :: lg) (σ.app dst (Qb (nb + 8 * i) (.box (z.map .val) t) (.ptr (nb + 8 * i) 0))) m' lg' σ'):Gm P cx fz ops Rt nb (Ea i (⟨dst,.alloc t,ty,pos,af,g⟩ :: l)) lg σ m' lg' σ':=
 Gm.s hds (.alloc Z.h) k D rfl hok
theorem Gm.box {x:Operand} {t:TypeId} {d:DV} {q:Option LB} (hds:Dx σ false [x]=some [(d,q)]) (ho:(B3 d).all Qw=true) (D:H8 ops σ ⟨dst,.box t x,ty,pos,af,g⟩=some true)
  (hok:(Iy Rt i false (nb + 8 * i) [] [] lg && (Nat.beq (zM fz (nb + 8 * i)) 0 && L9 cx.np (.box t x) []))=true) (k:Gm P cx fz ops Rt nb (Ea (i + 1) l) ((i,false,nb + 8 * i,[],[]) :: lg) (σ.app dst (Qb (nb + 8 * i) (.box (B3 d) t) (.ptr (nb + 8 * i) 0))) m' lg' σ'):Gm P cx fz ops Rt nb (Ea i (⟨dst,.box t x,ty,pos,af,g⟩ :: l)) lg σ m' lg' σ':=
 Gm.s hds (.box ho) k D rfl hok
theorem Gm.not {x:Operand} {t:TypeId} {b:Bool} {q:Option LB} (hds:Dx σ false [x]=some [(.val (.bool b),q)])  (D:H8 ops σ ⟨dst,.unOp .not t x,ty,pos,af,g⟩=some true)
  (hok:(Iy Rt i false (nb + 8 * i) [] [] lg && (Nat.beq (zM fz (nb + 8 * i)) 0 && L9 cx.np (.unOp .not t x) []))=true) (k:Gm P cx fz ops Rt nb (Ea (i + 1) l) ((i,false,nb + 8 * i,[],[]) :: lg) (σ.app dst (v0 (.val (.bool (!b))))) m' lg' σ'):Gm P cx fz ops Rt nb (Ea i (⟨dst,.unOp .not t x,ty,pos,af,g⟩ :: l)) lg σ m' lg' σ':=
 Gm.s hds (sV) k D rfl hok
theorem Gm.lenS {α:Type} {f:α->List C} {L:List α} {x:Operand} {t e sz by_:Nat} {q:Option LB} [S:gS P t e sz by_] (hds:Dx σ true [x]=some [(.sl sz (Al f L),q)]) (E:Xo f sz) (D:H8 ops σ ⟨dst,.call ⟨.builtin .len,#[x],#[t]⟩,ty,pos,af,g⟩=some true)
  (hok:(Iy Rt i false (nb + 8 * i) [] [] lg && (Nat.beq (zM fz (nb + 8 * i)) 0 && L9 cx.np (.call ⟨.builtin .len,#[x],#[t]⟩) []))=true) (k:Gm P cx fz ops Rt nb (Ea (i + 1) l) ((i,false,nb + 8 * i,[],[]) :: lg) (σ.app dst (v0 (.val (.int .i64 (L.length:Int))))) m' lg' σ'):Gm P cx fz ops Rt nb (Ea i (⟨dst,.call ⟨.builtin .len,#[x],#[t]⟩,ty,pos,af,g⟩ :: l)) lg σ m' lg' σ':=
 Gm.s hds (oG S.h E.h) k D rfl hok
theorem Gm.lenR {α:Type} {f:α->List C} {L:List α} {x:Operand} {t e e' sz by_ k:Nat} [S:gS P t e sz by_] (hds:Dx σ true [x]=some [(.row k,some (.row e' sz (Al f L)))]) (E:Xo f sz) (D:H8 ops σ ⟨dst,.call ⟨.builtin .len,#[x],#[t]⟩,ty,pos,af,g⟩=some true)
  (hok:(Iy Rt i false (nb + 8 * i) [k] [] lg && (Nat.beq (zM fz (nb + 8 * i)) 0 && L9 cx.np (.call ⟨.builtin .len,#[x],#[t]⟩) []))=true) (k:Gm P cx fz ops Rt nb (Ea (i + 1) l) ((i,false,nb + 8 * i,[k],[]) :: lg) (σ.app dst (v0 (.val (.int .i64 (L.length:Int))))) m' lg' σ'):Gm P cx fz ops Rt nb (Ea i (⟨dst,.call ⟨.builtin .len,#[x],#[t]⟩,ty,pos,af,g⟩ :: l)) lg σ m' lg' σ':=
 Gm.s hds (qG S.h E.h) k D rfl hok
theorem Gm.idxS {α:Type} {f:α->List C} {L:List α} {a:α} {x y:Operand} {t e sz by_:Nat} {kk:IntKind} {n:Int} {q1 q2:Option LB} [S:gS P t e sz by_] (hds:Dx σ true [x,y]=some [(.sl sz (Al f L),q1),(.val (.int kk n),q2)]) (E:Xo f sz) (hx:C2 L n=some a) (D:H8 ops σ ⟨dst,.indexAddr t x y,ty,pos,af,g⟩=some true)
  (hok:(Iy Rt i false (nb + 8 * i) [] [] lg && (Nat.beq (zM fz (nb + 8 * i)) 0 && L9 cx.np (.indexAddr t x y) []))=true) (k:Gm P cx fz ops Rt nb (Ea (i + 1) l) ((i,false,nb + 8 * i,[],[]) :: lg) (σ.app dst (v0 (.elt ((Al f L).drop (n.toNat * sz))))) m' lg' σ'):Gm P cx fz ops Rt nb (Ea i (⟨dst,.indexAddr t x y,ty,pos,af,g⟩ :: l)) lg σ m' lg' σ':=
 Gm.s hds (pJ S.h E.h (Po hx) (Ao hx)) k D rfl hok
theorem Gm.idxR {α:Type} {f:α->List C} {L:List α} {a:α} {x y:Operand} {t e e' sz by_ k:Nat} {kk:IntKind} {n:Int} {q2:Option LB} [S:gS P t e sz by_] (hds:Dx σ true [x,y]=some [(.row k,some (.row e' sz (Al f L))),(.val (.int kk n),q2)]) (E:Xo f sz) (hx:C2 L n=some a) (D:H8 ops σ ⟨dst,.indexAddr t x y,ty,pos,af,g⟩=some true)
  (hok:(Iy Rt i false (nb + 8 * i) [k] [] lg && (Nat.beq (zM fz (nb + 8 * i)) 0 && L9 cx.np (.indexAddr t x y) []))=true) (k:Gm P cx fz ops Rt nb (Ea (i + 1) l) ((i,false,nb + 8 * i,[k],[]) :: lg) (σ.app dst (v0 (.ptr k (n.toNat * sz)))) m' lg' σ'):Gm P cx fz ops Rt nb (Ea i (⟨dst,.indexAddr t x y,ty,pos,af,g⟩ :: l)) lg σ m' lg' σ':=
 Gm.s hds (oK S.h E.h (Po hx) (Ao hx)) k D rfl hok
theorem Gm.nilP {x:Operand} {k j:Nat} {q:Option LB} (hds:Dx σ false [x]=some [(.ptr k j,q)])  (D:H8 ops σ ⟨dst,.nilCheck x,ty,pos,af,g⟩=some true)
  (hok:(Iy Rt i false (nb + 8 * i) [] [] lg && (Nat.beq (zM fz (nb + 8 * i)) 0 && L9 cx.np (.nilCheck x) []))=true) (k:Gm P cx fz ops Rt nb (Ea (i + 1) l) ((i,false,nb + 8 * i,[],[]) :: lg) (σ.app dst (v0 (.ptr k j))) m' lg' σ'):Gm P cx fz ops Rt nb (Ea i (⟨dst,.nilCheck x,ty,pos,af,g⟩ :: l)) lg σ m' lg' σ':=
 Gm.s hds (.nilP) k D rfl hok
theorem Gm.nilE {x:Operand} {cs:List C} {q:Option LB} (hds:Dx σ false [x]=some [(.elt cs,q)])  (D:H8 ops σ ⟨dst,.nilCheck x,ty,pos,af,g⟩=some true)
  (hok:(Iy Rt i false (nb + 8 * i) [] [] lg && (Nat.beq (zM fz (nb + 8 * i)) 0 && L9 cx.np (.nilCheck x) []))=true) (k:Gm P cx fz ops Rt nb (Ea (i + 1) l) ((i,false,nb + 8 * i,[],[]) :: lg) (σ.app dst (v0 (.elt cs))) m' lg' σ'):Gm P cx fz ops Rt nb (Ea i (⟨dst,.nilCheck x,ty,pos,af,g⟩ :: l)) lg σ m' lg' σ':=
 Gm.s hds (.nilE) k D rfl hok
theorem Gm.field1 {x:Operand} {s f off ft sz:Nat} {ds:List DV} {d:DV} {q:Option LB} [F:Nb P s f off ft] [T:Sc P ft false sz] (hds:Dx σ false [x]=some [(.agg ds,q)]) (hd:ds[off]?=some d) (D:H8 ops σ ⟨dst,.field s x f,ty,pos,af,g⟩=some true)
  (hok:(Iy Rt i false (nb + 8 * i) [] [] lg && (Nat.beq (zM fz (nb + 8 * i)) 0 && L9 cx.np (.field s x f) []))=true) (k:Gm P cx fz ops Rt nb (Ea (i + 1) l) ((i,false,nb + 8 * i,[],[]) :: lg) (σ.app dst (v0 d)) m' lg' σ'):Gm P cx fz ops Rt nb (Ea i (⟨dst,.field s x f,ty,pos,af,g⟩ :: l)) lg σ m' lg' σ':=
 Gm.s hds (.field1 F.h T.h hd) k D rfl hok
theorem Gm.fieldA {x:Operand} {s f off ft sz:Nat} {ds:List DV} {q:Option LB} [F:Nb P s f off ft] [T:Sc P ft true sz] (hds:Dx σ false [x]=some [(.agg ds,q)])  (D:H8 ops σ ⟨dst,.field s x f,ty,pos,af,g⟩=some true)
  (hok:(Iy Rt i false (nb + 8 * i) [] [] lg && (Nat.beq (zM fz (nb + 8 * i)) 0 && L9 cx.np (.field s x f) []))=true) (k:Gm P cx fz ops Rt nb (Ea (i + 1) l) ((i,false,nb + 8 * i,[],[]) :: lg) (σ.app dst (v0 (.agg ((ds.drop off).take sz)))) m' lg' σ'):Gm P cx fz ops Rt nb (Ea i (⟨dst,.field s x f,ty,pos,af,g⟩ :: l)) lg σ m' lg' σ':=
 Gm.s hds (.fieldA F.h T.h) k D rfl hok
theorem Gm.makeF {f:Nat} {first caps:Array Operand} {ds:List (DV×Option LB)} (hds:Dx σ false (Op.makeFunc (.func f) first caps).operands.toList=some ds)  (D:H8 ops σ ⟨dst,.makeFunc (.func f) first caps,ty,pos,af,g⟩=some true)
  (hok:(Iy Rt i false (nb + 8 * i) [] [] lg && (Nat.beq (zM fz (nb + 8 * i)) 0 && L9 cx.np (.makeFunc (.func f) first caps) []))=true) (k:Gm P cx fz ops Rt nb (Ea (i + 1) l) ((i,false,nb + 8 * i,[],[]) :: lg) (σ.app dst (v0 (.clo f first.size (ds.map (·.1))))) m' lg' σ'):Gm P cx fz ops Rt nb (Ea i (⟨dst,.makeFunc (.func f) first caps,ty,pos,af,g⟩ :: l)) lg σ m' lg' σ':=
 Gm.s hds (.makeFunc) k D rfl hok
theorem Ny {p:Prop} (h:p:=by first | with_reducible exact tC | exact Bu rfl rfl (by first | with_reducible assumption | with_reducible rfl | with_reducible exact cD (by with_reducible assumption) | with_reducible exact cI (by with_reducible assumption))):p:=h
theorem vG {p:Prop} (h:p:=by
  repeat first
   | (apply Gm.move; exact rfl; exact Ny; exact rfl)
   | (apply Gm.assign; exact rfl; exact Ny; exact rfl)
   | (apply Gm.fieldP; exact rfl; (exact rfl); exact Ny; exact rfl)
   | (apply Gm.load1; exact rfl; (exact rfl); exact Ny; exact rfl)
   | (apply Gm.loadA; exact rfl; (exact rfl); exact Ny; exact rfl)
   | (apply Gm.pickF; exact rfl; (first | with_reducible assumption | with_reducible rfl | with_reducible exact cD (by with_reducible assumption)); exact Ny; exact rfl)
   | (apply Gm.pickT; exact rfl; (first | with_reducible assumption | with_reducible rfl | with_reducible exact cI (by with_reducible assumption)); exact Ny; exact rfl)
   | (apply Gm.k; (first | exact qZ rfl rfl (by first | with_reducible assumption | with_reducible rfl | with_reducible exact cD (by with_reducible assumption) | with_reducible exact cI (by with_reducible assumption)) | exact nW rfl rfl (by first | with_reducible assumption | with_reducible rfl | with_reducible exact cD (by with_reducible assumption) | with_reducible exact cI (by with_reducible assumption)) | exact rR rfl rfl); exact rfl)
   | (apply Gm.storeB; exact rfl; (exact rfl); (exact rfl); (exact rfl); (focus repeat first | exact (rfl:_=[]) | (apply uQ; exact rfl)); (first | exact (rfl:_=[_]) | exact (rfl:_=[_,_]) | exact (rfl:_=[_,_,_])); exact Ny; exact rfl)
   | (apply Gm.extract; exact rfl; (exact rfl); exact Ny; exact rfl)
   | (apply Gm.lss; exact rfl; exact Ny; exact rfl)
   | (apply Gm.eql; exact rfl; exact Ny; exact rfl)
   | (apply Gm.gtr; exact rfl; exact Ny; exact rfl)
   | (apply Gm.leq; exact rfl; exact Ny; exact rfl)
   | (apply Gm.geq; exact rfl; exact Ny; exact rfl)
   | (apply Gm.neq; exact rfl; exact Ny; exact rfl)
   | (apply Gm.seql; exact rfl; exact Ny; exact rfl)
   | (apply Gm.sneq; exact rfl; exact Ny; exact rfl)
   | (apply Gm.add; exact rfl; exact Ny; exact rfl)
   | (apply Gm.sub; exact rfl; exact Ny; exact rfl)
   | (apply Gm.mul; exact rfl; exact Ny; exact rfl)
   | (apply Gm.alloc; exact rfl; exact Ny; exact rfl)
   | (apply Gm.box; exact rfl; (exact rfl); exact Ny; exact rfl)
   | (apply Gm.not; exact rfl; exact Ny; exact rfl)
   | (apply Gm.lenS; exact rfl; (exact inferInstance); exact Ny; exact rfl)
   | (apply Gm.lenR; exact rfl; (exact inferInstance); exact Ny; exact rfl)
   | (apply Gm.idxS; exact rfl; (exact inferInstance); (with_reducible assumption); exact Ny; exact rfl)
   | (apply Gm.idxR; exact rfl; (exact inferInstance); (with_reducible assumption); exact Ny; exact rfl)
   | (apply Gm.nilP; exact rfl; exact Ny; exact rfl)
   | (apply Gm.nilE; exact rfl; exact Ny; exact rfl)
   | (apply Gm.field1; exact rfl; (exact rfl); exact Ny; exact rfl)
   | (apply Gm.fieldA; exact rfl; exact Ny; exact rfl)
   | (apply Gm.makeF; exact rfl; exact Ny; exact rfl)
  exact Gm.z):p:=h
theorem Ak {m:List (Nat×Oper)} (k:Chain (Bp P cx fz) ops Rt nb m' lg' σ' Q) (h:Gm P cx fz ops Rt nb m lg σ m' lg' σ':=by exact vG):Chain (Bp P cx fz) ops Rt nb m lg σ Q:=h Q k
end
theorem D2 {R:Type} {b:Bool} {X Y:Option R} {r:R} (D:cond b X Y=some r):(b=true/\X=some r)\/(b=false/\Y=some r):=by
 cases b with
 | true=>exact .inl ⟨rfl,D⟩
 | false=>exact .inr ⟨rfl,D⟩
section
variable {P:Program} {cx:Cx} {σ:St} {Q:Exit->St->Prop} {x y:Code}
theorem Df {R:Type} {t:Nat} {b:Bool} {X Y:Option R} {r:R} (hc:σ.F t=some (.val (.bool b))) (D:cond b X Y=some r) (h1:b=true->X=some r->Ce P cx x Q σ) (h2:b=false->Y=some r->Ce P cx y Q σ):Ce P cx (.cond (.tmp t) x y) Q σ:=
 Yk hc (fun h=>h1 h (oW h D)) fun h=>h2 h (qK h D)
theorem A1 {fl:List (Nat×DV)} {ll:List (Nat×LB)} {n:Nat} (θ:List (Nat×Nat))
  (hF:jY σ (D5 θ) fl:=by
   repeat' first
    | exact trivial
    | refine⟨⟨_,rfl,?_⟩,?_⟩
    | exact Cv.val _
    | exact Cv.sl _ _
    | exact Cv.ptr rfl
    | exact Cv.row rfl
    | exact Cv.part rfl
    | exact Cv.nil rfl
    | exact Cv.nils _
    | exact Cv.elt _
    | exact Cv.mp _
    | refine Cv.clo _ _ ?_
    | refine Cv.agg ?_
    | refine Cv.tup ?_
    | refine Cv.clo _ _ ?_
    | exact M2.nil
    | refine M2.cons ?_ ?_
    | exact Cv.frzM rfl (Hu rfl)
    | exact Cv.frz rfl (Hu rfl)
    | exact Cv.frzT rfl (Hu rfl)
   first | done | fail)
  (hL:cJ σ (D5 θ) ll:=by
   repeat' first
    | exact trivial
    | refine⟨.inl ⟨_,_,rfl,rfl,⟨rfl,rfl,rfl⟩⟩,?_⟩
    | refine⟨.inl ⟨_,_,rfl,rfl,⟨rfl,rfl,rfl,rfl,rfl,rfl,rfl,rfl⟩⟩,?_⟩
    | refine⟨.inl ⟨_,_,rfl,rfl,trivial⟩,?_⟩
    | refine⟨.inl ⟨_,_,rfl,rfl,rfl⟩,?_⟩
    | refine⟨.inl ⟨_,_,rfl,rfl,⟨rfl,?_⟩⟩,?_⟩
    | refine⟨.inr ⟨rfl,_,_,rfl⟩,?_⟩
    | exact Cv.val _
    | exact Cv.sl _ _
    | exact Cv.ptr rfl
    | exact Cv.row rfl
    | exact Cv.part rfl
    | exact Cv.nil rfl
    | exact Cv.nils _
    | exact Cv.elt _
    | exact Cv.mp _
    | refine Cv.clo _ _ ?_
    | refine Cv.agg ?_
    | exact M2.nil
    | refine M2.cons ?_ ?_
    | exact Cv.frzM rfl (Hu rfl)
    | exact Cv.frz rfl (Hu rfl)
    | exact Cv.frzT rfl (Hu rfl)
   first | done | fail)
  (hc:eU fl ll n θ=true:=by rfl) (hp:Zy θ n cx.np=true:=by rfl):O8 cx σ (mk fl ll n):=O8.lists θ hc hp hF hL
theorem Jk {S R:Type} {body:S->Option (Lp S R)} {s0:S} {r:R} (st:S->St) (D:C5 body s0=some r) (h0:O8 cx σ (st s0)) (round:∀ (s:S) (m:Nat) (o:Lp S R),body s=some o->Um (Kp body m) o=some r->Ce P cx x (mX (fun σ'=>∃ j:S×Nat,j.2 < m + 1/\Kp body j.2 j.1=some r/\O8 cx σ' (st j.1)) Q) (st s)):Ce P cx (.loop x) Q σ:=by
 obtain⟨n,D⟩:=N1 D
 refine fY (ι:=S×Nat) (fun q=>st q.1) (fun q=>Kp body q.2 q.1=some r) (fun q=>q.2) (s0,n) h0 D ?_
 rintro⟨s,k⟩ hk
 obtain⟨m,o,rfl,h1,h2⟩:=dU (show Kp body k s=some r from hk)
 exact round s m o h1 h2
theorem A3 {fn:Func} {np:Nat} {R:DV->List LB->Prop} {ds:List DV} {r:DV} {bx:List LB} (θ:List (Nat×Nat)) (hR:R r bx)
  (h1:Mv P σ fn.results.toList ds:=by
   repeat first
    | exact Mv.nil
    | (apply Mv.cons; exact .tmp rfl)
    | (apply Mv.cons; exact .cell1 rfl rfl Sc.h rfl)
    | (apply Mv.cons; exact .cellA rfl rfl Sc.h rfl))
  (h2:Cv σ (D5 θ) (jQ ds) r:=by
   repeat' first
    | exact Cv.val _
    | exact Cv.sl _ _
    | exact Cv.ptr rfl
    | exact Cv.row rfl
    | exact Cv.nil rfl
    | exact Cv.nils _
    | exact Cv.elt _
    | exact Cv.mp _
    | refine Cv.clo _ _ ?_
    | refine Cv.agg ?_
    | refine Cv.tup ?_
    | exact M2.nil
    | refine M2.cons ?_ ?_
    | exact Cv.frzM rfl (Hu rfl)
    | exact Cv.frz rfl (Hu rfl)
    | exact Cv.frzT rfl (Hu rfl)
   first | done | fail)
  (h3:cJ σ (D5 θ) (ix 0 bx):=by
   repeat' first
    | exact trivial
    | refine⟨.inl ⟨_,_,rfl,rfl,⟨rfl,rfl,rfl⟩⟩,?_⟩
    | refine⟨.inl ⟨_,_,rfl,rfl,⟨rfl,rfl,rfl,rfl,rfl,rfl,rfl,rfl⟩⟩,?_⟩
    | refine⟨.inl ⟨_,_,rfl,rfl,trivial⟩,?_⟩
    | refine⟨.inl ⟨_,_,rfl,rfl,rfl⟩,?_⟩
    | refine⟨.inl ⟨_,_,rfl,rfl,⟨rfl,?_⟩⟩,?_⟩
    | refine⟨.inr ⟨rfl,_,_,rfl⟩,?_⟩
    | exact Cv.val _
    | exact Cv.sl _ _
    | exact Cv.ptr rfl
    | exact Cv.row rfl
    | exact Cv.nil rfl
    | exact Cv.nils _
    | exact Cv.elt _
    | exact Cv.mp _
    | refine Cv.clo _ _ ?_
    | refine Cv.agg ?_
    | exact M2.nil
    | refine M2.cons ?_ ?_
    | exact Cv.frzM rfl (Hu rfl)
    | exact Cv.frz rfl (Hu rfl)
    | exact Cv.frzT rfl (Hu rfl)
   first | done | fail)
  (h4:eU [(0,r)] (ix 0 bx) bx.length θ=true:=by rfl) (h5:Zy θ bx.length np=true:=by rfl) (h6:Nat.ble np bx.length=true:=by rfl) (h7:Nat.ble bx.length (np + 8)=true:=by rfl) (h8:(bx.take np).all tS=true:=by rfl):Fin P fn np R σ:=
 ⟨ds,r,bx,θ,h1,hR,h2,h3,h4,h5,h6,h7,h8⟩
end
section
variable {P:Program} {cx:Cx} {ops:Array Oper} {Rt:Option (List Nat)} {nb i:Nat} {l:List Oper} {lg:aK} {σ:St} {Q:St->Prop} {fz:List Nat}
theorem Dm {dst:Option Tmp} {f:FuncId} {xs:Array Operand} {tys:Array TypeId} {ty:TypeId} {pos:String} {af:Array Edge} {g:Option (Nat×Bool)} {dsA:List (DV×Option LB)} {args:List DV} {d:DV}
  (hF:Fn P f 0 args [] (fun d' b'=>d'=d/\b'=[]))
  (k:Chain (Bp P cx fz) ops Rt nb (Ea (i + 1) l) ((i,true,nb + 8 * i,[],[]) :: lg) (σ.app dst (eN [] [] d [])) Q)
  (hds:Dx σ true xs.toList=some dsA:=by rfl)
  (hA:M5 false ([] ++ []) (Jp σ []) (dsA.map (·.1)) args:=by
   repeat' first
    | exact M5.nil
    | exact Ag.val
    | exact Ag.sl
    | exact Ag.nils
    | exact Ag.elt
    | exact Ag.fn
    | refine Ag.agg ?_
    | refine Ag.clo ?_
    | refine M5.cons ?_ ?_
   first | done | fail)
  (D:H8 ops σ ⟨dst,.call ⟨.value (.func f),xs,tys⟩,ty,pos,af,g⟩=some true:=by exact Ny)
  (hrd:My σ 3 (Od dsA)=[]:=by rfl) (hok:Iy Rt i true (nb + 8 * i) [] [] lg=true:=by rfl) (hr:G4 d=[]:=by rfl) :
  Chain (Bp P cx fz) ops Rt nb (Ea i (⟨dst,.call ⟨.value (.func f),xs,tys⟩,ty,pos,af,g⟩ :: l)) lg σ Q:=
 Y8 (ps:=[]) (gs:=[]) (rd:=[]) (bx:=[]) (b:=[]) false D hF hds hrd hA rfl rfl (fun h=>by cases h) hok hr rfl rfl k
theorem Kn {dst:Option Tmp} {f:FuncId} {xs:Array Operand} {tys:Array TypeId} {ty:TypeId} {pos:String} {af:Array Edge} {g:Option (Nat×Bool)} {dsA:List (DV×Option LB)} {args:List DV} {bx:List LB} {d:DV} {b:List LB} (rd ps gs:List Nat) (fl:Bool)
  (hF:Fn P f ps.length args bx (fun d' b'=>d'=d/\b'=b))
  (k:Chain (Bp P cx fz) ops Rt nb (Ea (i + 1) l) ((i,true,nb + 8 * i,rd,ps ++ gs) :: lg) (σ.app dst (eN ps gs d b)) Q)
  (hds:Dx σ true xs.toList=some dsA:=by rfl)
  (hA:M5 fl (ps ++ gs) (Jp σ rd) (dsA.map (·.1)) args:=by
   repeat' first
    | exact M5.nil
    | exact Ag.val
    | exact Ag.sl
    | exact Ag.nils
    | exact Ag.elt
    | exact Ag.fn
    | exact Ag.ptr rfl
    | exact Ag.rowK rfl
    | exact Ag.row rfl (by repeat first | exact List.Mem.head _ | refine List.Mem.tail _ ?_) rfl
    | refine Ag.agg ?_
    | refine Ag.clo ?_
    | refine M5.cons ?_ ?_
   first | done | fail)
  (hB:Vl fl (ps ++ gs) (Jp σ rd) (ps ++ gs) bx:=by
   repeat' first
    | exact (rfl:_=[])
    | refine⟨_,_,_,rfl,(.head _),⟨_,rfl,?_⟩,?_⟩
    | refine⟨_,_,_,rfl,(.tail _ (.head _)),⟨_,rfl,?_⟩,?_⟩
    | refine⟨_,_,_,rfl,(.tail _ (.tail _ (.head _))),⟨_,rfl,?_⟩,?_⟩
    | refine⟨_,_,_,rfl,(.tail _ (.tail _ (.tail _ (.head _)))),⟨_,rfl,?_⟩,?_⟩
    | refine⟨_,_,_,rfl,(.tail _ (.tail _ (.tail _ (.tail _ (.head _))))),⟨_,rfl,?_⟩,?_⟩
    | refine⟨_,_,_,rfl,(.tail _ (.tail _ (.tail _ (.tail _ (.tail _ (.head _)))))),⟨_,rfl,?_⟩,?_⟩
    | refine⟨_,_,_,rfl,(.tail _ (.tail _ (.tail _ (.tail _ (.tail _ (.tail _ (.head _))))))),⟨_,rfl,?_⟩,?_⟩
    | refine⟨_,_,_,rfl,(.head _),rfl,?_⟩
    | refine⟨_,_,_,rfl,(.tail _ (.head _)),rfl,?_⟩
    | refine⟨_,_,_,rfl,(.tail _ (.tail _ (.head _))),rfl,?_⟩
    | refine⟨_,_,_,rfl,(.tail _ (.tail _ (.tail _ (.head _)))),rfl,?_⟩
    | refine⟨_,_,_,rfl,(.tail _ (.tail _ (.tail _ (.tail _ (.head _))))),rfl,?_⟩
    | refine⟨_,_,_,rfl,(.tail _ (.tail _ (.tail _ (.tail _ (.tail _ (.head _)))))),rfl,?_⟩
    | refine⟨_,_,_,rfl,(.tail _ (.tail _ (.tail _ (.tail _ (.tail _ (.tail _ (.head _))))))),rfl,?_⟩
    | exact M5.nil
    | exact Ag.val
    | exact Ag.sl
    | exact Ag.nils
    | exact Ag.elt
    | exact Ag.ptr rfl
    | refine M5.cons ?_ ?_
   first | done | fail)
  (D:H8 ops σ ⟨dst,.call ⟨.value (.func f),xs,tys⟩,ty,pos,af,g⟩=some true:=by exact Ny)
  (hrd:My σ 3 (Od dsA)=rd:=by rfl) (hnd:Ph cx.np ps gs=true:=by rfl) (hfl:fl=true->Is d/\∀ lb∈b,Pt lb:=by first | (intro h; cases h; done) | exact fun _=>⟨by simp [Is,K8],by simp [Pt,K8,Is]⟩)
  (hok:Iy Rt i true (nb + 8 * i) rd (ps ++ gs) lg=true:=by rfl) (hr:G4 d=[]:=by rfl) (hl:b.length=ps.length:=by rfl) (hb:b.flatMap eO=[]:=by rfl) :
  Chain (Bp P cx fz) ops Rt nb (Ea i (⟨dst,.call ⟨.value (.func f),xs,tys⟩,ty,pos,af,g⟩ :: l)) lg σ Q:=
 Y8 fl D hF hds hrd hA hB hnd hfl hok hr hl hb k
end
class vE {α:Type} (f:α->List C):Prop where
 h:∀ x,∀ c∈f x,X2 c=true
instance:vE eI:=⟨fun x c hc=>by rw [vX.1 hc]; rfl⟩
section
variable {P:Program} {cx:Cx} {ops:Array Oper} {Rt:Option (List Nat)} {nb i:Nat} {l:List Oper} {lg:aK} {σ:St} {Q:St->Prop} {fz:List Nat} {α:Type} {f:α->List C} {L:List α} {a:α} {n:Int} {m:Nat} {t:TypeId} {x y:Operand} {dst:Option Tmp} {ty:TypeId} {pos:String} {af:Array Edge} {g:Option (Nat×Bool)}
end
end Go.Proofs.YtfanepojdefdpaaGreat
