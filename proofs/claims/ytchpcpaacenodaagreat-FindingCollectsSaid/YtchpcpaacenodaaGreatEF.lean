import Derived.Test.YtchpcpaacenodaaGreatEE
set_option linter.unusedVariables false
set_option linter.unusedSimpArgs false
namespace Go.Proofs.YtchpcpaacenodaaGreat
open Go.RowKit
abbrev vk (x:Int):DV:=.val (.int .i64 x)
abbrev ws (x:ByteArray):DV:=.val (.string x)
class Qj (P:Program) (t:TypeId) (ag:outParam Bool) (sz:outParam Nat):Prop where
 h:Ty P t ag sz
class La (P:Program) (s:TypeId) (f:Nat) (off:outParam Nat) (ft:outParam TypeId):Prop where
 h:Fd P s f off ft
class iJ (P:Program) (t:TypeId) (e sz bytes:outParam Nat):Prop where
 h:Jd P t e sz bytes
class Za (P:Program) (t:TypeId) (z:outParam (List Value)):Prop where
 h:Zt P t z
class Xa {α:Type} (f:α->List C) (sz:outParam Nat):Prop where
 h:∀ x,(f x).length=sz
instance:Xa eI 1:=⟨Jo⟩
instance {k:IntKind}:Xa (eK k) 1:=⟨aBd k⟩
instance:Xa e8 1:=⟨Ke⟩
instance:Xa eS 1:=⟨aK⟩
instance:Xa eB 1:=⟨aCj⟩
instance {α:Type} {sz:Nat} {f:α->List C}:Xa (eL sz f) 1:=⟨kL sz f⟩
section
variable {P:Program} {cx:Cx} {ops:Array Oper} {Rt:Option (List Nat)} {nb i:Nat} {l:List Oper} {lg lg':kJ} {σ σ':St} {Q:St->Prop} {fz:List Nat} {m':List (Nat×Oper)}
def Gm (P:Program) (cx:Cx) (fz:List Nat) (ops:Array Oper) (Rt:Option (List Nat)) (nb:Nat) (m:List (Nat×Oper)) (lg:kJ) (σ:St) (m':List (Nat×Oper)) (lg':kJ) (σ':St):Prop:=∀ Q,Chain (B6 P cx fz) ops Rt nb m' lg' σ' Q->Chain (B6 P cx fz) ops Rt nb m lg σ Q
theorem Gm.z {m:List (Nat×Oper)}:Gm P cx fz ops Rt nb m lg σ m lg σ:=fun _ h=>h
theorem Gm.s {dst:Option Tmp} {op:Op} {ty:TypeId} {pos:String} {af:Array Edge} {g:Option (Nat×Bool)} {ds:List (DV×Option LB)} {rd wr:List Nat} {e:Mj} (hds:E3 σ (Kh op) op.operands.toList=some ds) (h:F5 P (nb + 8 * i) op ty ds wr e)
  (k:Gm P cx fz ops Rt nb (idx (i + 1) l) ((i,false,nb + 8 * i,rd,wr) :: lg) (σ.app dst e) m' lg' σ') (G:Km ops σ ⟨dst,op,ty,pos,af,g⟩=some true) (hrd:(bif Kh op then K3 (L1 op) ds else [])=rd)
  (hok:(K9 Rt i false (nb + 8 * i) rd wr lg && (Nat.beq (zM fz (nb + 8 * i)) 0 && Pu cx.np op wr))=true) :
  Gm P cx fz ops Rt nb (idx i (⟨dst,op,ty,pos,af,g⟩ :: l)) lg σ m' lg' σ':=fun Q hq=>by
 simp only [aGc] at hok
 exact Fi G hds h hrd hok.1 (k Q hq) (aGa hok.2.1) hok.2.2
theorem Gm.k {dst:Option Tmp} {op:Op} {ty:TypeId} {pos:String} {af:Array Edge} {g:Nat×Bool} (G:Km ops σ ⟨dst,op,ty,pos,af,some g⟩=some false)
  (hok:K9 Rt i false (nb + 8 * i) [] [] lg=true) (k:Gm P cx fz ops Rt nb (idx (i + 1) l) ((i,false,nb + 8 * i,[],[]) :: lg) (σ.app dst lD) m' lg' σ') :
  Gm P cx fz ops Rt nb (idx i (⟨dst,op,ty,pos,af,some g⟩ :: l)) lg σ m' lg' σ':=fun Q hq=>wP G hok (k Q hq)
theorem aEh {dst:Option Tmp} {op:Op} {ty:TypeId} {pos:String} {af:Array Edge}:Km ops σ ⟨dst,op,ty,pos,af,none⟩=some true:=rfl
theorem aC4 {dst:Option Tmp} {op:Op} {ty:TypeId} {pos:String} {af:Array Edge} {g:Nat} {c:Bool} {t:Tmp} (ht:(ops[g]?).bind (·.dst)=some t) (hF:σ.F t=some (.val (.bool c))) (hc:c=false):Km ops σ ⟨dst,op,ty,pos,af,some (g,true)⟩=some false:=zP ht hF hc
theorem aAk {dst:Option Tmp} {op:Op} {ty:TypeId} {pos:String} {af:Array Edge} {g:Nat} {c:Bool} {t:Tmp} (ht:(ops[g]?).bind (·.dst)=some t) (hF:σ.F t=some (.val (.bool c))) (hc:c=true):Km ops σ ⟨dst,op,ty,pos,af,some (g,false)⟩=some false:=zP ht hF hc
theorem aE8 {dst:Option Tmp} {op:Op} {ty:TypeId} {pos:String} {af:Array Edge} {g:Nat} {b:Bool} {t:Tmp} (ht:(ops[g]?).bind (·.dst)=some t) (hF:σ.F t=some (.val undef)):Km ops σ ⟨dst,op,ty,pos,af,some (g,b)⟩=some false:=by
 unfold Km
 simp only []
 rw [ht]
 simp only []
 rw [hF]
 rfl
theorem aFu {α:Type} {l t t':List α} {x:α} (h:l=x :: t) (k:t=t'):l=x :: t':=by rw [h,k]
variable {dst:Option Tmp} {ty:TypeId} {pos:String} {af:Array Edge} {g:Option (Nat×Bool)}
theorem Gm.move {x:Operand} {d:DV} {q:Option LB} (hds:E3 σ false [x]=some [(d,q)])  (G:Km ops σ ⟨dst,.move x,ty,pos,af,g⟩=some true)
  (hok:(K9 Rt i false (nb + 8 * i) [] [] lg && (Nat.beq (zM fz (nb + 8 * i)) 0 && Pu cx.np (.move x) []))=true) (k:Gm P cx fz ops Rt nb (idx (i + 1) l) ((i,false,nb + 8 * i,[],[]) :: lg) (σ.app dst (v0 d)) m' lg' σ'):Gm P cx fz ops Rt nb (idx i (⟨dst,.move x,ty,pos,af,g⟩ :: l)) lg σ m' lg' σ':=
 Gm.s hds (.move) k G rfl hok
theorem Gm.assign {x:Operand} {d:DV} {q:Option LB} (hds:E3 σ false [x]=some [(d,q)])  (G:Km ops σ ⟨dst,.assign x,ty,pos,af,g⟩=some true)
  (hok:(K9 Rt i false (nb + 8 * i) [] [] lg && (Nat.beq (zM fz (nb + 8 * i)) 0 && Pu cx.np (.assign x) []))=true) (k:Gm P cx fz ops Rt nb (idx (i + 1) l) ((i,false,nb + 8 * i,[],[]) :: lg) (σ.app dst (v0 d)) m' lg' σ'):Gm P cx fz ops Rt nb (idx i (⟨dst,.assign x,ty,pos,af,g⟩ :: l)) lg σ m' lg' σ':=
 Gm.s hds (.assign) k G rfl hok
theorem Gm.fieldP {x:Operand} {s f k j off ft sz:Nat} {ag:Bool} {q:Option LB} [F:La P s f off ft] [T:Qj P ft ag sz] (hds:E3 σ false [x]=some [(.ptr k j,q)]) (hz0:Nat.blt 0 sz=true) (G:Km ops σ ⟨dst,.fieldAddr s x f,ty,pos,af,g⟩=some true)
  (hok:(K9 Rt i false (nb + 8 * i) [] [] lg && (Nat.beq (zM fz (nb + 8 * i)) 0 && Pu cx.np (.fieldAddr s x f) []))=true) (k:Gm P cx fz ops Rt nb (idx (i + 1) l) ((i,false,nb + 8 * i,[],[]) :: lg) (σ.app dst (v0 (.ptr k (j + off)))) m' lg' σ'):Gm P cx fz ops Rt nb (idx i (⟨dst,.fieldAddr s x f,ty,pos,af,g⟩ :: l)) lg σ m' lg' σ':=
 Gm.s hds (.fieldP F.h T.h (aD6 hz0)) k G rfl hok
theorem Gm.load1 {x:Operand} {t k j bt sz:Nat} {ds:List DV} {d:DV} [T:Qj P t false sz] (hds:E3 σ true [x]=some [(.ptr k j,some (.box ds bt))]) (hd:ds[j]?=some d) (G:Km ops σ ⟨dst,.load t x,ty,pos,af,g⟩=some true)
  (hok:(K9 Rt i false (nb + 8 * i) [k] [] lg && (Nat.beq (zM fz (nb + 8 * i)) 0 && Pu cx.np (.load t x) []))=true) (k:Gm P cx fz ops Rt nb (idx (i + 1) l) ((i,false,nb + 8 * i,[k],[]) :: lg) (σ.app dst (v0 d)) m' lg' σ'):Gm P cx fz ops Rt nb (idx i (⟨dst,.load t x,ty,pos,af,g⟩ :: l)) lg σ m' lg' σ':=
 Gm.s hds (.loadB1 T.h hd) k G rfl hok
theorem Gm.loadA {x:Operand} {t k j bt sz:Nat} {ds:List DV} [T:Qj P t true sz] (hds:E3 σ true [x]=some [(.ptr k j,some (.box ds bt))]) (hd:Nat.ble (j + sz) ds.length=true) (G:Km ops σ ⟨dst,.load t x,ty,pos,af,g⟩=some true)
  (hok:(K9 Rt i false (nb + 8 * i) [k] [] lg && (Nat.beq (zM fz (nb + 8 * i)) 0 && Pu cx.np (.load t x) []))=true) (k:Gm P cx fz ops Rt nb (idx (i + 1) l) ((i,false,nb + 8 * i,[k],[]) :: lg) (σ.app dst (v0 (.agg ((ds.drop j).take sz)))) m' lg' σ'):Gm P cx fz ops Rt nb (idx i (⟨dst,.load t x,ty,pos,af,g⟩ :: l)) lg σ m' lg' σ':=
 Gm.s hds (.loadBA T.h (aD6 hd)) k G rfl hok
theorem Gm.pickF {x y z:Operand} {c:Bool} {d1 d2:DV} {q1 q2 q3:Option LB} (hds:E3 σ false [x,y,z]=some [(.val (.bool c),q1),(d1,q2),(d2,q3)]) (hc:c=false) (G:Km ops σ ⟨dst,.pick x y z,ty,pos,af,g⟩=some true)
  (hok:(K9 Rt i false (nb + 8 * i) [] [] lg && (Nat.beq (zM fz (nb + 8 * i)) 0 && Pu cx.np (.pick x y z) []))=true) (k:Gm P cx fz ops Rt nb (idx (i + 1) l) ((i,false,nb + 8 * i,[],[]) :: lg) (σ.app dst (v0 d2)) m' lg' σ'):Gm P cx fz ops Rt nb (idx i (⟨dst,.pick x y z,ty,pos,af,g⟩ :: l)) lg σ m' lg' σ':=
 Gm.s hds (yJ hc) k G rfl hok
theorem Gm.pickT {x y z:Operand} {c:Bool} {d1 d2:DV} {q1 q2 q3:Option LB} (hds:E3 σ false [x,y,z]=some [(.val (.bool c),q1),(d1,q2),(d2,q3)]) (hc:c=true) (G:Km ops σ ⟨dst,.pick x y z,ty,pos,af,g⟩=some true)
  (hok:(K9 Rt i false (nb + 8 * i) [] [] lg && (Nat.beq (zM fz (nb + 8 * i)) 0 && Pu cx.np (.pick x y z) []))=true) (k:Gm P cx fz ops Rt nb (idx (i + 1) l) ((i,false,nb + 8 * i,[],[]) :: lg) (σ.app dst (v0 d1)) m' lg' σ'):Gm P cx fz ops Rt nb (idx i (⟨dst,.pick x y z,ty,pos,af,g⟩ :: l)) lg σ m' lg' σ':=
 Gm.s hds (xL hc) k G rfl hok
theorem Gm.storeB {x y:Operand} {t k j bt sz:Nat} {ag:Bool} {ds ds':List DV} {d:DV} {q:Option LB} {rd:List Nat} [T:Qj P t ag sz] (hds:E3 σ true [x,y]=some [(.ptr k j,some (.box ds bt)),(d,q)]) (hs:(Da d).length=sz) (hi:Nat.ble (j + sz) ds.length=true) (ho:(Da d).all Zm=true) (hn:Dw ds j (Da d)=ds') (hr:K3 false [(DV.ptr k j,some (LB.box ds bt)),(d,q)]=rd) (G:Km ops σ ⟨dst,.store t x y,ty,pos,af,g⟩=some true)
  (hok:(K9 Rt i false (nb + 8 * i) rd [k] lg && (Nat.beq (zM fz (nb + 8 * i)) 0 && Pu cx.np (.store t x y) [k]))=true) (k:Gm P cx fz ops Rt nb (idx (i + 1) l) ((i,false,nb + 8 * i,rd,[k]) :: lg) (σ.app dst (oV k (.box ds' bt))) m' lg' σ'):Gm P cx fz ops Rt nb (idx i (⟨dst,.store t x y,ty,pos,af,g⟩ :: l)) lg σ m' lg' σ':=
 Gm.s hds (tW T.h hs (aD6 hi) ho hn) k G hr hok
theorem Gm.extract {x:Operand} {n:Nat} {ds:List DV} {d:DV} {q:Option LB} (hds:E3 σ false [x]=some [(.tup ds,q)]) (hd:ds[n]?=some d) (G:Km ops σ ⟨dst,.extract x n,ty,pos,af,g⟩=some true)
  (hok:(K9 Rt i false (nb + 8 * i) [] [] lg && (Nat.beq (zM fz (nb + 8 * i)) 0 && Pu cx.np (.extract x n) []))=true) (k:Gm P cx fz ops Rt nb (idx (i + 1) l) ((i,false,nb + 8 * i,[],[]) :: lg) (σ.app dst (v0 d)) m' lg' σ'):Gm P cx fz ops Rt nb (idx i (⟨dst,.extract x n,ty,pos,af,g⟩ :: l)) lg σ m' lg' σ':=
 Gm.s hds (.extract hd) k G rfl hok
theorem Gm.lss {x y:Operand} {t yt:TypeId} {kk:IntKind} {a b:Int} {q1 q2:Option LB} (hds:E3 σ false [x,y]=some [(.val (.int kk a),q1),(.val (.int kk b),q2)])  (G:Km ops σ ⟨dst,.binOp .lss t x y yt,ty,pos,af,g⟩=some true)
  (hok:(K9 Rt i false (nb + 8 * i) [] [] lg && (Nat.beq (zM fz (nb + 8 * i)) 0 && Pu cx.np (.binOp .lss t x y yt) []))=true) (k:Gm P cx fz ops Rt nb (idx (i + 1) l) ((i,false,nb + 8 * i,[],[]) :: lg) (σ.app dst (v0 (.val (.bool (decide (a < b)))))) m' lg' σ'):Gm P cx fz ops Rt nb (idx i (⟨dst,.binOp .lss t x y yt,ty,pos,af,g⟩ :: l)) lg σ m' lg' σ':=
 Gm.s hds (aEk) k G rfl hok
theorem Gm.eql {x y:Operand} {t yt:TypeId} {kk:IntKind} {a b:Int} {q1 q2:Option LB} (hds:E3 σ false [x,y]=some [(.val (.int kk a),q1),(.val (.int kk b),q2)])  (G:Km ops σ ⟨dst,.binOp .eql t x y yt,ty,pos,af,g⟩=some true)
  (hok:(K9 Rt i false (nb + 8 * i) [] [] lg && (Nat.beq (zM fz (nb + 8 * i)) 0 && Pu cx.np (.binOp .eql t x y yt) []))=true) (k:Gm P cx fz ops Rt nb (idx (i + 1) l) ((i,false,nb + 8 * i,[],[]) :: lg) (σ.app dst (v0 (.val (.bool (decide (a=b)))))) m' lg' σ'):Gm P cx fz ops Rt nb (idx i (⟨dst,.binOp .eql t x y yt,ty,pos,af,g⟩ :: l)) lg σ m' lg' σ':=
 Gm.s hds (aF1) k G rfl hok
theorem Gm.gtr {x y:Operand} {t yt:TypeId} {kk:IntKind} {a b:Int} {q1 q2:Option LB} (hds:E3 σ false [x,y]=some [(.val (.int kk a),q1),(.val (.int kk b),q2)])  (G:Km ops σ ⟨dst,.binOp .gtr t x y yt,ty,pos,af,g⟩=some true)
  (hok:(K9 Rt i false (nb + 8 * i) [] [] lg && (Nat.beq (zM fz (nb + 8 * i)) 0 && Pu cx.np (.binOp .gtr t x y yt) []))=true) (k:Gm P cx fz ops Rt nb (idx (i + 1) l) ((i,false,nb + 8 * i,[],[]) :: lg) (σ.app dst (v0 (.val (.bool (decide (b < a)))))) m' lg' σ'):Gm P cx fz ops Rt nb (idx i (⟨dst,.binOp .gtr t x y yt,ty,pos,af,g⟩ :: l)) lg σ m' lg' σ':=
 Gm.s hds (aFw) k G rfl hok
theorem Gm.leq {x y:Operand} {t yt:TypeId} {kk:IntKind} {a b:Int} {q1 q2:Option LB} (hds:E3 σ false [x,y]=some [(.val (.int kk a),q1),(.val (.int kk b),q2)])  (G:Km ops σ ⟨dst,.binOp .leq t x y yt,ty,pos,af,g⟩=some true)
  (hok:(K9 Rt i false (nb + 8 * i) [] [] lg && (Nat.beq (zM fz (nb + 8 * i)) 0 && Pu cx.np (.binOp .leq t x y yt) []))=true) (k:Gm P cx fz ops Rt nb (idx (i + 1) l) ((i,false,nb + 8 * i,[],[]) :: lg) (σ.app dst (v0 (.val (.bool (decide (a<=b)))))) m' lg' σ'):Gm P cx fz ops Rt nb (idx i (⟨dst,.binOp .leq t x y yt,ty,pos,af,g⟩ :: l)) lg σ m' lg' σ':=
 Gm.s hds (aF4) k G rfl hok
theorem Gm.geq {x y:Operand} {t yt:TypeId} {kk:IntKind} {a b:Int} {q1 q2:Option LB} (hds:E3 σ false [x,y]=some [(.val (.int kk a),q1),(.val (.int kk b),q2)])  (G:Km ops σ ⟨dst,.binOp .geq t x y yt,ty,pos,af,g⟩=some true)
  (hok:(K9 Rt i false (nb + 8 * i) [] [] lg && (Nat.beq (zM fz (nb + 8 * i)) 0 && Pu cx.np (.binOp .geq t x y yt) []))=true) (k:Gm P cx fz ops Rt nb (idx (i + 1) l) ((i,false,nb + 8 * i,[],[]) :: lg) (σ.app dst (v0 (.val (.bool (decide (b<=a)))))) m' lg' σ'):Gm P cx fz ops Rt nb (idx i (⟨dst,.binOp .geq t x y yt,ty,pos,af,g⟩ :: l)) lg σ m' lg' σ':=
 Gm.s hds (aEy) k G rfl hok
theorem Gm.neq {x y:Operand} {t yt:TypeId} {kk:IntKind} {a b:Int} {q1 q2:Option LB} (hds:E3 σ false [x,y]=some [(.val (.int kk a),q1),(.val (.int kk b),q2)])  (G:Km ops σ ⟨dst,.binOp .neq t x y yt,ty,pos,af,g⟩=some true)
  (hok:(K9 Rt i false (nb + 8 * i) [] [] lg && (Nat.beq (zM fz (nb + 8 * i)) 0 && Pu cx.np (.binOp .neq t x y yt) []))=true) (k:Gm P cx fz ops Rt nb (idx (i + 1) l) ((i,false,nb + 8 * i,[],[]) :: lg) (σ.app dst (v0 (.val (.bool (!decide (a=b)))))) m' lg' σ'):Gm P cx fz ops Rt nb (idx i (⟨dst,.binOp .neq t x y yt,ty,pos,af,g⟩ :: l)) lg σ m' lg' σ':=
 Gm.s hds (aFx) k G rfl hok
theorem Gm.seql {x y:Operand} {t yt:TypeId} {a b:ByteArray} {q1 q2:Option LB} (hds:E3 σ false [x,y]=some [(.val (.string a),q1),(.val (.string b),q2)])  (G:Km ops σ ⟨dst,.binOp .eql t x y yt,ty,pos,af,g⟩=some true)
  (hok:(K9 Rt i false (nb + 8 * i) [] [] lg && (Nat.beq (zM fz (nb + 8 * i)) 0 && Pu cx.np (.binOp .eql t x y yt) []))=true) (k:Gm P cx fz ops Rt nb (idx (i + 1) l) ((i,false,nb + 8 * i,[],[]) :: lg) (σ.app dst (v0 (.val (.bool (decide (a=b)))))) m' lg' σ'):Gm P cx fz ops Rt nb (idx i (⟨dst,.binOp .eql t x y yt,ty,pos,af,g⟩ :: l)) lg σ m' lg' σ':=
 Gm.s hds (aA8) k G rfl hok
theorem Gm.sneq {x y:Operand} {t yt:TypeId} {a b:ByteArray} {q1 q2:Option LB} (hds:E3 σ false [x,y]=some [(.val (.string a),q1),(.val (.string b),q2)])  (G:Km ops σ ⟨dst,.binOp .neq t x y yt,ty,pos,af,g⟩=some true)
  (hok:(K9 Rt i false (nb + 8 * i) [] [] lg && (Nat.beq (zM fz (nb + 8 * i)) 0 && Pu cx.np (.binOp .neq t x y yt) []))=true) (k:Gm P cx fz ops Rt nb (idx (i + 1) l) ((i,false,nb + 8 * i,[],[]) :: lg) (σ.app dst (v0 (.val (.bool (!decide (a=b)))))) m' lg' σ'):Gm P cx fz ops Rt nb (idx i (⟨dst,.binOp .neq t x y yt,ty,pos,af,g⟩ :: l)) lg σ m' lg' σ':=
 Gm.s hds (aBz) k G rfl hok
theorem Gm.add {x y:Operand} {t yt:TypeId} {a b:Int} {q1 q2:Option LB} (hds:E3 σ false [x,y]=some [(.val (.int .i64 a),q1),(.val (.int .i64 b),q2)])  (G:Km ops σ ⟨dst,.binOp .add t x y yt,ty,pos,af,g⟩=some true)
  (hok:(K9 Rt i false (nb + 8 * i) [] [] lg && (Nat.beq (zM fz (nb + 8 * i)) 0 && Pu cx.np (.binOp .add t x y yt) []))=true) (k:Gm P cx fz ops Rt nb (idx (i + 1) l) ((i,false,nb + 8 * i,[],[]) :: lg) (σ.app dst (v0 (.val (.int .i64 (W (a + b)))))) m' lg' σ'):Gm P cx fz ops Rt nb (idx i (⟨dst,.binOp .add t x y yt,ty,pos,af,g⟩ :: l)) lg σ m' lg' σ':=
 Gm.s hds (zN) k G rfl hok
theorem Gm.sub {x y:Operand} {t yt:TypeId} {a b:Int} {q1 q2:Option LB} (hds:E3 σ false [x,y]=some [(.val (.int .i64 a),q1),(.val (.int .i64 b),q2)])  (G:Km ops σ ⟨dst,.binOp .sub t x y yt,ty,pos,af,g⟩=some true)
  (hok:(K9 Rt i false (nb + 8 * i) [] [] lg && (Nat.beq (zM fz (nb + 8 * i)) 0 && Pu cx.np (.binOp .sub t x y yt) []))=true) (k:Gm P cx fz ops Rt nb (idx (i + 1) l) ((i,false,nb + 8 * i,[],[]) :: lg) (σ.app dst (v0 (.val (.int .i64 (W (a - b)))))) m' lg' σ'):Gm P cx fz ops Rt nb (idx i (⟨dst,.binOp .sub t x y yt,ty,pos,af,g⟩ :: l)) lg σ m' lg' σ':=
 Gm.s hds (aE9) k G rfl hok
theorem Gm.mul {x y:Operand} {t yt:TypeId} {a b:Int} {q1 q2:Option LB} (hds:E3 σ false [x,y]=some [(.val (.int .i64 a),q1),(.val (.int .i64 b),q2)])  (G:Km ops σ ⟨dst,.binOp .mul t x y yt,ty,pos,af,g⟩=some true)
  (hok:(K9 Rt i false (nb + 8 * i) [] [] lg && (Nat.beq (zM fz (nb + 8 * i)) 0 && Pu cx.np (.binOp .mul t x y yt) []))=true) (k:Gm P cx fz ops Rt nb (idx (i + 1) l) ((i,false,nb + 8 * i,[],[]) :: lg) (σ.app dst (v0 (.val (.int .i64 (W (a * b)))))) m' lg' σ'):Gm P cx fz ops Rt nb (idx i (⟨dst,.binOp .mul t x y yt,ty,pos,af,g⟩ :: l)) lg σ m' lg' σ':=
 Gm.s hds (aEf) k G rfl hok
theorem Gm.alloc {t:TypeId} {z:List Value} [Z:Za P t z] (hds:E3 σ false []=some [])  (G:Km ops σ ⟨dst,.alloc t,ty,pos,af,g⟩=some true)
  (hok:(K9 Rt i false (nb + 8 * i) [] [] lg && (Nat.beq (zM fz (nb + 8 * i)) 0 && Pu cx.np (.alloc t) []))=true) (k:Gm P cx fz ops Rt nb (idx (i + 1) l) ((i,false,nb + 8 * i,[],[]) :: lg) (σ.app dst (Om (nb + 8 * i) (.box (z.map .val) t) (.ptr (nb + 8 * i) 0))) m' lg' σ'):Gm P cx fz ops Rt nb (idx i (⟨dst,.alloc t,ty,pos,af,g⟩ :: l)) lg σ m' lg' σ':=
 Gm.s hds (.alloc Z.h) k G rfl hok
theorem Gm.box {x:Operand} {t:TypeId} {d:DV} {q:Option LB} (hds:E3 σ false [x]=some [(d,q)]) (ho:(Da d).all Zm=true) (G:Km ops σ ⟨dst,.box t x,ty,pos,af,g⟩=some true)
  (hok:(K9 Rt i false (nb + 8 * i) [] [] lg && (Nat.beq (zM fz (nb + 8 * i)) 0 && Pu cx.np (.box t x) []))=true) (k:Gm P cx fz ops Rt nb (idx (i + 1) l) ((i,false,nb + 8 * i,[],[]) :: lg) (σ.app dst (Om (nb + 8 * i) (.box (Da d) t) (.ptr (nb + 8 * i) 0))) m' lg' σ'):Gm P cx fz ops Rt nb (idx i (⟨dst,.box t x,ty,pos,af,g⟩ :: l)) lg σ m' lg' σ':=
 Gm.s hds (.box ho) k G rfl hok
theorem Gm.not {x:Operand} {t:TypeId} {b:Bool} {q:Option LB} (hds:E3 σ false [x]=some [(.val (.bool b),q)])  (G:Km ops σ ⟨dst,.unOp .not t x,ty,pos,af,g⟩=some true)
  (hok:(K9 Rt i false (nb + 8 * i) [] [] lg && (Nat.beq (zM fz (nb + 8 * i)) 0 && Pu cx.np (.unOp .not t x) []))=true) (k:Gm P cx fz ops Rt nb (idx (i + 1) l) ((i,false,nb + 8 * i,[],[]) :: lg) (σ.app dst (v0 (.val (.bool (!b))))) m' lg' σ'):Gm P cx fz ops Rt nb (idx i (⟨dst,.unOp .not t x,ty,pos,af,g⟩ :: l)) lg σ m' lg' σ':=
 Gm.s hds (aD9) k G rfl hok
theorem Gm.lenS {α:Type} {f:α->List C} {L:List α} {x:Operand} {t e sz by_:Nat} {q:Option LB} [S:iJ P t e sz by_] (hds:E3 σ true [x]=some [(.sl sz (Aq f L),q)]) (E:Xa f sz) (G:Km ops σ ⟨dst,.call ⟨.builtin .len,#[x],#[t]⟩,ty,pos,af,g⟩=some true)
  (hok:(K9 Rt i false (nb + 8 * i) [] [] lg && (Nat.beq (zM fz (nb + 8 * i)) 0 && Pu cx.np (.call ⟨.builtin .len,#[x],#[t]⟩) []))=true) (k:Gm P cx fz ops Rt nb (idx (i + 1) l) ((i,false,nb + 8 * i,[],[]) :: lg) (σ.app dst (v0 (.val (.int .i64 (L.length:Int))))) m' lg' σ'):Gm P cx fz ops Rt nb (idx i (⟨dst,.call ⟨.builtin .len,#[x],#[t]⟩,ty,pos,af,g⟩ :: l)) lg σ m' lg' σ':=
 Gm.s hds (aCn S.h E.h) k G rfl hok
theorem Gm.lenR {α:Type} {f:α->List C} {L:List α} {x:Operand} {t e e' sz by_ k:Nat} [S:iJ P t e sz by_] (hds:E3 σ true [x]=some [(.row k,some (.row e' sz (Aq f L)))]) (E:Xa f sz) (G:Km ops σ ⟨dst,.call ⟨.builtin .len,#[x],#[t]⟩,ty,pos,af,g⟩=some true)
  (hok:(K9 Rt i false (nb + 8 * i) [k] [] lg && (Nat.beq (zM fz (nb + 8 * i)) 0 && Pu cx.np (.call ⟨.builtin .len,#[x],#[t]⟩) []))=true) (k:Gm P cx fz ops Rt nb (idx (i + 1) l) ((i,false,nb + 8 * i,[k],[]) :: lg) (σ.app dst (v0 (.val (.int .i64 (L.length:Int))))) m' lg' σ'):Gm P cx fz ops Rt nb (idx i (⟨dst,.call ⟨.builtin .len,#[x],#[t]⟩,ty,pos,af,g⟩ :: l)) lg σ m' lg' σ':=
 Gm.s hds (aDo S.h E.h) k G rfl hok
theorem Gm.idxS {α:Type} {f:α->List C} {L:List α} {a:α} {x y:Operand} {t e sz by_:Nat} {kk:IntKind} {n:Int} {q1 q2:Option LB} [S:iJ P t e sz by_] (hds:E3 σ true [x,y]=some [(.sl sz (Aq f L),q1),(.val (.int kk n),q2)]) (E:Xa f sz) (hx:B8 L n=some a) (G:Km ops σ ⟨dst,.indexAddr t x y,ty,pos,af,g⟩=some true)
  (hok:(K9 Rt i false (nb + 8 * i) [] [] lg && (Nat.beq (zM fz (nb + 8 * i)) 0 && Pu cx.np (.indexAddr t x y) []))=true) (k:Gm P cx fz ops Rt nb (idx (i + 1) l) ((i,false,nb + 8 * i,[],[]) :: lg) (σ.app dst (v0 (.elt ((Aq f L).drop (n.toNat * sz))))) m' lg' σ'):Gm P cx fz ops Rt nb (idx i (⟨dst,.indexAddr t x y,ty,pos,af,g⟩ :: l)) lg σ m' lg' σ':=
 Gm.s hds (aCa S.h E.h (Up hx) (Bq hx)) k G rfl hok
theorem Gm.idxR {α:Type} {f:α->List C} {L:List α} {a:α} {x y:Operand} {t e e' sz by_ k:Nat} {kk:IntKind} {n:Int} {q2:Option LB} [S:iJ P t e sz by_] (hds:E3 σ true [x,y]=some [(.row k,some (.row e' sz (Aq f L))),(.val (.int kk n),q2)]) (E:Xa f sz) (hx:B8 L n=some a) (G:Km ops σ ⟨dst,.indexAddr t x y,ty,pos,af,g⟩=some true)
  (hok:(K9 Rt i false (nb + 8 * i) [k] [] lg && (Nat.beq (zM fz (nb + 8 * i)) 0 && Pu cx.np (.indexAddr t x y) []))=true) (k:Gm P cx fz ops Rt nb (idx (i + 1) l) ((i,false,nb + 8 * i,[k],[]) :: lg) (σ.app dst (v0 (.ptr k (n.toNat * sz)))) m' lg' σ'):Gm P cx fz ops Rt nb (idx i (⟨dst,.indexAddr t x y,ty,pos,af,g⟩ :: l)) lg σ m' lg' σ':=
 Gm.s hds (aAh S.h E.h (Up hx) (Bq hx)) k G rfl hok
theorem Gm.nilP {x:Operand} {k j:Nat} {q:Option LB} (hds:E3 σ false [x]=some [(.ptr k j,q)])  (G:Km ops σ ⟨dst,.nilCheck x,ty,pos,af,g⟩=some true)
  (hok:(K9 Rt i false (nb + 8 * i) [] [] lg && (Nat.beq (zM fz (nb + 8 * i)) 0 && Pu cx.np (.nilCheck x) []))=true) (k:Gm P cx fz ops Rt nb (idx (i + 1) l) ((i,false,nb + 8 * i,[],[]) :: lg) (σ.app dst (v0 (.ptr k j))) m' lg' σ'):Gm P cx fz ops Rt nb (idx i (⟨dst,.nilCheck x,ty,pos,af,g⟩ :: l)) lg σ m' lg' σ':=
 Gm.s hds (.nilP) k G rfl hok
theorem Gm.nilE {x:Operand} {cs:List C} {q:Option LB} (hds:E3 σ false [x]=some [(.elt cs,q)])  (G:Km ops σ ⟨dst,.nilCheck x,ty,pos,af,g⟩=some true)
  (hok:(K9 Rt i false (nb + 8 * i) [] [] lg && (Nat.beq (zM fz (nb + 8 * i)) 0 && Pu cx.np (.nilCheck x) []))=true) (k:Gm P cx fz ops Rt nb (idx (i + 1) l) ((i,false,nb + 8 * i,[],[]) :: lg) (σ.app dst (v0 (.elt cs))) m' lg' σ'):Gm P cx fz ops Rt nb (idx i (⟨dst,.nilCheck x,ty,pos,af,g⟩ :: l)) lg σ m' lg' σ':=
 Gm.s hds (.nilE) k G rfl hok
theorem Gm.field1 {x:Operand} {s f off ft sz:Nat} {ds:List DV} {d:DV} {q:Option LB} [F:La P s f off ft] [T:Qj P ft false sz] (hds:E3 σ false [x]=some [(.agg ds,q)]) (hd:ds[off]?=some d) (G:Km ops σ ⟨dst,.field s x f,ty,pos,af,g⟩=some true)
  (hok:(K9 Rt i false (nb + 8 * i) [] [] lg && (Nat.beq (zM fz (nb + 8 * i)) 0 && Pu cx.np (.field s x f) []))=true) (k:Gm P cx fz ops Rt nb (idx (i + 1) l) ((i,false,nb + 8 * i,[],[]) :: lg) (σ.app dst (v0 d)) m' lg' σ'):Gm P cx fz ops Rt nb (idx i (⟨dst,.field s x f,ty,pos,af,g⟩ :: l)) lg σ m' lg' σ':=
 Gm.s hds (.field1 F.h T.h hd) k G rfl hok
theorem Gm.fieldA {x:Operand} {s f off ft sz:Nat} {ds:List DV} {q:Option LB} [F:La P s f off ft] [T:Qj P ft true sz] (hds:E3 σ false [x]=some [(.agg ds,q)])  (G:Km ops σ ⟨dst,.field s x f,ty,pos,af,g⟩=some true)
  (hok:(K9 Rt i false (nb + 8 * i) [] [] lg && (Nat.beq (zM fz (nb + 8 * i)) 0 && Pu cx.np (.field s x f) []))=true) (k:Gm P cx fz ops Rt nb (idx (i + 1) l) ((i,false,nb + 8 * i,[],[]) :: lg) (σ.app dst (v0 (.agg ((ds.drop off).take sz)))) m' lg' σ'):Gm P cx fz ops Rt nb (idx i (⟨dst,.field s x f,ty,pos,af,g⟩ :: l)) lg σ m' lg' σ':=
 Gm.s hds (.fieldA F.h T.h) k G rfl hok
theorem Gm.makeF {f:Nat} {first caps:Array Operand} {ds:List (DV×Option LB)} (hds:E3 σ false (Op.makeFunc (.func f) first caps).operands.toList=some ds)  (G:Km ops σ ⟨dst,.makeFunc (.func f) first caps,ty,pos,af,g⟩=some true)
  (hok:(K9 Rt i false (nb + 8 * i) [] [] lg && (Nat.beq (zM fz (nb + 8 * i)) 0 && Pu cx.np (.makeFunc (.func f) first caps) []))=true) (k:Gm P cx fz ops Rt nb (idx (i + 1) l) ((i,false,nb + 8 * i,[],[]) :: lg) (σ.app dst (v0 (.clo f first.size (ds.map (·.1))))) m' lg' σ'):Gm P cx fz ops Rt nb (idx i (⟨dst,.makeFunc (.func f) first caps,ty,pos,af,g⟩ :: l)) lg σ m' lg' σ':=
 Gm.s hds (.makeFunc) k G rfl hok
theorem Q2 {p:Prop} (h:p:=by first | with_reducible exact aEh | exact Eb rfl rfl (by first | with_reducible assumption | with_reducible rfl | with_reducible exact oM (by with_reducible assumption) | with_reducible exact oI (by with_reducible assumption))):p:=h
theorem gm_ {p:Prop} (h:p:=by
  repeat first
   | (apply Gm.move; exact rfl; exact Q2; exact rfl)
   | (apply Gm.assign; exact rfl; exact Q2; exact rfl)
   | (apply Gm.fieldP; exact rfl; (exact rfl); exact Q2; exact rfl)
   | (apply Gm.load1; exact rfl; (exact rfl); exact Q2; exact rfl)
   | (apply Gm.loadA; exact rfl; (exact rfl); exact Q2; exact rfl)
   | (apply Gm.pickF; exact rfl; (first | with_reducible assumption | with_reducible rfl | with_reducible exact oM (by with_reducible assumption)); exact Q2; exact rfl)
   | (apply Gm.pickT; exact rfl; (first | with_reducible assumption | with_reducible rfl | with_reducible exact oI (by with_reducible assumption)); exact Q2; exact rfl)
   | (apply Gm.k; (first | exact aC4 rfl rfl (by first | with_reducible assumption | with_reducible rfl | with_reducible exact oM (by with_reducible assumption) | with_reducible exact oI (by with_reducible assumption)) | exact aAk rfl rfl (by first | with_reducible assumption | with_reducible rfl | with_reducible exact oM (by with_reducible assumption) | with_reducible exact oI (by with_reducible assumption)) | exact aE8 rfl rfl); exact rfl)
   | (apply Gm.storeB; exact rfl; (exact rfl); (exact rfl); (exact rfl); (focus repeat first | exact (rfl:_=[]) | (apply aFu; exact rfl)); (first | exact (rfl:_=[_]) | exact (rfl:_=[_,_]) | exact (rfl:_=[_,_,_])); exact Q2; exact rfl)
   | (apply Gm.extract; exact rfl; (exact rfl); exact Q2; exact rfl)
   | (apply Gm.lss; exact rfl; exact Q2; exact rfl)
   | (apply Gm.eql; exact rfl; exact Q2; exact rfl)
   | (apply Gm.gtr; exact rfl; exact Q2; exact rfl)
   | (apply Gm.leq; exact rfl; exact Q2; exact rfl)
   | (apply Gm.geq; exact rfl; exact Q2; exact rfl)
   | (apply Gm.neq; exact rfl; exact Q2; exact rfl)
   | (apply Gm.seql; exact rfl; exact Q2; exact rfl)
   | (apply Gm.sneq; exact rfl; exact Q2; exact rfl)
   | (apply Gm.add; exact rfl; exact Q2; exact rfl)
   | (apply Gm.sub; exact rfl; exact Q2; exact rfl)
   | (apply Gm.mul; exact rfl; exact Q2; exact rfl)
   | (apply Gm.alloc; exact rfl; exact Q2; exact rfl)
   | (apply Gm.box; exact rfl; (exact rfl); exact Q2; exact rfl)
   | (apply Gm.not; exact rfl; exact Q2; exact rfl)
   | (apply Gm.lenS; exact rfl; (exact inferInstance); exact Q2; exact rfl)
   | (apply Gm.lenR; exact rfl; (exact inferInstance); exact Q2; exact rfl)
   | (apply Gm.idxS; exact rfl; (exact inferInstance); (with_reducible assumption); exact Q2; exact rfl)
   | (apply Gm.idxR; exact rfl; (exact inferInstance); (with_reducible assumption); exact Q2; exact rfl)
   | (apply Gm.nilP; exact rfl; exact Q2; exact rfl)
   | (apply Gm.nilE; exact rfl; exact Q2; exact rfl)
   | (apply Gm.field1; exact rfl; (exact rfl); exact Q2; exact rfl)
   | (apply Gm.fieldA; exact rfl; exact Q2; exact rfl)
   | (apply Gm.makeF; exact rfl; exact Q2; exact rfl)
  exact Gm.z):p:=h
theorem As {m:List (Nat×Oper)} (k:Chain (B6 P cx fz) ops Rt nb m' lg' σ' Q) (h:Gm P cx fz ops Rt nb m lg σ m' lg' σ':=by exact gm_):Chain (B6 P cx fz) ops Rt nb m lg σ Q:=h Q k
end
theorem Dm {R:Type} {b:Bool} {X Y:Option R} {r:R} (G:cond b X Y=some r):(b=true/\X=some r)\/(b=false/\Y=some r):=by
 cases b with
 | true=>exact .inl ⟨rfl,G⟩
 | false=>exact .inr ⟨rfl,G⟩
section
variable {P:Program} {cx:Cx} {σ:St} {Q:Exit->St->Prop} {x y:Code}
theorem Cp {R:Type} {t:Nat} {b:Bool} {X Y:Option R} {r:R} (hc:σ.F t=some (.val (.bool b))) (G:cond b X Y=some r) (h1:b=true->X=some r->B3 P cx x Q σ) (h2:b=false->Y=some r->B3 P cx y Q σ):B3 P cx (.cond (.tmp t) x y) Q σ:=
 Jm hc (fun h=>h1 h (aAq h G)) fun h=>h2 h (aCq h G)
theorem Ar {fl:List (Nat×DV)} {ll:List (Nat×LB)} {n:Nat} (θ:List (Nat×Nat))
  (hF:xI σ (F8 θ) fl:=by
   repeat' first
    | exact trivial
    | refine⟨⟨_,rfl,?_⟩,?_⟩
    | exact Cv.val _
    | exact Cv.sl _ _
    | exact Cv.ptr rfl
    | exact Cv.row rfl
    | exact Cv.part rfl
    | exact Cv.nil rfl
    | exact Cv.nils _
    | exact Cv.elt _
    | exact Cv.mp _
    | refine Cv.clo _ _ ?_
    | refine Cv.agg ?_
    | refine Cv.tup ?_
    | refine Cv.clo _ _ ?_
    | exact S8.nil
    | refine S8.cons ?_ ?_
    | exact Cv.frzM rfl (Gz rfl)
    | exact Cv.frz rfl (Gz rfl))
  (hL:oQ σ (F8 θ) ll:=by
   repeat' first
    | exact trivial
    | refine⟨.inl ⟨_,_,rfl,rfl,⟨rfl,rfl,rfl⟩⟩,?_⟩
    | refine⟨.inl ⟨_,_,rfl,rfl,⟨rfl,?_⟩⟩,?_⟩
    | refine⟨.inr ⟨rfl,_,_,rfl⟩,?_⟩
    | exact Cv.val _
    | exact Cv.sl _ _
    | exact Cv.ptr rfl
    | exact Cv.row rfl
    | exact Cv.part rfl
    | exact Cv.nil rfl
    | exact Cv.nils _
    | exact Cv.elt _
    | exact Cv.mp _
    | refine Cv.clo _ _ ?_
    | refine Cv.agg ?_
    | exact S8.nil
    | refine S8.cons ?_ ?_
    | exact Cv.frzM rfl (Gz rfl)
    | exact Cv.frz rfl (Gz rfl))
  (hc:oX fl ll n θ=true:=by rfl) (hp:lY θ n cx.np=true:=by rfl):Ru cx σ (mk fl ll n):=Ru.lists θ hc hp hF hL
theorem Ji {S R:Type} {body:S->Option (Lp S R)} {s0:S} {r:R} (st:S->St) (G:Cl body s0=some r) (h0:Ru cx σ (st s0)) (round:∀ (s:S) (m:Nat) (o:Lp S R),body s=some o->bG (Og body m) o=some r->B3 P cx x (vI (fun σ'=>∃ j:S×Nat,j.2 < m + 1/\Og body j.2 j.1=some r/\Ru cx σ' (st j.1)) Q) (st s)):B3 P cx (.loop x) Q σ:=by
 obtain⟨n,G⟩:=Ul G
 refine uH (ι:=S×Nat) (fun q=>st q.1) (fun q=>Og body q.2 q.1=some r) (fun q=>q.2) (s0,n) h0 G ?_
 rintro⟨s,k⟩ hk
 obtain⟨m,o,rfl,h1,h2⟩:=qL (show Og body k s=some r from hk)
 exact round s m o h1 h2
theorem Gg {fn:Func} {np:Nat} {R:DV->List LB->Prop} {ds:List DV} {r:DV} {bx:List LB} (θ:List (Nat×Nat)) (hR:R r bx)
  (h1:Sv P σ fn.results.toList ds:=by
   repeat first
    | exact Sv.nil
    | (apply Sv.cons; exact .tmp rfl)
    | (apply Sv.cons; exact .cell1 rfl rfl Qj.h rfl)
    | (apply Sv.cons; exact .cellA rfl rfl Qj.h rfl))
  (h2:Cv σ (F8 θ) (qX ds) r:=by
   repeat' first
    | exact Cv.val _
    | exact Cv.sl _ _
    | exact Cv.ptr rfl
    | exact Cv.row rfl
    | exact Cv.nil rfl
    | exact Cv.nils _
    | exact Cv.elt _
    | exact Cv.mp _
    | refine Cv.clo _ _ ?_
    | refine Cv.agg ?_
    | refine Cv.tup ?_
    | exact S8.nil
    | refine S8.cons ?_ ?_
    | exact Cv.frzM rfl (Gz rfl)
    | exact Cv.frz rfl (Gz rfl))
  (h3:oQ σ (F8 θ) (ix 0 bx):=by
   repeat' first
    | exact trivial
    | refine⟨.inl ⟨_,_,rfl,rfl,⟨rfl,rfl,rfl⟩⟩,?_⟩
    | refine⟨.inl ⟨_,_,rfl,rfl,⟨rfl,?_⟩⟩,?_⟩
    | refine⟨.inr ⟨rfl,_,_,rfl⟩,?_⟩
    | exact Cv.val _
    | exact Cv.sl _ _
    | exact Cv.ptr rfl
    | exact Cv.row rfl
    | exact Cv.nil rfl
    | exact Cv.nils _
    | exact Cv.elt _
    | exact Cv.mp _
    | refine Cv.clo _ _ ?_
    | refine Cv.agg ?_
    | exact S8.nil
    | refine S8.cons ?_ ?_
    | exact Cv.frzM rfl (Gz rfl)
    | exact Cv.frz rfl (Gz rfl))
  (h4:oX [(0,r)] (ix 0 bx) bx.length θ=true:=by rfl) (h5:lY θ bx.length np=true:=by rfl) (h6:Nat.ble np bx.length=true:=by rfl) (h7:Nat.ble bx.length (np + 8)=true:=by rfl):Fin P fn np R σ:=
 ⟨ds,r,bx,θ,h1,hR,h2,h3,h4,h5,h6,h7⟩
end
section
variable {P:Program} {cx:Cx} {ops:Array Oper} {Rt:Option (List Nat)} {nb i:Nat} {l:List Oper} {lg:kJ} {σ:St} {Q:St->Prop} {fz:List Nat}
theorem Dh {dst:Option Tmp} {f:FuncId} {xs:Array Operand} {tys:Array TypeId} {ty:TypeId} {pos:String} {af:Array Edge} {g:Option (Nat×Bool)} {dsA:List (DV×Option LB)} {args:List DV} {d:DV}
  (hF:Fn P f 0 args [] (fun d' b'=>d'=d/\b'=[]))
  (k:Chain (B6 P cx fz) ops Rt nb (idx (i + 1) l) ((i,true,nb + 8 * i,[],[]) :: lg) (σ.app dst (kT [] [] d [])) Q)
  (hds:E3 σ true xs.toList=some dsA:=by rfl)
  (hA:L2 false ([] ++ []) (Lt σ []) (dsA.map (·.1)) args:=by
   repeat' first
    | exact L2.nil
    | exact Ag.val
    | exact Ag.sl
    | exact Ag.nils
    | exact Ag.elt
    | exact Ag.fn
    | refine Ag.agg ?_
    | refine Ag.clo ?_
    | refine L2.cons ?_ ?_)
  (G:Km ops σ ⟨dst,.call ⟨.value (.func f),xs,tys⟩,ty,pos,af,g⟩=some true:=by exact Q2)
  (hrd:Qz σ 3 (S5 dsA)=[]:=by rfl) (hok:K9 Rt i true (nb + 8 * i) [] [] lg=true:=by rfl) (hr:Ju d=[]:=by rfl) :
  Chain (B6 P cx fz) ops Rt nb (idx i (⟨dst,.call ⟨.value (.func f),xs,tys⟩,ty,pos,af,g⟩ :: l)) lg σ Q:=
 jD (ps:=[]) (gs:=[]) (rd:=[]) (bx:=[]) (b:=[]) false G hF hds hrd hA rfl rfl (fun h=>by cases h) hok hr rfl rfl k
theorem F9 {dst:Option Tmp} {f:FuncId} {xs:Array Operand} {tys:Array TypeId} {ty:TypeId} {pos:String} {af:Array Edge} {g:Option (Nat×Bool)} {dsA:List (DV×Option LB)} {args:List DV} {bx:List LB} {d:DV} {b:List LB} (rd ps gs:List Nat) (fl:Bool)
  (hF:Fn P f ps.length args bx (fun d' b'=>d'=d/\b'=b))
  (k:Chain (B6 P cx fz) ops Rt nb (idx (i + 1) l) ((i,true,nb + 8 * i,rd,ps ++ gs) :: lg) (σ.app dst (kT ps gs d b)) Q)
  (hds:E3 σ true xs.toList=some dsA:=by rfl)
  (hA:L2 fl (ps ++ gs) (Lt σ rd) (dsA.map (·.1)) args:=by
   repeat' first
    | exact L2.nil
    | exact Ag.val
    | exact Ag.sl
    | exact Ag.nils
    | exact Ag.elt
    | exact Ag.fn
    | exact Ag.ptr rfl
    | exact Ag.rowK rfl
    | exact Ag.row rfl (by repeat first | exact List.Mem.head _ | refine List.Mem.tail _ ?_) rfl
    | refine Ag.agg ?_
    | refine Ag.clo ?_
    | refine L2.cons ?_ ?_)
  (hB:aN fl (ps ++ gs) (Lt σ rd) (ps ++ gs) bx:=by
   repeat' first
    | exact (rfl:_=[])
    | refine⟨_,_,_,rfl,(.head _),⟨_,rfl,?_⟩,?_⟩
    | refine⟨_,_,_,rfl,(.tail _ (.head _)),⟨_,rfl,?_⟩,?_⟩
    | refine⟨_,_,_,rfl,(.tail _ (.tail _ (.head _))),⟨_,rfl,?_⟩,?_⟩
    | refine⟨_,_,_,rfl,(.tail _ (.tail _ (.tail _ (.head _)))),⟨_,rfl,?_⟩,?_⟩
    | refine⟨_,_,_,rfl,(.tail _ (.tail _ (.tail _ (.tail _ (.head _))))),⟨_,rfl,?_⟩,?_⟩
    | refine⟨_,_,_,rfl,(.tail _ (.tail _ (.tail _ (.tail _ (.tail _ (.head _)))))),⟨_,rfl,?_⟩,?_⟩
    | refine⟨_,_,_,rfl,(.tail _ (.tail _ (.tail _ (.tail _ (.tail _ (.tail _ (.head _))))))),⟨_,rfl,?_⟩,?_⟩
    | refine⟨_,_,_,rfl,(.head _),rfl,?_⟩
    | refine⟨_,_,_,rfl,(.tail _ (.head _)),rfl,?_⟩
    | refine⟨_,_,_,rfl,(.tail _ (.tail _ (.head _))),rfl,?_⟩
    | refine⟨_,_,_,rfl,(.tail _ (.tail _ (.tail _ (.head _)))),rfl,?_⟩
    | refine⟨_,_,_,rfl,(.tail _ (.tail _ (.tail _ (.tail _ (.head _))))),rfl,?_⟩
    | refine⟨_,_,_,rfl,(.tail _ (.tail _ (.tail _ (.tail _ (.tail _ (.head _)))))),rfl,?_⟩
    | refine⟨_,_,_,rfl,(.tail _ (.tail _ (.tail _ (.tail _ (.tail _ (.tail _ (.head _))))))),rfl,?_⟩
    | exact L2.nil
    | exact Ag.val
    | exact Ag.sl
    | exact Ag.nils
    | exact Ag.elt
    | exact Ag.ptr rfl
    | refine L2.cons ?_ ?_)
  (G:Km ops σ ⟨dst,.call ⟨.value (.func f),xs,tys⟩,ty,pos,af,g⟩=some true:=by exact Q2)
  (hrd:Qz σ 3 (S5 dsA)=rd:=by rfl) (hnd:Ss cx.np ps gs=true:=by rfl) (hfl:fl=true->Jf d/\∀ lb∈b,Oe lb:=by first | (intro h; cases h; done) | exact fun _=>⟨by simp [Jf,K5],by simp [Oe,K5,Jf]⟩)
  (hok:K9 Rt i true (nb + 8 * i) rd (ps ++ gs) lg=true:=by rfl) (hr:Ju d=[]:=by rfl) (hl:b.length=ps.length:=by rfl) (hb:b.flatMap bJ=[]:=by rfl) :
  Chain (B6 P cx fz) ops Rt nb (idx i (⟨dst,.call ⟨.value (.func f),xs,tys⟩,ty,pos,af,g⟩ :: l)) lg σ Q:=
 jD fl G hF hds hrd hA hB hnd hfl hok hr hl hb k
end
theorem Uq {p:Prop} (h:p:=by obtain rfl:=oi_ G; exact Gg [] ⟨rfl,rfl⟩):p:=h
theorem De {p:Prop} (h:p:=by refine As ?_; refine Gh fun B=>?_; refine E2 ?_; obtain rfl:=oi_ G; exact Gg [] ⟨rfl,rfl⟩):p:=h
theorem Bd {p q:Prop} (k:q) (h:q->p:=by intro k; refine As ?_; refine Gh ?_; exact k):p:=h k
theorem rp_ {p q:Prop} (k:q) (h:q->p:=by intro k; (repeat first | refine st_ ?_ | refine sn_ ?_); exact k):p:=h k
theorem nl_ {p:Prop} (h:p:=by repeat first | exact (rfl:_=[]) | (apply aFu; exact rfl)):p:=h
theorem dc_ {p:Prop} (h:p:=by repeat first | exact K0.nil | (apply K0.cons; first | exact cO.int | exact cO.bool | exact cO.str | exact cO.sl | exact cO.nil)):p:=h
theorem Lf {p:Prop} (h:p:=by refine E2 ?_; obtain rfl:=oi_ G; exact Gg [] ⟨rfl,rfl⟩):p:=h
theorem C8 {p q:Prop} (k:q) (h:q->p:=by intro k; refine rB ?_; (repeat first | refine st_ ?_ | refine sn_ ?_); exact k):p:=h k
theorem Je {p q:Prop} (k:q) (h:q->p:=by intro k; refine vH ?_; (repeat first | refine st_ ?_ | refine sn_ ?_); exact k):p:=h k
class FlC {α:Type} (f:α->List C):Prop where
 h:∀ x,∀ c∈f x,oC c=true
theorem oP {α:Type} {f:α->List C} [F:FlC f] {e s:Nat} {l:List α}:Oe (.row e s (Aq f l)):=fun c hc=>by
 unfold Aq at hc
 obtain⟨x,-,h⟩:=List.mem_flatMap.1 hc
 exact F.h x c h
instance:FlC eI:=⟨fun x c hc=>by rw [aGh.1 hc]; rfl⟩
theorem fb_ {p:Prop} (h:p:=by first | (simp [Oe,K5,Jf]; done) | (repeat' first | exact oP | refine List.forall_mem_cons.2 ⟨?_,?_⟩ | exact (fun _ h=>nomatch h) | simp [Oe,K5,Jf])):p:=h
theorem iH {α:Type} {l l':List α} (h:l.length=l'.length):Dw l 0 l'=l':=by
 unfold Dw
 rw [List.take_zero,aIu,aH7,<- h,List.drop_length,List.append_nil]
section
variable {P:Program} {cx:Cx} {ops:Array Oper} {Rt:Option (List Nat)} {nb i:Nat} {l:List Oper} {lg:kJ} {σ:St} {Q:St->Prop} {fz:List Nat} {α:Type} {f:α->List C} {L:List α} {a:α} {n:Int} {m:Nat} {t:TypeId} {x y:Operand} {dst:Option Tmp} {ty:TypeId} {pos:String} {af:Array Edge} {g:Option (Nat×Bool)}
theorem gZ (he:B8 L n=some a) {b1:Option LB} {cs:List C} (k:Chain (B6 P cx fz) ops Rt nb (idx (i + 1) l) ((i,false,nb + 8 * i,[],[]) :: lg) (σ.app dst (v0 (.agg (cs.map X4)))) Q) [T:Qj P t true m]
  (hds:E3 σ true [x]=some [(.elt ((Aq f L).drop (n.toNat * m)),b1)]:=by exact rfl) (E:Xa f m:=by exact inferInstance) (hc:f a=cs:=by exact nl_) (G:Km ops σ ⟨dst,.load t x,ty,pos,af,g⟩=some true:=by exact Q2)
  (hok:K9 Rt i false (nb + 8 * i) [] [] lg=true:=by exact rfl) (hz:zM fz (nb + 8 * i)=0:=by exact rfl) (hap:Pu cx.np (.load t x) []=true:=by exact rfl):Chain (B6 P cx fz) ops Rt nb (idx i (⟨dst,.load t x,ty,pos,af,g⟩ :: l)) lg σ Q:=
 C0 G hds (D5 T.h (Gd E.h (Bq he) (o:=0) (m:=m) (by rw [aKd,aHa (by rw [E.h]; exact aGz _)]; exact hc) (by omega) rfl) (Eg E.h (Bq he) (o:=0) (m:=m) (by omega) rfl)) rfl hok k hz hap
theorem No (he:B8 L n=some a) {b1:Option LB} {c:C} {sz:Nat} (k:Chain (B6 P cx fz) ops Rt nb (idx (i + 1) l) ((i,false,nb + 8 * i,[],[]) :: lg) (σ.app dst (v0 (X4 c))) Q) [T:Qj P t false sz]
  (hds:E3 σ true [x]=some [(.elt ((Aq f L).drop (n.toNat * 1)),b1)]:=by exact rfl) (E:Xa f 1:=by exact inferInstance) (hc:f a=[c]:=by exact rfl) (G:Km ops σ ⟨dst,.load t x,ty,pos,af,g⟩=some true:=by exact Q2)
  (hok:K9 Rt i false (nb + 8 * i) [] [] lg=true:=by exact rfl) (hz:zM fz (nb + 8 * i)=0:=by exact rfl) (hap:Pu cx.np (.load t x) []=true:=by exact rfl):Chain (B6 P cx fz) ops Rt nb (idx i (⟨dst,.load t x,ty,pos,af,g⟩ :: l)) lg σ Q:=
 C0 G hds (Do T.h (Ew E.h (Bq he) (o:=0) (by rw [hc]; rfl) rfl)) rfl hok k hz hap
theorem Ln (he:B8 L n=some a) {kr e':Nat} {cs:List C} (k:Chain (B6 P cx fz) ops Rt nb (idx (i + 1) l) ((i,false,nb + 8 * i,[kr],[]) :: lg) (σ.app dst (v0 (.agg (cs.map X4)))) Q) [T:Qj P t true m]
  (hds:E3 σ true [x]=some [(.ptr kr (n.toNat * m),some (.row e' m (Aq f L)))]:=by exact rfl) (E:Xa f m:=by exact inferInstance) (hc:f a=cs:=by exact nl_) (G:Km ops σ ⟨dst,.load t x,ty,pos,af,g⟩=some true:=by exact Q2)
  (hok:K9 Rt i false (nb + 8 * i) [kr] [] lg=true:=by exact rfl) (hz:zM fz (nb + 8 * i)=0:=by exact rfl) (hap:Pu cx.np (.load t x) []=true:=by exact rfl):Chain (B6 P cx fz) ops Rt nb (idx i (⟨dst,.load t x,ty,pos,af,g⟩ :: l)) lg σ Q:=
 Fi (rd:=[kr]) G hds (W6 T.h (Gd E.h (Bq he) (o:=0) (m:=m) (by rw [aKd,aHa (by rw [E.h]; exact aGz _)]; exact hc) (by omega) rfl) (Eg E.h (Bq he) (o:=0) (m:=m) (by omega) rfl)) rfl hok k hz hap
theorem Vt {ck:List (Option Nat)} (hk:K1 P 20 t=ck) (he:B8 L n=some a) {x':α} {d:DV} {b2:Option LB} {kr e':Nat} {cs':List C} {ag:Bool} {rd:List Nat} (k:Chain (B6 P cx fz) ops Rt nb (idx (i + 1) l) ((i,false,nb + 8 * i,rd,[kr]) :: lg) (σ.app dst (oV kr (.row e' m (Aq f (Db L n.toNat x'))))) Q) [T:Qj P t ag m]
  (hds:E3 σ true [x,y]=some [(.ptr kr (n.toNat * m),some (.row e' m (Aq f L))),(d,b2)]:=by exact rfl) (E:Xa f m:=by exact inferInstance) (hx:f x'=cs':=by exact nl_) (hd:K0 ck (Da d) cs':=by exact dc_) (hs:(Da d).length=m:=by exact rfl)
  (hr:K3 false [(DV.ptr kr (n.toNat * m),some (LB.row e' m (Aq f L))),(d,b2)]=rd:=by first | exact (rfl:_=[_]) | exact (rfl:_=[_,_]) | exact (rfl:_=[_,_,_])) (G:Km ops σ ⟨dst,.store t x y,ty,pos,af,g⟩=some true:=by exact Q2)
  (hok:K9 Rt i false (nb + 8 * i) rd [kr] lg=true:=by exact rfl) (hz:zM fz (nb + 8 * i)=0:=by exact rfl) (hap:Pu cx.np (.store t x y) [kr]=true:=by exact rfl):Chain (B6 P cx fz) ops Rt nb (idx i (⟨dst,.store t x y,ty,pos,af,g⟩ :: l)) lg σ Q:=
 Fi G hds (bD T.h hs (Eg E.h (Bq he) (o:=0) (m:=m) (by omega) rfl) hk hd (V0 E.h (Bq he) (o:=0) (x':=x') (by rw [<- hx,E.h]; omega) (by rw [<- hx]; exact iH (by rw [E.h,E.h])) rfl)) hr hok k hz hap
theorem I8 {e sz bytes len:Nat} {parts:Array (Nat×Operand)} {ds:List (DV×Option LB)} {z:List Value} {cs:List C} {ck:List (Option Nat)} (hS:Jd P t e sz bytes) (hz:Zt P e z) (hk:K1 P 20 e=ck) (lv:List α) (fv:α->List C) (k:Chain (B6 P cx fz) ops Rt nb (idx (i + 1) l) ((i,false,nb + 8 * i,[],[]) :: lg) (σ.app dst (Om (nb + 8 * i) (.row e sz (Aq fv lv)) (.row (nb + 8 * i)))) Q)
  (hds:E3 σ false (Op.buildSlice t len parts).operands.toList=some ds:=by exact rfl) (hc:K0 (List.replicate len ck).flatten (ds.flatMap fun q=>Da q.1) cs:=by exact dc_) (h:Aq fv lv=cs:=by exact rfl) (hlen:Nat.ble (len * sz) 16777216=true:=by exact rfl) (hp:parts.toList.map (·.1)=List.range' 0 len:=by exact rfl) (hzl:z.length=sz:=by exact rfl) (hn:ds.length=len:=by exact rfl)
  (hs:ds.all (fun q=>Nat.beq (Da q.1).length sz)=true:=by exact rfl) (ho:ds.all (fun q=>(Da q.1).all Zm)=true:=by exact rfl) (G:Km ops σ ⟨dst,.buildSlice t len parts,ty,pos,af,g⟩=some true:=by exact Q2)
  (hok:K9 Rt i false (nb + 8 * i) [] [] lg=true:=by exact rfl) (hz':zM fz (nb + 8 * i)=0:=by exact rfl) (hap:Pu cx.np (.buildSlice t len parts) []=true:=by exact rfl):Chain (B6 P cx fz) ops Rt nb (idx i (⟨dst,.buildSlice t len parts,ty,pos,af,g⟩ :: l)) lg σ Q:=
 C0 G hds (Fu hS hz (aD6 hlen) hp hzl hn hs hk hc ho h) rfl hok k hz' hap
theorem Ou {e sz bytes len:Nat} {parts:Array (Nat×Operand)} {ds:List (DV×Option LB)} {z:List Value} {cs:List C} {ck:List (Option Nat)} (hS:Jd P t e sz bytes) (hz:Zt P e z) (hk:K1 P 20 e=ck) (lv:List α) (fv:α->List C) (k:Chain (B6 P cx fz) ops Rt nb (idx (i + 1) l) ((i,false,nb + 8 * i,[],[]) :: lg) (σ.app dst (bN sz (Aq fv lv) [])) Q)
  (hds:E3 σ false (Op.buildSlice t len parts).operands.toList=some ds:=by exact rfl) (hc:K0 (List.replicate len ck).flatten (ds.flatMap fun q=>Da q.1) cs:=by exact dc_) (h:Aq fv lv=cs:=by exact rfl) (hlen:Nat.ble (len * sz) 16777216=true:=by exact rfl) (hp:parts.toList.map (·.1)=List.range' 0 len:=by exact rfl) (hzl:z.length=sz:=by exact rfl) (hn:ds.length=len:=by exact rfl)
  (hs:ds.all (fun q=>Nat.beq (Da q.1).length sz)=true:=by exact rfl) (ho:ds.all (fun q=>(Da q.1).all Zm)=true:=by exact rfl) (G:Km ops σ ⟨dst,.buildSlice t len parts,ty,pos,af,g⟩=some true:=by exact Q2)
  (hok:K9 Rt i false (nb + 8 * i) [] [] lg=true:=by exact rfl) (hz':zM fz (nb + 8 * i)=1:=by exact rfl) (hap:Pu cx.np (.buildSlice t len parts) []=true:=by exact rfl):Chain (B6 P cx fz) ops Rt nb (idx i (⟨dst,.buildSlice t len parts,ty,pos,af,g⟩ :: l)) lg σ Q:=
 aCr (rd:=[]) G hds (Fu hS hz (aD6 hlen) hp hzl hn hs hk hc ho h) rfl rfl hok k hz' hap
theorem Lq {fields:_} {places:List (Nat×Nat)} {z:List Value} {r0 r:List DV} {parts:Array (Nat×Operand)} {ds:List (DV×Option LB)} (hu:P.underlying t=some (.struct fields)) (hp:fields.toList.map (fun f=>(P.info? f.type).map fun i=>(f.offset,i.size))=places.map some) (hz:Zt P t z) (k:Chain (B6 P cx fz) ops Rt nb (idx (i + 1) l) ((i,false,nb + 8 * i,[],[]) :: lg) (σ.app dst (v0 (.agg r))) Q)
  (hds:E3 σ false (Op.build t parts).operands.toList=some ds:=by exact rfl) (hd:Ix (fun i=>places[i]?) (z.map .val) ((parts.toList.map (·.1)).zip (ds.map (·.1)))=some r0:=by exact rfl) (hr:r0=r:=by exact nl_) (ho:ds.all (fun q=>(Da q.1).all Zm)=true:=by exact rfl) (G:Km ops σ ⟨dst,.build t parts,ty,pos,af,g⟩=some true:=by exact Q2)
  (hok:K9 Rt i false (nb + 8 * i) [] [] lg=true:=by exact rfl) (hz':zM fz (nb + 8 * i)=0:=by exact rfl) (hap:Pu cx.np (.build t parts) []=true:=by exact rfl):Chain (B6 P cx fz) ops Rt nb (idx i (⟨dst,.build t parts,ty,pos,af,g⟩ :: l)) lg σ Q:=
 C0 G hds (.build hu hp hz (hr ▸ hd) ho) rfl hok k hz' hap
end
theorem Bf {P:Program} {cx:Cx} {id:Nat} {l:List Oper} {σ:St} {y:Code} {Q:Exit->St->Prop} (nb nb':Nat) (B:∀ k,nb<=k->σ.U k=false) {j:Nat} {lg':kJ} {σ':St} {q:Prop} (k:(∀ j,nb'<=j->σ'.U j=false)->q)
  (h:Gm P cx [] l.toArray none nb (idx 0 l) [] σ (idx j []) lg' σ':=by exact gm_) (s:pK (vI (B3 P cx y Q) Q .normal σ') q:=by exact inferInstance) (hn:Nat.ble (nb + 8 * l.length) nb'=true:=by rfl) (hd:lO cx.N l=true:=by rfl):B3 P cx (.seq (.region id l.toArray false) y) Q σ:=
 Cc nb nb' B (h _ (Gh k)) hn hd
end Go.Proofs.YtchpcpaacenodaaGreat
