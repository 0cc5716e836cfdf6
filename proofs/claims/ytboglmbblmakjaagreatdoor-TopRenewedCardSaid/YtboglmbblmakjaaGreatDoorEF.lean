import Derived.Test.YtboglmbblmakjaaGreatDoorEE
set_option linter.unusedVariables false
set_option linter.unusedSimpArgs false
namespace Go.Proofs.YtboglmbblmakjaaGreatDoor
open Go.RowKit
abbrev vk (x:Int):DV:=.val (.int .i64 x)
abbrev ws (x:ByteArray):DV:=.val (.string x)
class M3 (P:Program) (t:TypeId) (ag:outParam Bool) (sz:outParam Nat):Prop where
 h:Ty P t ag sz
class I8 (P:Program) (s:TypeId) (f:Nat) (off:outParam Nat) (ft:outParam TypeId):Prop where
 h:Fd P s f off ft
class Up (P:Program) (t:TypeId) (e sz bytes:outParam Nat):Prop where
 h:Jf P t e sz bytes
class Sh (P:Program) (t:TypeId) (z:outParam (List Value)):Prop where
 h:Zt P t z
class Wg (P:Program) (t:TypeId) (d:outParam TypeDesc):Prop where
 h:P.underlying t=some d
class O2 {α:Type} (f:α->List C) (sz:outParam Nat):Prop where
 h:∀ x,(f x).length=sz
instance:O2 eI 1:=⟨R7⟩
instance {k:IntKind}:O2 (eK k) 1:=⟨Jl k⟩
instance:O2 e8 1:=⟨aEf⟩
instance:O2 eS 1:=⟨jO⟩
instance:O2 eB 1:=⟨aM7⟩
instance {α:Type} {sz:Nat} {f:α->List C}:O2 (eL sz f) 1:=⟨vO sz f⟩
section
variable {P:Program} {cx:Cx} {ops:Array Oper} {Rt:Option (List Nat)} {nb i:Nat} {l:List Oper} {lg lg':pF} {σ σ':St} {Q:St->Prop} {fz:List Nat} {m':List (Nat×Oper)}
def Gm (P:Program) (cx:Cx) (fz:List Nat) (ops:Array Oper) (Rt:Option (List Nat)) (nb:Nat) (m:List (Nat×Oper)) (lg:pF) (σ:St) (m':List (Nat×Oper)) (lg':pF) (σ':St):Prop:=∀ Q,Chain (E4 P cx fz) ops Rt nb m' lg' σ' Q->Chain (E4 P cx fz) ops Rt nb m lg σ Q
theorem Gm.z {m:List (Nat×Oper)}:Gm P cx fz ops Rt nb m lg σ m lg σ:=fun _ h=>h
theorem Gm.s {dst:Option Tmp} {op:Op} {ty:TypeId} {pos:String} {af:Array Edge} {g:Option (Nat×Bool)} {ds:List (DV×Option LB)} {rd wr:List Nat} {e:Q6} (hds:Gk σ (Mp op) op.operands.toList=some ds) (h:Ha P (nb + 8 * i) op ty ds wr e)
  (k:Gm P cx fz ops Rt nb (Ft (i + 1) l) ((i,false,nb + 8 * i,rd,wr) :: lg) (σ.app dst e) m' lg' σ') (G:Ly ops σ ⟨dst,op,ty,pos,af,g⟩=some true) (hrd:(bif Mp op then Ol (Po op) ds else [])=rd)
  (hok:(Nj Rt i false (nb + 8 * i) rd wr lg && (Nat.beq (zM fz (nb + 8 * i)) 0 && Sl cx.np op wr))=true) :
  Gm P cx fz ops Rt nb (Ft i (⟨dst,op,ty,pos,af,g⟩ :: l)) lg σ m' lg' σ':=fun Q hq=>by
 simp only [aF5] at hok
 exact Lk G hds h hrd hok.1 (k Q hq) (aFs hok.2.1) hok.2.2
theorem Gm.k {dst:Option Tmp} {op:Op} {ty:TypeId} {pos:String} {af:Array Edge} {g:Nat×Bool} (G:Ly ops σ ⟨dst,op,ty,pos,af,some g⟩=some false)
  (hok:Nj Rt i false (nb + 8 * i) [] [] lg=true) (k:Gm P cx fz ops Rt nb (Ft (i + 1) l) ((i,false,nb + 8 * i,[],[]) :: lg) (σ.app dst vN) m' lg' σ') :
  Gm P cx fz ops Rt nb (Ft i (⟨dst,op,ty,pos,af,some g⟩ :: l)) lg σ m' lg' σ':=fun Q hq=>aHw G hok (k Q hq)
theorem aQx {dst:Option Tmp} {op:Op} {ty:TypeId} {pos:String} {af:Array Edge}:Ly ops σ ⟨dst,op,ty,pos,af,none⟩=some true:=rfl
theorem aDd {dst:Option Tmp} {op:Op} {ty:TypeId} {pos:String} {af:Array Edge} {g:Nat} {c:Bool} {t:Tmp} (ht:(ops[g]?).bind (·.dst)=some t) (hF:σ.F t=some (.val (.bool c))) (hc:c=false):Ly ops σ ⟨dst,op,ty,pos,af,some (g,true)⟩=some false:=aLc ht hF hc
theorem aDy {dst:Option Tmp} {op:Op} {ty:TypeId} {pos:String} {af:Array Edge} {g:Nat} {c:Bool} {t:Tmp} (ht:(ops[g]?).bind (·.dst)=some t) (hF:σ.F t=some (.val (.bool c))) (hc:c=true):Ly ops σ ⟨dst,op,ty,pos,af,some (g,false)⟩=some false:=aLc ht hF hc
theorem aKk {dst:Option Tmp} {op:Op} {ty:TypeId} {pos:String} {af:Array Edge} {g:Nat} {b:Bool} {t:Tmp} (ht:(ops[g]?).bind (·.dst)=some t) (hF:σ.F t=some (.val undef)):Ly ops σ ⟨dst,op,ty,pos,af,some (g,b)⟩=some false:=by
 unfold Ly
 simp only []
 rw [ht]
 simp only []
 rw [hF]
 rfl
theorem aL1 {α:Type} {l t t':List α} {x:α} (h:l=x :: t) (k:t=t'):l=x :: t':=by rw [h,k]
variable {dst:Option Tmp} {ty:TypeId} {pos:String} {af:Array Edge} {g:Option (Nat×Bool)}
theorem Gm.move {x:Operand} {d:DV} {q:Option LB} (hds:Gk σ false [x]=some [(d,q)])  (G:Ly ops σ ⟨dst,.move x,ty,pos,af,g⟩=some true)
  (hok:(Nj Rt i false (nb + 8 * i) [] [] lg && (Nat.beq (zM fz (nb + 8 * i)) 0 && Sl cx.np (.move x) []))=true) (k:Gm P cx fz ops Rt nb (Ft (i + 1) l) ((i,false,nb + 8 * i,[],[]) :: lg) (σ.app dst (v0 d)) m' lg' σ'):Gm P cx fz ops Rt nb (Ft i (⟨dst,.move x,ty,pos,af,g⟩ :: l)) lg σ m' lg' σ':=
 Gm.s hds (.move) k G rfl hok
theorem Gm.assign {x:Operand} {d:DV} {q:Option LB} (hds:Gk σ false [x]=some [(d,q)])  (G:Ly ops σ ⟨dst,.assign x,ty,pos,af,g⟩=some true)
  (hok:(Nj Rt i false (nb + 8 * i) [] [] lg && (Nat.beq (zM fz (nb + 8 * i)) 0 && Sl cx.np (.assign x) []))=true) (k:Gm P cx fz ops Rt nb (Ft (i + 1) l) ((i,false,nb + 8 * i,[],[]) :: lg) (σ.app dst (v0 d)) m' lg' σ'):Gm P cx fz ops Rt nb (Ft i (⟨dst,.assign x,ty,pos,af,g⟩ :: l)) lg σ m' lg' σ':=
 Gm.s hds (.assign) k G rfl hok
theorem Gm.fieldP {x:Operand} {s f k j off ft sz:Nat} {ag:Bool} {q:Option LB} [F:I8 P s f off ft] [T:M3 P ft ag sz] (hds:Gk σ false [x]=some [(.ptr k j,q)]) (hz0:Nat.blt 0 sz=true) (G:Ly ops σ ⟨dst,.fieldAddr s x f,ty,pos,af,g⟩=some true)
  (hok:(Nj Rt i false (nb + 8 * i) [] [] lg && (Nat.beq (zM fz (nb + 8 * i)) 0 && Sl cx.np (.fieldAddr s x f) []))=true) (k:Gm P cx fz ops Rt nb (Ft (i + 1) l) ((i,false,nb + 8 * i,[],[]) :: lg) (σ.app dst (v0 (.ptr k (j + off)))) m' lg' σ'):Gm P cx fz ops Rt nb (Ft i (⟨dst,.fieldAddr s x f,ty,pos,af,g⟩ :: l)) lg σ m' lg' σ':=
 Gm.s hds (.fieldP F.h T.h (aC1 hz0)) k G rfl hok
theorem Gm.load1 {x:Operand} {t k j bt sz:Nat} {ds:List DV} {d:DV} [T:M3 P t false sz] (hds:Gk σ true [x]=some [(.ptr k j,some (.box ds bt))]) (hd:ds[j]?=some d) (G:Ly ops σ ⟨dst,.load t x,ty,pos,af,g⟩=some true)
  (hok:(Nj Rt i false (nb + 8 * i) [k] [] lg && (Nat.beq (zM fz (nb + 8 * i)) 0 && Sl cx.np (.load t x) []))=true) (k:Gm P cx fz ops Rt nb (Ft (i + 1) l) ((i,false,nb + 8 * i,[k],[]) :: lg) (σ.app dst (v0 d)) m' lg' σ'):Gm P cx fz ops Rt nb (Ft i (⟨dst,.load t x,ty,pos,af,g⟩ :: l)) lg σ m' lg' σ':=
 Gm.s hds (.loadB1 T.h hd) k G rfl hok
theorem Gm.loadA {x:Operand} {t k j bt sz:Nat} {ds:List DV} [T:M3 P t true sz] (hds:Gk σ true [x]=some [(.ptr k j,some (.box ds bt))]) (hd:Nat.ble (j + sz) ds.length=true) (G:Ly ops σ ⟨dst,.load t x,ty,pos,af,g⟩=some true)
  (hok:(Nj Rt i false (nb + 8 * i) [k] [] lg && (Nat.beq (zM fz (nb + 8 * i)) 0 && Sl cx.np (.load t x) []))=true) (k:Gm P cx fz ops Rt nb (Ft (i + 1) l) ((i,false,nb + 8 * i,[k],[]) :: lg) (σ.app dst (v0 (.agg ((ds.drop j).take sz)))) m' lg' σ'):Gm P cx fz ops Rt nb (Ft i (⟨dst,.load t x,ty,pos,af,g⟩ :: l)) lg σ m' lg' σ':=
 Gm.s hds (.loadBA T.h (aC1 hd)) k G rfl hok
theorem Gm.pickF {x y z:Operand} {c:Bool} {d1 d2:DV} {q1 q2 q3:Option LB} (hds:Gk σ false [x,y,z]=some [(.val (.bool c),q1),(d1,q2),(d2,q3)]) (hc:c=false) (G:Ly ops σ ⟨dst,.pick x y z,ty,pos,af,g⟩=some true)
  (hok:(Nj Rt i false (nb + 8 * i) [] [] lg && (Nat.beq (zM fz (nb + 8 * i)) 0 && Sl cx.np (.pick x y z) []))=true) (k:Gm P cx fz ops Rt nb (Ft (i + 1) l) ((i,false,nb + 8 * i,[],[]) :: lg) (σ.app dst (v0 d2)) m' lg' σ'):Gm P cx fz ops Rt nb (Ft i (⟨dst,.pick x y z,ty,pos,af,g⟩ :: l)) lg σ m' lg' σ':=
 Gm.s hds (aH1 hc) k G rfl hok
theorem Gm.pickT {x y z:Operand} {c:Bool} {d1 d2:DV} {q1 q2 q3:Option LB} (hds:Gk σ false [x,y,z]=some [(.val (.bool c),q1),(d1,q2),(d2,q3)]) (hc:c=true) (G:Ly ops σ ⟨dst,.pick x y z,ty,pos,af,g⟩=some true)
  (hok:(Nj Rt i false (nb + 8 * i) [] [] lg && (Nat.beq (zM fz (nb + 8 * i)) 0 && Sl cx.np (.pick x y z) []))=true) (k:Gm P cx fz ops Rt nb (Ft (i + 1) l) ((i,false,nb + 8 * i,[],[]) :: lg) (σ.app dst (v0 d1)) m' lg' σ'):Gm P cx fz ops Rt nb (Ft i (⟨dst,.pick x y z,ty,pos,af,g⟩ :: l)) lg σ m' lg' σ':=
 Gm.s hds (aGi hc) k G rfl hok
theorem Gm.storeB {x y:Operand} {t k j bt sz:Nat} {ag:Bool} {ds ds':List DV} {d:DV} {q:Option LB} {rd:List Nat} [T:M3 P t ag sz] (hds:Gk σ true [x,y]=some [(.ptr k j,some (.box ds bt)),(d,q)]) (hs:(Ed d).length=sz) (hi:Nat.ble (j + sz) ds.length=true) (ho:(Ed d).all kY=true) (hn:Fa ds j (Ed d)=ds') (hr:Ol false [(DV.ptr k j,some (LB.box ds bt)),(d,q)]=rd) (G:Ly ops σ ⟨dst,.store t x y,ty,pos,af,g⟩=some true)
  (hok:(Nj Rt i false (nb + 8 * i) rd [k] lg && (Nat.beq (zM fz (nb + 8 * i)) 0 && Sl cx.np (.store t x y) [k]))=true) (k:Gm P cx fz ops Rt nb (Ft (i + 1) l) ((i,false,nb + 8 * i,rd,[k]) :: lg) (σ.app dst (Sn k (.box ds' bt))) m' lg' σ'):Gm P cx fz ops Rt nb (Ft i (⟨dst,.store t x y,ty,pos,af,g⟩ :: l)) lg σ m' lg' σ':=
 Gm.s hds (aB6 T.h hs (aC1 hi) ho hn) k G hr hok
theorem Gm.extract {x:Operand} {n:Nat} {ds:List DV} {d:DV} {q:Option LB} (hds:Gk σ false [x]=some [(.tup ds,q)]) (hd:ds[n]?=some d) (G:Ly ops σ ⟨dst,.extract x n,ty,pos,af,g⟩=some true)
  (hok:(Nj Rt i false (nb + 8 * i) [] [] lg && (Nat.beq (zM fz (nb + 8 * i)) 0 && Sl cx.np (.extract x n) []))=true) (k:Gm P cx fz ops Rt nb (Ft (i + 1) l) ((i,false,nb + 8 * i,[],[]) :: lg) (σ.app dst (v0 d)) m' lg' σ'):Gm P cx fz ops Rt nb (Ft i (⟨dst,.extract x n,ty,pos,af,g⟩ :: l)) lg σ m' lg' σ':=
 Gm.s hds (.extract hd) k G rfl hok
theorem Gm.lss {x y:Operand} {t yt:TypeId} {kk:IntKind} {a b:Int} {q1 q2:Option LB} (hds:Gk σ false [x,y]=some [(.val (.int kk a),q1),(.val (.int kk b),q2)])  (G:Ly ops σ ⟨dst,.binOp .lss t x y yt,ty,pos,af,g⟩=some true)
  (hok:(Nj Rt i false (nb + 8 * i) [] [] lg && (Nat.beq (zM fz (nb + 8 * i)) 0 && Sl cx.np (.binOp .lss t x y yt) []))=true) (k:Gm P cx fz ops Rt nb (Ft (i + 1) l) ((i,false,nb + 8 * i,[],[]) :: lg) (σ.app dst (v0 (.val (.bool (decide (a < b)))))) m' lg' σ'):Gm P cx fz ops Rt nb (Ft i (⟨dst,.binOp .lss t x y yt,ty,pos,af,g⟩ :: l)) lg σ m' lg' σ':=
 Gm.s hds (aUa) k G rfl hok
theorem Gm.eql {x y:Operand} {t yt:TypeId} {kk:IntKind} {a b:Int} {q1 q2:Option LB} (hds:Gk σ false [x,y]=some [(.val (.int kk a),q1),(.val (.int kk b),q2)])  (G:Ly ops σ ⟨dst,.binOp .eql t x y yt,ty,pos,af,g⟩=some true)
  (hok:(Nj Rt i false (nb + 8 * i) [] [] lg && (Nat.beq (zM fz (nb + 8 * i)) 0 && Sl cx.np (.binOp .eql t x y yt) []))=true) (k:Gm P cx fz ops Rt nb (Ft (i + 1) l) ((i,false,nb + 8 * i,[],[]) :: lg) (σ.app dst (v0 (.val (.bool (decide (a=b)))))) m' lg' σ'):Gm P cx fz ops Rt nb (Ft i (⟨dst,.binOp .eql t x y yt,ty,pos,af,g⟩ :: l)) lg σ m' lg' σ':=
 Gm.s hds (aR4) k G rfl hok
theorem Gm.gtr {x y:Operand} {t yt:TypeId} {kk:IntKind} {a b:Int} {q1 q2:Option LB} (hds:Gk σ false [x,y]=some [(.val (.int kk a),q1),(.val (.int kk b),q2)])  (G:Ly ops σ ⟨dst,.binOp .gtr t x y yt,ty,pos,af,g⟩=some true)
  (hok:(Nj Rt i false (nb + 8 * i) [] [] lg && (Nat.beq (zM fz (nb + 8 * i)) 0 && Sl cx.np (.binOp .gtr t x y yt) []))=true) (k:Gm P cx fz ops Rt nb (Ft (i + 1) l) ((i,false,nb + 8 * i,[],[]) :: lg) (σ.app dst (v0 (.val (.bool (decide (b < a)))))) m' lg' σ'):Gm P cx fz ops Rt nb (Ft i (⟨dst,.binOp .gtr t x y yt,ty,pos,af,g⟩ :: l)) lg σ m' lg' σ':=
 Gm.s hds (aQ1) k G rfl hok
theorem Gm.leq {x y:Operand} {t yt:TypeId} {kk:IntKind} {a b:Int} {q1 q2:Option LB} (hds:Gk σ false [x,y]=some [(.val (.int kk a),q1),(.val (.int kk b),q2)])  (G:Ly ops σ ⟨dst,.binOp .leq t x y yt,ty,pos,af,g⟩=some true)
  (hok:(Nj Rt i false (nb + 8 * i) [] [] lg && (Nat.beq (zM fz (nb + 8 * i)) 0 && Sl cx.np (.binOp .leq t x y yt) []))=true) (k:Gm P cx fz ops Rt nb (Ft (i + 1) l) ((i,false,nb + 8 * i,[],[]) :: lg) (σ.app dst (v0 (.val (.bool (decide (a<=b)))))) m' lg' σ'):Gm P cx fz ops Rt nb (Ft i (⟨dst,.binOp .leq t x y yt,ty,pos,af,g⟩ :: l)) lg σ m' lg' σ':=
 Gm.s hds (aQ2) k G rfl hok
theorem Gm.geq {x y:Operand} {t yt:TypeId} {kk:IntKind} {a b:Int} {q1 q2:Option LB} (hds:Gk σ false [x,y]=some [(.val (.int kk a),q1),(.val (.int kk b),q2)])  (G:Ly ops σ ⟨dst,.binOp .geq t x y yt,ty,pos,af,g⟩=some true)
  (hok:(Nj Rt i false (nb + 8 * i) [] [] lg && (Nat.beq (zM fz (nb + 8 * i)) 0 && Sl cx.np (.binOp .geq t x y yt) []))=true) (k:Gm P cx fz ops Rt nb (Ft (i + 1) l) ((i,false,nb + 8 * i,[],[]) :: lg) (σ.app dst (v0 (.val (.bool (decide (b<=a)))))) m' lg' σ'):Gm P cx fz ops Rt nb (Ft i (⟨dst,.binOp .geq t x y yt,ty,pos,af,g⟩ :: l)) lg σ m' lg' σ':=
 Gm.s hds (aSs) k G rfl hok
theorem Gm.neq {x y:Operand} {t yt:TypeId} {kk:IntKind} {a b:Int} {q1 q2:Option LB} (hds:Gk σ false [x,y]=some [(.val (.int kk a),q1),(.val (.int kk b),q2)])  (G:Ly ops σ ⟨dst,.binOp .neq t x y yt,ty,pos,af,g⟩=some true)
  (hok:(Nj Rt i false (nb + 8 * i) [] [] lg && (Nat.beq (zM fz (nb + 8 * i)) 0 && Sl cx.np (.binOp .neq t x y yt) []))=true) (k:Gm P cx fz ops Rt nb (Ft (i + 1) l) ((i,false,nb + 8 * i,[],[]) :: lg) (σ.app dst (v0 (.val (.bool (!decide (a=b)))))) m' lg' σ'):Gm P cx fz ops Rt nb (Ft i (⟨dst,.binOp .neq t x y yt,ty,pos,af,g⟩ :: l)) lg σ m' lg' σ':=
 Gm.s hds (aTy) k G rfl hok
theorem Gm.seql {x y:Operand} {t yt:TypeId} {a b:ByteArray} {q1 q2:Option LB} (hds:Gk σ false [x,y]=some [(.val (.string a),q1),(.val (.string b),q2)])  (G:Ly ops σ ⟨dst,.binOp .eql t x y yt,ty,pos,af,g⟩=some true)
  (hok:(Nj Rt i false (nb + 8 * i) [] [] lg && (Nat.beq (zM fz (nb + 8 * i)) 0 && Sl cx.np (.binOp .eql t x y yt) []))=true) (k:Gm P cx fz ops Rt nb (Ft (i + 1) l) ((i,false,nb + 8 * i,[],[]) :: lg) (σ.app dst (v0 (.val (.bool (decide (a=b)))))) m' lg' σ'):Gm P cx fz ops Rt nb (Ft i (⟨dst,.binOp .eql t x y yt,ty,pos,af,g⟩ :: l)) lg σ m' lg' σ':=
 Gm.s hds (aMz) k G rfl hok
theorem Gm.sneq {x y:Operand} {t yt:TypeId} {a b:ByteArray} {q1 q2:Option LB} (hds:Gk σ false [x,y]=some [(.val (.string a),q1),(.val (.string b),q2)])  (G:Ly ops σ ⟨dst,.binOp .neq t x y yt,ty,pos,af,g⟩=some true)
  (hok:(Nj Rt i false (nb + 8 * i) [] [] lg && (Nat.beq (zM fz (nb + 8 * i)) 0 && Sl cx.np (.binOp .neq t x y yt) []))=true) (k:Gm P cx fz ops Rt nb (Ft (i + 1) l) ((i,false,nb + 8 * i,[],[]) :: lg) (σ.app dst (v0 (.val (.bool (!decide (a=b)))))) m' lg' σ'):Gm P cx fz ops Rt nb (Ft i (⟨dst,.binOp .neq t x y yt,ty,pos,af,g⟩ :: l)) lg σ m' lg' σ':=
 Gm.s hds (aNv) k G rfl hok
theorem Gm.add {x y:Operand} {t yt:TypeId} {a b:Int} {q1 q2:Option LB} (hds:Gk σ false [x,y]=some [(.val (.int .i64 a),q1),(.val (.int .i64 b),q2)])  (G:Ly ops σ ⟨dst,.binOp .add t x y yt,ty,pos,af,g⟩=some true)
  (hok:(Nj Rt i false (nb + 8 * i) [] [] lg && (Nat.beq (zM fz (nb + 8 * i)) 0 && Sl cx.np (.binOp .add t x y yt) []))=true) (k:Gm P cx fz ops Rt nb (Ft (i + 1) l) ((i,false,nb + 8 * i,[],[]) :: lg) (σ.app dst (v0 (.val (.int .i64 (W (a + b)))))) m' lg' σ'):Gm P cx fz ops Rt nb (Ft i (⟨dst,.binOp .add t x y yt,ty,pos,af,g⟩ :: l)) lg σ m' lg' σ':=
 Gm.s hds (aUb) k G rfl hok
theorem Gm.sub {x y:Operand} {t yt:TypeId} {a b:Int} {q1 q2:Option LB} (hds:Gk σ false [x,y]=some [(.val (.int .i64 a),q1),(.val (.int .i64 b),q2)])  (G:Ly ops σ ⟨dst,.binOp .sub t x y yt,ty,pos,af,g⟩=some true)
  (hok:(Nj Rt i false (nb + 8 * i) [] [] lg && (Nat.beq (zM fz (nb + 8 * i)) 0 && Sl cx.np (.binOp .sub t x y yt) []))=true) (k:Gm P cx fz ops Rt nb (Ft (i + 1) l) ((i,false,nb + 8 * i,[],[]) :: lg) (σ.app dst (v0 (.val (.int .i64 (W (a - b)))))) m' lg' σ'):Gm P cx fz ops Rt nb (Ft i (⟨dst,.binOp .sub t x y yt,ty,pos,af,g⟩ :: l)) lg σ m' lg' σ':=
 Gm.s hds (aTp) k G rfl hok
theorem Gm.mul {x y:Operand} {t yt:TypeId} {a b:Int} {q1 q2:Option LB} (hds:Gk σ false [x,y]=some [(.val (.int .i64 a),q1),(.val (.int .i64 b),q2)])  (G:Ly ops σ ⟨dst,.binOp .mul t x y yt,ty,pos,af,g⟩=some true)
  (hok:(Nj Rt i false (nb + 8 * i) [] [] lg && (Nat.beq (zM fz (nb + 8 * i)) 0 && Sl cx.np (.binOp .mul t x y yt) []))=true) (k:Gm P cx fz ops Rt nb (Ft (i + 1) l) ((i,false,nb + 8 * i,[],[]) :: lg) (σ.app dst (v0 (.val (.int .i64 (W (a * b)))))) m' lg' σ'):Gm P cx fz ops Rt nb (Ft i (⟨dst,.binOp .mul t x y yt,ty,pos,af,g⟩ :: l)) lg σ m' lg' σ':=
 Gm.s hds (aQf) k G rfl hok
theorem Gm.alloc {t:TypeId} {z:List Value} [Z:Sh P t z] (hds:Gk σ false []=some [])  (G:Ly ops σ ⟨dst,.alloc t,ty,pos,af,g⟩=some true)
  (hok:(Nj Rt i false (nb + 8 * i) [] [] lg && (Nat.beq (zM fz (nb + 8 * i)) 0 && Sl cx.np (.alloc t) []))=true) (k:Gm P cx fz ops Rt nb (Ft (i + 1) l) ((i,false,nb + 8 * i,[],[]) :: lg) (σ.app dst (Wp (nb + 8 * i) (.box (z.map .val) t) (.ptr (nb + 8 * i) 0))) m' lg' σ'):Gm P cx fz ops Rt nb (Ft i (⟨dst,.alloc t,ty,pos,af,g⟩ :: l)) lg σ m' lg' σ':=
 Gm.s hds (.alloc Z.h) k G rfl hok
theorem Gm.box {x:Operand} {t:TypeId} {d:DV} {q:Option LB} (hds:Gk σ false [x]=some [(d,q)]) (ho:(Ed d).all kY=true) (G:Ly ops σ ⟨dst,.box t x,ty,pos,af,g⟩=some true)
  (hok:(Nj Rt i false (nb + 8 * i) [] [] lg && (Nat.beq (zM fz (nb + 8 * i)) 0 && Sl cx.np (.box t x) []))=true) (k:Gm P cx fz ops Rt nb (Ft (i + 1) l) ((i,false,nb + 8 * i,[],[]) :: lg) (σ.app dst (Wp (nb + 8 * i) (.box (Ed d) t) (.ptr (nb + 8 * i) 0))) m' lg' σ'):Gm P cx fz ops Rt nb (Ft i (⟨dst,.box t x,ty,pos,af,g⟩ :: l)) lg σ m' lg' σ':=
 Gm.s hds (.box ho) k G rfl hok
theorem Gm.not {x:Operand} {t:TypeId} {b:Bool} {q:Option LB} (hds:Gk σ false [x]=some [(.val (.bool b),q)])  (G:Ly ops σ ⟨dst,.unOp .not t x,ty,pos,af,g⟩=some true)
  (hok:(Nj Rt i false (nb + 8 * i) [] [] lg && (Nat.beq (zM fz (nb + 8 * i)) 0 && Sl cx.np (.unOp .not t x) []))=true) (k:Gm P cx fz ops Rt nb (Ft (i + 1) l) ((i,false,nb + 8 * i,[],[]) :: lg) (σ.app dst (v0 (.val (.bool (!b))))) m' lg' σ'):Gm P cx fz ops Rt nb (Ft i (⟨dst,.unOp .not t x,ty,pos,af,g⟩ :: l)) lg σ m' lg' σ':=
 Gm.s hds (aSn) k G rfl hok
theorem Gm.lenS {α:Type} {f:α->List C} {L:List α} {x:Operand} {t e sz by_:Nat} {q:Option LB} [S:Up P t e sz by_] (hds:Gk σ true [x]=some [(.sl sz (Ac f L),q)]) (E:O2 f sz) (G:Ly ops σ ⟨dst,.call ⟨.builtin .len,#[x],#[t]⟩,ty,pos,af,g⟩=some true)
  (hok:(Nj Rt i false (nb + 8 * i) [] [] lg && (Nat.beq (zM fz (nb + 8 * i)) 0 && Sl cx.np (.call ⟨.builtin .len,#[x],#[t]⟩) []))=true) (k:Gm P cx fz ops Rt nb (Ft (i + 1) l) ((i,false,nb + 8 * i,[],[]) :: lg) (σ.app dst (v0 (.val (.int .i64 (L.length:Int))))) m' lg' σ'):Gm P cx fz ops Rt nb (Ft i (⟨dst,.call ⟨.builtin .len,#[x],#[t]⟩,ty,pos,af,g⟩ :: l)) lg σ m' lg' σ':=
 Gm.s hds (aPr S.h E.h) k G rfl hok
theorem Gm.lenR {α:Type} {f:α->List C} {L:List α} {x:Operand} {t e e' sz by_ k:Nat} [S:Up P t e sz by_] (hds:Gk σ true [x]=some [(.row k,some (.row e' sz (Ac f L)))]) (E:O2 f sz) (G:Ly ops σ ⟨dst,.call ⟨.builtin .len,#[x],#[t]⟩,ty,pos,af,g⟩=some true)
  (hok:(Nj Rt i false (nb + 8 * i) [k] [] lg && (Nat.beq (zM fz (nb + 8 * i)) 0 && Sl cx.np (.call ⟨.builtin .len,#[x],#[t]⟩) []))=true) (k:Gm P cx fz ops Rt nb (Ft (i + 1) l) ((i,false,nb + 8 * i,[k],[]) :: lg) (σ.app dst (v0 (.val (.int .i64 (L.length:Int))))) m' lg' σ'):Gm P cx fz ops Rt nb (Ft i (⟨dst,.call ⟨.builtin .len,#[x],#[t]⟩,ty,pos,af,g⟩ :: l)) lg σ m' lg' σ':=
 Gm.s hds (aMc S.h E.h) k G rfl hok
theorem Gm.idxS {α:Type} {f:α->List C} {L:List α} {a:α} {x y:Operand} {t e sz by_:Nat} {kk:IntKind} {n:Int} {q1 q2:Option LB} [S:Up P t e sz by_] (hds:Gk σ true [x,y]=some [(.sl sz (Ac f L),q1),(.val (.int kk n),q2)]) (E:O2 f sz) (hx:Bn L n=some a) (G:Ly ops σ ⟨dst,.indexAddr t x y,ty,pos,af,g⟩=some true)
  (hok:(Nj Rt i false (nb + 8 * i) [] [] lg && (Nat.beq (zM fz (nb + 8 * i)) 0 && Sl cx.np (.indexAddr t x y) []))=true) (k:Gm P cx fz ops Rt nb (Ft (i + 1) l) ((i,false,nb + 8 * i,[],[]) :: lg) (σ.app dst (v0 (.elt ((Ac f L).drop (n.toNat * sz))))) m' lg' σ'):Gm P cx fz ops Rt nb (Ft i (⟨dst,.indexAddr t x y,ty,pos,af,g⟩ :: l)) lg σ m' lg' σ':=
 Gm.s hds (aFc S.h E.h (L0 hx) (Cf hx)) k G rfl hok
theorem Gm.idxR {α:Type} {f:α->List C} {L:List α} {a:α} {x y:Operand} {t e e' sz by_ k:Nat} {kk:IntKind} {n:Int} {q2:Option LB} [S:Up P t e sz by_] (hds:Gk σ true [x,y]=some [(.row k,some (.row e' sz (Ac f L))),(.val (.int kk n),q2)]) (E:O2 f sz) (hx:Bn L n=some a) (G:Ly ops σ ⟨dst,.indexAddr t x y,ty,pos,af,g⟩=some true)
  (hok:(Nj Rt i false (nb + 8 * i) [k] [] lg && (Nat.beq (zM fz (nb + 8 * i)) 0 && Sl cx.np (.indexAddr t x y) []))=true) (k:Gm P cx fz ops Rt nb (Ft (i + 1) l) ((i,false,nb + 8 * i,[k],[]) :: lg) (σ.app dst (v0 (.ptr k (n.toNat * sz)))) m' lg' σ'):Gm P cx fz ops Rt nb (Ft i (⟨dst,.indexAddr t x y,ty,pos,af,g⟩ :: l)) lg σ m' lg' σ':=
 Gm.s hds (aC0 S.h E.h (L0 hx) (Cf hx)) k G rfl hok
theorem Gm.nilP {x:Operand} {k j:Nat} {q:Option LB} (hds:Gk σ false [x]=some [(.ptr k j,q)])  (G:Ly ops σ ⟨dst,.nilCheck x,ty,pos,af,g⟩=some true)
  (hok:(Nj Rt i false (nb + 8 * i) [] [] lg && (Nat.beq (zM fz (nb + 8 * i)) 0 && Sl cx.np (.nilCheck x) []))=true) (k:Gm P cx fz ops Rt nb (Ft (i + 1) l) ((i,false,nb + 8 * i,[],[]) :: lg) (σ.app dst (v0 (.ptr k j))) m' lg' σ'):Gm P cx fz ops Rt nb (Ft i (⟨dst,.nilCheck x,ty,pos,af,g⟩ :: l)) lg σ m' lg' σ':=
 Gm.s hds (.nilP) k G rfl hok
theorem Gm.nilE {x:Operand} {cs:List C} {q:Option LB} (hds:Gk σ false [x]=some [(.elt cs,q)])  (G:Ly ops σ ⟨dst,.nilCheck x,ty,pos,af,g⟩=some true)
  (hok:(Nj Rt i false (nb + 8 * i) [] [] lg && (Nat.beq (zM fz (nb + 8 * i)) 0 && Sl cx.np (.nilCheck x) []))=true) (k:Gm P cx fz ops Rt nb (Ft (i + 1) l) ((i,false,nb + 8 * i,[],[]) :: lg) (σ.app dst (v0 (.elt cs))) m' lg' σ'):Gm P cx fz ops Rt nb (Ft i (⟨dst,.nilCheck x,ty,pos,af,g⟩ :: l)) lg σ m' lg' σ':=
 Gm.s hds (.nilE) k G rfl hok
theorem Gm.field1 {x:Operand} {s f off ft sz:Nat} {ds:List DV} {d:DV} {q:Option LB} [F:I8 P s f off ft] [T:M3 P ft false sz] (hds:Gk σ false [x]=some [(.agg ds,q)]) (hd:ds[off]?=some d) (G:Ly ops σ ⟨dst,.field s x f,ty,pos,af,g⟩=some true)
  (hok:(Nj Rt i false (nb + 8 * i) [] [] lg && (Nat.beq (zM fz (nb + 8 * i)) 0 && Sl cx.np (.field s x f) []))=true) (k:Gm P cx fz ops Rt nb (Ft (i + 1) l) ((i,false,nb + 8 * i,[],[]) :: lg) (σ.app dst (v0 d)) m' lg' σ'):Gm P cx fz ops Rt nb (Ft i (⟨dst,.field s x f,ty,pos,af,g⟩ :: l)) lg σ m' lg' σ':=
 Gm.s hds (.field1 F.h T.h hd) k G rfl hok
theorem Gm.fieldA {x:Operand} {s f off ft sz:Nat} {ds:List DV} {q:Option LB} [F:I8 P s f off ft] [T:M3 P ft true sz] (hds:Gk σ false [x]=some [(.agg ds,q)])  (G:Ly ops σ ⟨dst,.field s x f,ty,pos,af,g⟩=some true)
  (hok:(Nj Rt i false (nb + 8 * i) [] [] lg && (Nat.beq (zM fz (nb + 8 * i)) 0 && Sl cx.np (.field s x f) []))=true) (k:Gm P cx fz ops Rt nb (Ft (i + 1) l) ((i,false,nb + 8 * i,[],[]) :: lg) (σ.app dst (v0 (.agg ((ds.drop off).take sz)))) m' lg' σ'):Gm P cx fz ops Rt nb (Ft i (⟨dst,.field s x f,ty,pos,af,g⟩ :: l)) lg σ m' lg' σ':=
 Gm.s hds (.fieldA F.h T.h) k G rfl hok
theorem Gm.makeF {f:Nat} {first caps:Array Operand} {ds:List (DV×Option LB)} (hds:Gk σ false (Op.makeFunc (.func f) first caps).operands.toList=some ds)  (G:Ly ops σ ⟨dst,.makeFunc (.func f) first caps,ty,pos,af,g⟩=some true)
  (hok:(Nj Rt i false (nb + 8 * i) [] [] lg && (Nat.beq (zM fz (nb + 8 * i)) 0 && Sl cx.np (.makeFunc (.func f) first caps) []))=true) (k:Gm P cx fz ops Rt nb (Ft (i + 1) l) ((i,false,nb + 8 * i,[],[]) :: lg) (σ.app dst (v0 (.clo f first.size (ds.map (·.1))))) m' lg' σ'):Gm P cx fz ops Rt nb (Ft i (⟨dst,.makeFunc (.func f) first caps,ty,pos,af,g⟩ :: l)) lg σ m' lg' σ':=
 Gm.s hds (.makeFunc) k G rfl hok
theorem Mi {p:Prop} (h:p:=by first | with_reducible exact aQx | exact Mq rfl rfl (by first | with_reducible assumption | with_reducible rfl | with_reducible exact kE (by with_reducible assumption) | with_reducible exact iQ (by with_reducible assumption))):p:=h
theorem gm_ {p:Prop} (h:p:=by
  repeat first
   | (apply Gm.move; exact rfl; exact Mi; exact rfl)
   | (apply Gm.assign; exact rfl; exact Mi; exact rfl)
   | (apply Gm.fieldP; exact rfl; (exact rfl); exact Mi; exact rfl)
   | (apply Gm.load1; exact rfl; (exact rfl); exact Mi; exact rfl)
   | (apply Gm.loadA; exact rfl; (exact rfl); exact Mi; exact rfl)
   | (apply Gm.pickF; exact rfl; (first | with_reducible assumption | with_reducible rfl | with_reducible exact kE (by with_reducible assumption)); exact Mi; exact rfl)
   | (apply Gm.pickT; exact rfl; (first | with_reducible assumption | with_reducible rfl | with_reducible exact iQ (by with_reducible assumption)); exact Mi; exact rfl)
   | (apply Gm.k; (first | exact aDd rfl rfl (by first | with_reducible assumption | with_reducible rfl | with_reducible exact kE (by with_reducible assumption) | with_reducible exact iQ (by with_reducible assumption)) | exact aDy rfl rfl (by first | with_reducible assumption | with_reducible rfl | with_reducible exact kE (by with_reducible assumption) | with_reducible exact iQ (by with_reducible assumption)) | exact aKk rfl rfl); exact rfl)
   | (apply Gm.storeB; exact rfl; (exact rfl); (exact rfl); (exact rfl); (focus repeat first | exact (rfl:_=[]) | (apply aL1; exact rfl)); (first | exact (rfl:_=[_]) | exact (rfl:_=[_,_]) | exact (rfl:_=[_,_,_])); exact Mi; exact rfl)
   | (apply Gm.extract; exact rfl; (exact rfl); exact Mi; exact rfl)
   | (apply Gm.lss; exact rfl; exact Mi; exact rfl)
   | (apply Gm.eql; exact rfl; exact Mi; exact rfl)
   | (apply Gm.gtr; exact rfl; exact Mi; exact rfl)
   | (apply Gm.leq; exact rfl; exact Mi; exact rfl)
   | (apply Gm.geq; exact rfl; exact Mi; exact rfl)
   | (apply Gm.neq; exact rfl; exact Mi; exact rfl)
   | (apply Gm.seql; exact rfl; exact Mi; exact rfl)
   | (apply Gm.sneq; exact rfl; exact Mi; exact rfl)
   | (apply Gm.add; exact rfl; exact Mi; exact rfl)
   | (apply Gm.sub; exact rfl; exact Mi; exact rfl)
   | (apply Gm.mul; exact rfl; exact Mi; exact rfl)
   | (apply Gm.alloc; exact rfl; exact Mi; exact rfl)
   | (apply Gm.box; exact rfl; (exact rfl); exact Mi; exact rfl)
   | (apply Gm.not; exact rfl; exact Mi; exact rfl)
   | (apply Gm.lenS; exact rfl; (exact inferInstance); exact Mi; exact rfl)
   | (apply Gm.lenR; exact rfl; (exact inferInstance); exact Mi; exact rfl)
   | (apply Gm.idxS; exact rfl; (exact inferInstance); (with_reducible assumption); exact Mi; exact rfl)
   | (apply Gm.idxR; exact rfl; (exact inferInstance); (with_reducible assumption); exact Mi; exact rfl)
   | (apply Gm.nilP; exact rfl; exact Mi; exact rfl)
   | (apply Gm.nilE; exact rfl; exact Mi; exact rfl)
   | (apply Gm.field1; exact rfl; (exact rfl); exact Mi; exact rfl)
   | (apply Gm.fieldA; exact rfl; exact Mi; exact rfl)
   | (apply Gm.makeF; exact rfl; exact Mi; exact rfl)
  exact Gm.z):p:=h
theorem Il {m:List (Nat×Oper)} (k:Chain (E4 P cx fz) ops Rt nb m' lg' σ' Q) (h:Gm P cx fz ops Rt nb m lg σ m' lg' σ':=by exact gm_):Chain (E4 P cx fz) ops Rt nb m lg σ Q:=h Q k
end
theorem bc_ {R:Type} {b:Bool} {X Y:Option R} {r:R} (G:cond b X Y=some r):(b=true/\X=some r)\/(b=false/\Y=some r):=by
 cases b with
 | true=>exact .inl ⟨rfl,G⟩
 | false=>exact .inr ⟨rfl,G⟩
section
variable {P:Program} {cx:Cx} {σ:St} {Q:Exit->St->Prop} {x y:Code}
theorem Ji {R:Type} {t:Nat} {b:Bool} {X Y:Option R} {r:R} (hc:σ.F t=some (.val (.bool b))) (G:cond b X Y=some r) (h1:b=true->X=some r->Kb P cx x Q σ) (h2:b=false->Y=some r->Kb P cx y Q σ):Kb P cx (.cond (.tmp t) x y) Q σ:=
 Vg hc (fun h=>h1 h (aN3 h G)) fun h=>h2 h (aO0 h G)
theorem B5 {fl:List (Nat×DV)} {ll:List (Nat×LB)} {n:Nat} (θ:List (Nat×Nat))
  (hF:aJo σ (G1 θ) fl:=by
   repeat' first
    | exact trivial
    | refine⟨⟨_,rfl,?_⟩,?_⟩
    | exact Cv.val _
    | exact Cv.sl _ _
    | exact Cv.slc _ _
    | exact Cv.ptr rfl
    | exact Cv.row rfl
    | exact Cv.part rfl
    | exact Cv.nil rfl
    | exact Cv.nils _
    | exact Cv.elt _
    | exact Cv.mp _
    | exact Cv.imm _
    | exact Cv.nilI
    | refine Cv.clo _ _ ?_
    | refine Cv.agg ?_
    | refine Cv.tup ?_
    | refine Cv.clo _ _ ?_
    | exact U5.nil
    | refine U5.cons ?_ ?_
    | exact Cv.frzM rfl (H3 rfl)
    | exact Cv.frz rfl (H3 rfl)
   first | done | fail)
  (hL:oN σ (G1 θ) ll:=by
   repeat' first
    | exact trivial
    | refine⟨.inl ⟨_,_,rfl,rfl,⟨rfl,rfl,rfl⟩⟩,?_⟩
    | refine⟨.inl ⟨_,_,rfl,rfl,⟨⟨rfl,rfl,rfl⟩,?_⟩⟩,?_⟩
    | refine⟨.inl ⟨_,_,rfl,rfl,rfl⟩,?_⟩
    | refine⟨.inl ⟨_,_,rfl,rfl,⟨rfl,?_⟩⟩,?_⟩
    | refine⟨.inr ⟨rfl,_,_,rfl⟩,?_⟩
    | exact Cv.val _
    | exact Cv.sl _ _
    | exact Cv.slc _ _
    | exact Cv.ptr rfl
    | exact Cv.row rfl
    | exact Cv.part rfl
    | exact Cv.nil rfl
    | exact Cv.nils _
    | exact Cv.elt _
    | exact Cv.mp _
    | exact Cv.imm _
    | exact Cv.nilI
    | refine Cv.clo _ _ ?_
    | refine Cv.agg ?_
    | exact U5.nil
    | refine U5.cons ?_ ?_
    | exact Cv.frzM rfl (H3 rfl)
    | exact Cv.frz rfl (H3 rfl)
   first | done | fail)
  (hc:oG fl ll n θ=true:=by rfl) (hp:lJ θ n cx.np=true:=by rfl):Rs cx σ (mk fl ll n):=Rs.lists θ hc hp hF hL
theorem Ip {S R:Type} {body:S->Option (Lp S R)} {s0:S} {r:R} (st:S->St) (G:C7 body s0=some r) (h0:Rs cx σ (st s0)) (round:∀ (s:S) (m:Nat) (o:Lp S R),body s=some o->U1 (Sz body m) o=some r->Kb P cx x (thn (fun σ'=>∃ j:S×Nat,j.2 < m + 1/\Sz body j.2 j.1=some r/\Rs cx σ' (st j.1)) Q) (st s)):Kb P cx (.loop x) Q σ:=by
 obtain⟨n,G⟩:=X8 G
 refine sX (ι:=S×Nat) (fun q=>st q.1) (fun q=>Sz body q.2 q.1=some r) (fun q=>q.2) (s0,n) h0 G ?_
 rintro⟨s,k⟩ hk
 obtain⟨m,o,rfl,h1,h2⟩:=yR (show Sz body k s=some r from hk)
 exact round s m o h1 h2
theorem Q5 {fn:Func} {np:Nat} {R:DV->List LB->Prop} {ds:List DV} {r:DV} {bx:List LB} (θ:List (Nat×Nat)) (hR:R r bx)
  (h1:Wc P σ fn.results.toList ds:=by
   repeat first
    | exact Wc.nil
    | (apply Wc.cons; exact .tmp rfl)
    | (apply Wc.cons; exact .cell1 rfl rfl M3.h rfl)
    | (apply Wc.cons; exact .cellA rfl rfl M3.h rfl))
  (h2:Cv σ (G1 θ) (aFb ds) r:=by
   repeat' first
    | exact Cv.val _
    | exact Cv.sl _ _
    | exact Cv.slc _ _
    | exact Cv.ptr rfl
    | exact Cv.row rfl
    | exact Cv.nil rfl
    | exact Cv.nils _
    | exact Cv.elt _
    | exact Cv.mp _
    | exact Cv.imm _
    | exact Cv.nilI
    | refine Cv.clo _ _ ?_
    | refine Cv.agg ?_
    | refine Cv.tup ?_
    | exact U5.nil
    | refine U5.cons ?_ ?_
    | exact Cv.frzM rfl (H3 rfl)
    | exact Cv.frz rfl (H3 rfl)
   first | done | fail)
  (h3:oN σ (G1 θ) (ix 0 bx):=by
   repeat' first
    | exact trivial
    | refine⟨.inl ⟨_,_,rfl,rfl,⟨rfl,rfl,rfl⟩⟩,?_⟩
    | refine⟨.inl ⟨_,_,rfl,rfl,⟨⟨rfl,rfl,rfl⟩,?_⟩⟩,?_⟩
    | refine⟨.inl ⟨_,_,rfl,rfl,rfl⟩,?_⟩
    | refine⟨.inl ⟨_,_,rfl,rfl,⟨rfl,?_⟩⟩,?_⟩
    | refine⟨.inr ⟨rfl,_,_,rfl⟩,?_⟩
    | exact Cv.val _
    | exact Cv.sl _ _
    | exact Cv.slc _ _
    | exact Cv.ptr rfl
    | exact Cv.row rfl
    | exact Cv.nil rfl
    | exact Cv.nils _
    | exact Cv.elt _
    | exact Cv.mp _
    | exact Cv.imm _
    | exact Cv.nilI
    | refine Cv.clo _ _ ?_
    | refine Cv.agg ?_
    | exact U5.nil
    | refine U5.cons ?_ ?_
    | exact Cv.frzM rfl (H3 rfl)
    | exact Cv.frz rfl (H3 rfl)
   first | done | fail)
  (h4:oG [(0,r)] (ix 0 bx) bx.length θ=true:=by rfl) (h5:lJ θ bx.length np=true:=by rfl) (h6:Nat.ble np bx.length=true:=by rfl) (h7:Nat.ble bx.length (np + 8)=true:=by rfl):Fin P fn np R σ:=
 ⟨ds,r,bx,θ,h1,hR,h2,h3,h4,h5,h6,h7⟩
end
section
variable {P:Program} {cx:Cx} {ops:Array Oper} {Rt:Option (List Nat)} {nb i:Nat} {l:List Oper} {lg:pF} {σ:St} {Q:St->Prop} {fz:List Nat}
theorem P9 {dst:Option Tmp} {f:FuncId} {xs:Array Operand} {tys:Array TypeId} {ty:TypeId} {pos:String} {af:Array Edge} {g:Option (Nat×Bool)} {dsA:List (DV×Option LB)} {args:List DV} {d:DV}
  (hF:Fn P f 0 args [] (fun d' b'=>d'=d/\b'=[]))
  (k:Chain (E4 P cx fz) ops Rt nb (Ft (i + 1) l) ((i,true,nb + 8 * i,[],[]) :: lg) (σ.app dst (fI [] [] d [])) Q)
  (hds:Gk σ true xs.toList=some dsA:=by rfl)
  (hA:H1 false ([] ++ []) (Kz σ []) (dsA.map (·.1)) args:=by
   repeat' first
    | exact H1.nil
    | exact Ag.val
    | exact Ag.sl
    | exact Ag.nils
    | exact Ag.elt
    | exact Ag.fn
    | refine Ag.agg ?_
    | refine Ag.clo ?_
    | refine H1.cons ?_ ?_
   first | done | fail)
  (G:Ly ops σ ⟨dst,.call ⟨.value (.func f),xs,tys⟩,ty,pos,af,g⟩=some true:=by exact Mi)
  (hrd:Ss σ 3 (Tz dsA)=[]:=by rfl) (hok:Nj Rt i true (nb + 8 * i) [] [] lg=true:=by rfl) (hr:K0 d=[]:=by rfl) :
  Chain (E4 P cx fz) ops Rt nb (Ft i (⟨dst,.call ⟨.value (.func f),xs,tys⟩,ty,pos,af,g⟩ :: l)) lg σ Q:=
 kX (ps:=[]) (gs:=[]) (rd:=[]) (bx:=[]) (b:=[]) false G hF hds hrd hA rfl rfl (fun h=>by cases h) hok hr rfl rfl k
theorem dO {dst:Option Tmp} {f:FuncId} {xs:Array Operand} {tys:Array TypeId} {ty:TypeId} {pos:String} {af:Array Edge} {g:Option (Nat×Bool)} {dsA:List (DV×Option LB)} {args:List DV} {bx:List LB} {d:DV} {b:List LB} (rd ps gs:List Nat) (fl:Bool)
  (hF:Fn P f ps.length args bx (fun d' b'=>d'=d/\b'=b))
  (k:Chain (E4 P cx fz) ops Rt nb (Ft (i + 1) l) ((i,true,nb + 8 * i,rd,ps ++ gs) :: lg) (σ.app dst (fI ps gs d b)) Q)
  (hds:Gk σ true xs.toList=some dsA:=by rfl)
  (hA:H1 fl (ps ++ gs) (Kz σ rd) (dsA.map (·.1)) args:=by
   repeat' first
    | exact H1.nil
    | exact Ag.val
    | exact Ag.sl
    | exact Ag.nils
    | exact Ag.elt
    | exact Ag.fn
    | exact Ag.ptr rfl
    | exact Ag.rowK rfl
    | exact Ag.row rfl (by repeat first | exact List.Mem.head _ | refine List.Mem.tail _ ?_) rfl
    | refine Ag.agg ?_
    | refine Ag.clo ?_
    | refine H1.cons ?_ ?_
   first | done | fail)
  (hB:Zv fl (ps ++ gs) (Kz σ rd) (ps ++ gs) bx:=by
   repeat' first
    | exact (rfl:_=[])
    | refine⟨_,_,_,rfl,(.head _),⟨_,rfl,?_⟩,?_⟩
    | refine⟨_,_,_,rfl,(.tail _ (.head _)),⟨_,rfl,?_⟩,?_⟩
    | refine⟨_,_,_,rfl,(.tail _ (.tail _ (.head _))),⟨_,rfl,?_⟩,?_⟩
    | refine⟨_,_,_,rfl,(.tail _ (.tail _ (.tail _ (.head _)))),⟨_,rfl,?_⟩,?_⟩
    | refine⟨_,_,_,rfl,(.tail _ (.tail _ (.tail _ (.tail _ (.head _))))),⟨_,rfl,?_⟩,?_⟩
    | refine⟨_,_,_,rfl,(.tail _ (.tail _ (.tail _ (.tail _ (.tail _ (.head _)))))),⟨_,rfl,?_⟩,?_⟩
    | refine⟨_,_,_,rfl,(.tail _ (.tail _ (.tail _ (.tail _ (.tail _ (.tail _ (.head _))))))),⟨_,rfl,?_⟩,?_⟩
    | refine⟨_,_,_,rfl,(.head _),rfl,?_⟩
    | refine⟨_,_,_,rfl,(.tail _ (.head _)),rfl,?_⟩
    | refine⟨_,_,_,rfl,(.tail _ (.tail _ (.head _))),rfl,?_⟩
    | refine⟨_,_,_,rfl,(.tail _ (.tail _ (.tail _ (.head _)))),rfl,?_⟩
    | refine⟨_,_,_,rfl,(.tail _ (.tail _ (.tail _ (.tail _ (.head _))))),rfl,?_⟩
    | refine⟨_,_,_,rfl,(.tail _ (.tail _ (.tail _ (.tail _ (.tail _ (.head _)))))),rfl,?_⟩
    | refine⟨_,_,_,rfl,(.tail _ (.tail _ (.tail _ (.tail _ (.tail _ (.tail _ (.head _))))))),rfl,?_⟩
    | exact H1.nil
    | exact Ag.val
    | exact Ag.sl
    | exact Ag.nils
    | exact Ag.elt
    | exact Ag.ptr rfl
    | refine H1.cons ?_ ?_
   first | done | fail)
  (G:Ly ops σ ⟨dst,.call ⟨.value (.func f),xs,tys⟩,ty,pos,af,g⟩=some true:=by exact Mi)
  (hrd:Ss σ 3 (Tz dsA)=rd:=by rfl) (hnd:O5 cx.np ps gs=true:=by rfl) (hfl:fl=true->Kl d/\∀ lb∈b,Pr lb:=by first | (intro h; cases h; done) | exact fun _=>⟨by simp [Kl,Nm],by simp [Pr,Nm,Kl]⟩)
  (hok:Nj Rt i true (nb + 8 * i) rd (ps ++ gs) lg=true:=by rfl) (hr:K0 d=[]:=by rfl) (hl:b.length=ps.length:=by rfl) (hb:b.flatMap dR=[]:=by rfl) :
  Chain (E4 P cx fz) ops Rt nb (Ft i (⟨dst,.call ⟨.value (.func f),xs,tys⟩,ty,pos,af,g⟩ :: l)) lg σ Q:=
 kX fl G hF hds hrd hA hB hnd hfl hok hr hl hb k
end
theorem t2_ {p:Prop} (h:p:=by obtain rfl:=oi_ G; exact Q5 [] ⟨rfl,rfl⟩):p:=h
theorem t5_ {p:Prop} (h:p:=by refine Il ?_; refine Xu fun B=>?_; refine tQ ?_; obtain rfl:=oi_ G; exact Q5 [] ⟨rfl,rfl⟩):p:=h
theorem Jp {p q:Prop} (k:q) (h:q->p:=by intro k; refine Il ?_; refine Xu ?_; exact k):p:=h k
theorem rp_ {p q:Prop} (k:q) (h:q->p:=by intro k; (repeat first | refine st_ ?_ | refine sn_ ?_); exact k):p:=h k
theorem nl_ {p:Prop} (h:p:=by (repeat first | exact (rfl:_=[]) | (apply aL1; exact rfl)); first | done | fail):p:=h
theorem dc_ {p:Prop} (h:p:=by (repeat first | exact Mr.nil | (apply Mr.cons; first | exact kZ.int | exact kZ.bool | exact kZ.str | exact kZ.sl | exact kZ.nil)); first | done | fail):p:=h
theorem t3_ {p:Prop} (h:p:=by refine tQ ?_; obtain rfl:=oi_ G; exact Q5 [] ⟨rfl,rfl⟩):p:=h
theorem Ts {p q:Prop} (k:q) (h:q->p:=by intro k; refine aBx ?_; (repeat first | refine st_ ?_ | refine sn_ ?_); exact k):p:=h k
theorem iC {p q:Prop} (k:q) (h:q->p:=by intro k; refine aDr ?_; (repeat first | refine st_ ?_ | refine sn_ ?_); exact k):p:=h k
class tM {α:Type} (f:α->List C):Prop where
 h:∀ x,∀ c∈f x,xN c=true
theorem aAl {α:Type} {f:α->List C} [F:tM f] {e s:Nat} {l:List α}:Pr (.row e s (Ac f l)):=fun c hc=>by
 unfold Ac at hc
 obtain⟨x,-,h⟩:=List.mem_flatMap.1 hc
 exact F.h x c h
instance:tM eI:=⟨fun x c hc=>by rw [aF2.1 hc]; rfl⟩
theorem fb_ {p:Prop} (h:p:=by first | (simp [Pr,Nm,Kl]; done) | (repeat' first | exact aAl | refine List.forall_mem_cons.2 ⟨?_,?_⟩ | exact (fun _ h=>nomatch h) | simp [Pr,Nm,Kl])):p:=h
theorem tG {α:Type} {l l':List α} (h:l.length=l'.length):Fa l 0 l'=l':=by
 unfold Fa
 rw [List.take_zero,aVl,aNm,<- h,List.drop_length,List.append_nil]
section
variable {P:Program} {cx:Cx} {ops:Array Oper} {Rt:Option (List Nat)} {nb i:Nat} {l:List Oper} {lg:pF} {σ:St} {Q:St->Prop} {fz:List Nat} {α:Type} {f:α->List C} {L:List α} {a:α} {n:Int} {m:Nat} {t:TypeId} {x y:Operand} {dst:Option Tmp} {ty:TypeId} {pos:String} {af:Array Edge} {g:Option (Nat×Bool)}
theorem lE_ (he:Bn L n=some a) {b1:Option LB} {cs:List C} (k:Chain (E4 P cx fz) ops Rt nb (Ft (i + 1) l) ((i,false,nb + 8 * i,[],[]) :: lg) (σ.app dst (v0 (.agg (cs.map Wx)))) Q) [T:M3 P t true m]
  (hds:Gk σ true [x]=some [(.elt ((Ac f L).drop (n.toNat * m)),b1)]:=by exact rfl) (E:O2 f m:=by exact inferInstance) (hc:f a=cs:=by exact nl_) (G:Ly ops σ ⟨dst,.load t x,ty,pos,af,g⟩=some true:=by exact Mi)
  (hok:Nj Rt i false (nb + 8 * i) [] [] lg=true:=by exact rfl) (hz:zM fz (nb + 8 * i)=0:=by exact rfl) (hap:Sl cx.np (.load t x) []=true:=by exact rfl):Chain (E4 P cx fz) ops Rt nb (Ft i (⟨dst,.load t x,ty,pos,af,g⟩ :: l)) lg σ Q:=
 Ex G hds (Kr T.h (K9 E.h (Cf he) (o:=0) (m:=m) (by rw [bDb,aKz (by rw [E.h]; exact aKp _)]; exact hc) (by omega) rfl) (Fh E.h (Cf he) (o:=0) (m:=m) (by omega) rfl)) rfl hok k hz hap
theorem l1_ (he:Bn L n=some a) {b1:Option LB} {c:C} {sz:Nat} (k:Chain (E4 P cx fz) ops Rt nb (Ft (i + 1) l) ((i,false,nb + 8 * i,[],[]) :: lg) (σ.app dst (v0 (Wx c))) Q) [T:M3 P t false sz]
  (hds:Gk σ true [x]=some [(.elt ((Ac f L).drop (n.toNat * 1)),b1)]:=by exact rfl) (E:O2 f 1:=by exact inferInstance) (hc:f a=[c]:=by exact rfl) (G:Ly ops σ ⟨dst,.load t x,ty,pos,af,g⟩=some true:=by exact Mi)
  (hok:Nj Rt i false (nb + 8 * i) [] [] lg=true:=by exact rfl) (hz:zM fz (nb + 8 * i)=0:=by exact rfl) (hap:Sl cx.np (.load t x) []=true:=by exact rfl):Chain (E4 P cx fz) ops Rt nb (Ft i (⟨dst,.load t x,ty,pos,af,g⟩ :: l)) lg σ Q:=
 Ex G hds (Eb T.h (G3 E.h (Cf he) (o:=0) (by rw [hc]; rfl) rfl)) rfl hok k hz hap
theorem lR_ (he:Bn L n=some a) {kr e':Nat} {cs:List C} (k:Chain (E4 P cx fz) ops Rt nb (Ft (i + 1) l) ((i,false,nb + 8 * i,[kr],[]) :: lg) (σ.app dst (v0 (.agg (cs.map Wx)))) Q) [T:M3 P t true m]
  (hds:Gk σ true [x]=some [(.ptr kr (n.toNat * m),some (.row e' m (Ac f L)))]:=by exact rfl) (E:O2 f m:=by exact inferInstance) (hc:f a=cs:=by exact nl_) (G:Ly ops σ ⟨dst,.load t x,ty,pos,af,g⟩=some true:=by exact Mi)
  (hok:Nj Rt i false (nb + 8 * i) [kr] [] lg=true:=by exact rfl) (hz:zM fz (nb + 8 * i)=0:=by exact rfl) (hap:Sl cx.np (.load t x) []=true:=by exact rfl):Chain (E4 P cx fz) ops Rt nb (Ft i (⟨dst,.load t x,ty,pos,af,g⟩ :: l)) lg σ Q:=
 Lk (rd:=[kr]) G hds (aCe T.h (K9 E.h (Cf he) (o:=0) (m:=m) (by rw [bDb,aKz (by rw [E.h]; exact aKp _)]; exact hc) (by omega) rfl) (Fh E.h (Cf he) (o:=0) (m:=m) (by omega) rfl)) rfl hok k hz hap
theorem sR_ {ck:List (Option Nat)} (hk:Jk P 20 t=ck) (he:Bn L n=some a) {x':α} {d:DV} {b2:Option LB} {kr e':Nat} {cs':List C} {ag:Bool} {rd:List Nat} (k:Chain (E4 P cx fz) ops Rt nb (Ft (i + 1) l) ((i,false,nb + 8 * i,rd,[kr]) :: lg) (σ.app dst (Sn kr (.row e' m (Ac f (Jd L n.toNat x'))))) Q) [T:M3 P t ag m]
  (hds:Gk σ true [x,y]=some [(.ptr kr (n.toNat * m),some (.row e' m (Ac f L))),(d,b2)]:=by exact rfl) (E:O2 f m:=by exact inferInstance) (hx:f x'=cs':=by exact nl_) (hd:Mr ck (Ed d) cs':=by exact dc_) (hs:(Ed d).length=m:=by exact rfl)
  (hr:Ol false [(DV.ptr kr (n.toNat * m),some (LB.row e' m (Ac f L))),(d,b2)]=rd:=by first | exact (rfl:_=[_]) | exact (rfl:_=[_,_]) | exact (rfl:_=[_,_,_])) (G:Ly ops σ ⟨dst,.store t x y,ty,pos,af,g⟩=some true:=by exact Mi)
  (hok:Nj Rt i false (nb + 8 * i) rd [kr] lg=true:=by exact rfl) (hz:zM fz (nb + 8 * i)=0:=by exact rfl) (hap:Sl cx.np (.store t x y) [kr]=true:=by exact rfl):Chain (E4 P cx fz) ops Rt nb (Ft i (⟨dst,.store t x y,ty,pos,af,g⟩ :: l)) lg σ Q:=
 Lk G hds (Qu T.h hs (Fh E.h (Cf he) (o:=0) (m:=m) (by omega) rfl) hk hd (My E.h (Cf he) (o:=0) (x':=x') (by rw [<- hx,E.h]; omega) (by rw [<- hx]; exact tG (by rw [E.h,E.h])) rfl)) hr hok k hz hap
theorem Kv {e sz bytes len:Nat} {parts:Array (Nat×Operand)} {ds:List (DV×Option LB)} {z:List Value} {cs:List C} {ck:List (Option Nat)} (hS:Jf P t e sz bytes) (hz:Zt P e z) (hk:Jk P 20 e=ck) (lv:List α) (fv:α->List C) (k:Chain (E4 P cx fz) ops Rt nb (Ft (i + 1) l) ((i,false,nb + 8 * i,[],[]) :: lg) (σ.app dst (Wp (nb + 8 * i) (.row e sz (Ac fv lv)) (.row (nb + 8 * i)))) Q)
  (hds:Gk σ false (Op.buildSlice t len parts).operands.toList=some ds:=by exact rfl) (hc:Mr (List.replicate len ck).flatten (ds.flatMap fun q=>Ed q.1) cs:=by exact dc_) (h:Ac fv lv=cs:=by exact rfl) (hlen:Nat.ble (len * sz) 16777216=true:=by exact rfl) (hp:parts.toList.map (·.1)=List.range' 0 len:=by exact rfl) (hzl:z.length=sz:=by exact rfl) (hn:ds.length=len:=by exact rfl)
  (hs:ds.all (fun q=>Nat.beq (Ed q.1).length sz)=true:=by exact rfl) (ho:ds.all (fun q=>(Ed q.1).all kY)=true:=by exact rfl) (G:Ly ops σ ⟨dst,.buildSlice t len parts,ty,pos,af,g⟩=some true:=by exact Mi)
  (hok:Nj Rt i false (nb + 8 * i) [] [] lg=true:=by exact rfl) (hz':zM fz (nb + 8 * i)=0:=by exact rfl) (hap:Sl cx.np (.buildSlice t len parts) []=true:=by exact rfl):Chain (E4 P cx fz) ops Rt nb (Ft i (⟨dst,.buildSlice t len parts,ty,pos,af,g⟩ :: l)) lg σ Q:=
 Ex G hds (Fm hS hz (aC1 hlen) hp hzl hn hs hk hc ho h) rfl hok k hz' hap
theorem wP {e sz bytes len:Nat} {parts:Array (Nat×Operand)} {ds:List (DV×Option LB)} {z:List Value} {cs:List C} {ck:List (Option Nat)} (hS:Jf P t e sz bytes) (hz:Zt P e z) (hk:Jk P 20 e=ck) (lv:List α) (fv:α->List C) (k:Chain (E4 P cx fz) ops Rt nb (Ft (i + 1) l) ((i,false,nb + 8 * i,[],[]) :: lg) (σ.app dst (kM sz (Ac fv lv) [])) Q)
  (hds:Gk σ false (Op.buildSlice t len parts).operands.toList=some ds:=by exact rfl) (hc:Mr (List.replicate len ck).flatten (ds.flatMap fun q=>Ed q.1) cs:=by exact dc_) (h:Ac fv lv=cs:=by exact rfl) (hlen:Nat.ble (len * sz) 16777216=true:=by exact rfl) (hp:parts.toList.map (·.1)=List.range' 0 len:=by exact rfl) (hzl:z.length=sz:=by exact rfl) (hn:ds.length=len:=by exact rfl)
  (hs:ds.all (fun q=>Nat.beq (Ed q.1).length sz)=true:=by exact rfl) (ho:ds.all (fun q=>(Ed q.1).all kY)=true:=by exact rfl) (G:Ly ops σ ⟨dst,.buildSlice t len parts,ty,pos,af,g⟩=some true:=by exact Mi)
  (hok:Nj Rt i false (nb + 8 * i) [] [] lg=true:=by exact rfl) (hz':zM fz (nb + 8 * i)=1:=by exact rfl) (hap:Sl cx.np (.buildSlice t len parts) []=true:=by exact rfl):Chain (E4 P cx fz) ops Rt nb (Ft i (⟨dst,.buildSlice t len parts,ty,pos,af,g⟩ :: l)) lg σ Q:=
 yT (rd:=[]) G hds (Fm hS hz (aC1 hlen) hp hzl hn hs hk hc ho h) rfl rfl hok k hz' hap
theorem Ox {fields:_} {places:List (Nat×Nat)} {z:List Value} {r0 r:List DV} {parts:Array (Nat×Operand)} {ds:List (DV×Option LB)} (hu:P.underlying t=some (.struct fields)) (hp:fields.toList.map (fun f=>(P.info? f.type).map fun i=>(f.offset,i.size))=places.map some) (hz:Zt P t z) (k:Chain (E4 P cx fz) ops Rt nb (Ft (i + 1) l) ((i,false,nb + 8 * i,[],[]) :: lg) (σ.app dst (v0 (.agg r))) Q)
  (hds:Gk σ false (Op.build t parts).operands.toList=some ds:=by exact rfl) (hd:Pc (fun i=>places[i]?) (z.map .val) ((parts.toList.map (·.1)).zip (ds.map (·.1)))=some r0:=by exact rfl) (hr:r0=r:=by exact nl_) (ho:ds.all (fun q=>(Ed q.1).all kY)=true:=by exact rfl) (G:Ly ops σ ⟨dst,.build t parts,ty,pos,af,g⟩=some true:=by exact Mi)
  (hok:Nj Rt i false (nb + 8 * i) [] [] lg=true:=by exact rfl) (hz':zM fz (nb + 8 * i)=0:=by exact rfl) (hap:Sl cx.np (.build t parts) []=true:=by exact rfl):Chain (E4 P cx fz) ops Rt nb (Ft i (⟨dst,.build t parts,ty,pos,af,g⟩ :: l)) lg σ Q:=
 Ex G hds (.build hu hp hz (hr ▸ hd) ho) rfl hok k hz' hap
end
theorem Mn {P:Program} {cx:Cx} {id:Nat} {l:List Oper} {σ:St} {y:Code} {Q:Exit->St->Prop} (nb nb':Nat) (B:∀ k,nb<=k->σ.U k=false) {j:Nat} {lg':pF} {σ':St} {q:Prop} (k:(∀ j,nb'<=j->σ'.U j=false)->q)
  (h:Gm P cx [] l.toArray none nb (Ft 0 l) [] σ (Ft j []) lg' σ':=by exact gm_) (s:zQ (thn (Kb P cx y Q) Q .normal σ') q:=by exact inferInstance) (hn:Nat.ble (nb + 8 * l.length) nb'=true:=by rfl) (hd:oH cx.N l=true:=by rfl):Kb P cx (.seq (.region id l.toArray false) y) Q σ:=
 Q1 nb nb' B (h _ (Xu k)) hn hd
end Go.Proofs.YtboglmbblmakjaaGreatDoor
