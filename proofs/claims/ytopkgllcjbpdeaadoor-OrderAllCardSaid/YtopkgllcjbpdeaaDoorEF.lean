import Derived.Test.YtopkgllcjbpdeaaDoorEE
set_option linter.unusedVariables false
set_option linter.unusedSimpArgs false
namespace Go.Proofs.YtopkgllcjbpdeaaDoor
open Go.RowKit
abbrev vk (x : Int) : DV := .val (.int .i64 x)
abbrev ws (x : ByteArray) : DV := .val (.string x)
class Up (P : Program) (t : TypeId) (ag : outParam Bool) (sz : outParam Nat) : Prop where
 h : Ty P t ag sz
class iT (P : Program) (s : TypeId) (f : Nat) (off : outParam Nat) (ft : outParam TypeId) : Prop where
 h : Fd P s f off ft
class dS (P : Program) (t : TypeId) (e sz bytes : outParam Nat) : Prop where
 h : F4 P t e sz bytes
class bP (P : Program) (t : TypeId) (z : outParam (List Value)) : Prop where
 h : Zt P t z
class Zk {α : Type} (f : α -> List C) (sz : outParam Nat) : Prop where
 h : ∀ x, (f x).length = sz
instance : Zk eI 1 := ⟨G0⟩
instance {k : IntKind} : Zk (eK k) 1 := ⟨Bd k⟩
instance : Zk e8 1 := ⟨oX⟩
instance : Zk eS 1 := ⟨oV⟩
instance : Zk eB 1 := ⟨Kk⟩
instance {α : Type} {sz : Nat} {f : α -> List C} : Zk (eL sz f) 1 := ⟨Dj sz f⟩
section
variable {P : Program} {cx : Cx} {ops : Array Oper} {Rt : Option (List Nat)} {nb i : Nat} {l : List Oper} {lg lg' : Yv} {σ σ' : St} {Q : St -> Prop} {fz : List Nat} {m' : List (Nat × Oper)}
def Gm (P : Program) (cx : Cx) (fz : List Nat) (ops : Array Oper) (Rt : Option (List Nat)) (nb : Nat) (m : List (Nat × Oper)) (lg : Yv) (σ : St) (m' : List (Nat × Oper)) (lg' : Yv) (σ' : St) : Prop := ∀ Q, Cs (Ce P cx fz) ops Rt nb m' lg' σ' Q -> Cs (Ce P cx fz) ops Rt nb m lg σ Q
theorem Gm.z {m : List (Nat × Oper)} : Gm P cx fz ops Rt nb m lg σ m lg σ := fun _ h => h
theorem Gm.s {dst : Option Tmp} {op : Op} {ty : TypeId} {pos : String} {af : Array Edge} {g : Option (Nat × Bool)} {ds : List (DV × Option LB)} {rd wr : List Nat} {e : Iz} (hds : Df σ (G5 op) op.operands.toList = some ds) (h : Eb P (nb + 8 * i) op ty ds wr e)
  (k : Gm P cx fz ops Rt nb (idx (i + 1) l) ((i, false, nb + 8 * i, rd, wr) :: lg) (σ.app dst e) m' lg' σ') (G : G9 ops σ ⟨dst, op, ty, pos, af, g⟩ = some true) (hrd : (bif G5 op then H2 (Ir op) ds else []) = rd)
  (hok : (Ih Rt i false (nb + 8 * i) rd wr lg && (Nat.beq (zM fz (nb + 8 * i)) 0 && Lf cx.np op wr)) = true) :
  Gm P cx fz ops Rt nb (idx i (⟨dst, op, ty, pos, af, g⟩ :: l)) lg σ m' lg' σ' := fun Q hq => by
 simp only [Bool.and_eq_true] at hok
 exact Ch G hds h hrd hok.1 (k Q hq) (Nat.eq_of_beq_eq_true hok.2.1) hok.2.2
theorem Gm.k {dst : Option Tmp} {op : Op} {ty : TypeId} {pos : String} {af : Array Edge} {g : Nat × Bool} (G : G9 ops σ ⟨dst, op, ty, pos, af, some g⟩ = some false)
  (hok : Ih Rt i false (nb + 8 * i) [] [] lg = true) (k : Gm P cx fz ops Rt nb (idx (i + 1) l) ((i, false, nb + 8 * i, [], []) :: lg) (σ.app dst Zp) m' lg' σ') :
  Gm P cx fz ops Rt nb (idx i (⟨dst, op, ty, pos, af, some g⟩ :: l)) lg σ m' lg' σ' := fun Q hq => kR G hok (k Q hq)
theorem qJ {dst : Option Tmp} {op : Op} {ty : TypeId} {pos : String} {af : Array Edge} : G9 ops σ ⟨dst, op, ty, pos, af, none⟩ = some true := rfl
theorem nK {dst : Option Tmp} {op : Op} {ty : TypeId} {pos : String} {af : Array Edge} {g : Nat} {c : Bool} {t : Tmp} (ht : (ops[g]?).bind (·.dst) = some t) (hF : σ.F t = some (.val (.bool c))) (hc : c = false) : G9 ops σ ⟨dst, op, ty, pos, af, some (g, true)⟩ = some false := lX ht hF hc
theorem mY {dst : Option Tmp} {op : Op} {ty : TypeId} {pos : String} {af : Array Edge} {g : Nat} {c : Bool} {t : Tmp} (ht : (ops[g]?).bind (·.dst) = some t) (hF : σ.F t = some (.val (.bool c))) (hc : c = true) : G9 ops σ ⟨dst, op, ty, pos, af, some (g, false)⟩ = some false := lX ht hF hc
theorem qF {dst : Option Tmp} {op : Op} {ty : TypeId} {pos : String} {af : Array Edge} {g : Nat} {b : Bool} {t : Tmp} (ht : (ops[g]?).bind (·.dst) = some t) (hF : σ.F t = some (.val undef)) : G9 ops σ ⟨dst, op, ty, pos, af, some (g, b)⟩ = some false := by
 unfold G9
 simp only []
 rw [ht]
 simp only []
 rw [hF]
 rfl
theorem qG {α : Type} {l t t' : List α} {x : α} (h : l = x :: t) (k : t = t') : l = x :: t' := by rw [h, k]
variable {dst : Option Tmp} {ty : TypeId} {pos : String} {af : Array Edge} {g : Option (Nat × Bool)}
theorem Gm.move {x : Operand} {d : DV} {q : Option LB} (hds : Df σ false [x] = some [(d, q)])  (G : G9 ops σ ⟨dst, .move x, ty, pos, af, g⟩ = some true)
  (hok : (Ih Rt i false (nb + 8 * i) [] [] lg && (Nat.beq (zM fz (nb + 8 * i)) 0 && Lf cx.np (.move x) [])) = true) (k : Gm P cx fz ops Rt nb (idx (i + 1) l) ((i, false, nb + 8 * i, [], []) :: lg) (σ.app dst (v0 d)) m' lg' σ') : Gm P cx fz ops Rt nb (idx i (⟨dst, .move x, ty, pos, af, g⟩ :: l)) lg σ m' lg' σ' :=
 Gm.s hds (.move) k G rfl hok
theorem Gm.assign {x : Operand} {d : DV} {q : Option LB} (hds : Df σ false [x] = some [(d, q)])  (G : G9 ops σ ⟨dst, .assign x, ty, pos, af, g⟩ = some true)
  (hok : (Ih Rt i false (nb + 8 * i) [] [] lg && (Nat.beq (zM fz (nb + 8 * i)) 0 && Lf cx.np (.assign x) [])) = true) (k : Gm P cx fz ops Rt nb (idx (i + 1) l) ((i, false, nb + 8 * i, [], []) :: lg) (σ.app dst (v0 d)) m' lg' σ') : Gm P cx fz ops Rt nb (idx i (⟨dst, .assign x, ty, pos, af, g⟩ :: l)) lg σ m' lg' σ' :=
 Gm.s hds (.assign) k G rfl hok
theorem Gm.fieldP {x : Operand} {s f k j off ft sz : Nat} {ag : Bool} {q : Option LB} [F : iT P s f off ft] [T : Up P ft ag sz] (hds : Df σ false [x] = some [(.ptr k j, q)]) (hz0 : Nat.blt 0 sz = true) (G : G9 ops σ ⟨dst, .fieldAddr s x f, ty, pos, af, g⟩ = some true)
  (hok : (Ih Rt i false (nb + 8 * i) [] [] lg && (Nat.beq (zM fz (nb + 8 * i)) 0 && Lf cx.np (.fieldAddr s x f) [])) = true) (k : Gm P cx fz ops Rt nb (idx (i + 1) l) ((i, false, nb + 8 * i, [], []) :: lg) (σ.app dst (v0 (.ptr k (j + off)))) m' lg' σ') : Gm P cx fz ops Rt nb (idx i (⟨dst, .fieldAddr s x f, ty, pos, af, g⟩ :: l)) lg σ m' lg' σ' :=
 Gm.s hds (.fieldP F.h T.h (Nat.le_of_ble_eq_true hz0)) k G rfl hok
theorem Gm.load1 {x : Operand} {t k j bt sz : Nat} {ds : List DV} {d : DV} [T : Up P t false sz] (hds : Df σ true [x] = some [(.ptr k j, some (.box ds bt))]) (hd : ds[j]? = some d) (G : G9 ops σ ⟨dst, .load t x, ty, pos, af, g⟩ = some true)
  (hok : (Ih Rt i false (nb + 8 * i) [k] [] lg && (Nat.beq (zM fz (nb + 8 * i)) 0 && Lf cx.np (.load t x) [])) = true) (k : Gm P cx fz ops Rt nb (idx (i + 1) l) ((i, false, nb + 8 * i, [k], []) :: lg) (σ.app dst (v0 d)) m' lg' σ') : Gm P cx fz ops Rt nb (idx i (⟨dst, .load t x, ty, pos, af, g⟩ :: l)) lg σ m' lg' σ' :=
 Gm.s hds (.loadB1 T.h hd) k G rfl hok
theorem Gm.loadA {x : Operand} {t k j bt sz : Nat} {ds : List DV} [T : Up P t true sz] (hds : Df σ true [x] = some [(.ptr k j, some (.box ds bt))]) (hd : Nat.ble (j + sz) ds.length = true) (G : G9 ops σ ⟨dst, .load t x, ty, pos, af, g⟩ = some true)
  (hok : (Ih Rt i false (nb + 8 * i) [k] [] lg && (Nat.beq (zM fz (nb + 8 * i)) 0 && Lf cx.np (.load t x) [])) = true) (k : Gm P cx fz ops Rt nb (idx (i + 1) l) ((i, false, nb + 8 * i, [k], []) :: lg) (σ.app dst (v0 (.agg ((ds.drop j).take sz)))) m' lg' σ') : Gm P cx fz ops Rt nb (idx i (⟨dst, .load t x, ty, pos, af, g⟩ :: l)) lg σ m' lg' σ' :=
 Gm.s hds (.loadBA T.h (Nat.le_of_ble_eq_true hd)) k G rfl hok
theorem Gm.pickF {x y z : Operand} {c : Bool} {d1 d2 : DV} {q1 q2 q3 : Option LB} (hds : Df σ false [x, y, z] = some [(.val (.bool c), q1), (d1, q2), (d2, q3)]) (hc : c = false) (G : G9 ops σ ⟨dst, .pick x y z, ty, pos, af, g⟩ = some true)
  (hok : (Ih Rt i false (nb + 8 * i) [] [] lg && (Nat.beq (zM fz (nb + 8 * i)) 0 && Lf cx.np (.pick x y z) [])) = true) (k : Gm P cx fz ops Rt nb (idx (i + 1) l) ((i, false, nb + 8 * i, [], []) :: lg) (σ.app dst (v0 d2)) m' lg' σ') : Gm P cx fz ops Rt nb (idx i (⟨dst, .pick x y z, ty, pos, af, g⟩ :: l)) lg σ m' lg' σ' :=
 Gm.s hds (kG hc) k G rfl hok
theorem Gm.pickT {x y z : Operand} {c : Bool} {d1 d2 : DV} {q1 q2 q3 : Option LB} (hds : Df σ false [x, y, z] = some [(.val (.bool c), q1), (d1, q2), (d2, q3)]) (hc : c = true) (G : G9 ops σ ⟨dst, .pick x y z, ty, pos, af, g⟩ = some true)
  (hok : (Ih Rt i false (nb + 8 * i) [] [] lg && (Nat.beq (zM fz (nb + 8 * i)) 0 && Lf cx.np (.pick x y z) [])) = true) (k : Gm P cx fz ops Rt nb (idx (i + 1) l) ((i, false, nb + 8 * i, [], []) :: lg) (σ.app dst (v0 d1)) m' lg' σ') : Gm P cx fz ops Rt nb (idx i (⟨dst, .pick x y z, ty, pos, af, g⟩ :: l)) lg σ m' lg' σ' :=
 Gm.s hds (kE hc) k G rfl hok
theorem Gm.storeB {x y : Operand} {t k j bt sz : Nat} {ag : Bool} {ds ds' : List DV} {d : DV} {q : Option LB} {rd : List Nat} [T : Up P t ag sz] (hds : Df σ true [x, y] = some [(.ptr k j, some (.box ds bt)), (d, q)]) (hs : (B6 d).length = sz) (hi : Nat.ble (j + sz) ds.length = true) (ho : (B6 d).all Pu = true) (hn : Cc ds j (B6 d) = ds') (hr : H2 false [(DV.ptr k j, some (LB.box ds bt)), (d, q)] = rd) (G : G9 ops σ ⟨dst, .store t x y, ty, pos, af, g⟩ = some true)
  (hok : (Ih Rt i false (nb + 8 * i) rd [k] lg && (Nat.beq (zM fz (nb + 8 * i)) 0 && Lf cx.np (.store t x y) [k])) = true) (k : Gm P cx fz ops Rt nb (idx (i + 1) l) ((i, false, nb + 8 * i, rd, [k]) :: lg) (σ.app dst (Jw k (.box ds' bt))) m' lg' σ') : Gm P cx fz ops Rt nb (idx i (⟨dst, .store t x y, ty, pos, af, g⟩ :: l)) lg σ m' lg' σ' :=
 Gm.s hds (gJ T.h hs (Nat.le_of_ble_eq_true hi) ho hn) k G hr hok
theorem Gm.extract {x : Operand} {n : Nat} {ds : List DV} {d : DV} {q : Option LB} (hds : Df σ false [x] = some [(.tup ds, q)]) (hd : ds[n]? = some d) (G : G9 ops σ ⟨dst, .extract x n, ty, pos, af, g⟩ = some true)
  (hok : (Ih Rt i false (nb + 8 * i) [] [] lg && (Nat.beq (zM fz (nb + 8 * i)) 0 && Lf cx.np (.extract x n) [])) = true) (k : Gm P cx fz ops Rt nb (idx (i + 1) l) ((i, false, nb + 8 * i, [], []) :: lg) (σ.app dst (v0 d)) m' lg' σ') : Gm P cx fz ops Rt nb (idx i (⟨dst, .extract x n, ty, pos, af, g⟩ :: l)) lg σ m' lg' σ' :=
 Gm.s hds (.extract hd) k G rfl hok
theorem Gm.lss {x y : Operand} {t yt : TypeId} {kk : IntKind} {a b : Int} {q1 q2 : Option LB} (hds : Df σ false [x, y] = some [(.val (.int kk a), q1), (.val (.int kk b), q2)])  (G : G9 ops σ ⟨dst, .binOp .lss t x y yt, ty, pos, af, g⟩ = some true)
  (hok : (Ih Rt i false (nb + 8 * i) [] [] lg && (Nat.beq (zM fz (nb + 8 * i)) 0 && Lf cx.np (.binOp .lss t x y yt) [])) = true) (k : Gm P cx fz ops Rt nb (idx (i + 1) l) ((i, false, nb + 8 * i, [], []) :: lg) (σ.app dst (v0 (.val (.bool (decide (a < b)))))) m' lg' σ') : Gm P cx fz ops Rt nb (idx i (⟨dst, .binOp .lss t x y yt, ty, pos, af, g⟩ :: l)) lg σ m' lg' σ' :=
 Gm.s hds (qR) k G rfl hok
theorem Gm.eql {x y : Operand} {t yt : TypeId} {kk : IntKind} {a b : Int} {q1 q2 : Option LB} (hds : Df σ false [x, y] = some [(.val (.int kk a), q1), (.val (.int kk b), q2)])  (G : G9 ops σ ⟨dst, .binOp .eql t x y yt, ty, pos, af, g⟩ = some true)
  (hok : (Ih Rt i false (nb + 8 * i) [] [] lg && (Nat.beq (zM fz (nb + 8 * i)) 0 && Lf cx.np (.binOp .eql t x y yt) [])) = true) (k : Gm P cx fz ops Rt nb (idx (i + 1) l) ((i, false, nb + 8 * i, [], []) :: lg) (σ.app dst (v0 (.val (.bool (decide (a = b)))))) m' lg' σ') : Gm P cx fz ops Rt nb (idx i (⟨dst, .binOp .eql t x y yt, ty, pos, af, g⟩ :: l)) lg σ m' lg' σ' :=
 Gm.s hds (pY) k G rfl hok
theorem Gm.gtr {x y : Operand} {t yt : TypeId} {kk : IntKind} {a b : Int} {q1 q2 : Option LB} (hds : Df σ false [x, y] = some [(.val (.int kk a), q1), (.val (.int kk b), q2)])  (G : G9 ops σ ⟨dst, .binOp .gtr t x y yt, ty, pos, af, g⟩ = some true)
  (hok : (Ih Rt i false (nb + 8 * i) [] [] lg && (Nat.beq (zM fz (nb + 8 * i)) 0 && Lf cx.np (.binOp .gtr t x y yt) [])) = true) (k : Gm P cx fz ops Rt nb (idx (i + 1) l) ((i, false, nb + 8 * i, [], []) :: lg) (σ.app dst (v0 (.val (.bool (decide (b < a)))))) m' lg' σ') : Gm P cx fz ops Rt nb (idx i (⟨dst, .binOp .gtr t x y yt, ty, pos, af, g⟩ :: l)) lg σ m' lg' σ' :=
 Gm.s hds (pJ) k G rfl hok
theorem Gm.leq {x y : Operand} {t yt : TypeId} {kk : IntKind} {a b : Int} {q1 q2 : Option LB} (hds : Df σ false [x, y] = some [(.val (.int kk a), q1), (.val (.int kk b), q2)])  (G : G9 ops σ ⟨dst, .binOp .leq t x y yt, ty, pos, af, g⟩ = some true)
  (hok : (Ih Rt i false (nb + 8 * i) [] [] lg && (Nat.beq (zM fz (nb + 8 * i)) 0 && Lf cx.np (.binOp .leq t x y yt) [])) = true) (k : Gm P cx fz ops Rt nb (idx (i + 1) l) ((i, false, nb + 8 * i, [], []) :: lg) (σ.app dst (v0 (.val (.bool (decide (a <= b)))))) m' lg' σ') : Gm P cx fz ops Rt nb (idx i (⟨dst, .binOp .leq t x y yt, ty, pos, af, g⟩ :: l)) lg σ m' lg' σ' :=
 Gm.s hds (qL) k G rfl hok
theorem Gm.geq {x y : Operand} {t yt : TypeId} {kk : IntKind} {a b : Int} {q1 q2 : Option LB} (hds : Df σ false [x, y] = some [(.val (.int kk a), q1), (.val (.int kk b), q2)])  (G : G9 ops σ ⟨dst, .binOp .geq t x y yt, ty, pos, af, g⟩ = some true)
  (hok : (Ih Rt i false (nb + 8 * i) [] [] lg && (Nat.beq (zM fz (nb + 8 * i)) 0 && Lf cx.np (.binOp .geq t x y yt) [])) = true) (k : Gm P cx fz ops Rt nb (idx (i + 1) l) ((i, false, nb + 8 * i, [], []) :: lg) (σ.app dst (v0 (.val (.bool (decide (b <= a)))))) m' lg' σ') : Gm P cx fz ops Rt nb (idx i (⟨dst, .binOp .geq t x y yt, ty, pos, af, g⟩ :: l)) lg σ m' lg' σ' :=
 Gm.s hds (pO) k G rfl hok
theorem Gm.neq {x y : Operand} {t yt : TypeId} {kk : IntKind} {a b : Int} {q1 q2 : Option LB} (hds : Df σ false [x, y] = some [(.val (.int kk a), q1), (.val (.int kk b), q2)])  (G : G9 ops σ ⟨dst, .binOp .neq t x y yt, ty, pos, af, g⟩ = some true)
  (hok : (Ih Rt i false (nb + 8 * i) [] [] lg && (Nat.beq (zM fz (nb + 8 * i)) 0 && Lf cx.np (.binOp .neq t x y yt) [])) = true) (k : Gm P cx fz ops Rt nb (idx (i + 1) l) ((i, false, nb + 8 * i, [], []) :: lg) (σ.app dst (v0 (.val (.bool (!decide (a = b)))))) m' lg' σ') : Gm P cx fz ops Rt nb (idx i (⟨dst, .binOp .neq t x y yt, ty, pos, af, g⟩ :: l)) lg σ m' lg' σ' :=
 Gm.s hds (qE) k G rfl hok
theorem Gm.seql {x y : Operand} {t yt : TypeId} {a b : ByteArray} {q1 q2 : Option LB} (hds : Df σ false [x, y] = some [(.val (.string a), q1), (.val (.string b), q2)])  (G : G9 ops σ ⟨dst, .binOp .eql t x y yt, ty, pos, af, g⟩ = some true)
  (hok : (Ih Rt i false (nb + 8 * i) [] [] lg && (Nat.beq (zM fz (nb + 8 * i)) 0 && Lf cx.np (.binOp .eql t x y yt) [])) = true) (k : Gm P cx fz ops Rt nb (idx (i + 1) l) ((i, false, nb + 8 * i, [], []) :: lg) (σ.app dst (v0 (.val (.bool (decide (a = b)))))) m' lg' σ') : Gm P cx fz ops Rt nb (idx i (⟨dst, .binOp .eql t x y yt, ty, pos, af, g⟩ :: l)) lg σ m' lg' σ' :=
 Gm.s hds (oF) k G rfl hok
theorem Gm.sneq {x y : Operand} {t yt : TypeId} {a b : ByteArray} {q1 q2 : Option LB} (hds : Df σ false [x, y] = some [(.val (.string a), q1), (.val (.string b), q2)])  (G : G9 ops σ ⟨dst, .binOp .neq t x y yt, ty, pos, af, g⟩ = some true)
  (hok : (Ih Rt i false (nb + 8 * i) [] [] lg && (Nat.beq (zM fz (nb + 8 * i)) 0 && Lf cx.np (.binOp .neq t x y yt) [])) = true) (k : Gm P cx fz ops Rt nb (idx (i + 1) l) ((i, false, nb + 8 * i, [], []) :: lg) (σ.app dst (v0 (.val (.bool (!decide (a = b)))))) m' lg' σ') : Gm P cx fz ops Rt nb (idx i (⟨dst, .binOp .neq t x y yt, ty, pos, af, g⟩ :: l)) lg σ m' lg' σ' :=
 Gm.s hds (mW) k G rfl hok
theorem Gm.add {x y : Operand} {t yt : TypeId} {a b : Int} {q1 q2 : Option LB} (hds : Df σ false [x, y] = some [(.val (.int .i64 a), q1), (.val (.int .i64 b), q2)])  (G : G9 ops σ ⟨dst, .binOp .add t x y yt, ty, pos, af, g⟩ = some true)
  (hok : (Ih Rt i false (nb + 8 * i) [] [] lg && (Nat.beq (zM fz (nb + 8 * i)) 0 && Lf cx.np (.binOp .add t x y yt) [])) = true) (k : Gm P cx fz ops Rt nb (idx (i + 1) l) ((i, false, nb + 8 * i, [], []) :: lg) (σ.app dst (v0 (.val (.int .i64 (W (a + b)))))) m' lg' σ') : Gm P cx fz ops Rt nb (idx i (⟨dst, .binOp .add t x y yt, ty, pos, af, g⟩ :: l)) lg σ m' lg' σ' :=
 Gm.s hds (pT) k G rfl hok
theorem Gm.sub {x y : Operand} {t yt : TypeId} {a b : Int} {q1 q2 : Option LB} (hds : Df σ false [x, y] = some [(.val (.int .i64 a), q1), (.val (.int .i64 b), q2)])  (G : G9 ops σ ⟨dst, .binOp .sub t x y yt, ty, pos, af, g⟩ = some true)
  (hok : (Ih Rt i false (nb + 8 * i) [] [] lg && (Nat.beq (zM fz (nb + 8 * i)) 0 && Lf cx.np (.binOp .sub t x y yt) [])) = true) (k : Gm P cx fz ops Rt nb (idx (i + 1) l) ((i, false, nb + 8 * i, [], []) :: lg) (σ.app dst (v0 (.val (.int .i64 (W (a - b)))))) m' lg' σ') : Gm P cx fz ops Rt nb (idx i (⟨dst, .binOp .sub t x y yt, ty, pos, af, g⟩ :: l)) lg σ m' lg' σ' :=
 Gm.s hds (qZ) k G rfl hok
theorem Gm.mul {x y : Operand} {t yt : TypeId} {a b : Int} {q1 q2 : Option LB} (hds : Df σ false [x, y] = some [(.val (.int .i64 a), q1), (.val (.int .i64 b), q2)])  (G : G9 ops σ ⟨dst, .binOp .mul t x y yt, ty, pos, af, g⟩ = some true)
  (hok : (Ih Rt i false (nb + 8 * i) [] [] lg && (Nat.beq (zM fz (nb + 8 * i)) 0 && Lf cx.np (.binOp .mul t x y yt) [])) = true) (k : Gm P cx fz ops Rt nb (idx (i + 1) l) ((i, false, nb + 8 * i, [], []) :: lg) (σ.app dst (v0 (.val (.int .i64 (W (a * b)))))) m' lg' σ') : Gm P cx fz ops Rt nb (idx i (⟨dst, .binOp .mul t x y yt, ty, pos, af, g⟩ :: l)) lg σ m' lg' σ' :=
 Gm.s hds (qB) k G rfl hok
theorem Gm.alloc {t : TypeId} {z : List Value} [Z : bP P t z] (hds : Df σ false [] = some [])  (G : G9 ops σ ⟨dst, .alloc t, ty, pos, af, g⟩ = some true)
  (hok : (Ih Rt i false (nb + 8 * i) [] [] lg && (Nat.beq (zM fz (nb + 8 * i)) 0 && Lf cx.np (.alloc t) [])) = true) (k : Gm P cx fz ops Rt nb (idx (i + 1) l) ((i, false, nb + 8 * i, [], []) :: lg) (σ.app dst (J4 (nb + 8 * i) (.box (z.map .val) t) (.ptr (nb + 8 * i) 0))) m' lg' σ') : Gm P cx fz ops Rt nb (idx i (⟨dst, .alloc t, ty, pos, af, g⟩ :: l)) lg σ m' lg' σ' :=
 Gm.s hds (.alloc Z.h) k G rfl hok
theorem Gm.box {x : Operand} {t : TypeId} {d : DV} {q : Option LB} (hds : Df σ false [x] = some [(d, q)]) (ho : (B6 d).all Pu = true) (G : G9 ops σ ⟨dst, .box t x, ty, pos, af, g⟩ = some true)
  (hok : (Ih Rt i false (nb + 8 * i) [] [] lg && (Nat.beq (zM fz (nb + 8 * i)) 0 && Lf cx.np (.box t x) [])) = true) (k : Gm P cx fz ops Rt nb (idx (i + 1) l) ((i, false, nb + 8 * i, [], []) :: lg) (σ.app dst (J4 (nb + 8 * i) (.box (B6 d) t) (.ptr (nb + 8 * i) 0))) m' lg' σ') : Gm P cx fz ops Rt nb (idx i (⟨dst, .box t x, ty, pos, af, g⟩ :: l)) lg σ m' lg' σ' :=
 Gm.s hds (.box ho) k G rfl hok
theorem Gm.not {x : Operand} {t : TypeId} {b : Bool} {q : Option LB} (hds : Df σ false [x] = some [(.val (.bool b), q)])  (G : G9 ops σ ⟨dst, .unOp .not t x, ty, pos, af, g⟩ = some true)
  (hok : (Ih Rt i false (nb + 8 * i) [] [] lg && (Nat.beq (zM fz (nb + 8 * i)) 0 && Lf cx.np (.unOp .not t x) [])) = true) (k : Gm P cx fz ops Rt nb (idx (i + 1) l) ((i, false, nb + 8 * i, [], []) :: lg) (σ.app dst (v0 (.val (.bool (!b))))) m' lg' σ') : Gm P cx fz ops Rt nb (idx i (⟨dst, .unOp .not t x, ty, pos, af, g⟩ :: l)) lg σ m' lg' σ' :=
 Gm.s hds (pV) k G rfl hok
theorem Gm.lenS {α : Type} {f : α -> List C} {L : List α} {x : Operand} {t e sz by_ : Nat} {q : Option LB} [S : dS P t e sz by_] (hds : Df σ true [x] = some [(.sl sz (An f L), q)]) (E : Zk f sz) (G : G9 ops σ ⟨dst, .call ⟨.builtin .len, #[x], #[t]⟩, ty, pos, af, g⟩ = some true)
  (hok : (Ih Rt i false (nb + 8 * i) [] [] lg && (Nat.beq (zM fz (nb + 8 * i)) 0 && Lf cx.np (.call ⟨.builtin .len, #[x], #[t]⟩) [])) = true) (k : Gm P cx fz ops Rt nb (idx (i + 1) l) ((i, false, nb + 8 * i, [], []) :: lg) (σ.app dst (v0 (.val (.int .i64 (L.length : Int))))) m' lg' σ') : Gm P cx fz ops Rt nb (idx i (⟨dst, .call ⟨.builtin .len, #[x], #[t]⟩, ty, pos, af, g⟩ :: l)) lg σ m' lg' σ' :=
 Gm.s hds (oH S.h E.h) k G rfl hok
theorem Gm.lenR {α : Type} {f : α -> List C} {L : List α} {x : Operand} {t e e' sz by_ k : Nat} [S : dS P t e sz by_] (hds : Df σ true [x] = some [(.row k, some (.row e' sz (An f L)))]) (E : Zk f sz) (G : G9 ops σ ⟨dst, .call ⟨.builtin .len, #[x], #[t]⟩, ty, pos, af, g⟩ = some true)
  (hok : (Ih Rt i false (nb + 8 * i) [k] [] lg && (Nat.beq (zM fz (nb + 8 * i)) 0 && Lf cx.np (.call ⟨.builtin .len, #[x], #[t]⟩) [])) = true) (k : Gm P cx fz ops Rt nb (idx (i + 1) l) ((i, false, nb + 8 * i, [k], []) :: lg) (σ.app dst (v0 (.val (.int .i64 (L.length : Int))))) m' lg' σ') : Gm P cx fz ops Rt nb (idx i (⟨dst, .call ⟨.builtin .len, #[x], #[t]⟩, ty, pos, af, g⟩ :: l)) lg σ m' lg' σ' :=
 Gm.s hds (oD S.h E.h) k G rfl hok
theorem Gm.idxS {α : Type} {f : α -> List C} {L : List α} {a : α} {x y : Operand} {t e sz by_ : Nat} {kk : IntKind} {n : Int} {q1 q2 : Option LB} [S : dS P t e sz by_] (hds : Df σ true [x, y] = some [(.sl sz (An f L), q1), (.val (.int kk n), q2)]) (E : Zk f sz) (hx : Bz L n = some a) (G : G9 ops σ ⟨dst, .indexAddr t x y, ty, pos, af, g⟩ = some true)
  (hok : (Ih Rt i false (nb + 8 * i) [] [] lg && (Nat.beq (zM fz (nb + 8 * i)) 0 && Lf cx.np (.indexAddr t x y) [])) = true) (k : Gm P cx fz ops Rt nb (idx (i + 1) l) ((i, false, nb + 8 * i, [], []) :: lg) (σ.app dst (v0 (.elt ((An f L).drop (n.toNat * sz))))) m' lg' σ') : Gm P cx fz ops Rt nb (idx i (⟨dst, .indexAddr t x y, ty, pos, af, g⟩ :: l)) lg σ m' lg' σ' :=
 Gm.s hds (mB S.h E.h (Iv hx) (Ar hx)) k G rfl hok
theorem Gm.idxR {α : Type} {f : α -> List C} {L : List α} {a : α} {x y : Operand} {t e e' sz by_ k : Nat} {kk : IntKind} {n : Int} {q2 : Option LB} [S : dS P t e sz by_] (hds : Df σ true [x, y] = some [(.row k, some (.row e' sz (An f L))), (.val (.int kk n), q2)]) (E : Zk f sz) (hx : Bz L n = some a) (G : G9 ops σ ⟨dst, .indexAddr t x y, ty, pos, af, g⟩ = some true)
  (hok : (Ih Rt i false (nb + 8 * i) [k] [] lg && (Nat.beq (zM fz (nb + 8 * i)) 0 && Lf cx.np (.indexAddr t x y) [])) = true) (k : Gm P cx fz ops Rt nb (idx (i + 1) l) ((i, false, nb + 8 * i, [k], []) :: lg) (σ.app dst (v0 (.ptr k (n.toNat * sz)))) m' lg' σ') : Gm P cx fz ops Rt nb (idx i (⟨dst, .indexAddr t x y, ty, pos, af, g⟩ :: l)) lg σ m' lg' σ' :=
 Gm.s hds (nB S.h E.h (Iv hx) (Ar hx)) k G rfl hok
theorem Gm.nilP {x : Operand} {k j : Nat} {q : Option LB} (hds : Df σ false [x] = some [(.ptr k j, q)])  (G : G9 ops σ ⟨dst, .nilCheck x, ty, pos, af, g⟩ = some true)
  (hok : (Ih Rt i false (nb + 8 * i) [] [] lg && (Nat.beq (zM fz (nb + 8 * i)) 0 && Lf cx.np (.nilCheck x) [])) = true) (k : Gm P cx fz ops Rt nb (idx (i + 1) l) ((i, false, nb + 8 * i, [], []) :: lg) (σ.app dst (v0 (.ptr k j))) m' lg' σ') : Gm P cx fz ops Rt nb (idx i (⟨dst, .nilCheck x, ty, pos, af, g⟩ :: l)) lg σ m' lg' σ' :=
 Gm.s hds (.nilP) k G rfl hok
theorem Gm.nilE {x : Operand} {cs : List C} {q : Option LB} (hds : Df σ false [x] = some [(.elt cs, q)])  (G : G9 ops σ ⟨dst, .nilCheck x, ty, pos, af, g⟩ = some true)
  (hok : (Ih Rt i false (nb + 8 * i) [] [] lg && (Nat.beq (zM fz (nb + 8 * i)) 0 && Lf cx.np (.nilCheck x) [])) = true) (k : Gm P cx fz ops Rt nb (idx (i + 1) l) ((i, false, nb + 8 * i, [], []) :: lg) (σ.app dst (v0 (.elt cs))) m' lg' σ') : Gm P cx fz ops Rt nb (idx i (⟨dst, .nilCheck x, ty, pos, af, g⟩ :: l)) lg σ m' lg' σ' :=
 Gm.s hds (.nilE) k G rfl hok
theorem Gm.field1 {x : Operand} {s f off ft sz : Nat} {ds : List DV} {d : DV} {q : Option LB} [F : iT P s f off ft] [T : Up P ft false sz] (hds : Df σ false [x] = some [(.agg ds, q)]) (hd : ds[off]? = some d) (G : G9 ops σ ⟨dst, .field s x f, ty, pos, af, g⟩ = some true)
  (hok : (Ih Rt i false (nb + 8 * i) [] [] lg && (Nat.beq (zM fz (nb + 8 * i)) 0 && Lf cx.np (.field s x f) [])) = true) (k : Gm P cx fz ops Rt nb (idx (i + 1) l) ((i, false, nb + 8 * i, [], []) :: lg) (σ.app dst (v0 d)) m' lg' σ') : Gm P cx fz ops Rt nb (idx i (⟨dst, .field s x f, ty, pos, af, g⟩ :: l)) lg σ m' lg' σ' :=
 Gm.s hds (.field1 F.h T.h hd) k G rfl hok
theorem Gm.fieldA {x : Operand} {s f off ft sz : Nat} {ds : List DV} {q : Option LB} [F : iT P s f off ft] [T : Up P ft true sz] (hds : Df σ false [x] = some [(.agg ds, q)])  (G : G9 ops σ ⟨dst, .field s x f, ty, pos, af, g⟩ = some true)
  (hok : (Ih Rt i false (nb + 8 * i) [] [] lg && (Nat.beq (zM fz (nb + 8 * i)) 0 && Lf cx.np (.field s x f) [])) = true) (k : Gm P cx fz ops Rt nb (idx (i + 1) l) ((i, false, nb + 8 * i, [], []) :: lg) (σ.app dst (v0 (.agg ((ds.drop off).take sz)))) m' lg' σ') : Gm P cx fz ops Rt nb (idx i (⟨dst, .field s x f, ty, pos, af, g⟩ :: l)) lg σ m' lg' σ' :=
 Gm.s hds (.fieldA F.h T.h) k G rfl hok
theorem Gm.makeF {f : Nat} {first caps : Array Operand} {ds : List (DV × Option LB)} (hds : Df σ false (Op.makeFunc (.func f) first caps).operands.toList = some ds)  (G : G9 ops σ ⟨dst, .makeFunc (.func f) first caps, ty, pos, af, g⟩ = some true)
  (hok : (Ih Rt i false (nb + 8 * i) [] [] lg && (Nat.beq (zM fz (nb + 8 * i)) 0 && Lf cx.np (.makeFunc (.func f) first caps) [])) = true) (k : Gm P cx fz ops Rt nb (idx (i + 1) l) ((i, false, nb + 8 * i, [], []) :: lg) (σ.app dst (v0 (.clo f first.size (ds.map (·.1))))) m' lg' σ') : Gm P cx fz ops Rt nb (idx i (⟨dst, .makeFunc (.func f) first caps, ty, pos, af, g⟩ :: l)) lg σ m' lg' σ' :=
 Gm.s hds (.makeFunc) k G rfl hok
theorem Mu {p : Prop} (h : p := by first | with_reducible exact qJ | exact Ea rfl rfl (by first | with_reducible assumption | with_reducible rfl | with_reducible exact bR (by with_reducible assumption) | with_reducible exact Z9 (by with_reducible assumption))) : p := h
theorem sR {p : Prop} (h : p := by
  repeat first
   | (apply Gm.move; exact rfl; exact Mu; exact rfl)
   | (apply Gm.assign; exact rfl; exact Mu; exact rfl)
   | (apply Gm.fieldP; exact rfl; (exact rfl); exact Mu; exact rfl)
   | (apply Gm.load1; exact rfl; (exact rfl); exact Mu; exact rfl)
   | (apply Gm.loadA; exact rfl; (exact rfl); exact Mu; exact rfl)
   | (apply Gm.pickF; exact rfl; (first | with_reducible assumption | with_reducible rfl | with_reducible exact bR (by with_reducible assumption)); exact Mu; exact rfl)
   | (apply Gm.pickT; exact rfl; (first | with_reducible assumption | with_reducible rfl | with_reducible exact Z9 (by with_reducible assumption)); exact Mu; exact rfl)
   | (apply Gm.k; (first | exact nK rfl rfl (by first | with_reducible assumption | with_reducible rfl | with_reducible exact bR (by with_reducible assumption) | with_reducible exact Z9 (by with_reducible assumption)) | exact mY rfl rfl (by first | with_reducible assumption | with_reducible rfl | with_reducible exact bR (by with_reducible assumption) | with_reducible exact Z9 (by with_reducible assumption)) | exact qF rfl rfl); exact rfl)
   | (apply Gm.storeB; exact rfl; (exact rfl); (exact rfl); (exact rfl); (focus repeat first | exact (rfl : _ = []) | (apply qG; exact rfl)); (first | exact (rfl : _ = [_]) | exact (rfl : _ = [_, _]) | exact (rfl : _ = [_, _, _])); exact Mu; exact rfl)
   | (apply Gm.extract; exact rfl; (exact rfl); exact Mu; exact rfl)
   | (apply Gm.lss; exact rfl; exact Mu; exact rfl)
   | (apply Gm.eql; exact rfl; exact Mu; exact rfl)
   | (apply Gm.gtr; exact rfl; exact Mu; exact rfl)
   | (apply Gm.leq; exact rfl; exact Mu; exact rfl)
   | (apply Gm.geq; exact rfl; exact Mu; exact rfl)
   | (apply Gm.neq; exact rfl; exact Mu; exact rfl)
   | (apply Gm.seql; exact rfl; exact Mu; exact rfl)
   | (apply Gm.sneq; exact rfl; exact Mu; exact rfl)
   | (apply Gm.add; exact rfl; exact Mu; exact rfl)
   | (apply Gm.sub; exact rfl; exact Mu; exact rfl)
   | (apply Gm.mul; exact rfl; exact Mu; exact rfl)
   | (apply Gm.alloc; exact rfl; exact Mu; exact rfl)
   | (apply Gm.box; exact rfl; (exact rfl); exact Mu; exact rfl)
   | (apply Gm.not; exact rfl; exact Mu; exact rfl)
   | (apply Gm.lenS; exact rfl; (exact inferInstance); exact Mu; exact rfl)
   | (apply Gm.lenR; exact rfl; (exact inferInstance); exact Mu; exact rfl)
   | (apply Gm.idxS; exact rfl; (exact inferInstance); (with_reducible assumption); exact Mu; exact rfl)
   | (apply Gm.idxR; exact rfl; (exact inferInstance); (with_reducible assumption); exact Mu; exact rfl)
   | (apply Gm.nilP; exact rfl; exact Mu; exact rfl)
   | (apply Gm.nilE; exact rfl; exact Mu; exact rfl)
   | (apply Gm.field1; exact rfl; (exact rfl); exact Mu; exact rfl)
   | (apply Gm.fieldA; exact rfl; exact Mu; exact rfl)
   | (apply Gm.makeF; exact rfl; exact Mu; exact rfl)
  exact Gm.z) : p := h
theorem A5 {m : List (Nat × Oper)} (k : Cs (Ce P cx fz) ops Rt nb m' lg' σ' Q) (h : Gm P cx fz ops Rt nb m lg σ m' lg' σ' := by exact sR) : Cs (Ce P cx fz) ops Rt nb m lg σ Q := h Q k
end
theorem Gh {R : Type} {b : Bool} {X Y : Option R} {r : R} (G : cond b X Y = some r) : (b = true /\ X = some r) \/ (b = false /\ Y = some r) := by
 cases b with
 | true => exact .inl ⟨rfl, G⟩
 | false => exact .inr ⟨rfl, G⟩
section
variable {P : Program} {cx : Cx} {σ : St} {Q : Exit -> St -> Prop} {x y : Code}
theorem Cn {R : Type} {t : Nat} {b : Bool} {X Y : Option R} {r : R} (hc : σ.F t = some (.val (.bool b))) (G : cond b X Y = some r) (h1 : b = true -> X = some r -> Ca P cx x Q σ) (h2 : b = false -> Y = some r -> Ca P cx y Q σ) : Ca P cx (.cond (.tmp t) x y) Q σ :=
 eY hc (fun h => h1 h (oR h G)) fun h => h2 h (nD h G)
theorem Ax {fl : List (Nat × DV)} {ll : List (Nat × LB)} {n : Nat} (θ : List (Nat × Nat))
  (hF : kU σ (Dy θ) fl := by
   repeat' first
    | exact trivial
    | refine ⟨⟨_, rfl, ?_⟩, ?_⟩
    | exact Cv.val _
    | exact Cv.sl _ _
    | exact Cv.ptr rfl
    | exact Cv.row rfl
    | exact Cv.part rfl
    | exact Cv.nil rfl
    | exact Cv.nils _
    | exact Cv.elt _
    | exact Cv.mp _
    | refine Cv.clo _ _ ?_
    | refine Cv.agg ?_
    | refine Cv.tup ?_
    | refine Cv.clo _ _ ?_
    | exact Mg.nil
    | refine Mg.cons ?_ ?_
    | exact Cv.frzM rfl (Hh rfl)
    | exact Cv.frz rfl (Hh rfl)
    | exact Cv.frzT rfl (Hh rfl))
  (hL : Xm σ (Dy θ) ll := by
   repeat' first
    | exact trivial
    | refine ⟨.inl ⟨_, _, rfl, rfl, ⟨rfl, rfl, rfl⟩⟩, ?_⟩
    | refine ⟨.inl ⟨_, _, rfl, rfl, ⟨⟨rfl, rfl, rfl⟩, ?_⟩⟩, ?_⟩
    | refine ⟨.inl ⟨_, _, rfl, rfl, ⟨rfl, rfl, rfl, rfl, rfl, rfl, rfl, rfl⟩⟩, ?_⟩
    | refine ⟨.inl ⟨_, _, rfl, rfl, trivial⟩, ?_⟩
    | refine ⟨.inl ⟨_, _, rfl, rfl, rfl⟩, ?_⟩
    | refine ⟨.inl ⟨_, _, rfl, rfl, ⟨rfl, ?_⟩⟩, ?_⟩
    | refine ⟨.inr ⟨rfl, _, _, rfl⟩, ?_⟩
    | exact Cv.val _
    | exact Cv.sl _ _
    | exact Cv.ptr rfl
    | exact Cv.row rfl
    | exact Cv.part rfl
    | exact Cv.nil rfl
    | exact Cv.nils _
    | exact Cv.elt _
    | exact Cv.mp _
    | refine Cv.clo _ _ ?_
    | refine Cv.agg ?_
    | exact Mg.nil
    | refine Mg.cons ?_ ?_
    | exact Cv.frzM rfl (Hh rfl)
    | exact Cv.frz rfl (Hh rfl)
    | exact Cv.frzT rfl (Hh rfl))
  (hc : Xh fl ll n θ = true := by rfl) (hp : U5 θ n cx.np = true := by rfl) : Qu cx σ (mk fl ll n) := Qu.lists θ hc hp hF hL
theorem Fq {S R : Type} {body : S -> Option (Lp S R)} {s0 : S} {r : R} (st : S -> St) (G : B2 body s0 = some r) (h0 : Qu cx σ (st s0)) (round : ∀ (s : S) (m : Nat) (o : Lp S R), body s = some o -> Ob (Kr body m) o = some r -> Ca P cx x (jT (fun σ' => ∃ j : S × Nat, j.2 < m + 1 /\ Kr body j.2 j.1 = some r /\ Qu cx σ' (st j.1)) Q) (st s)) : Ca P cx (.loop x) Q σ := by
 obtain ⟨n, G⟩ := Oj G
 refine gN (ι := S × Nat) (fun q => st q.1) (fun q => Kr body q.2 q.1 = some r) (fun q => q.2) (s0, n) h0 G ?_
 rintro ⟨s, k⟩ hk
 obtain ⟨m, o, rfl, h1, h2⟩ := cE (show Kr body k s = some r from hk)
 exact round s m o h1 h2
theorem Fe {fn : Func} {np : Nat} {R : DV -> List LB -> Prop} {ds : List DV} {r : DV} {bx : List LB} (θ : List (Nat × Nat)) (hR : R r bx)
  (h1 : Na P σ fn.results.toList ds := by
   repeat first
    | exact Na.nil
    | (apply Na.cons; exact .tmp rfl)
    | (apply Na.cons; exact .cell1 rfl rfl Up.h rfl)
    | (apply Na.cons; exact .cellA rfl rfl Up.h rfl))
  (h2 : Cv σ (Dy θ) (eU ds) r := by
   repeat' first
    | exact Cv.val _
    | exact Cv.sl _ _
    | exact Cv.ptr rfl
    | exact Cv.row rfl
    | exact Cv.nil rfl
    | exact Cv.nils _
    | exact Cv.elt _
    | exact Cv.mp _
    | refine Cv.clo _ _ ?_
    | refine Cv.agg ?_
    | refine Cv.tup ?_
    | exact Mg.nil
    | refine Mg.cons ?_ ?_
    | exact Cv.frzM rfl (Hh rfl)
    | exact Cv.frz rfl (Hh rfl)
    | exact Cv.frzT rfl (Hh rfl))
  (h3 : Xm σ (Dy θ) (ix 0 bx) := by
   repeat' first
    | exact trivial
    | refine ⟨.inl ⟨_, _, rfl, rfl, ⟨rfl, rfl, rfl⟩⟩, ?_⟩
    | refine ⟨.inl ⟨_, _, rfl, rfl, ⟨⟨rfl, rfl, rfl⟩, ?_⟩⟩, ?_⟩
    | refine ⟨.inl ⟨_, _, rfl, rfl, ⟨rfl, rfl, rfl, rfl, rfl, rfl, rfl, rfl⟩⟩, ?_⟩
    | refine ⟨.inl ⟨_, _, rfl, rfl, trivial⟩, ?_⟩
    | refine ⟨.inl ⟨_, _, rfl, rfl, rfl⟩, ?_⟩
    | refine ⟨.inl ⟨_, _, rfl, rfl, ⟨rfl, ?_⟩⟩, ?_⟩
    | refine ⟨.inr ⟨rfl, _, _, rfl⟩, ?_⟩
    | exact Cv.val _
    | exact Cv.sl _ _
    | exact Cv.ptr rfl
    | exact Cv.row rfl
    | exact Cv.nil rfl
    | exact Cv.nils _
    | exact Cv.elt _
    | exact Cv.mp _
    | refine Cv.clo _ _ ?_
    | refine Cv.agg ?_
    | exact Mg.nil
    | refine Mg.cons ?_ ?_
    | exact Cv.frzM rfl (Hh rfl)
    | exact Cv.frz rfl (Hh rfl)
    | exact Cv.frzT rfl (Hh rfl))
  (h4 : Xh [(0, r)] (ix 0 bx) bx.length θ = true := by rfl) (h5 : U5 θ bx.length np = true := by rfl) (h6 : Nat.ble np bx.length = true := by rfl) (h7 : Nat.ble bx.length (np + 8) = true := by rfl) (h8 : (bx.take np).all nX = true := by rfl) : Fin P fn np R σ :=
 ⟨ds, r, bx, θ, h1, hR, h2, h3, h4, h5, h6, h7, h8⟩
end
section
variable {P : Program} {cx : Cx} {ops : Array Oper} {Rt : Option (List Nat)} {nb i : Nat} {l : List Oper} {lg : Yv} {σ : St} {Q : St -> Prop} {fz : List Nat}
theorem Dz {dst : Option Tmp} {f : FuncId} {xs : Array Operand} {tys : Array TypeId} {ty : TypeId} {pos : String} {af : Array Edge} {g : Option (Nat × Bool)} {dsA : List (DV × Option LB)} {args : List DV} {d : DV}
  (hF : Fn P f 0 args [] (fun d' b' => d' = d /\ b' = []))
  (k : Cs (Ce P cx fz) ops Rt nb (idx (i + 1) l) ((i, true, nb + 8 * i, [], []) :: lg) (σ.app dst (Z2 [] [] d [])) Q)
  (hds : Df σ true xs.toList = some dsA := by rfl)
  (hA : Dw false ([] ++ []) (Gd σ []) (dsA.map (·.1)) args := by
   repeat' first
    | exact Dw.nil
    | exact Ag.val
    | exact Ag.sl
    | exact Ag.nils
    | exact Ag.elt
    | exact Ag.fn
    | refine Ag.agg ?_
    | refine Ag.clo ?_
    | refine Dw.cons ?_ ?_)
  (G : G9 ops σ ⟨dst, .call ⟨.value (.func f), xs, tys⟩, ty, pos, af, g⟩ = some true := by exact Mu)
  (hrd : Ml σ 3 (Nf dsA) = [] := by rfl) (hok : Ih Rt i true (nb + 8 * i) [] [] lg = true := by rfl) (hr : G7 d = [] := by rfl) :
  Cs (Ce P cx fz) ops Rt nb (idx i (⟨dst, .call ⟨.value (.func f), xs, tys⟩, ty, pos, af, g⟩ :: l)) lg σ Q :=
 Ys (ps := []) (gs := []) (rd := []) (bx := []) (b := []) false G hF hds hrd hA rfl rfl (fun h => by cases h) hok hr rfl rfl k
theorem Kg {dst : Option Tmp} {f : FuncId} {xs : Array Operand} {tys : Array TypeId} {ty : TypeId} {pos : String} {af : Array Edge} {g : Option (Nat × Bool)} {dsA : List (DV × Option LB)} {args : List DV} {bx : List LB} {d : DV} {b : List LB} (rd ps gs : List Nat) (fl : Bool)
  (hF : Fn P f ps.length args bx (fun d' b' => d' = d /\ b' = b))
  (k : Cs (Ce P cx fz) ops Rt nb (idx (i + 1) l) ((i, true, nb + 8 * i, rd, ps ++ gs) :: lg) (σ.app dst (Z2 ps gs d b)) Q)
  (hds : Df σ true xs.toList = some dsA := by rfl)
  (hA : Dw fl (ps ++ gs) (Gd σ rd) (dsA.map (·.1)) args := by
   repeat' first
    | exact Dw.nil
    | exact Ag.val
    | exact Ag.sl
    | exact Ag.nils
    | exact Ag.elt
    | exact Ag.fn
    | exact Ag.ptr rfl
    | exact Ag.rowK rfl
    | exact Ag.row rfl (by repeat first | exact List.Mem.head _ | refine List.Mem.tail _ ?_) rfl
    | refine Ag.agg ?_
    | refine Ag.clo ?_
    | refine Dw.cons ?_ ?_)
  (hB : Qv fl (ps ++ gs) (Gd σ rd) (ps ++ gs) bx := by
   repeat' first
    | exact (rfl : _ = [])
    | refine ⟨_, _, _, rfl, (.head _), ⟨_, rfl, ?_⟩, ?_⟩
    | refine ⟨_, _, _, rfl, (.tail _ (.head _)), ⟨_, rfl, ?_⟩, ?_⟩
    | refine ⟨_, _, _, rfl, (.tail _ (.tail _ (.head _))), ⟨_, rfl, ?_⟩, ?_⟩
    | refine ⟨_, _, _, rfl, (.tail _ (.tail _ (.tail _ (.head _)))), ⟨_, rfl, ?_⟩, ?_⟩
    | refine ⟨_, _, _, rfl, (.tail _ (.tail _ (.tail _ (.tail _ (.head _))))), ⟨_, rfl, ?_⟩, ?_⟩
    | refine ⟨_, _, _, rfl, (.tail _ (.tail _ (.tail _ (.tail _ (.tail _ (.head _)))))), ⟨_, rfl, ?_⟩, ?_⟩
    | refine ⟨_, _, _, rfl, (.tail _ (.tail _ (.tail _ (.tail _ (.tail _ (.tail _ (.head _))))))), ⟨_, rfl, ?_⟩, ?_⟩
    | refine ⟨_, _, _, rfl, (.head _), rfl, ?_⟩
    | refine ⟨_, _, _, rfl, (.tail _ (.head _)), rfl, ?_⟩
    | refine ⟨_, _, _, rfl, (.tail _ (.tail _ (.head _))), rfl, ?_⟩
    | refine ⟨_, _, _, rfl, (.tail _ (.tail _ (.tail _ (.head _)))), rfl, ?_⟩
    | refine ⟨_, _, _, rfl, (.tail _ (.tail _ (.tail _ (.tail _ (.head _))))), rfl, ?_⟩
    | refine ⟨_, _, _, rfl, (.tail _ (.tail _ (.tail _ (.tail _ (.tail _ (.head _)))))), rfl, ?_⟩
    | refine ⟨_, _, _, rfl, (.tail _ (.tail _ (.tail _ (.tail _ (.tail _ (.tail _ (.head _))))))), rfl, ?_⟩
    | exact Dw.nil
    | exact Ag.val
    | exact Ag.sl
    | exact Ag.nils
    | exact Ag.elt
    | exact Ag.ptr rfl
    | refine Dw.cons ?_ ?_)
  (G : G9 ops σ ⟨dst, .call ⟨.value (.func f), xs, tys⟩, ty, pos, af, g⟩ = some true := by exact Mu)
  (hrd : Ml σ 3 (Nf dsA) = rd := by rfl) (hnd : Iu cx.np ps gs = true := by rfl) (hfl : fl = true -> Gz d /\ ∀ lb ∈ b, Jh lb := by first | (intro h; cases h; done) | exact fun _ => ⟨by simp [Gz, Jr], by simp [Jh, Jr, Gz]⟩)
  (hok : Ih Rt i true (nb + 8 * i) rd (ps ++ gs) lg = true := by rfl) (hr : G7 d = [] := by rfl) (hl : b.length = ps.length := by rfl) (hb : b.flatMap Zg = [] := by rfl) :
  Cs (Ce P cx fz) ops Rt nb (idx i (⟨dst, .call ⟨.value (.func f), xs, tys⟩, ty, pos, af, g⟩ :: l)) lg σ Q :=
 Ys fl G hF hds hrd hA hB hnd hfl hok hr hl hb k
end
theorem Q2 {p : Prop} (h : p := by obtain rfl := oi_ G; exact Fe [] ⟨rfl, rfl⟩) : p := h
theorem E7 {p : Prop} (h : p := by refine A5 ?_; refine Fc fun B => ?_; refine Et ?_; obtain rfl := oi_ G; exact Fe [] ⟨rfl, rfl⟩) : p := h
theorem Bl {p q : Prop} (k : q) (h : q -> p := by intro k; refine A5 ?_; refine Fc ?_; exact k) : p := h k
theorem U0 {p q : Prop} (k : q) (h : q -> p := by intro k; (repeat first | refine rL ?_ | refine sK ?_); exact k) : p := h k
theorem sN {p : Prop} (h : p := by repeat first | exact (rfl : _ = []) | (apply qG; exact rfl)) : p := h
theorem sU {p : Prop} (h : p := by repeat first | exact E1.nil | (apply E1.cons; first | exact Vi.int | exact Vi.bool | exact Vi.str | exact Vi.sl | exact Vi.nil)) : p := h
theorem Ng {p : Prop} (h : p := by refine Et ?_; obtain rfl := oi_ G; exact Fe [] ⟨rfl, rfl⟩) : p := h
theorem Cp {p q : Prop} (k : q) (h : q -> p := by intro k; refine fN ?_; (repeat first | refine rL ?_ | refine sK ?_); exact k) : p := h k
theorem Fl {p q : Prop} (k : q) (h : q -> p := by intro k; refine eN ?_; (repeat first | refine rL ?_ | refine sK ?_); exact k) : p := h k
class tH {α : Type} (f : α -> List C) : Prop where
 h : ∀ x, ∀ c ∈ f x, bU c = true
instance : tH eI := ⟨fun x c hc => by rw [List.mem_singleton.1 hc]; rfl⟩
section
variable {P : Program} {cx : Cx} {ops : Array Oper} {Rt : Option (List Nat)} {nb i : Nat} {l : List Oper} {lg : Yv} {σ : St} {Q : St -> Prop} {fz : List Nat} {α : Type} {f : α -> List C} {L : List α} {a : α} {n : Int} {m : Nat} {t : TypeId} {x y : Operand} {dst : Option Tmp} {ty : TypeId} {pos : String} {af : Array Edge} {g : Option (Nat × Bool)}
theorem Xt (he : Bz L n = some a) {b1 : Option LB} {cs : List C} (k : Cs (Ce P cx fz) ops Rt nb (idx (i + 1) l) ((i, false, nb + 8 * i, [], []) :: lg) (σ.app dst (v0 (.agg (cs.map Qz)))) Q) [T : Up P t true m]
  (hds : Df σ true [x] = some [(.elt ((An f L).drop (n.toNat * m)), b1)] := by exact rfl) (E : Zk f m := by exact inferInstance) (hc : f a = cs := by exact sN) (G : G9 ops σ ⟨dst, .load t x, ty, pos, af, g⟩ = some true := by exact Mu)
  (hok : Ih Rt i false (nb + 8 * i) [] [] lg = true := by exact rfl) (hz : zM fz (nb + 8 * i) = 0 := by exact rfl) (hap : Lf cx.np (.load t x) [] = true := by exact rfl) : Cs (Ce P cx fz) ops Rt nb (idx i (⟨dst, .load t x, ty, pos, af, g⟩ :: l)) lg σ Q :=
 Ei G hds (gX T.h (cT E.h (Ar he) (o := 0) (m := m) (by rw [List.drop_zero, List.take_of_length_le (by rw [E.h]; exact Nat.le_refl _)]; exact hc) (by omega) rfl) (Bu E.h (Ar he) (o := 0) (m := m) (by omega) rfl)) rfl hok k hz hap
theorem Ps (he : Bz L n = some a) {b1 : Option LB} {c : C} {sz : Nat} (k : Cs (Ce P cx fz) ops Rt nb (idx (i + 1) l) ((i, false, nb + 8 * i, [], []) :: lg) (σ.app dst (v0 (Qz c))) Q) [T : Up P t false sz]
  (hds : Df σ true [x] = some [(.elt ((An f L).drop (n.toNat * 1)), b1)] := by exact rfl) (E : Zk f 1 := by exact inferInstance) (hc : f a = [c] := by exact rfl) (G : G9 ops σ ⟨dst, .load t x, ty, pos, af, g⟩ = some true := by exact Mu)
  (hok : Ih Rt i false (nb + 8 * i) [] [] lg = true := by exact rfl) (hz : zM fz (nb + 8 * i) = 0 := by exact rfl) (hap : Lf cx.np (.load t x) [] = true := by exact rfl) : Cs (Ce P cx fz) ops Rt nb (idx i (⟨dst, .load t x, ty, pos, af, g⟩ :: l)) lg σ Q :=
 Ei G hds (D0 T.h (A9 E.h (Ar he) (o := 0) (by rw [hc]; rfl) rfl)) rfl hok k hz hap
theorem Pt {e sz bytes len : Nat} {parts : Array (Nat × Operand)} {ds : List (DV × Option LB)} {z : List Value} {cs : List C} {ck : List (Option Nat)} (hS : F4 P t e sz bytes) (hz : Zt P e z) (hk : Jz P 20 e = ck) (lv : List α) (fv : α -> List C) (k : Cs (Ce P cx fz) ops Rt nb (idx (i + 1) l) ((i, false, nb + 8 * i, [], []) :: lg) (σ.app dst (J4 (nb + 8 * i) (.row e sz (An fv lv)) (.row (nb + 8 * i)))) Q)
  (hds : Df σ false (Op.buildSlice t len parts).operands.toList = some ds := by exact rfl) (hc : E1 (List.replicate len ck).flatten (ds.flatMap fun q => B6 q.1) cs := by exact sU) (h : An fv lv = cs := by exact rfl) (hlen : Nat.ble (len * sz) 16777216 = true := by exact rfl) (hp : parts.toList.map (·.1) = List.range' 0 len := by exact rfl) (hzl : z.length = sz := by exact rfl) (hn : ds.length = len := by exact rfl)
  (hs : ds.all (fun q => Nat.beq (B6 q.1).length sz) = true := by exact rfl) (ho : ds.all (fun q => (B6 q.1).all Pu) = true := by exact rfl) (G : G9 ops σ ⟨dst, .buildSlice t len parts, ty, pos, af, g⟩ = some true := by exact Mu)
  (hok : Ih Rt i false (nb + 8 * i) [] [] lg = true := by exact rfl) (hz' : zM fz (nb + 8 * i) = 0 := by exact rfl) (hap : Lf cx.np (.buildSlice t len parts) [] = true := by exact rfl) : Cs (Ce P cx fz) ops Rt nb (idx i (⟨dst, .buildSlice t len parts, ty, pos, af, g⟩ :: l)) lg σ Q :=
 Ei G hds (R4 hS hz (Nat.le_of_ble_eq_true hlen) hp hzl hn hs hk hc ho h) rfl hok k hz' hap
theorem rC {e sz bytes len : Nat} {parts : Array (Nat × Operand)} {ds : List (DV × Option LB)} {z : List Value} {cs : List C} {ck : List (Option Nat)} (hS : F4 P t e sz bytes) (hz : Zt P e z) (hk : Jz P 20 e = ck) (lv : List α) (fv : α -> List C) (k : Cs (Ce P cx fz) ops Rt nb (idx (i + 1) l) ((i, false, nb + 8 * i, [], []) :: lg) (σ.app dst (Ti sz (An fv lv) [])) Q)
  (hds : Df σ false (Op.buildSlice t len parts).operands.toList = some ds := by exact rfl) (hc : E1 (List.replicate len ck).flatten (ds.flatMap fun q => B6 q.1) cs := by exact sU) (h : An fv lv = cs := by exact rfl) (hlen : Nat.ble (len * sz) 16777216 = true := by exact rfl) (hp : parts.toList.map (·.1) = List.range' 0 len := by exact rfl) (hzl : z.length = sz := by exact rfl) (hn : ds.length = len := by exact rfl)
  (hs : ds.all (fun q => Nat.beq (B6 q.1).length sz) = true := by exact rfl) (ho : ds.all (fun q => (B6 q.1).all Pu) = true := by exact rfl) (G : G9 ops σ ⟨dst, .buildSlice t len parts, ty, pos, af, g⟩ = some true := by exact Mu)
  (hok : Ih Rt i false (nb + 8 * i) [] [] lg = true := by exact rfl) (hz' : zM fz (nb + 8 * i) = 1 := by exact rfl) (hap : Lf cx.np (.buildSlice t len parts) [] = true := by exact rfl) : Cs (Ce P cx fz) ops Rt nb (idx i (⟨dst, .buildSlice t len parts, ty, pos, af, g⟩ :: l)) lg σ Q :=
 sI (rd := []) G hds (R4 hS hz (Nat.le_of_ble_eq_true hlen) hp hzl hn hs hk hc ho h) rfl rfl hok k hz' hap
theorem cG {fields : _} {places : List (Nat × Nat)} {z : List Value} {r0 r : List DV} {parts : Array (Nat × Operand)} {ds : List (DV × Option LB)} (hu : P.underlying t = some (.struct fields)) (hp : fields.toList.map (fun f => (P.info? f.type).map fun i => (f.offset, i.size)) = places.map some) (hz : Zt P t z) (k : Cs (Ce P cx fz) ops Rt nb (idx (i + 1) l) ((i, false, nb + 8 * i, [], []) :: lg) (σ.app dst (v0 (.agg r))) Q)
  (hds : Df σ false (Op.build t parts).operands.toList = some ds := by exact rfl) (hd : Ez (fun i => places[i]?) (z.map .val) ((parts.toList.map (·.1)).zip (ds.map (·.1))) = some r0 := by exact rfl) (hr : r0 = r := by exact sN) (ho : ds.all (fun q => (B6 q.1).all Pu) = true := by exact rfl) (G : G9 ops σ ⟨dst, .build t parts, ty, pos, af, g⟩ = some true := by exact Mu)
  (hok : Ih Rt i false (nb + 8 * i) [] [] lg = true := by exact rfl) (hz' : zM fz (nb + 8 * i) = 0 := by exact rfl) (hap : Lf cx.np (.build t parts) [] = true := by exact rfl) : Cs (Ce P cx fz) ops Rt nb (idx i (⟨dst, .build t parts, ty, pos, af, g⟩ :: l)) lg σ Q :=
 Ei G hds (.build hu hp hz (hr ▸ hd) ho) rfl hok k hz' hap
end
theorem Bk {P : Program} {cx : Cx} {id : Nat} {l : List Oper} {σ : St} {y : Code} {Q : Exit -> St -> Prop} (nb nb' : Nat) (B : ∀ k, nb <= k -> σ.U k = false) {j : Nat} {lg' : Yv} {σ' : St} {q : Prop} (k : (∀ j, nb' <= j -> σ'.U j = false) -> q)
  (h : Gm P cx [] l.toArray none nb (idx 0 l) [] σ (idx j []) lg' σ' := by exact sR) (s : cN (jT (Ca P cx y Q) Q .normal σ') q := by exact inferInstance) (hn : Nat.ble (nb + 8 * l.length) nb' = true := by rfl) (hd : Zb cx.N l = true := by rfl) : Ca P cx (.seq (.region id l.toArray false) y) Q σ :=
 Cf nb nb' B (h _ (Fc k)) hn hd
end Go.Proofs.YtopkgllcjbpdeaaDoor
