import Derived.Test.YtjomajedgbcngaaEE
set_option linter.unusedVariables false
set_option linter.unusedSimpArgs false
namespace Go.Proofs.Ytjomajedgbcngaa
open Go.RowKit
class Qu (P : Program) (t : TypeId) (ag : outParam Bool) (sz : outParam Nat) : Prop where
 h : Ty P t ag sz
class L6 (P : Program) (s : TypeId) (f : Nat) (off : outParam Nat) (ft : outParam TypeId) : Prop where
 h : Fd P s f off ft
class Yz (P : Program) (t : TypeId) (e sz bytes : outParam Nat) : Prop where
 h : G4 P t e sz bytes
class V5 (P : Program) (t : TypeId) (z : outParam (List Value)) : Prop where
 h : Zt P t z
class Vg {α : Type} (f : α -> List C) (sz : outParam Nat) : Prop where
 h : ∀ x, (f x).length = sz
instance : Vg eI 1 := ⟨H0⟩
instance {k : IntKind} : Vg (eK k) 1 := ⟨jL k⟩
instance : Vg e8 1 := ⟨dH⟩
instance : Vg eS 1 := ⟨Vy⟩
instance : Vg eB 1 := ⟨iG⟩
instance {α : Type} {sz : Nat} {f : α -> List C} : Vg (eL sz f) 1 := ⟨Xy sz f⟩
section
variable {P : Program} {cx : Cx} {ops : Array Oper} {Rt : Option (List Nat)} {nb i : Nat} {l : List Oper} {lg lg' : Zv} {σ σ' : St} {Q : St -> Prop} {fz : List Nat} {m' : List (Nat × Oper)}
def Gm (P : Program) (cx : Cx) (fz : List Nat) (ops : Array Oper) (Rt : Option (List Nat)) (nb : Nat) (m : List (Nat × Oper)) (lg : Zv) (σ : St) (m' : List (Nat × Oper)) (lg' : Zv) (σ' : St) : Prop := ∀ Q, Chain (Bo P cx fz) ops Rt nb m' lg' σ' Q -> Chain (Bo P cx fz) ops Rt nb m lg σ Q
theorem Gm.z {m : List (Nat × Oper)} : Gm P cx fz ops Rt nb m lg σ m lg σ := fun _ h => h
theorem Gm.s {dst : Option Tmp} {op : Op} {ty : TypeId} {pos : String} {af : Array Edge} {g : Option (Nat × Bool)} {ds : List (DV × Option LB)} {rd wr : List Nat} {e : Jh} (hds : Ds σ (Hg op) op.operands.toList = some ds) (h : Eb P (nb + 8 * i) op ty ds wr e)
  (k : Gm P cx fz ops Rt nb (Dx (i + 1) l) ((i, false, nb + 8 * i, rd, wr) :: lg) (σ.app dst e) m' lg' σ') (hg : H1 ops σ ⟨dst, op, ty, pos, af, g⟩ = some true) (hrd : (bif Hg op then H5 (Io op) ds else []) = rd)
  (hok : (Iv Rt i false (nb + 8 * i) rd wr lg && (Nat.beq (zM fz (nb + 8 * i)) 0 && Na cx.np op wr)) = true) :
  Gm P cx fz ops Rt nb (Dx i (⟨dst, op, ty, pos, af, g⟩ :: l)) lg σ m' lg' σ' := fun Q hq => by
 simp only [Bool.and_eq_true] at hok
 exact Cu hg hds h hrd hok.1 (k Q hq) (Nat.eq_of_beq_eq_true hok.2.1) hok.2.2
theorem Gm.k {dst : Option Tmp} {op : Op} {ty : TypeId} {pos : String} {af : Array Edge} {g : Nat × Bool} (hg : H1 ops σ ⟨dst, op, ty, pos, af, some g⟩ = some false)
  (hok : Iv Rt i false (nb + 8 * i) [] [] lg = true) (k : Gm P cx fz ops Rt nb (Dx (i + 1) l) ((i, false, nb + 8 * i, [], []) :: lg) (σ.app dst Xo) m' lg' σ') :
  Gm P cx fz ops Rt nb (Dx i (⟨dst, op, ty, pos, af, some g⟩ :: l)) lg σ m' lg' σ' := fun Q hq => gE hg hok (k Q hq)
theorem Fa {dst : Option Tmp} {op : Op} {ty : TypeId} {pos : String} {af : Array Edge} : H1 ops σ ⟨dst, op, ty, pos, af, none⟩ = some true := rfl
theorem kE {dst : Option Tmp} {op : Op} {ty : TypeId} {pos : String} {af : Array Edge} {g : Nat} {c : Bool} {t : Tmp} (ht : (ops[g]?).bind (·.dst) = some t) (hF : σ.F t = some (.val (.bool c))) (hc : c = false) : H1 ops σ ⟨dst, op, ty, pos, af, some (g, true)⟩ = some false := gL ht hF hc
theorem kP {dst : Option Tmp} {op : Op} {ty : TypeId} {pos : String} {af : Array Edge} {g : Nat} {c : Bool} {t : Tmp} (ht : (ops[g]?).bind (·.dst) = some t) (hF : σ.F t = some (.val (.bool c))) (hc : c = true) : H1 ops σ ⟨dst, op, ty, pos, af, some (g, false)⟩ = some false := gL ht hF hc
theorem mP {dst : Option Tmp} {op : Op} {ty : TypeId} {pos : String} {af : Array Edge} {g : Nat} {b : Bool} {t : Tmp} (ht : (ops[g]?).bind (·.dst) = some t) (hF : σ.F t = some (.val undef)) : H1 ops σ ⟨dst, op, ty, pos, af, some (g, b)⟩ = some false := by
 unfold H1
 simp only []
 rw [ht]
 simp only []
 rw [hF]
 rfl
theorem pU {α : Type} {l t t' : List α} {x : α} (h : l = x :: t) (k : t = t') : l = x :: t' := by rw [h, k]
theorem Gm.move {x : Operand} {d : DV} {q : Option LB} {dst : Option Tmp} {ty : TypeId} {pos : String} {af : Array Edge} {g : Option (Nat × Bool)} (hds : Ds σ false [x] = some [(d, q)])  (hg : H1 ops σ ⟨dst, .move x, ty, pos, af, g⟩ = some true)
  (hok : (Iv Rt i false (nb + 8 * i) [] [] lg && (Nat.beq (zM fz (nb + 8 * i)) 0 && Na cx.np (.move x) [])) = true) (k : Gm P cx fz ops Rt nb (Dx (i + 1) l) ((i, false, nb + 8 * i, [], []) :: lg) (σ.app dst (v0 d)) m' lg' σ') : Gm P cx fz ops Rt nb (Dx i (⟨dst, .move x, ty, pos, af, g⟩ :: l)) lg σ m' lg' σ' :=
 Gm.s hds (.move) k hg rfl hok
theorem Gm.assign {x : Operand} {d : DV} {q : Option LB} {dst : Option Tmp} {ty : TypeId} {pos : String} {af : Array Edge} {g : Option (Nat × Bool)} (hds : Ds σ false [x] = some [(d, q)])  (hg : H1 ops σ ⟨dst, .assign x, ty, pos, af, g⟩ = some true)
  (hok : (Iv Rt i false (nb + 8 * i) [] [] lg && (Nat.beq (zM fz (nb + 8 * i)) 0 && Na cx.np (.assign x) [])) = true) (k : Gm P cx fz ops Rt nb (Dx (i + 1) l) ((i, false, nb + 8 * i, [], []) :: lg) (σ.app dst (v0 d)) m' lg' σ') : Gm P cx fz ops Rt nb (Dx i (⟨dst, .assign x, ty, pos, af, g⟩ :: l)) lg σ m' lg' σ' :=
 Gm.s hds (.assign) k hg rfl hok
theorem Gm.fieldP {x : Operand} {s f k j off ft sz : Nat} {ag : Bool} {q : Option LB} [F : L6 P s f off ft] [T : Qu P ft ag sz] {dst : Option Tmp} {ty : TypeId} {pos : String} {af : Array Edge} {g : Option (Nat × Bool)} (hds : Ds σ false [x] = some [(.ptr k j, q)]) (hz0 : Nat.blt 0 sz = true) (hg : H1 ops σ ⟨dst, .fieldAddr s x f, ty, pos, af, g⟩ = some true)
  (hok : (Iv Rt i false (nb + 8 * i) [] [] lg && (Nat.beq (zM fz (nb + 8 * i)) 0 && Na cx.np (.fieldAddr s x f) [])) = true) (k : Gm P cx fz ops Rt nb (Dx (i + 1) l) ((i, false, nb + 8 * i, [], []) :: lg) (σ.app dst (v0 (.ptr k (j + off)))) m' lg' σ') : Gm P cx fz ops Rt nb (Dx i (⟨dst, .fieldAddr s x f, ty, pos, af, g⟩ :: l)) lg σ m' lg' σ' :=
 Gm.s hds (.fieldP F.h T.h (Nat.le_of_ble_eq_true hz0)) k hg rfl hok
theorem Gm.load1 {x : Operand} {t k j bt sz : Nat} {ds : List DV} {d : DV} [T : Qu P t false sz] {dst : Option Tmp} {ty : TypeId} {pos : String} {af : Array Edge} {g : Option (Nat × Bool)} (hds : Ds σ true [x] = some [(.ptr k j, some (.box ds bt))]) (hd : ds[j]? = some d) (hg : H1 ops σ ⟨dst, .load t x, ty, pos, af, g⟩ = some true)
  (hok : (Iv Rt i false (nb + 8 * i) [k] [] lg && (Nat.beq (zM fz (nb + 8 * i)) 0 && Na cx.np (.load t x) [])) = true) (k : Gm P cx fz ops Rt nb (Dx (i + 1) l) ((i, false, nb + 8 * i, [k], []) :: lg) (σ.app dst (v0 d)) m' lg' σ') : Gm P cx fz ops Rt nb (Dx i (⟨dst, .load t x, ty, pos, af, g⟩ :: l)) lg σ m' lg' σ' :=
 Gm.s hds (.loadB1 T.h hd) k hg rfl hok
theorem Gm.loadA {x : Operand} {t k j bt sz : Nat} {ds : List DV} [T : Qu P t true sz] {dst : Option Tmp} {ty : TypeId} {pos : String} {af : Array Edge} {g : Option (Nat × Bool)} (hds : Ds σ true [x] = some [(.ptr k j, some (.box ds bt))]) (hd : Nat.ble (j + sz) ds.length = true) (hg : H1 ops σ ⟨dst, .load t x, ty, pos, af, g⟩ = some true)
  (hok : (Iv Rt i false (nb + 8 * i) [k] [] lg && (Nat.beq (zM fz (nb + 8 * i)) 0 && Na cx.np (.load t x) [])) = true) (k : Gm P cx fz ops Rt nb (Dx (i + 1) l) ((i, false, nb + 8 * i, [k], []) :: lg) (σ.app dst (v0 (.agg ((ds.drop j).take sz)))) m' lg' σ') : Gm P cx fz ops Rt nb (Dx i (⟨dst, .load t x, ty, pos, af, g⟩ :: l)) lg σ m' lg' σ' :=
 Gm.s hds (.loadBA T.h (Nat.le_of_ble_eq_true hd)) k hg rfl hok
theorem Gm.pickF {x y z : Operand} {c : Bool} {d1 d2 : DV} {q1 q2 q3 : Option LB} {dst : Option Tmp} {ty : TypeId} {pos : String} {af : Array Edge} {g : Option (Nat × Bool)} (hds : Ds σ false [x, y, z] = some [(.val (.bool c), q1), (d1, q2), (d2, q3)]) (hc : c = false) (hg : H1 ops σ ⟨dst, .pick x y z, ty, pos, af, g⟩ = some true)
  (hok : (Iv Rt i false (nb + 8 * i) [] [] lg && (Nat.beq (zM fz (nb + 8 * i)) 0 && Na cx.np (.pick x y z) [])) = true) (k : Gm P cx fz ops Rt nb (Dx (i + 1) l) ((i, false, nb + 8 * i, [], []) :: lg) (σ.app dst (v0 d2)) m' lg' σ') : Gm P cx fz ops Rt nb (Dx i (⟨dst, .pick x y z, ty, pos, af, g⟩ :: l)) lg σ m' lg' σ' :=
 Gm.s hds (fO hc) k hg rfl hok
theorem Gm.pickT {x y z : Operand} {c : Bool} {d1 d2 : DV} {q1 q2 q3 : Option LB} {dst : Option Tmp} {ty : TypeId} {pos : String} {af : Array Edge} {g : Option (Nat × Bool)} (hds : Ds σ false [x, y, z] = some [(.val (.bool c), q1), (d1, q2), (d2, q3)]) (hc : c = true) (hg : H1 ops σ ⟨dst, .pick x y z, ty, pos, af, g⟩ = some true)
  (hok : (Iv Rt i false (nb + 8 * i) [] [] lg && (Nat.beq (zM fz (nb + 8 * i)) 0 && Na cx.np (.pick x y z) [])) = true) (k : Gm P cx fz ops Rt nb (Dx (i + 1) l) ((i, false, nb + 8 * i, [], []) :: lg) (σ.app dst (v0 d1)) m' lg' σ') : Gm P cx fz ops Rt nb (Dx i (⟨dst, .pick x y z, ty, pos, af, g⟩ :: l)) lg σ m' lg' σ' :=
 Gm.s hds (gB hc) k hg rfl hok
theorem Gm.storeB {x y : Operand} {t k j bt sz : Nat} {ag : Bool} {ds ds' : List DV} {d : DV} {q : Option LB} {rd : List Nat} [T : Qu P t ag sz] {dst : Option Tmp} {ty : TypeId} {pos : String} {af : Array Edge} {g : Option (Nat × Bool)} (hds : Ds σ true [x, y] = some [(.ptr k j, some (.box ds bt)), (d, q)]) (hs : (Cr d).length = sz) (hi : Nat.ble (j + sz) ds.length = true) (ho : (Cr d).all T9 = true) (hn : C1 ds j (Cr d) = ds') (hr : H5 false [(DV.ptr k j, some (LB.box ds bt)), (d, q)] = rd) (hg : H1 ops σ ⟨dst, .store t x y, ty, pos, af, g⟩ = some true)
  (hok : (Iv Rt i false (nb + 8 * i) rd [k] lg && (Nat.beq (zM fz (nb + 8 * i)) 0 && Na cx.np (.store t x y) [k])) = true) (k : Gm P cx fz ops Rt nb (Dx (i + 1) l) ((i, false, nb + 8 * i, rd, [k]) :: lg) (σ.app dst (Z9 k (.box ds' bt))) m' lg' σ') : Gm P cx fz ops Rt nb (Dx i (⟨dst, .store t x y, ty, pos, af, g⟩ :: l)) lg σ m' lg' σ' :=
 Gm.s hds (dC T.h hs (Nat.le_of_ble_eq_true hi) ho hn) k hg hr hok
theorem Gm.extract {x : Operand} {n : Nat} {ds : List DV} {d : DV} {q : Option LB} {dst : Option Tmp} {ty : TypeId} {pos : String} {af : Array Edge} {g : Option (Nat × Bool)} (hds : Ds σ false [x] = some [(.tup ds, q)]) (hd : ds[n]? = some d) (hg : H1 ops σ ⟨dst, .extract x n, ty, pos, af, g⟩ = some true)
  (hok : (Iv Rt i false (nb + 8 * i) [] [] lg && (Nat.beq (zM fz (nb + 8 * i)) 0 && Na cx.np (.extract x n) [])) = true) (k : Gm P cx fz ops Rt nb (Dx (i + 1) l) ((i, false, nb + 8 * i, [], []) :: lg) (σ.app dst (v0 d)) m' lg' σ') : Gm P cx fz ops Rt nb (Dx i (⟨dst, .extract x n, ty, pos, af, g⟩ :: l)) lg σ m' lg' σ' :=
 Gm.s hds (.extract hd) k hg rfl hok
theorem Gm.lss {x y : Operand} {t yt : TypeId} {kk : IntKind} {a b : Int} {q1 q2 : Option LB} {dst : Option Tmp} {ty : TypeId} {pos : String} {af : Array Edge} {g : Option (Nat × Bool)} (hds : Ds σ false [x, y] = some [(.val (.int kk a), q1), (.val (.int kk b), q2)])  (hg : H1 ops σ ⟨dst, .binOp .lss t x y yt, ty, pos, af, g⟩ = some true)
  (hok : (Iv Rt i false (nb + 8 * i) [] [] lg && (Nat.beq (zM fz (nb + 8 * i)) 0 && Na cx.np (.binOp .lss t x y yt) [])) = true) (k : Gm P cx fz ops Rt nb (Dx (i + 1) l) ((i, false, nb + 8 * i, [], []) :: lg) (σ.app dst (v0 (.val (.bool (decide (a < b)))))) m' lg' σ') : Gm P cx fz ops Rt nb (Dx i (⟨dst, .binOp .lss t x y yt, ty, pos, af, g⟩ :: l)) lg σ m' lg' σ' :=
 Gm.s hds (nI) k hg rfl hok
theorem Gm.eql {x y : Operand} {t yt : TypeId} {kk : IntKind} {a b : Int} {q1 q2 : Option LB} {dst : Option Tmp} {ty : TypeId} {pos : String} {af : Array Edge} {g : Option (Nat × Bool)} (hds : Ds σ false [x, y] = some [(.val (.int kk a), q1), (.val (.int kk b), q2)])  (hg : H1 ops σ ⟨dst, .binOp .eql t x y yt, ty, pos, af, g⟩ = some true)
  (hok : (Iv Rt i false (nb + 8 * i) [] [] lg && (Nat.beq (zM fz (nb + 8 * i)) 0 && Na cx.np (.binOp .eql t x y yt) [])) = true) (k : Gm P cx fz ops Rt nb (Dx (i + 1) l) ((i, false, nb + 8 * i, [], []) :: lg) (σ.app dst (v0 (.val (.bool (decide (a = b)))))) m' lg' σ') : Gm P cx fz ops Rt nb (Dx i (⟨dst, .binOp .eql t x y yt, ty, pos, af, g⟩ :: l)) lg σ m' lg' σ' :=
 Gm.s hds (nH) k hg rfl hok
theorem Gm.gtr {x y : Operand} {t yt : TypeId} {kk : IntKind} {a b : Int} {q1 q2 : Option LB} {dst : Option Tmp} {ty : TypeId} {pos : String} {af : Array Edge} {g : Option (Nat × Bool)} (hds : Ds σ false [x, y] = some [(.val (.int kk a), q1), (.val (.int kk b), q2)])  (hg : H1 ops σ ⟨dst, .binOp .gtr t x y yt, ty, pos, af, g⟩ = some true)
  (hok : (Iv Rt i false (nb + 8 * i) [] [] lg && (Nat.beq (zM fz (nb + 8 * i)) 0 && Na cx.np (.binOp .gtr t x y yt) [])) = true) (k : Gm P cx fz ops Rt nb (Dx (i + 1) l) ((i, false, nb + 8 * i, [], []) :: lg) (σ.app dst (v0 (.val (.bool (decide (b < a)))))) m' lg' σ') : Gm P cx fz ops Rt nb (Dx i (⟨dst, .binOp .gtr t x y yt, ty, pos, af, g⟩ :: l)) lg σ m' lg' σ' :=
 Gm.s hds (oB) k hg rfl hok
theorem Gm.leq {x y : Operand} {t yt : TypeId} {kk : IntKind} {a b : Int} {q1 q2 : Option LB} {dst : Option Tmp} {ty : TypeId} {pos : String} {af : Array Edge} {g : Option (Nat × Bool)} (hds : Ds σ false [x, y] = some [(.val (.int kk a), q1), (.val (.int kk b), q2)])  (hg : H1 ops σ ⟨dst, .binOp .leq t x y yt, ty, pos, af, g⟩ = some true)
  (hok : (Iv Rt i false (nb + 8 * i) [] [] lg && (Nat.beq (zM fz (nb + 8 * i)) 0 && Na cx.np (.binOp .leq t x y yt) [])) = true) (k : Gm P cx fz ops Rt nb (Dx (i + 1) l) ((i, false, nb + 8 * i, [], []) :: lg) (σ.app dst (v0 (.val (.bool (decide (a <= b)))))) m' lg' σ') : Gm P cx fz ops Rt nb (Dx i (⟨dst, .binOp .leq t x y yt, ty, pos, af, g⟩ :: l)) lg σ m' lg' σ' :=
 Gm.s hds (nS) k hg rfl hok
theorem Gm.geq {x y : Operand} {t yt : TypeId} {kk : IntKind} {a b : Int} {q1 q2 : Option LB} {dst : Option Tmp} {ty : TypeId} {pos : String} {af : Array Edge} {g : Option (Nat × Bool)} (hds : Ds σ false [x, y] = some [(.val (.int kk a), q1), (.val (.int kk b), q2)])  (hg : H1 ops σ ⟨dst, .binOp .geq t x y yt, ty, pos, af, g⟩ = some true)
  (hok : (Iv Rt i false (nb + 8 * i) [] [] lg && (Nat.beq (zM fz (nb + 8 * i)) 0 && Na cx.np (.binOp .geq t x y yt) [])) = true) (k : Gm P cx fz ops Rt nb (Dx (i + 1) l) ((i, false, nb + 8 * i, [], []) :: lg) (σ.app dst (v0 (.val (.bool (decide (b <= a)))))) m' lg' σ') : Gm P cx fz ops Rt nb (Dx i (⟨dst, .binOp .geq t x y yt, ty, pos, af, g⟩ :: l)) lg σ m' lg' σ' :=
 Gm.s hds (nQ) k hg rfl hok
theorem Gm.neq {x y : Operand} {t yt : TypeId} {kk : IntKind} {a b : Int} {q1 q2 : Option LB} {dst : Option Tmp} {ty : TypeId} {pos : String} {af : Array Edge} {g : Option (Nat × Bool)} (hds : Ds σ false [x, y] = some [(.val (.int kk a), q1), (.val (.int kk b), q2)])  (hg : H1 ops σ ⟨dst, .binOp .neq t x y yt, ty, pos, af, g⟩ = some true)
  (hok : (Iv Rt i false (nb + 8 * i) [] [] lg && (Nat.beq (zM fz (nb + 8 * i)) 0 && Na cx.np (.binOp .neq t x y yt) [])) = true) (k : Gm P cx fz ops Rt nb (Dx (i + 1) l) ((i, false, nb + 8 * i, [], []) :: lg) (σ.app dst (v0 (.val (.bool (!decide (a = b)))))) m' lg' σ') : Gm P cx fz ops Rt nb (Dx i (⟨dst, .binOp .neq t x y yt, ty, pos, af, g⟩ :: l)) lg σ m' lg' σ' :=
 Gm.s hds (nE) k hg rfl hok
theorem Gm.seql {x y : Operand} {t yt : TypeId} {a b : ByteArray} {q1 q2 : Option LB} {dst : Option Tmp} {ty : TypeId} {pos : String} {af : Array Edge} {g : Option (Nat × Bool)} (hds : Ds σ false [x, y] = some [(.val (.string a), q1), (.val (.string b), q2)])  (hg : H1 ops σ ⟨dst, .binOp .eql t x y yt, ty, pos, af, g⟩ = some true)
  (hok : (Iv Rt i false (nb + 8 * i) [] [] lg && (Nat.beq (zM fz (nb + 8 * i)) 0 && Na cx.np (.binOp .eql t x y yt) [])) = true) (k : Gm P cx fz ops Rt nb (Dx (i + 1) l) ((i, false, nb + 8 * i, [], []) :: lg) (σ.app dst (v0 (.val (.bool (decide (a = b)))))) m' lg' σ') : Gm P cx fz ops Rt nb (Dx i (⟨dst, .binOp .eql t x y yt, ty, pos, af, g⟩ :: l)) lg σ m' lg' σ' :=
 Gm.s hds (lP) k hg rfl hok
theorem Gm.sneq {x y : Operand} {t yt : TypeId} {a b : ByteArray} {q1 q2 : Option LB} {dst : Option Tmp} {ty : TypeId} {pos : String} {af : Array Edge} {g : Option (Nat × Bool)} (hds : Ds σ false [x, y] = some [(.val (.string a), q1), (.val (.string b), q2)])  (hg : H1 ops σ ⟨dst, .binOp .neq t x y yt, ty, pos, af, g⟩ = some true)
  (hok : (Iv Rt i false (nb + 8 * i) [] [] lg && (Nat.beq (zM fz (nb + 8 * i)) 0 && Na cx.np (.binOp .neq t x y yt) [])) = true) (k : Gm P cx fz ops Rt nb (Dx (i + 1) l) ((i, false, nb + 8 * i, [], []) :: lg) (σ.app dst (v0 (.val (.bool (!decide (a = b)))))) m' lg' σ') : Gm P cx fz ops Rt nb (Dx i (⟨dst, .binOp .neq t x y yt, ty, pos, af, g⟩ :: l)) lg σ m' lg' σ' :=
 Gm.s hds (kM) k hg rfl hok
theorem Gm.add {x y : Operand} {t yt : TypeId} {a b : Int} {q1 q2 : Option LB} {dst : Option Tmp} {ty : TypeId} {pos : String} {af : Array Edge} {g : Option (Nat × Bool)} (hds : Ds σ false [x, y] = some [(.val (.int .i64 a), q1), (.val (.int .i64 b), q2)])  (hg : H1 ops σ ⟨dst, .binOp .add t x y yt, ty, pos, af, g⟩ = some true)
  (hok : (Iv Rt i false (nb + 8 * i) [] [] lg && (Nat.beq (zM fz (nb + 8 * i)) 0 && Na cx.np (.binOp .add t x y yt) [])) = true) (k : Gm P cx fz ops Rt nb (Dx (i + 1) l) ((i, false, nb + 8 * i, [], []) :: lg) (σ.app dst (v0 (.val (.int .i64 (W (a + b)))))) m' lg' σ') : Gm P cx fz ops Rt nb (Dx i (⟨dst, .binOp .add t x y yt, ty, pos, af, g⟩ :: l)) lg σ m' lg' σ' :=
 Gm.s hds (gS) k hg rfl hok
theorem Gm.sub {x y : Operand} {t yt : TypeId} {a b : Int} {q1 q2 : Option LB} {dst : Option Tmp} {ty : TypeId} {pos : String} {af : Array Edge} {g : Option (Nat × Bool)} (hds : Ds σ false [x, y] = some [(.val (.int .i64 a), q1), (.val (.int .i64 b), q2)])  (hg : H1 ops σ ⟨dst, .binOp .sub t x y yt, ty, pos, af, g⟩ = some true)
  (hok : (Iv Rt i false (nb + 8 * i) [] [] lg && (Nat.beq (zM fz (nb + 8 * i)) 0 && Na cx.np (.binOp .sub t x y yt) [])) = true) (k : Gm P cx fz ops Rt nb (Dx (i + 1) l) ((i, false, nb + 8 * i, [], []) :: lg) (σ.app dst (v0 (.val (.int .i64 (W (a - b)))))) m' lg' σ') : Gm P cx fz ops Rt nb (Dx i (⟨dst, .binOp .sub t x y yt, ty, pos, af, g⟩ :: l)) lg σ m' lg' σ' :=
 Gm.s hds (nG) k hg rfl hok
theorem Gm.mul {x y : Operand} {t yt : TypeId} {a b : Int} {q1 q2 : Option LB} {dst : Option Tmp} {ty : TypeId} {pos : String} {af : Array Edge} {g : Option (Nat × Bool)} (hds : Ds σ false [x, y] = some [(.val (.int .i64 a), q1), (.val (.int .i64 b), q2)])  (hg : H1 ops σ ⟨dst, .binOp .mul t x y yt, ty, pos, af, g⟩ = some true)
  (hok : (Iv Rt i false (nb + 8 * i) [] [] lg && (Nat.beq (zM fz (nb + 8 * i)) 0 && Na cx.np (.binOp .mul t x y yt) [])) = true) (k : Gm P cx fz ops Rt nb (Dx (i + 1) l) ((i, false, nb + 8 * i, [], []) :: lg) (σ.app dst (v0 (.val (.int .i64 (W (a * b)))))) m' lg' σ') : Gm P cx fz ops Rt nb (Dx i (⟨dst, .binOp .mul t x y yt, ty, pos, af, g⟩ :: l)) lg σ m' lg' σ' :=
 Gm.s hds (nD) k hg rfl hok
theorem Gm.alloc {t : TypeId} {z : List Value} [Z : V5 P t z] {dst : Option Tmp} {ty : TypeId} {pos : String} {af : Array Edge} {g : Option (Nat × Bool)} (hds : Ds σ false [] = some [])  (hg : H1 ops σ ⟨dst, .alloc t, ty, pos, af, g⟩ = some true)
  (hok : (Iv Rt i false (nb + 8 * i) [] [] lg && (Nat.beq (zM fz (nb + 8 * i)) 0 && Na cx.np (.alloc t) [])) = true) (k : Gm P cx fz ops Rt nb (Dx (i + 1) l) ((i, false, nb + 8 * i, [], []) :: lg) (σ.app dst (Ky (nb + 8 * i) (.box (z.map .val) t) (.ptr (nb + 8 * i) 0))) m' lg' σ') : Gm P cx fz ops Rt nb (Dx i (⟨dst, .alloc t, ty, pos, af, g⟩ :: l)) lg σ m' lg' σ' :=
 Gm.s hds (.alloc Z.h) k hg rfl hok
theorem Gm.box {x : Operand} {t : TypeId} {d : DV} {q : Option LB} {dst : Option Tmp} {ty : TypeId} {pos : String} {af : Array Edge} {g : Option (Nat × Bool)} (hds : Ds σ false [x] = some [(d, q)]) (ho : (Cr d).all T9 = true) (hg : H1 ops σ ⟨dst, .box t x, ty, pos, af, g⟩ = some true)
  (hok : (Iv Rt i false (nb + 8 * i) [] [] lg && (Nat.beq (zM fz (nb + 8 * i)) 0 && Na cx.np (.box t x) [])) = true) (k : Gm P cx fz ops Rt nb (Dx (i + 1) l) ((i, false, nb + 8 * i, [], []) :: lg) (σ.app dst (Ky (nb + 8 * i) (.box (Cr d) t) (.ptr (nb + 8 * i) 0))) m' lg' σ') : Gm P cx fz ops Rt nb (Dx i (⟨dst, .box t x, ty, pos, af, g⟩ :: l)) lg σ m' lg' σ' :=
 Gm.s hds (.box ho) k hg rfl hok
theorem Gm.not {x : Operand} {t : TypeId} {b : Bool} {q : Option LB} {dst : Option Tmp} {ty : TypeId} {pos : String} {af : Array Edge} {g : Option (Nat × Bool)} (hds : Ds σ false [x] = some [(.val (.bool b), q)])  (hg : H1 ops σ ⟨dst, .unOp .not t x, ty, pos, af, g⟩ = some true)
  (hok : (Iv Rt i false (nb + 8 * i) [] [] lg && (Nat.beq (zM fz (nb + 8 * i)) 0 && Na cx.np (.unOp .not t x) [])) = true) (k : Gm P cx fz ops Rt nb (Dx (i + 1) l) ((i, false, nb + 8 * i, [], []) :: lg) (σ.app dst (v0 (.val (.bool (!b))))) m' lg' σ') : Gm P cx fz ops Rt nb (Dx i (⟨dst, .unOp .not t x, ty, pos, af, g⟩ :: l)) lg σ m' lg' σ' :=
 Gm.s hds (mJ) k hg rfl hok
theorem Gm.lenS {α : Type} {f : α -> List C} {L : List α} {x : Operand} {t e sz by_ : Nat} {q : Option LB} [S : Yz P t e sz by_] {dst : Option Tmp} {ty : TypeId} {pos : String} {af : Array Edge} {g : Option (Nat × Bool)} (hds : Ds σ true [x] = some [(.sl sz (Az f L), q)]) (E : Vg f sz) (hg : H1 ops σ ⟨dst, .call ⟨.builtin .len, #[x], #[t]⟩, ty, pos, af, g⟩ = some true)
  (hok : (Iv Rt i false (nb + 8 * i) [] [] lg && (Nat.beq (zM fz (nb + 8 * i)) 0 && Na cx.np (.call ⟨.builtin .len, #[x], #[t]⟩) [])) = true) (k : Gm P cx fz ops Rt nb (Dx (i + 1) l) ((i, false, nb + 8 * i, [], []) :: lg) (σ.app dst (v0 (.val (.int .i64 (L.length : Int))))) m' lg' σ') : Gm P cx fz ops Rt nb (Dx i (⟨dst, .call ⟨.builtin .len, #[x], #[t]⟩, ty, pos, af, g⟩ :: l)) lg σ m' lg' σ' :=
 Gm.s hds (jQ S.h E.h) k hg rfl hok
theorem Gm.lenR {α : Type} {f : α -> List C} {L : List α} {x : Operand} {t e e' sz by_ k : Nat} [S : Yz P t e sz by_] {dst : Option Tmp} {ty : TypeId} {pos : String} {af : Array Edge} {g : Option (Nat × Bool)} (hds : Ds σ true [x] = some [(.row k, some (.row e' sz (Az f L)))]) (E : Vg f sz) (hg : H1 ops σ ⟨dst, .call ⟨.builtin .len, #[x], #[t]⟩, ty, pos, af, g⟩ = some true)
  (hok : (Iv Rt i false (nb + 8 * i) [k] [] lg && (Nat.beq (zM fz (nb + 8 * i)) 0 && Na cx.np (.call ⟨.builtin .len, #[x], #[t]⟩) [])) = true) (k : Gm P cx fz ops Rt nb (Dx (i + 1) l) ((i, false, nb + 8 * i, [k], []) :: lg) (σ.app dst (v0 (.val (.int .i64 (L.length : Int))))) m' lg' σ') : Gm P cx fz ops Rt nb (Dx i (⟨dst, .call ⟨.builtin .len, #[x], #[t]⟩, ty, pos, af, g⟩ :: l)) lg σ m' lg' σ' :=
 Gm.s hds (kR S.h E.h) k hg rfl hok
theorem Gm.idxS {α : Type} {f : α -> List C} {L : List α} {a : α} {x y : Operand} {t e sz by_ : Nat} {kk : IntKind} {n : Int} {q1 q2 : Option LB} [S : Yz P t e sz by_] {dst : Option Tmp} {ty : TypeId} {pos : String} {af : Array Edge} {g : Option (Nat × Bool)} (hds : Ds σ true [x, y] = some [(.sl sz (Az f L), q1), (.val (.int kk n), q2)]) (E : Vg f sz) (hx : Cc L n = some a) (hg : H1 ops σ ⟨dst, .indexAddr t x y, ty, pos, af, g⟩ = some true)
  (hok : (Iv Rt i false (nb + 8 * i) [] [] lg && (Nat.beq (zM fz (nb + 8 * i)) 0 && Na cx.np (.indexAddr t x y) [])) = true) (k : Gm P cx fz ops Rt nb (Dx (i + 1) l) ((i, false, nb + 8 * i, [], []) :: lg) (σ.app dst (v0 (.elt ((Az f L).drop (n.toNat * sz))))) m' lg' σ') : Gm P cx fz ops Rt nb (Dx i (⟨dst, .indexAddr t x y, ty, pos, af, g⟩ :: l)) lg σ m' lg' σ' :=
 Gm.s hds (lW S.h E.h (O2 hx) (Ao hx)) k hg rfl hok
theorem Gm.idxR {α : Type} {f : α -> List C} {L : List α} {a : α} {x y : Operand} {t e e' sz by_ k : Nat} {kk : IntKind} {n : Int} {q2 : Option LB} [S : Yz P t e sz by_] {dst : Option Tmp} {ty : TypeId} {pos : String} {af : Array Edge} {g : Option (Nat × Bool)} (hds : Ds σ true [x, y] = some [(.row k, some (.row e' sz (Az f L))), (.val (.int kk n), q2)]) (E : Vg f sz) (hx : Cc L n = some a) (hg : H1 ops σ ⟨dst, .indexAddr t x y, ty, pos, af, g⟩ = some true)
  (hok : (Iv Rt i false (nb + 8 * i) [k] [] lg && (Nat.beq (zM fz (nb + 8 * i)) 0 && Na cx.np (.indexAddr t x y) [])) = true) (k : Gm P cx fz ops Rt nb (Dx (i + 1) l) ((i, false, nb + 8 * i, [k], []) :: lg) (σ.app dst (v0 (.ptr k (n.toNat * sz)))) m' lg' σ') : Gm P cx fz ops Rt nb (Dx i (⟨dst, .indexAddr t x y, ty, pos, af, g⟩ :: l)) lg σ m' lg' σ' :=
 Gm.s hds (kO S.h E.h (O2 hx) (Ao hx)) k hg rfl hok
theorem Gm.nilP {x : Operand} {k j : Nat} {q : Option LB} {dst : Option Tmp} {ty : TypeId} {pos : String} {af : Array Edge} {g : Option (Nat × Bool)} (hds : Ds σ false [x] = some [(.ptr k j, q)])  (hg : H1 ops σ ⟨dst, .nilCheck x, ty, pos, af, g⟩ = some true)
  (hok : (Iv Rt i false (nb + 8 * i) [] [] lg && (Nat.beq (zM fz (nb + 8 * i)) 0 && Na cx.np (.nilCheck x) [])) = true) (k : Gm P cx fz ops Rt nb (Dx (i + 1) l) ((i, false, nb + 8 * i, [], []) :: lg) (σ.app dst (v0 (.ptr k j))) m' lg' σ') : Gm P cx fz ops Rt nb (Dx i (⟨dst, .nilCheck x, ty, pos, af, g⟩ :: l)) lg σ m' lg' σ' :=
 Gm.s hds (.nilP) k hg rfl hok
theorem Gm.nilE {x : Operand} {cs : List C} {q : Option LB} {dst : Option Tmp} {ty : TypeId} {pos : String} {af : Array Edge} {g : Option (Nat × Bool)} (hds : Ds σ false [x] = some [(.elt cs, q)])  (hg : H1 ops σ ⟨dst, .nilCheck x, ty, pos, af, g⟩ = some true)
  (hok : (Iv Rt i false (nb + 8 * i) [] [] lg && (Nat.beq (zM fz (nb + 8 * i)) 0 && Na cx.np (.nilCheck x) [])) = true) (k : Gm P cx fz ops Rt nb (Dx (i + 1) l) ((i, false, nb + 8 * i, [], []) :: lg) (σ.app dst (v0 (.elt cs))) m' lg' σ') : Gm P cx fz ops Rt nb (Dx i (⟨dst, .nilCheck x, ty, pos, af, g⟩ :: l)) lg σ m' lg' σ' :=
 Gm.s hds (.nilE) k hg rfl hok
theorem Gm.field1 {x : Operand} {s f off ft sz : Nat} {ds : List DV} {d : DV} {q : Option LB} [F : L6 P s f off ft] [T : Qu P ft false sz] {dst : Option Tmp} {ty : TypeId} {pos : String} {af : Array Edge} {g : Option (Nat × Bool)} (hds : Ds σ false [x] = some [(.agg ds, q)]) (hd : ds[off]? = some d) (hg : H1 ops σ ⟨dst, .field s x f, ty, pos, af, g⟩ = some true)
  (hok : (Iv Rt i false (nb + 8 * i) [] [] lg && (Nat.beq (zM fz (nb + 8 * i)) 0 && Na cx.np (.field s x f) [])) = true) (k : Gm P cx fz ops Rt nb (Dx (i + 1) l) ((i, false, nb + 8 * i, [], []) :: lg) (σ.app dst (v0 d)) m' lg' σ') : Gm P cx fz ops Rt nb (Dx i (⟨dst, .field s x f, ty, pos, af, g⟩ :: l)) lg σ m' lg' σ' :=
 Gm.s hds (.field1 F.h T.h hd) k hg rfl hok
theorem Gm.fieldA {x : Operand} {s f off ft sz : Nat} {ds : List DV} {q : Option LB} [F : L6 P s f off ft] [T : Qu P ft true sz] {dst : Option Tmp} {ty : TypeId} {pos : String} {af : Array Edge} {g : Option (Nat × Bool)} (hds : Ds σ false [x] = some [(.agg ds, q)])  (hg : H1 ops σ ⟨dst, .field s x f, ty, pos, af, g⟩ = some true)
  (hok : (Iv Rt i false (nb + 8 * i) [] [] lg && (Nat.beq (zM fz (nb + 8 * i)) 0 && Na cx.np (.field s x f) [])) = true) (k : Gm P cx fz ops Rt nb (Dx (i + 1) l) ((i, false, nb + 8 * i, [], []) :: lg) (σ.app dst (v0 (.agg ((ds.drop off).take sz)))) m' lg' σ') : Gm P cx fz ops Rt nb (Dx i (⟨dst, .field s x f, ty, pos, af, g⟩ :: l)) lg σ m' lg' σ' :=
 Gm.s hds (.fieldA F.h T.h) k hg rfl hok
theorem Gm.makeF {f : Nat} {first caps : Array Operand} {ds : List (DV × Option LB)} {dst : Option Tmp} {ty : TypeId} {pos : String} {af : Array Edge} {g : Option (Nat × Bool)} (hds : Ds σ false (Op.makeFunc (.func f) first caps).operands.toList = some ds)  (hg : H1 ops σ ⟨dst, .makeFunc (.func f) first caps, ty, pos, af, g⟩ = some true)
  (hok : (Iv Rt i false (nb + 8 * i) [] [] lg && (Nat.beq (zM fz (nb + 8 * i)) 0 && Na cx.np (.makeFunc (.func f) first caps) [])) = true) (k : Gm P cx fz ops Rt nb (Dx (i + 1) l) ((i, false, nb + 8 * i, [], []) :: lg) (σ.app dst (v0 (.clo f first.size (ds.map (·.1))))) m' lg' σ') : Gm P cx fz ops Rt nb (Dx i (⟨dst, .makeFunc (.func f) first caps, ty, pos, af, g⟩ :: l)) lg σ m' lg' σ' :=
 Gm.s hds (.makeFunc) k hg rfl hok
theorem Al {m : List (Nat × Oper)} (k : Chain (Bo P cx fz) ops Rt nb m' lg' σ' Q) (h : Gm P cx fz ops Rt nb m lg σ m' lg' σ' := by
  repeat first
   | (apply Gm.move; exact rfl; (first | with_reducible exact Fa | exact B7 rfl rfl (by first | with_reducible assumption | with_reducible rfl | with_reducible exact E0 (by with_reducible assumption) | with_reducible exact E2 (by with_reducible assumption))); exact rfl)
   | (apply Gm.assign; exact rfl; (first | with_reducible exact Fa | exact B7 rfl rfl (by first | with_reducible assumption | with_reducible rfl | with_reducible exact E0 (by with_reducible assumption) | with_reducible exact E2 (by with_reducible assumption))); exact rfl)
   | (apply Gm.fieldP; exact rfl; (exact rfl); (first | with_reducible exact Fa | exact B7 rfl rfl (by first | with_reducible assumption | with_reducible rfl | with_reducible exact E0 (by with_reducible assumption) | with_reducible exact E2 (by with_reducible assumption))); exact rfl)
   | (apply Gm.load1; exact rfl; (exact rfl); (first | with_reducible exact Fa | exact B7 rfl rfl (by first | with_reducible assumption | with_reducible rfl | with_reducible exact E0 (by with_reducible assumption) | with_reducible exact E2 (by with_reducible assumption))); exact rfl)
   | (apply Gm.loadA; exact rfl; (exact rfl); (first | with_reducible exact Fa | exact B7 rfl rfl (by first | with_reducible assumption | with_reducible rfl | with_reducible exact E0 (by with_reducible assumption) | with_reducible exact E2 (by with_reducible assumption))); exact rfl)
   | (apply Gm.pickF; exact rfl; (first | with_reducible assumption | with_reducible rfl | with_reducible exact E0 (by with_reducible assumption)); (first | with_reducible exact Fa | exact B7 rfl rfl (by first | with_reducible assumption | with_reducible rfl | with_reducible exact E0 (by with_reducible assumption) | with_reducible exact E2 (by with_reducible assumption))); exact rfl)
   | (apply Gm.pickT; exact rfl; (first | with_reducible assumption | with_reducible rfl | with_reducible exact E2 (by with_reducible assumption)); (first | with_reducible exact Fa | exact B7 rfl rfl (by first | with_reducible assumption | with_reducible rfl | with_reducible exact E0 (by with_reducible assumption) | with_reducible exact E2 (by with_reducible assumption))); exact rfl)
   | (apply Gm.k; (first | exact kE rfl rfl (by first | with_reducible assumption | with_reducible rfl | with_reducible exact E0 (by with_reducible assumption) | with_reducible exact E2 (by with_reducible assumption)) | exact kP rfl rfl (by first | with_reducible assumption | with_reducible rfl | with_reducible exact E0 (by with_reducible assumption) | with_reducible exact E2 (by with_reducible assumption)) | exact mP rfl rfl); exact rfl)
   | (apply Gm.storeB; exact rfl; (exact rfl); (exact rfl); (exact rfl); (focus repeat first | exact (rfl : _ = []) | (apply pU; exact rfl)); (first | exact (rfl : _ = [_]) | exact (rfl : _ = [_, _]) | exact (rfl : _ = [_, _, _])); (first | with_reducible exact Fa | exact B7 rfl rfl (by first | with_reducible assumption | with_reducible rfl | with_reducible exact E0 (by with_reducible assumption) | with_reducible exact E2 (by with_reducible assumption))); exact rfl)
   | (apply Gm.extract; exact rfl; (exact rfl); (first | with_reducible exact Fa | exact B7 rfl rfl (by first | with_reducible assumption | with_reducible rfl | with_reducible exact E0 (by with_reducible assumption) | with_reducible exact E2 (by with_reducible assumption))); exact rfl)
   | (apply Gm.lss; exact rfl; (first | with_reducible exact Fa | exact B7 rfl rfl (by first | with_reducible assumption | with_reducible rfl | with_reducible exact E0 (by with_reducible assumption) | with_reducible exact E2 (by with_reducible assumption))); exact rfl)
   | (apply Gm.eql; exact rfl; (first | with_reducible exact Fa | exact B7 rfl rfl (by first | with_reducible assumption | with_reducible rfl | with_reducible exact E0 (by with_reducible assumption) | with_reducible exact E2 (by with_reducible assumption))); exact rfl)
   | (apply Gm.gtr; exact rfl; (first | with_reducible exact Fa | exact B7 rfl rfl (by first | with_reducible assumption | with_reducible rfl | with_reducible exact E0 (by with_reducible assumption) | with_reducible exact E2 (by with_reducible assumption))); exact rfl)
   | (apply Gm.leq; exact rfl; (first | with_reducible exact Fa | exact B7 rfl rfl (by first | with_reducible assumption | with_reducible rfl | with_reducible exact E0 (by with_reducible assumption) | with_reducible exact E2 (by with_reducible assumption))); exact rfl)
   | (apply Gm.geq; exact rfl; (first | with_reducible exact Fa | exact B7 rfl rfl (by first | with_reducible assumption | with_reducible rfl | with_reducible exact E0 (by with_reducible assumption) | with_reducible exact E2 (by with_reducible assumption))); exact rfl)
   | (apply Gm.neq; exact rfl; (first | with_reducible exact Fa | exact B7 rfl rfl (by first | with_reducible assumption | with_reducible rfl | with_reducible exact E0 (by with_reducible assumption) | with_reducible exact E2 (by with_reducible assumption))); exact rfl)
   | (apply Gm.seql; exact rfl; (first | with_reducible exact Fa | exact B7 rfl rfl (by first | with_reducible assumption | with_reducible rfl | with_reducible exact E0 (by with_reducible assumption) | with_reducible exact E2 (by with_reducible assumption))); exact rfl)
   | (apply Gm.sneq; exact rfl; (first | with_reducible exact Fa | exact B7 rfl rfl (by first | with_reducible assumption | with_reducible rfl | with_reducible exact E0 (by with_reducible assumption) | with_reducible exact E2 (by with_reducible assumption))); exact rfl)
   | (apply Gm.add; exact rfl; (first | with_reducible exact Fa | exact B7 rfl rfl (by first | with_reducible assumption | with_reducible rfl | with_reducible exact E0 (by with_reducible assumption) | with_reducible exact E2 (by with_reducible assumption))); exact rfl)
   | (apply Gm.sub; exact rfl; (first | with_reducible exact Fa | exact B7 rfl rfl (by first | with_reducible assumption | with_reducible rfl | with_reducible exact E0 (by with_reducible assumption) | with_reducible exact E2 (by with_reducible assumption))); exact rfl)
   | (apply Gm.mul; exact rfl; (first | with_reducible exact Fa | exact B7 rfl rfl (by first | with_reducible assumption | with_reducible rfl | with_reducible exact E0 (by with_reducible assumption) | with_reducible exact E2 (by with_reducible assumption))); exact rfl)
   | (apply Gm.alloc; exact rfl; (first | with_reducible exact Fa | exact B7 rfl rfl (by first | with_reducible assumption | with_reducible rfl | with_reducible exact E0 (by with_reducible assumption) | with_reducible exact E2 (by with_reducible assumption))); exact rfl)
   | (apply Gm.box; exact rfl; (exact rfl); (first | with_reducible exact Fa | exact B7 rfl rfl (by first | with_reducible assumption | with_reducible rfl | with_reducible exact E0 (by with_reducible assumption) | with_reducible exact E2 (by with_reducible assumption))); exact rfl)
   | (apply Gm.not; exact rfl; (first | with_reducible exact Fa | exact B7 rfl rfl (by first | with_reducible assumption | with_reducible rfl | with_reducible exact E0 (by with_reducible assumption) | with_reducible exact E2 (by with_reducible assumption))); exact rfl)
   | (apply Gm.lenS; exact rfl; (exact inferInstance); (first | with_reducible exact Fa | exact B7 rfl rfl (by first | with_reducible assumption | with_reducible rfl | with_reducible exact E0 (by with_reducible assumption) | with_reducible exact E2 (by with_reducible assumption))); exact rfl)
   | (apply Gm.lenR; exact rfl; (exact inferInstance); (first | with_reducible exact Fa | exact B7 rfl rfl (by first | with_reducible assumption | with_reducible rfl | with_reducible exact E0 (by with_reducible assumption) | with_reducible exact E2 (by with_reducible assumption))); exact rfl)
   | (apply Gm.idxS; exact rfl; (exact inferInstance); (with_reducible assumption); (first | with_reducible exact Fa | exact B7 rfl rfl (by first | with_reducible assumption | with_reducible rfl | with_reducible exact E0 (by with_reducible assumption) | with_reducible exact E2 (by with_reducible assumption))); exact rfl)
   | (apply Gm.idxR; exact rfl; (exact inferInstance); (with_reducible assumption); (first | with_reducible exact Fa | exact B7 rfl rfl (by first | with_reducible assumption | with_reducible rfl | with_reducible exact E0 (by with_reducible assumption) | with_reducible exact E2 (by with_reducible assumption))); exact rfl)
   | (apply Gm.nilP; exact rfl; (first | with_reducible exact Fa | exact B7 rfl rfl (by first | with_reducible assumption | with_reducible rfl | with_reducible exact E0 (by with_reducible assumption) | with_reducible exact E2 (by with_reducible assumption))); exact rfl)
   | (apply Gm.nilE; exact rfl; (first | with_reducible exact Fa | exact B7 rfl rfl (by first | with_reducible assumption | with_reducible rfl | with_reducible exact E0 (by with_reducible assumption) | with_reducible exact E2 (by with_reducible assumption))); exact rfl)
   | (apply Gm.field1; exact rfl; (exact rfl); (first | with_reducible exact Fa | exact B7 rfl rfl (by first | with_reducible assumption | with_reducible rfl | with_reducible exact E0 (by with_reducible assumption) | with_reducible exact E2 (by with_reducible assumption))); exact rfl)
   | (apply Gm.fieldA; exact rfl; (first | with_reducible exact Fa | exact B7 rfl rfl (by first | with_reducible assumption | with_reducible rfl | with_reducible exact E0 (by with_reducible assumption) | with_reducible exact E2 (by with_reducible assumption))); exact rfl)
   | (apply Gm.makeF; exact rfl; (first | with_reducible exact Fa | exact B7 rfl rfl (by first | with_reducible assumption | with_reducible rfl | with_reducible exact E0 (by with_reducible assumption) | with_reducible exact E2 (by with_reducible assumption))); exact rfl)
  exact Gm.z) : Chain (Bo P cx fz) ops Rt nb m lg σ Q := h Q k
end
theorem Ea {R : Type} {b : Bool} {X Y : Option R} {r : R} (hg : cond b X Y = some r) : (b = true /\ X = some r) \/ (b = false /\ Y = some r) := by
 cases b with
 | true => exact .inl ⟨rfl, hg⟩
 | false => exact .inr ⟨rfl, hg⟩
section
variable {P : Program} {cx : Cx} {σ : St} {Q : Exit -> St -> Prop} {x y : Code}
theorem C4 {R : Type} {t : Nat} {b : Bool} {X Y : Option R} {r : R} (hc : σ.F t = some (.val (.bool b))) (hg : cond b X Y = some r) (h1 : b = true -> X = some r -> Ci P cx x Q σ) (h2 : b = false -> Y = some r -> Ci P cx y Q σ) : Ci P cx (.cond (.tmp t) x y) Q σ :=
 Gz hc (fun h => h1 h (kT h hg)) fun h => h2 h (iQ h hg)
theorem Ba {fl : List (Nat × DV)} {ll : List (Nat × LB)} {n : Nat} (θ : List (Nat × Nat))
  (hF : eU σ (Ed θ) fl := by
   repeat' first
    | exact trivial
    | refine ⟨⟨_, rfl, ?_⟩, ?_⟩
    | exact Cv.val _
    | exact Cv.sl _ _
    | exact Cv.ptr rfl
    | exact Cv.row rfl
    | exact Cv.part rfl
    | exact Cv.nil rfl
    | exact Cv.nils _
    | exact Cv.elt _
    | exact Cv.mp _
    | refine Cv.clo _ _ ?_
    | refine Cv.agg ?_
    | refine Cv.tup ?_
    | refine Cv.clo _ _ ?_
    | exact Ny.nil
    | refine Ny.cons ?_ ?_
    | exact Cv.frzM rfl (E6 rfl)
    | exact Cv.frz rfl (E6 rfl))
  (hL : Z4 σ (Ed θ) ll := by
   repeat' first
    | exact trivial
    | refine ⟨.inl ⟨_, _, rfl, rfl, ⟨rfl, rfl, rfl⟩⟩, ?_⟩
    | refine ⟨.inl ⟨_, _, rfl, rfl, ⟨rfl, ?_⟩⟩, ?_⟩
    | refine ⟨.inr ⟨rfl, _, _, rfl⟩, ?_⟩
    | exact Cv.val _
    | exact Cv.sl _ _
    | exact Cv.ptr rfl
    | exact Cv.row rfl
    | exact Cv.part rfl
    | exact Cv.nil rfl
    | exact Cv.nils _
    | exact Cv.elt _
    | exact Cv.mp _
    | refine Cv.clo _ _ ?_
    | refine Cv.agg ?_
    | exact Ny.nil
    | refine Ny.cons ?_ ?_
    | exact Cv.frzM rfl (E6 rfl)
    | exact Cv.frz rfl (E6 rfl))
  (hc : Zh fl ll n θ = true := by rfl) (hp : X4 θ n cx.np = true := by rfl) : Nl cx σ (mk fl ll n) := Nl.lists θ hc hp hF hL
theorem Ll {S R : Type} {body : S -> Option (Lp S R)} {s0 : S} {r : R} (st : S -> St) (hg : Cy body s0 = some r) (h0 : Nl cx σ (st s0)) (round : ∀ (s : S) (m : Nat) (o : Lp S R), body s = some o -> Tx (Km body m) o = some r -> Ci P cx x (dS (fun σ' => ∃ j : S × Nat, j.2 < m + 1 /\ Km body j.2 j.1 = some r /\ Nl cx σ' (st j.1)) Q) (st s)) : Ci P cx (.loop x) Q σ := by
 obtain ⟨n, hg⟩ := Ow hg
 refine cE (ι := S × Nat) (fun q => st q.1) (fun q => Km body q.2 q.1 = some r) (fun q => q.2) (s0, n) h0 hg ?_
 rintro ⟨s, k⟩ hk
 obtain ⟨m, o, rfl, h1, h2⟩ := Ze (show Km body k s = some r from hk)
 exact round s m o h1 h2
theorem Bi {fn : Func} {np : Nat} {R : DV -> List LB -> Prop} {ds : List DV} {r : DV} {bx : List LB} (θ : List (Nat × Nat)) (hR : R r bx)
  (h1 : Nu P σ fn.results.toList ds := by
   repeat first
    | exact Nu.nil
    | (apply Nu.cons; exact .tmp rfl)
    | (apply Nu.cons; exact .cell1 rfl rfl Qu.h rfl)
    | (apply Nu.cons; exact .cellA rfl rfl Qu.h rfl))
  (h2 : Cv σ (Ed θ) (dG ds) r := by
   repeat' first
    | exact Cv.val _
    | exact Cv.sl _ _
    | exact Cv.ptr rfl
    | exact Cv.row rfl
    | exact Cv.nil rfl
    | exact Cv.nils _
    | exact Cv.elt _
    | exact Cv.mp _
    | refine Cv.clo _ _ ?_
    | refine Cv.agg ?_
    | refine Cv.tup ?_
    | exact Ny.nil
    | refine Ny.cons ?_ ?_
    | exact Cv.frzM rfl (E6 rfl)
    | exact Cv.frz rfl (E6 rfl))
  (h3 : Z4 σ (Ed θ) (ix 0 bx) := by
   repeat' first
    | exact trivial
    | refine ⟨.inl ⟨_, _, rfl, rfl, ⟨rfl, rfl, rfl⟩⟩, ?_⟩
    | refine ⟨.inl ⟨_, _, rfl, rfl, ⟨rfl, ?_⟩⟩, ?_⟩
    | refine ⟨.inr ⟨rfl, _, _, rfl⟩, ?_⟩
    | exact Cv.val _
    | exact Cv.sl _ _
    | exact Cv.ptr rfl
    | exact Cv.row rfl
    | exact Cv.nil rfl
    | exact Cv.nils _
    | exact Cv.elt _
    | exact Cv.mp _
    | refine Cv.clo _ _ ?_
    | refine Cv.agg ?_
    | exact Ny.nil
    | refine Ny.cons ?_ ?_
    | exact Cv.frzM rfl (E6 rfl)
    | exact Cv.frz rfl (E6 rfl))
  (h4 : Zh [(0, r)] (ix 0 bx) bx.length θ = true := by rfl) (h5 : X4 θ bx.length np = true := by rfl) (h6 : Nat.ble np bx.length = true := by rfl) (h7 : Nat.ble bx.length (np + 8) = true := by rfl) : R4 P fn np R σ :=
 ⟨ds, r, bx, θ, h1, hR, h2, h3, h4, h5, h6, h7⟩
end
section
variable {P : Program} {cx : Cx} {ops : Array Oper} {Rt : Option (List Nat)} {nb i : Nat} {l : List Oper} {lg : Zv} {σ : St} {Q : St -> Prop} {fz : List Nat}
theorem E5 {dst : Option Tmp} {f : FuncId} {xs : Array Operand} {tys : Array TypeId} {ty : TypeId} {pos : String} {af : Array Edge} {g : Option (Nat × Bool)} {dsA : List (DV × Option LB)} {args : List DV} {d : DV}
  (hF : Fn P f 0 args [] (fun d' b' => d' = d /\ b' = []))
  (k : Chain (Bo P cx fz) ops Rt nb (Dx (i + 1) l) ((i, true, nb + 8 * i, [], []) :: lg) (σ.app dst (Xh [] [] d [])) Q)
  (hds : Ds σ true xs.toList = some dsA := by rfl)
  (hA : Le false ([] ++ []) (Ip σ []) (dsA.map (·.1)) args := by
   repeat' first
    | exact Le.nil
    | exact Ag.val
    | exact Ag.sl
    | exact Ag.nils
    | exact Ag.elt
    | exact Ag.fn
    | refine Ag.agg ?_
    | refine Ag.clo ?_
    | refine Le.cons ?_ ?_)
  (hg : H1 ops σ ⟨dst, .call ⟨.value (.func f), xs, tys⟩, ty, pos, af, g⟩ = some true := by first | with_reducible exact Fa | exact B7 rfl rfl (by first | with_reducible assumption | with_reducible rfl | with_reducible exact E0 (by with_reducible assumption) | with_reducible exact E2 (by with_reducible assumption)))
  (hrd : Mn σ 3 (Nv dsA) = [] := by rfl) (hok : Iv Rt i true (nb + 8 * i) [] [] lg = true := by rfl) (hr : G9 d = [] := by rfl) :
  Chain (Bo P cx fz) ops Rt nb (Dx i (⟨dst, .call ⟨.value (.func f), xs, tys⟩, ty, pos, af, g⟩ :: l)) lg σ Q :=
 W3 (ps := []) (gs := []) (rd := []) (bx := []) (b := []) false hg hF hds hrd hA rfl rfl (fun h => by cases h) hok hr rfl rfl k
theorem Hr {dst : Option Tmp} {f : FuncId} {xs : Array Operand} {tys : Array TypeId} {ty : TypeId} {pos : String} {af : Array Edge} {g : Option (Nat × Bool)} {dsA : List (DV × Option LB)} {args : List DV} {bx : List LB} {d : DV} {b : List LB} (rd ps gs : List Nat) (fl : Bool)
  (hF : Fn P f ps.length args bx (fun d' b' => d' = d /\ b' = b))
  (k : Chain (Bo P cx fz) ops Rt nb (Dx (i + 1) l) ((i, true, nb + 8 * i, rd, ps ++ gs) :: lg) (σ.app dst (Xh ps gs d b)) Q)
  (hds : Ds σ true xs.toList = some dsA := by rfl)
  (hA : Le fl (ps ++ gs) (Ip σ rd) (dsA.map (·.1)) args := by
   repeat' first
    | exact Le.nil
    | exact Ag.val
    | exact Ag.sl
    | exact Ag.nils
    | exact Ag.elt
    | exact Ag.fn
    | exact Ag.ptr rfl
    | exact Ag.rowK rfl
    | exact Ag.row rfl (by repeat first | exact List.Mem.head _ | refine List.Mem.tail _ ?_) rfl
    | refine Ag.agg ?_
    | refine Ag.clo ?_
    | refine Le.cons ?_ ?_)
  (hB : Sy fl (ps ++ gs) (Ip σ rd) (ps ++ gs) bx := by
   repeat' first
    | exact (rfl : _ = [])
    | refine ⟨_, _, _, rfl, (.head _), ⟨_, rfl, ?_⟩, ?_⟩
    | refine ⟨_, _, _, rfl, (.tail _ (.head _)), ⟨_, rfl, ?_⟩, ?_⟩
    | refine ⟨_, _, _, rfl, (.tail _ (.tail _ (.head _))), ⟨_, rfl, ?_⟩, ?_⟩
    | refine ⟨_, _, _, rfl, (.tail _ (.tail _ (.tail _ (.head _)))), ⟨_, rfl, ?_⟩, ?_⟩
    | refine ⟨_, _, _, rfl, (.tail _ (.tail _ (.tail _ (.tail _ (.head _))))), ⟨_, rfl, ?_⟩, ?_⟩
    | refine ⟨_, _, _, rfl, (.tail _ (.tail _ (.tail _ (.tail _ (.tail _ (.head _)))))), ⟨_, rfl, ?_⟩, ?_⟩
    | refine ⟨_, _, _, rfl, (.tail _ (.tail _ (.tail _ (.tail _ (.tail _ (.tail _ (.head _))))))), ⟨_, rfl, ?_⟩, ?_⟩
    | refine ⟨_, _, _, rfl, (.head _), rfl, ?_⟩
    | refine ⟨_, _, _, rfl, (.tail _ (.head _)), rfl, ?_⟩
    | refine ⟨_, _, _, rfl, (.tail _ (.tail _ (.head _))), rfl, ?_⟩
    | refine ⟨_, _, _, rfl, (.tail _ (.tail _ (.tail _ (.head _)))), rfl, ?_⟩
    | refine ⟨_, _, _, rfl, (.tail _ (.tail _ (.tail _ (.tail _ (.head _))))), rfl, ?_⟩
    | refine ⟨_, _, _, rfl, (.tail _ (.tail _ (.tail _ (.tail _ (.tail _ (.head _)))))), rfl, ?_⟩
    | refine ⟨_, _, _, rfl, (.tail _ (.tail _ (.tail _ (.tail _ (.tail _ (.tail _ (.head _))))))), rfl, ?_⟩
    | exact Le.nil
    | exact Ag.val
    | exact Ag.sl
    | exact Ag.nils
    | exact Ag.elt
    | exact Ag.ptr rfl
    | refine Le.cons ?_ ?_)
  (hg : H1 ops σ ⟨dst, .call ⟨.value (.func f), xs, tys⟩, ty, pos, af, g⟩ = some true := by first | with_reducible exact Fa | exact B7 rfl rfl (by first | with_reducible assumption | with_reducible rfl | with_reducible exact E0 (by with_reducible assumption) | with_reducible exact E2 (by with_reducible assumption)))
  (hrd : Mn σ 3 (Nv dsA) = rd := by rfl) (hnd : Nk cx.np ps gs = true := by rfl) (hfl : fl = true -> Hx d /\ ∀ lb ∈ b, No lb := by first | (intro h; cases h; done) | exact fun _ => ⟨by simp [Hx, L5], by simp [No, L5, Hx]⟩)
  (hok : Iv Rt i true (nb + 8 * i) rd (ps ++ gs) lg = true := by rfl) (hr : G9 d = [] := by rfl) (hl : b.length = ps.length := by rfl) (hb : b.flatMap S7 = [] := by rfl) :
  Chain (Bo P cx fz) ops Rt nb (Dx i (⟨dst, .call ⟨.value (.func f), xs, tys⟩, ty, pos, af, g⟩ :: l)) lg σ Q :=
 W3 fl hg hF hds hrd hA hB hnd hfl hok hr hl hb k
end
end Go.Proofs.Ytjomajedgbcngaa
