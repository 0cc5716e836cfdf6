import Derived.Test.YtidpkjdkfkkgiaaGreatEE
set_option linter.unusedVariables false
set_option linter.unusedSimpArgs false
namespace Go.Proofs.YtidpkjdkfkkgiaaGreat
open Go.RowKit
abbrev vk (x : Int) : DV := .val (.int .i64 x)
abbrev ws (x : ByteArray) : DV := .val (.string x)
class O2 (P : Program) (t : TypeId) (ag : outParam Bool) (sz : outParam Nat) : Prop where
 h : Ty P t ag sz
class J6 (P : Program) (s : TypeId) (f : Nat) (off : outParam Nat) (ft : outParam TypeId) : Prop where
 h : Fd P s f off ft
class fM (P : Program) (t : TypeId) (e sz bytes : outParam Nat) : Prop where
 h : Ii P t e sz bytes
class W8 (P : Program) (t : TypeId) (z : outParam (List Value)) : Prop where
 h : Zt P t z
class Uq {α : Type} (f : α -> List C) (sz : outParam Nat) : Prop where
 h : ∀ x, (f x).length = sz
instance : Uq eI 1 := ⟨It⟩
instance {k : IntKind} : Uq (eK k) 1 := ⟨aAm k⟩
instance : Uq e8 1 := ⟨Jb⟩
instance : Uq eS 1 := ⟨cW⟩
instance : Uq eB 1 := ⟨aAd⟩
instance {α : Type} {sz : Nat} {f : α -> List C} : Uq (eL sz f) 1 := ⟨hZ sz f⟩
section
variable {P : Program} {cx : Cx} {ops : Array Oper} {Rt : Option (List Nat)} {nb i : Nat} {l : List Oper} {lg lg' : gB} {σ σ' : St} {Q : St -> Prop} {fz : List Nat} {m' : List (Nat × Oper)}
def Gm (P : Program) (cx : Cx) (fz : List Nat) (ops : Array Oper) (Rt : Option (List Nat)) (nb : Nat) (m : List (Nat × Oper)) (lg : gB) (σ : St) (m' : List (Nat × Oper)) (lg' : gB) (σ' : St) : Prop := ∀ Q, Chain (B8 P cx fz) ops Rt nb m' lg' σ' Q -> Chain (B8 P cx fz) ops Rt nb m lg σ Q
theorem Gm.z {m : List (Nat × Oper)} : Gm P cx fz ops Rt nb m lg σ m lg σ := fun _ h => h
theorem Gm.s {dst : Option Tmp} {op : Op} {ty : TypeId} {pos : String} {af : Array Edge} {g : Option (Nat × Bool)} {ds : List (DV × Option LB)} {rd wr : List Nat} {e : Lc} (hds : Ei σ (Jh op) op.operands.toList = some ds) (h : Fi P (nb + 8 * i) op ty ds wr e)
  (k : Gm P cx fz ops Rt nb (D8 (i + 1) l) ((i, false, nb + 8 * i, rd, wr) :: lg) (σ.app dst e) m' lg' σ') (G : Ji ops σ ⟨dst, op, ty, pos, af, g⟩ = some true) (hrd : (bif Jh op then Ka (Kq op) ds else []) = rd)
  (hok : (Kb Rt i false (nb + 8 * i) rd wr lg && (Nat.beq (zM fz (nb + 8 * i)) 0 && Og cx.np op wr)) = true) :
  Gm P cx fz ops Rt nb (D8 i (⟨dst, op, ty, pos, af, g⟩ :: l)) lg σ m' lg' σ' := fun Q hq => by
 simp only [Bool.and_eq_true] at hok
 exact Gd G hds h hrd hok.1 (k Q hq) (Nat.eq_of_beq_eq_true hok.2.1) hok.2.2
theorem Gm.k {dst : Option Tmp} {op : Op} {ty : TypeId} {pos : String} {af : Array Edge} {g : Nat × Bool} (G : Ji ops σ ⟨dst, op, ty, pos, af, some g⟩ = some false)
  (hok : Kb Rt i false (nb + 8 * i) [] [] lg = true) (k : Gm P cx fz ops Rt nb (D8 (i + 1) l) ((i, false, nb + 8 * i, [], []) :: lg) (σ.app dst iD) m' lg' σ') :
  Gm P cx fz ops Rt nb (D8 i (⟨dst, op, ty, pos, af, some g⟩ :: l)) lg σ m' lg' σ' := fun Q hq => sS G hok (k Q hq)
theorem aBt {dst : Option Tmp} {op : Op} {ty : TypeId} {pos : String} {af : Array Edge} : Ji ops σ ⟨dst, op, ty, pos, af, none⟩ = some true := rfl
theorem yW {dst : Option Tmp} {op : Op} {ty : TypeId} {pos : String} {af : Array Edge} {g : Nat} {c : Bool} {t : Tmp} (ht : (ops[g]?).bind (·.dst) = some t) (hF : σ.F t = some (.val (.bool c))) (hc : c = false) : Ji ops σ ⟨dst, op, ty, pos, af, some (g, true)⟩ = some false := vQ ht hF hc
theorem xW {dst : Option Tmp} {op : Op} {ty : TypeId} {pos : String} {af : Array Edge} {g : Nat} {c : Bool} {t : Tmp} (ht : (ops[g]?).bind (·.dst) = some t) (hF : σ.F t = some (.val (.bool c))) (hc : c = true) : Ji ops σ ⟨dst, op, ty, pos, af, some (g, false)⟩ = some false := vQ ht hF hc
theorem aBv {dst : Option Tmp} {op : Op} {ty : TypeId} {pos : String} {af : Array Edge} {g : Nat} {b : Bool} {t : Tmp} (ht : (ops[g]?).bind (·.dst) = some t) (hF : σ.F t = some (.val undef)) : Ji ops σ ⟨dst, op, ty, pos, af, some (g, b)⟩ = some false := by
 unfold Ji
 simp only []
 rw [ht]
 simp only []
 rw [hF]
 rfl
theorem aBr {α : Type} {l t t' : List α} {x : α} (h : l = x :: t) (k : t = t') : l = x :: t' := by rw [h, k]
variable {dst : Option Tmp} {ty : TypeId} {pos : String} {af : Array Edge} {g : Option (Nat × Bool)}
theorem Gm.move {x : Operand} {d : DV} {q : Option LB} (hds : Ei σ false [x] = some [(d, q)])  (G : Ji ops σ ⟨dst, .move x, ty, pos, af, g⟩ = some true)
  (hok : (Kb Rt i false (nb + 8 * i) [] [] lg && (Nat.beq (zM fz (nb + 8 * i)) 0 && Og cx.np (.move x) [])) = true) (k : Gm P cx fz ops Rt nb (D8 (i + 1) l) ((i, false, nb + 8 * i, [], []) :: lg) (σ.app dst (v0 d)) m' lg' σ') : Gm P cx fz ops Rt nb (D8 i (⟨dst, .move x, ty, pos, af, g⟩ :: l)) lg σ m' lg' σ' :=
 Gm.s hds (.move) k G rfl hok
theorem Gm.assign {x : Operand} {d : DV} {q : Option LB} (hds : Ei σ false [x] = some [(d, q)])  (G : Ji ops σ ⟨dst, .assign x, ty, pos, af, g⟩ = some true)
  (hok : (Kb Rt i false (nb + 8 * i) [] [] lg && (Nat.beq (zM fz (nb + 8 * i)) 0 && Og cx.np (.assign x) [])) = true) (k : Gm P cx fz ops Rt nb (D8 (i + 1) l) ((i, false, nb + 8 * i, [], []) :: lg) (σ.app dst (v0 d)) m' lg' σ') : Gm P cx fz ops Rt nb (D8 i (⟨dst, .assign x, ty, pos, af, g⟩ :: l)) lg σ m' lg' σ' :=
 Gm.s hds (.assign) k G rfl hok
theorem Gm.fieldP {x : Operand} {s f k j off ft sz : Nat} {ag : Bool} {q : Option LB} [F : J6 P s f off ft] [T : O2 P ft ag sz] (hds : Ei σ false [x] = some [(.ptr k j, q)]) (hz0 : Nat.blt 0 sz = true) (G : Ji ops σ ⟨dst, .fieldAddr s x f, ty, pos, af, g⟩ = some true)
  (hok : (Kb Rt i false (nb + 8 * i) [] [] lg && (Nat.beq (zM fz (nb + 8 * i)) 0 && Og cx.np (.fieldAddr s x f) [])) = true) (k : Gm P cx fz ops Rt nb (D8 (i + 1) l) ((i, false, nb + 8 * i, [], []) :: lg) (σ.app dst (v0 (.ptr k (j + off)))) m' lg' σ') : Gm P cx fz ops Rt nb (D8 i (⟨dst, .fieldAddr s x f, ty, pos, af, g⟩ :: l)) lg σ m' lg' σ' :=
 Gm.s hds (.fieldP F.h T.h (Nat.le_of_ble_eq_true hz0)) k G rfl hok
theorem Gm.load1 {x : Operand} {t k j bt sz : Nat} {ds : List DV} {d : DV} [T : O2 P t false sz] (hds : Ei σ true [x] = some [(.ptr k j, some (.box ds bt))]) (hd : ds[j]? = some d) (G : Ji ops σ ⟨dst, .load t x, ty, pos, af, g⟩ = some true)
  (hok : (Kb Rt i false (nb + 8 * i) [k] [] lg && (Nat.beq (zM fz (nb + 8 * i)) 0 && Og cx.np (.load t x) [])) = true) (k : Gm P cx fz ops Rt nb (D8 (i + 1) l) ((i, false, nb + 8 * i, [k], []) :: lg) (σ.app dst (v0 d)) m' lg' σ') : Gm P cx fz ops Rt nb (D8 i (⟨dst, .load t x, ty, pos, af, g⟩ :: l)) lg σ m' lg' σ' :=
 Gm.s hds (.loadB1 T.h hd) k G rfl hok
theorem Gm.loadA {x : Operand} {t k j bt sz : Nat} {ds : List DV} [T : O2 P t true sz] (hds : Ei σ true [x] = some [(.ptr k j, some (.box ds bt))]) (hd : Nat.ble (j + sz) ds.length = true) (G : Ji ops σ ⟨dst, .load t x, ty, pos, af, g⟩ = some true)
  (hok : (Kb Rt i false (nb + 8 * i) [k] [] lg && (Nat.beq (zM fz (nb + 8 * i)) 0 && Og cx.np (.load t x) [])) = true) (k : Gm P cx fz ops Rt nb (D8 (i + 1) l) ((i, false, nb + 8 * i, [k], []) :: lg) (σ.app dst (v0 (.agg ((ds.drop j).take sz)))) m' lg' σ') : Gm P cx fz ops Rt nb (D8 i (⟨dst, .load t x, ty, pos, af, g⟩ :: l)) lg σ m' lg' σ' :=
 Gm.s hds (.loadBA T.h (Nat.le_of_ble_eq_true hd)) k G rfl hok
theorem Gm.pickF {x y z : Operand} {c : Bool} {d1 d2 : DV} {q1 q2 q3 : Option LB} (hds : Ei σ false [x, y, z] = some [(.val (.bool c), q1), (d1, q2), (d2, q3)]) (hc : c = false) (G : Ji ops σ ⟨dst, .pick x y z, ty, pos, af, g⟩ = some true)
  (hok : (Kb Rt i false (nb + 8 * i) [] [] lg && (Nat.beq (zM fz (nb + 8 * i)) 0 && Og cx.np (.pick x y z) [])) = true) (k : Gm P cx fz ops Rt nb (D8 (i + 1) l) ((i, false, nb + 8 * i, [], []) :: lg) (σ.app dst (v0 d2)) m' lg' σ') : Gm P cx fz ops Rt nb (D8 i (⟨dst, .pick x y z, ty, pos, af, g⟩ :: l)) lg σ m' lg' σ' :=
 Gm.s hds (sB hc) k G rfl hok
theorem Gm.pickT {x y z : Operand} {c : Bool} {d1 d2 : DV} {q1 q2 q3 : Option LB} (hds : Ei σ false [x, y, z] = some [(.val (.bool c), q1), (d1, q2), (d2, q3)]) (hc : c = true) (G : Ji ops σ ⟨dst, .pick x y z, ty, pos, af, g⟩ = some true)
  (hok : (Kb Rt i false (nb + 8 * i) [] [] lg && (Nat.beq (zM fz (nb + 8 * i)) 0 && Og cx.np (.pick x y z) [])) = true) (k : Gm P cx fz ops Rt nb (D8 (i + 1) l) ((i, false, nb + 8 * i, [], []) :: lg) (σ.app dst (v0 d1)) m' lg' σ') : Gm P cx fz ops Rt nb (D8 i (⟨dst, .pick x y z, ty, pos, af, g⟩ :: l)) lg σ m' lg' σ' :=
 Gm.s hds (tJ hc) k G rfl hok
theorem Gm.storeB {x y : Operand} {t k j bt sz : Nat} {ag : Bool} {ds ds' : List DV} {d : DV} {q : Option LB} {rd : List Nat} [T : O2 P t ag sz] (hds : Ei σ true [x, y] = some [(.ptr k j, some (.box ds bt)), (d, q)]) (hs : (Ct d).length = sz) (hi : Nat.ble (j + sz) ds.length = true) (ho : (Ct d).all Xc = true) (hn : Df ds j (Ct d) = ds') (hr : Ka false [(DV.ptr k j, some (LB.box ds bt)), (d, q)] = rd) (G : Ji ops σ ⟨dst, .store t x y, ty, pos, af, g⟩ = some true)
  (hok : (Kb Rt i false (nb + 8 * i) rd [k] lg && (Nat.beq (zM fz (nb + 8 * i)) 0 && Og cx.np (.store t x y) [k])) = true) (k : Gm P cx fz ops Rt nb (D8 (i + 1) l) ((i, false, nb + 8 * i, rd, [k]) :: lg) (σ.app dst (kY k (.box ds' bt))) m' lg' σ') : Gm P cx fz ops Rt nb (D8 i (⟨dst, .store t x y, ty, pos, af, g⟩ :: l)) lg σ m' lg' σ' :=
 Gm.s hds (pI T.h hs (Nat.le_of_ble_eq_true hi) ho hn) k G hr hok
theorem Gm.extract {x : Operand} {n : Nat} {ds : List DV} {d : DV} {q : Option LB} (hds : Ei σ false [x] = some [(.tup ds, q)]) (hd : ds[n]? = some d) (G : Ji ops σ ⟨dst, .extract x n, ty, pos, af, g⟩ = some true)
  (hok : (Kb Rt i false (nb + 8 * i) [] [] lg && (Nat.beq (zM fz (nb + 8 * i)) 0 && Og cx.np (.extract x n) [])) = true) (k : Gm P cx fz ops Rt nb (D8 (i + 1) l) ((i, false, nb + 8 * i, [], []) :: lg) (σ.app dst (v0 d)) m' lg' σ') : Gm P cx fz ops Rt nb (D8 i (⟨dst, .extract x n, ty, pos, af, g⟩ :: l)) lg σ m' lg' σ' :=
 Gm.s hds (.extract hd) k G rfl hok
theorem Gm.lss {x y : Operand} {t yt : TypeId} {kk : IntKind} {a b : Int} {q1 q2 : Option LB} (hds : Ei σ false [x, y] = some [(.val (.int kk a), q1), (.val (.int kk b), q2)])  (G : Ji ops σ ⟨dst, .binOp .lss t x y yt, ty, pos, af, g⟩ = some true)
  (hok : (Kb Rt i false (nb + 8 * i) [] [] lg && (Nat.beq (zM fz (nb + 8 * i)) 0 && Og cx.np (.binOp .lss t x y yt) [])) = true) (k : Gm P cx fz ops Rt nb (D8 (i + 1) l) ((i, false, nb + 8 * i, [], []) :: lg) (σ.app dst (v0 (.val (.bool (decide (a < b)))))) m' lg' σ') : Gm P cx fz ops Rt nb (D8 i (⟨dst, .binOp .lss t x y yt, ty, pos, af, g⟩ :: l)) lg σ m' lg' σ' :=
 Gm.s hds (aC1) k G rfl hok
theorem Gm.eql {x y : Operand} {t yt : TypeId} {kk : IntKind} {a b : Int} {q1 q2 : Option LB} (hds : Ei σ false [x, y] = some [(.val (.int kk a), q1), (.val (.int kk b), q2)])  (G : Ji ops σ ⟨dst, .binOp .eql t x y yt, ty, pos, af, g⟩ = some true)
  (hok : (Kb Rt i false (nb + 8 * i) [] [] lg && (Nat.beq (zM fz (nb + 8 * i)) 0 && Og cx.np (.binOp .eql t x y yt) [])) = true) (k : Gm P cx fz ops Rt nb (D8 (i + 1) l) ((i, false, nb + 8 * i, [], []) :: lg) (σ.app dst (v0 (.val (.bool (decide (a = b)))))) m' lg' σ') : Gm P cx fz ops Rt nb (D8 i (⟨dst, .binOp .eql t x y yt, ty, pos, af, g⟩ :: l)) lg σ m' lg' σ' :=
 Gm.s hds (aC4) k G rfl hok
theorem Gm.gtr {x y : Operand} {t yt : TypeId} {kk : IntKind} {a b : Int} {q1 q2 : Option LB} (hds : Ei σ false [x, y] = some [(.val (.int kk a), q1), (.val (.int kk b), q2)])  (G : Ji ops σ ⟨dst, .binOp .gtr t x y yt, ty, pos, af, g⟩ = some true)
  (hok : (Kb Rt i false (nb + 8 * i) [] [] lg && (Nat.beq (zM fz (nb + 8 * i)) 0 && Og cx.np (.binOp .gtr t x y yt) [])) = true) (k : Gm P cx fz ops Rt nb (D8 (i + 1) l) ((i, false, nb + 8 * i, [], []) :: lg) (σ.app dst (v0 (.val (.bool (decide (b < a)))))) m' lg' σ') : Gm P cx fz ops Rt nb (D8 i (⟨dst, .binOp .gtr t x y yt, ty, pos, af, g⟩ :: l)) lg σ m' lg' σ' :=
 Gm.s hds (aCn) k G rfl hok
theorem Gm.leq {x y : Operand} {t yt : TypeId} {kk : IntKind} {a b : Int} {q1 q2 : Option LB} (hds : Ei σ false [x, y] = some [(.val (.int kk a), q1), (.val (.int kk b), q2)])  (G : Ji ops σ ⟨dst, .binOp .leq t x y yt, ty, pos, af, g⟩ = some true)
  (hok : (Kb Rt i false (nb + 8 * i) [] [] lg && (Nat.beq (zM fz (nb + 8 * i)) 0 && Og cx.np (.binOp .leq t x y yt) [])) = true) (k : Gm P cx fz ops Rt nb (D8 (i + 1) l) ((i, false, nb + 8 * i, [], []) :: lg) (σ.app dst (v0 (.val (.bool (decide (a <= b)))))) m' lg' σ') : Gm P cx fz ops Rt nb (D8 i (⟨dst, .binOp .leq t x y yt, ty, pos, af, g⟩ :: l)) lg σ m' lg' σ' :=
 Gm.s hds (aCw) k G rfl hok
theorem Gm.geq {x y : Operand} {t yt : TypeId} {kk : IntKind} {a b : Int} {q1 q2 : Option LB} (hds : Ei σ false [x, y] = some [(.val (.int kk a), q1), (.val (.int kk b), q2)])  (G : Ji ops σ ⟨dst, .binOp .geq t x y yt, ty, pos, af, g⟩ = some true)
  (hok : (Kb Rt i false (nb + 8 * i) [] [] lg && (Nat.beq (zM fz (nb + 8 * i)) 0 && Og cx.np (.binOp .geq t x y yt) [])) = true) (k : Gm P cx fz ops Rt nb (D8 (i + 1) l) ((i, false, nb + 8 * i, [], []) :: lg) (σ.app dst (v0 (.val (.bool (decide (b <= a)))))) m' lg' σ') : Gm P cx fz ops Rt nb (D8 i (⟨dst, .binOp .geq t x y yt, ty, pos, af, g⟩ :: l)) lg σ m' lg' σ' :=
 Gm.s hds (aCk) k G rfl hok
theorem Gm.neq {x y : Operand} {t yt : TypeId} {kk : IntKind} {a b : Int} {q1 q2 : Option LB} (hds : Ei σ false [x, y] = some [(.val (.int kk a), q1), (.val (.int kk b), q2)])  (G : Ji ops σ ⟨dst, .binOp .neq t x y yt, ty, pos, af, g⟩ = some true)
  (hok : (Kb Rt i false (nb + 8 * i) [] [] lg && (Nat.beq (zM fz (nb + 8 * i)) 0 && Og cx.np (.binOp .neq t x y yt) [])) = true) (k : Gm P cx fz ops Rt nb (D8 (i + 1) l) ((i, false, nb + 8 * i, [], []) :: lg) (σ.app dst (v0 (.val (.bool (!decide (a = b)))))) m' lg' σ') : Gm P cx fz ops Rt nb (D8 i (⟨dst, .binOp .neq t x y yt, ty, pos, af, g⟩ :: l)) lg σ m' lg' σ' :=
 Gm.s hds (aDe) k G rfl hok
theorem Gm.seql {x y : Operand} {t yt : TypeId} {a b : ByteArray} {q1 q2 : Option LB} (hds : Ei σ false [x, y] = some [(.val (.string a), q1), (.val (.string b), q2)])  (G : Ji ops σ ⟨dst, .binOp .eql t x y yt, ty, pos, af, g⟩ = some true)
  (hok : (Kb Rt i false (nb + 8 * i) [] [] lg && (Nat.beq (zM fz (nb + 8 * i)) 0 && Og cx.np (.binOp .eql t x y yt) [])) = true) (k : Gm P cx fz ops Rt nb (D8 (i + 1) l) ((i, false, nb + 8 * i, [], []) :: lg) (σ.app dst (v0 (.val (.bool (decide (a = b)))))) m' lg' σ') : Gm P cx fz ops Rt nb (D8 i (⟨dst, .binOp .eql t x y yt, ty, pos, af, g⟩ :: l)) lg σ m' lg' σ' :=
 Gm.s hds (aAo) k G rfl hok
theorem Gm.sneq {x y : Operand} {t yt : TypeId} {a b : ByteArray} {q1 q2 : Option LB} (hds : Ei σ false [x, y] = some [(.val (.string a), q1), (.val (.string b), q2)])  (G : Ji ops σ ⟨dst, .binOp .neq t x y yt, ty, pos, af, g⟩ = some true)
  (hok : (Kb Rt i false (nb + 8 * i) [] [] lg && (Nat.beq (zM fz (nb + 8 * i)) 0 && Og cx.np (.binOp .neq t x y yt) [])) = true) (k : Gm P cx fz ops Rt nb (D8 (i + 1) l) ((i, false, nb + 8 * i, [], []) :: lg) (σ.app dst (v0 (.val (.bool (!decide (a = b)))))) m' lg' σ') : Gm P cx fz ops Rt nb (D8 i (⟨dst, .binOp .neq t x y yt, ty, pos, af, g⟩ :: l)) lg σ m' lg' σ' :=
 Gm.s hds (zR) k G rfl hok
theorem Gm.add {x y : Operand} {t yt : TypeId} {a b : Int} {q1 q2 : Option LB} (hds : Ei σ false [x, y] = some [(.val (.int .i64 a), q1), (.val (.int .i64 b), q2)])  (G : Ji ops σ ⟨dst, .binOp .add t x y yt, ty, pos, af, g⟩ = some true)
  (hok : (Kb Rt i false (nb + 8 * i) [] [] lg && (Nat.beq (zM fz (nb + 8 * i)) 0 && Og cx.np (.binOp .add t x y yt) [])) = true) (k : Gm P cx fz ops Rt nb (D8 (i + 1) l) ((i, false, nb + 8 * i, [], []) :: lg) (σ.app dst (v0 (.val (.int .i64 (W (a + b)))))) m' lg' σ') : Gm P cx fz ops Rt nb (D8 i (⟨dst, .binOp .add t x y yt, ty, pos, af, g⟩ :: l)) lg σ m' lg' σ' :=
 Gm.s hds (vW) k G rfl hok
theorem Gm.sub {x y : Operand} {t yt : TypeId} {a b : Int} {q1 q2 : Option LB} (hds : Ei σ false [x, y] = some [(.val (.int .i64 a), q1), (.val (.int .i64 b), q2)])  (G : Ji ops σ ⟨dst, .binOp .sub t x y yt, ty, pos, af, g⟩ = some true)
  (hok : (Kb Rt i false (nb + 8 * i) [] [] lg && (Nat.beq (zM fz (nb + 8 * i)) 0 && Og cx.np (.binOp .sub t x y yt) [])) = true) (k : Gm P cx fz ops Rt nb (D8 (i + 1) l) ((i, false, nb + 8 * i, [], []) :: lg) (σ.app dst (v0 (.val (.int .i64 (W (a - b)))))) m' lg' σ') : Gm P cx fz ops Rt nb (D8 i (⟨dst, .binOp .sub t x y yt, ty, pos, af, g⟩ :: l)) lg σ m' lg' σ' :=
 Gm.s hds (aCi) k G rfl hok
theorem Gm.mul {x y : Operand} {t yt : TypeId} {a b : Int} {q1 q2 : Option LB} (hds : Ei σ false [x, y] = some [(.val (.int .i64 a), q1), (.val (.int .i64 b), q2)])  (G : Ji ops σ ⟨dst, .binOp .mul t x y yt, ty, pos, af, g⟩ = some true)
  (hok : (Kb Rt i false (nb + 8 * i) [] [] lg && (Nat.beq (zM fz (nb + 8 * i)) 0 && Og cx.np (.binOp .mul t x y yt) [])) = true) (k : Gm P cx fz ops Rt nb (D8 (i + 1) l) ((i, false, nb + 8 * i, [], []) :: lg) (σ.app dst (v0 (.val (.int .i64 (W (a * b)))))) m' lg' σ') : Gm P cx fz ops Rt nb (D8 i (⟨dst, .binOp .mul t x y yt, ty, pos, af, g⟩ :: l)) lg σ m' lg' σ' :=
 Gm.s hds (aCa) k G rfl hok
theorem Gm.alloc {t : TypeId} {z : List Value} [Z : W8 P t z] (hds : Ei σ false [] = some [])  (G : Ji ops σ ⟨dst, .alloc t, ty, pos, af, g⟩ = some true)
  (hok : (Kb Rt i false (nb + 8 * i) [] [] lg && (Nat.beq (zM fz (nb + 8 * i)) 0 && Og cx.np (.alloc t) [])) = true) (k : Gm P cx fz ops Rt nb (D8 (i + 1) l) ((i, false, nb + 8 * i, [], []) :: lg) (σ.app dst (Nr (nb + 8 * i) (.box (z.map .val) t) (.ptr (nb + 8 * i) 0))) m' lg' σ') : Gm P cx fz ops Rt nb (D8 i (⟨dst, .alloc t, ty, pos, af, g⟩ :: l)) lg σ m' lg' σ' :=
 Gm.s hds (.alloc Z.h) k G rfl hok
theorem Gm.box {x : Operand} {t : TypeId} {d : DV} {q : Option LB} (hds : Ei σ false [x] = some [(d, q)]) (ho : (Ct d).all Xc = true) (G : Ji ops σ ⟨dst, .box t x, ty, pos, af, g⟩ = some true)
  (hok : (Kb Rt i false (nb + 8 * i) [] [] lg && (Nat.beq (zM fz (nb + 8 * i)) 0 && Og cx.np (.box t x) [])) = true) (k : Gm P cx fz ops Rt nb (D8 (i + 1) l) ((i, false, nb + 8 * i, [], []) :: lg) (σ.app dst (Nr (nb + 8 * i) (.box (Ct d) t) (.ptr (nb + 8 * i) 0))) m' lg' σ') : Gm P cx fz ops Rt nb (D8 i (⟨dst, .box t x, ty, pos, af, g⟩ :: l)) lg σ m' lg' σ' :=
 Gm.s hds (.box ho) k G rfl hok
theorem Gm.not {x : Operand} {t : TypeId} {b : Bool} {q : Option LB} (hds : Ei σ false [x] = some [(.val (.bool b), q)])  (G : Ji ops σ ⟨dst, .unOp .not t x, ty, pos, af, g⟩ = some true)
  (hok : (Kb Rt i false (nb + 8 * i) [] [] lg && (Nat.beq (zM fz (nb + 8 * i)) 0 && Og cx.np (.unOp .not t x) [])) = true) (k : Gm P cx fz ops Rt nb (D8 (i + 1) l) ((i, false, nb + 8 * i, [], []) :: lg) (σ.app dst (v0 (.val (.bool (!b))))) m' lg' σ') : Gm P cx fz ops Rt nb (D8 i (⟨dst, .unOp .not t x, ty, pos, af, g⟩ :: l)) lg σ m' lg' σ' :=
 Gm.s hds (aCl) k G rfl hok
theorem Gm.lenS {α : Type} {f : α -> List C} {L : List α} {x : Operand} {t e sz by_ : Nat} {q : Option LB} [S : fM P t e sz by_] (hds : Ei σ true [x] = some [(.sl sz (Aq f L), q)]) (E : Uq f sz) (G : Ji ops σ ⟨dst, .call ⟨.builtin .len, #[x], #[t]⟩, ty, pos, af, g⟩ = some true)
  (hok : (Kb Rt i false (nb + 8 * i) [] [] lg && (Nat.beq (zM fz (nb + 8 * i)) 0 && Og cx.np (.call ⟨.builtin .len, #[x], #[t]⟩) [])) = true) (k : Gm P cx fz ops Rt nb (D8 (i + 1) l) ((i, false, nb + 8 * i, [], []) :: lg) (σ.app dst (v0 (.val (.int .i64 (L.length : Int))))) m' lg' σ') : Gm P cx fz ops Rt nb (D8 i (⟨dst, .call ⟨.builtin .len, #[x], #[t]⟩, ty, pos, af, g⟩ :: l)) lg σ m' lg' σ' :=
 Gm.s hds (xQ S.h E.h) k G rfl hok
theorem Gm.lenR {α : Type} {f : α -> List C} {L : List α} {x : Operand} {t e e' sz by_ k : Nat} [S : fM P t e sz by_] (hds : Ei σ true [x] = some [(.row k, some (.row e' sz (Aq f L)))]) (E : Uq f sz) (G : Ji ops σ ⟨dst, .call ⟨.builtin .len, #[x], #[t]⟩, ty, pos, af, g⟩ = some true)
  (hok : (Kb Rt i false (nb + 8 * i) [k] [] lg && (Nat.beq (zM fz (nb + 8 * i)) 0 && Og cx.np (.call ⟨.builtin .len, #[x], #[t]⟩) [])) = true) (k : Gm P cx fz ops Rt nb (D8 (i + 1) l) ((i, false, nb + 8 * i, [k], []) :: lg) (σ.app dst (v0 (.val (.int .i64 (L.length : Int))))) m' lg' σ') : Gm P cx fz ops Rt nb (D8 i (⟨dst, .call ⟨.builtin .len, #[x], #[t]⟩, ty, pos, af, g⟩ :: l)) lg σ m' lg' σ' :=
 Gm.s hds (zX S.h E.h) k G rfl hok
theorem Gm.idxS {α : Type} {f : α -> List C} {L : List α} {a : α} {x y : Operand} {t e sz by_ : Nat} {kk : IntKind} {n : Int} {q1 q2 : Option LB} [S : fM P t e sz by_] (hds : Ei σ true [x, y] = some [(.sl sz (Aq f L), q1), (.val (.int kk n), q2)]) (E : Uq f sz) (hx : B1 L n = some a) (G : Ji ops σ ⟨dst, .indexAddr t x y, ty, pos, af, g⟩ = some true)
  (hok : (Kb Rt i false (nb + 8 * i) [] [] lg && (Nat.beq (zM fz (nb + 8 * i)) 0 && Og cx.np (.indexAddr t x y) [])) = true) (k : Gm P cx fz ops Rt nb (D8 (i + 1) l) ((i, false, nb + 8 * i, [], []) :: lg) (σ.app dst (v0 (.elt ((Aq f L).drop (n.toNat * sz))))) m' lg' σ') : Gm P cx fz ops Rt nb (D8 i (⟨dst, .indexAddr t x y, ty, pos, af, g⟩ :: l)) lg σ m' lg' σ' :=
 Gm.s hds (aA5 S.h E.h (Sg hx) (Cw hx)) k G rfl hok
theorem Gm.idxR {α : Type} {f : α -> List C} {L : List α} {a : α} {x y : Operand} {t e e' sz by_ k : Nat} {kk : IntKind} {n : Int} {q2 : Option LB} [S : fM P t e sz by_] (hds : Ei σ true [x, y] = some [(.row k, some (.row e' sz (Aq f L))), (.val (.int kk n), q2)]) (E : Uq f sz) (hx : B1 L n = some a) (G : Ji ops σ ⟨dst, .indexAddr t x y, ty, pos, af, g⟩ = some true)
  (hok : (Kb Rt i false (nb + 8 * i) [k] [] lg && (Nat.beq (zM fz (nb + 8 * i)) 0 && Og cx.np (.indexAddr t x y) [])) = true) (k : Gm P cx fz ops Rt nb (D8 (i + 1) l) ((i, false, nb + 8 * i, [k], []) :: lg) (σ.app dst (v0 (.ptr k (n.toNat * sz)))) m' lg' σ') : Gm P cx fz ops Rt nb (D8 i (⟨dst, .indexAddr t x y, ty, pos, af, g⟩ :: l)) lg σ m' lg' σ' :=
 Gm.s hds (aA8 S.h E.h (Sg hx) (Cw hx)) k G rfl hok
theorem Gm.nilP {x : Operand} {k j : Nat} {q : Option LB} (hds : Ei σ false [x] = some [(.ptr k j, q)])  (G : Ji ops σ ⟨dst, .nilCheck x, ty, pos, af, g⟩ = some true)
  (hok : (Kb Rt i false (nb + 8 * i) [] [] lg && (Nat.beq (zM fz (nb + 8 * i)) 0 && Og cx.np (.nilCheck x) [])) = true) (k : Gm P cx fz ops Rt nb (D8 (i + 1) l) ((i, false, nb + 8 * i, [], []) :: lg) (σ.app dst (v0 (.ptr k j))) m' lg' σ') : Gm P cx fz ops Rt nb (D8 i (⟨dst, .nilCheck x, ty, pos, af, g⟩ :: l)) lg σ m' lg' σ' :=
 Gm.s hds (.nilP) k G rfl hok
theorem Gm.nilE {x : Operand} {cs : List C} {q : Option LB} (hds : Ei σ false [x] = some [(.elt cs, q)])  (G : Ji ops σ ⟨dst, .nilCheck x, ty, pos, af, g⟩ = some true)
  (hok : (Kb Rt i false (nb + 8 * i) [] [] lg && (Nat.beq (zM fz (nb + 8 * i)) 0 && Og cx.np (.nilCheck x) [])) = true) (k : Gm P cx fz ops Rt nb (D8 (i + 1) l) ((i, false, nb + 8 * i, [], []) :: lg) (σ.app dst (v0 (.elt cs))) m' lg' σ') : Gm P cx fz ops Rt nb (D8 i (⟨dst, .nilCheck x, ty, pos, af, g⟩ :: l)) lg σ m' lg' σ' :=
 Gm.s hds (.nilE) k G rfl hok
theorem Gm.field1 {x : Operand} {s f off ft sz : Nat} {ds : List DV} {d : DV} {q : Option LB} [F : J6 P s f off ft] [T : O2 P ft false sz] (hds : Ei σ false [x] = some [(.agg ds, q)]) (hd : ds[off]? = some d) (G : Ji ops σ ⟨dst, .field s x f, ty, pos, af, g⟩ = some true)
  (hok : (Kb Rt i false (nb + 8 * i) [] [] lg && (Nat.beq (zM fz (nb + 8 * i)) 0 && Og cx.np (.field s x f) [])) = true) (k : Gm P cx fz ops Rt nb (D8 (i + 1) l) ((i, false, nb + 8 * i, [], []) :: lg) (σ.app dst (v0 d)) m' lg' σ') : Gm P cx fz ops Rt nb (D8 i (⟨dst, .field s x f, ty, pos, af, g⟩ :: l)) lg σ m' lg' σ' :=
 Gm.s hds (.field1 F.h T.h hd) k G rfl hok
theorem Gm.fieldA {x : Operand} {s f off ft sz : Nat} {ds : List DV} {q : Option LB} [F : J6 P s f off ft] [T : O2 P ft true sz] (hds : Ei σ false [x] = some [(.agg ds, q)])  (G : Ji ops σ ⟨dst, .field s x f, ty, pos, af, g⟩ = some true)
  (hok : (Kb Rt i false (nb + 8 * i) [] [] lg && (Nat.beq (zM fz (nb + 8 * i)) 0 && Og cx.np (.field s x f) [])) = true) (k : Gm P cx fz ops Rt nb (D8 (i + 1) l) ((i, false, nb + 8 * i, [], []) :: lg) (σ.app dst (v0 (.agg ((ds.drop off).take sz)))) m' lg' σ') : Gm P cx fz ops Rt nb (D8 i (⟨dst, .field s x f, ty, pos, af, g⟩ :: l)) lg σ m' lg' σ' :=
 Gm.s hds (.fieldA F.h T.h) k G rfl hok
theorem Gm.makeF {f : Nat} {first caps : Array Operand} {ds : List (DV × Option LB)} (hds : Ei σ false (Op.makeFunc (.func f) first caps).operands.toList = some ds)  (G : Ji ops σ ⟨dst, .makeFunc (.func f) first caps, ty, pos, af, g⟩ = some true)
  (hok : (Kb Rt i false (nb + 8 * i) [] [] lg && (Nat.beq (zM fz (nb + 8 * i)) 0 && Og cx.np (.makeFunc (.func f) first caps) [])) = true) (k : Gm P cx fz ops Rt nb (D8 (i + 1) l) ((i, false, nb + 8 * i, [], []) :: lg) (σ.app dst (v0 (.clo f first.size (ds.map (·.1))))) m' lg' σ') : Gm P cx fz ops Rt nb (D8 i (⟨dst, .makeFunc (.func f) first caps, ty, pos, af, g⟩ :: l)) lg σ m' lg' σ' :=
 Gm.s hds (.makeFunc) k G rfl hok
theorem Pu {p : Prop} (h : p := by first | with_reducible exact aBt | exact E5 rfl rfl (by first | with_reducible assumption | with_reducible rfl | with_reducible exact jS (by with_reducible assumption) | with_reducible exact kP (by with_reducible assumption))) : p := h
theorem gm_ {p : Prop} (h : p := by
  repeat first
   | (apply Gm.move; exact rfl; exact Pu; exact rfl)
   | (apply Gm.assign; exact rfl; exact Pu; exact rfl)
   | (apply Gm.fieldP; exact rfl; (exact rfl); exact Pu; exact rfl)
   | (apply Gm.load1; exact rfl; (exact rfl); exact Pu; exact rfl)
   | (apply Gm.loadA; exact rfl; (exact rfl); exact Pu; exact rfl)
   | (apply Gm.pickF; exact rfl; (first | with_reducible assumption | with_reducible rfl | with_reducible exact jS (by with_reducible assumption)); exact Pu; exact rfl)
   | (apply Gm.pickT; exact rfl; (first | with_reducible assumption | with_reducible rfl | with_reducible exact kP (by with_reducible assumption)); exact Pu; exact rfl)
   | (apply Gm.k; (first | exact yW rfl rfl (by first | with_reducible assumption | with_reducible rfl | with_reducible exact jS (by with_reducible assumption) | with_reducible exact kP (by with_reducible assumption)) | exact xW rfl rfl (by first | with_reducible assumption | with_reducible rfl | with_reducible exact jS (by with_reducible assumption) | with_reducible exact kP (by with_reducible assumption)) | exact aBv rfl rfl); exact rfl)
   | (apply Gm.storeB; exact rfl; (exact rfl); (exact rfl); (exact rfl); (focus repeat first | exact (rfl : _ = []) | (apply aBr; exact rfl)); (first | exact (rfl : _ = [_]) | exact (rfl : _ = [_, _]) | exact (rfl : _ = [_, _, _])); exact Pu; exact rfl)
   | (apply Gm.extract; exact rfl; (exact rfl); exact Pu; exact rfl)
   | (apply Gm.lss; exact rfl; exact Pu; exact rfl)
   | (apply Gm.eql; exact rfl; exact Pu; exact rfl)
   | (apply Gm.gtr; exact rfl; exact Pu; exact rfl)
   | (apply Gm.leq; exact rfl; exact Pu; exact rfl)
   | (apply Gm.geq; exact rfl; exact Pu; exact rfl)
   | (apply Gm.neq; exact rfl; exact Pu; exact rfl)
   | (apply Gm.seql; exact rfl; exact Pu; exact rfl)
   | (apply Gm.sneq; exact rfl; exact Pu; exact rfl)
   | (apply Gm.add; exact rfl; exact Pu; exact rfl)
   | (apply Gm.sub; exact rfl; exact Pu; exact rfl)
   | (apply Gm.mul; exact rfl; exact Pu; exact rfl)
   | (apply Gm.alloc; exact rfl; exact Pu; exact rfl)
   | (apply Gm.box; exact rfl; (exact rfl); exact Pu; exact rfl)
   | (apply Gm.not; exact rfl; exact Pu; exact rfl)
   | (apply Gm.lenS; exact rfl; (exact inferInstance); exact Pu; exact rfl)
   | (apply Gm.lenR; exact rfl; (exact inferInstance); exact Pu; exact rfl)
   | (apply Gm.idxS; exact rfl; (exact inferInstance); (with_reducible assumption); exact Pu; exact rfl)
   | (apply Gm.idxR; exact rfl; (exact inferInstance); (with_reducible assumption); exact Pu; exact rfl)
   | (apply Gm.nilP; exact rfl; exact Pu; exact rfl)
   | (apply Gm.nilE; exact rfl; exact Pu; exact rfl)
   | (apply Gm.field1; exact rfl; (exact rfl); exact Pu; exact rfl)
   | (apply Gm.fieldA; exact rfl; exact Pu; exact rfl)
   | (apply Gm.makeF; exact rfl; exact Pu; exact rfl)
  exact Gm.z) : p := h
theorem Aw {m : List (Nat × Oper)} (k : Chain (B8 P cx fz) ops Rt nb m' lg' σ' Q) (h : Gm P cx fz ops Rt nb m lg σ m' lg' σ' := by exact gm_) : Chain (B8 P cx fz) ops Rt nb m lg σ Q := h Q k
end
theorem D9 {R : Type} {b : Bool} {X Y : Option R} {r : R} (G : cond b X Y = some r) : (b = true /\ X = some r) \/ (b = false /\ Y = some r) := by
 cases b with
 | true => exact .inl ⟨rfl, G⟩
 | false => exact .inr ⟨rfl, G⟩
section
variable {P : Program} {cx : Cx} {σ : St} {Q : Exit -> St -> Prop} {x y : Code}
theorem C4 {R : Type} {t : Nat} {b : Bool} {X Y : Option R} {r : R} (hc : σ.F t = some (.val (.bool b))) (G : cond b X Y = some r) (h1 : b = true -> X = some r -> B2 P cx x Q σ) (h2 : b = false -> Y = some r -> B2 P cx y Q σ) : B2 P cx (.cond (.tmp t) x y) Q σ :=
 Ip hc (fun h => h1 h (yJ h G)) fun h => h2 h (aAw h G)
theorem A1 {fl : List (Nat × DV)} {ll : List (Nat × LB)} {n : Nat} (θ : List (Nat × Nat))
  (hF : tL σ (Fj θ) fl := by
   repeat' first
    | exact trivial
    | refine ⟨⟨_, rfl, ?_⟩, ?_⟩
    | exact Cv.val _
    | exact Cv.sl _ _
    | exact Cv.ptr rfl
    | exact Cv.row rfl
    | exact Cv.part rfl
    | exact Cv.nil rfl
    | exact Cv.nils _
    | exact Cv.elt _
    | exact Cv.mp _
    | refine Cv.clo _ _ ?_
    | refine Cv.agg ?_
    | refine Cv.tup ?_
    | refine Cv.clo _ _ ?_
    | exact Q8.nil
    | refine Q8.cons ?_ ?_
    | exact Cv.frzM rfl (Fq rfl)
    | exact Cv.frz rfl (Fq rfl))
  (hL : mO σ (Fj θ) ll := by
   repeat' first
    | exact trivial
    | refine ⟨.inl ⟨_, _, rfl, rfl, ⟨rfl, rfl, rfl⟩⟩, ?_⟩
    | refine ⟨.inl ⟨_, _, rfl, rfl, ⟨rfl, ?_⟩⟩, ?_⟩
    | refine ⟨.inr ⟨rfl, _, _, rfl⟩, ?_⟩
    | exact Cv.val _
    | exact Cv.sl _ _
    | exact Cv.ptr rfl
    | exact Cv.row rfl
    | exact Cv.part rfl
    | exact Cv.nil rfl
    | exact Cv.nils _
    | exact Cv.elt _
    | exact Cv.mp _
    | refine Cv.clo _ _ ?_
    | refine Cv.agg ?_
    | exact Q8.nil
    | refine Q8.cons ?_ ?_
    | exact Cv.frzM rfl (Fq rfl)
    | exact Cv.frz rfl (Fq rfl))
  (hc : kT fl ll n θ = true := by rfl) (hp : hX θ n cx.np = true := by rfl) : P3 cx σ (mk fl ll n) := P3.lists θ hc hp hF hL
theorem Jy {S R : Type} {body : S -> Option (Lp S R)} {s0 : S} {r : R} (st : S -> St) (G : Cf body s0 = some r) (h0 : P3 cx σ (st s0)) (round : ∀ (s : S) (m : Nat) (o : Lp S R), body s = some o -> Ya (N6 body m) o = some r -> B2 P cx x (oE (fun σ' => ∃ j : S × Nat, j.2 < m + 1 /\ N6 body j.2 j.1 = some r /\ P3 cx σ' (st j.1)) Q) (st s)) : B2 P cx (.loop x) Q σ := by
 obtain ⟨n, G⟩ := Sq G
 refine mW (ι := S × Nat) (fun q => st q.1) (fun q => N6 body q.2 q.1 = some r) (fun q => q.2) (s0, n) h0 G ?_
 rintro ⟨s, k⟩ hk
 obtain ⟨m, o, rfl, h1, h2⟩ := mL (show N6 body k s = some r from hk)
 exact round s m o h1 h2
theorem Gr {fn : Func} {np : Nat} {R : DV -> List LB -> Prop} {ds : List DV} {r : DV} {bx : List LB} (θ : List (Nat × Nat)) (hR : R r bx)
  (h1 : Q2 P σ fn.results.toList ds := by
   repeat first
    | exact Q2.nil
    | (apply Q2.cons; exact .tmp rfl)
    | (apply Q2.cons; exact .cell1 rfl rfl O2.h rfl)
    | (apply Q2.cons; exact .cellA rfl rfl O2.h rfl))
  (h2 : Cv σ (Fj θ) (pT ds) r := by
   repeat' first
    | exact Cv.val _
    | exact Cv.sl _ _
    | exact Cv.ptr rfl
    | exact Cv.row rfl
    | exact Cv.nil rfl
    | exact Cv.nils _
    | exact Cv.elt _
    | exact Cv.mp _
    | refine Cv.clo _ _ ?_
    | refine Cv.agg ?_
    | refine Cv.tup ?_
    | exact Q8.nil
    | refine Q8.cons ?_ ?_
    | exact Cv.frzM rfl (Fq rfl)
    | exact Cv.frz rfl (Fq rfl))
  (h3 : mO σ (Fj θ) (ix 0 bx) := by
   repeat' first
    | exact trivial
    | refine ⟨.inl ⟨_, _, rfl, rfl, ⟨rfl, rfl, rfl⟩⟩, ?_⟩
    | refine ⟨.inl ⟨_, _, rfl, rfl, ⟨rfl, ?_⟩⟩, ?_⟩
    | refine ⟨.inr ⟨rfl, _, _, rfl⟩, ?_⟩
    | exact Cv.val _
    | exact Cv.sl _ _
    | exact Cv.ptr rfl
    | exact Cv.row rfl
    | exact Cv.nil rfl
    | exact Cv.nils _
    | exact Cv.elt _
    | exact Cv.mp _
    | refine Cv.clo _ _ ?_
    | refine Cv.agg ?_
    | exact Q8.nil
    | refine Q8.cons ?_ ?_
    | exact Cv.frzM rfl (Fq rfl)
    | exact Cv.frz rfl (Fq rfl))
  (h4 : kT [(0, r)] (ix 0 bx) bx.length θ = true := by rfl) (h5 : hX θ bx.length np = true := by rfl) (h6 : Nat.ble np bx.length = true := by rfl) (h7 : Nat.ble bx.length (np + 8) = true := by rfl) : Uo P fn np R σ :=
 ⟨ds, r, bx, θ, h1, hR, h2, h3, h4, h5, h6, h7⟩
end
section
variable {P : Program} {cx : Cx} {ops : Array Oper} {Rt : Option (List Nat)} {nb i : Nat} {l : List Oper} {lg : gB} {σ : St} {Q : St -> Prop} {fz : List Nat}
theorem Do {dst : Option Tmp} {f : FuncId} {xs : Array Operand} {tys : Array TypeId} {ty : TypeId} {pos : String} {af : Array Edge} {g : Option (Nat × Bool)} {dsA : List (DV × Option LB)} {args : List DV} {d : DV}
  (hF : Fn P f 0 args [] (fun d' b' => d' = d /\ b' = []))
  (k : Chain (B8 P cx fz) ops Rt nb (D8 (i + 1) l) ((i, true, nb + 8 * i, [], []) :: lg) (σ.app dst (gZ [] [] d [])) Q)
  (hds : Ei σ true xs.toList = some dsA := by rfl)
  (hA : K3 false ([] ++ []) (Ko σ []) (dsA.map (·.1)) args := by
   repeat' first
    | exact K3.nil
    | exact Ag.val
    | exact Ag.sl
    | exact Ag.nils
    | exact Ag.elt
    | exact Ag.fn
    | refine Ag.agg ?_
    | refine Ag.clo ?_
    | refine K3.cons ?_ ?_)
  (G : Ji ops σ ⟨dst, .call ⟨.value (.func f), xs, tys⟩, ty, pos, af, g⟩ = some true := by exact Pu)
  (hrd : Pq σ 3 (Q7 dsA) = [] := by rfl) (hok : Kb Rt i true (nb + 8 * i) [] [] lg = true := by rfl) (hr : Iz d = [] := by rfl) :
  Chain (B8 P cx fz) ops Rt nb (D8 i (⟨dst, .call ⟨.value (.func f), xs, tys⟩, ty, pos, af, g⟩ :: l)) lg σ Q :=
 fB (ps := []) (gs := []) (rd := []) (bx := []) (b := []) false G hF hds hrd hA rfl rfl (fun h => by cases h) hok hr rfl rfl k
theorem Ig {dst : Option Tmp} {f : FuncId} {xs : Array Operand} {tys : Array TypeId} {ty : TypeId} {pos : String} {af : Array Edge} {g : Option (Nat × Bool)} {dsA : List (DV × Option LB)} {args : List DV} {bx : List LB} {d : DV} {b : List LB} (rd ps gs : List Nat) (fl : Bool)
  (hF : Fn P f ps.length args bx (fun d' b' => d' = d /\ b' = b))
  (k : Chain (B8 P cx fz) ops Rt nb (D8 (i + 1) l) ((i, true, nb + 8 * i, rd, ps ++ gs) :: lg) (σ.app dst (gZ ps gs d b)) Q)
  (hds : Ei σ true xs.toList = some dsA := by rfl)
  (hA : K3 fl (ps ++ gs) (Ko σ rd) (dsA.map (·.1)) args := by
   repeat' first
    | exact K3.nil
    | exact Ag.val
    | exact Ag.sl
    | exact Ag.nils
    | exact Ag.elt
    | exact Ag.fn
    | exact Ag.ptr rfl
    | exact Ag.rowK rfl
    | exact Ag.row rfl (by repeat first | exact List.Mem.head _ | refine List.Mem.tail _ ?_) rfl
    | refine Ag.agg ?_
    | refine Ag.clo ?_
    | refine K3.cons ?_ ?_)
  (hB : Y1 fl (ps ++ gs) (Ko σ rd) (ps ++ gs) bx := by
   repeat' first
    | exact (rfl : _ = [])
    | refine ⟨_, _, _, rfl, (.head _), ⟨_, rfl, ?_⟩, ?_⟩
    | refine ⟨_, _, _, rfl, (.tail _ (.head _)), ⟨_, rfl, ?_⟩, ?_⟩
    | refine ⟨_, _, _, rfl, (.tail _ (.tail _ (.head _))), ⟨_, rfl, ?_⟩, ?_⟩
    | refine ⟨_, _, _, rfl, (.tail _ (.tail _ (.tail _ (.head _)))), ⟨_, rfl, ?_⟩, ?_⟩
    | refine ⟨_, _, _, rfl, (.tail _ (.tail _ (.tail _ (.tail _ (.head _))))), ⟨_, rfl, ?_⟩, ?_⟩
    | refine ⟨_, _, _, rfl, (.tail _ (.tail _ (.tail _ (.tail _ (.tail _ (.head _)))))), ⟨_, rfl, ?_⟩, ?_⟩
    | refine ⟨_, _, _, rfl, (.tail _ (.tail _ (.tail _ (.tail _ (.tail _ (.tail _ (.head _))))))), ⟨_, rfl, ?_⟩, ?_⟩
    | refine ⟨_, _, _, rfl, (.head _), rfl, ?_⟩
    | refine ⟨_, _, _, rfl, (.tail _ (.head _)), rfl, ?_⟩
    | refine ⟨_, _, _, rfl, (.tail _ (.tail _ (.head _))), rfl, ?_⟩
    | refine ⟨_, _, _, rfl, (.tail _ (.tail _ (.tail _ (.head _)))), rfl, ?_⟩
    | refine ⟨_, _, _, rfl, (.tail _ (.tail _ (.tail _ (.tail _ (.head _))))), rfl, ?_⟩
    | refine ⟨_, _, _, rfl, (.tail _ (.tail _ (.tail _ (.tail _ (.tail _ (.head _)))))), rfl, ?_⟩
    | refine ⟨_, _, _, rfl, (.tail _ (.tail _ (.tail _ (.tail _ (.tail _ (.tail _ (.head _))))))), rfl, ?_⟩
    | exact K3.nil
    | exact Ag.val
    | exact Ag.sl
    | exact Ag.nils
    | exact Ag.elt
    | exact Ag.ptr rfl
    | refine K3.cons ?_ ?_)
  (G : Ji ops σ ⟨dst, .call ⟨.value (.func f), xs, tys⟩, ty, pos, af, g⟩ = some true := by exact Pu)
  (hrd : Pq σ 3 (Q7 dsA) = rd := by rfl) (hnd : Qx cx.np ps gs = true := by rfl) (hfl : fl = true -> J0 d /\ ∀ lb ∈ b, Q1 lb := by first | (intro h; cases h; done) | exact fun _ => ⟨by simp [J0, Oy], by simp [Q1, Oy, J0]⟩)
  (hok : Kb Rt i true (nb + 8 * i) rd (ps ++ gs) lg = true := by rfl) (hr : Iz d = [] := by rfl) (hl : b.length = ps.length := by rfl) (hb : b.flatMap Ym = [] := by rfl) :
  Chain (B8 P cx fz) ops Rt nb (D8 i (⟨dst, .call ⟨.value (.func f), xs, tys⟩, ty, pos, af, g⟩ :: l)) lg σ Q :=
 fB fl G hF hds hrd hA hB hnd hfl hok hr hl hb k
end
theorem Zh {p : Prop} (h : p := by obtain rfl := oi_ G; exact Gr [] ⟨rfl, rfl⟩) : p := h
theorem De {p : Prop} (h : p := by refine Aw ?_; refine Gk fun B => ?_; refine Fg ?_; obtain rfl := oi_ G; exact Gr [] ⟨rfl, rfl⟩) : p := h
theorem Bj {p q : Prop} (k : q) (h : q -> p := by intro k; refine Aw ?_; refine Gk ?_; exact k) : p := h k
theorem rp_ {p q : Prop} (k : q) (h : q -> p := by intro k; (repeat first | refine st_ ?_ | refine sn_ ?_); exact k) : p := h k
theorem nl_ {p : Prop} (h : p := by repeat first | exact (rfl : _ = []) | (apply aBr; exact rfl)) : p := h
theorem dc_ {p : Prop} (h : p := by repeat first | exact Jw.nil | (apply Jw.cons; first | exact Zj.int | exact Zj.bool | exact Zj.str | exact Zj.sl | exact Zj.nil)) : p := h
theorem La {p : Prop} (h : p := by refine Fg ?_; obtain rfl := oi_ G; exact Gr [] ⟨rfl, rfl⟩) : p := h
theorem Dg {p q : Prop} (k : q) (h : q -> p := by intro k; refine oW ?_; (repeat first | refine st_ ?_ | refine sn_ ?_); exact k) : p := h k
theorem Jl {p q : Prop} (k : q) (h : q -> p := by intro k; refine pO ?_; (repeat first | refine st_ ?_ | refine sn_ ?_); exact k) : p := h k
theorem dQ {α : Type} {l l' : List α} (h : l.length = l'.length) : Df l 0 l' = l' := by
 unfold Df
 rw [List.take_zero, List.nil_append, Nat.zero_add, <- h, List.drop_length, List.append_nil]
section
variable {P : Program} {cx : Cx} {ops : Array Oper} {Rt : Option (List Nat)} {nb i : Nat} {l : List Oper} {lg : gB} {σ : St} {Q : St -> Prop} {fz : List Nat} {α : Type} {f : α -> List C} {L : List α} {a : α} {n : Int} {m : Nat} {t : TypeId} {x y : Operand} {dst : Option Tmp} {ty : TypeId} {pos : String} {af : Array Edge} {g : Option (Nat × Bool)}
theorem dF (he : B1 L n = some a) {b1 : Option LB} {cs : List C} (k : Chain (B8 P cx fz) ops Rt nb (D8 (i + 1) l) ((i, false, nb + 8 * i, [], []) :: lg) (σ.app dst (v0 (.agg (cs.map Vz)))) Q) [T : O2 P t true m]
  (hds : Ei σ true [x] = some [(.elt ((Aq f L).drop (n.toNat * m)), b1)] := by exact rfl) (E : Uq f m := by exact inferInstance) (hc : f a = cs := by exact nl_) (G : Ji ops σ ⟨dst, .load t x, ty, pos, af, g⟩ = some true := by exact Pu)
  (hok : Kb Rt i false (nb + 8 * i) [] [] lg = true := by exact rfl) (hz : zM fz (nb + 8 * i) = 0 := by exact rfl) (hap : Og cx.np (.load t x) [] = true := by exact rfl) : Chain (B8 P cx fz) ops Rt nb (D8 i (⟨dst, .load t x, ty, pos, af, g⟩ :: l)) lg σ Q :=
 C0 G hds (Eb T.h (In E.h (Cw he) (o := 0) (m := m) (by rw [List.drop_zero, List.take_of_length_le (by rw [E.h]; exact Nat.le_refl _)]; exact hc) (by omega) rfl) (Fh E.h (Cw he) (o := 0) (m := m) (by omega) rfl)) rfl hok k hz hap
theorem Ra (he : B1 L n = some a) {b1 : Option LB} {c : C} {sz : Nat} (k : Chain (B8 P cx fz) ops Rt nb (D8 (i + 1) l) ((i, false, nb + 8 * i, [], []) :: lg) (σ.app dst (v0 (Vz c))) Q) [T : O2 P t false sz]
  (hds : Ei σ true [x] = some [(.elt ((Aq f L).drop (n.toNat * 1)), b1)] := by exact rfl) (E : Uq f 1 := by exact inferInstance) (hc : f a = [c] := by exact rfl) (G : Ji ops σ ⟨dst, .load t x, ty, pos, af, g⟩ = some true := by exact Pu)
  (hok : Kb Rt i false (nb + 8 * i) [] [] lg = true := by exact rfl) (hz : zM fz (nb + 8 * i) = 0 := by exact rfl) (hap : Og cx.np (.load t x) [] = true := by exact rfl) : Chain (B8 P cx fz) ops Rt nb (D8 i (⟨dst, .load t x, ty, pos, af, g⟩ :: l)) lg σ Q :=
 C0 G hds (Dy T.h (Gt E.h (Cw he) (o := 0) (by rw [hc]; rfl) rfl)) rfl hok k hz hap
theorem Ks (he : B1 L n = some a) {kr e' : Nat} {cs : List C} (k : Chain (B8 P cx fz) ops Rt nb (D8 (i + 1) l) ((i, false, nb + 8 * i, [kr], []) :: lg) (σ.app dst (v0 (.agg (cs.map Vz)))) Q) [T : O2 P t true m]
  (hds : Ei σ true [x] = some [(.ptr kr (n.toNat * m), some (.row e' m (Aq f L)))] := by exact rfl) (E : Uq f m := by exact inferInstance) (hc : f a = cs := by exact nl_) (G : Ji ops σ ⟨dst, .load t x, ty, pos, af, g⟩ = some true := by exact Pu)
  (hok : Kb Rt i false (nb + 8 * i) [kr] [] lg = true := by exact rfl) (hz : zM fz (nb + 8 * i) = 0 := by exact rfl) (hap : Og cx.np (.load t x) [] = true := by exact rfl) : Chain (B8 P cx fz) ops Rt nb (D8 i (⟨dst, .load t x, ty, pos, af, g⟩ :: l)) lg σ Q :=
 Gd (rd := [kr]) G hds (Ua T.h (In E.h (Cw he) (o := 0) (m := m) (by rw [List.drop_zero, List.take_of_length_le (by rw [E.h]; exact Nat.le_refl _)]; exact hc) (by omega) rfl) (Fh E.h (Cw he) (o := 0) (m := m) (by omega) rfl)) rfl hok k hz hap
theorem S5 {ck : List (Option Nat)} (hk : J4 P 20 t = ck) (he : B1 L n = some a) {x' : α} {d : DV} {b2 : Option LB} {kr e' : Nat} {cs' : List C} {ag : Bool} {rd : List Nat} (k : Chain (B8 P cx fz) ops Rt nb (D8 (i + 1) l) ((i, false, nb + 8 * i, rd, [kr]) :: lg) (σ.app dst (kY kr (.row e' m (Aq f (Cs L n.toNat x'))))) Q) [T : O2 P t ag m]
  (hds : Ei σ true [x, y] = some [(.ptr kr (n.toNat * m), some (.row e' m (Aq f L))), (d, b2)] := by exact rfl) (E : Uq f m := by exact inferInstance) (hx : f x' = cs' := by exact nl_) (hd : Jw ck (Ct d) cs' := by exact dc_) (hs : (Ct d).length = m := by exact rfl)
  (hr : Ka false [(DV.ptr kr (n.toNat * m), some (LB.row e' m (Aq f L))), (d, b2)] = rd := by first | exact (rfl : _ = [_]) | exact (rfl : _ = [_, _]) | exact (rfl : _ = [_, _, _])) (G : Ji ops σ ⟨dst, .store t x y, ty, pos, af, g⟩ = some true := by exact Pu)
  (hok : Kb Rt i false (nb + 8 * i) rd [kr] lg = true := by exact rfl) (hz : zM fz (nb + 8 * i) = 0 := by exact rfl) (hap : Og cx.np (.store t x y) [kr] = true := by exact rfl) : Chain (B8 P cx fz) ops Rt nb (D8 i (⟨dst, .store t x y, ty, pos, af, g⟩ :: l)) lg σ Q :=
 Gd G hds (eQ T.h hs (Fh E.h (Cw he) (o := 0) (m := m) (by omega) rfl) hk hd (Xr E.h (Cw he) (o := 0) (x' := x') (by rw [<- hx, E.h]; omega) (by rw [<- hx]; exact dQ (by rw [E.h, E.h])) rfl)) hr hok k hz hap
theorem Kh {e sz bytes len : Nat} {parts : Array (Nat × Operand)} {ds : List (DV × Option LB)} {z : List Value} {cs : List C} {ck : List (Option Nat)} (hS : Ii P t e sz bytes) (hz : Zt P e z) (hk : J4 P 20 e = ck) (lv : List α) (fv : α -> List C) (k : Chain (B8 P cx fz) ops Rt nb (D8 (i + 1) l) ((i, false, nb + 8 * i, [], []) :: lg) (σ.app dst (Nr (nb + 8 * i) (.row e sz (Aq fv lv)) (.row (nb + 8 * i)))) Q)
  (hds : Ei σ false (Op.buildSlice t len parts).operands.toList = some ds := by exact rfl) (hc : Jw (List.replicate len ck).flatten (ds.flatMap fun q => Ct q.1) cs := by exact dc_) (h : Aq fv lv = cs := by exact rfl) (hlen : Nat.ble (len * sz) 16777216 = true := by exact rfl) (hp : parts.toList.map (·.1) = List.range' 0 len := by exact rfl) (hzl : z.length = sz := by exact rfl) (hn : ds.length = len := by exact rfl)
  (hs : ds.all (fun q => Nat.beq (Ct q.1).length sz) = true := by exact rfl) (ho : ds.all (fun q => (Ct q.1).all Xc) = true := by exact rfl) (G : Ji ops σ ⟨dst, .buildSlice t len parts, ty, pos, af, g⟩ = some true := by exact Pu)
  (hok : Kb Rt i false (nb + 8 * i) [] [] lg = true := by exact rfl) (hz' : zM fz (nb + 8 * i) = 0 := by exact rfl) (hap : Og cx.np (.buildSlice t len parts) [] = true := by exact rfl) : Chain (B8 P cx fz) ops Rt nb (D8 i (⟨dst, .buildSlice t len parts, ty, pos, af, g⟩ :: l)) lg σ Q :=
 C0 G hds (Em hS hz (Nat.le_of_ble_eq_true hlen) hp hzl hn hs hk hc ho h) rfl hok k hz' hap
theorem Tt {e sz bytes len : Nat} {parts : Array (Nat × Operand)} {ds : List (DV × Option LB)} {z : List Value} {cs : List C} {ck : List (Option Nat)} (hS : Ii P t e sz bytes) (hz : Zt P e z) (hk : J4 P 20 e = ck) (lv : List α) (fv : α -> List C) (k : Chain (B8 P cx fz) ops Rt nb (D8 (i + 1) l) ((i, false, nb + 8 * i, [], []) :: lg) (σ.app dst (Xk sz (Aq fv lv) [])) Q)
  (hds : Ei σ false (Op.buildSlice t len parts).operands.toList = some ds := by exact rfl) (hc : Jw (List.replicate len ck).flatten (ds.flatMap fun q => Ct q.1) cs := by exact dc_) (h : Aq fv lv = cs := by exact rfl) (hlen : Nat.ble (len * sz) 16777216 = true := by exact rfl) (hp : parts.toList.map (·.1) = List.range' 0 len := by exact rfl) (hzl : z.length = sz := by exact rfl) (hn : ds.length = len := by exact rfl)
  (hs : ds.all (fun q => Nat.beq (Ct q.1).length sz) = true := by exact rfl) (ho : ds.all (fun q => (Ct q.1).all Xc) = true := by exact rfl) (G : Ji ops σ ⟨dst, .buildSlice t len parts, ty, pos, af, g⟩ = some true := by exact Pu)
  (hok : Kb Rt i false (nb + 8 * i) [] [] lg = true := by exact rfl) (hz' : zM fz (nb + 8 * i) = 1 := by exact rfl) (hap : Og cx.np (.buildSlice t len parts) [] = true := by exact rfl) : Chain (B8 P cx fz) ops Rt nb (D8 i (⟨dst, .buildSlice t len parts, ty, pos, af, g⟩ :: l)) lg σ Q :=
 aAy (rd := []) G hds (Em hS hz (Nat.le_of_ble_eq_true hlen) hp hzl hn hs hk hc ho h) rfl rfl hok k hz' hap
theorem Qz {fields : _} {places : List (Nat × Nat)} {z : List Value} {r0 r : List DV} {parts : Array (Nat × Operand)} {ds : List (DV × Option LB)} (hu : P.underlying t = some (.struct fields)) (hp : fields.toList.map (fun f => (P.info? f.type).map fun i => (f.offset, i.size)) = places.map some) (hz : Zt P t z) (k : Chain (B8 P cx fz) ops Rt nb (D8 (i + 1) l) ((i, false, nb + 8 * i, [], []) :: lg) (σ.app dst (v0 (.agg r))) Q)
  (hds : Ei σ false (Op.build t parts).operands.toList = some ds := by exact rfl) (hd : H5 (fun i => places[i]?) (z.map .val) ((parts.toList.map (·.1)).zip (ds.map (·.1))) = some r0 := by exact rfl) (hr : r0 = r := by exact nl_) (ho : ds.all (fun q => (Ct q.1).all Xc) = true := by exact rfl) (G : Ji ops σ ⟨dst, .build t parts, ty, pos, af, g⟩ = some true := by exact Pu)
  (hok : Kb Rt i false (nb + 8 * i) [] [] lg = true := by exact rfl) (hz' : zM fz (nb + 8 * i) = 0 := by exact rfl) (hap : Og cx.np (.build t parts) [] = true := by exact rfl) : Chain (B8 P cx fz) ops Rt nb (D8 i (⟨dst, .build t parts, ty, pos, af, g⟩ :: l)) lg σ Q :=
 C0 G hds (.build hu hp hz (hr ▸ hd) ho) rfl hok k hz' hap
end
theorem Bh {P : Program} {cx : Cx} {id : Nat} {l : List Oper} {σ : St} {y : Code} {Q : Exit -> St -> Prop} (nb nb' : Nat) (B : ∀ k, nb <= k -> σ.U k = false) {j : Nat} {lg' : gB} {σ' : St} {q : Prop} (k : (∀ j, nb' <= j -> σ'.U j = false) -> q)
  (h : Gm P cx [] l.toArray none nb (D8 0 l) [] σ (D8 j []) lg' σ' := by exact gm_) (s : lP (oE (B2 P cx y Q) Q .normal σ') q := by exact inferInstance) (hn : Nat.ble (nb + 8 * l.length) nb' = true := by rfl) (hd : iQ cx.N l = true := by rfl) : B2 P cx (.seq (.region id l.toArray false) y) Q σ :=
 B9 nb nb' B (h _ (Gk k)) hn hd
end Go.Proofs.YtidpkjdkfkkgiaaGreat
