import Derived.Test.YtkoflhimdenjaaaGreatEE
set_option linter.unusedVariables false
set_option linter.unusedSimpArgs false
namespace Go.Proofs.YtkoflhimdenjaaaGreat
open Go.RowKit
abbrev vk (x : Int) : DV := .val (.int .i64 x)
abbrev ws (x : ByteArray) : DV := .val (.string x)
class Nf (P : Program) (t : TypeId) (ag : outParam Bool) (sz : outParam Nat) : Prop where
 h : Ty P t ag sz
class Kd (P : Program) (s : TypeId) (f : Nat) (off : outParam Nat) (ft : outParam TypeId) : Prop where
 h : Fd P s f off ft
class Zd (P : Program) (t : TypeId) (e sz bytes : outParam Nat) : Prop where
 h : Hq P t e sz bytes
class Ue (P : Program) (t : TypeId) (z : outParam (List Value)) : Prop where
 h : Zt P t z
class So {α : Type} (f : α -> List C) (sz : outParam Nat) : Prop where
 h : ∀ x, (f x).length = sz
instance : So eI 1 := ⟨Xu⟩
instance {k : IntKind} : So (eK k) 1 := ⟨aAn k⟩
instance : So e8 1 := ⟨Jx⟩
instance : So eS 1 := ⟨aM⟩
instance : So eB 1 := ⟨yH⟩
instance {α : Type} {sz : Nat} {f : α -> List C} : So (eL sz f) 1 := ⟨qD sz f⟩
section
variable {P : Program} {cx : Cx} {ops : Array Oper} {Rt : Option (List Nat)} {nb i : Nat} {l : List Oper} {lg lg' : eN} {σ σ' : St} {Q : St -> Prop} {fz : List Nat} {m' : List (Nat × Oper)}
def Gm (P : Program) (cx : Cx) (fz : List Nat) (ops : Array Oper) (Rt : Option (List Nat)) (nb : Nat) (m : List (Nat × Oper)) (lg : eN) (σ : St) (m' : List (Nat × Oper)) (lg' : eN) (σ' : St) : Prop := ∀ Q, Chain (Cj P cx fz) ops Rt nb m' lg' σ' Q -> Chain (Cj P cx fz) ops Rt nb m lg σ Q
theorem Gm.z {m : List (Nat × Oper)} : Gm P cx fz ops Rt nb m lg σ m lg σ := fun _ h => h
theorem Gm.s {dst : Option Tmp} {op : Op} {ty : TypeId} {pos : String} {af : Array Edge} {g : Option (Nat × Bool)} {ds : List (DV × Option LB)} {rd wr : List Nat} {e : K2} (hds : Dw σ (I6 op) op.operands.toList = some ds) (h : Ex P (nb + 8 * i) op ty ds wr e)
  (k : Gm P cx fz ops Rt nb (Dr (i + 1) l) ((i, false, nb + 8 * i, rd, wr) :: lg) (σ.app dst e) m' lg' σ') (G : Ja ops σ ⟨dst, op, ty, pos, af, g⟩ = some true) (hrd : (bif I6 op then Jp (Kc op) ds else []) = rd)
  (hok : (Jt Rt i false (nb + 8 * i) rd wr lg && (Nat.beq (zM fz (nb + 8 * i)) 0 && Nt cx.np op wr)) = true) :
  Gm P cx fz ops Rt nb (Dr i (⟨dst, op, ty, pos, af, g⟩ :: l)) lg σ m' lg' σ' := fun Q hq => by
 simp only [Bool.and_eq_true] at hok
 exact G4 G hds h hrd hok.1 (k Q hq) (Nat.eq_of_beq_eq_true hok.2.1) hok.2.2
theorem Gm.k {dst : Option Tmp} {op : Op} {ty : TypeId} {pos : String} {af : Array Edge} {g : Nat × Bool} (G : Ja ops σ ⟨dst, op, ty, pos, af, some g⟩ = some false)
  (hok : Jt Rt i false (nb + 8 * i) [] [] lg = true) (k : Gm P cx fz ops Rt nb (Dr (i + 1) l) ((i, false, nb + 8 * i, [], []) :: lg) (σ.app dst fR) m' lg' σ') :
  Gm P cx fz ops Rt nb (Dr i (⟨dst, op, ty, pos, af, some g⟩ :: l)) lg σ m' lg' σ' := fun Q hq => tR G hok (k Q hq)
theorem aBp {dst : Option Tmp} {op : Op} {ty : TypeId} {pos : String} {af : Array Edge} : Ja ops σ ⟨dst, op, ty, pos, af, none⟩ = some true := rfl
theorem aAi {dst : Option Tmp} {op : Op} {ty : TypeId} {pos : String} {af : Array Edge} {g : Nat} {c : Bool} {t : Tmp} (ht : (ops[g]?).bind (·.dst) = some t) (hF : σ.F t = some (.val (.bool c))) (hc : c = false) : Ja ops σ ⟨dst, op, ty, pos, af, some (g, true)⟩ = some false := uM ht hF hc
theorem wE {dst : Option Tmp} {op : Op} {ty : TypeId} {pos : String} {af : Array Edge} {g : Nat} {c : Bool} {t : Tmp} (ht : (ops[g]?).bind (·.dst) = some t) (hF : σ.F t = some (.val (.bool c))) (hc : c = true) : Ja ops σ ⟨dst, op, ty, pos, af, some (g, false)⟩ = some false := uM ht hF hc
theorem aBm {dst : Option Tmp} {op : Op} {ty : TypeId} {pos : String} {af : Array Edge} {g : Nat} {b : Bool} {t : Tmp} (ht : (ops[g]?).bind (·.dst) = some t) (hF : σ.F t = some (.val undef)) : Ja ops σ ⟨dst, op, ty, pos, af, some (g, b)⟩ = some false := by
 unfold Ja
 simp only []
 rw [ht]
 simp only []
 rw [hF]
 rfl
theorem aBk {α : Type} {l t t' : List α} {x : α} (h : l = x :: t) (k : t = t') : l = x :: t' := by rw [h, k]
variable {dst : Option Tmp} {ty : TypeId} {pos : String} {af : Array Edge} {g : Option (Nat × Bool)}
theorem Gm.move {x : Operand} {d : DV} {q : Option LB} (hds : Dw σ false [x] = some [(d, q)])  (G : Ja ops σ ⟨dst, .move x, ty, pos, af, g⟩ = some true)
  (hok : (Jt Rt i false (nb + 8 * i) [] [] lg && (Nat.beq (zM fz (nb + 8 * i)) 0 && Nt cx.np (.move x) [])) = true) (k : Gm P cx fz ops Rt nb (Dr (i + 1) l) ((i, false, nb + 8 * i, [], []) :: lg) (σ.app dst (v0 d)) m' lg' σ') : Gm P cx fz ops Rt nb (Dr i (⟨dst, .move x, ty, pos, af, g⟩ :: l)) lg σ m' lg' σ' :=
 Gm.s hds (.move) k G rfl hok
theorem Gm.assign {x : Operand} {d : DV} {q : Option LB} (hds : Dw σ false [x] = some [(d, q)])  (G : Ja ops σ ⟨dst, .assign x, ty, pos, af, g⟩ = some true)
  (hok : (Jt Rt i false (nb + 8 * i) [] [] lg && (Nat.beq (zM fz (nb + 8 * i)) 0 && Nt cx.np (.assign x) [])) = true) (k : Gm P cx fz ops Rt nb (Dr (i + 1) l) ((i, false, nb + 8 * i, [], []) :: lg) (σ.app dst (v0 d)) m' lg' σ') : Gm P cx fz ops Rt nb (Dr i (⟨dst, .assign x, ty, pos, af, g⟩ :: l)) lg σ m' lg' σ' :=
 Gm.s hds (.assign) k G rfl hok
theorem Gm.fieldP {x : Operand} {s f k j off ft sz : Nat} {ag : Bool} {q : Option LB} [F : Kd P s f off ft] [T : Nf P ft ag sz] (hds : Dw σ false [x] = some [(.ptr k j, q)]) (hz0 : Nat.blt 0 sz = true) (G : Ja ops σ ⟨dst, .fieldAddr s x f, ty, pos, af, g⟩ = some true)
  (hok : (Jt Rt i false (nb + 8 * i) [] [] lg && (Nat.beq (zM fz (nb + 8 * i)) 0 && Nt cx.np (.fieldAddr s x f) [])) = true) (k : Gm P cx fz ops Rt nb (Dr (i + 1) l) ((i, false, nb + 8 * i, [], []) :: lg) (σ.app dst (v0 (.ptr k (j + off)))) m' lg' σ') : Gm P cx fz ops Rt nb (Dr i (⟨dst, .fieldAddr s x f, ty, pos, af, g⟩ :: l)) lg σ m' lg' σ' :=
 Gm.s hds (.fieldP F.h T.h (Nat.le_of_ble_eq_true hz0)) k G rfl hok
theorem Gm.load1 {x : Operand} {t k j bt sz : Nat} {ds : List DV} {d : DV} [T : Nf P t false sz] (hds : Dw σ true [x] = some [(.ptr k j, some (.box ds bt))]) (hd : ds[j]? = some d) (G : Ja ops σ ⟨dst, .load t x, ty, pos, af, g⟩ = some true)
  (hok : (Jt Rt i false (nb + 8 * i) [k] [] lg && (Nat.beq (zM fz (nb + 8 * i)) 0 && Nt cx.np (.load t x) [])) = true) (k : Gm P cx fz ops Rt nb (Dr (i + 1) l) ((i, false, nb + 8 * i, [k], []) :: lg) (σ.app dst (v0 d)) m' lg' σ') : Gm P cx fz ops Rt nb (Dr i (⟨dst, .load t x, ty, pos, af, g⟩ :: l)) lg σ m' lg' σ' :=
 Gm.s hds (.loadB1 T.h hd) k G rfl hok
theorem Gm.loadA {x : Operand} {t k j bt sz : Nat} {ds : List DV} [T : Nf P t true sz] (hds : Dw σ true [x] = some [(.ptr k j, some (.box ds bt))]) (hd : Nat.ble (j + sz) ds.length = true) (G : Ja ops σ ⟨dst, .load t x, ty, pos, af, g⟩ = some true)
  (hok : (Jt Rt i false (nb + 8 * i) [k] [] lg && (Nat.beq (zM fz (nb + 8 * i)) 0 && Nt cx.np (.load t x) [])) = true) (k : Gm P cx fz ops Rt nb (Dr (i + 1) l) ((i, false, nb + 8 * i, [k], []) :: lg) (σ.app dst (v0 (.agg ((ds.drop j).take sz)))) m' lg' σ') : Gm P cx fz ops Rt nb (Dr i (⟨dst, .load t x, ty, pos, af, g⟩ :: l)) lg σ m' lg' σ' :=
 Gm.s hds (.loadBA T.h (Nat.le_of_ble_eq_true hd)) k G rfl hok
theorem Gm.pickF {x y z : Operand} {c : Bool} {d1 d2 : DV} {q1 q2 q3 : Option LB} (hds : Dw σ false [x, y, z] = some [(.val (.bool c), q1), (d1, q2), (d2, q3)]) (hc : c = false) (G : Ja ops σ ⟨dst, .pick x y z, ty, pos, af, g⟩ = some true)
  (hok : (Jt Rt i false (nb + 8 * i) [] [] lg && (Nat.beq (zM fz (nb + 8 * i)) 0 && Nt cx.np (.pick x y z) [])) = true) (k : Gm P cx fz ops Rt nb (Dr (i + 1) l) ((i, false, nb + 8 * i, [], []) :: lg) (σ.app dst (v0 d2)) m' lg' σ') : Gm P cx fz ops Rt nb (Dr i (⟨dst, .pick x y z, ty, pos, af, g⟩ :: l)) lg σ m' lg' σ' :=
 Gm.s hds (rM hc) k G rfl hok
theorem Gm.pickT {x y z : Operand} {c : Bool} {d1 d2 : DV} {q1 q2 q3 : Option LB} (hds : Dw σ false [x, y, z] = some [(.val (.bool c), q1), (d1, q2), (d2, q3)]) (hc : c = true) (G : Ja ops σ ⟨dst, .pick x y z, ty, pos, af, g⟩ = some true)
  (hok : (Jt Rt i false (nb + 8 * i) [] [] lg && (Nat.beq (zM fz (nb + 8 * i)) 0 && Nt cx.np (.pick x y z) [])) = true) (k : Gm P cx fz ops Rt nb (Dr (i + 1) l) ((i, false, nb + 8 * i, [], []) :: lg) (σ.app dst (v0 d1)) m' lg' σ') : Gm P cx fz ops Rt nb (Dr i (⟨dst, .pick x y z, ty, pos, af, g⟩ :: l)) lg σ m' lg' σ' :=
 Gm.s hds (sZ hc) k G rfl hok
theorem Gm.storeB {x y : Operand} {t k j bt sz : Nat} {ag : Bool} {ds ds' : List DV} {d : DV} {q : Option LB} {rd : List Nat} [T : Nf P t ag sz] (hds : Dw σ true [x, y] = some [(.ptr k j, some (.box ds bt)), (d, q)]) (hs : (Ck d).length = sz) (hi : Nat.ble (j + sz) ds.length = true) (ho : (Ck d).all Wr = true) (hn : Cy ds j (Ck d) = ds') (hr : Jp false [(DV.ptr k j, some (LB.box ds bt)), (d, q)] = rd) (G : Ja ops σ ⟨dst, .store t x y, ty, pos, af, g⟩ = some true)
  (hok : (Jt Rt i false (nb + 8 * i) rd [k] lg && (Nat.beq (zM fz (nb + 8 * i)) 0 && Nt cx.np (.store t x y) [k])) = true) (k : Gm P cx fz ops Rt nb (Dr (i + 1) l) ((i, false, nb + 8 * i, rd, [k]) :: lg) (σ.app dst (jR k (.box ds' bt))) m' lg' σ') : Gm P cx fz ops Rt nb (Dr i (⟨dst, .store t x y, ty, pos, af, g⟩ :: l)) lg σ m' lg' σ' :=
 Gm.s hds (lS T.h hs (Nat.le_of_ble_eq_true hi) ho hn) k G hr hok
theorem Gm.extract {x : Operand} {n : Nat} {ds : List DV} {d : DV} {q : Option LB} (hds : Dw σ false [x] = some [(.tup ds, q)]) (hd : ds[n]? = some d) (G : Ja ops σ ⟨dst, .extract x n, ty, pos, af, g⟩ = some true)
  (hok : (Jt Rt i false (nb + 8 * i) [] [] lg && (Nat.beq (zM fz (nb + 8 * i)) 0 && Nt cx.np (.extract x n) [])) = true) (k : Gm P cx fz ops Rt nb (Dr (i + 1) l) ((i, false, nb + 8 * i, [], []) :: lg) (σ.app dst (v0 d)) m' lg' σ') : Gm P cx fz ops Rt nb (Dr i (⟨dst, .extract x n, ty, pos, af, g⟩ :: l)) lg σ m' lg' σ' :=
 Gm.s hds (.extract hd) k G rfl hok
theorem Gm.lss {x y : Operand} {t yt : TypeId} {kk : IntKind} {a b : Int} {q1 q2 : Option LB} (hds : Dw σ false [x, y] = some [(.val (.int kk a), q1), (.val (.int kk b), q2)])  (G : Ja ops σ ⟨dst, .binOp .lss t x y yt, ty, pos, af, g⟩ = some true)
  (hok : (Jt Rt i false (nb + 8 * i) [] [] lg && (Nat.beq (zM fz (nb + 8 * i)) 0 && Nt cx.np (.binOp .lss t x y yt) [])) = true) (k : Gm P cx fz ops Rt nb (Dr (i + 1) l) ((i, false, nb + 8 * i, [], []) :: lg) (σ.app dst (v0 (.val (.bool (decide (a < b)))))) m' lg' σ') : Gm P cx fz ops Rt nb (Dr i (⟨dst, .binOp .lss t x y yt, ty, pos, af, g⟩ :: l)) lg σ m' lg' σ' :=
 Gm.s hds (aB1) k G rfl hok
theorem Gm.eql {x y : Operand} {t yt : TypeId} {kk : IntKind} {a b : Int} {q1 q2 : Option LB} (hds : Dw σ false [x, y] = some [(.val (.int kk a), q1), (.val (.int kk b), q2)])  (G : Ja ops σ ⟨dst, .binOp .eql t x y yt, ty, pos, af, g⟩ = some true)
  (hok : (Jt Rt i false (nb + 8 * i) [] [] lg && (Nat.beq (zM fz (nb + 8 * i)) 0 && Nt cx.np (.binOp .eql t x y yt) [])) = true) (k : Gm P cx fz ops Rt nb (Dr (i + 1) l) ((i, false, nb + 8 * i, [], []) :: lg) (σ.app dst (v0 (.val (.bool (decide (a = b)))))) m' lg' σ') : Gm P cx fz ops Rt nb (Dr i (⟨dst, .binOp .eql t x y yt, ty, pos, af, g⟩ :: l)) lg σ m' lg' σ' :=
 Gm.s hds (aB6) k G rfl hok
theorem Gm.gtr {x y : Operand} {t yt : TypeId} {kk : IntKind} {a b : Int} {q1 q2 : Option LB} (hds : Dw σ false [x, y] = some [(.val (.int kk a), q1), (.val (.int kk b), q2)])  (G : Ja ops σ ⟨dst, .binOp .gtr t x y yt, ty, pos, af, g⟩ = some true)
  (hok : (Jt Rt i false (nb + 8 * i) [] [] lg && (Nat.beq (zM fz (nb + 8 * i)) 0 && Nt cx.np (.binOp .gtr t x y yt) [])) = true) (k : Gm P cx fz ops Rt nb (Dr (i + 1) l) ((i, false, nb + 8 * i, [], []) :: lg) (σ.app dst (v0 (.val (.bool (decide (b < a)))))) m' lg' σ') : Gm P cx fz ops Rt nb (Dr i (⟨dst, .binOp .gtr t x y yt, ty, pos, af, g⟩ :: l)) lg σ m' lg' σ' :=
 Gm.s hds (aA0) k G rfl hok
theorem Gm.leq {x y : Operand} {t yt : TypeId} {kk : IntKind} {a b : Int} {q1 q2 : Option LB} (hds : Dw σ false [x, y] = some [(.val (.int kk a), q1), (.val (.int kk b), q2)])  (G : Ja ops σ ⟨dst, .binOp .leq t x y yt, ty, pos, af, g⟩ = some true)
  (hok : (Jt Rt i false (nb + 8 * i) [] [] lg && (Nat.beq (zM fz (nb + 8 * i)) 0 && Nt cx.np (.binOp .leq t x y yt) [])) = true) (k : Gm P cx fz ops Rt nb (Dr (i + 1) l) ((i, false, nb + 8 * i, [], []) :: lg) (σ.app dst (v0 (.val (.bool (decide (a <= b)))))) m' lg' σ') : Gm P cx fz ops Rt nb (Dr i (⟨dst, .binOp .leq t x y yt, ty, pos, af, g⟩ :: l)) lg σ m' lg' σ' :=
 Gm.s hds (aC1) k G rfl hok
theorem Gm.geq {x y : Operand} {t yt : TypeId} {kk : IntKind} {a b : Int} {q1 q2 : Option LB} (hds : Dw σ false [x, y] = some [(.val (.int kk a), q1), (.val (.int kk b), q2)])  (G : Ja ops σ ⟨dst, .binOp .geq t x y yt, ty, pos, af, g⟩ = some true)
  (hok : (Jt Rt i false (nb + 8 * i) [] [] lg && (Nat.beq (zM fz (nb + 8 * i)) 0 && Nt cx.np (.binOp .geq t x y yt) [])) = true) (k : Gm P cx fz ops Rt nb (Dr (i + 1) l) ((i, false, nb + 8 * i, [], []) :: lg) (σ.app dst (v0 (.val (.bool (decide (b <= a)))))) m' lg' σ') : Gm P cx fz ops Rt nb (Dr i (⟨dst, .binOp .geq t x y yt, ty, pos, af, g⟩ :: l)) lg σ m' lg' σ' :=
 Gm.s hds (aCc) k G rfl hok
theorem Gm.neq {x y : Operand} {t yt : TypeId} {kk : IntKind} {a b : Int} {q1 q2 : Option LB} (hds : Dw σ false [x, y] = some [(.val (.int kk a), q1), (.val (.int kk b), q2)])  (G : Ja ops σ ⟨dst, .binOp .neq t x y yt, ty, pos, af, g⟩ = some true)
  (hok : (Jt Rt i false (nb + 8 * i) [] [] lg && (Nat.beq (zM fz (nb + 8 * i)) 0 && Nt cx.np (.binOp .neq t x y yt) [])) = true) (k : Gm P cx fz ops Rt nb (Dr (i + 1) l) ((i, false, nb + 8 * i, [], []) :: lg) (σ.app dst (v0 (.val (.bool (!decide (a = b)))))) m' lg' σ') : Gm P cx fz ops Rt nb (Dr i (⟨dst, .binOp .neq t x y yt, ty, pos, af, g⟩ :: l)) lg σ m' lg' σ' :=
 Gm.s hds (aA4) k G rfl hok
theorem Gm.seql {x y : Operand} {t yt : TypeId} {a b : ByteArray} {q1 q2 : Option LB} (hds : Dw σ false [x, y] = some [(.val (.string a), q1), (.val (.string b), q2)])  (G : Ja ops σ ⟨dst, .binOp .eql t x y yt, ty, pos, af, g⟩ = some true)
  (hok : (Jt Rt i false (nb + 8 * i) [] [] lg && (Nat.beq (zM fz (nb + 8 * i)) 0 && Nt cx.np (.binOp .eql t x y yt) [])) = true) (k : Gm P cx fz ops Rt nb (Dr (i + 1) l) ((i, false, nb + 8 * i, [], []) :: lg) (σ.app dst (v0 (.val (.bool (decide (a = b)))))) m' lg' σ') : Gm P cx fz ops Rt nb (Dr i (⟨dst, .binOp .eql t x y yt, ty, pos, af, g⟩ :: l)) lg σ m' lg' σ' :=
 Gm.s hds (yO) k G rfl hok
theorem Gm.sneq {x y : Operand} {t yt : TypeId} {a b : ByteArray} {q1 q2 : Option LB} (hds : Dw σ false [x, y] = some [(.val (.string a), q1), (.val (.string b), q2)])  (G : Ja ops σ ⟨dst, .binOp .neq t x y yt, ty, pos, af, g⟩ = some true)
  (hok : (Jt Rt i false (nb + 8 * i) [] [] lg && (Nat.beq (zM fz (nb + 8 * i)) 0 && Nt cx.np (.binOp .neq t x y yt) [])) = true) (k : Gm P cx fz ops Rt nb (Dr (i + 1) l) ((i, false, nb + 8 * i, [], []) :: lg) (σ.app dst (v0 (.val (.bool (!decide (a = b)))))) m' lg' σ') : Gm P cx fz ops Rt nb (Dr i (⟨dst, .binOp .neq t x y yt, ty, pos, af, g⟩ :: l)) lg σ m' lg' σ' :=
 Gm.s hds (yP) k G rfl hok
theorem Gm.add {x y : Operand} {t yt : TypeId} {a b : Int} {q1 q2 : Option LB} (hds : Dw σ false [x, y] = some [(.val (.int .i64 a), q1), (.val (.int .i64 b), q2)])  (G : Ja ops σ ⟨dst, .binOp .add t x y yt, ty, pos, af, g⟩ = some true)
  (hok : (Jt Rt i false (nb + 8 * i) [] [] lg && (Nat.beq (zM fz (nb + 8 * i)) 0 && Nt cx.np (.binOp .add t x y yt) [])) = true) (k : Gm P cx fz ops Rt nb (Dr (i + 1) l) ((i, false, nb + 8 * i, [], []) :: lg) (σ.app dst (v0 (.val (.int .i64 (W (a + b)))))) m' lg' σ') : Gm P cx fz ops Rt nb (Dr i (⟨dst, .binOp .add t x y yt, ty, pos, af, g⟩ :: l)) lg σ m' lg' σ' :=
 Gm.s hds (vH) k G rfl hok
theorem Gm.sub {x y : Operand} {t yt : TypeId} {a b : Int} {q1 q2 : Option LB} (hds : Dw σ false [x, y] = some [(.val (.int .i64 a), q1), (.val (.int .i64 b), q2)])  (G : Ja ops σ ⟨dst, .binOp .sub t x y yt, ty, pos, af, g⟩ = some true)
  (hok : (Jt Rt i false (nb + 8 * i) [] [] lg && (Nat.beq (zM fz (nb + 8 * i)) 0 && Nt cx.np (.binOp .sub t x y yt) [])) = true) (k : Gm P cx fz ops Rt nb (Dr (i + 1) l) ((i, false, nb + 8 * i, [], []) :: lg) (σ.app dst (v0 (.val (.int .i64 (W (a - b)))))) m' lg' σ') : Gm P cx fz ops Rt nb (Dr i (⟨dst, .binOp .sub t x y yt, ty, pos, af, g⟩ :: l)) lg σ m' lg' σ' :=
 Gm.s hds (aDa) k G rfl hok
theorem Gm.mul {x y : Operand} {t yt : TypeId} {a b : Int} {q1 q2 : Option LB} (hds : Dw σ false [x, y] = some [(.val (.int .i64 a), q1), (.val (.int .i64 b), q2)])  (G : Ja ops σ ⟨dst, .binOp .mul t x y yt, ty, pos, af, g⟩ = some true)
  (hok : (Jt Rt i false (nb + 8 * i) [] [] lg && (Nat.beq (zM fz (nb + 8 * i)) 0 && Nt cx.np (.binOp .mul t x y yt) [])) = true) (k : Gm P cx fz ops Rt nb (Dr (i + 1) l) ((i, false, nb + 8 * i, [], []) :: lg) (σ.app dst (v0 (.val (.int .i64 (W (a * b)))))) m' lg' σ') : Gm P cx fz ops Rt nb (Dr i (⟨dst, .binOp .mul t x y yt, ty, pos, af, g⟩ :: l)) lg σ m' lg' σ' :=
 Gm.s hds (aCf) k G rfl hok
theorem Gm.alloc {t : TypeId} {z : List Value} [Z : Ue P t z] (hds : Dw σ false [] = some [])  (G : Ja ops σ ⟨dst, .alloc t, ty, pos, af, g⟩ = some true)
  (hok : (Jt Rt i false (nb + 8 * i) [] [] lg && (Nat.beq (zM fz (nb + 8 * i)) 0 && Nt cx.np (.alloc t) [])) = true) (k : Gm P cx fz ops Rt nb (Dr (i + 1) l) ((i, false, nb + 8 * i, [], []) :: lg) (σ.app dst (Mh (nb + 8 * i) (.box (z.map .val) t) (.ptr (nb + 8 * i) 0))) m' lg' σ') : Gm P cx fz ops Rt nb (Dr i (⟨dst, .alloc t, ty, pos, af, g⟩ :: l)) lg σ m' lg' σ' :=
 Gm.s hds (.alloc Z.h) k G rfl hok
theorem Gm.box {x : Operand} {t : TypeId} {d : DV} {q : Option LB} (hds : Dw σ false [x] = some [(d, q)]) (ho : (Ck d).all Wr = true) (G : Ja ops σ ⟨dst, .box t x, ty, pos, af, g⟩ = some true)
  (hok : (Jt Rt i false (nb + 8 * i) [] [] lg && (Nat.beq (zM fz (nb + 8 * i)) 0 && Nt cx.np (.box t x) [])) = true) (k : Gm P cx fz ops Rt nb (Dr (i + 1) l) ((i, false, nb + 8 * i, [], []) :: lg) (σ.app dst (Mh (nb + 8 * i) (.box (Ck d) t) (.ptr (nb + 8 * i) 0))) m' lg' σ') : Gm P cx fz ops Rt nb (Dr i (⟨dst, .box t x, ty, pos, af, g⟩ :: l)) lg σ m' lg' σ' :=
 Gm.s hds (.box ho) k G rfl hok
theorem Gm.not {x : Operand} {t : TypeId} {b : Bool} {q : Option LB} (hds : Dw σ false [x] = some [(.val (.bool b), q)])  (G : Ja ops σ ⟨dst, .unOp .not t x, ty, pos, af, g⟩ = some true)
  (hok : (Jt Rt i false (nb + 8 * i) [] [] lg && (Nat.beq (zM fz (nb + 8 * i)) 0 && Nt cx.np (.unOp .not t x) [])) = true) (k : Gm P cx fz ops Rt nb (Dr (i + 1) l) ((i, false, nb + 8 * i, [], []) :: lg) (σ.app dst (v0 (.val (.bool (!b))))) m' lg' σ') : Gm P cx fz ops Rt nb (Dr i (⟨dst, .unOp .not t x, ty, pos, af, g⟩ :: l)) lg σ m' lg' σ' :=
 Gm.s hds (aA1) k G rfl hok
theorem Gm.lenS {α : Type} {f : α -> List C} {L : List α} {x : Operand} {t e sz by_ : Nat} {q : Option LB} [S : Zd P t e sz by_] (hds : Dw σ true [x] = some [(.sl sz (Aq f L), q)]) (E : So f sz) (G : Ja ops σ ⟨dst, .call ⟨.builtin .len, #[x], #[t]⟩, ty, pos, af, g⟩ = some true)
  (hok : (Jt Rt i false (nb + 8 * i) [] [] lg && (Nat.beq (zM fz (nb + 8 * i)) 0 && Nt cx.np (.call ⟨.builtin .len, #[x], #[t]⟩) [])) = true) (k : Gm P cx fz ops Rt nb (Dr (i + 1) l) ((i, false, nb + 8 * i, [], []) :: lg) (σ.app dst (v0 (.val (.int .i64 (L.length : Int))))) m' lg' σ') : Gm P cx fz ops Rt nb (Dr i (⟨dst, .call ⟨.builtin .len, #[x], #[t]⟩, ty, pos, af, g⟩ :: l)) lg σ m' lg' σ' :=
 Gm.s hds (vN S.h E.h) k G rfl hok
theorem Gm.lenR {α : Type} {f : α -> List C} {L : List α} {x : Operand} {t e e' sz by_ k : Nat} [S : Zd P t e sz by_] (hds : Dw σ true [x] = some [(.row k, some (.row e' sz (Aq f L)))]) (E : So f sz) (G : Ja ops σ ⟨dst, .call ⟨.builtin .len, #[x], #[t]⟩, ty, pos, af, g⟩ = some true)
  (hok : (Jt Rt i false (nb + 8 * i) [k] [] lg && (Nat.beq (zM fz (nb + 8 * i)) 0 && Nt cx.np (.call ⟨.builtin .len, #[x], #[t]⟩) [])) = true) (k : Gm P cx fz ops Rt nb (Dr (i + 1) l) ((i, false, nb + 8 * i, [k], []) :: lg) (σ.app dst (v0 (.val (.int .i64 (L.length : Int))))) m' lg' σ') : Gm P cx fz ops Rt nb (Dr i (⟨dst, .call ⟨.builtin .len, #[x], #[t]⟩, ty, pos, af, g⟩ :: l)) lg σ m' lg' σ' :=
 Gm.s hds (aAb S.h E.h) k G rfl hok
theorem Gm.idxS {α : Type} {f : α -> List C} {L : List α} {a : α} {x y : Operand} {t e sz by_ : Nat} {kk : IntKind} {n : Int} {q1 q2 : Option LB} [S : Zd P t e sz by_] (hds : Dw σ true [x, y] = some [(.sl sz (Aq f L), q1), (.val (.int kk n), q2)]) (E : So f sz) (hx : B3 L n = some a) (G : Ja ops σ ⟨dst, .indexAddr t x y, ty, pos, af, g⟩ = some true)
  (hok : (Jt Rt i false (nb + 8 * i) [] [] lg && (Nat.beq (zM fz (nb + 8 * i)) 0 && Nt cx.np (.indexAddr t x y) [])) = true) (k : Gm P cx fz ops Rt nb (Dr (i + 1) l) ((i, false, nb + 8 * i, [], []) :: lg) (σ.app dst (v0 (.elt ((Aq f L).drop (n.toNat * sz))))) m' lg' σ') : Gm P cx fz ops Rt nb (Dr i (⟨dst, .indexAddr t x y, ty, pos, af, g⟩ :: l)) lg σ m' lg' σ' :=
 Gm.s hds (wX S.h E.h (Pi hx) (Cq hx)) k G rfl hok
theorem Gm.idxR {α : Type} {f : α -> List C} {L : List α} {a : α} {x y : Operand} {t e e' sz by_ k : Nat} {kk : IntKind} {n : Int} {q2 : Option LB} [S : Zd P t e sz by_] (hds : Dw σ true [x, y] = some [(.row k, some (.row e' sz (Aq f L))), (.val (.int kk n), q2)]) (E : So f sz) (hx : B3 L n = some a) (G : Ja ops σ ⟨dst, .indexAddr t x y, ty, pos, af, g⟩ = some true)
  (hok : (Jt Rt i false (nb + 8 * i) [k] [] lg && (Nat.beq (zM fz (nb + 8 * i)) 0 && Nt cx.np (.indexAddr t x y) [])) = true) (k : Gm P cx fz ops Rt nb (Dr (i + 1) l) ((i, false, nb + 8 * i, [k], []) :: lg) (σ.app dst (v0 (.ptr k (n.toNat * sz)))) m' lg' σ') : Gm P cx fz ops Rt nb (Dr i (⟨dst, .indexAddr t x y, ty, pos, af, g⟩ :: l)) lg σ m' lg' σ' :=
 Gm.s hds (wJ S.h E.h (Pi hx) (Cq hx)) k G rfl hok
theorem Gm.nilP {x : Operand} {k j : Nat} {q : Option LB} (hds : Dw σ false [x] = some [(.ptr k j, q)])  (G : Ja ops σ ⟨dst, .nilCheck x, ty, pos, af, g⟩ = some true)
  (hok : (Jt Rt i false (nb + 8 * i) [] [] lg && (Nat.beq (zM fz (nb + 8 * i)) 0 && Nt cx.np (.nilCheck x) [])) = true) (k : Gm P cx fz ops Rt nb (Dr (i + 1) l) ((i, false, nb + 8 * i, [], []) :: lg) (σ.app dst (v0 (.ptr k j))) m' lg' σ') : Gm P cx fz ops Rt nb (Dr i (⟨dst, .nilCheck x, ty, pos, af, g⟩ :: l)) lg σ m' lg' σ' :=
 Gm.s hds (.nilP) k G rfl hok
theorem Gm.nilE {x : Operand} {cs : List C} {q : Option LB} (hds : Dw σ false [x] = some [(.elt cs, q)])  (G : Ja ops σ ⟨dst, .nilCheck x, ty, pos, af, g⟩ = some true)
  (hok : (Jt Rt i false (nb + 8 * i) [] [] lg && (Nat.beq (zM fz (nb + 8 * i)) 0 && Nt cx.np (.nilCheck x) [])) = true) (k : Gm P cx fz ops Rt nb (Dr (i + 1) l) ((i, false, nb + 8 * i, [], []) :: lg) (σ.app dst (v0 (.elt cs))) m' lg' σ') : Gm P cx fz ops Rt nb (Dr i (⟨dst, .nilCheck x, ty, pos, af, g⟩ :: l)) lg σ m' lg' σ' :=
 Gm.s hds (.nilE) k G rfl hok
theorem Gm.field1 {x : Operand} {s f off ft sz : Nat} {ds : List DV} {d : DV} {q : Option LB} [F : Kd P s f off ft] [T : Nf P ft false sz] (hds : Dw σ false [x] = some [(.agg ds, q)]) (hd : ds[off]? = some d) (G : Ja ops σ ⟨dst, .field s x f, ty, pos, af, g⟩ = some true)
  (hok : (Jt Rt i false (nb + 8 * i) [] [] lg && (Nat.beq (zM fz (nb + 8 * i)) 0 && Nt cx.np (.field s x f) [])) = true) (k : Gm P cx fz ops Rt nb (Dr (i + 1) l) ((i, false, nb + 8 * i, [], []) :: lg) (σ.app dst (v0 d)) m' lg' σ') : Gm P cx fz ops Rt nb (Dr i (⟨dst, .field s x f, ty, pos, af, g⟩ :: l)) lg σ m' lg' σ' :=
 Gm.s hds (.field1 F.h T.h hd) k G rfl hok
theorem Gm.fieldA {x : Operand} {s f off ft sz : Nat} {ds : List DV} {q : Option LB} [F : Kd P s f off ft] [T : Nf P ft true sz] (hds : Dw σ false [x] = some [(.agg ds, q)])  (G : Ja ops σ ⟨dst, .field s x f, ty, pos, af, g⟩ = some true)
  (hok : (Jt Rt i false (nb + 8 * i) [] [] lg && (Nat.beq (zM fz (nb + 8 * i)) 0 && Nt cx.np (.field s x f) [])) = true) (k : Gm P cx fz ops Rt nb (Dr (i + 1) l) ((i, false, nb + 8 * i, [], []) :: lg) (σ.app dst (v0 (.agg ((ds.drop off).take sz)))) m' lg' σ') : Gm P cx fz ops Rt nb (Dr i (⟨dst, .field s x f, ty, pos, af, g⟩ :: l)) lg σ m' lg' σ' :=
 Gm.s hds (.fieldA F.h T.h) k G rfl hok
theorem Gm.makeF {f : Nat} {first caps : Array Operand} {ds : List (DV × Option LB)} (hds : Dw σ false (Op.makeFunc (.func f) first caps).operands.toList = some ds)  (G : Ja ops σ ⟨dst, .makeFunc (.func f) first caps, ty, pos, af, g⟩ = some true)
  (hok : (Jt Rt i false (nb + 8 * i) [] [] lg && (Nat.beq (zM fz (nb + 8 * i)) 0 && Nt cx.np (.makeFunc (.func f) first caps) [])) = true) (k : Gm P cx fz ops Rt nb (Dr (i + 1) l) ((i, false, nb + 8 * i, [], []) :: lg) (σ.app dst (v0 (.clo f first.size (ds.map (·.1))))) m' lg' σ') : Gm P cx fz ops Rt nb (Dr i (⟨dst, .makeFunc (.func f) first caps, ty, pos, af, g⟩ :: l)) lg σ m' lg' σ' :=
 Gm.s hds (.makeFunc) k G rfl hok
theorem O2 {p : Prop} (h : p := by first | with_reducible exact aBp | exact Fm rfl rfl (by first | with_reducible assumption | with_reducible rfl | with_reducible exact gZ (by with_reducible assumption) | with_reducible exact iO (by with_reducible assumption))) : p := h
theorem gm_ {p : Prop} (h : p := by
  repeat first
   | (apply Gm.move; exact rfl; exact O2; exact rfl)
   | (apply Gm.assign; exact rfl; exact O2; exact rfl)
   | (apply Gm.fieldP; exact rfl; (exact rfl); exact O2; exact rfl)
   | (apply Gm.load1; exact rfl; (exact rfl); exact O2; exact rfl)
   | (apply Gm.loadA; exact rfl; (exact rfl); exact O2; exact rfl)
   | (apply Gm.pickF; exact rfl; (first | with_reducible assumption | with_reducible rfl | with_reducible exact gZ (by with_reducible assumption)); exact O2; exact rfl)
   | (apply Gm.pickT; exact rfl; (first | with_reducible assumption | with_reducible rfl | with_reducible exact iO (by with_reducible assumption)); exact O2; exact rfl)
   | (apply Gm.k; (first | exact aAi rfl rfl (by first | with_reducible assumption | with_reducible rfl | with_reducible exact gZ (by with_reducible assumption) | with_reducible exact iO (by with_reducible assumption)) | exact wE rfl rfl (by first | with_reducible assumption | with_reducible rfl | with_reducible exact gZ (by with_reducible assumption) | with_reducible exact iO (by with_reducible assumption)) | exact aBm rfl rfl); exact rfl)
   | (apply Gm.storeB; exact rfl; (exact rfl); (exact rfl); (exact rfl); (focus repeat first | exact (rfl : _ = []) | (apply aBk; exact rfl)); (first | exact (rfl : _ = [_]) | exact (rfl : _ = [_, _]) | exact (rfl : _ = [_, _, _])); exact O2; exact rfl)
   | (apply Gm.extract; exact rfl; (exact rfl); exact O2; exact rfl)
   | (apply Gm.lss; exact rfl; exact O2; exact rfl)
   | (apply Gm.eql; exact rfl; exact O2; exact rfl)
   | (apply Gm.gtr; exact rfl; exact O2; exact rfl)
   | (apply Gm.leq; exact rfl; exact O2; exact rfl)
   | (apply Gm.geq; exact rfl; exact O2; exact rfl)
   | (apply Gm.neq; exact rfl; exact O2; exact rfl)
   | (apply Gm.seql; exact rfl; exact O2; exact rfl)
   | (apply Gm.sneq; exact rfl; exact O2; exact rfl)
   | (apply Gm.add; exact rfl; exact O2; exact rfl)
   | (apply Gm.sub; exact rfl; exact O2; exact rfl)
   | (apply Gm.mul; exact rfl; exact O2; exact rfl)
   | (apply Gm.alloc; exact rfl; exact O2; exact rfl)
   | (apply Gm.box; exact rfl; (exact rfl); exact O2; exact rfl)
   | (apply Gm.not; exact rfl; exact O2; exact rfl)
   | (apply Gm.lenS; exact rfl; (exact inferInstance); exact O2; exact rfl)
   | (apply Gm.lenR; exact rfl; (exact inferInstance); exact O2; exact rfl)
   | (apply Gm.idxS; exact rfl; (exact inferInstance); (with_reducible assumption); exact O2; exact rfl)
   | (apply Gm.idxR; exact rfl; (exact inferInstance); (with_reducible assumption); exact O2; exact rfl)
   | (apply Gm.nilP; exact rfl; exact O2; exact rfl)
   | (apply Gm.nilE; exact rfl; exact O2; exact rfl)
   | (apply Gm.field1; exact rfl; (exact rfl); exact O2; exact rfl)
   | (apply Gm.fieldA; exact rfl; exact O2; exact rfl)
   | (apply Gm.makeF; exact rfl; exact O2; exact rfl)
  exact Gm.z) : p := h
theorem A6 {m : List (Nat × Oper)} (k : Chain (Cj P cx fz) ops Rt nb m' lg' σ' Q) (h : Gm P cx fz ops Rt nb m lg σ m' lg' σ' := by exact gm_) : Chain (Cj P cx fz) ops Rt nb m lg σ Q := h Q k
end
theorem Ef {R : Type} {b : Bool} {X Y : Option R} {r : R} (G : cond b X Y = some r) : (b = true /\ X = some r) \/ (b = false /\ Y = some r) := by
 cases b with
 | true => exact .inl ⟨rfl, G⟩
 | false => exact .inr ⟨rfl, G⟩
section
variable {P : Program} {cx : Cx} {σ : St} {Q : Exit -> St -> Prop} {x y : Code}
theorem C5 {R : Type} {t : Nat} {b : Bool} {X Y : Option R} {r : R} (hc : σ.F t = some (.val (.bool b))) (G : cond b X Y = some r) (h1 : b = true -> X = some r -> B4 P cx x Q σ) (h2 : b = false -> Y = some r -> B4 P cx y Q σ) : B4 P cx (.cond (.tmp t) x y) Q σ :=
 Ii hc (fun h => h1 h (xW h G)) fun h => h2 h (wF h G)
theorem Bc {fl : List (Nat × DV)} {ll : List (Nat × LB)} {n : Nat} (θ : List (Nat × Nat))
  (hF : qX σ (Ev θ) fl := by
   repeat' first
    | exact trivial
    | refine ⟨⟨_, rfl, ?_⟩, ?_⟩
    | exact Cv.val _
    | exact Cv.sl _ _
    | exact Cv.ptr rfl
    | exact Cv.row rfl
    | exact Cv.part rfl
    | exact Cv.nil rfl
    | exact Cv.nils _
    | exact Cv.elt _
    | exact Cv.mp _
    | refine Cv.clo _ _ ?_
    | refine Cv.agg ?_
    | refine Cv.tup ?_
    | refine Cv.clo _ _ ?_
    | exact Qh.nil
    | refine Qh.cons ?_ ?_
    | exact Cv.frzM rfl (Ei rfl)
    | exact Cv.frz rfl (Ei rfl))
  (hL : jX σ (Ev θ) ll := by
   repeat' first
    | exact trivial
    | refine ⟨.inl ⟨_, _, rfl, rfl, ⟨rfl, rfl, rfl⟩⟩, ?_⟩
    | refine ⟨.inl ⟨_, _, rfl, rfl, ⟨rfl, ?_⟩⟩, ?_⟩
    | refine ⟨.inr ⟨rfl, _, _, rfl⟩, ?_⟩
    | exact Cv.val _
    | exact Cv.sl _ _
    | exact Cv.ptr rfl
    | exact Cv.row rfl
    | exact Cv.part rfl
    | exact Cv.nil rfl
    | exact Cv.nils _
    | exact Cv.elt _
    | exact Cv.mp _
    | refine Cv.clo _ _ ?_
    | refine Cv.agg ?_
    | exact Qh.nil
    | refine Qh.cons ?_ ?_
    | exact Cv.frzM rfl (Ei rfl)
    | exact Cv.frz rfl (Ei rfl))
  (hc : kO fl ll n θ = true := by rfl) (hp : fL θ n cx.np = true := by rfl) : Ns cx σ (mk fl ll n) := Ns.lists θ hc hp hF hL
theorem J3 {S R : Type} {body : S -> Option (Lp S R)} {s0 : S} {r : R} (st : S -> St) (G : Ch body s0 = some r) (h0 : Ns cx σ (st s0)) (round : ∀ (s : S) (m : Nat) (o : Lp S R), body s = some o -> Xd (M1 body m) o = some r -> B4 P cx x (lK (fun σ' => ∃ j : S × Nat, j.2 < m + 1 /\ M1 body j.2 j.1 = some r /\ Ns cx σ' (st j.1)) Q) (st s)) : B4 P cx (.loop x) Q σ := by
 obtain ⟨n, G⟩ := Rh G
 refine oA (ι := S × Nat) (fun q => st q.1) (fun q => M1 body q.2 q.1 = some r) (fun q => q.2) (s0, n) h0 G ?_
 rintro ⟨s, k⟩ hk
 obtain ⟨m, o, rfl, h1, h2⟩ := kJ (show M1 body k s = some r from hk)
 exact round s m o h1 h2
theorem Ht {fn : Func} {np : Nat} {R : DV -> List LB -> Prop} {ds : List DV} {r : DV} {bx : List LB} (θ : List (Nat × Nat)) (hR : R r bx)
  (h1 : P6 P σ fn.results.toList ds := by
   repeat first
    | exact P6.nil
    | (apply P6.cons; exact .tmp rfl)
    | (apply P6.cons; exact .cell1 rfl rfl Nf.h rfl)
    | (apply P6.cons; exact .cellA rfl rfl Nf.h rfl))
  (h2 : Cv σ (Ev θ) (pY ds) r := by
   repeat' first
    | exact Cv.val _
    | exact Cv.sl _ _
    | exact Cv.ptr rfl
    | exact Cv.row rfl
    | exact Cv.nil rfl
    | exact Cv.nils _
    | exact Cv.elt _
    | exact Cv.mp _
    | refine Cv.clo _ _ ?_
    | refine Cv.agg ?_
    | refine Cv.tup ?_
    | exact Qh.nil
    | refine Qh.cons ?_ ?_
    | exact Cv.frzM rfl (Ei rfl)
    | exact Cv.frz rfl (Ei rfl))
  (h3 : jX σ (Ev θ) (ix 0 bx) := by
   repeat' first
    | exact trivial
    | refine ⟨.inl ⟨_, _, rfl, rfl, ⟨rfl, rfl, rfl⟩⟩, ?_⟩
    | refine ⟨.inl ⟨_, _, rfl, rfl, ⟨rfl, ?_⟩⟩, ?_⟩
    | refine ⟨.inr ⟨rfl, _, _, rfl⟩, ?_⟩
    | exact Cv.val _
    | exact Cv.sl _ _
    | exact Cv.ptr rfl
    | exact Cv.row rfl
    | exact Cv.nil rfl
    | exact Cv.nils _
    | exact Cv.elt _
    | exact Cv.mp _
    | refine Cv.clo _ _ ?_
    | refine Cv.agg ?_
    | exact Qh.nil
    | refine Qh.cons ?_ ?_
    | exact Cv.frzM rfl (Ei rfl)
    | exact Cv.frz rfl (Ei rfl))
  (h4 : kO [(0, r)] (ix 0 bx) bx.length θ = true := by rfl) (h5 : fL θ bx.length np = true := by rfl) (h6 : Nat.ble np bx.length = true := by rfl) (h7 : Nat.ble bx.length (np + 8) = true := by rfl) : T0 P fn np R σ :=
 ⟨ds, r, bx, θ, h1, hR, h2, h3, h4, h5, h6, h7⟩
end
section
variable {P : Program} {cx : Cx} {ops : Array Oper} {Rt : Option (List Nat)} {nb i : Nat} {l : List Oper} {lg : eN} {σ : St} {Q : St -> Prop} {fz : List Nat}
theorem Dz {dst : Option Tmp} {f : FuncId} {xs : Array Operand} {tys : Array TypeId} {ty : TypeId} {pos : String} {af : Array Edge} {g : Option (Nat × Bool)} {dsA : List (DV × Option LB)} {args : List DV} {d : DV}
  (hF : Fn P f 0 args [] (fun d' b' => d' = d /\ b' = []))
  (k : Chain (Cj P cx fz) ops Rt nb (Dr (i + 1) l) ((i, true, nb + 8 * i, [], []) :: lg) (σ.app dst (gQ [] [] d [])) Q)
  (hds : Dw σ true xs.toList = some dsA := by rfl)
  (hA : Nu false ([] ++ []) (Kn σ []) (dsA.map (·.1)) args := by
   repeat' first
    | exact Nu.nil
    | exact Ag.val
    | exact Ag.sl
    | exact Ag.nils
    | exact Ag.elt
    | exact Ag.fn
    | refine Ag.agg ?_
    | refine Ag.clo ?_
    | refine Nu.cons ?_ ?_)
  (G : Ja ops σ ⟨dst, .call ⟨.value (.func f), xs, tys⟩, ty, pos, af, g⟩ = some true := by exact O2)
  (hrd : Oo σ 3 (Qi dsA) = [] := by rfl) (hok : Jt Rt i true (nb + 8 * i) [] [] lg = true := by rfl) (hr : Il d = [] := by rfl) :
  Chain (Cj P cx fz) ops Rt nb (Dr i (⟨dst, .call ⟨.value (.func f), xs, tys⟩, ty, pos, af, g⟩ :: l)) lg σ Q :=
 cL (ps := []) (gs := []) (rd := []) (bx := []) (b := []) false G hF hds hrd hA rfl rfl (fun h => by cases h) hok hr rfl rfl k
theorem K9 {dst : Option Tmp} {f : FuncId} {xs : Array Operand} {tys : Array TypeId} {ty : TypeId} {pos : String} {af : Array Edge} {g : Option (Nat × Bool)} {dsA : List (DV × Option LB)} {args : List DV} {bx : List LB} {d : DV} {b : List LB} (rd ps gs : List Nat) (fl : Bool)
  (hF : Fn P f ps.length args bx (fun d' b' => d' = d /\ b' = b))
  (k : Chain (Cj P cx fz) ops Rt nb (Dr (i + 1) l) ((i, true, nb + 8 * i, rd, ps ++ gs) :: lg) (σ.app dst (gQ ps gs d b)) Q)
  (hds : Dw σ true xs.toList = some dsA := by rfl)
  (hA : Nu fl (ps ++ gs) (Kn σ rd) (dsA.map (·.1)) args := by
   repeat' first
    | exact Nu.nil
    | exact Ag.val
    | exact Ag.sl
    | exact Ag.nils
    | exact Ag.elt
    | exact Ag.fn
    | exact Ag.ptr rfl
    | exact Ag.rowK rfl
    | exact Ag.row rfl (by repeat first | exact List.Mem.head _ | refine List.Mem.tail _ ?_) rfl
    | refine Ag.agg ?_
    | refine Ag.clo ?_
    | refine Nu.cons ?_ ?_)
  (hB : X4 fl (ps ++ gs) (Kn σ rd) (ps ++ gs) bx := by
   repeat' first
    | exact (rfl : _ = [])
    | refine ⟨_, _, _, rfl, (.head _), ⟨_, rfl, ?_⟩, ?_⟩
    | refine ⟨_, _, _, rfl, (.tail _ (.head _)), ⟨_, rfl, ?_⟩, ?_⟩
    | refine ⟨_, _, _, rfl, (.tail _ (.tail _ (.head _))), ⟨_, rfl, ?_⟩, ?_⟩
    | refine ⟨_, _, _, rfl, (.tail _ (.tail _ (.tail _ (.head _)))), ⟨_, rfl, ?_⟩, ?_⟩
    | refine ⟨_, _, _, rfl, (.tail _ (.tail _ (.tail _ (.tail _ (.head _))))), ⟨_, rfl, ?_⟩, ?_⟩
    | refine ⟨_, _, _, rfl, (.tail _ (.tail _ (.tail _ (.tail _ (.tail _ (.head _)))))), ⟨_, rfl, ?_⟩, ?_⟩
    | refine ⟨_, _, _, rfl, (.tail _ (.tail _ (.tail _ (.tail _ (.tail _ (.tail _ (.head _))))))), ⟨_, rfl, ?_⟩, ?_⟩
    | refine ⟨_, _, _, rfl, (.head _), rfl, ?_⟩
    | refine ⟨_, _, _, rfl, (.tail _ (.head _)), rfl, ?_⟩
    | refine ⟨_, _, _, rfl, (.tail _ (.tail _ (.head _))), rfl, ?_⟩
    | refine ⟨_, _, _, rfl, (.tail _ (.tail _ (.tail _ (.head _)))), rfl, ?_⟩
    | refine ⟨_, _, _, rfl, (.tail _ (.tail _ (.tail _ (.tail _ (.head _))))), rfl, ?_⟩
    | refine ⟨_, _, _, rfl, (.tail _ (.tail _ (.tail _ (.tail _ (.tail _ (.head _)))))), rfl, ?_⟩
    | refine ⟨_, _, _, rfl, (.tail _ (.tail _ (.tail _ (.tail _ (.tail _ (.tail _ (.head _))))))), rfl, ?_⟩
    | exact Nu.nil
    | exact Ag.val
    | exact Ag.sl
    | exact Ag.nils
    | exact Ag.elt
    | exact Ag.ptr rfl
    | refine Nu.cons ?_ ?_)
  (G : Ja ops σ ⟨dst, .call ⟨.value (.func f), xs, tys⟩, ty, pos, af, g⟩ = some true := by exact O2)
  (hrd : Oo σ 3 (Qi dsA) = rd := by rfl) (hnd : P7 cx.np ps gs = true := by rfl) (hfl : fl = true -> Ir d /\ ∀ lb ∈ b, Om lb := by first | (intro h; cases h; done) | exact fun _ => ⟨by simp [Ir, Kw], by simp [Om, Kw, Ir]⟩)
  (hok : Jt Rt i true (nb + 8 * i) rd (ps ++ gs) lg = true := by rfl) (hr : Il d = [] := by rfl) (hl : b.length = ps.length := by rfl) (hb : b.flatMap W2 = [] := by rfl) :
  Chain (Cj P cx fz) ops Rt nb (Dr i (⟨dst, .call ⟨.value (.func f), xs, tys⟩, ty, pos, af, g⟩ :: l)) lg σ Q :=
 cL fl G hF hds hrd hA hB hnd hfl hok hr hl hb k
end
theorem bE {p : Prop} (h : p := by obtain rfl := oi_ G; exact Ht [] ⟨rfl, rfl⟩) : p := h
theorem C6 {p : Prop} (h : p := by refine A6 ?_; refine F7 fun B => ?_; refine F3 ?_; obtain rfl := oi_ G; exact Ht [] ⟨rfl, rfl⟩) : p := h
theorem Bq {p q : Prop} (k : q) (h : q -> p := by intro k; refine A6 ?_; refine F7 ?_; exact k) : p := h k
theorem rp_ {p q : Prop} (k : q) (h : q -> p := by intro k; (repeat first | refine st_ ?_ | refine sn_ ?_); exact k) : p := h k
theorem nl_ {p : Prop} (h : p := by repeat first | exact (rfl : _ = []) | (apply aBk; exact rfl)) : p := h
theorem dc_ {p : Prop} (h : p := by repeat first | exact Jn.nil | (apply Jn.cons; first | exact Yo.int | exact Yo.bool | exact Yo.str | exact Yo.sl | exact Yo.nil)) : p := h
theorem Lz {p : Prop} (h : p := by refine F3 ?_; obtain rfl := oi_ G; exact Ht [] ⟨rfl, rfl⟩) : p := h
theorem Dd {p q : Prop} (k : q) (h : q -> p := by intro k; refine oZ ?_; (repeat first | refine st_ ?_ | refine sn_ ?_); exact k) : p := h k
theorem Ju {p q : Prop} (k : q) (h : q -> p := by intro k; refine mN ?_; (repeat first | refine st_ ?_ | refine sn_ ?_); exact k) : p := h k
class qQ {α : Type} (f : α -> List C) : Prop where
 h : ∀ x, ∀ c ∈ f x, iE c = true
theorem Up {α : Type} {f : α -> List C} [F : qQ f] {e s : Nat} {l : List α} : Om (.row e s (Aq f l)) := fun c hc => by
 unfold Aq at hc
 obtain ⟨x, -, h⟩ := List.mem_flatMap.1 hc
 exact F.h x c h
instance : qQ eI := ⟨fun x c hc => by rw [List.mem_singleton.1 hc]; rfl⟩
theorem cA {α : Type} {l l' : List α} (h : l.length = l'.length) : Cy l 0 l' = l' := by
 unfold Cy
 rw [List.take_zero, List.nil_append, Nat.zero_add, <- h, List.drop_length, List.append_nil]
section
variable {P : Program} {cx : Cx} {ops : Array Oper} {Rt : Option (List Nat)} {nb i : Nat} {l : List Oper} {lg : eN} {σ : St} {Q : St -> Prop} {fz : List Nat} {α : Type} {f : α -> List C} {L : List α} {a : α} {n : Int} {m : Nat} {t : TypeId} {x y : Operand} {dst : Option Tmp} {ty : TypeId} {pos : String} {af : Array Edge} {g : Option (Nat × Bool)}
theorem lH (he : B3 L n = some a) {b1 : Option LB} {cs : List C} (k : Chain (Cj P cx fz) ops Rt nb (Dr (i + 1) l) ((i, false, nb + 8 * i, [], []) :: lg) (σ.app dst (v0 (.agg (cs.map Uj)))) Q) [T : Nf P t true m]
  (hds : Dw σ true [x] = some [(.elt ((Aq f L).drop (n.toNat * m)), b1)] := by exact rfl) (E : So f m := by exact inferInstance) (hc : f a = cs := by exact nl_) (G : Ja ops σ ⟨dst, .load t x, ty, pos, af, g⟩ = some true := by exact O2)
  (hok : Jt Rt i false (nb + 8 * i) [] [] lg = true := by exact rfl) (hz : zM fz (nb + 8 * i) = 0 := by exact rfl) (hap : Nt cx.np (.load t x) [] = true := by exact rfl) : Chain (Cj P cx fz) ops Rt nb (Dr i (⟨dst, .load t x, ty, pos, af, g⟩ :: l)) lg σ Q :=
 Cr G hds (Dm T.h (Ie E.h (Cq he) (o := 0) (m := m) (by rw [List.drop_zero, List.take_of_length_le (by rw [E.h]; exact Nat.le_refl _)]; exact hc) (by omega) rfl) (Ek E.h (Cq he) (o := 0) (m := m) (by omega) rfl)) rfl hok k hz hap
theorem Vw (he : B3 L n = some a) {b1 : Option LB} {c : C} {sz : Nat} (k : Chain (Cj P cx fz) ops Rt nb (Dr (i + 1) l) ((i, false, nb + 8 * i, [], []) :: lg) (σ.app dst (v0 (Uj c))) Q) [T : Nf P t false sz]
  (hds : Dw σ true [x] = some [(.elt ((Aq f L).drop (n.toNat * 1)), b1)] := by exact rfl) (E : So f 1 := by exact inferInstance) (hc : f a = [c] := by exact rfl) (G : Ja ops σ ⟨dst, .load t x, ty, pos, af, g⟩ = some true := by exact O2)
  (hok : Jt Rt i false (nb + 8 * i) [] [] lg = true := by exact rfl) (hz : zM fz (nb + 8 * i) = 0 := by exact rfl) (hap : Nt cx.np (.load t x) [] = true := by exact rfl) : Chain (Cj P cx fz) ops Rt nb (Dr i (⟨dst, .load t x, ty, pos, af, g⟩ :: l)) lg σ Q :=
 Cr G hds (Dn T.h (Is E.h (Cq he) (o := 0) (by rw [hc]; rfl) rfl)) rfl hok k hz hap
theorem J7 (he : B3 L n = some a) {kr e' : Nat} {cs : List C} (k : Chain (Cj P cx fz) ops Rt nb (Dr (i + 1) l) ((i, false, nb + 8 * i, [kr], []) :: lg) (σ.app dst (v0 (.agg (cs.map Uj)))) Q) [T : Nf P t true m]
  (hds : Dw σ true [x] = some [(.ptr kr (n.toNat * m), some (.row e' m (Aq f L)))] := by exact rfl) (E : So f m := by exact inferInstance) (hc : f a = cs := by exact nl_) (G : Ja ops σ ⟨dst, .load t x, ty, pos, af, g⟩ = some true := by exact O2)
  (hok : Jt Rt i false (nb + 8 * i) [kr] [] lg = true := by exact rfl) (hz : zM fz (nb + 8 * i) = 0 := by exact rfl) (hap : Nt cx.np (.load t x) [] = true := by exact rfl) : Chain (Cj P cx fz) ops Rt nb (Dr i (⟨dst, .load t x, ty, pos, af, g⟩ :: l)) lg σ Q :=
 G4 (rd := [kr]) G hds (Ta T.h (Ie E.h (Cq he) (o := 0) (m := m) (by rw [List.drop_zero, List.take_of_length_le (by rw [E.h]; exact Nat.le_refl _)]; exact hc) (by omega) rfl) (Ek E.h (Cq he) (o := 0) (m := m) (by omega) rfl)) rfl hok k hz hap
theorem Sl {ck : List (Option Nat)} (hk : Iv P 20 t = ck) (he : B3 L n = some a) {x' : α} {d : DV} {b2 : Option LB} {kr e' : Nat} {cs' : List C} {ag : Bool} {rd : List Nat} (k : Chain (Cj P cx fz) ops Rt nb (Dr (i + 1) l) ((i, false, nb + 8 * i, rd, [kr]) :: lg) (σ.app dst (jR kr (.row e' m (Aq f (Cd L n.toNat x'))))) Q) [T : Nf P t ag m]
  (hds : Dw σ true [x, y] = some [(.ptr kr (n.toNat * m), some (.row e' m (Aq f L))), (d, b2)] := by exact rfl) (E : So f m := by exact inferInstance) (hx : f x' = cs' := by exact nl_) (hd : Jn ck (Ck d) cs' := by exact dc_) (hs : (Ck d).length = m := by exact rfl)
  (hr : Jp false [(DV.ptr kr (n.toNat * m), some (LB.row e' m (Aq f L))), (d, b2)] = rd := by first | exact (rfl : _ = [_]) | exact (rfl : _ = [_, _]) | exact (rfl : _ = [_, _, _])) (G : Ja ops σ ⟨dst, .store t x y, ty, pos, af, g⟩ = some true := by exact O2)
  (hok : Jt Rt i false (nb + 8 * i) rd [kr] lg = true := by exact rfl) (hz : zM fz (nb + 8 * i) = 0 := by exact rfl) (hap : Nt cx.np (.store t x y) [kr] = true := by exact rfl) : Chain (Cj P cx fz) ops Rt nb (Dr i (⟨dst, .store t x y, ty, pos, af, g⟩ :: l)) lg σ Q :=
 G4 G hds (X1 T.h hs (Ek E.h (Cq he) (o := 0) (m := m) (by omega) rfl) hk hd (Su E.h (Cq he) (o := 0) (x' := x') (by rw [<- hx, E.h]; omega) (by rw [<- hx]; exact cA (by rw [E.h, E.h])) rfl)) hr hok k hz hap
theorem Ka {e sz bytes len : Nat} {parts : Array (Nat × Operand)} {ds : List (DV × Option LB)} {z : List Value} {cs : List C} {ck : List (Option Nat)} (hS : Hq P t e sz bytes) (hz : Zt P e z) (hk : Iv P 20 e = ck) (lv : List α) (fv : α -> List C) (k : Chain (Cj P cx fz) ops Rt nb (Dr (i + 1) l) ((i, false, nb + 8 * i, [], []) :: lg) (σ.app dst (Mh (nb + 8 * i) (.row e sz (Aq fv lv)) (.row (nb + 8 * i)))) Q)
  (hds : Dw σ false (Op.buildSlice t len parts).operands.toList = some ds := by exact rfl) (hc : Jn (List.replicate len ck).flatten (ds.flatMap fun q => Ck q.1) cs := by exact dc_) (h : Aq fv lv = cs := by exact rfl) (hlen : Nat.ble (len * sz) 16777216 = true := by exact rfl) (hp : parts.toList.map (·.1) = List.range' 0 len := by exact rfl) (hzl : z.length = sz := by exact rfl) (hn : ds.length = len := by exact rfl)
  (hs : ds.all (fun q => Nat.beq (Ck q.1).length sz) = true := by exact rfl) (ho : ds.all (fun q => (Ck q.1).all Wr) = true := by exact rfl) (G : Ja ops σ ⟨dst, .buildSlice t len parts, ty, pos, af, g⟩ = some true := by exact O2)
  (hok : Jt Rt i false (nb + 8 * i) [] [] lg = true := by exact rfl) (hz' : zM fz (nb + 8 * i) = 0 := by exact rfl) (hap : Nt cx.np (.buildSlice t len parts) [] = true := by exact rfl) : Chain (Cj P cx fz) ops Rt nb (Dr i (⟨dst, .buildSlice t len parts, ty, pos, af, g⟩ :: l)) lg σ Q :=
 Cr G hds (Fp hS hz (Nat.le_of_ble_eq_true hlen) hp hzl hn hs hk hc ho h) rfl hok k hz' hap
theorem zW {e sz bytes len : Nat} {parts : Array (Nat × Operand)} {ds : List (DV × Option LB)} {z : List Value} {cs : List C} {ck : List (Option Nat)} (hS : Hq P t e sz bytes) (hz : Zt P e z) (hk : Iv P 20 e = ck) (lv : List α) (fv : α -> List C) (k : Chain (Cj P cx fz) ops Rt nb (Dr (i + 1) l) ((i, false, nb + 8 * i, [], []) :: lg) (σ.app dst (Yb sz (Aq fv lv) [])) Q)
  (hds : Dw σ false (Op.buildSlice t len parts).operands.toList = some ds := by exact rfl) (hc : Jn (List.replicate len ck).flatten (ds.flatMap fun q => Ck q.1) cs := by exact dc_) (h : Aq fv lv = cs := by exact rfl) (hlen : Nat.ble (len * sz) 16777216 = true := by exact rfl) (hp : parts.toList.map (·.1) = List.range' 0 len := by exact rfl) (hzl : z.length = sz := by exact rfl) (hn : ds.length = len := by exact rfl)
  (hs : ds.all (fun q => Nat.beq (Ck q.1).length sz) = true := by exact rfl) (ho : ds.all (fun q => (Ck q.1).all Wr) = true := by exact rfl) (G : Ja ops σ ⟨dst, .buildSlice t len parts, ty, pos, af, g⟩ = some true := by exact O2)
  (hok : Jt Rt i false (nb + 8 * i) [] [] lg = true := by exact rfl) (hz' : zM fz (nb + 8 * i) = 1 := by exact rfl) (hap : Nt cx.np (.buildSlice t len parts) [] = true := by exact rfl) : Chain (Cj P cx fz) ops Rt nb (Dr i (⟨dst, .buildSlice t len parts, ty, pos, af, g⟩ :: l)) lg σ Q :=
 yM (rd := []) G hds (Fp hS hz (Nat.le_of_ble_eq_true hlen) hp hzl hn hs hk hc ho h) rfl rfl hok k hz' hap
theorem Ro {fields : _} {places : List (Nat × Nat)} {z : List Value} {r0 r : List DV} {parts : Array (Nat × Operand)} {ds : List (DV × Option LB)} (hu : P.underlying t = some (.struct fields)) (hp : fields.toList.map (fun f => (P.info? f.type).map fun i => (f.offset, i.size)) = places.map some) (hz : Zt P t z) (k : Chain (Cj P cx fz) ops Rt nb (Dr (i + 1) l) ((i, false, nb + 8 * i, [], []) :: lg) (σ.app dst (v0 (.agg r))) Q)
  (hds : Dw σ false (Op.build t parts).operands.toList = some ds := by exact rfl) (hd : Hr (fun i => places[i]?) (z.map .val) ((parts.toList.map (·.1)).zip (ds.map (·.1))) = some r0 := by exact rfl) (hr : r0 = r := by exact nl_) (ho : ds.all (fun q => (Ck q.1).all Wr) = true := by exact rfl) (G : Ja ops σ ⟨dst, .build t parts, ty, pos, af, g⟩ = some true := by exact O2)
  (hok : Jt Rt i false (nb + 8 * i) [] [] lg = true := by exact rfl) (hz' : zM fz (nb + 8 * i) = 0 := by exact rfl) (hap : Nt cx.np (.build t parts) [] = true := by exact rfl) : Chain (Cj P cx fz) ops Rt nb (Dr i (⟨dst, .build t parts, ty, pos, af, g⟩ :: l)) lg σ Q :=
 Cr G hds (.build hu hp hz (hr ▸ hd) ho) rfl hok k hz' hap
end
theorem Bk {P : Program} {cx : Cx} {id : Nat} {l : List Oper} {σ : St} {y : Code} {Q : Exit -> St -> Prop} (nb nb' : Nat) (B : ∀ k, nb <= k -> σ.U k = false) {j : Nat} {lg' : eN} {σ' : St} {q : Prop} (k : (∀ j, nb' <= j -> σ'.U j = false) -> q)
  (h : Gm P cx [] l.toArray none nb (Dr 0 l) [] σ (Dr j []) lg' σ' := by exact gm_) (s : jY (lK (B4 P cx y Q) Q .normal σ') q := by exact inferInstance) (hn : Nat.ble (nb + 8 * l.length) nb' = true := by rfl) (hd : eY cx.N l = true := by rfl) : B4 P cx (.seq (.region id l.toArray false) y) Q σ :=
 B8 nb nb' B (h _ (F7 k)) hn hd
end Go.Proofs.YtkoflhimdenjaaaGreat
