import Derived.Test.YtfkgbfhpibiheaaEE
set_option linter.unusedVariables false
set_option linter.unusedSimpArgs false
namespace Go.Proofs.Ytfkgbfhpibiheaa
open Go.RowKit
abbrev vk (x : Int) : DV := .val (.int .i64 x)
abbrev wj (x : ByteArray) : DV := .val (.string x)
class O3 (P : Program) (t : TypeId) (ag : outParam Bool) (sz : outParam Nat) : Prop where
 h : Ty P t ag sz
class Tm (P : Program) (s : TypeId) (f : Nat) (off : outParam Nat) (ft : outParam TypeId) : Prop where
 h : Fd P s f off ft
class dF (P : Program) (t : TypeId) (e sz bytes : outParam Nat) : Prop where
 h : Fs P t e sz bytes
class V2 (P : Program) (t : TypeId) (z : outParam (List Value)) : Prop where
 h : Zt P t z
class Uq {α : Type} (f : α -> List C) (sz : outParam Nat) : Prop where
 h : ∀ x, (f x).length = sz
instance : Uq eI 1 := ⟨Lg⟩
instance {k : IntKind} : Uq (eK k) 1 := ⟨Q8 k⟩
instance : Uq e8 1 := ⟨Nc⟩
instance : Uq eS 1 := ⟨Ps⟩
instance : Uq eB 1 := ⟨pX⟩
instance {α : Type} {sz : Nat} {f : α -> List C} : Uq (eL sz f) 1 := ⟨sB sz f⟩
section
variable {P : Program} {cx : Cx} {ops : Array Oper} {Rt : Option (List Nat)} {nb i : Nat} {l : List Oper} {lg lg' : aW} {σ σ' : St} {Q : St -> Prop} {fz : List Nat} {m' : List (Nat × Oper)}
def Gm (P : Program) (cx : Cx) (fz : List Nat) (ops : Array Oper) (Rt : Option (List Nat)) (nb : Nat) (m : List (Nat × Oper)) (lg : aW) (σ : St) (m' : List (Nat × Oper)) (lg' : aW) (σ' : St) : Prop := ∀ Q, Dv (Cm P cx fz) ops Rt nb m' lg' σ' Q -> Dv (Cm P cx fz) ops Rt nb m lg σ Q
theorem Gm.z {m : List (Nat × Oper)} : Gm P cx fz ops Rt nb m lg σ m lg σ := fun _ h => h
theorem Gm.s {dst : Option Tmp} {op : Op} {ty : TypeId} {pos : String} {af : Array Edge} {g : Option (Nat × Bool)} {ds : List (DV × Option LB)} {rd wr : List Nat} {e : Jf} (hds : Du σ (Hl op) op.operands.toList = some ds) (h : Ex P (nb + 8 * i) op ty ds wr e)
  (k : Gm P cx fz ops Rt nb (idx (i + 1) l) ((i, false, nb + 8 * i, rd, wr) :: lg) (σ.app dst e) m' lg' σ') (G : Hx ops σ ⟨dst, op, ty, pos, af, g⟩ = some true) (hrd : (bif Hl op then H6 (I3 op) ds else []) = rd)
  (hok : (Im Rt i false (nb + 8 * i) rd wr lg && (Nat.beq (zM fz (nb + 8 * i)) 0 && Kw cx.np op wr)) = true) :
  Gm P cx fz ops Rt nb (idx i (⟨dst, op, ty, pos, af, g⟩ :: l)) lg σ m' lg' σ' := fun Q hq => by
 simp only [yF] at hok
 exact Ei G hds h hrd hok.1 (k Q hq) (xV hok.2.1) hok.2.2
theorem Gm.k {dst : Option Tmp} {op : Op} {ty : TypeId} {pos : String} {af : Array Edge} {g : Nat × Bool} (G : Hx ops σ ⟨dst, op, ty, pos, af, some g⟩ = some false)
  (hok : Im Rt i false (nb + 8 * i) [] [] lg = true) (k : Gm P cx fz ops Rt nb (idx (i + 1) l) ((i, false, nb + 8 * i, [], []) :: lg) (σ.app dst bG) m' lg' σ') :
  Gm P cx fz ops Rt nb (idx i (⟨dst, op, ty, pos, af, some g⟩ :: l)) lg σ m' lg' σ' := fun Q hq => lR G hok (k Q hq)
theorem tR {dst : Option Tmp} {op : Op} {ty : TypeId} {pos : String} {af : Array Edge} : Hx ops σ ⟨dst, op, ty, pos, af, none⟩ = some true := rfl
theorem rT {dst : Option Tmp} {op : Op} {ty : TypeId} {pos : String} {af : Array Edge} {g : Nat} {c : Bool} {t : Tmp} (ht : (ops[g]?).bind (·.dst) = some t) (hF : σ.F t = some (.val (.bool c))) (hc : c = false) : Hx ops σ ⟨dst, op, ty, pos, af, some (g, true)⟩ = some false := oB ht hF hc
theorem rS {dst : Option Tmp} {op : Op} {ty : TypeId} {pos : String} {af : Array Edge} {g : Nat} {c : Bool} {t : Tmp} (ht : (ops[g]?).bind (·.dst) = some t) (hF : σ.F t = some (.val (.bool c))) (hc : c = true) : Hx ops σ ⟨dst, op, ty, pos, af, some (g, false)⟩ = some false := oB ht hF hc
theorem sX {dst : Option Tmp} {op : Op} {ty : TypeId} {pos : String} {af : Array Edge} {g : Nat} {b : Bool} {t : Tmp} (ht : (ops[g]?).bind (·.dst) = some t) (hF : σ.F t = some (.val undef)) : Hx ops σ ⟨dst, op, ty, pos, af, some (g, b)⟩ = some false := by
 unfold Hx
 simp only []
 rw [ht]
 simp only []
 rw [hF]
 rfl
theorem vB {α : Type} {l t t' : List α} {x : α} (h : l = x :: t) (k : t = t') : l = x :: t' := by rw [h, k]
variable {dst : Option Tmp} {ty : TypeId} {pos : String} {af : Array Edge} {g : Option (Nat × Bool)}
theorem Gm.move {x : Operand} {d : DV} {q : Option LB} (hds : Du σ false [x] = some [(d, q)])  (G : Hx ops σ ⟨dst, .move x, ty, pos, af, g⟩ = some true)
  (hok : (Im Rt i false (nb + 8 * i) [] [] lg && (Nat.beq (zM fz (nb + 8 * i)) 0 && Kw cx.np (.move x) [])) = true) (k : Gm P cx fz ops Rt nb (idx (i + 1) l) ((i, false, nb + 8 * i, [], []) :: lg) (σ.app dst (v0 d)) m' lg' σ') : Gm P cx fz ops Rt nb (idx i (⟨dst, .move x, ty, pos, af, g⟩ :: l)) lg σ m' lg' σ' :=
 Gm.s hds (.move) k G rfl hok
theorem Gm.assign {x : Operand} {d : DV} {q : Option LB} (hds : Du σ false [x] = some [(d, q)])  (G : Hx ops σ ⟨dst, .assign x, ty, pos, af, g⟩ = some true)
  (hok : (Im Rt i false (nb + 8 * i) [] [] lg && (Nat.beq (zM fz (nb + 8 * i)) 0 && Kw cx.np (.assign x) [])) = true) (k : Gm P cx fz ops Rt nb (idx (i + 1) l) ((i, false, nb + 8 * i, [], []) :: lg) (σ.app dst (v0 d)) m' lg' σ') : Gm P cx fz ops Rt nb (idx i (⟨dst, .assign x, ty, pos, af, g⟩ :: l)) lg σ m' lg' σ' :=
 Gm.s hds (.assign) k G rfl hok
theorem Gm.fieldP {x : Operand} {s f k j off ft sz : Nat} {ag : Bool} {q : Option LB} [F : Tm P s f off ft] [T : O3 P ft ag sz] (hds : Du σ false [x] = some [(.ptr k j, q)]) (hz0 : Nat.blt 0 sz = true) (G : Hx ops σ ⟨dst, .fieldAddr s x f, ty, pos, af, g⟩ = some true)
  (hok : (Im Rt i false (nb + 8 * i) [] [] lg && (Nat.beq (zM fz (nb + 8 * i)) 0 && Kw cx.np (.fieldAddr s x f) [])) = true) (k : Gm P cx fz ops Rt nb (idx (i + 1) l) ((i, false, nb + 8 * i, [], []) :: lg) (σ.app dst (v0 (.ptr k (j + off)))) m' lg' σ') : Gm P cx fz ops Rt nb (idx i (⟨dst, .fieldAddr s x f, ty, pos, af, g⟩ :: l)) lg σ m' lg' σ' :=
 Gm.s hds (.fieldP F.h T.h (xR hz0)) k G rfl hok
theorem Gm.load1 {x : Operand} {t k j bt sz : Nat} {ds : List DV} {d : DV} [T : O3 P t false sz] (hds : Du σ true [x] = some [(.ptr k j, some (.box ds bt))]) (hd : ds[j]? = some d) (G : Hx ops σ ⟨dst, .load t x, ty, pos, af, g⟩ = some true)
  (hok : (Im Rt i false (nb + 8 * i) [k] [] lg && (Nat.beq (zM fz (nb + 8 * i)) 0 && Kw cx.np (.load t x) [])) = true) (k : Gm P cx fz ops Rt nb (idx (i + 1) l) ((i, false, nb + 8 * i, [k], []) :: lg) (σ.app dst (v0 d)) m' lg' σ') : Gm P cx fz ops Rt nb (idx i (⟨dst, .load t x, ty, pos, af, g⟩ :: l)) lg σ m' lg' σ' :=
 Gm.s hds (.loadB1 T.h hd) k G rfl hok
theorem Gm.loadA {x : Operand} {t k j bt sz : Nat} {ds : List DV} [T : O3 P t true sz] (hds : Du σ true [x] = some [(.ptr k j, some (.box ds bt))]) (hd : Nat.ble (j + sz) ds.length = true) (G : Hx ops σ ⟨dst, .load t x, ty, pos, af, g⟩ = some true)
  (hok : (Im Rt i false (nb + 8 * i) [k] [] lg && (Nat.beq (zM fz (nb + 8 * i)) 0 && Kw cx.np (.load t x) [])) = true) (k : Gm P cx fz ops Rt nb (idx (i + 1) l) ((i, false, nb + 8 * i, [k], []) :: lg) (σ.app dst (v0 (.agg ((ds.drop j).take sz)))) m' lg' σ') : Gm P cx fz ops Rt nb (idx i (⟨dst, .load t x, ty, pos, af, g⟩ :: l)) lg σ m' lg' σ' :=
 Gm.s hds (.loadBA T.h (xR hd)) k G rfl hok
theorem Gm.pickF {x y z : Operand} {c : Bool} {d1 d2 : DV} {q1 q2 q3 : Option LB} (hds : Du σ false [x, y, z] = some [(.val (.bool c), q1), (d1, q2), (d2, q3)]) (hc : c = false) (G : Hx ops σ ⟨dst, .pick x y z, ty, pos, af, g⟩ = some true)
  (hok : (Im Rt i false (nb + 8 * i) [] [] lg && (Nat.beq (zM fz (nb + 8 * i)) 0 && Kw cx.np (.pick x y z) [])) = true) (k : Gm P cx fz ops Rt nb (idx (i + 1) l) ((i, false, nb + 8 * i, [], []) :: lg) (σ.app dst (v0 d2)) m' lg' σ') : Gm P cx fz ops Rt nb (idx i (⟨dst, .pick x y z, ty, pos, af, g⟩ :: l)) lg σ m' lg' σ' :=
 Gm.s hds (lP hc) k G rfl hok
theorem Gm.pickT {x y z : Operand} {c : Bool} {d1 d2 : DV} {q1 q2 q3 : Option LB} (hds : Du σ false [x, y, z] = some [(.val (.bool c), q1), (d1, q2), (d2, q3)]) (hc : c = true) (G : Hx ops σ ⟨dst, .pick x y z, ty, pos, af, g⟩ = some true)
  (hok : (Im Rt i false (nb + 8 * i) [] [] lg && (Nat.beq (zM fz (nb + 8 * i)) 0 && Kw cx.np (.pick x y z) [])) = true) (k : Gm P cx fz ops Rt nb (idx (i + 1) l) ((i, false, nb + 8 * i, [], []) :: lg) (σ.app dst (v0 d1)) m' lg' σ') : Gm P cx fz ops Rt nb (idx i (⟨dst, .pick x y z, ty, pos, af, g⟩ :: l)) lg σ m' lg' σ' :=
 Gm.s hds (lO hc) k G rfl hok
theorem Gm.storeB {x y : Operand} {t k j bt sz : Nat} {ag : Bool} {ds ds' : List DV} {d : DV} {q : Option LB} {rd : List Nat} [T : O3 P t ag sz] (hds : Du σ true [x, y] = some [(.ptr k j, some (.box ds bt)), (d, q)]) (hs : (Ci d).length = sz) (hi : Nat.ble (j + sz) ds.length = true) (ho : (Ci d).all Oh = true) (hn : Ca ds j (Ci d) = ds') (hr : H6 false [(DV.ptr k j, some (LB.box ds bt)), (d, q)] = rd) (G : Hx ops σ ⟨dst, .store t x y, ty, pos, af, g⟩ = some true)
  (hok : (Im Rt i false (nb + 8 * i) rd [k] lg && (Nat.beq (zM fz (nb + 8 * i)) 0 && Kw cx.np (.store t x y) [k])) = true) (k : Gm P cx fz ops Rt nb (idx (i + 1) l) ((i, false, nb + 8 * i, rd, [k]) :: lg) (σ.app dst (aV k (.box ds' bt))) m' lg' σ') : Gm P cx fz ops Rt nb (idx i (⟨dst, .store t x y, ty, pos, af, g⟩ :: l)) lg σ m' lg' σ' :=
 Gm.s hds (Uz T.h hs (xR hi) ho hn) k G hr hok
theorem Gm.extract {x : Operand} {n : Nat} {ds : List DV} {d : DV} {q : Option LB} (hds : Du σ false [x] = some [(.tup ds, q)]) (hd : ds[n]? = some d) (G : Hx ops σ ⟨dst, .extract x n, ty, pos, af, g⟩ = some true)
  (hok : (Im Rt i false (nb + 8 * i) [] [] lg && (Nat.beq (zM fz (nb + 8 * i)) 0 && Kw cx.np (.extract x n) [])) = true) (k : Gm P cx fz ops Rt nb (idx (i + 1) l) ((i, false, nb + 8 * i, [], []) :: lg) (σ.app dst (v0 d)) m' lg' σ') : Gm P cx fz ops Rt nb (idx i (⟨dst, .extract x n, ty, pos, af, g⟩ :: l)) lg σ m' lg' σ' :=
 Gm.s hds (.extract hd) k G rfl hok
theorem Gm.lss {x y : Operand} {t yt : TypeId} {kk : IntKind} {a b : Int} {q1 q2 : Option LB} (hds : Du σ false [x, y] = some [(.val (.int kk a), q1), (.val (.int kk b), q2)])  (G : Hx ops σ ⟨dst, .binOp .lss t x y yt, ty, pos, af, g⟩ = some true)
  (hok : (Im Rt i false (nb + 8 * i) [] [] lg && (Nat.beq (zM fz (nb + 8 * i)) 0 && Kw cx.np (.binOp .lss t x y yt) [])) = true) (k : Gm P cx fz ops Rt nb (idx (i + 1) l) ((i, false, nb + 8 * i, [], []) :: lg) (σ.app dst (v0 (.val (.bool (decide (a < b)))))) m' lg' σ') : Gm P cx fz ops Rt nb (idx i (⟨dst, .binOp .lss t x y yt, ty, pos, af, g⟩ :: l)) lg σ m' lg' σ' :=
 Gm.s hds (vG) k G rfl hok
theorem Gm.eql {x y : Operand} {t yt : TypeId} {kk : IntKind} {a b : Int} {q1 q2 : Option LB} (hds : Du σ false [x, y] = some [(.val (.int kk a), q1), (.val (.int kk b), q2)])  (G : Hx ops σ ⟨dst, .binOp .eql t x y yt, ty, pos, af, g⟩ = some true)
  (hok : (Im Rt i false (nb + 8 * i) [] [] lg && (Nat.beq (zM fz (nb + 8 * i)) 0 && Kw cx.np (.binOp .eql t x y yt) [])) = true) (k : Gm P cx fz ops Rt nb (idx (i + 1) l) ((i, false, nb + 8 * i, [], []) :: lg) (σ.app dst (v0 (.val (.bool (decide (a = b)))))) m' lg' σ') : Gm P cx fz ops Rt nb (idx i (⟨dst, .binOp .eql t x y yt, ty, pos, af, g⟩ :: l)) lg σ m' lg' σ' :=
 Gm.s hds (tH) k G rfl hok
theorem Gm.gtr {x y : Operand} {t yt : TypeId} {kk : IntKind} {a b : Int} {q1 q2 : Option LB} (hds : Du σ false [x, y] = some [(.val (.int kk a), q1), (.val (.int kk b), q2)])  (G : Hx ops σ ⟨dst, .binOp .gtr t x y yt, ty, pos, af, g⟩ = some true)
  (hok : (Im Rt i false (nb + 8 * i) [] [] lg && (Nat.beq (zM fz (nb + 8 * i)) 0 && Kw cx.np (.binOp .gtr t x y yt) [])) = true) (k : Gm P cx fz ops Rt nb (idx (i + 1) l) ((i, false, nb + 8 * i, [], []) :: lg) (σ.app dst (v0 (.val (.bool (decide (b < a)))))) m' lg' σ') : Gm P cx fz ops Rt nb (idx i (⟨dst, .binOp .gtr t x y yt, ty, pos, af, g⟩ :: l)) lg σ m' lg' σ' :=
 Gm.s hds (tJ) k G rfl hok
theorem Gm.leq {x y : Operand} {t yt : TypeId} {kk : IntKind} {a b : Int} {q1 q2 : Option LB} (hds : Du σ false [x, y] = some [(.val (.int kk a), q1), (.val (.int kk b), q2)])  (G : Hx ops σ ⟨dst, .binOp .leq t x y yt, ty, pos, af, g⟩ = some true)
  (hok : (Im Rt i false (nb + 8 * i) [] [] lg && (Nat.beq (zM fz (nb + 8 * i)) 0 && Kw cx.np (.binOp .leq t x y yt) [])) = true) (k : Gm P cx fz ops Rt nb (idx (i + 1) l) ((i, false, nb + 8 * i, [], []) :: lg) (σ.app dst (v0 (.val (.bool (decide (a <= b)))))) m' lg' σ') : Gm P cx fz ops Rt nb (idx i (⟨dst, .binOp .leq t x y yt, ty, pos, af, g⟩ :: l)) lg σ m' lg' σ' :=
 Gm.s hds (tO) k G rfl hok
theorem Gm.geq {x y : Operand} {t yt : TypeId} {kk : IntKind} {a b : Int} {q1 q2 : Option LB} (hds : Du σ false [x, y] = some [(.val (.int kk a), q1), (.val (.int kk b), q2)])  (G : Hx ops σ ⟨dst, .binOp .geq t x y yt, ty, pos, af, g⟩ = some true)
  (hok : (Im Rt i false (nb + 8 * i) [] [] lg && (Nat.beq (zM fz (nb + 8 * i)) 0 && Kw cx.np (.binOp .geq t x y yt) [])) = true) (k : Gm P cx fz ops Rt nb (idx (i + 1) l) ((i, false, nb + 8 * i, [], []) :: lg) (σ.app dst (v0 (.val (.bool (decide (b <= a)))))) m' lg' σ') : Gm P cx fz ops Rt nb (idx i (⟨dst, .binOp .geq t x y yt, ty, pos, af, g⟩ :: l)) lg σ m' lg' σ' :=
 Gm.s hds (uW) k G rfl hok
theorem Gm.neq {x y : Operand} {t yt : TypeId} {kk : IntKind} {a b : Int} {q1 q2 : Option LB} (hds : Du σ false [x, y] = some [(.val (.int kk a), q1), (.val (.int kk b), q2)])  (G : Hx ops σ ⟨dst, .binOp .neq t x y yt, ty, pos, af, g⟩ = some true)
  (hok : (Im Rt i false (nb + 8 * i) [] [] lg && (Nat.beq (zM fz (nb + 8 * i)) 0 && Kw cx.np (.binOp .neq t x y yt) [])) = true) (k : Gm P cx fz ops Rt nb (idx (i + 1) l) ((i, false, nb + 8 * i, [], []) :: lg) (σ.app dst (v0 (.val (.bool (!decide (a = b)))))) m' lg' σ') : Gm P cx fz ops Rt nb (idx i (⟨dst, .binOp .neq t x y yt, ty, pos, af, g⟩ :: l)) lg σ m' lg' σ' :=
 Gm.s hds (uK) k G rfl hok
theorem Gm.seql {x y : Operand} {t yt : TypeId} {a b : ByteArray} {q1 q2 : Option LB} (hds : Du σ false [x, y] = some [(.val (.string a), q1), (.val (.string b), q2)])  (G : Hx ops σ ⟨dst, .binOp .eql t x y yt, ty, pos, af, g⟩ = some true)
  (hok : (Im Rt i false (nb + 8 * i) [] [] lg && (Nat.beq (zM fz (nb + 8 * i)) 0 && Kw cx.np (.binOp .eql t x y yt) [])) = true) (k : Gm P cx fz ops Rt nb (idx (i + 1) l) ((i, false, nb + 8 * i, [], []) :: lg) (σ.app dst (v0 (.val (.bool (decide (a = b)))))) m' lg' σ') : Gm P cx fz ops Rt nb (idx i (⟨dst, .binOp .eql t x y yt, ty, pos, af, g⟩ :: l)) lg σ m' lg' σ' :=
 Gm.s hds (qR) k G rfl hok
theorem Gm.sneq {x y : Operand} {t yt : TypeId} {a b : ByteArray} {q1 q2 : Option LB} (hds : Du σ false [x, y] = some [(.val (.string a), q1), (.val (.string b), q2)])  (G : Hx ops σ ⟨dst, .binOp .neq t x y yt, ty, pos, af, g⟩ = some true)
  (hok : (Im Rt i false (nb + 8 * i) [] [] lg && (Nat.beq (zM fz (nb + 8 * i)) 0 && Kw cx.np (.binOp .neq t x y yt) [])) = true) (k : Gm P cx fz ops Rt nb (idx (i + 1) l) ((i, false, nb + 8 * i, [], []) :: lg) (σ.app dst (v0 (.val (.bool (!decide (a = b)))))) m' lg' σ') : Gm P cx fz ops Rt nb (idx i (⟨dst, .binOp .neq t x y yt, ty, pos, af, g⟩ :: l)) lg σ m' lg' σ' :=
 Gm.s hds (pH) k G rfl hok
theorem Gm.add {x y : Operand} {t yt : TypeId} {a b : Int} {q1 q2 : Option LB} (hds : Du σ false [x, y] = some [(.val (.int .i64 a), q1), (.val (.int .i64 b), q2)])  (G : Hx ops σ ⟨dst, .binOp .add t x y yt, ty, pos, af, g⟩ = some true)
  (hok : (Im Rt i false (nb + 8 * i) [] [] lg && (Nat.beq (zM fz (nb + 8 * i)) 0 && Kw cx.np (.binOp .add t x y yt) [])) = true) (k : Gm P cx fz ops Rt nb (idx (i + 1) l) ((i, false, nb + 8 * i, [], []) :: lg) (σ.app dst (v0 (.val (.int .i64 (W (a + b)))))) m' lg' σ') : Gm P cx fz ops Rt nb (idx i (⟨dst, .binOp .add t x y yt, ty, pos, af, g⟩ :: l)) lg σ m' lg' σ' :=
 Gm.s hds (uG) k G rfl hok
theorem Gm.sub {x y : Operand} {t yt : TypeId} {a b : Int} {q1 q2 : Option LB} (hds : Du σ false [x, y] = some [(.val (.int .i64 a), q1), (.val (.int .i64 b), q2)])  (G : Hx ops σ ⟨dst, .binOp .sub t x y yt, ty, pos, af, g⟩ = some true)
  (hok : (Im Rt i false (nb + 8 * i) [] [] lg && (Nat.beq (zM fz (nb + 8 * i)) 0 && Kw cx.np (.binOp .sub t x y yt) [])) = true) (k : Gm P cx fz ops Rt nb (idx (i + 1) l) ((i, false, nb + 8 * i, [], []) :: lg) (σ.app dst (v0 (.val (.int .i64 (W (a - b)))))) m' lg' σ') : Gm P cx fz ops Rt nb (idx i (⟨dst, .binOp .sub t x y yt, ty, pos, af, g⟩ :: l)) lg σ m' lg' σ' :=
 Gm.s hds (sZ) k G rfl hok
theorem Gm.mul {x y : Operand} {t yt : TypeId} {a b : Int} {q1 q2 : Option LB} (hds : Du σ false [x, y] = some [(.val (.int .i64 a), q1), (.val (.int .i64 b), q2)])  (G : Hx ops σ ⟨dst, .binOp .mul t x y yt, ty, pos, af, g⟩ = some true)
  (hok : (Im Rt i false (nb + 8 * i) [] [] lg && (Nat.beq (zM fz (nb + 8 * i)) 0 && Kw cx.np (.binOp .mul t x y yt) [])) = true) (k : Gm P cx fz ops Rt nb (idx (i + 1) l) ((i, false, nb + 8 * i, [], []) :: lg) (σ.app dst (v0 (.val (.int .i64 (W (a * b)))))) m' lg' σ') : Gm P cx fz ops Rt nb (idx i (⟨dst, .binOp .mul t x y yt, ty, pos, af, g⟩ :: l)) lg σ m' lg' σ' :=
 Gm.s hds (uT) k G rfl hok
theorem Gm.alloc {t : TypeId} {z : List Value} [Z : V2 P t z] (hds : Du σ false [] = some [])  (G : Hx ops σ ⟨dst, .alloc t, ty, pos, af, g⟩ = some true)
  (hok : (Im Rt i false (nb + 8 * i) [] [] lg && (Nat.beq (zM fz (nb + 8 * i)) 0 && Kw cx.np (.alloc t) [])) = true) (k : Gm P cx fz ops Rt nb (idx (i + 1) l) ((i, false, nb + 8 * i, [], []) :: lg) (σ.app dst (J2 (nb + 8 * i) (.box (z.map .val) t) (.ptr (nb + 8 * i) 0))) m' lg' σ') : Gm P cx fz ops Rt nb (idx i (⟨dst, .alloc t, ty, pos, af, g⟩ :: l)) lg σ m' lg' σ' :=
 Gm.s hds (.alloc Z.h) k G rfl hok
theorem Gm.box {x : Operand} {t : TypeId} {d : DV} {q : Option LB} (hds : Du σ false [x] = some [(d, q)]) (ho : (Ci d).all Oh = true) (G : Hx ops σ ⟨dst, .box t x, ty, pos, af, g⟩ = some true)
  (hok : (Im Rt i false (nb + 8 * i) [] [] lg && (Nat.beq (zM fz (nb + 8 * i)) 0 && Kw cx.np (.box t x) [])) = true) (k : Gm P cx fz ops Rt nb (idx (i + 1) l) ((i, false, nb + 8 * i, [], []) :: lg) (σ.app dst (J2 (nb + 8 * i) (.box (Ci d) t) (.ptr (nb + 8 * i) 0))) m' lg' σ') : Gm P cx fz ops Rt nb (idx i (⟨dst, .box t x, ty, pos, af, g⟩ :: l)) lg σ m' lg' σ' :=
 Gm.s hds (.box ho) k G rfl hok
theorem Gm.not {x : Operand} {t : TypeId} {b : Bool} {q : Option LB} (hds : Du σ false [x] = some [(.val (.bool b), q)])  (G : Hx ops σ ⟨dst, .unOp .not t x, ty, pos, af, g⟩ = some true)
  (hok : (Im Rt i false (nb + 8 * i) [] [] lg && (Nat.beq (zM fz (nb + 8 * i)) 0 && Kw cx.np (.unOp .not t x) [])) = true) (k : Gm P cx fz ops Rt nb (idx (i + 1) l) ((i, false, nb + 8 * i, [], []) :: lg) (σ.app dst (v0 (.val (.bool (!b))))) m' lg' σ') : Gm P cx fz ops Rt nb (idx i (⟨dst, .unOp .not t x, ty, pos, af, g⟩ :: l)) lg σ m' lg' σ' :=
 Gm.s hds (uV) k G rfl hok
theorem Gm.lenS {α : Type} {f : α -> List C} {L : List α} {x : Operand} {t e sz by_ : Nat} {q : Option LB} [S : dF P t e sz by_] (hds : Du σ true [x] = some [(.sl sz (As f L), q)]) (E : Uq f sz) (G : Hx ops σ ⟨dst, .call ⟨.builtin .len, #[x], #[t]⟩, ty, pos, af, g⟩ = some true)
  (hok : (Im Rt i false (nb + 8 * i) [] [] lg && (Nat.beq (zM fz (nb + 8 * i)) 0 && Kw cx.np (.call ⟨.builtin .len, #[x], #[t]⟩) [])) = true) (k : Gm P cx fz ops Rt nb (idx (i + 1) l) ((i, false, nb + 8 * i, [], []) :: lg) (σ.app dst (v0 (.val (.int .i64 (L.length : Int))))) m' lg' σ') : Gm P cx fz ops Rt nb (idx i (⟨dst, .call ⟨.builtin .len, #[x], #[t]⟩, ty, pos, af, g⟩ :: l)) lg σ m' lg' σ' :=
 Gm.s hds (sJ S.h E.h) k G rfl hok
theorem Gm.lenR {α : Type} {f : α -> List C} {L : List α} {x : Operand} {t e e' sz by_ k : Nat} [S : dF P t e sz by_] (hds : Du σ true [x] = some [(.row k, some (.row e' sz (As f L)))]) (E : Uq f sz) (G : Hx ops σ ⟨dst, .call ⟨.builtin .len, #[x], #[t]⟩, ty, pos, af, g⟩ = some true)
  (hok : (Im Rt i false (nb + 8 * i) [k] [] lg && (Nat.beq (zM fz (nb + 8 * i)) 0 && Kw cx.np (.call ⟨.builtin .len, #[x], #[t]⟩) [])) = true) (k : Gm P cx fz ops Rt nb (idx (i + 1) l) ((i, false, nb + 8 * i, [k], []) :: lg) (σ.app dst (v0 (.val (.int .i64 (L.length : Int))))) m' lg' σ') : Gm P cx fz ops Rt nb (idx i (⟨dst, .call ⟨.builtin .len, #[x], #[t]⟩, ty, pos, af, g⟩ :: l)) lg σ m' lg' σ' :=
 Gm.s hds (pL S.h E.h) k G rfl hok
theorem Gm.idxS {α : Type} {f : α -> List C} {L : List α} {a : α} {x y : Operand} {t e sz by_ : Nat} {kk : IntKind} {n : Int} {q1 q2 : Option LB} [S : dF P t e sz by_] (hds : Du σ true [x, y] = some [(.sl sz (As f L), q1), (.val (.int kk n), q2)]) (E : Uq f sz) (hx : Bo L n = some a) (G : Hx ops σ ⟨dst, .indexAddr t x y, ty, pos, af, g⟩ = some true)
  (hok : (Im Rt i false (nb + 8 * i) [] [] lg && (Nat.beq (zM fz (nb + 8 * i)) 0 && Kw cx.np (.indexAddr t x y) [])) = true) (k : Gm P cx fz ops Rt nb (idx (i + 1) l) ((i, false, nb + 8 * i, [], []) :: lg) (σ.app dst (v0 (.elt ((As f L).drop (n.toNat * sz))))) m' lg' σ') : Gm P cx fz ops Rt nb (idx i (⟨dst, .indexAddr t x y, ty, pos, af, g⟩ :: l)) lg σ m' lg' σ' :=
 Gm.s hds (rM S.h E.h (Er hx) (A4 hx)) k G rfl hok
theorem Gm.idxR {α : Type} {f : α -> List C} {L : List α} {a : α} {x y : Operand} {t e e' sz by_ k : Nat} {kk : IntKind} {n : Int} {q2 : Option LB} [S : dF P t e sz by_] (hds : Du σ true [x, y] = some [(.row k, some (.row e' sz (As f L))), (.val (.int kk n), q2)]) (E : Uq f sz) (hx : Bo L n = some a) (G : Hx ops σ ⟨dst, .indexAddr t x y, ty, pos, af, g⟩ = some true)
  (hok : (Im Rt i false (nb + 8 * i) [k] [] lg && (Nat.beq (zM fz (nb + 8 * i)) 0 && Kw cx.np (.indexAddr t x y) [])) = true) (k : Gm P cx fz ops Rt nb (idx (i + 1) l) ((i, false, nb + 8 * i, [k], []) :: lg) (σ.app dst (v0 (.ptr k (n.toNat * sz)))) m' lg' σ') : Gm P cx fz ops Rt nb (idx i (⟨dst, .indexAddr t x y, ty, pos, af, g⟩ :: l)) lg σ m' lg' σ' :=
 Gm.s hds (rZ S.h E.h (Er hx) (A4 hx)) k G rfl hok
theorem Gm.nilP {x : Operand} {k j : Nat} {q : Option LB} (hds : Du σ false [x] = some [(.ptr k j, q)])  (G : Hx ops σ ⟨dst, .nilCheck x, ty, pos, af, g⟩ = some true)
  (hok : (Im Rt i false (nb + 8 * i) [] [] lg && (Nat.beq (zM fz (nb + 8 * i)) 0 && Kw cx.np (.nilCheck x) [])) = true) (k : Gm P cx fz ops Rt nb (idx (i + 1) l) ((i, false, nb + 8 * i, [], []) :: lg) (σ.app dst (v0 (.ptr k j))) m' lg' σ') : Gm P cx fz ops Rt nb (idx i (⟨dst, .nilCheck x, ty, pos, af, g⟩ :: l)) lg σ m' lg' σ' :=
 Gm.s hds (.nilP) k G rfl hok
theorem Gm.nilE {x : Operand} {cs : List C} {q : Option LB} (hds : Du σ false [x] = some [(.elt cs, q)])  (G : Hx ops σ ⟨dst, .nilCheck x, ty, pos, af, g⟩ = some true)
  (hok : (Im Rt i false (nb + 8 * i) [] [] lg && (Nat.beq (zM fz (nb + 8 * i)) 0 && Kw cx.np (.nilCheck x) [])) = true) (k : Gm P cx fz ops Rt nb (idx (i + 1) l) ((i, false, nb + 8 * i, [], []) :: lg) (σ.app dst (v0 (.elt cs))) m' lg' σ') : Gm P cx fz ops Rt nb (idx i (⟨dst, .nilCheck x, ty, pos, af, g⟩ :: l)) lg σ m' lg' σ' :=
 Gm.s hds (.nilE) k G rfl hok
theorem Gm.field1 {x : Operand} {s f off ft sz : Nat} {ds : List DV} {d : DV} {q : Option LB} [F : Tm P s f off ft] [T : O3 P ft false sz] (hds : Du σ false [x] = some [(.agg ds, q)]) (hd : ds[off]? = some d) (G : Hx ops σ ⟨dst, .field s x f, ty, pos, af, g⟩ = some true)
  (hok : (Im Rt i false (nb + 8 * i) [] [] lg && (Nat.beq (zM fz (nb + 8 * i)) 0 && Kw cx.np (.field s x f) [])) = true) (k : Gm P cx fz ops Rt nb (idx (i + 1) l) ((i, false, nb + 8 * i, [], []) :: lg) (σ.app dst (v0 d)) m' lg' σ') : Gm P cx fz ops Rt nb (idx i (⟨dst, .field s x f, ty, pos, af, g⟩ :: l)) lg σ m' lg' σ' :=
 Gm.s hds (.field1 F.h T.h hd) k G rfl hok
theorem Gm.fieldA {x : Operand} {s f off ft sz : Nat} {ds : List DV} {q : Option LB} [F : Tm P s f off ft] [T : O3 P ft true sz] (hds : Du σ false [x] = some [(.agg ds, q)])  (G : Hx ops σ ⟨dst, .field s x f, ty, pos, af, g⟩ = some true)
  (hok : (Im Rt i false (nb + 8 * i) [] [] lg && (Nat.beq (zM fz (nb + 8 * i)) 0 && Kw cx.np (.field s x f) [])) = true) (k : Gm P cx fz ops Rt nb (idx (i + 1) l) ((i, false, nb + 8 * i, [], []) :: lg) (σ.app dst (v0 (.agg ((ds.drop off).take sz)))) m' lg' σ') : Gm P cx fz ops Rt nb (idx i (⟨dst, .field s x f, ty, pos, af, g⟩ :: l)) lg σ m' lg' σ' :=
 Gm.s hds (.fieldA F.h T.h) k G rfl hok
theorem Gm.makeF {f : Nat} {first caps : Array Operand} {ds : List (DV × Option LB)} (hds : Du σ false (Op.makeFunc (.func f) first caps).operands.toList = some ds)  (G : Hx ops σ ⟨dst, .makeFunc (.func f) first caps, ty, pos, af, g⟩ = some true)
  (hok : (Im Rt i false (nb + 8 * i) [] [] lg && (Nat.beq (zM fz (nb + 8 * i)) 0 && Kw cx.np (.makeFunc (.func f) first caps) [])) = true) (k : Gm P cx fz ops Rt nb (idx (i + 1) l) ((i, false, nb + 8 * i, [], []) :: lg) (σ.app dst (v0 (.clo f first.size (ds.map (·.1))))) m' lg' σ') : Gm P cx fz ops Rt nb (idx i (⟨dst, .makeFunc (.func f) first caps, ty, pos, af, g⟩ :: l)) lg σ m' lg' σ' :=
 Gm.s hds (.makeFunc) k G rfl hok
theorem L7 {p : Prop} (h : p := by first | with_reducible exact tR | exact Et rfl rfl (by first | with_reducible assumption | with_reducible rfl | with_reducible exact cM (by with_reducible assumption) | with_reducible exact dL (by with_reducible assumption))) : p := h
theorem wV {p : Prop} (h : p := by
  repeat first
   | (apply Gm.move; exact rfl; exact L7; exact rfl)
   | (apply Gm.assign; exact rfl; exact L7; exact rfl)
   | (apply Gm.fieldP; exact rfl; (exact rfl); exact L7; exact rfl)
   | (apply Gm.load1; exact rfl; (exact rfl); exact L7; exact rfl)
   | (apply Gm.loadA; exact rfl; (exact rfl); exact L7; exact rfl)
   | (apply Gm.pickF; exact rfl; (first | with_reducible assumption | with_reducible rfl | with_reducible exact cM (by with_reducible assumption)); exact L7; exact rfl)
   | (apply Gm.pickT; exact rfl; (first | with_reducible assumption | with_reducible rfl | with_reducible exact dL (by with_reducible assumption)); exact L7; exact rfl)
   | (apply Gm.k; (first | exact rT rfl rfl (by first | with_reducible assumption | with_reducible rfl | with_reducible exact cM (by with_reducible assumption) | with_reducible exact dL (by with_reducible assumption)) | exact rS rfl rfl (by first | with_reducible assumption | with_reducible rfl | with_reducible exact cM (by with_reducible assumption) | with_reducible exact dL (by with_reducible assumption)) | exact sX rfl rfl); exact rfl)
   | (apply Gm.storeB; exact rfl; (exact rfl); (exact rfl); (exact rfl); (focus repeat first | exact (rfl : _ = []) | (apply vB; exact rfl)); (first | exact (rfl : _ = [_]) | exact (rfl : _ = [_, _]) | exact (rfl : _ = [_, _, _])); exact L7; exact rfl)
   | (apply Gm.extract; exact rfl; (exact rfl); exact L7; exact rfl)
   | (apply Gm.lss; exact rfl; exact L7; exact rfl)
   | (apply Gm.eql; exact rfl; exact L7; exact rfl)
   | (apply Gm.gtr; exact rfl; exact L7; exact rfl)
   | (apply Gm.leq; exact rfl; exact L7; exact rfl)
   | (apply Gm.geq; exact rfl; exact L7; exact rfl)
   | (apply Gm.neq; exact rfl; exact L7; exact rfl)
   | (apply Gm.seql; exact rfl; exact L7; exact rfl)
   | (apply Gm.sneq; exact rfl; exact L7; exact rfl)
   | (apply Gm.add; exact rfl; exact L7; exact rfl)
   | (apply Gm.sub; exact rfl; exact L7; exact rfl)
   | (apply Gm.mul; exact rfl; exact L7; exact rfl)
   | (apply Gm.alloc; exact rfl; exact L7; exact rfl)
   | (apply Gm.box; exact rfl; (exact rfl); exact L7; exact rfl)
   | (apply Gm.not; exact rfl; exact L7; exact rfl)
   | (apply Gm.lenS; exact rfl; (exact inferInstance); exact L7; exact rfl)
   | (apply Gm.lenR; exact rfl; (exact inferInstance); exact L7; exact rfl)
   | (apply Gm.idxS; exact rfl; (exact inferInstance); (with_reducible assumption); exact L7; exact rfl)
   | (apply Gm.idxR; exact rfl; (exact inferInstance); (with_reducible assumption); exact L7; exact rfl)
   | (apply Gm.nilP; exact rfl; exact L7; exact rfl)
   | (apply Gm.nilE; exact rfl; exact L7; exact rfl)
   | (apply Gm.field1; exact rfl; (exact rfl); exact L7; exact rfl)
   | (apply Gm.fieldA; exact rfl; exact L7; exact rfl)
   | (apply Gm.makeF; exact rfl; exact L7; exact rfl)
  exact Gm.z) : p := h
theorem A8 {m : List (Nat × Oper)} (k : Dv (Cm P cx fz) ops Rt nb m' lg' σ' Q) (h : Gm P cx fz ops Rt nb m lg σ m' lg' σ' := by exact wV) : Dv (Cm P cx fz) ops Rt nb m lg σ Q := h Q k
end
theorem If {R : Type} {b : Bool} {X Y : Option R} {r : R} (G : cond b X Y = some r) : (b = true /\ X = some r) \/ (b = false /\ Y = some r) := by
 cases b with
 | true => exact .inl ⟨rfl, G⟩
 | false => exact .inr ⟨rfl, G⟩
section
variable {P : Program} {cx : Cx} {σ : St} {Q : Exit -> St -> Prop} {x y : Code}
theorem C1 {R : Type} {t : Nat} {b : Bool} {X Y : Option R} {r : R} (hc : σ.F t = some (.val (.bool b))) (G : cond b X Y = some r) (h1 : b = true -> X = some r -> Cp P cx x Q σ) (h2 : b = false -> Y = some r -> Cp P cx y Q σ) : Cp P cx (.cond (.tmp t) x y) Q σ :=
 gU hc (fun h => h1 h (oW h G)) fun h => h2 h (qX h G)
theorem A3 {fl : List (Nat × DV)} {ll : List (Nat × LB)} {n : Nat} (θ : List (Nat × Nat))
  (hF : nI σ (Ec θ) fl := by
   repeat' first
    | exact trivial
    | refine ⟨⟨_, rfl, ?_⟩, ?_⟩
    | exact Cv.val _
    | exact Cv.sl _ _
    | exact Cv.ptr rfl
    | exact Cv.row rfl
    | exact Cv.part rfl
    | exact Cv.nil rfl
    | exact Cv.nils _
    | exact Cv.elt _
    | exact Cv.mp _
    | refine Cv.clo _ _ ?_
    | refine Cv.agg ?_
    | refine Cv.tup ?_
    | refine Cv.clo _ _ ?_
    | exact Lr.nil
    | refine Lr.cons ?_ ?_
    | exact Cv.frzM rfl (Ij rfl)
    | exact Cv.frz rfl (Ij rfl)
    | exact Cv.frzT rfl (Ij rfl))
  (hL : eG σ (Ec θ) ll := by
   repeat' first
    | exact trivial
    | refine ⟨.inl ⟨_, _, rfl, rfl, ⟨rfl, rfl, rfl⟩⟩, ?_⟩
    | refine ⟨.inl ⟨_, _, rfl, rfl, ⟨rfl, rfl, rfl, rfl, rfl, rfl, rfl, rfl⟩⟩, ?_⟩
    | refine ⟨.inl ⟨_, _, rfl, rfl, trivial⟩, ?_⟩
    | refine ⟨.inl ⟨_, _, rfl, rfl, rfl⟩, ?_⟩
    | refine ⟨.inl ⟨_, _, rfl, rfl, ⟨rfl, ?_⟩⟩, ?_⟩
    | refine ⟨.inr ⟨rfl, _, _, rfl⟩, ?_⟩
    | exact Cv.val _
    | exact Cv.sl _ _
    | exact Cv.ptr rfl
    | exact Cv.row rfl
    | exact Cv.part rfl
    | exact Cv.nil rfl
    | exact Cv.nils _
    | exact Cv.elt _
    | exact Cv.mp _
    | refine Cv.clo _ _ ?_
    | refine Cv.agg ?_
    | exact Lr.nil
    | refine Lr.cons ?_ ?_
    | exact Cv.frzM rfl (Ij rfl)
    | exact Cv.frz rfl (Ij rfl)
    | exact Cv.frzT rfl (Ij rfl))
  (hc : eJ fl ll n θ = true := by rfl) (hp : bP θ n cx.np = true := by rfl) : Qy cx σ (mk fl ll n) := Qy.lists θ hc hp hF hL
theorem Gg {S R : Type} {body : S -> Option (Lp S R)} {s0 : S} {r : R} (st : S -> St) (G : B6 body s0 = some r) (h0 : Qy cx σ (st s0)) (round : ∀ (s : S) (m : Nat) (o : Lp S R), body s = some o -> U4 (Ke body m) o = some r -> Cp P cx x (lU (fun σ' => ∃ j : S × Nat, j.2 < m + 1 /\ Ke body j.2 j.1 = some r /\ Qy cx σ' (st j.1)) Q) (st s)) : Cp P cx (.loop x) Q σ := by
 obtain ⟨n, G⟩ := Ov G
 refine iM (ι := S × Nat) (fun q => st q.1) (fun q => Ke body q.2 q.1 = some r) (fun q => q.2) (s0, n) h0 G ?_
 rintro ⟨s, k⟩ hk
 obtain ⟨m, o, rfl, h1, h2⟩ := eC (show Ke body k s = some r from hk)
 exact round s m o h1 h2
theorem Ee {fn : Func} {np : Nat} {R : DV -> List LB -> Prop} {ds : List DV} {r : DV} {bx : List LB} (θ : List (Nat × Nat)) (hR : R r bx)
  (h1 : M2 P σ fn.results.toList ds := by
   repeat first
    | exact M2.nil
    | (apply M2.cons; exact .tmp rfl)
    | (apply M2.cons; exact .cell1 rfl rfl O3.h rfl)
    | (apply M2.cons; exact .cellA rfl rfl O3.h rfl))
  (h2 : Cv σ (Ec θ) (kQ ds) r := by
   repeat' first
    | exact Cv.val _
    | exact Cv.sl _ _
    | exact Cv.ptr rfl
    | exact Cv.row rfl
    | exact Cv.nil rfl
    | exact Cv.nils _
    | exact Cv.elt _
    | exact Cv.mp _
    | refine Cv.clo _ _ ?_
    | refine Cv.agg ?_
    | refine Cv.tup ?_
    | exact Lr.nil
    | refine Lr.cons ?_ ?_
    | exact Cv.frzM rfl (Ij rfl)
    | exact Cv.frz rfl (Ij rfl)
    | exact Cv.frzT rfl (Ij rfl))
  (h3 : eG σ (Ec θ) (ix 0 bx) := by
   repeat' first
    | exact trivial
    | refine ⟨.inl ⟨_, _, rfl, rfl, ⟨rfl, rfl, rfl⟩⟩, ?_⟩
    | refine ⟨.inl ⟨_, _, rfl, rfl, ⟨rfl, rfl, rfl, rfl, rfl, rfl, rfl, rfl⟩⟩, ?_⟩
    | refine ⟨.inl ⟨_, _, rfl, rfl, trivial⟩, ?_⟩
    | refine ⟨.inl ⟨_, _, rfl, rfl, rfl⟩, ?_⟩
    | refine ⟨.inl ⟨_, _, rfl, rfl, ⟨rfl, ?_⟩⟩, ?_⟩
    | refine ⟨.inr ⟨rfl, _, _, rfl⟩, ?_⟩
    | exact Cv.val _
    | exact Cv.sl _ _
    | exact Cv.ptr rfl
    | exact Cv.row rfl
    | exact Cv.nil rfl
    | exact Cv.nils _
    | exact Cv.elt _
    | exact Cv.mp _
    | refine Cv.clo _ _ ?_
    | refine Cv.agg ?_
    | exact Lr.nil
    | refine Lr.cons ?_ ?_
    | exact Cv.frzM rfl (Ij rfl)
    | exact Cv.frz rfl (Ij rfl)
    | exact Cv.frzT rfl (Ij rfl))
  (h4 : eJ [(0, r)] (ix 0 bx) bx.length θ = true := by rfl) (h5 : bP θ bx.length np = true := by rfl) (h6 : Nat.ble np bx.length = true := by rfl) (h7 : Nat.ble bx.length (np + 8) = true := by rfl) (h8 : (bx.take np).all vM = true := by rfl) : Fin P fn np R σ :=
 ⟨ds, r, bx, θ, h1, hR, h2, h3, h4, h5, h6, h7, h8⟩
end
section
variable {P : Program} {cx : Cx} {ops : Array Oper} {Rt : Option (List Nat)} {nb i : Nat} {l : List Oper} {lg : aW} {σ : St} {Q : St -> Prop} {fz : List Nat}
theorem Ix {dst : Option Tmp} {f : FuncId} {xs : Array Operand} {tys : Array TypeId} {ty : TypeId} {pos : String} {af : Array Edge} {g : Option (Nat × Bool)} {dsA : List (DV × Option LB)} {args : List DV} {d : DV}
  (hF : Fn P f 0 args [] (fun d' b' => d' = d /\ b' = []))
  (k : Dv (Cm P cx fz) ops Rt nb (idx (i + 1) l) ((i, true, nb + 8 * i, [], []) :: lg) (σ.app dst (eQ [] [] d [])) Q)
  (hds : Du σ true xs.toList = some dsA := by rfl)
  (hA : Kx false ([] ++ []) (Jb σ []) (dsA.map (·.1)) args := by
   repeat' first
    | exact Kx.nil
    | exact Ag.val
    | exact Ag.sl
    | exact Ag.nils
    | exact Ag.elt
    | exact Ag.fn
    | refine Ag.agg ?_
    | refine Ag.clo ?_
    | refine Kx.cons ?_ ?_)
  (G : Hx ops σ ⟨dst, .call ⟨.value (.func f), xs, tys⟩, ty, pos, af, g⟩ = some true := by exact L7)
  (hrd : Mn σ 3 (Nn dsA) = [] := by rfl) (hok : Im Rt i true (nb + 8 * i) [] [] lg = true := by rfl) (hr : Ga d = [] := by rfl) :
  Dv (Cm P cx fz) ops Rt nb (idx i (⟨dst, .call ⟨.value (.func f), xs, tys⟩, ty, pos, af, g⟩ :: l)) lg σ Q :=
 Ze (ps := []) (gs := []) (rd := []) (bx := []) (b := []) false G hF hds hrd hA rfl rfl (fun h => by cases h) hok hr rfl rfl k
theorem G7 {dst : Option Tmp} {f : FuncId} {xs : Array Operand} {tys : Array TypeId} {ty : TypeId} {pos : String} {af : Array Edge} {g : Option (Nat × Bool)} {dsA : List (DV × Option LB)} {args : List DV} {bx : List LB} {d : DV} {b : List LB} (rd ps gs : List Nat) (fl : Bool)
  (hF : Fn P f ps.length args bx (fun d' b' => d' = d /\ b' = b))
  (k : Dv (Cm P cx fz) ops Rt nb (idx (i + 1) l) ((i, true, nb + 8 * i, rd, ps ++ gs) :: lg) (σ.app dst (eQ ps gs d b)) Q)
  (hds : Du σ true xs.toList = some dsA := by rfl)
  (hA : Kx fl (ps ++ gs) (Jb σ rd) (dsA.map (·.1)) args := by
   repeat' first
    | exact Kx.nil
    | exact Ag.val
    | exact Ag.sl
    | exact Ag.nils
    | exact Ag.elt
    | exact Ag.fn
    | exact Ag.ptr rfl
    | exact Ag.rowK rfl
    | exact Ag.row rfl (by repeat first | exact List.Mem.head _ | refine List.Mem.tail _ ?_) rfl
    | refine Ag.agg ?_
    | refine Ag.clo ?_
    | refine Kx.cons ?_ ?_)
  (hB : Vk fl (ps ++ gs) (Jb σ rd) (ps ++ gs) bx := by
   repeat' first
    | exact (rfl : _ = [])
    | refine ⟨_, _, _, rfl, (.head _), ⟨_, rfl, ?_⟩, ?_⟩
    | refine ⟨_, _, _, rfl, (.tail _ (.head _)), ⟨_, rfl, ?_⟩, ?_⟩
    | refine ⟨_, _, _, rfl, (.tail _ (.tail _ (.head _))), ⟨_, rfl, ?_⟩, ?_⟩
    | refine ⟨_, _, _, rfl, (.tail _ (.tail _ (.tail _ (.head _)))), ⟨_, rfl, ?_⟩, ?_⟩
    | refine ⟨_, _, _, rfl, (.tail _ (.tail _ (.tail _ (.tail _ (.head _))))), ⟨_, rfl, ?_⟩, ?_⟩
    | refine ⟨_, _, _, rfl, (.tail _ (.tail _ (.tail _ (.tail _ (.tail _ (.head _)))))), ⟨_, rfl, ?_⟩, ?_⟩
    | refine ⟨_, _, _, rfl, (.tail _ (.tail _ (.tail _ (.tail _ (.tail _ (.tail _ (.head _))))))), ⟨_, rfl, ?_⟩, ?_⟩
    | refine ⟨_, _, _, rfl, (.head _), rfl, ?_⟩
    | refine ⟨_, _, _, rfl, (.tail _ (.head _)), rfl, ?_⟩
    | refine ⟨_, _, _, rfl, (.tail _ (.tail _ (.head _))), rfl, ?_⟩
    | refine ⟨_, _, _, rfl, (.tail _ (.tail _ (.tail _ (.head _)))), rfl, ?_⟩
    | refine ⟨_, _, _, rfl, (.tail _ (.tail _ (.tail _ (.tail _ (.head _))))), rfl, ?_⟩
    | refine ⟨_, _, _, rfl, (.tail _ (.tail _ (.tail _ (.tail _ (.tail _ (.head _)))))), rfl, ?_⟩
    | refine ⟨_, _, _, rfl, (.tail _ (.tail _ (.tail _ (.tail _ (.tail _ (.tail _ (.head _))))))), rfl, ?_⟩
    | exact Kx.nil
    | exact Ag.val
    | exact Ag.sl
    | exact Ag.nils
    | exact Ag.elt
    | exact Ag.ptr rfl
    | refine Kx.cons ?_ ?_)
  (G : Hx ops σ ⟨dst, .call ⟨.value (.func f), xs, tys⟩, ty, pos, af, g⟩ = some true := by exact L7)
  (hrd : Mn σ 3 (Nn dsA) = rd := by rfl) (hnd : Oc cx.np ps gs = true := by rfl) (hfl : fl = true -> Ig d /\ ∀ lb ∈ b, Ny lb := by first | (intro h; cases h; done) | exact fun _ => ⟨by simp [Ig, Le], by simp [Ny, Le, Ig]⟩)
  (hok : Im Rt i true (nb + 8 * i) rd (ps ++ gs) lg = true := by rfl) (hr : Ga d = [] := by rfl) (hl : b.length = ps.length := by rfl) (hb : b.flatMap Vl = [] := by rfl) :
  Dv (Cm P cx fz) ops Rt nb (idx i (⟨dst, .call ⟨.value (.func f), xs, tys⟩, ty, pos, af, g⟩ :: l)) lg σ Q :=
 Ze fl G hF hds hrd hA hB hnd hfl hok hr hl hb k
end
theorem Xl {p : Prop} (h : p := by obtain rfl := oi_ G; exact Ee [] ⟨rfl, rfl⟩) : p := h
theorem F9 {p : Prop} (h : p := by refine A8 ?_; refine D2 fun B => ?_; refine El ?_; obtain rfl := oi_ G; exact Ee [] ⟨rfl, rfl⟩) : p := h
theorem B4 {p q : Prop} (k : q) (h : q -> p := by intro k; refine A8 ?_; refine D2 ?_; exact k) : p := h k
theorem sW {p q : Prop} (k : q) (h : q -> p := by intro k; (repeat first | refine vV ?_ | refine vS ?_); exact k) : p := h k
theorem vO {p : Prop} (h : p := by repeat first | exact (rfl : _ = []) | (apply vB; exact rfl)) : p := h
theorem wQ {p : Prop} (h : p := by repeat first | exact Fb.nil | (apply Fb.cons; first | exact Vu.int | exact Vu.bool | exact Vu.str | exact Vu.sl | exact Vu.nil)) : p := h
theorem Nv {p : Prop} (h : p := by refine El ?_; obtain rfl := oi_ G; exact Ee [] ⟨rfl, rfl⟩) : p := h
theorem C9 {p q : Prop} (k : q) (h : q -> p := by intro k; refine hZ ?_; (repeat first | refine vV ?_ | refine vS ?_); exact k) : p := h k
theorem F8 {p q : Prop} (k : q) (h : q -> p := by intro k; refine jM ?_; (repeat first | refine vV ?_ | refine vS ?_); exact k) : p := h k
class xC {α : Type} (f : α -> List C) : Prop where
 h : ∀ x, ∀ c ∈ f x, Zl c = true
instance : xC eI := ⟨fun x c hc => by rw [xQ.1 hc]; rfl⟩
theorem Yq {α : Type} {l l' : List α} (h : l.length = l'.length) : Ca l 0 l' = l' := by
 unfold Ca
 rw [aCc, aBi, zC, <- h, List.drop_length, aAm]
section
variable {P : Program} {cx : Cx} {ops : Array Oper} {Rt : Option (List Nat)} {nb i : Nat} {l : List Oper} {lg : aW} {σ : St} {Q : St -> Prop} {fz : List Nat} {α : Type} {f : α -> List C} {L : List α} {a : α} {n : Int} {m : Nat} {t : TypeId} {x y : Operand} {dst : Option Tmp} {ty : TypeId} {pos : String} {af : Array Edge} {g : Option (Nat × Bool)}
theorem Xz (he : Bo L n = some a) {b1 : Option LB} {cs : List C} (k : Dv (Cm P cx fz) ops Rt nb (idx (i + 1) l) ((i, false, nb + 8 * i, [], []) :: lg) (σ.app dst (v0 (.agg (cs.map Oj)))) Q) [T : O3 P t true m]
  (hds : Du σ true [x] = some [(.elt ((As f L).drop (n.toNat * m)), b1)] := by exact rfl) (E : Uq f m := by exact inferInstance) (hc : f a = cs := by exact vO) (G : Hx ops σ ⟨dst, .load t x, ty, pos, af, g⟩ = some true := by exact L7)
  (hok : Im Rt i false (nb + 8 * i) [] [] lg = true := by exact rfl) (hz : zM fz (nb + 8 * i) = 0 := by exact rfl) (hap : Kw cx.np (.load t x) [] = true := by exact rfl) : Dv (Cm P cx fz) ops Rt nb (idx i (⟨dst, .load t x, ty, pos, af, g⟩ :: l)) lg σ Q :=
 D1 G hds (Qj T.h (H4 E.h (A4 he) (o := 0) (m := m) (by rw [aBv, yG (by rw [E.h]; exact xX _)]; exact hc) (by omega) rfl) (Eb E.h (A4 he) (o := 0) (m := m) (by omega) rfl)) rfl hok k hz hap
theorem Uw (he : Bo L n = some a) {b1 : Option LB} {c : C} {sz : Nat} (k : Dv (Cm P cx fz) ops Rt nb (idx (i + 1) l) ((i, false, nb + 8 * i, [], []) :: lg) (σ.app dst (v0 (Oj c))) Q) [T : O3 P t false sz]
  (hds : Du σ true [x] = some [(.elt ((As f L).drop (n.toNat * 1)), b1)] := by exact rfl) (E : Uq f 1 := by exact inferInstance) (hc : f a = [c] := by exact rfl) (G : Hx ops σ ⟨dst, .load t x, ty, pos, af, g⟩ = some true := by exact L7)
  (hok : Im Rt i false (nb + 8 * i) [] [] lg = true := by exact rfl) (hz : zM fz (nb + 8 * i) = 0 := by exact rfl) (hap : Kw cx.np (.load t x) [] = true := by exact rfl) : Dv (Cm P cx fz) ops Rt nb (idx i (⟨dst, .load t x, ty, pos, af, g⟩ :: l)) lg σ Q :=
 D1 G hds (D4 T.h (C8 E.h (A4 he) (o := 0) (by rw [hc]; rfl) rfl)) rfl hok k hz hap
theorem Fj (he : Bo L n = some a) {kr e' : Nat} {cs : List C} (k : Dv (Cm P cx fz) ops Rt nb (idx (i + 1) l) ((i, false, nb + 8 * i, [kr], []) :: lg) (σ.app dst (v0 (.agg (cs.map Oj)))) Q) [T : O3 P t true m]
  (hds : Du σ true [x] = some [(.ptr kr (n.toNat * m), some (.row e' m (As f L)))] := by exact rfl) (E : Uq f m := by exact inferInstance) (hc : f a = cs := by exact vO) (G : Hx ops σ ⟨dst, .load t x, ty, pos, af, g⟩ = some true := by exact L7)
  (hok : Im Rt i false (nb + 8 * i) [kr] [] lg = true := by exact rfl) (hz : zM fz (nb + 8 * i) = 0 := by exact rfl) (hap : Kw cx.np (.load t x) [] = true := by exact rfl) : Dv (Cm P cx fz) ops Rt nb (idx i (⟨dst, .load t x, ty, pos, af, g⟩ :: l)) lg σ Q :=
 Ei (rd := [kr]) G hds (Qt T.h (H4 E.h (A4 he) (o := 0) (m := m) (by rw [aBv, yG (by rw [E.h]; exact xX _)]; exact hc) (by omega) rfl) (Eb E.h (A4 he) (o := 0) (m := m) (by omega) rfl)) rfl hok k hz hap
theorem Il {ck : List (Option Nat)} (hk : Ib P 20 t = ck) (he : Bo L n = some a) {x' : α} {d : DV} {b2 : Option LB} {kr e' : Nat} {cs' : List C} {ag : Bool} {rd : List Nat} (k : Dv (Cm P cx fz) ops Rt nb (idx (i + 1) l) ((i, false, nb + 8 * i, rd, [kr]) :: lg) (σ.app dst (aV kr (.row e' m (As f (Bi L n.toNat x'))))) Q) [T : O3 P t ag m]
  (hds : Du σ true [x, y] = some [(.ptr kr (n.toNat * m), some (.row e' m (As f L))), (d, b2)] := by exact rfl) (E : Uq f m := by exact inferInstance) (hx : f x' = cs' := by exact vO) (hd : Fb ck (Ci d) cs' := by exact wQ) (hs : (Ci d).length = m := by exact rfl)
  (hr : H6 false [(DV.ptr kr (n.toNat * m), some (LB.row e' m (As f L))), (d, b2)] = rd := by first | exact (rfl : _ = [_]) | exact (rfl : _ = [_, _]) | exact (rfl : _ = [_, _, _])) (G : Hx ops σ ⟨dst, .store t x y, ty, pos, af, g⟩ = some true := by exact L7)
  (hok : Im Rt i false (nb + 8 * i) rd [kr] lg = true := by exact rfl) (hz : zM fz (nb + 8 * i) = 0 := by exact rfl) (hap : Kw cx.np (.store t x y) [kr] = true := by exact rfl) : Dv (Cm P cx fz) ops Rt nb (idx i (⟨dst, .store t x y, ty, pos, af, g⟩ :: l)) lg σ Q :=
 Ei G hds (N9 T.h hs (Eb E.h (A4 he) (o := 0) (m := m) (by omega) rfl) hk hd (Hv E.h (A4 he) (o := 0) (x' := x') (by rw [<- hx, E.h]; omega) (by rw [<- hx]; exact Yq (by rw [E.h, E.h])) rfl)) hr hok k hz hap
theorem Ik {e sz bytes len : Nat} {parts : Array (Nat × Operand)} {ds : List (DV × Option LB)} {z : List Value} {cs : List C} {ck : List (Option Nat)} (hS : Fs P t e sz bytes) (hz : Zt P e z) (hk : Ib P 20 e = ck) (lv : List α) (fv : α -> List C) (k : Dv (Cm P cx fz) ops Rt nb (idx (i + 1) l) ((i, false, nb + 8 * i, [], []) :: lg) (σ.app dst (J2 (nb + 8 * i) (.row e sz (As fv lv)) (.row (nb + 8 * i)))) Q)
  (hds : Du σ false (Op.buildSlice t len parts).operands.toList = some ds := by exact rfl) (hc : Fb (List.replicate len ck).flatten (ds.flatMap fun q => Ci q.1) cs := by exact wQ) (h : As fv lv = cs := by exact rfl) (hlen : Nat.ble (len * sz) 16777216 = true := by exact rfl) (hp : parts.toList.map (·.1) = List.range' 0 len := by exact rfl) (hzl : z.length = sz := by exact rfl) (hn : ds.length = len := by exact rfl)
  (hs : ds.all (fun q => Nat.beq (Ci q.1).length sz) = true := by exact rfl) (ho : ds.all (fun q => (Ci q.1).all Oh) = true := by exact rfl) (G : Hx ops σ ⟨dst, .buildSlice t len parts, ty, pos, af, g⟩ = some true := by exact L7)
  (hok : Im Rt i false (nb + 8 * i) [] [] lg = true := by exact rfl) (hz' : zM fz (nb + 8 * i) = 0 := by exact rfl) (hap : Kw cx.np (.buildSlice t len parts) [] = true := by exact rfl) : Dv (Cm P cx fz) ops Rt nb (idx i (⟨dst, .buildSlice t len parts, ty, pos, af, g⟩ :: l)) lg σ Q :=
 D1 G hds (Nw hS hz (xR hlen) hp hzl hn hs hk hc ho h) rfl hok k hz' hap
theorem eT {e sz bytes len : Nat} {parts : Array (Nat × Operand)} {ds : List (DV × Option LB)} {z : List Value} {cs : List C} {ck : List (Option Nat)} (hS : Fs P t e sz bytes) (hz : Zt P e z) (hk : Ib P 20 e = ck) (lv : List α) (fv : α -> List C) (k : Dv (Cm P cx fz) ops Rt nb (idx (i + 1) l) ((i, false, nb + 8 * i, [], []) :: lg) (σ.app dst (Uk sz (As fv lv) [])) Q)
  (hds : Du σ false (Op.buildSlice t len parts).operands.toList = some ds := by exact rfl) (hc : Fb (List.replicate len ck).flatten (ds.flatMap fun q => Ci q.1) cs := by exact wQ) (h : As fv lv = cs := by exact rfl) (hlen : Nat.ble (len * sz) 16777216 = true := by exact rfl) (hp : parts.toList.map (·.1) = List.range' 0 len := by exact rfl) (hzl : z.length = sz := by exact rfl) (hn : ds.length = len := by exact rfl)
  (hs : ds.all (fun q => Nat.beq (Ci q.1).length sz) = true := by exact rfl) (ho : ds.all (fun q => (Ci q.1).all Oh) = true := by exact rfl) (G : Hx ops σ ⟨dst, .buildSlice t len parts, ty, pos, af, g⟩ = some true := by exact L7)
  (hok : Im Rt i false (nb + 8 * i) [] [] lg = true := by exact rfl) (hz' : zM fz (nb + 8 * i) = 1 := by exact rfl) (hap : Kw cx.np (.buildSlice t len parts) [] = true := by exact rfl) : Dv (Cm P cx fz) ops Rt nb (idx i (⟨dst, .buildSlice t len parts, ty, pos, af, g⟩ :: l)) lg σ Q :=
 vJ (rd := []) G hds (Nw hS hz (xR hlen) hp hzl hn hs hk hc ho h) rfl rfl hok k hz' hap
theorem Z9 {fields : _} {places : List (Nat × Nat)} {z : List Value} {r0 r : List DV} {parts : Array (Nat × Operand)} {ds : List (DV × Option LB)} (hu : P.underlying t = some (.struct fields)) (hp : fields.toList.map (fun f => (P.info? f.type).map fun i => (f.offset, i.size)) = places.map some) (hz : Zt P t z) (k : Dv (Cm P cx fz) ops Rt nb (idx (i + 1) l) ((i, false, nb + 8 * i, [], []) :: lg) (σ.app dst (v0 (.agg r))) Q)
  (hds : Du σ false (Op.build t parts).operands.toList = some ds := by exact rfl) (hd : Fp (fun i => places[i]?) (z.map .val) ((parts.toList.map (·.1)).zip (ds.map (·.1))) = some r0 := by exact rfl) (hr : r0 = r := by exact vO) (ho : ds.all (fun q => (Ci q.1).all Oh) = true := by exact rfl) (G : Hx ops σ ⟨dst, .build t parts, ty, pos, af, g⟩ = some true := by exact L7)
  (hok : Im Rt i false (nb + 8 * i) [] [] lg = true := by exact rfl) (hz' : zM fz (nb + 8 * i) = 0 := by exact rfl) (hap : Kw cx.np (.build t parts) [] = true := by exact rfl) : Dv (Cm P cx fz) ops Rt nb (idx i (⟨dst, .build t parts, ty, pos, af, g⟩ :: l)) lg σ Q :=
 D1 G hds (.build hu hp hz (hr ▸ hd) ho) rfl hok k hz' hap
end
theorem Bt {P : Program} {cx : Cx} {id : Nat} {l : List Oper} {σ : St} {y : Code} {Q : Exit -> St -> Prop} (nb nb' : Nat) (B : ∀ k, nb <= k -> σ.U k = false) {j : Nat} {lg' : aW} {σ' : St} {q : Prop} (k : (∀ j, nb' <= j -> σ'.U j = false) -> q)
  (h : Gm P cx [] l.toArray none nb (idx 0 l) [] σ (idx j []) lg' σ' := by exact wV) (s : fN (lU (Cp P cx y Q) Q .normal σ') q := by exact inferInstance) (hn : Nat.ble (nb + 8 * l.length) nb' = true := by rfl) (hd : eE cx.N l = true := by rfl) : Cp P cx (.seq (.region id l.toArray false) y) Q σ :=
 C4 nb nb' B (h _ (D2 k)) hn hd
end Go.Proofs.Ytfkgbfhpibiheaa
