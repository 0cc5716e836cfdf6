/- Steps that find themselves: a row of operations in one line. No program is in sight here. -/
import Derived.Test.YtfkgbfhpibiheaaEE
set_option linter.unusedVariables false
set_option linter.unusedSimpArgs false
namespace Go.Proofs.Ytfkgbfhpibiheaa
open Go.RowKit
class TyC (P : Program) (t : TypeId) (ag : outParam Bool) (sz : outParam Nat) : Prop where
  h : Ty P t ag sz
class FdC (P : Program) (s : TypeId) (f : Nat) (off : outParam Nat) (ft : outParam TypeId) : Prop where
  h : Fd P s f off ft
class SlC (P : Program) (t : TypeId) (e sz bytes : outParam Nat) : Prop where
  h : SlT P t e sz bytes
class ZtC (P : Program) (t : TypeId) (z : outParam (List Value)) : Prop where
  h : Zt P t z
class ElC {α : Type} (f : α → List C) (sz : outParam Nat) : Prop where
  h : ∀ x, (f x).length = sz
instance : ElC eI 1 := ⟨eI_len⟩
instance {k : IntKind} : ElC (eK k) 1 := ⟨eK_len k⟩
instance : ElC e8 1 := ⟨e8_len⟩
instance : ElC eS 1 := ⟨eS_len⟩
instance : ElC eB 1 := ⟨eB_len⟩
instance {α : Type} {sz : Nat} {f : α → List C} : ElC (eL sz f) 1 := ⟨eL_len sz f⟩
section
variable {P : Program} {cx : Cx} {ops : Array Oper} {Rt : Option (List Nat)} {nb i : Nat} {l : List Oper} {lg lg' : Log} {σ σ' : St} {Q : St → Prop} {fz : List Nat} {m' : List (Nat × Oper)}
def Gm (P : Program) (cx : Cx) (fz : List Nat) (ops : Array Oper) (Rt : Option (List Nat)) (nb : Nat) (m : List (Nat × Oper)) (lg : Log) (σ : St) (m' : List (Nat × Oper)) (lg' : Log) (σ' : St) : Prop := ∀ Q, Chain (sys P cx fz) ops Rt nb m' lg' σ' Q → Chain (sys P cx fz) ops Rt nb m lg σ Q
theorem Gm.z {m : List (Nat × Oper)} : Gm P cx fz ops Rt nb m lg σ m lg σ := fun _ h => h
theorem Gm.s {dst : Option Tmp} {op : Op} {ty : TypeId} {pos : String} {af : Array Edge} {g : Option (Nat × Bool)} {ds : List (DV × Option LB)} {rd wr : List Nat} {e : Eff} (hds : evs σ (touch op) op.operands.toList = some ds) (h : OpR P (nb + 8 * i) op ty ds wr e)
    (k : Gm P cx fz ops Rt nb (idx (i + 1) l) ((i, false, nb + 8 * i, rd, wr) :: lg) (σ.app dst e) m' lg' σ') (hg : gdv ops σ ⟨dst, op, ty, pos, af, g⟩ = some true) (hrd : (bif touch op then toks (blindB op) ds else []) = rd)
    (hok : (okL Rt i false (nb + 8 * i) rd wr lg && (Nat.beq (zM fz (nb + 8 * i)) 0 && apB cx.np op wr)) = true) :
    Gm P cx fz ops Rt nb (idx i (⟨dst, op, ty, pos, af, g⟩ :: l)) lg σ m' lg' σ' := fun Q hq => by
  simp only [Bool.and_eq_true] at hok
  exact ch_s hg hds h hrd hok.1 (k Q hq) (Nat.eq_of_beq_eq_true hok.2.1) hok.2.2
theorem Gm.k {dst : Option Tmp} {op : Op} {ty : TypeId} {pos : String} {af : Array Edge} {g : Nat × Bool} (hg : gdv ops σ ⟨dst, op, ty, pos, af, some g⟩ = some false)
    (hok : okL Rt i false (nb + 8 * i) [] [] lg = true) (k : Gm P cx fz ops Rt nb (idx (i + 1) l) ((i, false, nb + 8 * i, [], []) :: lg) (σ.app dst undefE) m' lg' σ') :
    Gm P cx fz ops Rt nb (idx i (⟨dst, op, ty, pos, af, some g⟩ :: l)) lg σ m' lg' σ' := fun Q hq => ch_skip hg hok (k Q hq)
theorem gdv_n {dst : Option Tmp} {op : Op} {ty : TypeId} {pos : String} {af : Array Edge} : gdv ops σ ⟨dst, op, ty, pos, af, none⟩ = some true := rfl
theorem gdv_ff {dst : Option Tmp} {op : Op} {ty : TypeId} {pos : String} {af : Array Edge} {g : Nat} {c : Bool} {t : Tmp} (ht : (ops[g]?).bind (·.dst) = some t) (hF : σ.F t = some (.val (.bool c))) (hc : c = false) : gdv ops σ ⟨dst, op, ty, pos, af, some (g, true)⟩ = some false := gdv_f ht hF hc
theorem gdv_ft {dst : Option Tmp} {op : Op} {ty : TypeId} {pos : String} {af : Array Edge} {g : Nat} {c : Bool} {t : Tmp} (ht : (ops[g]?).bind (·.dst) = some t) (hF : σ.F t = some (.val (.bool c))) (hc : c = true) : gdv ops σ ⟨dst, op, ty, pos, af, some (g, false)⟩ = some false := gdv_f ht hF hc
theorem gdv_u {dst : Option Tmp} {op : Op} {ty : TypeId} {pos : String} {af : Array Edge} {g : Nat} {b : Bool} {t : Tmp} (ht : (ops[g]?).bind (·.dst) = some t) (hF : σ.F t = some (.val undef)) : gdv ops σ ⟨dst, op, ty, pos, af, some (g, b)⟩ = some false := by
  unfold gdv
  simp only []
  rw [ht]
  simp only []
  rw [hF]
  rfl
theorem nl_c {α : Type} {l t t' : List α} {x : α} (h : l = x :: t) (k : t = t') : l = x :: t' := by rw [h, k]
variable {dst : Option Tmp} {ty : TypeId} {pos : String} {af : Array Edge} {g : Option (Nat × Bool)}
theorem Gm.move {x : Operand} {d : DV} {q : Option LB} (hds : evs σ false [x] = some [(d, q)])  (hg : gdv ops σ ⟨dst, .move x, ty, pos, af, g⟩ = some true)
    (hok : (okL Rt i false (nb + 8 * i) [] [] lg && (Nat.beq (zM fz (nb + 8 * i)) 0 && apB cx.np (.move x) [])) = true) (k : Gm P cx fz ops Rt nb (idx (i + 1) l) ((i, false, nb + 8 * i, [], []) :: lg) (σ.app dst (v0 d)) m' lg' σ') : Gm P cx fz ops Rt nb (idx i (⟨dst, .move x, ty, pos, af, g⟩ :: l)) lg σ m' lg' σ' :=
  Gm.s hds (.move) k hg rfl hok
theorem Gm.assign {x : Operand} {d : DV} {q : Option LB} (hds : evs σ false [x] = some [(d, q)])  (hg : gdv ops σ ⟨dst, .assign x, ty, pos, af, g⟩ = some true)
    (hok : (okL Rt i false (nb + 8 * i) [] [] lg && (Nat.beq (zM fz (nb + 8 * i)) 0 && apB cx.np (.assign x) [])) = true) (k : Gm P cx fz ops Rt nb (idx (i + 1) l) ((i, false, nb + 8 * i, [], []) :: lg) (σ.app dst (v0 d)) m' lg' σ') : Gm P cx fz ops Rt nb (idx i (⟨dst, .assign x, ty, pos, af, g⟩ :: l)) lg σ m' lg' σ' :=
  Gm.s hds (.assign) k hg rfl hok
theorem Gm.fieldP {x : Operand} {s f k j off ft sz : Nat} {ag : Bool} {q : Option LB} [F : FdC P s f off ft] [T : TyC P ft ag sz] (hds : evs σ false [x] = some [(.ptr k j, q)]) (hz0 : Nat.blt 0 sz = true) (hg : gdv ops σ ⟨dst, .fieldAddr s x f, ty, pos, af, g⟩ = some true)
    (hok : (okL Rt i false (nb + 8 * i) [] [] lg && (Nat.beq (zM fz (nb + 8 * i)) 0 && apB cx.np (.fieldAddr s x f) [])) = true) (k : Gm P cx fz ops Rt nb (idx (i + 1) l) ((i, false, nb + 8 * i, [], []) :: lg) (σ.app dst (v0 (.ptr k (j + off)))) m' lg' σ') : Gm P cx fz ops Rt nb (idx i (⟨dst, .fieldAddr s x f, ty, pos, af, g⟩ :: l)) lg σ m' lg' σ' :=
  Gm.s hds (.fieldP F.h T.h (Nat.le_of_ble_eq_true hz0)) k hg rfl hok
theorem Gm.load1 {x : Operand} {t k j bt sz : Nat} {ds : List DV} {d : DV} [T : TyC P t false sz] (hds : evs σ true [x] = some [(.ptr k j, some (.box ds bt))]) (hd : ds[j]? = some d) (hg : gdv ops σ ⟨dst, .load t x, ty, pos, af, g⟩ = some true)
    (hok : (okL Rt i false (nb + 8 * i) [k] [] lg && (Nat.beq (zM fz (nb + 8 * i)) 0 && apB cx.np (.load t x) [])) = true) (k : Gm P cx fz ops Rt nb (idx (i + 1) l) ((i, false, nb + 8 * i, [k], []) :: lg) (σ.app dst (v0 d)) m' lg' σ') : Gm P cx fz ops Rt nb (idx i (⟨dst, .load t x, ty, pos, af, g⟩ :: l)) lg σ m' lg' σ' :=
  Gm.s hds (.loadB1 T.h hd) k hg rfl hok
theorem Gm.loadA {x : Operand} {t k j bt sz : Nat} {ds : List DV} [T : TyC P t true sz] (hds : evs σ true [x] = some [(.ptr k j, some (.box ds bt))]) (hd : Nat.ble (j + sz) ds.length = true) (hg : gdv ops σ ⟨dst, .load t x, ty, pos, af, g⟩ = some true)
    (hok : (okL Rt i false (nb + 8 * i) [k] [] lg && (Nat.beq (zM fz (nb + 8 * i)) 0 && apB cx.np (.load t x) [])) = true) (k : Gm P cx fz ops Rt nb (idx (i + 1) l) ((i, false, nb + 8 * i, [k], []) :: lg) (σ.app dst (v0 (.agg ((ds.drop j).take sz)))) m' lg' σ') : Gm P cx fz ops Rt nb (idx i (⟨dst, .load t x, ty, pos, af, g⟩ :: l)) lg σ m' lg' σ' :=
  Gm.s hds (.loadBA T.h (Nat.le_of_ble_eq_true hd)) k hg rfl hok
theorem Gm.pickF {x y z : Operand} {c : Bool} {d1 d2 : DV} {q1 q2 q3 : Option LB} (hds : evs σ false [x, y, z] = some [(.val (.bool c), q1), (d1, q2), (d2, q3)]) (hc : c = false) (hg : gdv ops σ ⟨dst, .pick x y z, ty, pos, af, g⟩ = some true)
    (hok : (okL Rt i false (nb + 8 * i) [] [] lg && (Nat.beq (zM fz (nb + 8 * i)) 0 && apB cx.np (.pick x y z) [])) = true) (k : Gm P cx fz ops Rt nb (idx (i + 1) l) ((i, false, nb + 8 * i, [], []) :: lg) (σ.app dst (v0 d2)) m' lg' σ') : Gm P cx fz ops Rt nb (idx i (⟨dst, .pick x y z, ty, pos, af, g⟩ :: l)) lg σ m' lg' σ' :=
  Gm.s hds (r_pickF hc) k hg rfl hok
theorem Gm.pickT {x y z : Operand} {c : Bool} {d1 d2 : DV} {q1 q2 q3 : Option LB} (hds : evs σ false [x, y, z] = some [(.val (.bool c), q1), (d1, q2), (d2, q3)]) (hc : c = true) (hg : gdv ops σ ⟨dst, .pick x y z, ty, pos, af, g⟩ = some true)
    (hok : (okL Rt i false (nb + 8 * i) [] [] lg && (Nat.beq (zM fz (nb + 8 * i)) 0 && apB cx.np (.pick x y z) [])) = true) (k : Gm P cx fz ops Rt nb (idx (i + 1) l) ((i, false, nb + 8 * i, [], []) :: lg) (σ.app dst (v0 d1)) m' lg' σ') : Gm P cx fz ops Rt nb (idx i (⟨dst, .pick x y z, ty, pos, af, g⟩ :: l)) lg σ m' lg' σ' :=
  Gm.s hds (r_pickT hc) k hg rfl hok
theorem Gm.storeB {x y : Operand} {t k j bt sz : Nat} {ag : Bool} {ds ds' : List DV} {d : DV} {q : Option LB} {rd : List Nat} [T : TyC P t ag sz] (hds : evs σ true [x, y] = some [(.ptr k j, some (.box ds bt)), (d, q)]) (hs : (dcells d).length = sz) (hi : Nat.ble (j + sz) ds.length = true) (ho : (dcells d).all okC = true) (hn : splice ds j (dcells d) = ds') (hr : toks false [(DV.ptr k j, some (LB.box ds bt)), (d, q)] = rd) (hg : gdv ops σ ⟨dst, .store t x y, ty, pos, af, g⟩ = some true)
    (hok : (okL Rt i false (nb + 8 * i) rd [k] lg && (Nat.beq (zM fz (nb + 8 * i)) 0 && apB cx.np (.store t x y) [k])) = true) (k : Gm P cx fz ops Rt nb (idx (i + 1) l) ((i, false, nb + 8 * i, rd, [k]) :: lg) (σ.app dst (wrt k (.box ds' bt))) m' lg' σ') : Gm P cx fz ops Rt nb (idx i (⟨dst, .store t x y, ty, pos, af, g⟩ :: l)) lg σ m' lg' σ' :=
  Gm.s hds (r_storeB T.h hs (Nat.le_of_ble_eq_true hi) ho hn) k hg hr hok
theorem Gm.extract {x : Operand} {n : Nat} {ds : List DV} {d : DV} {q : Option LB} (hds : evs σ false [x] = some [(.tup ds, q)]) (hd : ds[n]? = some d) (hg : gdv ops σ ⟨dst, .extract x n, ty, pos, af, g⟩ = some true)
    (hok : (okL Rt i false (nb + 8 * i) [] [] lg && (Nat.beq (zM fz (nb + 8 * i)) 0 && apB cx.np (.extract x n) [])) = true) (k : Gm P cx fz ops Rt nb (idx (i + 1) l) ((i, false, nb + 8 * i, [], []) :: lg) (σ.app dst (v0 d)) m' lg' σ') : Gm P cx fz ops Rt nb (idx i (⟨dst, .extract x n, ty, pos, af, g⟩ :: l)) lg σ m' lg' σ' :=
  Gm.s hds (.extract hd) k hg rfl hok
theorem Gm.lss {x y : Operand} {t yt : TypeId} {kk : IntKind} {a b : Int} {q1 q2 : Option LB} (hds : evs σ false [x, y] = some [(.val (.int kk a), q1), (.val (.int kk b), q2)])  (hg : gdv ops σ ⟨dst, .binOp .lss t x y yt, ty, pos, af, g⟩ = some true)
    (hok : (okL Rt i false (nb + 8 * i) [] [] lg && (Nat.beq (zM fz (nb + 8 * i)) 0 && apB cx.np (.binOp .lss t x y yt) [])) = true) (k : Gm P cx fz ops Rt nb (idx (i + 1) l) ((i, false, nb + 8 * i, [], []) :: lg) (σ.app dst (v0 (.val (.bool (decide (a < b)))))) m' lg' σ') : Gm P cx fz ops Rt nb (idx i (⟨dst, .binOp .lss t x y yt, ty, pos, af, g⟩ :: l)) lg σ m' lg' σ' :=
  Gm.s hds (r_lss) k hg rfl hok
theorem Gm.eql {x y : Operand} {t yt : TypeId} {kk : IntKind} {a b : Int} {q1 q2 : Option LB} (hds : evs σ false [x, y] = some [(.val (.int kk a), q1), (.val (.int kk b), q2)])  (hg : gdv ops σ ⟨dst, .binOp .eql t x y yt, ty, pos, af, g⟩ = some true)
    (hok : (okL Rt i false (nb + 8 * i) [] [] lg && (Nat.beq (zM fz (nb + 8 * i)) 0 && apB cx.np (.binOp .eql t x y yt) [])) = true) (k : Gm P cx fz ops Rt nb (idx (i + 1) l) ((i, false, nb + 8 * i, [], []) :: lg) (σ.app dst (v0 (.val (.bool (decide (a = b)))))) m' lg' σ') : Gm P cx fz ops Rt nb (idx i (⟨dst, .binOp .eql t x y yt, ty, pos, af, g⟩ :: l)) lg σ m' lg' σ' :=
  Gm.s hds (r_eql) k hg rfl hok
theorem Gm.gtr {x y : Operand} {t yt : TypeId} {kk : IntKind} {a b : Int} {q1 q2 : Option LB} (hds : evs σ false [x, y] = some [(.val (.int kk a), q1), (.val (.int kk b), q2)])  (hg : gdv ops σ ⟨dst, .binOp .gtr t x y yt, ty, pos, af, g⟩ = some true)
    (hok : (okL Rt i false (nb + 8 * i) [] [] lg && (Nat.beq (zM fz (nb + 8 * i)) 0 && apB cx.np (.binOp .gtr t x y yt) [])) = true) (k : Gm P cx fz ops Rt nb (idx (i + 1) l) ((i, false, nb + 8 * i, [], []) :: lg) (σ.app dst (v0 (.val (.bool (decide (b < a)))))) m' lg' σ') : Gm P cx fz ops Rt nb (idx i (⟨dst, .binOp .gtr t x y yt, ty, pos, af, g⟩ :: l)) lg σ m' lg' σ' :=
  Gm.s hds (r_gtr) k hg rfl hok
theorem Gm.leq {x y : Operand} {t yt : TypeId} {kk : IntKind} {a b : Int} {q1 q2 : Option LB} (hds : evs σ false [x, y] = some [(.val (.int kk a), q1), (.val (.int kk b), q2)])  (hg : gdv ops σ ⟨dst, .binOp .leq t x y yt, ty, pos, af, g⟩ = some true)
    (hok : (okL Rt i false (nb + 8 * i) [] [] lg && (Nat.beq (zM fz (nb + 8 * i)) 0 && apB cx.np (.binOp .leq t x y yt) [])) = true) (k : Gm P cx fz ops Rt nb (idx (i + 1) l) ((i, false, nb + 8 * i, [], []) :: lg) (σ.app dst (v0 (.val (.bool (decide (a ≤ b)))))) m' lg' σ') : Gm P cx fz ops Rt nb (idx i (⟨dst, .binOp .leq t x y yt, ty, pos, af, g⟩ :: l)) lg σ m' lg' σ' :=
  Gm.s hds (r_leq) k hg rfl hok
theorem Gm.geq {x y : Operand} {t yt : TypeId} {kk : IntKind} {a b : Int} {q1 q2 : Option LB} (hds : evs σ false [x, y] = some [(.val (.int kk a), q1), (.val (.int kk b), q2)])  (hg : gdv ops σ ⟨dst, .binOp .geq t x y yt, ty, pos, af, g⟩ = some true)
    (hok : (okL Rt i false (nb + 8 * i) [] [] lg && (Nat.beq (zM fz (nb + 8 * i)) 0 && apB cx.np (.binOp .geq t x y yt) [])) = true) (k : Gm P cx fz ops Rt nb (idx (i + 1) l) ((i, false, nb + 8 * i, [], []) :: lg) (σ.app dst (v0 (.val (.bool (decide (b ≤ a)))))) m' lg' σ') : Gm P cx fz ops Rt nb (idx i (⟨dst, .binOp .geq t x y yt, ty, pos, af, g⟩ :: l)) lg σ m' lg' σ' :=
  Gm.s hds (r_geq) k hg rfl hok
theorem Gm.neq {x y : Operand} {t yt : TypeId} {kk : IntKind} {a b : Int} {q1 q2 : Option LB} (hds : evs σ false [x, y] = some [(.val (.int kk a), q1), (.val (.int kk b), q2)])  (hg : gdv ops σ ⟨dst, .binOp .neq t x y yt, ty, pos, af, g⟩ = some true)
    (hok : (okL Rt i false (nb + 8 * i) [] [] lg && (Nat.beq (zM fz (nb + 8 * i)) 0 && apB cx.np (.binOp .neq t x y yt) [])) = true) (k : Gm P cx fz ops Rt nb (idx (i + 1) l) ((i, false, nb + 8 * i, [], []) :: lg) (σ.app dst (v0 (.val (.bool (!decide (a = b)))))) m' lg' σ') : Gm P cx fz ops Rt nb (idx i (⟨dst, .binOp .neq t x y yt, ty, pos, af, g⟩ :: l)) lg σ m' lg' σ' :=
  Gm.s hds (r_neq) k hg rfl hok
theorem Gm.seql {x y : Operand} {t yt : TypeId} {a b : ByteArray} {q1 q2 : Option LB} (hds : evs σ false [x, y] = some [(.val (.string a), q1), (.val (.string b), q2)])  (hg : gdv ops σ ⟨dst, .binOp .eql t x y yt, ty, pos, af, g⟩ = some true)
    (hok : (okL Rt i false (nb + 8 * i) [] [] lg && (Nat.beq (zM fz (nb + 8 * i)) 0 && apB cx.np (.binOp .eql t x y yt) [])) = true) (k : Gm P cx fz ops Rt nb (idx (i + 1) l) ((i, false, nb + 8 * i, [], []) :: lg) (σ.app dst (v0 (.val (.bool (decide (a = b)))))) m' lg' σ') : Gm P cx fz ops Rt nb (idx i (⟨dst, .binOp .eql t x y yt, ty, pos, af, g⟩ :: l)) lg σ m' lg' σ' :=
  Gm.s hds (r_seql) k hg rfl hok
theorem Gm.sneq {x y : Operand} {t yt : TypeId} {a b : ByteArray} {q1 q2 : Option LB} (hds : evs σ false [x, y] = some [(.val (.string a), q1), (.val (.string b), q2)])  (hg : gdv ops σ ⟨dst, .binOp .neq t x y yt, ty, pos, af, g⟩ = some true)
    (hok : (okL Rt i false (nb + 8 * i) [] [] lg && (Nat.beq (zM fz (nb + 8 * i)) 0 && apB cx.np (.binOp .neq t x y yt) [])) = true) (k : Gm P cx fz ops Rt nb (idx (i + 1) l) ((i, false, nb + 8 * i, [], []) :: lg) (σ.app dst (v0 (.val (.bool (!decide (a = b)))))) m' lg' σ') : Gm P cx fz ops Rt nb (idx i (⟨dst, .binOp .neq t x y yt, ty, pos, af, g⟩ :: l)) lg σ m' lg' σ' :=
  Gm.s hds (r_sneq) k hg rfl hok
theorem Gm.add {x y : Operand} {t yt : TypeId} {a b : Int} {q1 q2 : Option LB} (hds : evs σ false [x, y] = some [(.val (.int .i64 a), q1), (.val (.int .i64 b), q2)])  (hg : gdv ops σ ⟨dst, .binOp .add t x y yt, ty, pos, af, g⟩ = some true)
    (hok : (okL Rt i false (nb + 8 * i) [] [] lg && (Nat.beq (zM fz (nb + 8 * i)) 0 && apB cx.np (.binOp .add t x y yt) [])) = true) (k : Gm P cx fz ops Rt nb (idx (i + 1) l) ((i, false, nb + 8 * i, [], []) :: lg) (σ.app dst (v0 (.val (.int .i64 (W (a + b)))))) m' lg' σ') : Gm P cx fz ops Rt nb (idx i (⟨dst, .binOp .add t x y yt, ty, pos, af, g⟩ :: l)) lg σ m' lg' σ' :=
  Gm.s hds (r_add) k hg rfl hok
theorem Gm.sub {x y : Operand} {t yt : TypeId} {a b : Int} {q1 q2 : Option LB} (hds : evs σ false [x, y] = some [(.val (.int .i64 a), q1), (.val (.int .i64 b), q2)])  (hg : gdv ops σ ⟨dst, .binOp .sub t x y yt, ty, pos, af, g⟩ = some true)
    (hok : (okL Rt i false (nb + 8 * i) [] [] lg && (Nat.beq (zM fz (nb + 8 * i)) 0 && apB cx.np (.binOp .sub t x y yt) [])) = true) (k : Gm P cx fz ops Rt nb (idx (i + 1) l) ((i, false, nb + 8 * i, [], []) :: lg) (σ.app dst (v0 (.val (.int .i64 (W (a - b)))))) m' lg' σ') : Gm P cx fz ops Rt nb (idx i (⟨dst, .binOp .sub t x y yt, ty, pos, af, g⟩ :: l)) lg σ m' lg' σ' :=
  Gm.s hds (r_sub) k hg rfl hok
theorem Gm.mul {x y : Operand} {t yt : TypeId} {a b : Int} {q1 q2 : Option LB} (hds : evs σ false [x, y] = some [(.val (.int .i64 a), q1), (.val (.int .i64 b), q2)])  (hg : gdv ops σ ⟨dst, .binOp .mul t x y yt, ty, pos, af, g⟩ = some true)
    (hok : (okL Rt i false (nb + 8 * i) [] [] lg && (Nat.beq (zM fz (nb + 8 * i)) 0 && apB cx.np (.binOp .mul t x y yt) [])) = true) (k : Gm P cx fz ops Rt nb (idx (i + 1) l) ((i, false, nb + 8 * i, [], []) :: lg) (σ.app dst (v0 (.val (.int .i64 (W (a * b)))))) m' lg' σ') : Gm P cx fz ops Rt nb (idx i (⟨dst, .binOp .mul t x y yt, ty, pos, af, g⟩ :: l)) lg σ m' lg' σ' :=
  Gm.s hds (r_mul) k hg rfl hok
theorem Gm.alloc {t : TypeId} {z : List Value} [Z : ZtC P t z] (hds : evs σ false [] = some [])  (hg : gdv ops σ ⟨dst, .alloc t, ty, pos, af, g⟩ = some true)
    (hok : (okL Rt i false (nb + 8 * i) [] [] lg && (Nat.beq (zM fz (nb + 8 * i)) 0 && apB cx.np (.alloc t) [])) = true) (k : Gm P cx fz ops Rt nb (idx (i + 1) l) ((i, false, nb + 8 * i, [], []) :: lg) (σ.app dst (new1 (nb + 8 * i) (.box (z.map .val) t) (.ptr (nb + 8 * i) 0))) m' lg' σ') : Gm P cx fz ops Rt nb (idx i (⟨dst, .alloc t, ty, pos, af, g⟩ :: l)) lg σ m' lg' σ' :=
  Gm.s hds (.alloc Z.h) k hg rfl hok
theorem Gm.box {x : Operand} {t : TypeId} {d : DV} {q : Option LB} (hds : evs σ false [x] = some [(d, q)]) (ho : (dcells d).all okC = true) (hg : gdv ops σ ⟨dst, .box t x, ty, pos, af, g⟩ = some true)
    (hok : (okL Rt i false (nb + 8 * i) [] [] lg && (Nat.beq (zM fz (nb + 8 * i)) 0 && apB cx.np (.box t x) [])) = true) (k : Gm P cx fz ops Rt nb (idx (i + 1) l) ((i, false, nb + 8 * i, [], []) :: lg) (σ.app dst (new1 (nb + 8 * i) (.box (dcells d) t) (.ptr (nb + 8 * i) 0))) m' lg' σ') : Gm P cx fz ops Rt nb (idx i (⟨dst, .box t x, ty, pos, af, g⟩ :: l)) lg σ m' lg' σ' :=
  Gm.s hds (.box ho) k hg rfl hok
theorem Gm.not {x : Operand} {t : TypeId} {b : Bool} {q : Option LB} (hds : evs σ false [x] = some [(.val (.bool b), q)])  (hg : gdv ops σ ⟨dst, .unOp .not t x, ty, pos, af, g⟩ = some true)
    (hok : (okL Rt i false (nb + 8 * i) [] [] lg && (Nat.beq (zM fz (nb + 8 * i)) 0 && apB cx.np (.unOp .not t x) [])) = true) (k : Gm P cx fz ops Rt nb (idx (i + 1) l) ((i, false, nb + 8 * i, [], []) :: lg) (σ.app dst (v0 (.val (.bool (!b))))) m' lg' σ') : Gm P cx fz ops Rt nb (idx i (⟨dst, .unOp .not t x, ty, pos, af, g⟩ :: l)) lg σ m' lg' σ' :=
  Gm.s hds (r_not) k hg rfl hok
theorem Gm.lenS {α : Type} {f : α → List C} {L : List α} {x : Operand} {t e sz by_ : Nat} {q : Option LB} [S : SlC P t e sz by_] (hds : evs σ true [x] = some [(.sl sz (encL f L), q)]) (E : ElC f sz) (hg : gdv ops σ ⟨dst, .call ⟨.builtin .len, #[x], #[t]⟩, ty, pos, af, g⟩ = some true)
    (hok : (okL Rt i false (nb + 8 * i) [] [] lg && (Nat.beq (zM fz (nb + 8 * i)) 0 && apB cx.np (.call ⟨.builtin .len, #[x], #[t]⟩) [])) = true) (k : Gm P cx fz ops Rt nb (idx (i + 1) l) ((i, false, nb + 8 * i, [], []) :: lg) (σ.app dst (v0 (.val (.int .i64 (L.length : Int))))) m' lg' σ') : Gm P cx fz ops Rt nb (idx i (⟨dst, .call ⟨.builtin .len, #[x], #[t]⟩, ty, pos, af, g⟩ :: l)) lg σ m' lg' σ' :=
  Gm.s hds (r_lenS S.h E.h) k hg rfl hok
theorem Gm.lenR {α : Type} {f : α → List C} {L : List α} {x : Operand} {t e e' sz by_ k : Nat} [S : SlC P t e sz by_] (hds : evs σ true [x] = some [(.row k, some (.row e' sz (encL f L)))]) (E : ElC f sz) (hg : gdv ops σ ⟨dst, .call ⟨.builtin .len, #[x], #[t]⟩, ty, pos, af, g⟩ = some true)
    (hok : (okL Rt i false (nb + 8 * i) [k] [] lg && (Nat.beq (zM fz (nb + 8 * i)) 0 && apB cx.np (.call ⟨.builtin .len, #[x], #[t]⟩) [])) = true) (k : Gm P cx fz ops Rt nb (idx (i + 1) l) ((i, false, nb + 8 * i, [k], []) :: lg) (σ.app dst (v0 (.val (.int .i64 (L.length : Int))))) m' lg' σ') : Gm P cx fz ops Rt nb (idx i (⟨dst, .call ⟨.builtin .len, #[x], #[t]⟩, ty, pos, af, g⟩ :: l)) lg σ m' lg' σ' :=
  Gm.s hds (r_lenR S.h E.h) k hg rfl hok
theorem Gm.idxS {α : Type} {f : α → List C} {L : List α} {a : α} {x y : Operand} {t e sz by_ : Nat} {kk : IntKind} {n : Int} {q1 q2 : Option LB} [S : SlC P t e sz by_] (hds : evs σ true [x, y] = some [(.sl sz (encL f L), q1), (.val (.int kk n), q2)]) (E : ElC f sz) (hx : getI L n = some a) (hg : gdv ops σ ⟨dst, .indexAddr t x y, ty, pos, af, g⟩ = some true)
    (hok : (okL Rt i false (nb + 8 * i) [] [] lg && (Nat.beq (zM fz (nb + 8 * i)) 0 && apB cx.np (.indexAddr t x y) [])) = true) (k : Gm P cx fz ops Rt nb (idx (i + 1) l) ((i, false, nb + 8 * i, [], []) :: lg) (σ.app dst (v0 (.elt ((encL f L).drop (n.toNat * sz))))) m' lg' σ') : Gm P cx fz ops Rt nb (idx i (⟨dst, .indexAddr t x y, ty, pos, af, g⟩ :: l)) lg σ m' lg' σ' :=
  Gm.s hds (r_idxS S.h E.h (getI_ix hx) (getI_at hx)) k hg rfl hok
theorem Gm.idxR {α : Type} {f : α → List C} {L : List α} {a : α} {x y : Operand} {t e e' sz by_ k : Nat} {kk : IntKind} {n : Int} {q2 : Option LB} [S : SlC P t e sz by_] (hds : evs σ true [x, y] = some [(.row k, some (.row e' sz (encL f L))), (.val (.int kk n), q2)]) (E : ElC f sz) (hx : getI L n = some a) (hg : gdv ops σ ⟨dst, .indexAddr t x y, ty, pos, af, g⟩ = some true)
    (hok : (okL Rt i false (nb + 8 * i) [k] [] lg && (Nat.beq (zM fz (nb + 8 * i)) 0 && apB cx.np (.indexAddr t x y) [])) = true) (k : Gm P cx fz ops Rt nb (idx (i + 1) l) ((i, false, nb + 8 * i, [k], []) :: lg) (σ.app dst (v0 (.ptr k (n.toNat * sz)))) m' lg' σ') : Gm P cx fz ops Rt nb (idx i (⟨dst, .indexAddr t x y, ty, pos, af, g⟩ :: l)) lg σ m' lg' σ' :=
  Gm.s hds (r_idxR S.h E.h (getI_ix hx) (getI_at hx)) k hg rfl hok
theorem Gm.nilP {x : Operand} {k j : Nat} {q : Option LB} (hds : evs σ false [x] = some [(.ptr k j, q)])  (hg : gdv ops σ ⟨dst, .nilCheck x, ty, pos, af, g⟩ = some true)
    (hok : (okL Rt i false (nb + 8 * i) [] [] lg && (Nat.beq (zM fz (nb + 8 * i)) 0 && apB cx.np (.nilCheck x) [])) = true) (k : Gm P cx fz ops Rt nb (idx (i + 1) l) ((i, false, nb + 8 * i, [], []) :: lg) (σ.app dst (v0 (.ptr k j))) m' lg' σ') : Gm P cx fz ops Rt nb (idx i (⟨dst, .nilCheck x, ty, pos, af, g⟩ :: l)) lg σ m' lg' σ' :=
  Gm.s hds (.nilP) k hg rfl hok
theorem Gm.nilE {x : Operand} {cs : List C} {q : Option LB} (hds : evs σ false [x] = some [(.elt cs, q)])  (hg : gdv ops σ ⟨dst, .nilCheck x, ty, pos, af, g⟩ = some true)
    (hok : (okL Rt i false (nb + 8 * i) [] [] lg && (Nat.beq (zM fz (nb + 8 * i)) 0 && apB cx.np (.nilCheck x) [])) = true) (k : Gm P cx fz ops Rt nb (idx (i + 1) l) ((i, false, nb + 8 * i, [], []) :: lg) (σ.app dst (v0 (.elt cs))) m' lg' σ') : Gm P cx fz ops Rt nb (idx i (⟨dst, .nilCheck x, ty, pos, af, g⟩ :: l)) lg σ m' lg' σ' :=
  Gm.s hds (.nilE) k hg rfl hok
theorem Gm.field1 {x : Operand} {s f off ft sz : Nat} {ds : List DV} {d : DV} {q : Option LB} [F : FdC P s f off ft] [T : TyC P ft false sz] (hds : evs σ false [x] = some [(.agg ds, q)]) (hd : ds[off]? = some d) (hg : gdv ops σ ⟨dst, .field s x f, ty, pos, af, g⟩ = some true)
    (hok : (okL Rt i false (nb + 8 * i) [] [] lg && (Nat.beq (zM fz (nb + 8 * i)) 0 && apB cx.np (.field s x f) [])) = true) (k : Gm P cx fz ops Rt nb (idx (i + 1) l) ((i, false, nb + 8 * i, [], []) :: lg) (σ.app dst (v0 d)) m' lg' σ') : Gm P cx fz ops Rt nb (idx i (⟨dst, .field s x f, ty, pos, af, g⟩ :: l)) lg σ m' lg' σ' :=
  Gm.s hds (.field1 F.h T.h hd) k hg rfl hok
theorem Gm.fieldA {x : Operand} {s f off ft sz : Nat} {ds : List DV} {q : Option LB} [F : FdC P s f off ft] [T : TyC P ft true sz] (hds : evs σ false [x] = some [(.agg ds, q)])  (hg : gdv ops σ ⟨dst, .field s x f, ty, pos, af, g⟩ = some true)
    (hok : (okL Rt i false (nb + 8 * i) [] [] lg && (Nat.beq (zM fz (nb + 8 * i)) 0 && apB cx.np (.field s x f) [])) = true) (k : Gm P cx fz ops Rt nb (idx (i + 1) l) ((i, false, nb + 8 * i, [], []) :: lg) (σ.app dst (v0 (.agg ((ds.drop off).take sz)))) m' lg' σ') : Gm P cx fz ops Rt nb (idx i (⟨dst, .field s x f, ty, pos, af, g⟩ :: l)) lg σ m' lg' σ' :=
  Gm.s hds (.fieldA F.h T.h) k hg rfl hok
theorem Gm.makeF {f : Nat} {first caps : Array Operand} {ds : List (DV × Option LB)} (hds : evs σ false (Op.makeFunc (.func f) first caps).operands.toList = some ds)  (hg : gdv ops σ ⟨dst, .makeFunc (.func f) first caps, ty, pos, af, g⟩ = some true)
    (hok : (okL Rt i false (nb + 8 * i) [] [] lg && (Nat.beq (zM fz (nb + 8 * i)) 0 && apB cx.np (.makeFunc (.func f) first caps) [])) = true) (k : Gm P cx fz ops Rt nb (idx (i + 1) l) ((i, false, nb + 8 * i, [], []) :: lg) (σ.app dst (v0 (.clo f first.size (ds.map (·.1))))) m' lg' σ') : Gm P cx fz ops Rt nb (idx i (⟨dst, .makeFunc (.func f) first caps, ty, pos, af, g⟩ :: l)) lg σ m' lg' σ' :=
  Gm.s hds (.makeFunc) k hg rfl hok
theorem gd_ {p : Prop} (h : p := by first | with_reducible exact gdv_n | exact gdv_t rfl rfl (by first | with_reducible assumption | with_reducible rfl | with_reducible exact not_t (by with_reducible assumption) | with_reducible exact not_f (by with_reducible assumption))) : p := h
theorem gm_ {p : Prop} (h : p := by
    repeat first
      | (apply Gm.move; exact rfl; exact gd_; exact rfl)
      | (apply Gm.assign; exact rfl; exact gd_; exact rfl)
      | (apply Gm.fieldP; exact rfl; (exact rfl); exact gd_; exact rfl)
      | (apply Gm.load1; exact rfl; (exact rfl); exact gd_; exact rfl)
      | (apply Gm.loadA; exact rfl; (exact rfl); exact gd_; exact rfl)
      | (apply Gm.pickF; exact rfl; (first | with_reducible assumption | with_reducible rfl | with_reducible exact not_t (by with_reducible assumption)); exact gd_; exact rfl)
      | (apply Gm.pickT; exact rfl; (first | with_reducible assumption | with_reducible rfl | with_reducible exact not_f (by with_reducible assumption)); exact gd_; exact rfl)
      | (apply Gm.k; (first | exact gdv_ff rfl rfl (by first | with_reducible assumption | with_reducible rfl | with_reducible exact not_t (by with_reducible assumption) | with_reducible exact not_f (by with_reducible assumption)) | exact gdv_ft rfl rfl (by first | with_reducible assumption | with_reducible rfl | with_reducible exact not_t (by with_reducible assumption) | with_reducible exact not_f (by with_reducible assumption)) | exact gdv_u rfl rfl); exact rfl)
      | (apply Gm.storeB; exact rfl; (exact rfl); (exact rfl); (exact rfl); (focus repeat first | exact (rfl : _ = []) | (apply nl_c; exact rfl)); (first | exact (rfl : _ = [_]) | exact (rfl : _ = [_, _]) | exact (rfl : _ = [_, _, _])); exact gd_; exact rfl)
      | (apply Gm.extract; exact rfl; (exact rfl); exact gd_; exact rfl)
      | (apply Gm.lss; exact rfl; exact gd_; exact rfl)
      | (apply Gm.eql; exact rfl; exact gd_; exact rfl)
      | (apply Gm.gtr; exact rfl; exact gd_; exact rfl)
      | (apply Gm.leq; exact rfl; exact gd_; exact rfl)
      | (apply Gm.geq; exact rfl; exact gd_; exact rfl)
      | (apply Gm.neq; exact rfl; exact gd_; exact rfl)
      | (apply Gm.seql; exact rfl; exact gd_; exact rfl)
      | (apply Gm.sneq; exact rfl; exact gd_; exact rfl)
      | (apply Gm.add; exact rfl; exact gd_; exact rfl)
      | (apply Gm.sub; exact rfl; exact gd_; exact rfl)
      | (apply Gm.mul; exact rfl; exact gd_; exact rfl)
      | (apply Gm.alloc; exact rfl; exact gd_; exact rfl)
      | (apply Gm.box; exact rfl; (exact rfl); exact gd_; exact rfl)
      | (apply Gm.not; exact rfl; exact gd_; exact rfl)
      | (apply Gm.lenS; exact rfl; (exact inferInstance); exact gd_; exact rfl)
      | (apply Gm.lenR; exact rfl; (exact inferInstance); exact gd_; exact rfl)
      | (apply Gm.idxS; exact rfl; (exact inferInstance); (with_reducible assumption); exact gd_; exact rfl)
      | (apply Gm.idxR; exact rfl; (exact inferInstance); (with_reducible assumption); exact gd_; exact rfl)
      | (apply Gm.nilP; exact rfl; exact gd_; exact rfl)
      | (apply Gm.nilE; exact rfl; exact gd_; exact rfl)
      | (apply Gm.field1; exact rfl; (exact rfl); exact gd_; exact rfl)
      | (apply Gm.fieldA; exact rfl; exact gd_; exact rfl)
      | (apply Gm.makeF; exact rfl; exact gd_; exact rfl)
    exact Gm.z) : p := h
theorem go_ {m : List (Nat × Oper)} (k : Chain (sys P cx fz) ops Rt nb m' lg' σ' Q) (h : Gm P cx fz ops Rt nb m lg σ m' lg' σ' := by exact gm_) : Chain (sys P cx fz) ops Rt nb m lg σ Q := h Q k
end
theorem bc_ {R : Type} {b : Bool} {X Y : Option R} {r : R} (hg : cond b X Y = some r) : (b = true ∧ X = some r) ∨ (b = false ∧ Y = some r) := by
  cases b with
  | true => exact .inl ⟨rfl, hg⟩
  | false => exact .inr ⟨rfl, hg⟩
section
variable {P : Program} {cx : Cx} {σ : St} {Q : Exit → St → Prop} {x y : Code}
theorem cg_ {R : Type} {t : Nat} {b : Bool} {X Y : Option R} {r : R} (hc : σ.F t = some (.val (.bool b))) (hg : cond b X Y = some r) (h1 : b = true → X = some r → awp P cx x Q σ) (h2 : b = false → Y = some r → awp P cx y Q σ) : awp P cx (.cond (.tmp t) x y) Q σ :=
  awp_cond hc (fun h => h1 h (cond_t h hg)) fun h => h2 h (cond_f h hg)
theorem sub_ {fl : List (Nat × DV)} {ll : List (Nat × LB)} {n : Nat} (θ : List (Nat × Nat))
    (hF : allF σ (look θ) fl := by
      repeat' first
        | exact trivial
        | refine ⟨⟨_, rfl, ?_⟩, ?_⟩
        | exact Cv.val _
        | exact Cv.sl _ _
        | exact Cv.ptr rfl
        | exact Cv.row rfl
        | exact Cv.part rfl
        | exact Cv.nil rfl
        | exact Cv.nils _
        | exact Cv.elt _
        | exact Cv.mp _
        | refine Cv.clo _ _ ?_
        | refine Cv.agg ?_
        | refine Cv.tup ?_
        | refine Cv.clo _ _ ?_
        | exact CvL.nil
        | refine CvL.cons ?_ ?_
        | exact Cv.frzM rfl (look_ne rfl)
        | exact Cv.frz rfl (look_ne rfl)
        | exact Cv.frzT rfl (look_ne rfl))
    (hL : allL σ (look θ) ll := by
      repeat' first
        | exact trivial
        | refine ⟨.inl ⟨_, _, rfl, rfl, ⟨rfl, rfl, rfl⟩⟩, ?_⟩
        | refine ⟨.inl ⟨_, _, rfl, rfl, ⟨rfl, rfl, rfl, rfl, rfl, rfl, rfl, rfl⟩⟩, ?_⟩
        | refine ⟨.inl ⟨_, _, rfl, rfl, trivial⟩, ?_⟩
        | refine ⟨.inl ⟨_, _, rfl, rfl, rfl⟩, ?_⟩
        | refine ⟨.inl ⟨_, _, rfl, rfl, ⟨rfl, ?_⟩⟩, ?_⟩
        | refine ⟨.inr ⟨rfl, _, _, rfl⟩, ?_⟩
        | exact Cv.val _
        | exact Cv.sl _ _
        | exact Cv.ptr rfl
        | exact Cv.row rfl
        | exact Cv.part rfl
        | exact Cv.nil rfl
        | exact Cv.nils _
        | exact Cv.elt _
        | exact Cv.mp _
        | refine Cv.clo _ _ ?_
        | refine Cv.agg ?_
        | exact CvL.nil
        | refine CvL.cons ?_ ?_
        | exact Cv.frzM rfl (look_ne rfl)
        | exact Cv.frz rfl (look_ne rfl)
        | exact Cv.frzT rfl (look_ne rfl))
    (hc : chkL fl ll n θ = true := by rfl) (hp : pinB θ n cx.np = true := by rfl) : Sub cx σ (mk fl ll n) := Sub.lists θ hc hp hF hL
theorem lp_ {S R : Type} {body : S → Option (Lp S R)} {s0 : S} {r : R} (st : S → St) (hg : loop body s0 = some r) (h0 : Sub cx σ (st s0)) (round : ∀ (s : S) (m : Nat) (o : Lp S R), body s = some o → lstep (iter body m) o = some r → awp P cx x (thn (fun σ' => ∃ j : S × Nat, j.2 < m + 1 ∧ iter body j.2 j.1 = some r ∧ Sub cx σ' (st j.1)) Q) (st s)) : awp P cx (.loop x) Q σ := by
  obtain ⟨n, hg⟩ := loop_some hg
  refine awp_loop (ι := S × Nat) (fun q => st q.1) (fun q => iter body q.2 q.1 = some r) (fun q => q.2) (s0, n) h0 hg ?_
  rintro ⟨s, k⟩ hk
  obtain ⟨m, o, rfl, h1, h2⟩ := iter_some (show iter body k s = some r from hk)
  exact round s m o h1 h2
theorem fin_ {fn : Func} {np : Nat} {R : DV → List LB → Prop} {ds : List DV} {r : DV} {bx : List LB} (θ : List (Nat × Nat)) (hR : R r bx)
    (h1 : ResDs P σ fn.results.toList ds := by
      repeat first
        | exact ResDs.nil
        | (apply ResDs.cons; exact .tmp rfl)
        | (apply ResDs.cons; exact .cell1 rfl rfl TyC.h rfl)
        | (apply ResDs.cons; exact .cellA rfl rfl TyC.h rfl))
    (h2 : Cv σ (look θ) (oneD ds) r := by
      repeat' first
        | exact Cv.val _
        | exact Cv.sl _ _
        | exact Cv.ptr rfl
        | exact Cv.row rfl
        | exact Cv.nil rfl
        | exact Cv.nils _
        | exact Cv.elt _
        | exact Cv.mp _
        | refine Cv.clo _ _ ?_
        | refine Cv.agg ?_
        | refine Cv.tup ?_
        | exact CvL.nil
        | refine CvL.cons ?_ ?_
        | exact Cv.frzM rfl (look_ne rfl)
        | exact Cv.frz rfl (look_ne rfl)
        | exact Cv.frzT rfl (look_ne rfl))
    (h3 : allL σ (look θ) (ix 0 bx) := by
      repeat' first
        | exact trivial
        | refine ⟨.inl ⟨_, _, rfl, rfl, ⟨rfl, rfl, rfl⟩⟩, ?_⟩
        | refine ⟨.inl ⟨_, _, rfl, rfl, ⟨rfl, rfl, rfl, rfl, rfl, rfl, rfl, rfl⟩⟩, ?_⟩
        | refine ⟨.inl ⟨_, _, rfl, rfl, trivial⟩, ?_⟩
        | refine ⟨.inl ⟨_, _, rfl, rfl, rfl⟩, ?_⟩
        | refine ⟨.inl ⟨_, _, rfl, rfl, ⟨rfl, ?_⟩⟩, ?_⟩
        | refine ⟨.inr ⟨rfl, _, _, rfl⟩, ?_⟩
        | exact Cv.val _
        | exact Cv.sl _ _
        | exact Cv.ptr rfl
        | exact Cv.row rfl
        | exact Cv.nil rfl
        | exact Cv.nils _
        | exact Cv.elt _
        | exact Cv.mp _
        | refine Cv.clo _ _ ?_
        | refine Cv.agg ?_
        | exact CvL.nil
        | refine CvL.cons ?_ ?_
        | exact Cv.frzM rfl (look_ne rfl)
        | exact Cv.frz rfl (look_ne rfl)
        | exact Cv.frzT rfl (look_ne rfl))
    (h4 : chkL [(0, r)] (ix 0 bx) bx.length θ = true := by rfl) (h5 : pinB θ bx.length np = true := by rfl) (h6 : Nat.ble np bx.length = true := by rfl) (h7 : Nat.ble bx.length (np + 8) = true := by rfl) (h8 : (bx.take np).all noT = true := by rfl) : Fin P fn np R σ :=
  ⟨ds, r, bx, θ, h1, hR, h2, h3, h4, h5, h6, h7, h8⟩
end
section
variable {P : Program} {cx : Cx} {ops : Array Oper} {Rt : Option (List Nat)} {nb i : Nat} {l : List Oper} {lg : Log} {σ : St} {Q : St → Prop} {fz : List Nat}
theorem ca_ {dst : Option Tmp} {f : FuncId} {xs : Array Operand} {tys : Array TypeId} {ty : TypeId} {pos : String} {af : Array Edge} {g : Option (Nat × Bool)} {dsA : List (DV × Option LB)} {args : List DV} {d : DV}
    (hF : Fn P f 0 args [] (fun d' b' => d' = d ∧ b' = []))
    (k : Chain (sys P cx fz) ops Rt nb (idx (i + 1) l) ((i, true, nb + 8 * i, [], []) :: lg) (σ.app dst (effP [] [] d [])) Q)
    (hds : evs σ true xs.toList = some dsA := by rfl)
    (hA : AgL false ([] ++ []) (envL σ []) (dsA.map (·.1)) args := by
      repeat' first
        | exact AgL.nil
        | exact Ag.val
        | exact Ag.sl
        | exact Ag.nils
        | exact Ag.elt
        | exact Ag.fn
        | refine Ag.agg ?_
        | refine Ag.clo ?_
        | refine AgL.cons ?_ ?_)
    (hg : gdv ops σ ⟨dst, .call ⟨.value (.func f), xs, tys⟩, ty, pos, af, g⟩ = some true := by exact gd_)
    (hrd : deep σ 3 (argT dsA) = [] := by rfl) (hok : okL Rt i true (nb + 8 * i) [] [] lg = true := by rfl) (hr : dtok d = [] := by rfl) :
    Chain (sys P cx fz) ops Rt nb (idx i (⟨dst, .call ⟨.value (.func f), xs, tys⟩, ty, pos, af, g⟩ :: l)) lg σ Q :=
  ch_callP (ps := []) (gs := []) (rd := []) (bx := []) (b := []) false hg hF hds hrd hA rfl rfl (fun h => by cases h) hok hr rfl rfl k
theorem cb_ {dst : Option Tmp} {f : FuncId} {xs : Array Operand} {tys : Array TypeId} {ty : TypeId} {pos : String} {af : Array Edge} {g : Option (Nat × Bool)} {dsA : List (DV × Option LB)} {args : List DV} {bx : List LB} {d : DV} {b : List LB} (rd ps gs : List Nat) (fl : Bool)
    (hF : Fn P f ps.length args bx (fun d' b' => d' = d ∧ b' = b))
    (k : Chain (sys P cx fz) ops Rt nb (idx (i + 1) l) ((i, true, nb + 8 * i, rd, ps ++ gs) :: lg) (σ.app dst (effP ps gs d b)) Q)
    (hds : evs σ true xs.toList = some dsA := by rfl)
    (hA : AgL fl (ps ++ gs) (envL σ rd) (dsA.map (·.1)) args := by
      repeat' first
        | exact AgL.nil
        | exact Ag.val
        | exact Ag.sl
        | exact Ag.nils
        | exact Ag.elt
        | exact Ag.fn
        | exact Ag.ptr rfl
        | exact Ag.rowK rfl
        | exact Ag.row rfl (by repeat first | exact List.Mem.head _ | refine List.Mem.tail _ ?_) rfl
        | refine Ag.agg ?_
        | refine Ag.clo ?_
        | refine AgL.cons ?_ ?_)
    (hB : BxR fl (ps ++ gs) (envL σ rd) (ps ++ gs) bx := by
      repeat' first
        | exact (rfl : _ = [])
        | refine ⟨_, _, _, rfl, (.head _), ⟨_, rfl, ?_⟩, ?_⟩
        | refine ⟨_, _, _, rfl, (.tail _ (.head _)), ⟨_, rfl, ?_⟩, ?_⟩
        | refine ⟨_, _, _, rfl, (.tail _ (.tail _ (.head _))), ⟨_, rfl, ?_⟩, ?_⟩
        | refine ⟨_, _, _, rfl, (.tail _ (.tail _ (.tail _ (.head _)))), ⟨_, rfl, ?_⟩, ?_⟩
        | refine ⟨_, _, _, rfl, (.tail _ (.tail _ (.tail _ (.tail _ (.head _))))), ⟨_, rfl, ?_⟩, ?_⟩
        | refine ⟨_, _, _, rfl, (.tail _ (.tail _ (.tail _ (.tail _ (.tail _ (.head _)))))), ⟨_, rfl, ?_⟩, ?_⟩
        | refine ⟨_, _, _, rfl, (.tail _ (.tail _ (.tail _ (.tail _ (.tail _ (.tail _ (.head _))))))), ⟨_, rfl, ?_⟩, ?_⟩
        | refine ⟨_, _, _, rfl, (.head _), rfl, ?_⟩
        | refine ⟨_, _, _, rfl, (.tail _ (.head _)), rfl, ?_⟩
        | refine ⟨_, _, _, rfl, (.tail _ (.tail _ (.head _))), rfl, ?_⟩
        | refine ⟨_, _, _, rfl, (.tail _ (.tail _ (.tail _ (.head _)))), rfl, ?_⟩
        | refine ⟨_, _, _, rfl, (.tail _ (.tail _ (.tail _ (.tail _ (.head _))))), rfl, ?_⟩
        | refine ⟨_, _, _, rfl, (.tail _ (.tail _ (.tail _ (.tail _ (.tail _ (.head _)))))), rfl, ?_⟩
        | refine ⟨_, _, _, rfl, (.tail _ (.tail _ (.tail _ (.tail _ (.tail _ (.tail _ (.head _))))))), rfl, ?_⟩
        | exact AgL.nil
        | exact Ag.val
        | exact Ag.sl
        | exact Ag.nils
        | exact Ag.elt
        | exact Ag.ptr rfl
        | refine AgL.cons ?_ ?_)
    (hg : gdv ops σ ⟨dst, .call ⟨.value (.func f), xs, tys⟩, ty, pos, af, g⟩ = some true := by exact gd_)
    (hrd : deep σ 3 (argT dsA) = rd := by rfl) (hnd : hands cx.np ps gs = true := by rfl) (hfl : fl = true → flatD d ∧ ∀ lb ∈ b, flatB lb := by first | (intro h; cases h; done) | exact fun _ => ⟨by simp [flatD, flatDs], by simp [flatB, flatDs, flatD]⟩)
    (hok : okL Rt i true (nb + 8 * i) rd (ps ++ gs) lg = true := by rfl) (hr : dtok d = [] := by rfl) (hl : b.length = ps.length := by rfl) (hb : b.flatMap btok = [] := by rfl) :
    Chain (sys P cx fz) ops Rt nb (idx i (⟨dst, .call ⟨.value (.func f), xs, tys⟩, ty, pos, af, g⟩ :: l)) lg σ Q :=
  ch_callP fl hg hF hds hrd hA hB hnd hfl hok hr hl hb k
end
class FlC {α : Type} (f : α → List C) : Prop where
  h : ∀ x, ∀ c ∈ f x, flatC c = true
instance : FlC eI := ⟨fun x c hc => by rw [List.mem_singleton.1 hc]; rfl⟩
section
variable {P : Program} {cx : Cx} {ops : Array Oper} {Rt : Option (List Nat)} {nb i : Nat} {l : List Oper} {lg : Log} {σ : St} {Q : St → Prop} {fz : List Nat} {α : Type} {f : α → List C} {L : List α} {a : α} {n : Int} {m : Nat} {t : TypeId} {x y : Operand} {dst : Option Tmp} {ty : TypeId} {pos : String} {af : Array Edge} {g : Option (Nat × Bool)}
end
end Go.Proofs.Ytfkgbfhpibiheaa
