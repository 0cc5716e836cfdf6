/- The rules: what each kind of operation does to a state. -/
import Derived.Test.YtfkgbfhpibiheaaEA
import Derived.Laws.CopyRow
import Derived.Laws.MakeOwn
import Derived.Laws.OwnMore
import Derived.Laws.IdiomStrings
set_option linter.unusedVariables false
set_option linter.unusedSimpArgs false
namespace Go.Proofs.Ytfkgbfhpibiheaa
open Go.RowKit
def aggD : TypeDesc → Bool
  | .struct _ => true
  | .array _ _ => true
  | _ => false
structure Ty (P : Program) (t : TypeId) (ag : Bool) (sz : Nat) : Prop where
  hi : (P.info? t).map (·.size) = some sz
  hu : (P.underlying t).map aggD = some ag
def Zt (P : Program) (t : TypeId) (z : List Value) : Prop := ∃ v, (P.info? t).bind (·.zero) = some v ∧ v.cells.toList = z ∧ ∀ u ∈ z, u.oneCell' = true ∧ okVb u = true
def Fd (P : Program) (s : TypeId) (f off : Nat) (ft : TypeId) : Prop := ∃ fields fd, P.underlying s = some (.struct fields) ∧ fields[f]? = some fd ∧ fd.offset = off ∧ fd.type = ft
def cdv : C → DV
  | .int k n => .val (.int k n)
  | .bool b => .val (.bool b)
  | .str s => .val (.string s)
  | .raw v => .val v
  | .sl sz cs => .sl sz cs
  | .mp l => .mp l
def cellK (P : Program) : Nat → TypeId → List (Option Nat)
  | 0, _ => [none]
  | n + 1, t => match P.underlying t with
    | some (.slice e) => [(P.info? e).map (·.size)]
    | some (.struct fs) => fs.toList.flatMap fun f => cellK P n f.type
    | some (.array m e) => (List.replicate m (cellK P n e)).flatten
    | _ => [none]
def dcells : DV → List DV
  | .agg ds => ds
  | d => [d]
def okC : DV → Bool
  | .val v => v.oneCell'
  | .tup _ => false
  | .nst _ _ _ => false
  | .npt _ _ _ _ => false
  | .qpt _ _ => false
  | _ => true
def splice {α : Type} (l : List α) (i : Nat) (xs : List α) : List α := l.take i ++ xs ++ l.drop (i + xs.length)
def dfill (place : Nat → Option (Nat × Nat)) : List DV → List (Nat × DV) → Option (List DV)
  | cells, [] => some cells
  | cells, (i, d) :: rest => match place i with
    | none => none
    | some (off, size) => bif Nat.beq (dcells d).length size && Nat.ble (off + size) cells.length then dfill place (splice cells off (dcells d)) rest else none
inductive SrcN : DV × Option LB → Nat → List C → Prop
  | sl {sz cs b} : SrcN (.sl sz cs, b) sz cs
  | row {k e sz cs} : SrcN (.row k, some (.row e sz cs)) sz cs
  | part {k off n e sz cs} (h : off + n * sz ≤ cs.length) : SrcN (.part k off n, some (.row e sz cs)) sz ((cs.drop off).take (n * sz))
inductive Src : DV × Option LB → Nat → List C → Prop
  | sl {sz cs b} : Src (.sl sz cs, b) sz cs
  | row {k e sz cs} : Src (.row k, some (.row e sz cs)) sz cs
  | part {k off n e sz cs} (h : off + n * sz ≤ cs.length) : Src (.part k off n, some (.row e sz cs)) sz ((cs.drop off).take (n * sz))
  | nil {sz b} : Src (.val (.slice none 0 0), b) sz []
  | nst {k s i e sz o e2 sz2 h cs c2} (hc : cs[i * sz + o]? = some (.sl sz2 c2)) (hh : h ≠ some i) : Src (.nst k s i, some (.tree e sz o e2 sz2 s h cs)) sz2 c2
theorem SrcN.src {q : DV × Option LB} {sz : Nat} {cs : List C} (h : SrcN q sz cs) : Src q sz cs := by
  cases h with
  | sl => exact .sl
  | row => exact .row
  | part h => exact .part h
inductive Tgt : DV × Option LB → Nat → Nat → List C → List Nat → Prop
  | row {k e sz cs} : Tgt (.row k, some (.row e sz cs)) e sz cs [k]
  | part {k n e sz cs} (hn : n * sz ≤ cs.length) : Tgt (.part k 0 n, some (.row e sz cs)) e sz (cs.take (n * sz)) [k]
  | nil {e sz b} : Tgt (.val (.slice none 0 0), b) e sz [] []
inductive Len : DV × Option LB → Nat → Prop
  | sl {sz cs b n} (hz : 0 < sz) (h : cs.length = n * sz) : Len (.sl sz cs, b) n
  | row {k e sz cs n} (hz : 0 < sz) (h : cs.length = n * sz) : Len (.row k, some (.row e sz cs)) n
  | part {k off n b} : Len (.part k off n, b) n
  | rowT {k e sz o e2 sz2 s h cs n} (hz : 0 < sz) (hn : cs.length = n * sz) : Len (.row k, some (.tree e sz o e2 sz2 s h cs)) n
  | nst {k s i e sz o e2 sz2 h cs c2 n} (hz : 0 < sz2) (hc : cs[i * sz + o]? = some (.sl sz2 c2)) (hh : h ≠ some i) (hn : c2.length = n * sz2) : Len (.nst k s i, some (.tree e sz o e2 sz2 s h cs)) n
def bnd (n : Nat) : Option Operand → Option Operand → List (DV × Option LB) → Nat → Nat → Prop
  | none, none, r, l, h => r = [] ∧ l = 0 ∧ h = n
  | some _, none, r, l, h => (∃ b k x, r = [(.val (.int k x), b)] ∧ x = (l : Int)) ∧ h = n
  | none, some _, r, l, h => (∃ b k x, r = [(.val (.int k x), b)] ∧ x = (h : Int)) ∧ l = 0
  | some _, some _, r, l, h => ∃ b b' k k' x y, r = [(.val (.int k x), b), (.val (.int k' y), b')] ∧ x = (l : Int) ∧ y = (h : Int)
def new1 (tk : Nat) (lb : LB) (d : DV) : Eff := ⟨some d, fun k => bif Nat.beq k tk then some (some lb) else none⟩
def new1k (tk : Nat) (lb : LB) (ks : List Nat) (d : DV) : Eff := ⟨some d, fun k => bif Nat.beq k tk then some (some lb) else (bif ks.any (Nat.beq k) then some none else none)⟩
def wrt (k0 : Nat) (lb : LB) : Eff := ⟨none, fun k => bif Nat.beq k k0 then some (some lb) else none⟩
def v0 (d : DV) : Eff := put0 (some d)
def scT (P : Program) (t : TypeId) : Bool := match P.underlying t with | some (.slice _) => false | some _ => true | none => false
mutual
def dval : DV → Option Value
  | .val v => some v
  | .agg ds => match dvals ds with | some vs => some (.agg vs.toArray) | none => none
  | .sl _ _ => none
  | .slc _ _ => none
  | .mp _ => none
  | .row _ => none
  | .part _ _ _ => none
  | .ptr _ _ => none
  | .elt _ => none
  | .nst _ _ _ => none
  | .npt _ _ _ _ => none
  | .qpt _ _ => none
  | .tup _ => none
  | .clo _ _ _ => none
def dvals : List DV → Option (List Value)
  | [] => some []
  | d :: ds => match dval d, dvals ds with | some v, some vs => some (v :: vs) | _, _ => none
end
section
variable {ρ : Nat → Value} {I : Nat → Prop} {w : World}
mutual
theorem Rep.dval : ∀ (d : DV) (v u : Value), Rep ρ I w d v → Go.Proofs.Ytfkgbfhpibiheaa.dval d = some u → v = u
  | .val _, v, u, h, hd => by
    unfold Rep at h
    unfold Go.Proofs.Ytfkgbfhpibiheaa.dval at hd
    injection hd with hd
    rw [h.1, hd]
  | .agg ds, v, u, h, hd => by
    unfold Rep at h
    obtain ⟨vs, rfl, -, h⟩ := h
    unfold Go.Proofs.Ytfkgbfhpibiheaa.dval at hd
    cases hv : dvals ds with
    | none => rw [hv] at hd; cases hd
    | some us =>
      rw [hv] at hd
      injection hd with hd
      rw [← hd, RepL.dvals ds vs us h hv]
  | .sl _ _, _, _, _, hd => by unfold Go.Proofs.Ytfkgbfhpibiheaa.dval at hd; cases hd
  | .slc _ _, _, _, _, hd => by unfold Go.Proofs.Ytfkgbfhpibiheaa.dval at hd; cases hd
  | .mp _, _, _, _, hd => by unfold Go.Proofs.Ytfkgbfhpibiheaa.dval at hd; cases hd
  | .row _, _, _, _, hd => by unfold Go.Proofs.Ytfkgbfhpibiheaa.dval at hd; cases hd
  | .part _ _ _, _, _, _, hd => by unfold Go.Proofs.Ytfkgbfhpibiheaa.dval at hd; cases hd
  | .ptr _ _, _, _, _, hd => by unfold Go.Proofs.Ytfkgbfhpibiheaa.dval at hd; cases hd
  | .elt _, _, _, _, hd => by unfold Go.Proofs.Ytfkgbfhpibiheaa.dval at hd; cases hd
  | .nst _ _ _, _, _, _, hd => by unfold Go.Proofs.Ytfkgbfhpibiheaa.dval at hd; cases hd
  | .npt _ _ _ _, _, _, _, hd => by unfold Go.Proofs.Ytfkgbfhpibiheaa.dval at hd; cases hd
  | .qpt _ _, _, _, _, hd => by unfold Go.Proofs.Ytfkgbfhpibiheaa.dval at hd; cases hd
  | .tup _, _, _, _, hd => by unfold Go.Proofs.Ytfkgbfhpibiheaa.dval at hd; cases hd
  | .clo _ _ _, _, _, _, hd => by unfold Go.Proofs.Ytfkgbfhpibiheaa.dval at hd; cases hd
theorem RepL.dvals : ∀ (ds : List DV) (vs us : List Value), RepL ρ I w ds vs → Go.Proofs.Ytfkgbfhpibiheaa.dvals ds = some us → vs = us
  | [], vs, us, h, hd => by
    unfold RepL at h
    unfold Go.Proofs.Ytfkgbfhpibiheaa.dvals at hd
    injection hd with hd
    rw [h, hd]
  | d :: ds, vs, us, h, hd => by
    unfold RepL at h
    obtain ⟨u, us', rfl, h1, h2⟩ := h
    unfold Go.Proofs.Ytfkgbfhpibiheaa.dvals at hd
    cases hv : Go.Proofs.Ytfkgbfhpibiheaa.dval d with
    | none => rw [hv] at hd; cases hd
    | some v =>
      cases hv' : Go.Proofs.Ytfkgbfhpibiheaa.dvals ds with
      | none => rw [hv, hv'] at hd; cases hd
      | some vs' =>
        rw [hv, hv'] at hd
        injection hd with hd
        rw [← hd, Rep.dval d u v h1 hv, RepL.dvals ds us' vs' h2 hv']
end
end
theorem Rep.dval_ok {ρ : Nat → Value} {I : Nat → Prop} {w : World} {d : DV} {v u : Value} (h : Rep ρ I w d v) (hd : Go.Proofs.Ytfkgbfhpibiheaa.dval d = some u) : okVb u = true := by
  cases d with
  | val x =>
    unfold Rep at h
    unfold Go.Proofs.Ytfkgbfhpibiheaa.dval at hd
    injection hd with hd
    rw [← hd]; exact h.2
  | agg ds =>
    unfold Go.Proofs.Ytfkgbfhpibiheaa.dval at hd
    cases hv : dvals ds with
    | none => rw [hv] at hd; cases hd
    | some us => rw [hv] at hd; injection hd with hd; subst hd; rfl
  | _ => unfold Go.Proofs.Ytfkgbfhpibiheaa.dval at hd; cases hd
inductive OpR (P : Program) : Nat → Op → TypeId → List (DV × Option LB) → List Nat → Eff → Prop
  | move {tk x ty d b} : OpR P tk (.move x) ty [(d, b)] [] (v0 d)
  | assign {tk x ty d b} : OpR P tk (.assign x) ty [(d, b)] [] (v0 d)
  | pick {tk x y z ty c b1 d1 b2 d2 b3} : OpR P tk (.pick x y z) ty [(.val (.bool c), b1), (d1, b2), (d2, b3)] [] (v0 (bif c then d1 else d2))
  | binOpA {tk op xt yt x y ty d1 d2 vx vy v b1 b2} (h1 : dval d1 = some vx) (h2 : dval d2 = some vy) (hv : okVb vx = true → okVb vy = true → okVb v = true) (h : ∀ w, (do eqGuard op xt x y vx vy; binOp op xt vx vy : Sem Value).run P w = .ok v w) : OpR P tk (.binOp op xt x y yt) ty [(d1, b1), (d2, b2)] [] (v0 (.val v))
  | unOp {tk op xt x ty vx v b1} (hv : okVb vx = true → okVb v = true) (h : ∀ w, (Op.unary op vx).run P w = .ok v w) : OpR P tk (.unOp op xt x) ty [(.val vx, b1)] [] (v0 (.val v))
  | conv {tk src dst x ty vx v b1} (hs : scT P src = true) (hd : scT P dst = true) (hv : okVb vx = true → okVb v = true) (h : ∀ w, (convert src dst vx).run P w = .ok v w) : OpR P tk (.convert src dst x) ty [(.val vx, b1)] [] (v0 (.val v))
  | convS {tk src dst e x ty d cs l} (hs : P.underlying src = some (.slice e)) (he : P.underlying e = some (.int .u8)) (hd : P.underlying dst = some .string) (h : SrcN d 1 cs) (hc : cs = bytesC l) : OpR P tk (.convert src dst x) ty [d] [] (v0 (.val (.string ⟨l.toArray⟩)))
  | convB {tk src dst e x ty s b} (hs : P.underlying src = some .string) (hd : P.underlying dst = some (.slice e)) (he : P.underlying e = some (.int .u8)) : OpR P tk (.convert src dst x) ty [(.val (.string s), b)] [] (v0 (.sl 1 (bytesC s.data.toList)))
  | indexA {tk t x i ty ds k n d b1 b2 e m} {j : Nat} (ht : P.underlying t = some (.array m e)) (he : Ty P e false 1) (hj : n = (j : Int)) (hl : ds.length = m) (hd : ds[j]? = some d) : OpR P tk (.index t x i) ty [(.agg ds, b1), (.val (.int k n), b2)] [] (v0 d)
  | indexAA {tk t x i ty ds ds' k n b1 b2 e m sz} {j : Nat} (ht : P.underlying t = some (.array m e)) (he : Ty P e true sz) (hj : n = (j : Int)) (hl : j < m) (hd : (ds.drop (j * sz)).take sz = ds') : OpR P tk (.index t x i) ty [(.agg ds, b1), (.val (.int k n), b2)] [] (v0 (.agg ds'))
  | idxA {tk t x i ty k n kr p b b' e m ag sz} {j : Nat} (ht : P.underlying t = some (.array m e)) (he : Ty P e ag sz) (hj : n = (j : Int)) (hl : j < m) : OpR P tk (.indexAddr t x i) ty [(.ptr kr p, b), (.val (.int k n), b')] [] (v0 (.ptr kr (p + j * sz)))
  | indexS {tk t x i ty vx vi v b1 b2} (hv : okVb vx = true → okVb vi = true → okVb v = true) (h : ∀ w, (Instr.index t vx vi).run P w = .ok v w) : OpR P tk (.index t x i) ty [(.val vx, b1), (.val vi, b2)] [] (v0 (.val v))
  | sliceS1 {tk t x i ty vx vi v b1 b2} (hv : okVb vx = true → okVb v = true) (h : ∀ w, (Instr.sliceAt t vx (some vi) none none).run P w = .ok v w) : OpR P tk (.slice t x (some i) none none) ty [(.val vx, b1), (.val vi, b2)] [] (v0 (.val v))
  | sliceS2 {tk t x i ty vx vi v b1 b2} (hv : okVb vx = true → okVb v = true) (h : ∀ w, (Instr.sliceAt t vx none (some vi) none).run P w = .ok v w) : OpR P tk (.slice t x none (some i) none) ty [(.val vx, b1), (.val vi, b2)] [] (v0 (.val v))
  | sliceS3 {tk t x i j ty vx vi vj v b1 b2 b3} (hv : okVb vx = true → okVb v = true) (h : ∀ w, (Instr.sliceAt t vx (some vi) (some vj) none).run P w = .ok v w) : OpR P tk (.slice t x (some i) (some j) none) ty [(.val vx, b1), (.val vi, b2), (.val vj, b3)] [] (v0 (.val v))
  | len {tk x t ty d n} (ht : P.underlying t = some (.slice (P.elem t))) (h : Len d n) : OpR P tk (.call ⟨.builtin .len, #[x], #[t]⟩) ty [d] [] (v0 (.val (.int .i64 n)))
  | callV1 {tk bt ts x ty vx v b1} (hv : okVb vx = true → okVb v = true) (h : ∀ w, ∀ cs, (builtin bt ts ty cs #[vx]).run P w = .ok (.value v) w) : OpR P tk (.call ⟨.builtin bt, #[x], ts⟩) ty [(.val vx, b1)] [] (v0 (.val v))
  | callV2 {tk bt ts x y ty vx vy v b1 b2} (hb : bt ≠ .append) (hv : okVb vx = true → okVb vy = true → okVb v = true) (h : ∀ w, ∀ cs, (builtin bt ts ty cs #[vx, vy]).run P w = .ok (.value v) w) : OpR P tk (.call ⟨.builtin bt, #[x, y], ts⟩) ty [(.val vx, b1), (.val vy, b2)] [] (v0 (.val v))
  | extract {tk x i ty ds d b} (h : ds[i]? = some d) : OpR P tk (.extract x i) ty [(.tup ds, b)] [] (v0 d)
  | nilP {tk x ty k i b} : OpR P tk (.nilCheck x) ty [(.ptr k i, b)] [] (v0 (.ptr k i))
  | nilE {tk x ty cs b} : OpR P tk (.nilCheck x) ty [(.elt cs, b)] [] (v0 (.elt cs))
  | fieldP {tk s x f ty k i b off ft sz ag} (h : Fd P s f off ft) (ht : Ty P ft ag sz) (hz : 0 < sz) : OpR P tk (.fieldAddr s x f) ty [(.ptr k i, b)] [] (v0 (.ptr k (i + off)))
  | fieldE {tk s x f ty cs b off ft sz ag} (h : Fd P s f off ft) (ht : Ty P ft ag sz) (hz : 0 < sz) (hl : off < cs.length) : OpR P tk (.fieldAddr s x f) ty [(.elt cs, b)] [] (v0 (.elt (cs.drop off)))
  | field1 {tk s x f ty ds b off ft sz d} (h : Fd P s f off ft) (ht : Ty P ft false sz) (hd : ds[off]? = some d) : OpR P tk (.field s x f) ty [(.agg ds, b)] [] (v0 d)
  | fieldA {tk s x f ty ds b off ft sz} (h : Fd P s f off ft) (ht : Ty P ft true sz) : OpR P tk (.field s x f) ty [(.agg ds, b)] [] (v0 (.agg ((ds.drop off).take sz)))
  | idxS {tk t x i ty e sz bytes cs k n b b'} {j : Nat} (h : SlT P t e sz bytes) (hj : n = (j : Int)) (hl : j * sz + sz ≤ cs.length) : OpR P tk (.indexAddr t x i) ty [(.sl sz cs, b), (.val (.int k n), b')] [] (v0 (.elt (cs.drop (j * sz))))
  | idxR {tk t x i ty e sz bytes cs k n kr e' b'} {j : Nat} (h : SlT P t e sz bytes) (hj : n = (j : Int)) (hl : j * sz + sz ≤ cs.length) : OpR P tk (.indexAddr t x i) ty [(.row kr, some (.row e' sz cs)), (.val (.int k n), b')] [] (v0 (.ptr kr (j * sz)))
  | idxT {tk t x i ty e sz bytes cs k n kr e' o e2 sz2 s hh b'} {j : Nat} (h : SlT P t e sz bytes) (hj : n = (j : Int)) (hl : j * sz + sz ≤ cs.length) : OpR P tk (.indexAddr t x i) ty [(.row kr, some (.tree e' sz o e2 sz2 s hh cs)), (.val (.int k n), b')] [] (v0 (.ptr kr (j * sz)))
  | idxN {tk t x i ty e e' sz bytes cs k n kr o e2 sz2 s q hh b' c2} {j : Nat} (h : SlT P t e' sz2 bytes) (hc : cs[q * sz + o]? = some (.sl sz2 c2)) (hh' : hh ≠ some q) (hj : n = (j : Int)) (hl : j * sz2 + sz2 ≤ c2.length) : OpR P tk (.indexAddr t x i) ty [(.nst kr s q, some (.tree e sz o e2 sz2 s hh cs)), (.val (.int k n), b')] [] (v0 (.npt kr s q (j * sz2)))
  | fieldN {tk s x f ty k s' i p b off ft sz ag} (h : Fd P s f off ft) (ht : Ty P ft ag sz) (hz : 0 < sz) : OpR P tk (.fieldAddr s x f) ty [(.npt k s' i p, b)] [] (v0 (.npt k s' i (p + off)))
  | nilN {tk x ty k s i p b} : OpR P tk (.nilCheck x) ty [(.npt k s i p, b)] [] (v0 (.npt k s i p))
  | loadT1 {tk t x ty k p e sz o e2 sz2 s hh cs z c} (ht : Ty P t false z) (hp : p % sz ≠ o) (hd : cs[p]? = some c) : OpR P tk (.load t x) ty [(.ptr k p, some (.tree e sz o e2 sz2 s hh cs))] [] (v0 (cdv c))
  | loadTN {tk t x ty k p e sz o e2 sz2 s hh cs z i} (ht : Ty P t false z) (ho : o < sz) (hp : p = i * sz + o) (hh' : hh ≠ some i) (hl : p < cs.length) : OpR P tk (.load t x) ty [(.ptr k p, some (.tree e sz o e2 sz2 s hh cs))] [] (v0 (.nst k s i))
  | loadN1 {tk t x ty k s i p e sz o e2 sz2 hh cs z c2 c} (ht : Ty P t false z) (hc : cs[i * sz + o]? = some (.sl sz2 c2)) (hh' : hh ≠ some i) (hd : c2[p]? = some c) : OpR P tk (.load t x) ty [(.npt k s i p, some (.tree e sz o e2 sz2 s hh cs))] [] (v0 (cdv c))
  | loadNA {tk t x ty k s i p e sz o e2 sz2 hh cs z c2} (ht : Ty P t true z) (hc : cs[i * sz + o]? = some (.sl sz2 c2)) (hh' : hh ≠ some i) (hl : p + z ≤ c2.length) : OpR P tk (.load t x) ty [(.npt k s i p, some (.tree e sz o e2 sz2 s hh cs))] [] (v0 (.agg (((c2.drop p).take z).map cdv)))
  | idxP {tk t x i ty e sz bytes k n kr b b' off m} {j : Nat} (h : SlT P t e sz bytes) (hj : n = (j : Int)) (hl : j < m) : OpR P tk (.indexAddr t x i) ty [(.part kr off m, b), (.val (.int k n), b')] [] (v0 (.ptr kr (off + j * sz)))
  | sliS {tk t x lo hi ty e sz bytes cs n l h r b} (hS : SlT P t e sz bytes) (hn : cs.length = n * sz) (hb : bnd n lo hi r l h) (hl : l ≤ h ∧ h ≤ n) : OpR P tk (.slice t x lo hi none) ty ((.sl sz cs, b) :: r) [] (v0 (.sl sz ((cs.drop (l * sz)).take ((h - l) * sz))))
  | sliC {tk t x hi mx ty e sz bytes cs n h k k' b b1 b2} (hS : SlT P t e sz bytes) (hn : cs.length = n * sz) (hh : h ≤ n) : OpR P tk (.slice t x none (some hi) (some mx)) ty [(.sl sz cs, b), (.val (.int k (h : Int)), b1), (.val (.int k' (h : Int)), b2)] [] (v0 (.slc sz (cs.take (h * sz))))
  | sliR {tk t x lo hi ty e sz bytes cs n l h r kr e'} (hS : SlT P t e sz bytes) (hn : cs.length = n * sz) (hb : bnd n lo hi r l h) (hl : l ≤ h ∧ h ≤ n) : OpR P tk (.slice t x lo hi none) ty ((.row kr, some (.row e' sz cs)) :: r) [] (v0 (.part kr (l * sz) (h - l)))
  | sliP {tk t x lo hi ty e sz bytes l h r kr b off m} (hS : SlT P t e sz bytes) (hb : bnd m lo hi r l h) (hl : l ≤ h ∧ h ≤ m) : OpR P tk (.slice t x lo hi none) ty ((.part kr off m, b) :: r) [] (v0 (.part kr (off + l * sz) (h - l)))
  | loadB1 {tk t x ty k i ds bt sz d} (ht : Ty P t false sz) (hd : ds[i]? = some d) : OpR P tk (.load t x) ty [(.ptr k i, some (.box ds bt))] [] (v0 d)
  | loadBA {tk t x ty k i ds bt sz} (ht : Ty P t true sz) (hl : i + sz ≤ ds.length) : OpR P tk (.load t x) ty [(.ptr k i, some (.box ds bt))] [] (v0 (.agg ((ds.drop i).take sz)))
  | loadR1 {tk t x ty k i e s cs sz c} (ht : Ty P t false sz) (hd : cs[i]? = some c) : OpR P tk (.load t x) ty [(.ptr k i, some (.row e s cs))] [] (v0 (cdv c))
  | loadRA {tk t x ty k i e s cs sz} (ht : Ty P t true sz) (hl : i + sz ≤ cs.length) : OpR P tk (.load t x) ty [(.ptr k i, some (.row e s cs))] [] (v0 (.agg (((cs.drop i).take sz).map cdv)))
  | loadE1 {tk t x ty cs b sz c} (ht : Ty P t false sz) (hd : cs[0]? = some c) : OpR P tk (.load t x) ty [(.elt cs, b)] [] (v0 (cdv c))
  | loadEA {tk t x ty cs b sz} (ht : Ty P t true sz) (hl : sz ≤ cs.length) : OpR P tk (.load t x) ty [(.elt cs, b)] [] (v0 (.agg ((cs.take sz).map cdv)))
  | storeB {tk t x y ty k i ds bt sz ag d b} (ht : Ty P t ag sz) (hs : (dcells d).length = sz) (hi : i + sz ≤ ds.length) (ho : (dcells d).all okC = true) : OpR P tk (.store t x y) ty [(.ptr k i, some (.box ds bt)), (d, b)] [k] (wrt k (.box (splice ds i (dcells d)) bt))
  | storeR {tk t x y ty k i e s cs sz ag d b cs'} (ht : Ty P t ag sz) (hs : (dcells d).length = sz) (hi : i + sz ≤ cs.length) {ck : List (Option Nat)} (hk : cellK P 20 t = ck) (hd : DcsE ck (dcells d) cs') : OpR P tk (.store t x y) ty [(.ptr k i, some (.row e s cs)), (d, b)] [k] (wrt k (.row e s (splice cs i cs')))
  | makeFunc {tk f first caps ty ds} : OpR P tk (.makeFunc (.func f) first caps) ty ds [] (v0 (.clo f first.size (ds.map (·.1))))
  | alloc {tk t ty z} (h : Zt P t z) : OpR P tk (.alloc t) ty [] [] (new1 tk (.box (z.map .val) t) (.ptr tk 0))
  | box {tk t x ty d b} (ho : (dcells d).all okC = true) : OpR P tk (.box t x) ty [(d, b)] [] (new1 tk (.box (dcells d) t) (.ptr tk 0))
  | build {tk t parts ty ds fields z r} {places : List (Nat × Nat)} (hu : P.underlying t = some (.struct fields)) (hp : fields.toList.map (fun f => (P.info? f.type).map fun i => (f.offset, i.size)) = places.map some) (hz : Zt P t z) (hd : dfill (fun i => places[i]?) (z.map .val) ((parts.toList.map (·.1)).zip (ds.map (·.1))) = some r) (ho : ds.all (fun q => (dcells q.1).all okC) = true) : OpR P tk (.build t parts) ty ds [] (v0 (.agg r))
  | buildArr {tk t parts ty ds m e sz r z} (hu : P.underlying t = some (.array m e)) (he : (P.info? e).map (·.size) = some sz) (hz : Zt P t z) (hd : dfill (fun i => some (i * sz, sz)) (z.map .val) ((parts.toList.map (·.1)).zip (ds.map (·.1))) = some r) (ho : ds.all (fun q => (dcells q.1).all okC) = true) : OpR P tk (.build t parts) ty ds [] (v0 (.agg r))
  | buildSl {tk t len parts ty ds e sz bytes z r cs} (hS : SlT P t e sz bytes) (hz : Zt P e z) (hlen : len * sz ≤ 16777216) (hd : dfill (fun i => some (i * sz, sz)) ((List.replicate len (z.map DV.val)).flatten) ((parts.toList.map (·.1)).zip (ds.map (·.1))) = some r) {ck : List (Option Nat)} (hk : cellK P 20 e = ck) (hc : DcsE (List.replicate len ck).flatten r cs) (ho : ds.all (fun q => (dcells q.1).all okC) = true) : OpR P tk (.buildSlice t len parts) ty ds [] (new1 tk (.row e sz cs) (.row tk))
  | append {tk x y t ty e sz bytes d d' cs ks cs'} (hS : SlT P t e sz bytes) (ht : Tgt d e sz cs ks) (hs : Src d' sz cs') (hl : (cs.length + cs'.length) * bytes ≤ 140737488355328) : OpR P tk (.call ⟨.builtin .append, #[x, y], #[t, t]⟩) ty [d, d'] ks (new1k tk (.row e sz (cs ++ cs')) ks (.row tk))
  | appC {tk x y t ty e sz bytes d' cs b cs'} (hS : SlT P t e sz bytes) (hs : Src d' sz cs') (h0 : 0 < cs'.length ∨ cs = []) (hl : (cs.length + cs'.length) * bytes ≤ 140737488355328) : OpR P tk (.call ⟨.builtin .append, #[x, y], #[t, t]⟩) ty [(.slc sz cs, b), d'] [] (new1 tk (.row e sz (cs ++ cs')) (.row tk))
  | makeSl {tk t x y ty e sz bytes z k k' n cs b b'} {m : Nat} (hS : SlT P t e sz bytes) (hz : Zt P e z) (hn : n = (m : Int)) (hm : m * bytes ≤ 140737488355328 ∧ m ≤ 1000000) {ck : List (Option Nat)} (hk : cellK P 20 e = ck) (hc : DcsE (List.replicate m ck).flatten ((List.replicate m (z.map DV.val)).flatten) cs) (hxy : x = y) : OpR P tk (.makeSlice t x y) ty [(.val (.int k n), b), (.val (.int k' n), b')] [] (new1 tk (.row e sz cs) (.row tk))
theorem OpR.binOp {P : Program} {tk op xt yt x y ty vx vy v b1 b2} (hv : okVb vx = true → okVb vy = true → okVb v = true) (h : ∀ w, (do eqGuard op xt x y vx vy; Go.binOp op xt vx vy : Sem Value).run P w = .ok v w) : OpR P tk (.binOp op xt x y yt) ty [(.val vx, b1), (.val vy, b2)] [] (v0 (.val v)) := .binOpA rfl rfl hv h
end Go.Proofs.Ytfkgbfhpibiheaa
namespace Go.Proofs.Ytfkgbfhpibiheaa
open Go.RowKit
section
variable {P : Program} {cx : Cx} {ρ : Nat → Value} {σ : St} {a : Act} {w : World}
theorem evs_cons {tc : Bool} {x : Operand} {l : List Operand} {ds : List (DV × Option LB)} (h : evs σ tc (x :: l) = some ds) : ∃ q qs, ds = q :: qs ∧ ev σ tc x = some q ∧ evs σ tc l = some qs := by
  unfold evs at h
  cases h1 : ev σ tc x with
  | none => rw [h1] at h; cases h
  | some q =>
    rw [h1] at h
    simp only [] at h
    cases h2 : evs σ tc l with
    | none => rw [h2] at h; cases h
    | some qs =>
      rw [h2] at h
      simp only [] at h
      injection h with h
      exact ⟨q, qs, h.symm, rfl, rfl⟩
theorem evs1 {tc : Bool} {x : Operand} {q : DV × Option LB} (h : evs σ tc [x] = some [q]) : ev σ tc x = some q := by
  obtain ⟨q', qs, h1, h2, h3⟩ := evs_cons h
  injection h1 with h1 _
  rw [h1]; exact h2
theorem evs2 {tc : Bool} {x y : Operand} {q r : DV × Option LB} (h : evs σ tc [x, y] = some [q, r]) : ev σ tc x = some q ∧ ev σ tc y = some r := by
  obtain ⟨q', qs, h1, h2, h3⟩ := evs_cons h
  injection h1 with h1 h1'
  subst h1 h1'
  exact ⟨h2, evs1 h3⟩
theorem evs3 {tc : Bool} {x y z : Operand} {q r s : DV × Option LB} (h : evs σ tc [x, y, z] = some [q, r, s]) : ev σ tc x = some q ∧ ev σ tc y = some r ∧ ev σ tc z = some s := by
  obtain ⟨q', qs, h1, h2, h3⟩ := evs_cons h
  injection h1 with h1 h1'
  subst h1 h1'
  exact ⟨h2, evs2 h3⟩
theorem ev_rep (ha : AbsR cx ρ σ a w) {tc : Bool} {x : Operand} {d : DV} {b : Option LB} (h : ev σ tc x = some (d, b)) :
    Rep ρ (Imm cx σ ρ w) w d (a.eval x) ∧ (∀ k, men d k → σ.U k = true) ∧ ∀ k lb, tokOf d = some k → b = some lb → σ.L k = some lb := by
  cases x with
  | tmp t =>
    simp only [ev] at h
    cases hF : σ.F t with
    | none => rw [hF] at h; cases h
    | some d' =>
      rw [hF] at h
      injection h with h
      injection h with h1 h2
      subst h1
      refine ⟨ha.fr t d' hF, fun k hk => ha.usedF t d' k hF hk, fun k lb hk hb => ?_⟩
      rw [← h2, hk] at hb
      cases tc with
      | false => cases hb
      | true => exact hb
  | const v =>
    simp only [ev] at h
    cases hv : okVb v with
    | false => rw [hv] at h; cases h
    | true =>
    rw [hv] at h
    injection h with h
    injection h with h1 h2
    subst h1
    exact ⟨by unfold Rep; exact ⟨rfl, hv⟩, fun k hk => by unfold men at hk; exact hk.elim, fun k lb hk => by cases hk⟩
  | global g => simp [ev] at h
  | func f =>
    simp only [ev] at h
    injection h with h
    injection h with h1 h2
    subst h1
    exact ⟨by unfold Rep; exact ⟨rfl, rfl⟩, fun k hk => by unfold men at hk; exact hk.elim, fun k lb hk => by cases hk⟩
theorem ev_val (ha : AbsR cx ρ σ a w) {tc : Bool} {x : Operand} {v : Value} {b : Option LB} (h : ev σ tc x = some (.val v, b)) : a.eval x = v := by
  have := (ev_rep ha h).1
  unfold Rep at this
  exact this.1
theorem ev_ok (ha : AbsR cx ρ σ a w) {tc : Bool} {x : Operand} {v : Value} {b : Option LB} (h : ev σ tc x = some (.val v, b)) : okVb v = true := by
  have := (ev_rep ha h).1
  unfold Rep at this
  exact this.2
theorem fin0 (ha : AbsR cx ρ σ a w) {o : Oper} (hdst : ∀ t, o.dst = some t → t < cx.N) {d : DV} {v : Value} (hrun : (execOp a.eval o).run P w = .ok (.value v) w) (hd : Rep ρ (Imm cx σ ρ w) w d v) (hu : ∀ k, men d k → σ.U k = true)
    {K : Act → World → Prop} {Q : Exit → Act → World → Prop} (hK : ∀ a' w', Abs cx (σ.app o.dst (v0 d)) a' w' → K a' w') : o.wp P a w K Q := by
  unfold Oper.wp
  rw [hrun]
  exact hK _ _ ⟨ρ, ha.put0 hdst (fun x hx => by injection hx with hx; subst hx; exact hd) (fun x k hx hm => by injection hx with hx; subst hx; exact hu k hm)⟩
theorem men_val {v : Value} : ∀ k, men (.val v) k → σ.U k = true := fun k hk => by unfold men at hk; exact hk.elim
theorem rep_val {I : Nat → Prop} {v : Value} (h : okVb v = true) : Rep ρ I w (.val v) v := by unfold Rep; exact ⟨rfl, h⟩
theorem nst_rd (ha : AbsR cx ρ σ a w) {tc : Bool} {x : Operand} {k s i : Nat} {e sz o e2 sz2 h cs c2} (hx : ev σ tc x = some (.nst k s i, some (.tree e sz o e2 sz2 s h cs))) (hc : cs[i * sz + o]? = some (.sl sz2 c2)) (hh : h ≠ some i) :
    ∃ n2 us2, w.rowOk e2 sz2 (a.eval x) n2 us2 ∧ RdUs w (Imm cx σ ρ w) c2 us2 ∧ ∀ b, blkOf (a.eval x) = some b → cx.w0.heap.size ≤ b ∨ cx.M b := by
  obtain ⟨h1, -, h3⟩ := ev_rep ha hx
  unfold Rep at h1
  obtain ⟨vs, q1, q2⟩ := h1
  obtain ⟨n, us, vs', q⟩ := ha.lo _ _ (h3 _ _ rfl rfl)
  have e1 := q.hs.symm.trans q1
  injection e1 with e1
  subst e1
  obtain ⟨-, n2, us2, c2', r1, r2, r3, r4⟩ := q.nest i _ q2 hh
  rw [hc] at r1
  injection r1 with r1
  injection r1 with _ r1
  subst r1
  exact ⟨n2, us2, r2, r3, fun b hb => (r4 b hb).1⟩
theorem Src.rd (ha : AbsR cx ρ σ a w) {tc : Bool} {x : Operand} {q : DV × Option LB} {sz : Nat} {cs : List C} (h : Src q sz cs) (hx : ev σ tc x = some q) : RdC w (fun b => b < w.heap.size) (.sl sz cs) (a.eval x) := by
  cases h with
  | sl =>
    have := (ev_rep ha hx).1
    unfold Rep at this
    exact this.mono fun b hb => hb.1
  | row =>
    obtain ⟨h1, -, h3⟩ := ev_rep ha hx
    unfold Rep at h1
    rw [h1.1]
    have hl := ha.lo _ _ (h3 _ _ rfl rfl)
    obtain ⟨n, us, ho, -, hr⟩ := hl
    exact Own.cells ho hr (fun b hb => hb.1) fun b hb => ((ha.lo _ _ (h3 _ _ rfl rfl)).blk hb).1
  | part hl' =>
    obtain ⟨h1, -, h3⟩ := ev_rep ha hx
    unfold Rep at h1
    obtain ⟨A, c, h1, h2, h4, h5, -⟩ := h1
    rw [h1]
    have hl := ha.lo _ _ (h3 _ _ rfl rfl)
    obtain ⟨n, us, ho, -, hr⟩ := hl
    exact ownPart ho hr (fun b hb => hb.1) (fun b hb => ((ha.lo _ _ (h3 _ _ rfl rfl)).blk hb).1) hl' h2 h4 h5
  | @nst k s i e sz o e2 sz2 h cs c2 hc hh =>
    obtain ⟨n2, us2, q2, q3, q4⟩ := nst_rd ha hx hc hh
    exact Own.cells q2 q3 (fun b hb => hb.1) fun b hb => rowOk_lt q2 hb
  | nil =>
    rw [ev_val ha hx]
    exact RdC.nil_ sz
theorem Ty.size {t : TypeId} {ag : Bool} {sz : Nat} (h : Ty P t ag sz) : (sizeOf t).run P w = .ok sz w := by
  have := h.hi
  cases hi : P.info? t with
  | none => rw [hi] at this; cases this
  | some i =>
    rw [hi] at this
    injection this with this
    simp [sizeOf, typeInfo, hi, this]
theorem Ty.agg {t : TypeId} {ag : Bool} {sz : Nat} (h : Ty P t ag sz) : (isAgg t).run P w = .ok ag w := by
  have := h.hu
  cases hi : P.underlying t with
  | none => rw [hi] at this; cases this
  | some d =>
    rw [hi] at this
    injection this with this
    subst this
    unfold isAgg
    rw [Sem.run_bind, run_underlying hi w]
    cases d <;> simp [aggD]
theorem SlT.size {t e : TypeId} {sz bytes : Nat} (h : SlT P t e sz bytes) : (sizeOf e).run P w = .ok sz w := by
  obtain ⟨i, z, h1, h2, h3, h4, h5⟩ := h.hi
  simp [sizeOf, typeInfo, h1, h3]
theorem SlT.elem {t e : TypeId} {sz bytes : Nat} (h : SlT P t e sz bytes) : P.underlying t = some (.slice (P.elem t)) := by
  have := h.ht
  unfold Program.elem
  rw [this]
theorem SlT.el {t e : TypeId} {sz bytes : Nat} (h : SlT P t e sz bytes) : P.elem t = e := by
  unfold Program.elem
  rw [h.ht]
theorem elt_of {sz : Nat} {cs : List C} {I : Nat → Prop} {A : Option Addr} {n c : Nat} (h : RdC w I (.sl sz cs) (.slice A n c)) {j : Nat} (hj : j * sz + sz ≤ cs.length) (hz : 0 < sz) :
    ∃ ad, A = some ad ∧ j < n ∧ I (ad.add (j * sz)).block ∧ RdCs w I (ad.add (j * sz)) 0 (cs.drop (j * sz)) := by
  have hl := h.len.1
  have hjn : j < n := by
    have h1 : (j + 1) * sz ≤ n * sz := by rw [Nat.add_mul, Nat.one_mul, ← hl]; exact hj
    exact Nat.lt_of_succ_le (Nat.le_of_mul_le_mul_right h1 hz)
  obtain ⟨ad, rfl, hS, hc⟩ := h.cells (by omega)
  refine ⟨ad, rfl, hjn, by rw [block_add]; exact hS, RdCs.of_at _ 0 fun i x hi => ?_⟩
  rw [List.getElem?_drop] at hi
  rw [Nat.zero_add, add_add']
  exact hc _ _ hi
theorem rowAddr {e sz n : Nat} {v : Value} {us : List Value} (ho : w.rowOk e sz v n us) (hn : 0 < n) : ∃ g cap, v = .slice (some ⟨g, 0, none⟩) n cap ∧ n ≤ cap ∧ cap ≤ maxLen ∧ ∀ j u, us[j]? = some u → w.cell? ⟨g, j, none⟩ = some u := by
  rcases ho.2 with ⟨A, -, rfl⟩ | ⟨g, cap, cur, rfl, h1, hg, h2, hm, hs, ht⟩
  · omega
  · refine ⟨g, cap, rfl, h2, hm, fun j u hu => ?_⟩
    rw [← ht, List.getElem?_take] at hu
    split at hu
    · simpa [World.cell?, hg] using hu
    · cases hu
theorem add_at (g i j : Nat) : (⟨g, i, none⟩ : Addr).add j = ⟨g, i + j, none⟩ := by
  unfold Addr.add
  split
  · rename_i h; subst h; rfl
  · rfl
theorem bnd_run {lo hi : Option Operand} {r : List (DV × Option LB)} {n c l h : Nat} (ha : AbsR cx ρ σ a w) (hb : bnd n lo hi r l h) (hr : evs σ true (lo.toArray ++ hi.toArray).toList = some r) (hl : l ≤ h ∧ h ≤ n) (hc : n ≤ c) :
    (Instr.sliceBounds true n c (lo.map a.eval) (hi.map a.eval) none).run P w = .ok (l, h, c) w := by
  cases lo with
  | none =>
    cases hi with
    | none =>
      obtain ⟨-, rfl, rfl⟩ := hb
      simp [Instr.sliceBounds]
    | some y =>
      obtain ⟨⟨b, k, x, rfl, rfl⟩, rfl⟩ := hb
      have hy := ev_val ha (evs1 (by simpa using hr))
      have h1 := run_sliceBound (P := P) w k (h : Int) c .sliceAcap (by omega) (by omega)
      simp [Instr.sliceBounds, hy, h1]
  | some x =>
    cases hi with
    | none =>
      obtain ⟨⟨b, k, y, rfl, rfl⟩, rfl⟩ := hb
      have hx := ev_val ha (evs1 (by simpa using hr))
      have h1 := run_sliceBound (P := P) w k (l : Int) h .sliceB (by omega) (by omega)
      simp [Instr.sliceBounds, hx, h1]
    | some y =>
      obtain ⟨b, b', k, k', x', y', rfl, rfl, rfl⟩ := hb
      obtain ⟨e1, e2⟩ := evs2 (by simpa using hr)
      have hx := ev_val ha e1
      have hy := ev_val ha e2
      have h1 := run_sliceBound (P := P) w k (l : Int) h .sliceB (by omega) (by omega)
      have h2 := run_sliceBound (P := P) w k' (h : Int) c .sliceAcap (by omega) (by omega)
      simp [Instr.sliceBounds, hx, hy, h1, h2]
theorem slice_run {lo hi : Option Operand} {r : List (DV × Option LB)} {n c l h : Nat} {t e : TypeId} {sz bytes : Nat} {A : Option Addr} (hS : SlT P t e sz bytes) (ha : AbsR cx ρ σ a w) (hb : bnd n lo hi r l h) (hr : evs σ true (lo.toArray ++ hi.toArray).toList = some r) (hl : l ≤ h ∧ h ≤ n) (hc : n ≤ c) :
    (Instr.sliceAt t (.slice A n c) (lo.map a.eval) (hi.map a.eval) none).run P w = .ok (.slice (if c = l then A else A.map (·.add (l * sz))) (h - l) (c - l)) w := by
  have h1 := bnd_run (P := P) ha hb hr hl hc
  rw [run_sliceAt_slice w t _ _ _ _ hS.elem]
  simp [Instr.slice, run_underlying hS.ht, h1, hS.size]
end
end Go.Proofs.Ytfkgbfhpibiheaa
namespace Go.Proofs.Ytfkgbfhpibiheaa
open Go.RowKit
section
variable {P : Program} {cx : Cx} {ρ : Nat → Value} {σ : St} {a : Act} {w : World} {o : Oper} {K : Act → World → Prop} {Q : Exit → Act → World → Prop}
theorem s_move {x : Operand} {d : DV} {b : Option LB} {tc : Bool} (ha : AbsR cx ρ σ a w) (hds : evs σ tc [x] = some [(d, b)]) (ho : o.op = .move x ∨ o.op = .assign x) (hdst : ∀ t, o.dst = some t → t < cx.N) (hK : ∀ a' w', Abs cx (σ.app o.dst (v0 d)) a' w' → K a' w') : o.wp P a w K Q := by
  obtain ⟨h1, h2, -⟩ := ev_rep ha (evs1 hds)
  refine fin0 ha hdst (v := a.eval x) ?_ h1 h2 hK
  rcases ho with ho | ho <;> simp [execOp, ho]
theorem s_pick {x y z : Operand} {c : Bool} {d1 d2 : DV} {b1 b2 b3 : Option LB} {tc : Bool} (ha : AbsR cx ρ σ a w) (hds : evs σ tc [x, y, z] = some [(.val (.bool c), b1), (d1, b2), (d2, b3)]) (ho : o.op = .pick x y z) (hdst : ∀ t, o.dst = some t → t < cx.N) (hK : ∀ a' w', Abs cx (σ.app o.dst (v0 (bif c then d1 else d2))) a' w' → K a' w') : o.wp P a w K Q := by
  obtain ⟨e1, e2, e3⟩ := evs3 hds
  have hc := ev_val ha e1
  obtain ⟨h1, h2, -⟩ := ev_rep ha e2
  obtain ⟨h3, h4, -⟩ := ev_rep ha e3
  cases c with
  | true =>
    refine fin0 ha hdst (v := a.eval y) ?_ h1 h2 hK
    simp [execOp, ho, hc, asBool]
  | false =>
    refine fin0 ha hdst (v := a.eval z) ?_ h3 h4 hK
    simp [execOp, ho, hc, asBool]
theorem s_val {v : Value} (hok : okVb v = true) (ha : AbsR cx ρ σ a w) (hdst : ∀ t, o.dst = some t → t < cx.N) (hrun : (execOp a.eval o).run P w = .ok (.value v) w) (hK : ∀ a' w', Abs cx (σ.app o.dst (v0 (.val v))) a' w' → K a' w') : o.wp P a w K Q :=
  fin0 ha hdst hrun (rep_val hok) men_val hK
theorem s_convS {src dst e : TypeId} {x : Operand} {d : DV × Option LB} {cs : List C} {l : List UInt8} (hs : P.underlying src = some (.slice e)) (he : P.underlying e = some (.int .u8)) (hd : P.underlying dst = some .string) (h : SrcN d 1 cs) (hc : cs = bytesC l)
    (ha : AbsR cx ρ σ a w) (hds : evs σ true [x] = some [d]) (ho : o.op = .convert src dst x) (hdst : ∀ t, o.dst = some t → t < cx.N) (hK : ∀ a' w', Abs cx (σ.app o.dst (v0 (.val (.string ⟨l.toArray⟩)))) a' w' → K a' w') : o.wp P a w K Q := by
  subst hc
  have hr := Src.rd ha h.src (evs1 hds)
  obtain ⟨A, n, c, hv, -⟩ := hr.slice
  rw [hv] at hr
  refine s_val ?_ ha hdst ?_ hK
  · have h1 := hr.blen
    rw [okVb_str]
    have h2 := hr.slice
    obtain ⟨A', n', c', e1, e2, e3, e4⟩ := h2
    rw [bytesC_length] at e2
    show l.toArray.size ≤ _
    rw [List.size_toArray]
    omega
  simp [execOp, ho, hv, conv_bytes src e dst hs he hd hr]
theorem s_len {x : Operand} {t : TypeId} {d : DV × Option LB} {n : Nat} (ht : P.underlying t = some (.slice (P.elem t))) (h : Len d n)
    (ha : AbsR cx ρ σ a w) (hds : evs σ true [x] = some [d]) (ho : o.op = .call ⟨.builtin .len, #[x], #[t]⟩) (hdst : ∀ t, o.dst = some t → t < cx.N) (hK : ∀ a' w', Abs cx (σ.app o.dst (v0 (.val (.int .i64 n)))) a' w' → K a' w') : o.wp P a w K Q := by
  have key : ∃ A c, a.eval x = .slice A n c ∧ n ≤ maxLen := by
    cases h with
    | sl hz hn =>
      obtain ⟨h1, -, -⟩ := ev_rep ha (evs1 hds)
      unfold Rep at h1
      obtain ⟨A, m, c, hv, hl, hc, hm⟩ := h1.slice
      have : m = n := Nat.eq_of_mul_eq_mul_right hz (hl.symm.trans hn)
      subst this
      exact ⟨A, c, hv, by omega⟩
    | row hz hn =>
      obtain ⟨h1, -, h3⟩ := ev_rep ha (evs1 hds)
      unfold Rep at h1
      obtain ⟨m, us, hw, -, hr⟩ := ha.lo _ _ (h3 _ _ rfl rfl)
      have hm : m = n := Nat.eq_of_mul_eq_mul_right hz (hw.1.symm.trans (hr.1.symm.trans hn))
      subst hm
      rw [h1.1]
      rcases hw.2 with ⟨A, e1, e2⟩ | ⟨g, cap, cur, e1, -, -, e2, e3, -⟩
      · subst e2
        exact ⟨_, _, e1, by simp [maxLen]⟩
      · exact ⟨_, _, e1, by omega⟩
    | part =>
      obtain ⟨h1, -, -⟩ := ev_rep ha (evs1 hds)
      unfold Rep at h1
      obtain ⟨A, c, hv, h4, h5, -⟩ := h1
      exact ⟨A, c, hv, by omega⟩
    | rowT hz hn =>
      obtain ⟨h1, -, h3⟩ := ev_rep ha (evs1 hds)
      unfold Rep at h1
      obtain ⟨m, us, vs, q⟩ := ha.lo _ _ (h3 _ _ rfl rfl)
      have hm : m = n := Nat.eq_of_mul_eq_mul_right hz (q.row.1.symm.trans (q.hl.symm.trans hn))
      subst hm
      rw [h1.1]
      rcases q.row.2 with ⟨A, e1, e2⟩ | ⟨g, cap, cur, e1, -, -, e2, e3, -⟩
      · subst e2
        exact ⟨_, _, e1, by simp [maxLen]⟩
      · exact ⟨_, _, e1, by omega⟩
    | nst hz hc hh hn =>
      obtain ⟨m, us2, q2, q3, -⟩ := nst_rd ha (evs1 hds) hc hh
      have hm : m = n := Nat.eq_of_mul_eq_mul_right hz (q2.1.symm.trans (q3.1.symm.trans hn))
      subst hm
      rcases q2.2 with ⟨A, e1, e2⟩ | ⟨g, cap, cur, e1, -, -, e2, e3, -⟩
      · subst e2
        exact ⟨_, _, e1, by simp [maxLen]⟩
      · exact ⟨_, _, e1, by omega⟩
  obtain ⟨A, c, hv, hn⟩ := key
  refine s_val (okVb_int.2 (i64_range ⟨by omega, by unfold maxLen at hn; omega⟩)) ha hdst ?_ hK
  simp [execOp, ho, resolve, invoke, builtin, hv, run_len_slice w t o.type A n c ht, goInt]
theorem s_callV1 {bt : Builtin} {ts : Array TypeId} {x : Operand} {vx v : Value} {b1 : Option LB} (hok : okVb vx = true → okVb v = true) (h : ∀ w, ∀ cs, (builtin bt ts o.type cs #[vx]).run P w = .ok (.value v) w) (ha : AbsR cx ρ σ a w) (hds : evs σ true [x] = some [(.val vx, b1)]) (ho : o.op = .call ⟨.builtin bt, #[x], ts⟩) (hdst : ∀ t, o.dst = some t → t < cx.N) (hK : ∀ a' w', Abs cx (σ.app o.dst (v0 (.val v))) a' w' → K a' w') : o.wp P a w K Q := by
  have hx := ev_val ha (evs1 hds)
  refine s_val (hok (ev_ok ha (evs1 hds))) ha hdst ?_ hK
  simp [execOp, ho, resolve, invoke, hx, h]
theorem s_callV2 {bt : Builtin} {ts : Array TypeId} {x y : Operand} {vx vy v : Value} {b1 b2 : Option LB} (hok : okVb vx = true → okVb vy = true → okVb v = true) (h : ∀ w, ∀ cs, (builtin bt ts o.type cs #[vx, vy]).run P w = .ok (.value v) w) (ha : AbsR cx ρ σ a w) (hds : evs σ true [x, y] = some [(.val vx, b1), (.val vy, b2)]) (ho : o.op = .call ⟨.builtin bt, #[x, y], ts⟩) (hdst : ∀ t, o.dst = some t → t < cx.N) (hK : ∀ a' w', Abs cx (σ.app o.dst (v0 (.val v))) a' w' → K a' w') : o.wp P a w K Q := by
  obtain ⟨e1, e2⟩ := evs2 hds
  have hx := ev_val ha e1
  have hy := ev_val ha e2
  refine s_val (hok (ev_ok ha e1) (ev_ok ha e2)) ha hdst ?_ hK
  simp [execOp, ho, resolve, invoke, hx, hy, h]
theorem s_extract {x : Operand} {i : Nat} {ds : List DV} {d : DV} {b : Option LB} {tc : Bool} (h : ds[i]? = some d) (ha : AbsR cx ρ σ a w) (hds : evs σ tc [x] = some [(.tup ds, b)]) (ho : o.op = .extract x i) (hdst : ∀ t, o.dst = some t → t < cx.N) (hK : ∀ a' w', Abs cx (σ.app o.dst (v0 d)) a' w' → K a' w') : o.wp P a w K Q := by
  obtain ⟨h1, h2, -⟩ := ev_rep ha (evs1 hds)
  unfold Rep at h1
  obtain ⟨vs, hv, hr⟩ := h1
  obtain ⟨v, hv', hd⟩ := hr.at_ h
  refine fin0 ha hdst (v := v) ?_ hd (fun k hk => h2 k ?_) hK
  · have e1 : vs.toArray[i]? = some v := by simpa using hv'
    simp [execOp, ho, hv, Instr.extract, hv']
  · unfold men
    exact menL_at h hk
where
  menL_at : ∀ {ds : List DV} {i : Nat} {d : DV} {k : Nat}, ds[i]? = some d → men d k → menL ds k
  | [], _, _, _, h, _ => by simp at h
  | d' :: ds, 0, d, k, h, hk => by
    simp at h
    subst h
    unfold menL
    exact .inl hk
  | d' :: ds, i + 1, d, k, h, hk => by
    unfold menL
    exact .inr (menL_at (by simpa using h) hk)
theorem s_nilP {x : Operand} {k i : Nat} {b : Option LB} {tc : Bool} (ha : AbsR cx ρ σ a w) (hds : evs σ tc [x] = some [(.ptr k i, b)]) (ho : o.op = .nilCheck x) (hdst : ∀ t, o.dst = some t → t < cx.N) (hK : ∀ a' w', Abs cx (σ.app o.dst (v0 (.ptr k i))) a' w' → K a' w') : o.wp P a w K Q := by
  obtain ⟨h1, h2, -⟩ := ev_rep ha (evs1 hds)
  have h1' := h1
  unfold Rep at h1
  obtain ⟨g, hg, hv⟩ := h1
  refine fin0 ha hdst (v := a.eval x) ?_ h1' h2 hK
  simp [execOp, ho, hv]
theorem s_nilE {x : Operand} {cs : List C} {b : Option LB} {tc : Bool} (ha : AbsR cx ρ σ a w) (hds : evs σ tc [x] = some [(.elt cs, b)]) (ho : o.op = .nilCheck x) (hdst : ∀ t, o.dst = some t → t < cx.N) (hK : ∀ a' w', Abs cx (σ.app o.dst (v0 (.elt cs))) a' w' → K a' w') : o.wp P a w K Q := by
  obtain ⟨h1, h2, -⟩ := ev_rep ha (evs1 hds)
  have h1' := h1
  unfold Rep at h1
  obtain ⟨ad, hv, -⟩ := h1
  refine fin0 ha hdst (v := a.eval x) ?_ h1' h2 hK
  simp [execOp, ho, hv]
theorem fieldPlace_run {s ft : TypeId} {f off sz : Nat} {ag : Bool} (h : Fd P s f off ft) (ht : Ty P ft ag sz) (hz : 0 < sz) (ad : Addr) : (Instr.fieldAt s (.pointer (some ad)) f).run P w = .ok (.pointer (some (ad.add off))) w := by
  obtain ⟨fields, fd, h1, h2, h3, h4⟩ := h
  subst h3 h4
  have hs := ht.size (w := w)
  have : sz ≠ 0 := by omega
  simp [Instr.fieldAt, run_underlying h1, h2, Instr.sureAddr, fieldPlace, hs, this]
theorem s_fieldP {s ft : TypeId} {x : Operand} {f off sz k i : Nat} {ag : Bool} {b : Option LB} {tc : Bool} (h : Fd P s f off ft) (ht : Ty P ft ag sz) (hz : 0 < sz) (ha : AbsR cx ρ σ a w) (hds : evs σ tc [x] = some [(.ptr k i, b)]) (ho : o.op = .fieldAddr s x f) (hdst : ∀ t, o.dst = some t → t < cx.N) (hK : ∀ a' w', Abs cx (σ.app o.dst (v0 (.ptr k (i + off)))) a' w' → K a' w') : o.wp P a w K Q := by
  obtain ⟨h1, h2, -⟩ := ev_rep ha (evs1 hds)
  unfold Rep at h1
  obtain ⟨g, hg, hv⟩ := h1
  refine fin0 ha hdst (v := .pointer (some ⟨g, i + off, none⟩)) ?_ (by unfold Rep; exact ⟨g, hg, rfl⟩) (fun k' hk' => h2 k' (by unfold men at *; exact hk')) hK
  simp [execOp, ho, hv, fieldPlace_run h ht hz, add_at]
theorem s_fieldE {s ft : TypeId} {x : Operand} {f off sz : Nat} {cs : List C} {ag : Bool} {b : Option LB} {tc : Bool} (h : Fd P s f off ft) (ht : Ty P ft ag sz) (hz : 0 < sz) (ha : AbsR cx ρ σ a w) (hds : evs σ tc [x] = some [(.elt cs, b)]) (ho : o.op = .fieldAddr s x f) (hdst : ∀ t, o.dst = some t → t < cx.N) (hK : ∀ a' w', Abs cx (σ.app o.dst (v0 (.elt (cs.drop off)))) a' w' → K a' w') : o.wp P a w K Q := by
  obtain ⟨h1, h2, -⟩ := ev_rep ha (evs1 hds)
  unfold Rep at h1
  obtain ⟨ad, hv, hI, hr⟩ := h1
  refine fin0 ha hdst (v := .pointer (some (ad.add off))) ?_ (by
    unfold Rep
    refine ⟨_, rfl, by rw [block_add]; exact hI, RdCs.of_at _ 0 fun j c hj => ?_⟩
    rw [List.getElem?_drop] at hj
    have := hr.at_ hj
    rw [Nat.zero_add] at this
    rw [Nat.zero_add, add_add']
    exact this) (fun k hk => by unfold men at hk; exact hk.elim) hK
  simp [execOp, ho, hv, fieldPlace_run h ht hz]
theorem RepL.map_cdv {I : Nat → Prop} : ∀ {cs : List C} {us : List Value}, RdUs w I cs us → RepL ρ I w (cs.map cdv) us ∧ ∀ u ∈ us, u.oneCell' = true
  | [], us, h => by
    have : us = [] := List.eq_nil_of_length_eq_zero (by have := h.1; simpa using this.symm)
    subst this
    exact ⟨by simp [RepL], fun u hu => by simp at hu⟩
  | c :: cs, us, h => by
    match us, h with
    | [], h => have := h.1; simp at this
    | u :: us, h =>
      have h0 := h.2 0 c u rfl rfl
      obtain ⟨h1, h2⟩ := RepL.map_cdv (cs := cs) (us := us) ⟨by simpa using h.1, fun j c' u' a b => h.2 (j + 1) c' u' (by simpa using a) (by simpa using b)⟩
      refine ⟨?_, fun x hx => ?_⟩
      · simp only [List.map_cons]
        unfold RepL
        exact ⟨u, us, rfl, rep_cdv h0, h1⟩
      · rcases List.mem_cons.1 hx with rfl | hx
        · exact h0.one
        · exact h2 x hx
where
  rep_cdv {I : Nat → Prop} {c : C} {v : Value} (h : RdC w I c v) : Rep ρ I w (cdv c) v := by
    cases c with
    | int k n => unfold cdv Rep; exact ⟨h.int_.1, okVb_int.2 h.int_.2⟩
    | bool b => unfold cdv Rep; exact ⟨h.bool_, rfl⟩
    | str s => unfold cdv Rep; exact ⟨h.str_.1, okVb_str.2 h.str_.2⟩
    | raw u => unfold cdv Rep; unfold RdC at h; exact ⟨h.1, h.2.2⟩
    | sl sz cs => unfold cdv Rep; exact h
    | mp l => unfold cdv Rep; exact h
theorem men_cdv {c : C} : ∀ k, men (cdv c) k → False := by
  intro k hk
  cases c <;> (unfold cdv men at hk; exact hk)
theorem menL_cdv : ∀ {cs : List C} (k : Nat), menL (cs.map cdv) k → False
  | [], k, hk => by unfold List.map menL at hk; exact hk
  | c :: cs, k, hk => by
    simp only [List.map_cons] at hk
    unfold menL at hk
    rcases hk with hk | hk
    · exact men_cdv k hk
    · exact menL_cdv k hk
theorem menL_sub {ds : List DV} {i n k : Nat} (h : menL ((ds.drop i).take n) k) : menL ds k := by
  have key : ∀ {l : List DV}, menL l k ↔ ∃ d, d ∈ l ∧ men d k := by
    intro l
    induction l with
    | nil => unfold menL; simp
    | cons d l ih => unfold menL; rw [ih]; simp
  rw [key] at h ⊢
  obtain ⟨d, h1, h2⟩ := h
  exact ⟨d, List.mem_of_mem_drop (List.mem_of_mem_take h1), h2⟩
theorem RepL.sub {I : Nat → Prop} : ∀ {ds : List DV} {vs : List Value} (_ : RepL ρ I w ds vs) (i n : Nat), RepL ρ I w ((ds.drop i).take n) ((vs.drop i).take n)
  | [], vs, h, i, n => by unfold RepL at h; subst h; simp [RepL]
  | d :: ds, vs, h, 0, 0 => by simp [RepL]
  | d :: ds, vs, h, 0, n + 1 => by
    unfold RepL at h
    obtain ⟨u, us, rfl, h1, h2⟩ := h
    have := RepL.sub h2 0 n
    simp only [List.drop_zero, List.take_succ_cons] at this ⊢
    unfold RepL
    exact ⟨u, _, rfl, h1, this⟩
  | d :: ds, vs, h, i + 1, n => by
    unfold RepL at h
    obtain ⟨u, us, rfl, h1, h2⟩ := h
    have := RepL.sub h2 i n
    simpa using this
theorem s_field1 {s ft : TypeId} {x : Operand} {f off sz : Nat} {ds : List DV} {d : DV} {b : Option LB} {tc : Bool} (h : Fd P s f off ft) (ht : Ty P ft false sz) (hd : ds[off]? = some d) (ha : AbsR cx ρ σ a w) (hds : evs σ tc [x] = some [(.agg ds, b)]) (ho : o.op = .field s x f) (hdst : ∀ t, o.dst = some t → t < cx.N) (hK : ∀ a' w', Abs cx (σ.app o.dst (v0 d)) a' w' → K a' w') : o.wp P a w K Q := by
  obtain ⟨h1, h2, -⟩ := ev_rep ha (evs1 hds)
  unfold Rep at h1
  obtain ⟨vs, hv, -, hr⟩ := h1
  obtain ⟨v, hv', hd'⟩ := hr.at_ hd
  obtain ⟨fields, fd, k1, k2, k3, k4⟩ := h
  subst k3 k4
  refine fin0 ha hdst (v := v) ?_ hd' (fun k hk => h2 k ?_) hK
  · simp [execOp, ho, hv, Instr.field, run_underlying k1, k2, part, asAgg, ht.agg, hv']
  · unfold men
    exact s_extract.menL_at hd hk
theorem s_fieldA {s ft : TypeId} {x : Operand} {f off sz : Nat} {ds : List DV} {b : Option LB} {tc : Bool} (h : Fd P s f off ft) (ht : Ty P ft true sz) (ha : AbsR cx ρ σ a w) (hds : evs σ tc [x] = some [(.agg ds, b)]) (ho : o.op = .field s x f) (hdst : ∀ t, o.dst = some t → t < cx.N) (hK : ∀ a' w', Abs cx (σ.app o.dst (v0 (.agg ((ds.drop off).take sz)))) a' w' → K a' w') : o.wp P a w K Q := by
  obtain ⟨h1, h2, -⟩ := ev_rep ha (evs1 hds)
  unfold Rep at h1
  obtain ⟨vs, hv, h1c, hr⟩ := h1
  obtain ⟨fields, fd, k1, k2, k3, k4⟩ := h
  subst k3 k4
  refine fin0 ha hdst (v := .agg ((vs.drop fd.offset).take sz).toArray) ?_ (by unfold Rep; exact ⟨_, rfl, fun u hu => h1c u (List.mem_of_mem_drop (List.mem_of_mem_take hu)), hr.sub _ _⟩) (fun k hk => h2 k (by unfold men at *; exact menL_sub hk)) hK
  have e1 : (vs.toArray.extract fd.offset (fd.offset + sz)) = ((vs.drop fd.offset).take sz).toArray := by
    simp [List.take_drop]
  simp [execOp, ho, hv, Instr.field, run_underlying k1, k2, part, asAgg, ht.agg, ht.size]
end
end Go.Proofs.Ytfkgbfhpibiheaa
namespace Go.Proofs.Ytfkgbfhpibiheaa
open Go.RowKit
section
variable {P : Program} {cx : Cx} {ρ : Nat → Value} {σ : St} {a : Act} {w : World} {o : Oper} {K : Act → World → Prop} {Q : Exit → Act → World → Prop}
theorem idx_run {t e : TypeId} {sz bytes : Nat} (h : SlT P t e sz bytes) (ad : Addr) (n c : Nat) (k : IntKind) {j : Nat} (hj : j < n) : (Instr.indexAt t (.slice (some ad) n c) (.int k (j : Int))).run P w = .ok (.pointer (some (ad.add (j * sz)))) w := by
  rw [run_indexAt_slice w t ad n c k _ h.elem, h.el]
  have h1 : 0 ≤ (j : Int) ∧ (j : Int) < (n : Int) := ⟨by omega, by omega⟩
  rw [if_pos h1, h.size]
  simp
theorem s_idxS {t e : TypeId} {x i : Operand} {sz bytes : Nat} {cs : List C} {k : IntKind} {n : Int} {j : Nat} {b b' : Option LB} (h : SlT P t e sz bytes) (hj : n = (j : Int)) (hl : j * sz + sz ≤ cs.length)
    (ha : AbsR cx ρ σ a w) (hds : evs σ true [x, i] = some [(.sl sz cs, b), (.val (.int k n), b')]) (ho : o.op = .indexAddr t x i) (hdst : ∀ t, o.dst = some t → t < cx.N) (hK : ∀ a' w', Abs cx (σ.app o.dst (v0 (.elt (cs.drop (j * sz))))) a' w' → K a' w') : o.wp P a w K Q := by
  subst hj
  obtain ⟨e1, e2⟩ := evs2 hds
  obtain ⟨h1, -, -⟩ := ev_rep ha e1
  have hi := ev_val ha e2
  unfold Rep at h1
  obtain ⟨A, m, c, hv, -⟩ := h1.slice
  rw [hv] at h1
  obtain ⟨ad, rfl, hjn, hI, hr⟩ := elt_of h1 hl h.hsz
  refine fin0 ha hdst (v := .pointer (some (ad.add (j * sz)))) ?_ (by unfold Rep; exact ⟨_, rfl, hI, hr⟩) (fun k hk => by unfold men at hk; exact hk.elim) hK
  simp [execOp, ho, hv, hi, idx_run h ad m c k hjn]
theorem s_idxR {t e : TypeId} {x i : Operand} {sz bytes kr e' : Nat} {cs : List C} {k : IntKind} {n : Int} {j : Nat} {b' : Option LB} (h : SlT P t e sz bytes) (hj : n = (j : Int)) (hl : j * sz + sz ≤ cs.length)
    (ha : AbsR cx ρ σ a w) (hds : evs σ true [x, i] = some [(.row kr, some (.row e' sz cs)), (.val (.int k n), b')]) (ho : o.op = .indexAddr t x i) (hdst : ∀ t, o.dst = some t → t < cx.N) (hK : ∀ a' w', Abs cx (σ.app o.dst (v0 (.ptr kr (j * sz)))) a' w' → K a' w') : o.wp P a w K Q := by
  subst hj
  obtain ⟨e1, e2⟩ := evs2 hds
  obtain ⟨h1, h2, h3⟩ := ev_rep ha e1
  have hi := ev_val ha e2
  unfold Rep at h1
  obtain ⟨m, us, hw, -, hr⟩ := ha.lo _ _ (h3 _ _ rfl rfl)
  have hz := h.hsz
  have hjm : j < m := by
    have h1 : (j + 1) * sz ≤ m * sz := by rw [Nat.add_mul, Nat.one_mul, ← hw.1, ← hr.1]; exact hl
    exact Nat.lt_of_succ_le (Nat.le_of_mul_le_mul_right h1 hz)
  obtain ⟨g, cap, hv, hmc, -⟩ := rowAddr hw (by omega)
  replace h1 := h1.1
  rw [hv] at h1
  refine fin0 ha hdst (v := .pointer (some ⟨g, j * sz, none⟩)) ?_ (by unfold Rep; exact ⟨g, by rw [hv]; exact blkOf_pos (by omega), rfl⟩) (fun k hk => h2 k (by unfold men at *; exact hk)) hK
  simp [execOp, ho, h1, hi, idx_run h _ m cap k hjm, add_at]
theorem s_idxP {t e : TypeId} {x i : Operand} {sz bytes kr off m : Nat} {k : IntKind} {n : Int} {j : Nat} {b b' : Option LB} (h : SlT P t e sz bytes) (hj : n = (j : Int)) (hl : j < m)
    (ha : AbsR cx ρ σ a w) (hds : evs σ true [x, i] = some [(.part kr off m, b), (.val (.int k n), b')]) (ho : o.op = .indexAddr t x i) (hdst : ∀ t, o.dst = some t → t < cx.N) (hK : ∀ a' w', Abs cx (σ.app o.dst (v0 (.ptr kr (off + j * sz)))) a' w' → K a' w') : o.wp P a w K Q := by
  subst hj
  obtain ⟨e1, e2⟩ := evs2 hds
  obtain ⟨h1, h2, -⟩ := ev_rep ha e1
  have hi := ev_val ha e2
  unfold Rep at h1
  obtain ⟨A, c, hv, -, -, hA, -⟩ := h1
  obtain ⟨g, hg, rfl⟩ := hA (by omega)
  refine fin0 ha hdst (v := .pointer (some ⟨g, off + j * sz, none⟩)) ?_ (by unfold Rep; exact ⟨g, hg, rfl⟩) (fun k hk => h2 k (by unfold men at *; exact hk)) hK
  simp [execOp, ho, hv, hi, idx_run h _ m c k hl, add_at]
theorem evs_tail {tc : Bool} {x : Operand} {l : List Operand} {q : DV × Option LB} {r : List (DV × Option LB)} (h : evs σ tc (x :: l) = some (q :: r)) : ev σ tc x = some q ∧ evs σ tc l = some r := by
  obtain ⟨q', qs, h1, h2, h3⟩ := evs_cons h
  injection h1 with h1 h1'
  rw [h1, h1']
  exact ⟨h2, h3⟩
theorem slice_ops {t : TypeId} {x : Operand} {lo hi : Option Operand} : (Op.slice t x lo hi none).operands.toList = x :: (lo.toArray ++ hi.toArray).toList := by
  cases lo <;> cases hi <;> rfl
theorem s_sliS {t e : TypeId} {x : Operand} {lo hi : Option Operand} {sz bytes n l h : Nat} {cs : List C} {r : List (DV × Option LB)} {b : Option LB} (hS : SlT P t e sz bytes) (hn : cs.length = n * sz) (hb : bnd n lo hi r l h) (hl : l ≤ h ∧ h ≤ n)
    (ha : AbsR cx ρ σ a w) (hds : evs σ true (x :: (lo.toArray ++ hi.toArray).toList) = some ((.sl sz cs, b) :: r)) (ho : o.op = .slice t x lo hi none) (hdst : ∀ t, o.dst = some t → t < cx.N) (hK : ∀ a' w', Abs cx (σ.app o.dst (v0 (.sl sz ((cs.drop (l * sz)).take ((h - l) * sz))))) a' w' → K a' w') : o.wp P a w K Q := by
  obtain ⟨e1, e2⟩ := evs_tail hds
  obtain ⟨h1, -, -⟩ := ev_rep ha e1
  unfold Rep at h1
  obtain ⟨A, m, c, hv, hm, hmc, hc⟩ := h1.slice
  rw [hv] at h1
  have hmn : m = n := Nat.eq_of_mul_eq_mul_right hS.hsz (hm.symm.trans hn)
  subst hmn
  have hrun := slice_run (P := P) (A := A) (c := c) hS ha hb e2 hl hmc
  refine fin0 ha hdst ?_ (d := .sl sz ((cs.drop (l * sz)).take ((h - l) * sz))) (v := .slice (if c = l then A else A.map (·.add (l * sz))) (h - l) (c - l)) (by
    unfold Rep
    exact RdC.cut h1 hl.1 hl.2 (by omega) (by omega) fun ad hA hlt => by rw [if_neg (by omega), hA]; rfl) (fun k hk => by unfold men at hk; exact hk.elim) hK
  simp [execOp, ho, hv, hrun]
theorem s_sliC {t e : TypeId} {x hi mx : Operand} {sz bytes n h : Nat} {k k' : IntKind} {cs : List C} {b b1 b2 : Option LB} (hS : SlT P t e sz bytes) (hn : cs.length = n * sz) (hh : h ≤ n)
    (ha : AbsR cx ρ σ a w) (hds : evs σ true [x, hi, mx] = some [(.sl sz cs, b), (.val (.int k (h : Int)), b1), (.val (.int k' (h : Int)), b2)]) (ho : o.op = .slice t x none (some hi) (some mx)) (hdst : ∀ t, o.dst = some t → t < cx.N) (hK : ∀ a' w', Abs cx (σ.app o.dst (v0 (.slc sz (cs.take (h * sz))))) a' w' → K a' w') : o.wp P a w K Q := by
  obtain ⟨e1, e2, e3⟩ := evs3 hds
  obtain ⟨h1, -, -⟩ := ev_rep ha e1
  have q2 := ev_val ha e2
  have q3 := ev_val ha e3
  unfold Rep at h1
  obtain ⟨A, m, c, hv, hm, hmc, hc⟩ := h1.slice
  have hmn : m = n := Nat.eq_of_mul_eq_mul_right hS.hsz (hm.symm.trans hn)
  subst hmn
  have r1 := run_sliceBound (P := P) w k' (h : Int) c .slice3Acap (by omega) (by omega)
  have r2 := run_sliceBound (P := P) w k (h : Int) h .slice3B (by omega) (by omega)
  have hb : (Instr.sliceBounds true m c none (some (.int k (h : Int))) (some (.int k' (h : Int)))).run P w = .ok (0, h, h) w := by
    simp [Instr.sliceBounds, r1, r2]
  have hrun : (Instr.sliceAt t (.slice A m c) none (some (.int k (h : Int))) (some (.int k' (h : Int)))).run P w = .ok (.slice A h h) w := by
    rw [run_sliceAt_slice w t _ _ _ _ hS.elem]
    cases A with
    | none => simp [Instr.slice, run_underlying hS.ht, hb, hS.size]
    | some ad => simp [Instr.slice, run_underlying hS.ht, hb, hS.size, Addr.add]
  have hlen : (cs.take (h * sz)).length = h * sz := by
    rw [List.length_take, hn]
    exact Nat.min_eq_left (Nat.mul_le_mul_right _ hh)
  refine fin0 ha hdst ?_ (d := .slc sz (cs.take (h * sz))) (v := .slice A h h) (by
    unfold Rep
    refine ⟨?_, A, h, rfl, hlen⟩
    rw [hv] at h1
    have := h1.cut (A' := A) (i := 0) (j := h) (cap' := h) (Nat.zero_le _) hh (by omega) (by omega) (fun ad hA _ => by rw [hA]; simp [Addr.add])
    simpa using this) (fun k hk => by unfold men at hk; exact hk.elim) hK
  simp [execOp, ho, hv, q2, q3, hrun]
theorem s_sliR {t e : TypeId} {x : Operand} {lo hi : Option Operand} {sz bytes n l h kr e' : Nat} {cs : List C} {r : List (DV × Option LB)} (hS : SlT P t e sz bytes) (hn : cs.length = n * sz) (hb : bnd n lo hi r l h) (hl : l ≤ h ∧ h ≤ n)
    (ha : AbsR cx ρ σ a w) (hds : evs σ true (x :: (lo.toArray ++ hi.toArray).toList) = some ((.row kr, some (.row e' sz cs)) :: r)) (ho : o.op = .slice t x lo hi none) (hdst : ∀ t, o.dst = some t → t < cx.N) (hK : ∀ a' w', Abs cx (σ.app o.dst (v0 (.part kr (l * sz) (h - l)))) a' w' → K a' w') : o.wp P a w K Q := by
  obtain ⟨e1, e2⟩ := evs_tail hds
  obtain ⟨h1, h2, h3⟩ := ev_rep ha e1
  unfold Rep at h1
  obtain ⟨m, us, hw, -, hr⟩ := ha.lo _ _ (h3 _ _ rfl rfl)
  have hmn : m = n := Nat.eq_of_mul_eq_mul_right hS.hsz (hw.1.symm.trans (hr.1.symm.trans hn))
  subst hmn
  have fin : ∀ (A : Option Addr) (c : Nat), a.eval x = .slice A m c → m ≤ c → c ≤ maxLen → (0 < m → ∃ g, blkOf (ρ kr) = some g ∧ A = some ⟨g, 0, none⟩) → o.wp P a w K Q := fun A c hv hmc hc hA => by
    have hsz := hS.hsz
    have hrun := slice_run (P := P) (A := A) (c := c) hS ha hb e2 hl hmc
    refine fin0 ha hdst ?_ (d := .part kr (l * sz) (h - l)) (v := .slice (if c = l then A else A.map (·.add (l * sz))) (h - l) (c - l)) (by
      unfold Rep
      refine ⟨_, _, rfl, by omega, by omega, fun hlt => ?_, fun h0 A' N c' hv' => ?_⟩
      · obtain ⟨g, hg, hA'⟩ := hA (by omega)
        refine ⟨g, hg, ?_⟩
        rw [if_neg (by omega), hA']
        simp [add_at]
      · have hl0 : l = 0 := by
          rcases Nat.mul_eq_zero.1 h0 with h | h <;> omega
        rw [← h1.1, hv] at hv'
        injection hv' with q1 q2 q3
        rw [hl0, Nat.zero_mul]
        refine ⟨?_, by omega⟩
        rw [← q1]
        split
        · rfl
        · cases A <;> simp [Addr.add]) (fun k hk => h2 k (by unfold men at *; exact hk)) hK
    simp [execOp, ho, hv, hrun]
  rcases hw.2 with ⟨A, hv, rfl⟩ | ⟨g, cap, cur, hv, hc0, -, hmc, hc, -⟩
  · exact fin A 0 (h1.1.trans hv) (Nat.le_refl _) (by simp [maxLen]) fun h0 => absurd h0 (by omega)
  · exact fin _ cap (h1.1.trans hv) hmc hc fun _ => ⟨g, by rw [hv]; exact blkOf_pos hc0, rfl⟩
theorem s_sliP {t e : TypeId} {x : Operand} {lo hi : Option Operand} {sz bytes l h kr off m : Nat} {r : List (DV × Option LB)} {b : Option LB} (hS : SlT P t e sz bytes) (hb : bnd m lo hi r l h) (hl : l ≤ h ∧ h ≤ m)
    (ha : AbsR cx ρ σ a w) (hds : evs σ true (x :: (lo.toArray ++ hi.toArray).toList) = some ((.part kr off m, b) :: r)) (ho : o.op = .slice t x lo hi none) (hdst : ∀ t, o.dst = some t → t < cx.N) (hK : ∀ a' w', Abs cx (σ.app o.dst (v0 (.part kr (off + l * sz) (h - l)))) a' w' → K a' w') : o.wp P a w K Q := by
  obtain ⟨e1, e2⟩ := evs_tail hds
  obtain ⟨h1, h2, -⟩ := ev_rep ha e1
  unfold Rep at h1
  obtain ⟨A, c, hv, hmc, hc, hA, hB⟩ := h1
  have hsz := hS.hsz
  have hrun := slice_run (P := P) (A := A) (c := c) hS ha hb e2 hl hmc
  refine fin0 ha hdst ?_ (d := .part kr (off + l * sz) (h - l)) (v := .slice (if c = l then A else A.map (·.add (l * sz))) (h - l) (c - l)) (by
    unfold Rep
    refine ⟨_, _, rfl, by omega, by omega, fun hlt => ?_, fun h0 A' N c' hv' => ?_⟩
    · obtain ⟨g, hg, hA'⟩ := hA (by omega)
      refine ⟨g, hg, ?_⟩
      rw [if_neg (by omega), hA']
      simp [add_at]
    · have hl0 : off = 0 ∧ l = 0 := by
        have : l * sz = 0 := by omega
        rcases Nat.mul_eq_zero.1 this with h | h <;> omega
      obtain ⟨q1, q2⟩ := hB hl0.1 A' N c' hv'
      rw [hl0.2, Nat.zero_mul]
      refine ⟨?_, by omega⟩
      rw [← q1]
      split
      · rfl
      · cases A <;> simp [Addr.add]) (fun k hk => h2 k (by unfold men at *; exact hk)) hK
  simp [execOp, ho, hv, hrun]
theorem load1_run {t : TypeId} {sz : Nat} (ht : Ty P t false sz) {ad : Addr} {v : Value} (h : w.cell? ad = some v) : (Instr.loadAt t (.pointer (some ad))).run P w = .ok v w := by
  simp [Instr.loadAt, Instr.sureAddr, loadVar, ht.agg, h]
theorem loadA_run {t : TypeId} {sz : Nat} (ht : Ty P t true sz) {ad : Addr} {vs : List Value} (hl : vs.length = sz) (h : ∀ j v, vs[j]? = some v → w.cell? (ad.add j) = some v) : (Instr.loadAt t (.pointer (some ad))).run P w = .ok (.agg vs.toArray) w := by
  have := run_loadCells_list (P := P) w ad vs h
  rw [hl] at this
  simp [Instr.loadAt, Instr.sureAddr, loadVar, ht.agg, ht.size, this]
theorem s_loadB1 {t : TypeId} {x : Operand} {k i sz bt : Nat} {ds : List DV} {d : DV} (ht : Ty P t false sz) (hd : ds[i]? = some d)
    (ha : AbsR cx ρ σ a w) (hds : evs σ true [x] = some [(.ptr k i, some (.box ds bt))]) (ho : o.op = .load t x) (hdst : ∀ t, o.dst = some t → t < cx.N) (hK : ∀ a' w', Abs cx (σ.app o.dst (v0 d)) a' w' → K a' w') : o.wp P a w K Q := by
  obtain ⟨h1, h2, h3⟩ := ev_rep ha (evs1 hds)
  have hL := h3 _ _ rfl rfl
  unfold Rep at h1
  obtain ⟨g, hg, hv⟩ := h1
  obtain ⟨g', vs, q1, q2, -, -, q5⟩ := ha.lo _ _ hL
  rw [q1] at hg
  injection hg with hg
  subst hg
  obtain ⟨v, hv', hd'⟩ := q5.at_ hd
  refine fin0 ha hdst (v := v) ?_ hd' (fun k' hk' => (ha.usedL _ _ hL).2 k' (by unfold menB; exact s_extract.menL_at hd hk')) hK
  have : w.cell? ⟨g', i, none⟩ = some v := by simp [World.cell?, q2, hv']
  simp [execOp, ho, hv, load1_run ht this]
theorem s_loadBA {t : TypeId} {x : Operand} {k i sz bt : Nat} {ds : List DV} (ht : Ty P t true sz) (hl : i + sz ≤ ds.length)
    (ha : AbsR cx ρ σ a w) (hds : evs σ true [x] = some [(.ptr k i, some (.box ds bt))]) (ho : o.op = .load t x) (hdst : ∀ t, o.dst = some t → t < cx.N) (hK : ∀ a' w', Abs cx (σ.app o.dst (v0 (.agg ((ds.drop i).take sz)))) a' w' → K a' w') : o.wp P a w K Q := by
  obtain ⟨h1, h2, h3⟩ := ev_rep ha (evs1 hds)
  have hL := h3 _ _ rfl rfl
  unfold Rep at h1
  obtain ⟨g, hg, hv⟩ := h1
  obtain ⟨g', vs, q1, q2, -, q4, q5⟩ := ha.lo _ _ hL
  rw [q1] at hg
  injection hg with hg
  subst hg
  have hlen := q5.length
  refine fin0 ha hdst (v := .agg ((vs.drop i).take sz).toArray) ?_ (by unfold Rep; exact ⟨_, rfl, fun u hu => q4 u (List.mem_of_mem_drop (List.mem_of_mem_take hu)), q5.sub _ _⟩) (fun k' hk' => (ha.usedL _ _ hL).2 k' (by unfold menB; unfold men at hk'; exact menL_sub hk')) hK
  have := loadA_run (w := w) ht (ad := ⟨g', i, none⟩) (vs := (vs.drop i).take sz) (by rw [List.length_take, List.length_drop]; omega) (fun j v hj => by
    rw [List.getElem?_take] at hj
    split at hj
    · rw [List.getElem?_drop] at hj
      rw [add_at]
      simp [World.cell?, q2, hj]
    · cases hj)
  simp [execOp, ho, hv, this]
theorem row_cell {v : Value} {e s : Nat} {cs : List C} {g i : Nat} {c : C} {I : Nat → Prop} (hw : LBok cx ρ I w v (.row e s cs)) (hg : blkOf v = some g) (hc : cs[i]? = some c) : ∃ u, w.cell? ⟨g, i, none⟩ = some u ∧ RdC w I c u := by
  obtain ⟨n, us, hw, -, hr⟩ := hw
  have hil : i < us.length := by rw [← hr.1]; exact (List.getElem?_eq_some_iff.1 hc).1
  have hu : us[i]? = some us[i] := List.getElem?_eq_getElem hil
  rcases hw.2 with ⟨A, h1, -⟩ | ⟨g', cap, cur, h1, h2, hg', h3⟩
  · rw [h1] at hg
    cases A <;> cases hg
  · have hn : 0 < n := by
      rcases Nat.eq_zero_or_pos n with h | h
      · rw [hw.1, h] at hil; simp at hil
      · exact h
    obtain ⟨g2, cap2, e1, -, -, e2⟩ := rowAddr hw hn
    rw [e1] at hg
    obtain ⟨hg, -⟩ := blkOf_sl hg
    dsimp only at hg
    subst hg
    exact ⟨us[i], e2 i _ hu, hr.2 i c _ hc hu⟩
theorem s_loadR1 {t : TypeId} {x : Operand} {k i e s sz : Nat} {cs : List C} {c : C} (ht : Ty P t false sz) (hd : cs[i]? = some c)
    (ha : AbsR cx ρ σ a w) (hds : evs σ true [x] = some [(.ptr k i, some (.row e s cs))]) (ho : o.op = .load t x) (hdst : ∀ t, o.dst = some t → t < cx.N) (hK : ∀ a' w', Abs cx (σ.app o.dst (v0 (cdv c))) a' w' → K a' w') : o.wp P a w K Q := by
  obtain ⟨h1, h2, h3⟩ := ev_rep ha (evs1 hds)
  have hL := h3 _ _ rfl rfl
  unfold Rep at h1
  obtain ⟨g, hg, hv⟩ := h1
  obtain ⟨u, hu, hr⟩ := row_cell (ha.lo _ _ hL) hg hd
  refine fin0 ha hdst (v := u) ?_ (RepL.map_cdv.rep_cdv hr) (fun k' hk' => (men_cdv k' hk').elim) hK
  simp [execOp, ho, hv, load1_run ht hu]
theorem cells_of {I : Nat → Prop} {cs : List C} {ad : Addr} (h : ∀ j c, cs[j]? = some c → ∃ u, w.cell? (ad.add j) = some u ∧ RdC w I c u) : ∃ us : List Value, us.length = cs.length ∧ RdUs w I cs us ∧ ∀ j u, us[j]? = some u → w.cell? (ad.add j) = some u := by
  refine ⟨(List.range cs.length).map fun j => (w.cell? (ad.add j)).getD undef, by simp, ⟨by simp, fun j c u hj hu => ?_⟩, fun j u hu => ?_⟩
  · obtain ⟨u', h1, h2⟩ := h j c hj
    have hlt := (List.getElem?_eq_some_iff.1 hj).1
    simp [hlt, h1] at hu
    subst hu
    exact h2
  · have hlt : j < cs.length := by
      have := (List.getElem?_eq_some_iff.1 hu).1
      simpa using this
    obtain ⟨u', h1, h2⟩ := h j _ (List.getElem?_eq_getElem hlt)
    simp [hlt, h1] at hu
    rw [h1, hu]
theorem s_loadRA {t : TypeId} {x : Operand} {k i e s sz : Nat} {cs : List C} (ht : Ty P t true sz) (hl : i + sz ≤ cs.length)
    (ha : AbsR cx ρ σ a w) (hds : evs σ true [x] = some [(.ptr k i, some (.row e s cs))]) (ho : o.op = .load t x) (hdst : ∀ t, o.dst = some t → t < cx.N) (hK : ∀ a' w', Abs cx (σ.app o.dst (v0 (.agg (((cs.drop i).take sz).map cdv)))) a' w' → K a' w') : o.wp P a w K Q := by
  obtain ⟨h1, h2, h3⟩ := ev_rep ha (evs1 hds)
  have hL := h3 _ _ rfl rfl
  unfold Rep at h1
  obtain ⟨g, hg, hv⟩ := h1
  obtain ⟨us, u1, u2, u3⟩ := cells_of (w := w) (I := Imm cx σ ρ w) (cs := (cs.drop i).take sz) (ad := ⟨g, i, none⟩) fun j c hj => by
    rw [List.getElem?_take] at hj
    split at hj
    · rw [List.getElem?_drop] at hj
      rw [add_at]
      exact row_cell (ha.lo _ _ hL) hg hj
    · cases hj
  obtain ⟨r1, r2⟩ := RepL.map_cdv (ρ := ρ) u2
  refine fin0 ha hdst (v := .agg us.toArray) ?_ (by unfold Rep; exact ⟨_, rfl, r2, r1⟩) (fun k' hk' => (menL_cdv k' (by unfold men at hk'; exact hk')).elim) hK
  have := loadA_run (w := w) ht (ad := ⟨g, i, none⟩) (vs := us) (by rw [u1, List.length_take, List.length_drop]; omega) u3
  simp [execOp, ho, hv, this]
theorem s_loadE1 {t : TypeId} {x : Operand} {sz : Nat} {cs : List C} {c : C} {b : Option LB} (ht : Ty P t false sz) (hd : cs[0]? = some c)
    (ha : AbsR cx ρ σ a w) (hds : evs σ true [x] = some [(.elt cs, b)]) (ho : o.op = .load t x) (hdst : ∀ t, o.dst = some t → t < cx.N) (hK : ∀ a' w', Abs cx (σ.app o.dst (v0 (cdv c))) a' w' → K a' w') : o.wp P a w K Q := by
  obtain ⟨h1, -, -⟩ := ev_rep ha (evs1 hds)
  unfold Rep at h1
  obtain ⟨ad, hv, hI, hr⟩ := h1
  obtain ⟨u, hu, hr'⟩ := hr.at_ hd
  have e0 : (ad.add (0 + 0)) = ad := by simp [Addr.add]
  rw [e0] at hu
  refine fin0 ha hdst (v := u) ?_ (RepL.map_cdv.rep_cdv hr') (fun k' hk' => (men_cdv k' hk').elim) hK
  simp [execOp, ho, hv, load1_run ht hu]
theorem s_loadEA {t : TypeId} {x : Operand} {sz : Nat} {cs : List C} {b : Option LB} (ht : Ty P t true sz) (hl : sz ≤ cs.length)
    (ha : AbsR cx ρ σ a w) (hds : evs σ true [x] = some [(.elt cs, b)]) (ho : o.op = .load t x) (hdst : ∀ t, o.dst = some t → t < cx.N) (hK : ∀ a' w', Abs cx (σ.app o.dst (v0 (.agg ((cs.take sz).map cdv)))) a' w' → K a' w') : o.wp P a w K Q := by
  obtain ⟨h1, -, -⟩ := ev_rep ha (evs1 hds)
  unfold Rep at h1
  obtain ⟨ad, hv, hI, hr⟩ := h1
  obtain ⟨us, u1, u2, u3⟩ := cells_of (w := w) (I := Imm cx σ ρ w) (cs := cs.take sz) (ad := ad) fun j c hj => by
    rw [List.getElem?_take] at hj
    split at hj
    · have := hr.at_ hj
      rwa [Nat.zero_add] at this
    · cases hj
  obtain ⟨r1, r2⟩ := RepL.map_cdv (ρ := ρ) u2
  refine fin0 ha hdst (v := .agg us.toArray) ?_ (by unfold Rep; exact ⟨_, rfl, r2, r1⟩) (fun k' hk' => (menL_cdv k' (by unfold men at hk'; exact hk')).elim) hK
  have := loadA_run (w := w) ht (ad := ad) (vs := us) (by rw [u1, List.length_take]; omega) u3
  simp [execOp, ho, hv, this]
end
end Go.Proofs.Ytfkgbfhpibiheaa
namespace Go.Proofs.Ytfkgbfhpibiheaa
open Go.RowKit
section
variable {P : Program} {cx : Cx} {ρ : Nat → Value} {σ : St} {a : Act} {w w' : World} {o : Oper} {K : Act → World → Prop} {Q : Exit → Act → World → Prop}
theorem Cx.Kept.alloc (h : cx.Kept w) (ob : Obj) : cx.Kept (w.alloc ob) := by
  obtain ⟨h1, h2, h3, h4, h5⟩ := h
  exact ⟨h1, h2, h3, Nat.le_trans h4 (by simp), fun b hb hM => (Below.heap_alloc w ob b (Nat.lt_of_lt_of_le hb h4)).trans (h5 b hb hM)⟩
theorem Cx.Kept.grown (h : cx.Kept w) {row : Option Nat} (hg : w.grownBy w' row) (hr : ∀ k, row = some k → cx.w0.heap.size ≤ k ∨ cx.M k) : cx.Kept w' := by
  obtain ⟨h1, h2, h3, h4, h5⟩ := h
  exact ⟨hg.os.trans h1, hg.tape.trans h2, hg.output.trans h3, Nat.le_trans h4 hg.size, fun b hb hM => (hg.block b (Nat.lt_of_lt_of_le hb h4) (fun e => (hr b e.symm).elim (fun h => by omega) hM)).trans (h5 b hb hM)⟩
theorem npt_rd (ha : AbsR cx ρ σ a w) {tc : Bool} {x : Operand} {k s i p : Nat} {e sz o e2 sz2 h cs c2} (hx : ev σ tc x = some (.npt k s i p, some (.tree e sz o e2 sz2 s h cs))) (hc : cs[i * sz + o]? = some (.sl sz2 c2)) (hh : h ≠ some i) :
    ∃ v g, a.eval x = .pointer (some ⟨g, p, none⟩) ∧ blkOf v = some g ∧ LBok cx ρ (Imm cx σ ρ w) w v (.row e2 sz2 c2) := by
  obtain ⟨h1, -, h3⟩ := ev_rep ha hx
  unfold Rep at h1
  obtain ⟨vs, u, g, q1, q2, q3, q4⟩ := h1
  obtain ⟨n, us, vs', q⟩ := ha.lo _ _ (h3 _ _ rfl rfl)
  have e1 := q.hs.symm.trans q1
  injection e1 with e1
  subst e1
  obtain ⟨-, n2, us2, c2', r1, r2, r3, r4⟩ := q.nest i _ q2 hh
  rw [hc] at r1
  injection r1 with r1
  injection r1 with _ r1
  subst r1
  exact ⟨u, g, q4, q3, n2, us2, r2, fun b hb => (r4 b hb).1, r3⟩
theorem s_idxT {t e : TypeId} {x i : Operand} {sz bytes kr e' o' e2 sz2 s : Nat} {hh : Option Nat} {cs : List C} {k : IntKind} {n : Int} {j : Nat} {b' : Option LB} (h : SlT P t e sz bytes) (hj : n = (j : Int)) (hl : j * sz + sz ≤ cs.length)
    (ha : AbsR cx ρ σ a w) (hds : evs σ true [x, i] = some [(.row kr, some (.tree e' sz o' e2 sz2 s hh cs)), (.val (.int k n), b')]) (ho : o.op = .indexAddr t x i) (hdst : ∀ t, o.dst = some t → t < cx.N) (hK : ∀ a' w', Abs cx (σ.app o.dst (v0 (.ptr kr (j * sz)))) a' w' → K a' w') : o.wp P a w K Q := by
  subst hj
  obtain ⟨e1, e2⟩ := evs2 hds
  obtain ⟨h1, h2, h3⟩ := ev_rep ha e1
  have hi := ev_val ha e2
  unfold Rep at h1
  obtain ⟨m, us, vs, q⟩ := ha.lo _ _ (h3 _ _ rfl rfl)
  have hz := h.hsz
  have hjm : j < m := by
    have h1 : (j + 1) * sz ≤ m * sz := by rw [Nat.add_mul, Nat.one_mul, ← q.row.1, ← q.hl]; exact hl
    exact Nat.lt_of_succ_le (Nat.le_of_mul_le_mul_right h1 hz)
  obtain ⟨g, cap, hv, hmc, -⟩ := rowAddr q.row (by omega)
  replace h1 := h1.1
  rw [hv] at h1
  refine fin0 ha hdst (v := .pointer (some ⟨g, j * sz, none⟩)) ?_ (by unfold Rep; exact ⟨g, by rw [hv]; exact blkOf_pos (by omega), rfl⟩) (fun k hk => h2 k (by unfold men at *; exact hk)) hK
  simp [execOp, ho, h1, hi, idx_run h _ m cap k hjm, add_at]
theorem s_idxN {t e e' : TypeId} {x i : Operand} {sz bytes kr o' e2 sz2 s q : Nat} {hh : Option Nat} {cs c2 : List C} {k : IntKind} {n : Int} {j : Nat} {b' : Option LB} (h : SlT P t e' sz2 bytes) (hc : cs[q * sz + o']? = some (.sl sz2 c2)) (hh' : hh ≠ some q) (hj : n = (j : Int)) (hl : j * sz2 + sz2 ≤ c2.length)
    (ha : AbsR cx ρ σ a w) (hds : evs σ true [x, i] = some [(.nst kr s q, some (.tree e sz o' e2 sz2 s hh cs)), (.val (.int k n), b')]) (ho : o.op = .indexAddr t x i) (hdst : ∀ t, o.dst = some t → t < cx.N) (hK : ∀ a' w', Abs cx (σ.app o.dst (v0 (.npt kr s q (j * sz2)))) a' w' → K a' w') : o.wp P a w K Q := by
  subst hj
  obtain ⟨e1, e2⟩ := evs2 hds
  obtain ⟨h1, h2, -⟩ := ev_rep ha e1
  have hi := ev_val ha e2
  obtain ⟨m, us2, q2, q3, -⟩ := nst_rd ha e1 hc hh'
  unfold Rep at h1
  obtain ⟨vs, r1, r2⟩ := h1
  have hz := h.hsz
  have hjm : j < m := by
    have h1 : (j + 1) * sz2 ≤ m * sz2 := by rw [Nat.add_mul, Nat.one_mul, ← q2.1, ← q3.1]; exact hl
    exact Nat.lt_of_succ_le (Nat.le_of_mul_le_mul_right h1 hz)
  obtain ⟨g, cap, hv, hmc, -⟩ := rowAddr q2 (by omega)
  refine fin0 ha hdst (v := .pointer (some ⟨g, j * sz2, none⟩)) ?_ (by unfold Rep; exact ⟨vs, _, g, r1, r2, by rw [hv]; exact blkOf_pos (by omega), rfl⟩) (fun k hk => h2 k (by unfold men at *; exact hk)) hK
  simp [execOp, ho, hv, hi, idx_run h _ m cap k hjm, add_at]
theorem s_fieldN {s ft : TypeId} {x : Operand} {f off sz k s' i p : Nat} {ag : Bool} {b : Option LB} {tc : Bool} (h : Fd P s f off ft) (ht : Ty P ft ag sz) (hz : 0 < sz) (ha : AbsR cx ρ σ a w) (hds : evs σ tc [x] = some [(.npt k s' i p, b)]) (ho : o.op = .fieldAddr s x f) (hdst : ∀ t, o.dst = some t → t < cx.N) (hK : ∀ a' w', Abs cx (σ.app o.dst (v0 (.npt k s' i (p + off)))) a' w' → K a' w') : o.wp P a w K Q := by
  obtain ⟨h1, h2, -⟩ := ev_rep ha (evs1 hds)
  unfold Rep at h1
  obtain ⟨vs, u, g, q1, q2, q3, hv⟩ := h1
  refine fin0 ha hdst (v := .pointer (some ⟨g, p + off, none⟩)) ?_ (by unfold Rep; exact ⟨vs, u, g, q1, q2, q3, rfl⟩) (fun k' hk' => h2 k' (by unfold men at *; exact hk')) hK
  simp [execOp, ho, hv, fieldPlace_run h ht hz, add_at]
theorem s_nilN {x : Operand} {k s i p : Nat} {b : Option LB} {tc : Bool} (ha : AbsR cx ρ σ a w) (hds : evs σ tc [x] = some [(.npt k s i p, b)]) (ho : o.op = .nilCheck x) (hdst : ∀ t, o.dst = some t → t < cx.N) (hK : ∀ a' w', Abs cx (σ.app o.dst (v0 (.npt k s i p))) a' w' → K a' w') : o.wp P a w K Q := by
  obtain ⟨h1, h2, -⟩ := ev_rep ha (evs1 hds)
  have h1' := h1
  unfold Rep at h1
  obtain ⟨vs, u, g, q1, q2, q3, hv⟩ := h1
  refine fin0 ha hdst (v := a.eval x) ?_ h1' h2 hK
  simp [execOp, ho, hv]
theorem tree_cell {I : Nat → Prop} {v : Value} {e sz o' e2 sz2 s hh cs n us vs} (q : TreeOk cx ρ I w v e sz o' e2 sz2 s hh cs n us vs) {g p : Nat} (hg : blkOf v = some g) (hp : p < cs.length) : ∃ u, us[p]? = some u ∧ w.cell? ⟨g, p, none⟩ = some u := by
  have hpl : p < us.length := by rw [← q.hl]; exact hp
  have hu : us[p]? = some us[p] := List.getElem?_eq_getElem hpl
  have hn : 0 < n := by
    rcases Nat.eq_zero_or_pos n with h | h
    · rw [q.row.1, h] at hpl; simp at hpl
    · exact h
  obtain ⟨g2, cap2, e1, e3, -, e2⟩ := rowAddr q.row hn
  rw [e1] at hg
  obtain ⟨hg, -⟩ := blkOf_sl hg
  dsimp only at hg
  subst hg
  exact ⟨_, hu, e2 p _ hu⟩
theorem s_loadT1 {t : TypeId} {x : Operand} {k p e sz o' e2 sz2 s z : Nat} {hh : Option Nat} {cs : List C} {c : C} (ht : Ty P t false z) (hp : p % sz ≠ o') (hd : cs[p]? = some c)
    (ha : AbsR cx ρ σ a w) (hds : evs σ true [x] = some [(.ptr k p, some (.tree e sz o' e2 sz2 s hh cs))]) (ho : o.op = .load t x) (hdst : ∀ t, o.dst = some t → t < cx.N) (hK : ∀ a' w', Abs cx (σ.app o.dst (v0 (cdv c))) a' w' → K a' w') : o.wp P a w K Q := by
  obtain ⟨h1, h2, h3⟩ := ev_rep ha (evs1 hds)
  unfold Rep at h1
  obtain ⟨g, hg, hv⟩ := h1
  obtain ⟨n, us, vs, q⟩ := ha.lo _ _ (h3 _ _ rfl rfl)
  obtain ⟨u, hu, hc⟩ := tree_cell q hg (List.getElem?_eq_some_iff.1 hd).1
  refine fin0 ha hdst (v := u) ?_ (RepL.map_cdv.rep_cdv (q.flat p c u hd hu hp)) (fun k' hk' => (men_cdv k' hk').elim) hK
  simp [execOp, ho, hv, load1_run ht hc]
theorem s_loadTN {t : TypeId} {x : Operand} {k p e sz o' e2 sz2 s z i : Nat} {hh : Option Nat} {cs : List C} (ht : Ty P t false z) (hp : p = i * sz + o') (hh' : hh ≠ some i) (hl : p < cs.length)
    (ha : AbsR cx ρ σ a w) (hds : evs σ true [x] = some [(.ptr k p, some (.tree e sz o' e2 sz2 s hh cs))]) (ho : o.op = .load t x) (hdst : ∀ t, o.dst = some t → t < cx.N) (hK : ∀ a' w', Abs cx (σ.app o.dst (v0 (.nst k s i))) a' w' → K a' w') : o.wp P a w K Q := by
  subst hp
  obtain ⟨h1, h2, h3⟩ := ev_rep ha (evs1 hds)
  have hL := h3 _ _ rfl rfl
  unfold Rep at h1
  obtain ⟨g, hg, hv⟩ := h1
  obtain ⟨n, us, vs, q⟩ := ha.lo _ _ hL
  obtain ⟨u, hu, hc⟩ := tree_cell q hg hl
  have hi : i < vs.size := by
    have hz : 0 < sz := Nat.lt_of_le_of_lt (Nat.zero_le _) q.ho
    have h1 : i * sz < n * sz := by rw [← q.row.1, ← q.hl]; omega
    rw [q.hn]
    exact Nat.lt_of_mul_lt_mul_right h1
  have hvi : vs[i]? = some vs[i] := Array.getElem?_eq_getElem hi
  have h4 := (q.nest i _ hvi hh').1
  rw [hu] at h4
  injection h4 with h4
  refine fin0 ha hdst (v := u) ?_ (by unfold Rep; exact ⟨vs, q.hs, by rw [hvi, h4]⟩) (fun k' hk' => ?_) hK
  · simp [execOp, ho, hv, load1_run ht hc]
  · unfold men at hk'
    rcases hk' with rfl | rfl
    · exact (ha.usedL _ _ hL).1
    · exact (ha.usedL _ _ hL).2 _ rfl
theorem s_loadN1 {t : TypeId} {x : Operand} {k s i p e sz o' e2 sz2 z : Nat} {hh : Option Nat} {cs c2 : List C} {c : C} (ht : Ty P t false z) (hc : cs[i * sz + o']? = some (.sl sz2 c2)) (hh' : hh ≠ some i) (hd : c2[p]? = some c)
    (ha : AbsR cx ρ σ a w) (hds : evs σ true [x] = some [(.npt k s i p, some (.tree e sz o' e2 sz2 s hh cs))]) (ho : o.op = .load t x) (hdst : ∀ t, o.dst = some t → t < cx.N) (hK : ∀ a' w', Abs cx (σ.app o.dst (v0 (cdv c))) a' w' → K a' w') : o.wp P a w K Q := by
  obtain ⟨v, g, hv, hg, hb⟩ := npt_rd ha (evs1 hds) hc hh'
  obtain ⟨u, hu, hr⟩ := row_cell hb hg hd
  refine fin0 ha hdst (v := u) ?_ (RepL.map_cdv.rep_cdv hr) (fun k' hk' => (men_cdv k' hk').elim) hK
  simp [execOp, ho, hv, load1_run ht hu]
theorem s_loadNA {t : TypeId} {x : Operand} {k s i p e sz o' e2 sz2 z : Nat} {hh : Option Nat} {cs c2 : List C} (ht : Ty P t true z) (hc : cs[i * sz + o']? = some (.sl sz2 c2)) (hh' : hh ≠ some i) (hl : p + z ≤ c2.length)
    (ha : AbsR cx ρ σ a w) (hds : evs σ true [x] = some [(.npt k s i p, some (.tree e sz o' e2 sz2 s hh cs))]) (ho : o.op = .load t x) (hdst : ∀ t, o.dst = some t → t < cx.N) (hK : ∀ a' w', Abs cx (σ.app o.dst (v0 (.agg (((c2.drop p).take z).map cdv)))) a' w' → K a' w') : o.wp P a w K Q := by
  obtain ⟨v, g, hv, hg, hb⟩ := npt_rd ha (evs1 hds) hc hh'
  obtain ⟨us, u1, u2, u3⟩ := cells_of (w := w) (I := Imm cx σ ρ w) (cs := (c2.drop p).take z) (ad := ⟨g, p, none⟩) fun j c hj => by
    rw [List.getElem?_take] at hj
    split at hj
    · rw [List.getElem?_drop] at hj
      rw [add_at]
      exact row_cell hb hg hj
    · cases hj
  obtain ⟨r1, r2⟩ := RepL.map_cdv (ρ := ρ) u2
  refine fin0 ha hdst (v := .agg us.toArray) ?_ (by unfold Rep; exact ⟨_, rfl, r2, r1⟩) (fun k' hk' => (menL_cdv k' (by unfold men at hk'; exact hk')).elim) hK
  have := loadA_run (w := w) ht (ad := ⟨g, p, none⟩) (vs := us) (by rw [u1, List.length_take, List.length_drop]; omega) u3
  simp [execOp, ho, hv, this]
def renew (ρ : Nat → Value) (tk : Nat) (v : Value) : Nat → Value := fun k => if k = tk then v else ρ k
theorem fin1 (ha : AbsR cx ρ σ a w) (hdst : ∀ t, o.dst = some t → t < cx.N) {tk : Nat} (hf : σ.U tk = false) {lb : LB} {ks : List Nat} {d : DV} {v vn : Value} (hrun : (execOp a.eval o).run P w = .ok (.value v) w') (hk : cx.Kept w') (hsz : w.heap.size ≤ w'.heap.size)
    (hheap : ∀ b, b < w.heap.size → (∀ k ∈ ks, ∀ lb', σ.L k = some lb' → ¬ own ρ (ρ k) lb' b) → w'.heap[b]? = w.heap[b]?)
    (hblk : ∀ b, own (renew ρ tk vn) vn lb b → w.heap.size ≤ b ∨ ∃ k' ∈ ks, ∃ lb', σ.L k' = some lb' ∧ own ρ (ρ k') lb' b)
    (hnew : ∀ I' : Nat → Prop, (∀ b, Imm cx σ ρ w b → I' b ∧ w'.heap[b]? = w.heap[b]?) → LBok cx (renew ρ tk vn) I' w' vn lb ∧ Rep (renew ρ tk vn) I' w' d v)
    (hu : (∀ k', menB lb k' → σ.U k' = true) ∧ ∀ k', men d k' → σ.U k' = true ∨ k' = tk)
    (hnp : ∀ k', k' ∈ ks → cx.np ≤ k')
    (hK : ∀ a' w', Abs cx (σ.app o.dst (new1k tk lb ks d)) a' w' → K a' w') : o.wp P a w K Q := by
  unfold Oper.wp
  rw [hrun]
  have hl : ∀ k, (new1k tk lb ks d).l k = bif Nat.beq k tk then some (some lb) else (bif ks.any (Nat.beq k) then some none else none) := fun _ => rfl
  have hl1 : (new1k tk lb ks d).l tk = some (some lb) := by rw [hl]; simp
  have hl2 : ∀ k lb', (new1k tk lb ks d).l k = some (some lb') → k = tk ∧ lb' = lb := fun k lb' h => by
    rw [hl] at h
    cases hb : Nat.beq k tk with
    | true =>
      rw [hb] at h
      have := Nat.eq_of_beq_eq_true hb
      injection h with h
      injection h with h
      exact ⟨this, h.symm⟩
    | false =>
      rw [hb] at h
      simp only [cond_false] at h
      cases hc : ks.any (Nat.beq k) <;> rw [hc] at h <;> cases h
  have hl3 : ∀ k, k ∈ ks → (new1k tk lb ks d).l k ≠ none := fun k hk => by
    rw [hl]
    cases hb : Nat.beq k tk with
    | true => simp
    | false =>
      have : ks.any (Nat.beq k) = true := List.any_eq_true.2 ⟨k, hk, by simp⟩
      rw [this]; simp
  have hrt : renew ρ tk vn tk = vn := by simp [renew]
  have hro : ∀ k, σ.U k = true → renew ρ tk vn k = ρ k := fun k hk => by
    unfold renew
    split
    · rename_i h; subst h; rw [hf] at hk; cases hk
    · rfl
  refine hK _ _ ⟨renew ρ tk vn, ha.app hk hsz hdst hro (fun b hb h => hheap b hb fun k hk lb' hL => h k lb' (hl3 k hk) hL) (fun k lb' b h1 h2 => ?_) (fun k k' lb1 lb2 b h1 h2 _ _ => by rw [(hl2 k lb1 h1).1, (hl2 k' lb2 h2).1]) (fun hI _ => ?_) ⟨fun k lb' k' h1 h2 => ?_, fun d' k' h1 h2 => ?_⟩ (fun k lb' b h1 h2 h3 => ?_)⟩
  · obtain ⟨rfl, rfl⟩ := hl2 k lb' h1
    rw [hrt] at h2
    rcases hblk b h2 with h3 | ⟨k', h3, lb2, h4, h5⟩
    · exact .inl h3
    · exact .inr ⟨k', lb2, hl3 k' h3, h4, h5⟩
  · obtain ⟨h1, h2⟩ := hnew _ hI
    refine ⟨fun k lb' h => ?_, fun d' hd' => ?_⟩
    · obtain ⟨rfl, rfl⟩ := hl2 k lb' h
      rw [hrt]
      exact h1
    · have : d = d' := by simpa [new1k] using hd'
      subst this
      exact h2
  · obtain ⟨rfl, rfl⟩ := hl2 k lb' h1
    exact .inl (hu.1 k' h2)
  · have : d = d' := by simpa [new1k] using h1
    subst this
    rcases hu.2 k' h2 with h3 | h3
    · exact .inl h3
    · subst h3
      exact .inr (by rw [hl1]; simp)
  · obtain ⟨rfl, rfl⟩ := hl2 k lb' h1
    rw [hrt] at h3
    rcases hblk b h3 with h4 | ⟨k', h4, lb2, h5, h6⟩
    · exact .inl (Nat.le_trans ha.kept.2.2.2.1 h4)
    · exact ha.fresh k' lb2 b h5 (hnp k' h4) h6
theorem new1_eq (tk : Nat) (lb : LB) (d : DV) : new1 tk lb d = new1k tk lb [] d := rfl
theorem RepL.ofVals {I : Nat → Prop} : ∀ (vs : List Value), (∀ u ∈ vs, okVb u = true) → RepL ρ I w (vs.map DV.val) vs
  | [], _ => by simp [RepL]
  | v :: vs, hok => by
    simp only [List.map_cons]
    unfold RepL
    exact ⟨v, vs, rfl, rep_val (hok v (List.mem_cons_self ..)), RepL.ofVals vs fun u hu => hok u (List.mem_cons_of_mem _ hu)⟩
theorem menL_vals : ∀ (vs : List Value) (k : Nat), menL (vs.map DV.val) k → False
  | [], k, h => by unfold List.map menL at h; exact h
  | v :: vs, k, h => by
    simp only [List.map_cons] at h
    unfold menL at h
    rcases h with h | h
    · unfold men at h; exact h
    · exact menL_vals vs k h
theorem s_alloc {t : TypeId} {z : List Value} {tk : Nat} (h : Zt P t z) (ha : AbsR cx ρ σ a w) (ho : o.op = .alloc t) (hf : σ.U tk = false) (hdst : ∀ t, o.dst = some t → t < cx.N) (hK : ∀ a' w', Abs cx (σ.app o.dst (new1 tk (.box (z.map .val) t) (.ptr tk 0))) a' w' → K a' w') : o.wp P a w K Q := by
  obtain ⟨v, h1, h2, h3⟩ := h
  have hz : (zeroValue t).run P w = .ok v w := by
    cases hi : P.info? t with
    | none => rw [hi] at h1; cases h1
    | some i =>
      rw [hi] at h1
      have : i.zero = some v := h1
      simp [zeroValue, typeInfo, hi, this]
  rw [new1_eq] at hK
  refine fin1 (lb := .box (z.map .val) t) (ks := []) (d := .ptr tk 0) (w' := w.alloc (.cells v.cells t)) ha hdst hf (v := .pointer (some ⟨w.heap.size, 0, none⟩)) (vn := .pointer (some ⟨w.heap.size, 0, none⟩)) ?_ (ha.kept.alloc _) (by simp) (fun b hb _ => Below.heap_alloc w _ b hb) (fun b hb => .inl (by simp [own, blkOf] at hb; omega)) (fun I' hI => ⟨?_, ?_⟩) ⟨fun k' hk' => (menL_vals _ k' hk').elim, fun k' hk' => .inr (by unfold men at hk'; exact hk')⟩ (fun k' hk' => by simp at hk') hK
  · simp [execOp, ho, Instr.alloc, hz, newVar, newRow]
  · refine ⟨w.heap.size, z, rfl, ?_, .inl ha.kept.2.2.2.1, fun u hu => (h3 u hu).1, RepL.ofVals z fun u hu => (h3 u hu).2⟩
    rw [heap_alloc_new]
    rw [← h2]
  · unfold Rep
    exact ⟨w.heap.size, by simp [renew, blkOf], rfl⟩
theorem dcells_rep {I : Nat → Prop} {d : DV} {v : Value} (h : Rep ρ I w d v) (ho : (dcells d).all okC = true) : ∃ us, v.cells.toList = us ∧ RepL ρ I w (dcells d) us ∧ ∀ u ∈ us, u.oneCell' = true := by
  have one : v.oneCell' = true → dcells d = [d] → ∃ us, v.cells.toList = us ∧ RepL ρ I w (dcells d) us ∧ ∀ u ∈ us, u.oneCell' = true := fun h1 h2 => by
    refine ⟨[v], ?_, ?_, fun u hu => by simp at hu; subst hu; exact h1⟩
    · cases v <;> first | rfl | cases h1
    · rw [h2]
      unfold RepL
      exact ⟨v, [], rfl, h, by simp [RepL]⟩
  cases d with
  | val x =>
    have h' := h
    unfold Rep at h'
    obtain ⟨h', -⟩ := h'
    subst h'
    exact one (by simpa [dcells, okC] using ho) rfl
  | sl sz cs =>
    have h' := h
    unfold Rep at h'
    obtain ⟨A, n, c, e, -⟩ := h'.slice
    exact one (by rw [e]; rfl) rfl
  | slc sz cs =>
    have h' := h
    unfold Rep at h'
    obtain ⟨-, A, n, e, -⟩ := h'
    exact one (by rw [e]; rfl) rfl
  | mp l =>
    have h' := h
    unfold Rep RdC at h'
    obtain ⟨g, e, -⟩ := h'
    exact one (by rw [e]; rfl) rfl
  | nst k s i => simp [dcells, okC] at ho
  | npt k s i p => simp [dcells, okC] at ho
  | qpt k i => simp [dcells, okC] at ho
  | row k =>
    have h' := h
    unfold Rep at h'
    exact one (by rw [h'.1]; exact h'.2) rfl
  | part k off n =>
    have h' := h
    unfold Rep at h'
    obtain ⟨A, c, e, -⟩ := h'
    exact one (by rw [e]; rfl) rfl
  | ptr k i =>
    have h' := h
    unfold Rep at h'
    obtain ⟨g, -, e⟩ := h'
    exact one (by rw [e]; rfl) rfl
  | elt cs =>
    have h' := h
    unfold Rep at h'
    obtain ⟨ad, e, -⟩ := h'
    exact one (by rw [e]; rfl) rfl
  | agg ds =>
    unfold Rep at h
    obtain ⟨vs, rfl, h1, h2⟩ := h
    exact ⟨vs, by simp [Value.cells], h2, h1⟩
  | tup ds => simp [dcells, okC] at ho
  | clo f n ds =>
    have h' := h
    unfold Rep at h'
    obtain ⟨vs, e, -⟩ := h'
    exact one (by rw [e]; rfl) rfl
theorem men_cells {d : DV} {k : Nat} (h : menL (dcells d) k) : men d k := by
  cases d with
  | agg ds => unfold men; exact h
  | _ =>
    have h' : menL [_] k := h
    unfold menL menL at h'
    rcases h' with h' | h'
    · exact h'
    · exact h'.elim
theorem s_box {t : TypeId} {x : Operand} {d : DV} {b : Option LB} {tk : Nat} {tc : Bool} (hoc : (dcells d).all okC = true) (ha : AbsR cx ρ σ a w) (hds : evs σ tc [x] = some [(d, b)]) (ho : o.op = .box t x) (hf : σ.U tk = false) (hdst : ∀ t, o.dst = some t → t < cx.N) (hK : ∀ a' w', Abs cx (σ.app o.dst (new1 tk (.box (dcells d) t) (.ptr tk 0))) a' w' → K a' w') : o.wp P a w K Q := by
  obtain ⟨h1, h2, -⟩ := ev_rep ha (evs1 hds)
  obtain ⟨us, e1, e2, e3⟩ := dcells_rep h1 hoc
  rw [new1_eq] at hK
  refine fin1 (lb := .box (dcells d) t) (ks := []) (d := .ptr tk 0) (w' := w.alloc (.cells (a.eval x).cells t)) ha hdst hf (v := .pointer (some ⟨w.heap.size, 0, none⟩)) (vn := .pointer (some ⟨w.heap.size, 0, none⟩)) ?_ (ha.kept.alloc _) (by simp) (fun b hb _ => Below.heap_alloc w _ b hb) (fun b hb => .inl (by simp [own, blkOf] at hb; omega)) (fun I' hI => ⟨?_, ?_⟩) ⟨fun k' hk' => h2 k' (men_cells hk'), fun k' hk' => .inr (by unfold men at hk'; exact hk')⟩ (fun k' hk' => by simp at hk') hK
  · simp [execOp, ho, Instr.box, newVar, newRow]
  · refine ⟨w.heap.size, us, rfl, ?_, .inl ha.kept.2.2.2.1, e3, RepL.step hI _ _ (fun k hk => ?_) e2⟩
    · rw [heap_alloc_new, ← e1]
    · have := h2 k (men_cells hk)
      unfold renew
      split
      · rename_i h; subst h; rw [hf] at this; cases this
      · rfl
  · unfold Rep
    exact ⟨w.heap.size, by simp [renew, blkOf], rfl⟩
end
end Go.Proofs.Ytfkgbfhpibiheaa
