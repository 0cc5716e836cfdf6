import Derived.Test.YtopkgllcjbpdeaaDoorEF
import Derived.ChangeKeysEq
set_option linter.unusedVariables false
set_option linter.unusedSimpArgs false
namespace Go.Proofs.YtopkgllcjbpdeaaDoor
open Go.RowKit
section
variable {P : Program} {np tk : Nat} {ty : TypeId} {env : Wh} {α : Type} {f : α -> List C} {t e sz bytes : Nat}
end
theorem qX {P : Program} {t : TypeId} {k : IntKind} (h : P.underlying t = some (.int k)) : Yu P t (fun x : Int => Value.int k x) := by
 refine ⟨fun e x w => ?_, fun x es xs w hes => ?_, fun x => ?_⟩
 ·exact Go.MapKept.run_checkKey (k := .int k x) h rfl e 9999
 ·have key : ∀ (es : List MapEntry) (xs : List Int) (i : Nat), es.map (·.key) = xs.map (fun x => Value.int k x) -> (Instr.findNow (.int k) (.int k x) es i = some none /\ x ∉ xs) \/ ∃ j e, Instr.findNow (.int k) (.int k x) es i = some (some (i + j, e.val)) /\ es[j]? = some e /\ e.key = .int k x /\ xs[j]? = some x /\ ∀ j', j' < j -> xs[j']? ≠ some x := by
   intro es
   induction es with
   | nil =>
    intro xs i h
    cases xs with
    | nil => exact .inl ⟨rfl, by simp⟩
    | cons y ys => simp at h
   | cons e es ih =>
    intro xs i h
    cases xs with
    | nil => simp at h
    | cons y ys =>
     simp only [List.map_cons, List.cons.injEq] at h
     obtain ⟨h1, h2⟩ := h
     by_cases hxy : x = y
     ·subst hxy
      refine .inr ⟨0, e, ?_, rfl, h1, rfl, fun j' hj' => by omega⟩
      simp [Instr.findNow, Instr.sameNow, h1]
     ·have hf : Instr.findNow (.int k) (.int k x) (e :: es) i = Instr.findNow (.int k) (.int k x) es (i + 1) := by
       have hb : (x == y) = false := by simpa using hxy
       simp only [Instr.findNow, Instr.sameNow, h1, if_true, hb]
      rw [hf]
      rcases ih ys (i + 1) h2 with ⟨q1, q2⟩ | ⟨j, e', q1, q2, q3, q4, q5⟩
      ·exact .inl ⟨q1, by simp [hxy, q2]⟩
      ·refine .inr ⟨j + 1, e', by rw [q1]; congr 3; omega, by simpa using q2, q3, by simpa using q4, fun j' hj' => ?_⟩
       cases j' with
       | zero => simp; exact fun h => hxy h.symm
       | succ j' => simpa using q5 j' (by omega)
  rcases key es xs 0 hes with ⟨q1, q2⟩ | ⟨j, e, q1, q2, q3, q4, q5⟩
  ·exact ⟨none, by simp [Instr.findKey, run_underlying h, q1], q2⟩
  ·refine ⟨some (j, e.val), ?_, e, q2, rfl, q3, q4, q5⟩
   rw [Nat.zero_add] at q1
   simp [Instr.findKey, run_underlying h, q1]
 ·simp [Instr.sameBits]
abbrev vI (k : IntKind) (x : Int) : Value := .int k x
abbrev vB (x : Bool) : Value := .bool x
def eM {κ ν : Type} (f : κ -> Value) (g : ν -> Value) (l : List (κ × ν)) : List C := [.mp (Pv f g l)]
theorem qD {P : Program} {t : TypeId} {v : Value} (h : (P.info? t).bind (·.zero) = some v) (w : World) : (zeroValue t).run P w = .ok v w := by
 cases hi : P.info? t with
 | none => rw [hi] at h; cases h
 | some i =>
  rw [hi] at h
  have : i.zero = some v := h
  simp [zeroValue, typeInfo, hi, this]
section
variable {P : Program} {np tk : Nat} {ty : TypeId} {env : Wh} {κ ν : Type} [DecidableEq κ] {f : κ -> Value} {g : ν -> Value} {t kt vt k : Nat} {x i : Operand} {b bk bv : Option LB} {kd vd : DV} {l : List (κ × ν)} {key : κ} {z v : ν}
theorem gY (ht : P.underlying t = some (.map kt vt)) (hK : Yu P kt f) (hz : ∀ w, (zeroValue vt).run P w = .ok (g z) w) (hzk : Du (g z) = true) (hk : Ib kd = some (f key)) (hm : (k, some (.map (Pv f g l))) ∈ env) :
  ExtR P np tk (.lookup t x i false) ty [(.row k, b), (kd, bk)] env [] (fun e => e = v0 (.val (g (Ff l key z)))) := .lookR (ok := false) ht hK hz hzk hm hk
theorem fR {y' : Operand} (ht : P.underlying t = some (.map kt vt)) (hK : Yu P kt f) (hk : Ib kd = some (f key)) (hv : Ib vd = some (g v)) (hm : (k, some (.map (Pv f g l))) ∈ env) :
  ExtR P np tk (.mapUpdate t x i y') ty [(.row k, b), (kd, bk), (vd, bv)] env [k] (fun e => e = Ph k (.map (Pv f g (Hw l key v))) none) := .put ht hK hm hk hv
end
end Go.Proofs.YtopkgllcjbpdeaaDoor
