/- Rules of the second kind, with what the plain functions compute. -/
import Derived.Test.YtbeageaekgccgaaGreatEF
set_option linter.unusedVariables false
set_option linter.unusedSimpArgs false
namespace Go.Proofs.YtbeageaekgccgaaGreat
open Go.RowKit
section
variable {P : Program} {np tk : Nat} {ty : TypeId} {env : Env} {α : Type} {f : α → List C} {t e sz bytes : Nat}
theorem enc_rep_ (hf : ∀ x, (f x).length = sz) (z : α) : ∀ m, encL f (List.replicate m z) = (List.replicate m (f z)).flatten
  | 0 => rfl
  | m + 1 => by
    rw [List.replicate_succ, List.replicate_succ, List.flatten_cons, ← enc_rep_ hf z m]
    rfl
theorem zt_of {z : List Value} {ck : List (Option Nat)} {z0 : α} (hz : Zt P e z) (hd : DcsE ck (z.map DV.val) (f z0)) : ZtC' P e (f z0) := ⟨z, ck, hz, hd⟩
theorem x_copy {x y : Operand} {t' k : Nat} {b b' : Option LB} {l m r : List α} (hS : SlT P t e sz bytes) (hS' : SlT P t' e sz bytes) (hf : ∀ x, (f x).length = sz) (hL : (k, some (.row e sz (encL f l))) ∈ env) (h : cpyI l m = some r) :
    ExtR P np tk (.call ⟨.builtin .copy, #[x, y], #[t, t']⟩) ty [(.row k, b), (.sl sz (encL f m), b')] env [k] (fun e' => e' = wrtD k (.row e sz (encL f r)) (some (.val (.int .i64 (l.length : Int))))) := by
  obtain ⟨h1, rfl⟩ := cpyI_some h
  exact .copyR hS hS' hL ⟨_, rfl⟩ (encL_len hf l) (by rw [encL_len hf, h1])
theorem x_make {x y : Operand} {k k' : IntKind} {n c : Int} {b b' : Option LB} {l : List α} {z0 : α} {kk : Nat} (hS : SlT P t e sz bytes) (hf : ∀ x, (f x).length = sz) (hz : ZtC' P e (f z0)) (hxy : x ≠ y) (h : makC kk n c z0 = some l) (hk : bytes = kk) :
    ExtR P np tk (.makeSlice t x y) ty [(.val (.int k n), b), (.val (.int k' c), b')] env [] (fun e' => e' = new1 tk (.row e sz (encL f l)) (.row tk)) := by
  obtain ⟨m, cap, rfl, rfl, h1, h2, h3, rfl⟩ := makC_some h
  have := ExtR.makeC (P := P) (np := np) (tk := tk) (x := x) (y := y) (ty := ty) (env := env) (k := k) (k' := k') (b := b) (b' := b') hS hz (m := m) rfl (cap := cap) rfl h1 hxy ⟨by rw [hk]; exact h2, h3⟩
  rwa [← enc_rep_ hf] at this
end
section
variable {P : Program} {np tk : Nat} {ty : TypeId} {env : Env} {κ ν : Type} [DecidableEq κ] {f : κ → Value} {g : ν → Value} {t kt vt k : Nat} {x i : Operand} {b bk bv : Option LB} {kd vd : DV} {l : List (κ × ν)} {key : κ} {z v : ν}
end
end Go.Proofs.YtbeageaekgccgaaGreat
