/- Rules of the second kind, with what the plain functions compute. -/
import Derived.Test.YtkpcbnnlefcebaaEF
import Derived.ChangeKeysEq
set_option linter.unusedVariables false
set_option linter.unusedSimpArgs false
namespace Go.Proofs.Ytkpcbnnlefcebaa
open Go.RowKit
section
variable {P : Program} {np tk : Nat} {ty : TypeId} {env : Env} {α : Type} {f : α → List C} {t e sz bytes : Nat}
theorem enc_rep_ (hf : ∀ x, (f x).length = sz) (z : α) : ∀ m, encL f (List.replicate m z) = (List.replicate m (f z)).flatten
  | 0 => rfl
  | m + 1 => by
    rw [List.replicate_succ, List.replicate_succ, List.flatten_cons, ← enc_rep_ hf z m]
    rfl
theorem enc_drop_ (hf : ∀ x, (f x).length = sz) (l : List α) (n : Nat) : (encL f l).drop (n * sz) = encL f (l.drop n) := by
  induction n generalizing l with
  | zero => simp
  | succ n ih =>
    cases l with
    | nil => simp [encL]
    | cons x l =>
      have : encL f (x :: l) = f x ++ encL f l := rfl
      rw [this, Nat.succ_mul, List.drop_append, hf, List.drop_of_length_le (by rw [hf]; omega), List.nil_append, Nat.add_sub_cancel]
      exact ih l
theorem enc_take_ (hf : ∀ x, (f x).length = sz) (l : List α) (n : Nat) : (encL f l).take (n * sz) = encL f (l.take n) := by
  induction n generalizing l with
  | zero => simp [encL]
  | succ n ih =>
    cases l with
    | nil => simp [encL]
    | cons x l =>
      have e1 : encL f (x :: l) = f x ++ encL f l := rfl
      have e2 : encL f ((x :: l).take (n + 1)) = f x ++ encL f (l.take n) := rfl
      rw [e1, e2, Nat.succ_mul, Nat.add_comm, List.take_append, List.take_of_length_le (by rw [hf]; omega), hf, Nat.add_sub_cancel_left, ih l]
theorem zt_of {z : List Value} {ck : List (Option Nat)} {z0 : α} (hz : Zt P e z) (hd : DcsE ck (z.map DV.val) (f z0)) : ZtC' P e (f z0) := ⟨z, ck, hz, hd⟩
theorem x_clear {x : Operand} {k a m : Nat} {b : Option LB} {l r : List α} {z0 : α} (hS : SlT P t e sz bytes) (hf : ∀ x, (f x).length = sz) (hz : ZtC' P e (f z0)) (hL : (k, some (.row e sz (encL f l))) ∈ env) (h : clrI l a m z0 = some r) :
    ExtR P np tk (.call ⟨.builtin .clear, #[x], #[t]⟩) ty [(.part k (a * sz) m, b)] env [k] (fun e' => e' = wrtD k (.row e sz (encL f r)) (some (.tup []))) := by
  obtain ⟨h1, rfl⟩ := clrI_some h
  have := ExtR.clearP (np := np) (tk := tk) (x := x) (ty := ty) (b := b) (off := a * sz) (m := m) hS hz hL (by rw [encL_len hf, ← Nat.add_mul]; exact Nat.mul_le_mul_right _ h1)
  have e1 : splice (encL f l) (a * sz) (List.replicate m (f z0)).flatten = encL f (l.take a ++ List.replicate m z0 ++ l.drop (a + m)) := by
    unfold splice
    rw [← enc_rep_ hf, encL_len hf, enc_take_ hf, List.length_replicate, ← Nat.add_mul, enc_drop_ hf, encL_append, encL_append]
  rwa [e1] at this
end
section
variable {P : Program} {np tk : Nat} {ty : TypeId} {env : Env} {κ ν : Type} [DecidableEq κ] {f : κ → Value} {g : ν → Value} {t kt vt k : Nat} {x i : Operand} {b bk bv : Option LB} {kd vd : DV} {l : List (κ × ν)} {key : κ} {z v : ν}
end
end Go.Proofs.Ytkpcbnnlefcebaa
