import Derived.Test.YtfkgbfhpibiheaaEF
import Derived.ChangeKeysEq
set_option linter.unusedVariables false
set_option linter.unusedSimpArgs false
namespace Go.Proofs.Ytfkgbfhpibiheaa
open Go.RowKit
section
variable {P : Program} {np tk : Nat} {ty : TypeId} {env : Vw} {α : Type} {f : α -> List C} {t e sz bytes : Nat}
theorem Y6 (hf : ∀ x, (f x).length = sz) (z : α) : ∀ m, As f (List.replicate m z) = (List.replicate m (f z)).flatten
 | 0 => rfl
 | m + 1 => by
  rw [zS, zS, aA1, <- Y6 hf z m]
  rfl
theorem fR (hf : ∀ x, (f x).length = sz) (l : List α) (n : Nat) : (As f l).drop (n * sz) = As f (l.drop n) := by
 induction n generalizing l with
 | zero => simp
 | succ n ih =>
  cases l with
  | nil => simp [As]
  | cons x l =>
   have : As f (x :: l) = f x ++ As f l := rfl
   rw [this, Nat.succ_mul, List.drop_append, hf, List.drop_of_length_le (by rw [hf]; omega), aBi, Nat.add_sub_cancel]
   exact ih l
theorem fQ (hf : ∀ x, (f x).length = sz) (l : List α) (n : Nat) : (As f l).take (n * sz) = As f (l.take n) := by
 induction n generalizing l with
 | zero => simp [As]
 | succ n ih =>
  cases l with
  | nil => simp [As]
  | cons x l =>
   have e1 : As f (x :: l) = f x ++ As f l := rfl
   have e2 : As f ((x :: l).take (n + 1)) = f x ++ As f (l.take n) := rfl
   rw [e1, e2, Nat.succ_mul, Nat.add_comm, aA4, yG (by rw [hf]; omega), hf, zQ, ih l]
theorem tD {z : List Value} {ck : List (Option Nat)} {z0 : α} (hz : Zt P e z) (hd : Fb ck (z.map DV.val) (f z0)) : fU P e (f z0) := ⟨z, ck, hz, hd⟩
theorem mD {x : Operand} {k a m : Nat} {b : Option LB} {l r : List α} {z0 : α} (hS : Fs P t e sz bytes) (hf : ∀ x, (f x).length = sz) (hz : fU P e (f z0)) (hL : (k, some (.row e sz (As f l))) ∈ env) (h : gW l a m z0 = some r) :
  ExtR P np tk (.call ⟨.builtin .clear, #[x], #[t]⟩) ty [(.part k (a * sz) m, b)] env [k] (fun e' => e' = O2 k (.row e sz (As f r)) (some (.tup []))) := by
 obtain ⟨h1, rfl⟩ := dX h
 have := ExtR.clearP (np := np) (tk := tk) (x := x) (ty := ty) (b := b) (off := a * sz) (m := m) hS hz hL (by rw [D5 hf, <- zJ]; exact yZ _ h1)
 have e1 : Ca (As f l) (a * sz) (List.replicate m (f z0)).flatten = As f (l.take a ++ List.replicate m z0 ++ l.drop (a + m)) := by
  unfold Ca
  rw [<- Y6 hf, D5 hf, fQ hf, aAi, <- zJ, fR hf, F7, F7]
 rwa [e1] at this
end
section
variable {P : Program} {np tk : Nat} {ty : TypeId} {env : Vw} {κ ν : Type} [DecidableEq κ] {f : κ -> Value} {g : ν -> Value} {t kt vt k : Nat} {x i : Operand} {b bk bv : Option LB} {kd vd : DV} {l : List (κ × ν)} {key : κ} {z v : ν}
end
end Go.Proofs.Ytfkgbfhpibiheaa
