import Derived.Test.YtjomajedgbcngaaEF
import Derived.ChangeKeysEq
set_option linter.unusedVariables false
set_option linter.unusedSimpArgs false
namespace Go.Proofs.Ytjomajedgbcngaa
open Go.RowKit
section
variable {P : Program} {np tk : Nat} {ty : TypeId} {env : V1} {α : Type} {f : α -> List C} {t e sz bytes : Nat}
theorem S9 (hf : ∀ x, (f x).length = sz) (z : α) : ∀ m, Az f (List.replicate m z) = (List.replicate m (f z)).flatten
 | 0 => rfl
 | m + 1 => by
  rw [List.replicate_succ, List.replicate_succ, List.flatten_cons, <- S9 hf z m]
  rfl
theorem Zl (hf : ∀ x, (f x).length = sz) (l : List α) (n : Nat) : (Az f l).drop (n * sz) = Az f (l.drop n) := by
 induction n generalizing l with
 | zero => simp
 | succ n ih =>
  cases l with
  | nil => simp [Az]
  | cons x l =>
   have : Az f (x :: l) = f x ++ Az f l := rfl
   rw [this, Nat.succ_mul, List.drop_append, hf, List.drop_of_length_le (by rw [hf]; omega), List.nil_append, Nat.add_sub_cancel]
   exact ih l
theorem Y5 (hf : ∀ x, (f x).length = sz) (l : List α) (n : Nat) : (Az f l).take (n * sz) = Az f (l.take n) := by
 induction n generalizing l with
 | zero => simp [Az]
 | succ n ih =>
  cases l with
  | nil => simp [Az]
  | cons x l =>
   have e1 : Az f (x :: l) = f x ++ Az f l := rfl
   have e2 : Az f ((x :: l).take (n + 1)) = f x ++ Az f (l.take n) := rfl
   rw [e1, e2, Nat.succ_mul, Nat.add_comm, List.take_append, List.take_of_length_le (by rw [hf]; omega), hf, Nat.add_sub_cancel_left, ih l]
theorem gW {z : List Value} {ck : List (Option Nat)} {z0 : α} (hz : Zt P e z) (hd : Im ck (z.map DV.val) (f z0)) : Xk P e (f z0) := ⟨z, ck, hz, hd⟩
theorem fK {x : Operand} {k a m : Nat} {b : Option LB} {l r : List α} {z0 : α} (hS : G4 P t e sz bytes) (hf : ∀ x, (f x).length = sz) (hz : Xk P e (f z0)) (hL : (k, some (.row e sz (Az f l))) ∈ env) (h : bQ l a m z0 = some r) :
  ExtR P np tk (.call ⟨.builtin .clear, #[x], #[t]⟩) ty [(.part k (a * sz) m, b)] env [k] (fun e' => e' = R0 k (.row e sz (Az f r)) (some (.tup []))) := by
 obtain ⟨h1, rfl⟩ := Z5 h
 have := ExtR.clearP (np := np) (tk := tk) (x := x) (ty := ty) (b := b) (off := a * sz) (m := m) hS hz hL (by rw [Fk hf, <- Nat.add_mul]; exact Nat.mul_le_mul_right _ h1)
 have e1 : C1 (Az f l) (a * sz) (List.replicate m (f z0)).flatten = Az f (l.take a ++ List.replicate m z0 ++ l.drop (a + m)) := by
  unfold C1
  rw [<- S9 hf, Fk hf, Y5 hf, List.length_replicate, <- Nat.add_mul, Zl hf, Ie, Ie]
 rwa [e1] at this
theorem iA {x y : Operand} {tn : TypeId} {k kn : IntKind} {n : Int} {b b' : Option LB} {l : List α} {z0 : α} {kk : Nat} (hS : G4 P t e sz bytes) (htn : P.underlying tn = some (.int kn)) (hf : ∀ x, (f x).length = sz) (hz : Xk P e (f z0)) (h : cM kk n z0 = some l) (hk : bytes = kk) :
  ExtR P np tk (.call ⟨.builtin .append, #[x, y], #[t, tn]⟩) ty [(.val (.slice none 0 0), b), (.val (.int k n), b')] env [] (fun e' => e' = Ky tk (.row e sz (Az f l)) (.row tk)) := by
 obtain ⟨m, rfl, h0, h1, h2, rfl⟩ := Zp h
 have := ExtR.appZ (P := P) (np := np) (tk := tk) (x := x) (y := y) (ty := ty) (env := env) (k := k) (b := b) (b' := b') hS htn hz (m := m) rfl h0 ⟨by rw [hk]; exact h1, h2⟩
 rwa [<- S9 hf] at this
theorem cZ {x : Operand} {b : Option LB} (hS : G4 P t e sz bytes) : Eb P tk (.call ⟨.builtin .cap, #[x], #[t]⟩) ty [(.val (.slice none 0 0), b)] [] (v0 (.val (.int .i64 0))) := .callV1 (fun _ => rfl) (fun w cs => by
 have h1 := hS.ht
 simp [builtin, Builtin.cap_, run_underlying h1, goInt])
theorem bC {x hi : Operand} {k : IntKind} {b b' : Option LB} (hS : G4 P t e sz bytes) : Eb P tk (.slice t x none (some hi) none) ty [(.val (.slice none 0 0), b), (.val (.int k 0), b')] [] (v0 (.val (.slice none 0 0))) := .sliceS2 (fun _ => rfl) (fun w => by
 have h1 := hS.ht
 obtain ⟨it, zv, y1, y2, y3, y4, y5⟩ := hS.hi
 simp [Instr.sliceAt, Instr.slice, Instr.sliceBounds, Instr.sliceBound, asIntOf, sizeOf, typeInfo, y1, run_underlying h1])
end
section
variable {P : Program} {np tk : Nat} {ty : TypeId} {env : V1} {κ ν : Type} [DecidableEq κ] {f : κ -> Value} {g : ν -> Value} {t kt vt k : Nat} {x i : Operand} {b bk bv : Option LB} {kd vd : DV} {l : List (κ × ν)} {key : κ} {z v : ν}
end
theorem Xm (a b : ByteArray) : (a.toList = b.toList) = (a = b) := by
 refine propext ⟨fun e => ?_, fun e => by rw [e]⟩
 rw [ByteArray.toList_eq, ByteArray.toList_eq] at e
 cases a; cases b
 congr
 exact Array.toList_inj.1 e
end Go.Proofs.Ytjomajedgbcngaa
