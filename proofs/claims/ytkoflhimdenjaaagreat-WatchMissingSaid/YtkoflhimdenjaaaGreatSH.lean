import Derived.Test.YtkoflhimdenjaaaGreatM1
set_option linter.unusedVariables false
set_option linter.unusedSimpArgs false
namespace Go.Proofs.YtkoflhimdenjaaaGreat
open Go
theorem fB (c : Ai) (h : fP c) : Gt c = some (bif G5 c then 0 else 9) := by
 unfold Gt
 rw [fF c h, Option.bind_some]
 cases G5 c <;> rfl
def sV (id : Int) : Bool := decide (id < 0) || decide (2147483648 < id)
def Xe (key : Aw) (id : Int) : List Ai -> Bool
 | [] => true
 | c :: _ => decide (c.Key = key) && decide (c.KeyId = id)
def Vj (key : Aw) (id : Int) (l : List Ai) : Bool := Pe key 2 && (!sV id && (!decide (8 < (l.length : Int)) && (!l.any (fun c => !G5 c) && Xe key id l)))
theorem nC (key : Aw) (id : Int) (l : List Ai) :
  (cond (decide ((l.length : Int) = 0)) (some true) ((B3 l 0).bind fun e_2 => cond (decide (e_2.Key = key)) (some (decide (e_2.KeyId = id))) (some false))) = some (Xe key id l) := by
 cases l with
 | nil => rfl
 | cons c l =>
  rw [decide_eq_false (by simp only [List.length_cons]; omega), cond_false]
  show cond (decide (c.Key = key)) (some (decide (c.KeyId = id))) (some false) = some (decide (c.Key = key) && decide (c.KeyId = id))
  cases decide (c.Key = key) <;> rfl
theorem jZ (key : Aw) (id : Int) (l : List Ai) (hf : ∀ c ∈ l, fP c) : B0 key id l = some (Vj key id l) := by
 unfold B0 Vj Pe
 rw [Vb, Option.bind_some, T5, Option.bind_some, Ws, Option.bind_some]
 have h1 : B0.j1 key id l true = some false := rfl
 have h0 : ¬ (8 < (l.length : Int)) -> B0.j1 key id l false = some (!l.any (fun c => !G5 c) && Xe key id l) := fun h8 => by
  unfold B0.j1
  rw [cond_false]
  refine (dE l (fun c => !G5 c) false (Xe key id l) (lR (by omega)) (fun i c hc => ?_) ?_).trans ?_
  ·show B0.l2 key id l (i : Int) = _
   unfold B0.l2
   rw [H7 hc, fB c (hf c (Ho hc)), Option.bind_some]
   cases G5 c <;> rfl
  ·show B0.l2 key id l (l.length : Int) = _
   unfold B0.l2
   rw [E9, nC]
   rfl
  ·cases l.any (fun c => !G5 c) <;> rfl
 cases decide (0 < N5 key) with
 | false => rw [Bool.not_false, cond_true, h1]; rfl
 | true =>
  rw [Bool.not_true, cond_false]
  cases decide (P9 key.Alg = 2) with
  | false => rw [Bool.not_false, cond_true, h1]; rfl
  | true =>
   rw [Bool.not_true, cond_false]
   show cond (!!sV id) _ _ = _
   cases sV id with
   | true => rw [Bool.not_not, cond_true, h1]; rfl
   | false =>
    rw [Bool.not_not, cond_false]
    by_cases h8 : 8 < (l.length : Int)
    ·rw [decide_eq_true h8, h1]; rfl
    ·rw [decide_eq_false h8, h0 h8]; rfl
end Go.Proofs.YtkoflhimdenjaaaGreat
