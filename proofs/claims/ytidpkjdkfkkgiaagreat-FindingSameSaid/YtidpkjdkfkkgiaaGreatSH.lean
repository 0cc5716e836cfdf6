import Derived.Test.YtidpkjdkfkkgiaaGreatM1
set_option linter.unusedVariables false
set_option linter.unusedSimpArgs false
namespace Go.Proofs.YtidpkjdkfkkgiaaGreat
open Go
theorem gG (c : Af) (h : iM c) : Hh c = some (bif Gx c then 0 else 9) := by
 unfold Hh
 rw [hQ c h, Option.bind_some]
 cases Gx c <;> rfl
def tY (id : Int) : Bool := decide (id < 0) || decide (2147483648 < id)
def Xs (key : As) (id : Int) : List Af -> Bool
 | [] => true
 | c :: _ => decide (c.Key = key) && decide (c.KeyId = id)
def Tj (key : As) (id : Int) (l : List Af) : Bool := Mb key 2 && (!tY id && (!decide (8 < (l.length : Int)) && (!l.any (fun c => !Gx c) && Xs key id l)))
theorem oJ (key : As) (id : Int) (l : List Af) :
  (cond (decide ((l.length : Int) = 0)) (some true) ((B1 l 0).bind fun e_2 => cond (decide (e_2.Key = key)) (some (decide (e_2.KeyId = id))) (some false))) = some (Xs key id l) := by
 cases l with
 | nil => rfl
 | cons c l =>
  rw [decide_eq_false (by simp only [List.length_cons]; omega), cond_false]
  show cond (decide (c.Key = key)) (some (decide (c.KeyId = id))) (some false) = some (decide (c.Key = key) && decide (c.KeyId = id))
  cases decide (c.Key = key) <;> rfl
theorem lB (key : As) (id : Int) (l : List Af) (hf : ∀ c ∈ l, iM c) : Bn key id l = some (Tj key id l) := by
 unfold Bn Tj Mb
 rw [Mt, Option.bind_some, Po, Option.bind_some, Xj, Option.bind_some]
 have h1 : Bn.j1 key id l true = some false := rfl
 have h0 : ¬ (8 < (l.length : Int)) -> Bn.j1 key id l false = some (!l.any (fun c => !Gx c) && Xs key id l) := fun h8 => by
  unfold Bn.j1
  rw [cond_false]
  refine (T1 l (fun c => !Gx c) false (Xs key id l) (pE (by omega)) (fun i c hc => ?_) ?_).trans ?_
  ·show Bn.l2 key id l (i : Int) = _
   unfold Bn.l2
   rw [H8 hc, gG c (hf c (Ja hc)), Option.bind_some]
   cases Gx c <;> rfl
  ·show Bn.l2 key id l (l.length : Int) = _
   unfold Bn.l2
   rw [Ge, oJ]
   rfl
  ·cases l.any (fun c => !Gx c) <;> rfl
 cases decide (0 < K0 key) with
 | false => rw [Bool.not_false, cond_true, h1]; rfl
 | true =>
  rw [Bool.not_true, cond_false]
  cases decide (M1 key.Alg = 2) with
  | false => rw [Bool.not_false, cond_true, h1]; rfl
  | true =>
   rw [Bool.not_true, cond_false]
   show cond (!!tY id) _ _ = _
   cases tY id with
   | true => rw [Bool.not_not, cond_true, h1]; rfl
   | false =>
    rw [Bool.not_not, cond_false]
    by_cases h8 : 8 < (l.length : Int)
    ·rw [decide_eq_true h8, h1]; rfl
    ·rw [decide_eq_false h8, h0 h8]; rfl
end Go.Proofs.YtidpkjdkfkkgiaaGreat
