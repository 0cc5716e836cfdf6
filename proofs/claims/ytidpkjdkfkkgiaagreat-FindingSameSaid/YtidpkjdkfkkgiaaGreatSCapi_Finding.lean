import Derived.Test.YtidpkjdkfkkgiaaGreatL3
import Derived.Test.YtidpkjdkfkkgiaaGreatC1
import Derived.Test.YtidpkjdkfkkgiaaGreatAS
set_option linter.unusedVariables false
set_option linter.unusedSimpArgs false
namespace Go.Proofs.YtidpkjdkfkkgiaaGreat
open Go
theorem K6 (x : Aa) : ∀ l : List Aa, Lb (l ++ [x]) = if l.getLast? = some x then Lb l else Lb l ++ [x]
 | [] => by simp [Lb]
 | [y] => by
  show (if y = x then Lb [x] else y :: Lb [x]) = _
  by_cases h : y = x
  ·rw [if_pos h, if_pos (by simp [h]), h]
  ·rw [if_neg h, if_neg (by simpa using h)]
   rfl
 | y :: z :: l => by
  have ih := K6 x (z :: l)
  show (if y = z then Lb (z :: (l ++ [x])) else y :: Lb (z :: (l ++ [x]))) = _
  rw [List.getLast?_cons_cons]
  have e : Lb (y :: z :: l) = if y = z then Lb (z :: l) else y :: Lb (z :: l) := rfl
  rw [e, show z :: (l ++ [x]) = z :: l ++ [x] from rfl, ih]
  by_cases h : y = z
  ·rw [if_pos h, if_pos h]
  ·rw [if_neg h, if_neg h]
   split <;> rfl
theorem Ls {s : List Aa} {i : Nat} {x y : Aa} (hx : s[i + 1]? = some x) (hy : s[i]? = some y) : Lb (s.take (i + 2)) = if y = x then Lb (s.take (i + 1)) else Lb (s.take (i + 1)) ++ [x] := by
 rw [F6 hx, K6]
 rw [show (s.take (i + 1)).getLast? = some y by rw [F6 hy]; simp]
 by_cases h : y = x
 ·rw [if_pos (by rw [h]), if_pos h]
 ·rw [if_neg (fun e => h (by injection e)), if_neg h]
theorem Mh (s : List Aa) (hs : s.length < 4611686018427387904) : Ok (Ba s) (fun r => r = Lb s) := by
 unfold Ba
 refine Ok.cond (fun h => Ok.ret ?_) (fun h => ?_)
 ·have h := of_decide_eq_true h
  match s, h with
  | [], _ => rfl
  | [x], _ => rfl
  | _ :: _ :: _, h => simp only [List.length_cons] at h; omega
 ·have h := of_decide_eq_false h
  refine Ok.loop (fun k : Int => ∃ i : Nat, k = ((i + 1 : Nat) : Int) /\ i + 1 <= s.length /\ Lb (s.take (i + 1)) = s.take (i + 1)) (fun k => s.length - k.toNat) ?_ ⟨0, rfl, by omega, ?_⟩
  ·rintro k ⟨i, rfl, hi, hc⟩
   show Ok (Ba.l1 s ((i + 1 : Nat) : Int)) _
   unfold Ba.l1
   refine Ok.cond (fun h1 => ?_) (fun h1 => ?_)
   ·have h1 := of_decide_eq_true h1
    obtain ⟨x, hx⟩ : ∃ x, s[i + 1]? = some x := ⟨_, List.getElem?_eq_getElem (by omega)⟩
    obtain ⟨y, hy⟩ : ∃ y, s[i]? = some y := ⟨_, List.getElem?_eq_getElem (by omega)⟩
    refine Ok.bindE (Eg.trans hx) ?_
    rw [Ee (show -9223372036854775808 <= ((i + 1 : Nat) : Int) - 1 /\ ((i + 1 : Nat) : Int) - 1 <= 9223372036854775807 by omega), show ((i + 1 : Nat) : Int) - 1 = (i : Int) by omega]
    refine Ok.bindE (Eg.trans hy) ?_
    have hst := Ls hx hy
    refine Ok.cond (fun h2 => ?_) (fun h2 => Ok.ret ⟨⟨i + 1, ?_, by omega, ?_⟩, ?_⟩)
    ·have h2 := of_decide_eq_true h2
     rw [if_pos h2.symm, hc] at hst
     refine Ok.bind (Yy (a := ((i + 1 : Nat) : Int)) (b := (s.length : Int)) (by omega)) fun l _ => ?_
     refine Ok.loop (fun q : Int × Int × List Aa => ∃ a b : Nat, q.1 = (a : Int) /\ q.2.1 = ((b + 1 : Nat) : Int) /\ a <= i + 1 + b /\ i + 1 + b + 1 <= s.length /\ q.2.2.length = s.length /\ q.2.2.take a = Lb (s.take (i + 1 + b + 1)) /\ ∀ m, i + 1 + b <= m -> q.2.2[m]? = s[m]?) (fun q => s.length - q.2.1.toNat) ?_ ⟨i + 1, 0, rfl, rfl, by omega, by omega, rfl, hst.symm, fun _ _ => rfl⟩
     rintro ⟨k', k2, s'⟩ ⟨a, b, e1, e2, h3, h4, h5, h6, h7⟩
     simp only at e1 e2 h5 h6 h7
     subst e1 e2
     show Ok (Ba.l2 s ((i + 1 : Nat) : Int) (a : Int) ((b + 1 : Nat) : Int) s') _
     unfold Ba.l2
     have ed : (((i + 1 : Nat) : Int)).toNat = i + 1 := by omega
     have en : (((s.length : Int) : Int)).toNat = s.length := by omega
     have hget : ∀ m : Nat, m < s.length - (i + 1) -> B1 ((s'.drop (((i + 1 : Nat) : Int)).toNat).take ((((s.length : Int) : Int)).toNat - (((i + 1 : Nat) : Int)).toNat)) (m : Int) = s'[i + 1 + m]? := fun m hm => by
      rw [Eg, ed, en, List.getElem?_take, if_pos hm, List.getElem?_drop]
     refine Ok.cond (fun g1 => ?_) (fun g1 => ?_)
     ·have g1 := of_decide_eq_true g1
      rw [ed, en] at g1
      obtain ⟨x2, hx2⟩ : ∃ x2, s[i + 1 + b + 1]? = some x2 := ⟨_, List.getElem?_eq_getElem (by omega)⟩
      obtain ⟨y2, hy2⟩ : ∃ y2, s[i + 1 + b]? = some y2 := ⟨_, List.getElem?_eq_getElem (by omega)⟩
      refine Ok.bindE ((hget (b + 1) (by omega)).trans ((h7 _ (by omega)).trans hx2)) ?_
      rw [Ee (show -9223372036854775808 <= ((b + 1 : Nat) : Int) - 1 /\ ((b + 1 : Nat) : Int) - 1 <= 9223372036854775807 by omega), show ((b + 1 : Nat) : Int) - 1 = (b : Int) by omega]
      refine Ok.bindE ((hget b (by omega)).trans ((h7 _ (by omega)).trans hy2)) ?_
      have hs2 := Ls hx2 hy2
      have eb : W (((b + 1 : Nat) : Int) + 1) = ((b + 1 + 1 : Nat) : Int) := by rw [Ee (by omega)]; omega
      refine Ok.cond (fun g2 => ?_) (fun g2 => ?_)
      ·have g2 : ¬ x2 = y2 := by simpa using g2
       rw [if_neg (fun e => g2 e.symm)] at hs2
       obtain ⟨z, hz⟩ : ∃ z, s'[a]? = some z := ⟨_, List.getElem?_eq_getElem (by omega)⟩
       refine Ok.bindE (Eg.trans hz) ?_
       unfold Ba.j3
       rw [eb, Ee (show -9223372036854775808 <= (a : Int) + 1 /\ (a : Int) + 1 <= 9223372036854775807 by omega)]
       have ea : ((a : Int)).toNat = a := by omega
       refine Ok.ret ⟨⟨a + 1, b + 1, by omega, rfl, by omega, by omega, ?_, ?_, fun m hm => ?_⟩, ?_⟩
       ·show (Cs s' (a : Int).toNat x2).length = _
        unfold Cs
        rw [List.length_set]; exact h5
       ·show (Cs s' (a : Int).toNat x2).take (a + 1) = _
        unfold Cs
        have : (s'.set (a : Int).toNat x2)[a]? = some x2 := by rw [ea, List.getElem?_set_self (by omega)]
        rw [F6 this, ea, List.take_set_of_le (Nat.le_refl a), h6]
        exact hs2.symm
       ·show (Cs s' (a : Int).toNat x2)[m]? = _
        unfold Cs
        rw [List.getElem?_set_ne (by omega)]
        exact h7 m (by omega)
       ·show s.length - (((b + 1 + 1 : Nat) : Int)).toNat < s.length - (((b + 1 : Nat) : Int)).toNat
        omega
      ·have g2 : x2 = y2 := by simpa using g2
       rw [if_pos g2.symm] at hs2
       unfold Ba.j3
       rw [eb]
       refine Ok.ret ⟨⟨a, b + 1, rfl, rfl, by omega, by omega, h5, h6.trans hs2.symm, fun m hm => h7 m (by omega)⟩, ?_⟩
       show s.length - (((b + 1 + 1 : Nat) : Int)).toNat < s.length - (((b + 1 : Nat) : Int)).toNat
       omega
     ·have g1 := of_decide_eq_false g1
      rw [ed, en] at g1
      have hb : i + 1 + b + 1 = s.length := by omega
      rw [hb, List.take_length] at h6
      have ea : ((a : Int)).toNat = a := by omega
      refine Ok.up (Ok.bind (Yy (a := (a : Int)) (b := (s'.length : Int)) (by omega)) fun l2 _ => ?_)
      refine Ok.bind (Q := fun r => r.length = s'.length /\ r.take a = s'.take a) ?_ fun l3 h3' => ?_
      ·unfold qV
       rw [ea, show (((s'.length : Int) : Int)).toNat = s'.length by omega, if_pos (by omega)]
       refine ⟨_, rfl, by simp; omega, ?_⟩
       rw [List.append_assoc, List.take_append, List.take_of_length_le (by simp; omega)]
       have : a - (s'.take a).length = 0 := by rw [List.length_take]; omega
       rw [this]
       simp
      ·refine Ok.bind (Yy (a := 0) (b := (a : Int)) (by omega)) fun l4 _ => Ok.up (Ok.ret ?_)
       show l3.take ((a : Int).toNat - (0 : Int).toNat) = _
       rw [ea, show a - (0 : Int).toNat = a from rfl, h3'.2, h6]
    ·rw [Ee (by omega)]
     omega
    ·have h2 : ¬ x = y := of_decide_eq_false h2
     rw [if_neg (fun e => h2 e.symm), hc, <- F6 hx] at hst
     exact hst
    ·rw [Ee (by omega)]
     omega
   ·have h1 := of_decide_eq_false h1
    refine Ok.up (Ok.ret ?_)
    have hl : i + 1 = s.length := by omega
    rw [hl, List.take_length] at hc
    exact hc.symm
  ·match s, h with
   | [], _ => rfl
   | x :: _, _ => rfl
end Go.Proofs.YtidpkjdkfkkgiaaGreat
