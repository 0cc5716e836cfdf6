import Derived.Test.YtkoflhimdenjaaaGreatP1
import Derived.WalkKit
set_option linter.unusedVariables false
set_option linter.unusedSimpArgs false
namespace Go.Proofs.YtkoflhimdenjaaaGreat
open Go
def eP (t : Int) : Bool := decide (1 <= t) && decide (t <= 255) && (t % 32 != 31)
def hX (t : Int) : Bool := t / 32 % 2 == 1
mutual
def Ae.formed : Ae -> Bool
 | .mk t b n es => eP t && (n == hX t) && !(n && decide (0 < b.length)) && !(!n && decide (0 < es.length)) && J2 es
def J2 : List Ae -> Bool
 | [] => true
 | v :: vs => v.formed && J2 vs
end
theorem Ph : ∀ es : List Ae, J2 es = es.all Ae.formed
 | [] => by simp [J2]
 | v :: vs => by rw [J2, Ph vs, List.all_cons]
mutual
def Ae.depth : Ae -> Nat
 | .mk _ _ _ es => Ft es + 1
def Ft : List Ae -> Nat
 | [] => 0
 | v :: vs => max v.depth (Ft vs)
end
theorem P5 : ∀ a b : List Ae, Ft (a ++ b) = max (Ft a) (Ft b)
 | [], b => by simp [Ft]
 | v :: vs, b => by rw [List.cons_append, Ft, Ft, P5 vs b, Nat.max_assoc]
theorem Sy {es : List Ae} {k : Nat} {d : Ae} (h : es[k]? = some d) : Ft (es.take (k + 1)) = max (Ft (es.take k)) d.depth := by
 obtain ⟨hk, e⟩ := List.getElem?_eq_some_iff.1 h
 rw [List.take_succ_eq_append_getElem hk, P5, e, Ft, Ft, Nat.max_zero]
mutual
def Ae.same : Ae -> Ae -> Bool
 | .mk t b n es, .mk t' b' n' es' => t == t' && n == n' && b == b' && jD es es'
def jD : List Ae -> List Ae -> Bool
 | [], [] => true
 | v :: vs, u :: us => v.same u && jD vs us
 | _, _ => false
end
def I9 : List UInt8 -> List UInt8
 | x :: y :: r => if (x = 0 /\ y < 128) \/ (x = 255 /\ 128 <= y) then I9 (y :: r) else x :: y :: r
 | l => l
def kK (n : Int) (k : Nat) : List UInt8 := (List.range k).map fun j => UInt8.ofNat ((IntKind.u64.wrap n).toNat / 2 ^ (56 - 8 * j) % 256)
def nF (n : Int) : List UInt8 := I9 (kK n 8)
def Qx (n : Int) : Ae := .mk 2 (nF n) false []
theorem Z7 (n : Int) : 0 <= IntKind.u64.wrap n /\ IntKind.u64.wrap n < 18446744073709551616 := by
 rw [IntKind.wrap_u64]; omega
theorem dO : ∀ l : List UInt8, (I9 l).length <= l.length
 | [] => by simp [I9]
 | [_] => by simp [I9]
 | x :: y :: r => by
  rw [I9]
  split
  ·have := dO (y :: r); simp at this ⊢; omega
  ·simp
def E3 (n : Int) : Nat -> Bool
 | 1 => decide (-128 <= n /\ n < 128)
 | 2 => decide (-32768 <= n /\ n < 32768)
 | 3 => decide (-8388608 <= n /\ n < 8388608)
 | 4 => decide (-2147483648 <= n /\ n < 2147483648)
 | 5 => decide (-549755813888 <= n /\ n < 549755813888)
 | 6 => decide (-140737488355328 <= n /\ n < 140737488355328)
 | 7 => decide (-36028797018963968 <= n /\ n < 36028797018963968)
 | 8 => true
 | _ => false
def Qv (n : Int) : Nat := if E3 n 1 then 1 else if E3 n 2 then 2 else if E3 n 3 then 3 else if E3 n 4 then 4 else if E3 n 5 then 5 else if E3 n 6 then 6 else if E3 n 7 then 7 else 8
def Dg (n : Int) (j : Nat) : UInt8 := UInt8.ofNat ((n / 256 ^ j % 256).toNat)
theorem Dy (n : Int) (j : Nat) : ((Dg n j).toNat : Int) = n / 256 ^ j % 256 := by
 unfold Dg
 have h : 0 <= n / 256 ^ j % 256 /\ n / 256 ^ j % 256 < 256 := by omega
 rw [UInt8.toNat_ofNat', Nat.mod_eq_of_lt (by omega)]
 omega
theorem aL (n : Int) (j : Nat) (hj : j <= 7) : (IntKind.u64.wrap n) / 2 ^ (8 * j) % 256 = n / 256 ^ j % 256 := by
 rw [IntKind.wrap_u64]
 match j, hj with
 | 0, _ => simp
 | 1, _ => simp; omega
 | 2, _ => simp; omega
 | 3, _ => simp; omega
 | 4, _ => simp; omega
 | 5, _ => simp; omega
 | 6, _ => simp; omega
 | 7, _ => simp; omega
theorem be8 (n : Int) : kK n 8 = [Dg n 7, Dg n 6, Dg n 5, Dg n 4, Dg n 3, Dg n 2, Dg n 1, Dg n 0] := by
 have key : ∀ j, j <= 7 -> UInt8.ofNat ((IntKind.u64.wrap n).toNat / 2 ^ (8 * j) % 256) = Dg n j := by
  intro j hj
  have h := Z7 n
  have h2 := aL n j hj
  unfold Dg
  rw [<- h2]
  obtain ⟨m, hm⟩ := Int.eq_ofNat_of_zero_le h.1
  rw [hm]
  congr 1
 have h := fun j hj => key j hj
 unfold kK
 simp only [List.range, List.range.loop, List.map_cons, List.map_nil]
 rw [<- h 7 (by omega), <- h 6 (by omega), <- h 5 (by omega), <- h 4 (by omega), <- h 3 (by omega), <- h 2 (by omega), <- h 1 (by omega), <- h 0 (by omega)]
theorem Mn {x y : UInt8} {r : List UInt8} {c : Bool} (h : (((x.toNat : Int) = 0 /\ (y.toNat : Int) < 128) \/ ((x.toNat : Int) = 255 /\ (128 : Int) <= y.toNat)) ↔ c = true) : I9 (x :: y :: r) = if c then I9 (y :: r) else x :: y :: r := by
 have h1 : ((x = 0 /\ y < 128) \/ (x = 255 /\ 128 <= y)) ↔ (((x.toNat : Int) = 0 /\ (y.toNat : Int) < 128) \/ ((x.toNat : Int) = 255 /\ (128 : Int) <= y.toNat)) := by
  have e0 : x = 0 ↔ (x.toNat : Int) = 0 := ⟨fun e => by rw [e]; rfl, fun e => UInt8.toNat.inj (by simp; omega)⟩
  have e1 : x = 255 ↔ (x.toNat : Int) = 255 := ⟨fun e => by rw [e]; rfl, fun e => UInt8.toNat.inj (by simp; omega)⟩
  have e2 : y < 128 ↔ (y.toNat : Int) < 128 := by rw [UInt8.lt_iff_toNat_lt]; simp; omega
  have e3 : 128 <= y ↔ (128 : Int) <= y.toNat := by rw [UInt8.le_iff_toNat_le]; simp; omega
  rw [e0, e1, e2, e3]
 rw [I9]
 by_cases hc : c = true
 ·rw [if_pos (h1.2 (h.2 hc)), if_pos hc]
 ·rw [if_neg (fun g => hc (h.1 (h1.1 g))), if_neg hc]
theorem qM (n : Int) (_h1 : -9223372036854775808 <= n) (_h2 : n <= 9223372036854775807) (r : List UInt8) : I9 (Dg n 7 :: Dg n 6 :: r) = if E3 n 7 then I9 (Dg n 6 :: r) else Dg n 7 :: Dg n 6 :: r := by
 refine Mn ?_
 rw [Dy, Dy]; unfold E3; simp; omega
theorem mQ (n : Int) (h : E3 n 7 = true) (r : List UInt8) : I9 (Dg n 6 :: Dg n 5 :: r) = if E3 n 6 then I9 (Dg n 5 :: r) else Dg n 6 :: Dg n 5 :: r := by
 unfold E3 at h; simp at h
 refine Mn ?_
 rw [Dy, Dy]; unfold E3; simp; omega
theorem pB (n : Int) (h : E3 n 6 = true) (r : List UInt8) : I9 (Dg n 5 :: Dg n 4 :: r) = if E3 n 5 then I9 (Dg n 4 :: r) else Dg n 5 :: Dg n 4 :: r := by
 unfold E3 at h; simp at h
 refine Mn ?_
 rw [Dy, Dy]; unfold E3; simp; omega
theorem mB (n : Int) (h : E3 n 5 = true) (r : List UInt8) : I9 (Dg n 4 :: Dg n 3 :: r) = if E3 n 4 then I9 (Dg n 3 :: r) else Dg n 4 :: Dg n 3 :: r := by
 unfold E3 at h; simp at h
 refine Mn ?_
 rw [Dy, Dy]; unfold E3; simp; omega
theorem pR (n : Int) (h : E3 n 4 = true) (r : List UInt8) : I9 (Dg n 3 :: Dg n 2 :: r) = if E3 n 3 then I9 (Dg n 2 :: r) else Dg n 3 :: Dg n 2 :: r := by
 unfold E3 at h; simp at h
 refine Mn ?_
 rw [Dy, Dy]; unfold E3; simp; omega
theorem nH (n : Int) (h : E3 n 3 = true) (r : List UInt8) : I9 (Dg n 2 :: Dg n 1 :: r) = if E3 n 2 then I9 (Dg n 1 :: r) else Dg n 2 :: Dg n 1 :: r := by
 unfold E3 at h; simp at h
 refine Mn ?_
 rw [Dy, Dy]; unfold E3; simp; omega
theorem mY (n : Int) (h : E3 n 2 = true) (r : List UInt8) : I9 (Dg n 1 :: Dg n 0 :: r) = if E3 n 1 then I9 (Dg n 0 :: r) else Dg n 1 :: Dg n 0 :: r := by
 unfold E3 at h; simp at h
 refine Mn ?_
 rw [Dy, Dy]; unfold E3; simp; omega
theorem D5 {n : Int} {j : Nat} (hj : 1 <= j) (h7 : j <= 6) (h : ¬ E3 n (j + 1) = true) : ¬ E3 n j = true := by
 match j, hj, h7 with
 | 1, _, _ => unfold E3 at *; simp at *; omega
 | 2, _, _ => unfold E3 at *; simp at *; omega
 | 3, _, _ => unfold E3 at *; simp at *; omega
 | 4, _, _ => unfold E3 at *; simp at *; omega
 | 5, _, _ => unfold E3 at *; simp at *; omega
 | 6, _, _ => unfold E3 at *; simp at *; omega
theorem iJ (n : Int) (h1 : -9223372036854775808 <= n) (h2 : n <= 9223372036854775807) : nF n = (kK n 8).drop (8 - Qv n) := by
 unfold nF
 rw [be8]
 by_cases f7 : E3 n 7 = true
 ·rw [qM n h1 h2, if_pos f7]
  by_cases f6 : E3 n 6 = true
  ·rw [mQ n f7, if_pos f6]
   by_cases f5 : E3 n 5 = true
   ·rw [pB n f6, if_pos f5]
    by_cases f4 : E3 n 4 = true
    ·rw [mB n f5, if_pos f4]
     by_cases f3 : E3 n 3 = true
     ·rw [pR n f4, if_pos f3]
      by_cases f2 : E3 n 2 = true
      ·rw [nH n f3, if_pos f2]
       by_cases f1 : E3 n 1 = true
       ·rw [mY n f2, if_pos f1]
        rw [I9]
        ·simp [Qv, f1]
        ·intro x y r h; cases h
       ·rw [mY n f2, if_neg f1]
        simp [Qv, f1, f2]
      ·rw [nH n f3, if_neg f2]
       have f1 := D5 (j := 1) (by omega) (by omega) f2
       simp [Qv, f1, f2, f3]
     ·rw [pR n f4, if_neg f3]
      have f2 := D5 (j := 2) (by omega) (by omega) f3
      have f1 := D5 (j := 1) (by omega) (by omega) f2
      simp [Qv, f1, f2, f3, f4]
    ·rw [mB n f5, if_neg f4]
     have f3 := D5 (j := 3) (by omega) (by omega) f4
     have f2 := D5 (j := 2) (by omega) (by omega) f3
     have f1 := D5 (j := 1) (by omega) (by omega) f2
     simp [Qv, f1, f2, f3, f4, f5]
   ·rw [pB n f6, if_neg f5]
    have f4 := D5 (j := 4) (by omega) (by omega) f5
    have f3 := D5 (j := 3) (by omega) (by omega) f4
    have f2 := D5 (j := 2) (by omega) (by omega) f3
    have f1 := D5 (j := 1) (by omega) (by omega) f2
    simp [Qv, f1, f2, f3, f4, f5, f6]
  ·rw [mQ n f7, if_neg f6]
   have f5 := D5 (j := 5) (by omega) (by omega) f6
   have f4 := D5 (j := 4) (by omega) (by omega) f5
   have f3 := D5 (j := 3) (by omega) (by omega) f4
   have f2 := D5 (j := 2) (by omega) (by omega) f3
   have f1 := D5 (j := 1) (by omega) (by omega) f2
   simp [Qv, f1, f2, f3, f4, f5, f6, f7]
 ·rw [qM n h1 h2, if_neg f7]
  have f6 := D5 (j := 6) (by omega) (by omega) f7
  have f5 := D5 (j := 5) (by omega) (by omega) f6
  have f4 := D5 (j := 4) (by omega) (by omega) f5
  have f3 := D5 (j := 3) (by omega) (by omega) f4
  have f2 := D5 (j := 2) (by omega) (by omega) f3
  have f1 := D5 (j := 1) (by omega) (by omega) f2
  simp [Qv, f1, f2, f3, f4, f5, f6, f7]
theorem cE (n : Int) (h1 : -9223372036854775808 <= n) (h2 : n <= 9223372036854775807) (k : Nat) (hk : k <= 7) :
  E3 n (k + 1) = true ↔ (n / 256 ^ (k + 1) = 0 /\ ((Dg n k).toNat : Int) < 128) \/ (n / 256 ^ (k + 1) = -1 /\ (128 : Int) <= (Dg n k).toNat) := by
 match k, hk with
 | 0, _ => rw [Dy]; unfold E3; simp; omega
 | 1, _ => rw [Dy]; unfold E3; simp; omega
 | 2, _ => rw [Dy]; unfold E3; simp; omega
 | 3, _ => rw [Dy]; unfold E3; simp; omega
 | 4, _ => rw [Dy]; unfold E3; simp; omega
 | 5, _ => rw [Dy]; unfold E3; simp; omega
 | 6, _ => rw [Dy]; unfold E3; simp; omega
 | 7, _ => rw [Dy]; unfold E3; simp; omega
theorem Rr (n : Int) (k : Nat) (hk : k <= 7) : (kK n 8).drop (7 - k) = Dg n k :: (kK n 8).drop (8 - k) := by
 rw [be8]
 match k, hk with
 | 0, _ => rfl
 | 1, _ => rfl
 | 2, _ => rfl
 | 3, _ => rfl
 | 4, _ => rfl
 | 5, _ => rfl
 | 6, _ => rfl
 | 7, _ => rfl
theorem cI (n : Int) (k : Nat) (hk : k <= 7) (hn : ∀ j, 1 <= j -> j <= k -> E3 n j = false) (hf : E3 n (k + 1) = true) : Qv n = k + 1 := by
 have g := fun j (h1 : 1 <= j) (h2 : j <= k) => hn j h1 h2
 unfold Qv
 match k, hk, hf, g with
 | 0, _, hf, _ => simp [hf]
 | 1, _, hf, g => simp [hf, g 1 (by omega) (by omega)]
 | 2, _, hf, g => simp [hf, g 1 (by omega) (by omega), g 2 (by omega) (by omega)]
 | 3, _, hf, g => simp [hf, g 1 (by omega) (by omega), g 2 (by omega) (by omega), g 3 (by omega) (by omega)]
 | 4, _, hf, g => simp [hf, g 1 (by omega) (by omega), g 2 (by omega) (by omega), g 3 (by omega) (by omega), g 4 (by omega) (by omega)]
 | 5, _, hf, g => simp [hf, g 1 (by omega) (by omega), g 2 (by omega) (by omega), g 3 (by omega) (by omega), g 4 (by omega) (by omega), g 5 (by omega) (by omega)]
 | 6, _, hf, g => simp [hf, g 1 (by omega) (by omega), g 2 (by omega) (by omega), g 3 (by omega) (by omega), g 4 (by omega) (by omega), g 5 (by omega) (by omega), g 6 (by omega) (by omega)]
 | 7, _, _, g => simp [g 1 (by omega) (by omega), g 2 (by omega) (by omega), g 3 (by omega) (by omega), g 4 (by omega) (by omega), g 5 (by omega) (by omega), g 6 (by omega) (by omega), g 7 (by omega) (by omega)]
theorem mO (n : Int) (k : Nat) : n / 256 ^ (k + 1) / 256 = n / 256 ^ (k + 1 + 1) := by
 rw [Int.pow_succ 256 (k + 1)]
 have h : (0 : Int) <= 256 ^ (k + 1) := Int.pow_nonneg (by omega)
 first | exact Int.ediv_ediv_of_nonneg h | exact Int.ediv_ediv_eq_ediv_mul _ h | (rw [Int.ediv_ediv, if_neg (by omega)]; simp)
def be (n : Nat) : List UInt8 := if h : n = 0 then [] else be (n / 256) ++ [UInt8.ofNat (n % 256)]
termination_by n
decreasing_by omega
theorem aCs : be 0 = [] := by rw [be]; rfl
theorem oO {n : Nat} (h : 0 < n) : be n = be (n / 256) ++ [UInt8.ofNat (n % 256)] := by rw [be]; rw [dif_neg (by omega)]
def tY (n : Nat) : Nat := (be n).length
theorem uP : tY 0 = 0 := by unfold tY; rw [aCs]; rfl
theorem hG {n : Nat} (h : 0 < n) : tY n = tY (n / 256) + 1 := by unfold tY; rw [oO h]; simp
theorem mK (k : Nat) : ∀ n, n < 256 ^ k -> tY n <= k := by
 induction k with
 | zero =>
  intro n h; have : n = 0 := by simpa using h
  subst this; rw [uP]; omega
 | succ k ih =>
  intro n h
  rcases Nat.eq_zero_or_pos n with h0 | h0
  ·subst h0; rw [uP]; omega
  ·rw [hG h0]
   have := ih (n / 256) (by rw [Nat.pow_succ] at h; exact Nat.div_lt_of_lt_mul (by rw [Nat.mul_comm]; exact h))
   omega
def gI (n : Nat) : List UInt8 := if n < 128 then [UInt8.ofNat n] else UInt8.ofNat (128 + tY n) :: be n
mutual
def Ae.put : Ae -> List UInt8
 | .mk t b n es => UInt8.ofNat (t.toNat % 256) :: (gI ((if n then Fy es else b).length) ++ (if n then Fy es else b))
def Fy : List Ae -> List UInt8
 | [] => []
 | v :: vs => v.put ++ Fy vs
end
def Ae.body : Ae -> List UInt8 | .mk _ b n es => if n then Fy es else b
theorem aAm (t : Int) (b : List UInt8) (n : Bool) (es : List Ae) : (Ae.mk t b n es).put = UInt8.ofNat (t.toNat % 256) :: (gI (Ae.mk t b n es).body.length ++ (Ae.mk t b n es).body) := by rw [Ae.put]; rfl
theorem N2 : ∀ a b : List Ae, Fy (a ++ b) = Fy a ++ Fy b
 | [], b => by simp [Fy]
 | v :: vs, b => by rw [List.cons_append, Fy, Fy, N2 vs b, List.append_assoc]
theorem Uo {es : List Ae} {k : Nat} {d : Ae} (h : es[k]? = some d) : Fy (es.take (k + 1)) = Fy (es.take k) ++ d.put := by
 obtain ⟨hk, e⟩ := List.getElem?_eq_some_iff.1 h
 rw [List.take_succ_eq_append_getElem hk, N2, e]
 simp [Fy]
theorem Wx {es : List Ae} (k : Nat) : (Fy (es.take k)).length <= (Fy es).length := by
 have := N2 (es.take k) (es.drop k)
 rw [List.take_append_drop] at this
 rw [this, List.length_append]; omega
theorem Zv {n : Nat} (h : n < 256 ^ 6) : (gI n).length <= 7 := by
 unfold gI
 split
 ·simp
 ·have := mK 6 n h
  unfold tY at this
  simp; omega
end Go.Proofs.YtkoflhimdenjaaaGreat
