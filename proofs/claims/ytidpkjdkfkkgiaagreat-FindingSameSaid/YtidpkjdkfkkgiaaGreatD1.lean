import Derived.Test.YtidpkjdkfkkgiaaGreatP1
import Derived.WalkKit
set_option linter.unusedVariables false
set_option linter.unusedSimpArgs false
namespace Go.Proofs.YtidpkjdkfkkgiaaGreat
open Go
def gT (t : Int) : Bool := decide (1 <= t) && decide (t <= 255) && (t % 32 != 31)
def kG (t : Int) : Bool := t / 32 % 2 == 1
mutual
def Ah.formed : Ah -> Bool
 | .mk t b n es => gT t && (n == kG t) && !(n && decide (0 < b.length)) && !(!n && decide (0 < es.length)) && Kj es
def Kj : List Ah -> Bool
 | [] => true
 | v :: vs => v.formed && Kj vs
end
theorem P6 : ∀ es : List Ah, Kj es = es.all Ah.formed
 | [] => by simp [Kj]
 | v :: vs => by rw [Kj, P6 vs, List.all_cons]
mutual
def Ah.depth : Ah -> Nat
 | .mk _ _ _ es => Gg es + 1
def Gg : List Ah -> Nat
 | [] => 0
 | v :: vs => max v.depth (Gg vs)
end
theorem Qt : ∀ a b : List Ah, Gg (a ++ b) = max (Gg a) (Gg b)
 | [], b => by simp [Gg]
 | v :: vs, b => by rw [List.cons_append, Gg, Gg, Qt vs b, Nat.max_assoc]
theorem Tq {es : List Ah} {k : Nat} {d : Ah} (h : es[k]? = some d) : Gg (es.take (k + 1)) = max (Gg (es.take k)) d.depth := by
 obtain ⟨hk, e⟩ := List.getElem?_eq_some_iff.1 h
 rw [List.take_succ_eq_append_getElem hk, Qt, e, Gg, Gg, Nat.max_zero]
mutual
def Ah.same : Ah -> Ah -> Bool
 | .mk t b n es, .mk t' b' n' es' => t == t' && n == n' && b == b' && kE es es'
def kE : List Ah -> List Ah -> Bool
 | [], [] => true
 | v :: vs, u :: us => v.same u && kE vs us
 | _, _ => false
end
def Jg : List UInt8 -> List UInt8
 | x :: y :: r => if (x = 0 /\ y < 128) \/ (x = 255 /\ 128 <= y) then Jg (y :: r) else x :: y :: r
 | l => l
def lE (n : Int) (k : Nat) : List UInt8 := (List.range k).map fun j => UInt8.ofNat ((IntKind.u64.wrap n).toNat / 2 ^ (56 - 8 * j) % 256)
def rH (n : Int) : List UInt8 := Jg (lE n 8)
def Rf (n : Int) : Ah := .mk 2 (rH n) false []
theorem cT (n : Int) : 0 <= IntKind.u64.wrap n /\ IntKind.u64.wrap n < 18446744073709551616 := by
 rw [IntKind.wrap_u64]; omega
theorem eC : ∀ l : List UInt8, (Jg l).length <= l.length
 | [] => by simp [Jg]
 | [_] => by simp [Jg]
 | x :: y :: r => by
  rw [Jg]
  split
  ·have := eC (y :: r); simp at this ⊢; omega
  ·simp
def Fp (n : Int) : Nat -> Bool
 | 1 => decide (-128 <= n /\ n < 128)
 | 2 => decide (-32768 <= n /\ n < 32768)
 | 3 => decide (-8388608 <= n /\ n < 8388608)
 | 4 => decide (-2147483648 <= n /\ n < 2147483648)
 | 5 => decide (-549755813888 <= n /\ n < 549755813888)
 | 6 => decide (-140737488355328 <= n /\ n < 140737488355328)
 | 7 => decide (-36028797018963968 <= n /\ n < 36028797018963968)
 | 8 => true
 | _ => false
def Rq (n : Int) : Nat := if Fp n 1 then 1 else if Fp n 2 then 2 else if Fp n 3 then 3 else if Fp n 4 then 4 else if Fp n 5 then 5 else if Fp n 6 then 6 else if Fp n 7 then 7 else 8
def Dz (n : Int) (j : Nat) : UInt8 := UInt8.ofNat ((n / 256 ^ j % 256).toNat)
theorem En (n : Int) (j : Nat) : ((Dz n j).toNat : Int) = n / 256 ^ j % 256 := by
 unfold Dz
 have h : 0 <= n / 256 ^ j % 256 /\ n / 256 ^ j % 256 < 256 := by omega
 rw [UInt8.toNat_ofNat', Nat.mod_eq_of_lt (by omega)]
 omega
theorem bZ (n : Int) (j : Nat) (hj : j <= 7) : (IntKind.u64.wrap n) / 2 ^ (8 * j) % 256 = n / 256 ^ j % 256 := by
 rw [IntKind.wrap_u64]
 match j, hj with
 | 0, _ => simp
 | 1, _ => simp; omega
 | 2, _ => simp; omega
 | 3, _ => simp; omega
 | 4, _ => simp; omega
 | 5, _ => simp; omega
 | 6, _ => simp; omega
 | 7, _ => simp; omega
theorem be8 (n : Int) : lE n 8 = [Dz n 7, Dz n 6, Dz n 5, Dz n 4, Dz n 3, Dz n 2, Dz n 1, Dz n 0] := by
 have key : ∀ j, j <= 7 -> UInt8.ofNat ((IntKind.u64.wrap n).toNat / 2 ^ (8 * j) % 256) = Dz n j := by
  intro j hj
  have h := cT n
  have h2 := bZ n j hj
  unfold Dz
  rw [<- h2]
  obtain ⟨m, hm⟩ := Int.eq_ofNat_of_zero_le h.1
  rw [hm]
  congr 1
 have h := fun j hj => key j hj
 unfold lE
 simp only [List.range, List.range.loop, List.map_cons, List.map_nil]
 rw [<- h 7 (by omega), <- h 6 (by omega), <- h 5 (by omega), <- h 4 (by omega), <- h 3 (by omega), <- h 2 (by omega), <- h 1 (by omega), <- h 0 (by omega)]
theorem Nz {x y : UInt8} {r : List UInt8} {c : Bool} (h : (((x.toNat : Int) = 0 /\ (y.toNat : Int) < 128) \/ ((x.toNat : Int) = 255 /\ (128 : Int) <= y.toNat)) ↔ c = true) : Jg (x :: y :: r) = if c then Jg (y :: r) else x :: y :: r := by
 have h1 : ((x = 0 /\ y < 128) \/ (x = 255 /\ 128 <= y)) ↔ (((x.toNat : Int) = 0 /\ (y.toNat : Int) < 128) \/ ((x.toNat : Int) = 255 /\ (128 : Int) <= y.toNat)) := by
  have e0 : x = 0 ↔ (x.toNat : Int) = 0 := ⟨fun e => by rw [e]; rfl, fun e => UInt8.toNat.inj (by simp; omega)⟩
  have e1 : x = 255 ↔ (x.toNat : Int) = 255 := ⟨fun e => by rw [e]; rfl, fun e => UInt8.toNat.inj (by simp; omega)⟩
  have e2 : y < 128 ↔ (y.toNat : Int) < 128 := by rw [UInt8.lt_iff_toNat_lt]; simp; omega
  have e3 : 128 <= y ↔ (128 : Int) <= y.toNat := by rw [UInt8.le_iff_toNat_le]; simp; omega
  rw [e0, e1, e2, e3]
 rw [Jg]
 by_cases hc : c = true
 ·rw [if_pos (h1.2 (h.2 hc)), if_pos hc]
 ·rw [if_neg (fun g => hc (h.1 (h1.1 g))), if_neg hc]
theorem rC (n : Int) (_h1 : -9223372036854775808 <= n) (_h2 : n <= 9223372036854775807) (r : List UInt8) : Jg (Dz n 7 :: Dz n 6 :: r) = if Fp n 7 then Jg (Dz n 6 :: r) else Dz n 7 :: Dz n 6 :: r := by
 refine Nz ?_
 rw [En, En]; unfold Fp; simp; omega
theorem oD (n : Int) (h : Fp n 7 = true) (r : List UInt8) : Jg (Dz n 6 :: Dz n 5 :: r) = if Fp n 6 then Jg (Dz n 5 :: r) else Dz n 6 :: Dz n 5 :: r := by
 unfold Fp at h; simp at h
 refine Nz ?_
 rw [En, En]; unfold Fp; simp; omega
theorem oT (n : Int) (h : Fp n 6 = true) (r : List UInt8) : Jg (Dz n 5 :: Dz n 4 :: r) = if Fp n 5 then Jg (Dz n 4 :: r) else Dz n 5 :: Dz n 4 :: r := by
 unfold Fp at h; simp at h
 refine Nz ?_
 rw [En, En]; unfold Fp; simp; omega
theorem qI (n : Int) (h : Fp n 5 = true) (r : List UInt8) : Jg (Dz n 4 :: Dz n 3 :: r) = if Fp n 4 then Jg (Dz n 3 :: r) else Dz n 4 :: Dz n 3 :: r := by
 unfold Fp at h; simp at h
 refine Nz ?_
 rw [En, En]; unfold Fp; simp; omega
theorem qR (n : Int) (h : Fp n 4 = true) (r : List UInt8) : Jg (Dz n 3 :: Dz n 2 :: r) = if Fp n 3 then Jg (Dz n 2 :: r) else Dz n 3 :: Dz n 2 :: r := by
 unfold Fp at h; simp at h
 refine Nz ?_
 rw [En, En]; unfold Fp; simp; omega
theorem oG (n : Int) (h : Fp n 3 = true) (r : List UInt8) : Jg (Dz n 2 :: Dz n 1 :: r) = if Fp n 2 then Jg (Dz n 1 :: r) else Dz n 2 :: Dz n 1 :: r := by
 unfold Fp at h; simp at h
 refine Nz ?_
 rw [En, En]; unfold Fp; simp; omega
theorem nL (n : Int) (h : Fp n 2 = true) (r : List UInt8) : Jg (Dz n 1 :: Dz n 0 :: r) = if Fp n 1 then Jg (Dz n 0 :: r) else Dz n 1 :: Dz n 0 :: r := by
 unfold Fp at h; simp at h
 refine Nz ?_
 rw [En, En]; unfold Fp; simp; omega
theorem Ev {n : Int} {j : Nat} (hj : 1 <= j) (h7 : j <= 6) (h : ¬ Fp n (j + 1) = true) : ¬ Fp n j = true := by
 match j, hj, h7 with
 | 1, _, _ => unfold Fp at *; simp at *; omega
 | 2, _, _ => unfold Fp at *; simp at *; omega
 | 3, _, _ => unfold Fp at *; simp at *; omega
 | 4, _, _ => unfold Fp at *; simp at *; omega
 | 5, _, _ => unfold Fp at *; simp at *; omega
 | 6, _, _ => unfold Fp at *; simp at *; omega
theorem kL (n : Int) (h1 : -9223372036854775808 <= n) (h2 : n <= 9223372036854775807) : rH n = (lE n 8).drop (8 - Rq n) := by
 unfold rH
 rw [be8]
 by_cases f7 : Fp n 7 = true
 ·rw [rC n h1 h2, if_pos f7]
  by_cases f6 : Fp n 6 = true
  ·rw [oD n f7, if_pos f6]
   by_cases f5 : Fp n 5 = true
   ·rw [oT n f6, if_pos f5]
    by_cases f4 : Fp n 4 = true
    ·rw [qI n f5, if_pos f4]
     by_cases f3 : Fp n 3 = true
     ·rw [qR n f4, if_pos f3]
      by_cases f2 : Fp n 2 = true
      ·rw [oG n f3, if_pos f2]
       by_cases f1 : Fp n 1 = true
       ·rw [nL n f2, if_pos f1]
        rw [Jg]
        ·simp [Rq, f1]
        ·intro x y r h; cases h
       ·rw [nL n f2, if_neg f1]
        simp [Rq, f1, f2]
      ·rw [oG n f3, if_neg f2]
       have f1 := Ev (j := 1) (by omega) (by omega) f2
       simp [Rq, f1, f2, f3]
     ·rw [qR n f4, if_neg f3]
      have f2 := Ev (j := 2) (by omega) (by omega) f3
      have f1 := Ev (j := 1) (by omega) (by omega) f2
      simp [Rq, f1, f2, f3, f4]
    ·rw [qI n f5, if_neg f4]
     have f3 := Ev (j := 3) (by omega) (by omega) f4
     have f2 := Ev (j := 2) (by omega) (by omega) f3
     have f1 := Ev (j := 1) (by omega) (by omega) f2
     simp [Rq, f1, f2, f3, f4, f5]
   ·rw [oT n f6, if_neg f5]
    have f4 := Ev (j := 4) (by omega) (by omega) f5
    have f3 := Ev (j := 3) (by omega) (by omega) f4
    have f2 := Ev (j := 2) (by omega) (by omega) f3
    have f1 := Ev (j := 1) (by omega) (by omega) f2
    simp [Rq, f1, f2, f3, f4, f5, f6]
  ·rw [oD n f7, if_neg f6]
   have f5 := Ev (j := 5) (by omega) (by omega) f6
   have f4 := Ev (j := 4) (by omega) (by omega) f5
   have f3 := Ev (j := 3) (by omega) (by omega) f4
   have f2 := Ev (j := 2) (by omega) (by omega) f3
   have f1 := Ev (j := 1) (by omega) (by omega) f2
   simp [Rq, f1, f2, f3, f4, f5, f6, f7]
 ·rw [rC n h1 h2, if_neg f7]
  have f6 := Ev (j := 6) (by omega) (by omega) f7
  have f5 := Ev (j := 5) (by omega) (by omega) f6
  have f4 := Ev (j := 4) (by omega) (by omega) f5
  have f3 := Ev (j := 3) (by omega) (by omega) f4
  have f2 := Ev (j := 2) (by omega) (by omega) f3
  have f1 := Ev (j := 1) (by omega) (by omega) f2
  simp [Rq, f1, f2, f3, f4, f5, f6, f7]
theorem eN (n : Int) (h1 : -9223372036854775808 <= n) (h2 : n <= 9223372036854775807) (k : Nat) (hk : k <= 7) :
  Fp n (k + 1) = true ↔ (n / 256 ^ (k + 1) = 0 /\ ((Dz n k).toNat : Int) < 128) \/ (n / 256 ^ (k + 1) = -1 /\ (128 : Int) <= (Dz n k).toNat) := by
 match k, hk with
 | 0, _ => rw [En]; unfold Fp; simp; omega
 | 1, _ => rw [En]; unfold Fp; simp; omega
 | 2, _ => rw [En]; unfold Fp; simp; omega
 | 3, _ => rw [En]; unfold Fp; simp; omega
 | 4, _ => rw [En]; unfold Fp; simp; omega
 | 5, _ => rw [En]; unfold Fp; simp; omega
 | 6, _ => rw [En]; unfold Fp; simp; omega
 | 7, _ => rw [En]; unfold Fp; simp; omega
theorem Sd (n : Int) (k : Nat) (hk : k <= 7) : (lE n 8).drop (7 - k) = Dz n k :: (lE n 8).drop (8 - k) := by
 rw [be8]
 match k, hk with
 | 0, _ => rfl
 | 1, _ => rfl
 | 2, _ => rfl
 | 3, _ => rfl
 | 4, _ => rfl
 | 5, _ => rfl
 | 6, _ => rfl
 | 7, _ => rfl
theorem dK (n : Int) (k : Nat) (hk : k <= 7) (hn : ∀ j, 1 <= j -> j <= k -> Fp n j = false) (hf : Fp n (k + 1) = true) : Rq n = k + 1 := by
 have g := fun j (h1 : 1 <= j) (h2 : j <= k) => hn j h1 h2
 unfold Rq
 match k, hk, hf, g with
 | 0, _, hf, _ => simp [hf]
 | 1, _, hf, g => simp [hf, g 1 (by omega) (by omega)]
 | 2, _, hf, g => simp [hf, g 1 (by omega) (by omega), g 2 (by omega) (by omega)]
 | 3, _, hf, g => simp [hf, g 1 (by omega) (by omega), g 2 (by omega) (by omega), g 3 (by omega) (by omega)]
 | 4, _, hf, g => simp [hf, g 1 (by omega) (by omega), g 2 (by omega) (by omega), g 3 (by omega) (by omega), g 4 (by omega) (by omega)]
 | 5, _, hf, g => simp [hf, g 1 (by omega) (by omega), g 2 (by omega) (by omega), g 3 (by omega) (by omega), g 4 (by omega) (by omega), g 5 (by omega) (by omega)]
 | 6, _, hf, g => simp [hf, g 1 (by omega) (by omega), g 2 (by omega) (by omega), g 3 (by omega) (by omega), g 4 (by omega) (by omega), g 5 (by omega) (by omega), g 6 (by omega) (by omega)]
 | 7, _, _, g => simp [g 1 (by omega) (by omega), g 2 (by omega) (by omega), g 3 (by omega) (by omega), g 4 (by omega) (by omega), g 5 (by omega) (by omega), g 6 (by omega) (by omega), g 7 (by omega) (by omega)]
theorem mY (n : Int) (k : Nat) : n / 256 ^ (k + 1) / 256 = n / 256 ^ (k + 1 + 1) := by
 rw [Int.pow_succ 256 (k + 1)]
 have h : (0 : Int) <= 256 ^ (k + 1) := Int.pow_nonneg (by omega)
 first | exact Int.ediv_ediv_of_nonneg h | exact Int.ediv_ediv_eq_ediv_mul _ h | (rw [Int.ediv_ediv, if_neg (by omega)]; simp)
def be (n : Nat) : List UInt8 := if h : n = 0 then [] else be (n / 256) ++ [UInt8.ofNat (n % 256)]
termination_by n
decreasing_by omega
theorem aB2 : be 0 = [] := by rw [be]; rfl
theorem rL {n : Nat} (h : 0 < n) : be n = be (n / 256) ++ [UInt8.ofNat (n % 256)] := by rw [be]; rw [dif_neg (by omega)]
def uX (n : Nat) : Nat := (be n).length
theorem vU : uX 0 = 0 := by unfold uX; rw [aB2]; rfl
theorem kB {n : Nat} (h : 0 < n) : uX n = uX (n / 256) + 1 := by unfold uX; rw [rL h]; simp
theorem qZ (k : Nat) : ∀ n, n < 256 ^ k -> uX n <= k := by
 induction k with
 | zero =>
  intro n h; have : n = 0 := by simpa using h
  subst this; rw [vU]; omega
 | succ k ih =>
  intro n h
  rcases Nat.eq_zero_or_pos n with h0 | h0
  ·subst h0; rw [vU]; omega
  ·rw [kB h0]
   have := ih (n / 256) (by rw [Nat.pow_succ] at h; exact Nat.div_lt_of_lt_mul (by rw [Nat.mul_comm]; exact h))
   omega
def iG (n : Nat) : List UInt8 := if n < 128 then [UInt8.ofNat n] else UInt8.ofNat (128 + uX n) :: be n
mutual
def Ah.put : Ah -> List UInt8
 | .mk t b n es => UInt8.ofNat (t.toNat % 256) :: (iG ((if n then Gl es else b).length) ++ (if n then Gl es else b))
def Gl : List Ah -> List UInt8
 | [] => []
 | v :: vs => v.put ++ Gl vs
end
def Ah.body : Ah -> List UInt8 | .mk _ b n es => if n then Gl es else b
theorem wC (t : Int) (b : List UInt8) (n : Bool) (es : List Ah) : (Ah.mk t b n es).put = UInt8.ofNat (t.toNat % 256) :: (iG (Ah.mk t b n es).body.length ++ (Ah.mk t b n es).body) := by rw [Ah.put]; rfl
theorem Ox : ∀ a b : List Ah, Gl (a ++ b) = Gl a ++ Gl b
 | [], b => by simp [Gl]
 | v :: vs, b => by rw [List.cons_append, Gl, Gl, Ox vs b, List.append_assoc]
theorem U7 {es : List Ah} {k : Nat} {d : Ah} (h : es[k]? = some d) : Gl (es.take (k + 1)) = Gl (es.take k) ++ d.put := by
 obtain ⟨hk, e⟩ := List.getElem?_eq_some_iff.1 h
 rw [List.take_succ_eq_append_getElem hk, Ox, e]
 simp [Gl]
theorem Zc {es : List Ah} (k : Nat) : (Gl (es.take k)).length <= (Gl es).length := by
 have := Ox (es.take k) (es.drop k)
 rw [List.take_append_drop] at this
 rw [this, List.length_append]; omega
theorem aX {n : Nat} (h : n < 256 ^ 6) : (iG n).length <= 7 := by
 unfold iG
 split
 ·simp
 ·have := qZ 6 n h
  unfold uX at this
  simp; omega
end Go.Proofs.YtidpkjdkfkkgiaaGreat
