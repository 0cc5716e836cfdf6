import Derived.Test.YtjomajedgbcngaaK1
set_option linter.unusedVariables false
set_option linter.unusedSimpArgs false
namespace Go.Proofs.Ytjomajedgbcngaa
open Go
theorem Yi {i n : Nat} (h : i < n) (hn : n <= 9223372036854775807) : W ((i : Int) + 1) = ((i + 1 : Nat) : Int) := by
 rw [D0 (by omega)]; omega
theorem U9 (s : ByteArray) : (Hk s).length = s.size := by unfold Hk; rw [Array.length_toList]; rfl
theorem fJ {s : ByteArray} {i : Nat} {c : UInt8} (h : (Hk s)[i]? = some c) : Wq s (i : Int) = some c := by
 unfold Wq
 rw [if_neg (by omega), Int.toNat_natCast]
 unfold Hk at h
 rw [<- h]; simp
def gO (c : UInt8) : Bool := decide (33 <= (c.toNat : Int)) && decide ((c.toNat : Int) <= 126)
def Ic (s : ByteArray) : Bool := decide (1 <= (s.size : Int)) && decide ((s.size : Int) <= 32) && !(Hk s).any (fun c => !gO c)
theorem Ja (s : ByteArray) (hs : s.size <= 9223372036854775807) : Br s = some (Ic s) := by
 unfold Br Ic
 refine (Sz (body := fun q' => Br.l1 s q') (Hk s) (fun i => (i : Int)) (fun c => !gO c) false (decide (1 <= (s.size : Int)) && decide ((s.size : Int) <= 32)) (fun i c hc => ?_) ?_).trans ?_
 ·have h1 := Rp hc
  rw [U9] at h1
  show Br.l1 s (i : Int) = _
  unfold Br.l1 Br.j2 gO
  rw [K5 hc, Yi h1 hs]
  by_cases a : (c.toNat : Int) <= 32
  ·rw [decide_eq_true a, decide_eq_false (show ¬ (33 : Int) <= (c.toNat : Int) by omega)]; rfl
  ·rw [decide_eq_false a, decide_eq_true (show (33 : Int) <= (c.toNat : Int) by omega)]
   by_cases b : 126 < (c.toNat : Int)
   ·rw [decide_eq_true b, decide_eq_false (by omega)]; rfl
   ·rw [decide_eq_false b, decide_eq_true (by omega)]; rfl
 ·show Br.l1 s ((Hk s).length : Int) = _
  unfold Br.l1
  rw [J9]
  by_cases a : (1 : Int) <= (s.size : Int) <;> simp [a, up]
 ·cases (Hk s).any fun c => !gO c <;> simp
theorem Tn (s : ByteArray) (hs : s.size <= 9223372036854775807) : B3 s = some (Ic s) := by
 unfold B3 Ic
 have hl : B3.j1 s false = some (!(Hk s).any fun c => !gO c) := by
  unfold B3.j1
  rw [cond_false]
  refine (Sz (body := fun q' => B3.l2 s q') (Hk s) (fun i => (i : Int)) (fun c => !gO c) false true (fun i c hc => ?_) ?_).trans ?_
  ·have h1 := Rp hc
   rw [U9] at h1
   show B3.l2 s (i : Int) = _
   unfold B3.l2 B3.j3 gO
   rw [decide_eq_true (by omega), cond_true, fJ hc, Option.bind_some, Option.bind_some, Yi h1 hs]
   by_cases a : (c.toNat : Int) < 33
   ·rw [decide_eq_true a, decide_eq_false (show ¬ (33 : Int) <= (c.toNat : Int) by omega)]; rfl
   ·rw [decide_eq_false a, decide_eq_true (show (33 : Int) <= (c.toNat : Int) by omega)]
    by_cases b : 126 < (c.toNat : Int)
    ·rw [decide_eq_true b, decide_eq_false (by omega)]; rfl
    ·rw [decide_eq_false b, decide_eq_true (by omega)]; rfl
  ·show B3.l2 s ((Hk s).length : Int) = _
   unfold B3.l2
   rw [U9, J9]; rfl
  ·cases (Hk s).any fun c => !gO c <;> rfl
 by_cases a : (s.size : Int) < 1
 ·rw [decide_eq_true a, decide_eq_false (show ¬ (1 : Int) <= (s.size : Int) by omega)]; rfl
 ·rw [decide_eq_false a, decide_eq_true (show (1 : Int) <= (s.size : Int) by omega), cond_false]
  by_cases b : 32 < (s.size : Int)
  ·rw [decide_eq_true b, decide_eq_false (by omega)]; rfl
  ·rw [decide_eq_false b, decide_eq_true (by omega), hl]; simp
end Go.Proofs.Ytjomajedgbcngaa
