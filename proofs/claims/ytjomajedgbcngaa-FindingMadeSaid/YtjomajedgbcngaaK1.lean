import Derived.Test.YtjomajedgbcngaaL1
import Derived.Test.YtjomajedgbcngaaP1
set_option linter.unusedVariables false
set_option linter.unusedSimpArgs false
namespace Go.Proofs.Ytjomajedgbcngaa
open Go
def Dv (s b : Int) : Int := if b = 0 then s else 0
def fY (b : Int) : Int := if b < 1024 then 56 else if b < 2048 then 80 else if b < 3072 then 112 else if b < 7680 then 128 else if b < 15360 then 192 else 256
def E1 (b : Int) : Int := if 512 <= b /\ b <= 16384 then fY b else 0
def Ly (b : Int) : Int := if b = 160 \/ b = 224 \/ b = 256 \/ b = 384 \/ b = 521 then b / 2 else 0
def N0 (sizes strengths : List Int) (b : Int) : Int := match sizes.findIdx? (fun e => decide (b = e)) with | some i => strengths.getD i 0 | none => 0
def Gk : Nat -> Int -> Int
 | 1 => Dv 18
 | 2 => Dv 60
 | 3 => Dv 128
 | 4 => Dv 192
 | 5 => E1
 | 6 => E1
 | 7 => Ly
 | 8 => Dv 128
 | 9 => N0 [44, 65, 87] [128, 192, 256]
 | 10 => E1
 | 11 => E1
 | 12 => Ly
 | 13 => N0 [512, 768, 1024] [128, 192, 256]
 | 14 => N0 [40, 128] [40, 60]
 | 15 => N0 [112, 168] [80, 112]
 | 16 => N0 [128, 256] [128, 256]
 | 17 => N0 [128, 256] [128, 256]
 | 18 => Dv 256
 | 19 => Dv 64
 | 20 => Dv 80
 | 21 => Dv 128
 | 22 => Dv 256
 | _ => fun _ => 0
def nZ : Nat -> Int
 | 1 => 1
 | 2 => 1
 | 3 => 1
 | 4 => 1
 | 5 => 2
 | 6 => 2
 | 7 => 2
 | 8 => 2
 | 9 => 2
 | 10 => 3
 | 11 => 3
 | 12 => 3
 | 13 => 3
 | 14 => 4
 | 15 => 4
 | 16 => 4
 | 17 => 4
 | 18 => 4
 | 19 => 5
 | 20 => 5
 | 21 => 5
 | 22 => 5
 | _ => 0
def Py (u : Bk) : Int := if 1 <= u.Alg /\ u.Alg <= 22 then Gk u.Alg.toNat u.Bits else 0
def Pp (a : Int) : Int := if 1 <= a /\ a <= 22 then nZ a.toNat else 0
theorem Ee (b : Int) (sizes strengths : List Int) (h : sizes.length = strengths.length) (hl : sizes.length < 1000000) : Bs b sizes strengths = some (N0 sizes strengths b) := by
 unfold Bs N0
 refine (Uq (body := fun q' => Bs.l1 b sizes strengths q') sizes (fun i => (i : Int)) (fun e => decide (b = e)) (fun i => strengths.getD i 0) 0 (fun i x hx => ?_) ?_).trans ?_
 ·have h1 := Rp hx
  show Bs.l1 b sizes strengths (i : Int) = _
  unfold Bs.l1
  rw [K5 hx, Dj, N5 (by omega)]
  have hs : strengths[i]? = some (strengths.getD i 0) := by
   rw [List.getD_eq_getElem?_getD, List.getElem?_eq_getElem (by omega)]; rfl
  by_cases e : b = x
  ·rw [decide_eq_true e.symm, decide_eq_true e, hs]; rfl
  ·rw [decide_eq_false (fun e' => e e'.symm), decide_eq_false e]; rfl
 ·show Bs.l1 b sizes strengths (sizes.length : Int) = _
  unfold Bs.l1
  rw [J9]; rfl
 ·rfl
theorem I9 (s : List Int) (v : Int) (hl : s.length < 4611686018427387904) : Bx s v = some (match s.findIdx? (fun e => decide (v = e)) with | some i => (i : Int) | none => -1) := by
 unfold Bx
 refine Uq (body := fun q' => Bx.l1 s v q') s (fun i => (i : Int)) (fun e => decide (v = e)) (fun i => (i : Int)) (-1) (fun i x hx => ?_) ?_
 ·have h1 := Rp hx
  show Bx.l1 s v (i : Int) = _
  unfold Bx.l1
  rw [K5 hx, N5 (by omega)]
  cases decide (v = x) <;> rfl
 ·show Bx.l1 s v (s.length : Int) = _
  unfold Bx.l1
  rw [J9]; rfl
theorem Qi (s : List Int) (v : Int) (hl : s.length < 4611686018427387904) : Dw s v = some (decide (v ∈ s)) := by
 unfold Dw
 rw [I9 s v hl, Option.bind_some]
 cases h : s.findIdx? (fun e => decide (v = e)) with
 | none =>
  have := List.findIdx?_eq_none_iff.1 h
  have hn : ¬ v ∈ s := fun hm => by have := this v hm; simp at this
  rw [decide_eq_false hn]; rfl
 | some i =>
  have h2 := List.findIdx?_isSome (xs := s) (p := fun e => decide (v = e))
  rw [h] at h2
  have : v ∈ s := by
   have h3 := h2.symm
   rw [Option.isSome_some, List.any_eq_true] at h3
   obtain ⟨x, hx, e⟩ := h3
   rw [of_decide_eq_true e]; exact hx
  rw [decide_eq_true this]
  simp
theorem Sk (b : Int) : Cs b = some (fY b) := by
 have s0 : Cs.l1 b 0 = some (if b < 1024 then .done 56 else .next 1) := by
  by_cases h : b < 1024
  ·rw [if_pos h]; show cond (decide (b < 1024)) _ _ = _; rw [decide_eq_true h]; rfl
  ·rw [if_neg h]; show cond (decide (b < 1024)) _ _ = _; rw [decide_eq_false h]; rfl
 have s1 : Cs.l1 b 1 = some (if b < 2048 then .done 80 else .next 2) := by
  by_cases h : b < 2048
  ·rw [if_pos h]; show cond (decide (b < 2048)) _ _ = _; rw [decide_eq_true h]; rfl
  ·rw [if_neg h]; show cond (decide (b < 2048)) _ _ = _; rw [decide_eq_false h]; rfl
 have s2 : Cs.l1 b 2 = some (if b < 3072 then .done 112 else .next 3) := by
  by_cases h : b < 3072
  ·rw [if_pos h]; show cond (decide (b < 3072)) _ _ = _; rw [decide_eq_true h]; rfl
  ·rw [if_neg h]; show cond (decide (b < 3072)) _ _ = _; rw [decide_eq_false h]; rfl
 have s3 : Cs.l1 b 3 = some (if b < 7680 then .done 128 else .next 4) := by
  by_cases h : b < 7680
  ·rw [if_pos h]; show cond (decide (b < 7680)) _ _ = _; rw [decide_eq_true h]; rfl
  ·rw [if_neg h]; show cond (decide (b < 7680)) _ _ = _; rw [decide_eq_false h]; rfl
 have s4 : Cs.l1 b 4 = some (if b < 15360 then .done 192 else .next 5) := by
  by_cases h : b < 15360
  ·rw [if_pos h]; show cond (decide (b < 15360)) _ _ = _; rw [decide_eq_true h]; rfl
  ·rw [if_neg h]; show cond (decide (b < 15360)) _ _ = _; rw [decide_eq_false h]; rfl
 have s5 : Cs.l1 b 5 = some (.done 256) := rfl
 unfold Cs fY
 rw [G7, s0]
 split
 ·rfl
 show Cy _ (1 : Int) = _
 rw [G7, s1]
 split
 ·rfl
 show Cy _ (2 : Int) = _
 rw [G7, s2]
 split
 ·rfl
 show Cy _ (3 : Int) = _
 rw [G7, s3]
 split
 ·rfl
 show Cy _ (4 : Int) = _
 rw [G7, s4]
 split
 ·rfl
 show Cy _ (5 : Int) = _
 rw [G7, s5]; rfl
theorem Sd (b : Int) : C2 b = some (E1 b) := by
 unfold C2 C2.j1 E1 fY
 by_cases h1 : b < 512
 ·rw [decide_eq_true h1, if_neg (by omega)]; rfl
 ·by_cases h2 : 16384 < b
  ·rw [decide_eq_false h1, decide_eq_true h2, if_neg (by omega)]; rfl
  ·rw [decide_eq_false h1, decide_eq_false h2, if_pos (by omega)]
   simp only [cond_false]
   by_cases a : b < 1024
   ·simp [a]
   by_cases a2 : b < 2048
   ·simp [a, a2]
   by_cases a3 : b < 3072
   ·simp [a, a2, a3]
   by_cases a4 : b < 7680
   ·simp [a, a2, a3, a4]
   by_cases a5 : b < 15360 <;> simp [a, a2, a3, a4, a5]
theorem nP (b : Int) : A7 ⟨1, b⟩ = some (Gk 1 b) := by
 show cond (decide (b = 0)) (some 18) (some 0) = some (Dv 18 b)
 unfold Dv
 by_cases h : b = 0 <;> simp [h]
theorem oA (b : Int) : Au ⟨1, b⟩ = some (Gk 1 b) := by
 show (Bs b [0] [18]).bind (fun y_8 => some y_8) = some (Dv 18 b)
 rw [Ee b [0] [18] rfl (by decide)]
 unfold N0 Dv
 by_cases h : b = 0 <;> simp [h]
theorem nY (b : Int) : A7 ⟨2, b⟩ = some (Gk 2 b) := by
 show cond (decide (b = 0)) (some 60) (some 0) = some (Dv 60 b)
 unfold Dv
 by_cases h : b = 0 <;> simp [h]
theorem mK (b : Int) : Au ⟨2, b⟩ = some (Gk 2 b) := by
 show (Bs b [0] [60]).bind (fun y_8 => some y_8) = some (Dv 60 b)
 rw [Ee b [0] [60] rfl (by decide)]
 unfold N0 Dv
 by_cases h : b = 0 <;> simp [h]
theorem mU (b : Int) : A7 ⟨3, b⟩ = some (Gk 3 b) := by
 show cond (decide (b = 0)) (some 128) (some 0) = some (Dv 128 b)
 unfold Dv
 by_cases h : b = 0 <;> simp [h]
theorem oL (b : Int) : Au ⟨3, b⟩ = some (Gk 3 b) := by
 show (Bs b [0] [128]).bind (fun y_8 => some y_8) = some (Dv 128 b)
 rw [Ee b [0] [128] rfl (by decide)]
 unfold N0 Dv
 by_cases h : b = 0 <;> simp [h]
theorem nX (b : Int) : A7 ⟨4, b⟩ = some (Gk 4 b) := by
 show cond (decide (b = 0)) (some 192) (some 0) = some (Dv 192 b)
 unfold Dv
 by_cases h : b = 0 <;> simp [h]
theorem nF (b : Int) : Au ⟨4, b⟩ = some (Gk 4 b) := by
 show (Bs b [0] [192]).bind (fun y_8 => some y_8) = some (Dv 192 b)
 rw [Ee b [0] [192] rfl (by decide)]
 unfold N0 Dv
 by_cases h : b = 0 <;> simp [h]
theorem mY (b : Int) : A7 ⟨5, b⟩ = some (Gk 5 b) := by
 show cond (decide (512 <= b)) (A7.j1 ⟨5, b⟩ (decide (b <= 16384))) (A7.j1 ⟨5, b⟩ false) = some (E1 b)
 unfold A7.j1 E1
 rw [Sk]
 by_cases h1 : 512 <= b <;> by_cases h2 : b <= 16384 <;> simp [h1, h2]
theorem nT (b : Int) : Au ⟨5, b⟩ = some (Gk 5 b) := by
 show (C2 b).bind (fun y => some y) = some (E1 b)
 rw [Sd]; rfl
theorem mN (b : Int) : A7 ⟨6, b⟩ = some (Gk 6 b) := by
 show cond (decide (512 <= b)) (A7.j1 ⟨6, b⟩ (decide (b <= 16384))) (A7.j1 ⟨6, b⟩ false) = some (E1 b)
 unfold A7.j1 E1
 rw [Sk]
 by_cases h1 : 512 <= b <;> by_cases h2 : b <= 16384 <;> simp [h1, h2]
theorem oF (b : Int) : Au ⟨6, b⟩ = some (Gk 6 b) := by
 show (C2 b).bind (fun y => some y) = some (E1 b)
 rw [Sd]; rfl
theorem mM (b : Int) : A7 ⟨7, b⟩ = some (Gk 7 b) := by
 show (Dw [160, 224, 256, 384, 521] b).bind (fun y_3 => cond y_3 ((Md b 2).bind fun q => some q) (some 0)) = some (Ly b)
 rw [Qi _ _ (by decide)]
 unfold Ly
 by_cases h : b = 160 \/ b = 224 \/ b = 256 \/ b = 384 \/ b = 521
 ·rw [if_pos h, decide_eq_true (by simpa using h)]
  rcases h with h | h | h | h | h <;> (subst h; rfl)
 ·rw [if_neg h, decide_eq_false (by simpa using h)]; rfl
theorem oK (b : Int) : Au ⟨7, b⟩ = some (Gk 7 b) := by
 show Au.j2 ⟨7, b⟩ true = some (Ly b)
 unfold Au.j2 Au.j3 Ly
 by_cases h : b = 160 \/ b = 224 \/ b = 256 \/ b = 384 \/ b = 521
 ·rw [if_pos h]
  rcases h with h | h | h | h | h <;> (subst h; rfl)
 ·rw [if_neg h]
  have h1 : ¬ b = 160 := by omega
  have h2 : ¬ b = 224 := by omega
  have h3 : ¬ b = 256 := by omega
  have h4 : ¬ b = 384 := by omega
  have h5 : ¬ b = 521 := by omega
  simp [h1, h2, h3, h4, h5]
theorem oV (b : Int) : A7 ⟨8, b⟩ = some (Gk 8 b) := by
 show cond (decide (b = 0)) (some 128) (some 0) = some (Dv 128 b)
 unfold Dv
 by_cases h : b = 0 <;> simp [h]
theorem nN (b : Int) : Au ⟨8, b⟩ = some (Gk 8 b) := by
 show (Bs b [0] [128]).bind (fun y_8 => some y_8) = some (Dv 128 b)
 rw [Ee b [0] [128] rfl (by decide)]
 unfold N0 Dv
 by_cases h : b = 0 <;> simp [h]
theorem oH (b : Int) : A7 ⟨9, b⟩ = some (Gk 9 b) := by
 show (Bx [44, 65, 87] b).bind (fun y_4 => cond (decide (0 <= y_4)) ((Cc [128, 192, 256] y_4).bind fun e_2 => some e_2) (some 0)) = some (N0 [44, 65, 87] [128, 192, 256] b)
 rw [I9 _ _ (by decide)]
 unfold N0
 cases h : List.findIdx? (fun e => decide (b = e)) [44, 65, 87] with
 | none => rfl
 | some i =>
  have hi := (List.findIdx?_eq_some_iff_getElem.1 h).1
  have : i < 3 := hi
  rcases (by omega : i = 0 \/ i = 1 \/ i = 2) with h | h | h <;> (subst h; rfl)
theorem nU (b : Int) : Au ⟨9, b⟩ = some (Gk 9 b) := by
 show (Bs b [44, 65, 87] [128, 192, 256]).bind (fun y => some y) = some (N0 [44, 65, 87] [128, 192, 256] b)
 rw [Ee b [44, 65, 87] [128, 192, 256] rfl (by decide)]; rfl
theorem kW (b : Int) : A7 ⟨10, b⟩ = some (Gk 10 b) := by
 show cond (decide (512 <= b)) (A7.j1 ⟨10, b⟩ (decide (b <= 16384))) (A7.j1 ⟨10, b⟩ false) = some (E1 b)
 unfold A7.j1 E1
 rw [Sk]
 by_cases h1 : 512 <= b <;> by_cases h2 : b <= 16384 <;> simp [h1, h2]
theorem lR (b : Int) : Au ⟨10, b⟩ = some (Gk 10 b) := by
 show (C2 b).bind (fun y => some y) = some (E1 b)
 rw [Sd]; rfl
theorem iT (b : Int) : A7 ⟨11, b⟩ = some (Gk 11 b) := by
 show cond (decide (512 <= b)) (A7.j1 ⟨11, b⟩ (decide (b <= 16384))) (A7.j1 ⟨11, b⟩ false) = some (E1 b)
 unfold A7.j1 E1
 rw [Sk]
 by_cases h1 : 512 <= b <;> by_cases h2 : b <= 16384 <;> simp [h1, h2]
theorem jE (b : Int) : Au ⟨11, b⟩ = some (Gk 11 b) := by
 show (C2 b).bind (fun y => some y) = some (E1 b)
 rw [Sd]; rfl
theorem lU (b : Int) : A7 ⟨12, b⟩ = some (Gk 12 b) := by
 show (Dw [160, 224, 256, 384, 521] b).bind (fun y_3 => cond y_3 ((Md b 2).bind fun q => some q) (some 0)) = some (Ly b)
 rw [Qi _ _ (by decide)]
 unfold Ly
 by_cases h : b = 160 \/ b = 224 \/ b = 256 \/ b = 384 \/ b = 521
 ·rw [if_pos h, decide_eq_true (by simpa using h)]
  rcases h with h | h | h | h | h <;> (subst h; rfl)
 ·rw [if_neg h, decide_eq_false (by simpa using h)]; rfl
theorem iI (b : Int) : Au ⟨12, b⟩ = some (Gk 12 b) := by
 show Au.j2 ⟨12, b⟩ true = some (Ly b)
 unfold Au.j2 Au.j3 Ly
 by_cases h : b = 160 \/ b = 224 \/ b = 256 \/ b = 384 \/ b = 521
 ·rw [if_pos h]
  rcases h with h | h | h | h | h <;> (subst h; rfl)
 ·rw [if_neg h]
  have h1 : ¬ b = 160 := by omega
  have h2 : ¬ b = 224 := by omega
  have h3 : ¬ b = 256 := by omega
  have h4 : ¬ b = 384 := by omega
  have h5 : ¬ b = 521 := by omega
  simp [h1, h2, h3, h4, h5]
theorem jI (b : Int) : A7 ⟨13, b⟩ = some (Gk 13 b) := by
 show (Bx [512, 768, 1024] b).bind (fun y_4 => cond (decide (0 <= y_4)) ((Cc [128, 192, 256] y_4).bind fun e_2 => some e_2) (some 0)) = some (N0 [512, 768, 1024] [128, 192, 256] b)
 rw [I9 _ _ (by decide)]
 unfold N0
 cases h : List.findIdx? (fun e => decide (b = e)) [512, 768, 1024] with
 | none => rfl
 | some i =>
  have hi := (List.findIdx?_eq_some_iff_getElem.1 h).1
  have : i < 3 := hi
  rcases (by omega : i = 0 \/ i = 1 \/ i = 2) with h | h | h <;> (subst h; rfl)
theorem mC (b : Int) : Au ⟨13, b⟩ = some (Gk 13 b) := by
 show (Bs b [512, 768, 1024] [128, 192, 256]).bind (fun y => some y) = some (N0 [512, 768, 1024] [128, 192, 256] b)
 rw [Ee b [512, 768, 1024] [128, 192, 256] rfl (by decide)]; rfl
theorem kY (b : Int) : A7 ⟨14, b⟩ = some (Gk 14 b) := by
 show (Bx [40, 128] b).bind (fun y_4 => cond (decide (0 <= y_4)) ((Cc [40, 60] y_4).bind fun e_2 => some e_2) (some 0)) = some (N0 [40, 128] [40, 60] b)
 rw [I9 _ _ (by decide)]
 unfold N0
 cases h : List.findIdx? (fun e => decide (b = e)) [40, 128] with
 | none => rfl
 | some i =>
  have hi := (List.findIdx?_eq_some_iff_getElem.1 h).1
  have : i < 2 := hi
  rcases (by omega : i = 0 \/ i = 1) with h | h <;> (subst h; rfl)
theorem jR (b : Int) : Au ⟨14, b⟩ = some (Gk 14 b) := by
 show (Bs b [40, 128] [40, 60]).bind (fun y => some y) = some (N0 [40, 128] [40, 60] b)
 rw [Ee b [40, 128] [40, 60] rfl (by decide)]; rfl
theorem hZ (b : Int) : A7 ⟨15, b⟩ = some (Gk 15 b) := by
 show (Bx [112, 168] b).bind (fun y_4 => cond (decide (0 <= y_4)) ((Cc [80, 112] y_4).bind fun e_2 => some e_2) (some 0)) = some (N0 [112, 168] [80, 112] b)
 rw [I9 _ _ (by decide)]
 unfold N0
 cases h : List.findIdx? (fun e => decide (b = e)) [112, 168] with
 | none => rfl
 | some i =>
  have hi := (List.findIdx?_eq_some_iff_getElem.1 h).1
  have : i < 2 := hi
  rcases (by omega : i = 0 \/ i = 1) with h | h <;> (subst h; rfl)
theorem lS (b : Int) : Au ⟨15, b⟩ = some (Gk 15 b) := by
 show (Bs b [112, 168] [80, 112]).bind (fun y => some y) = some (N0 [112, 168] [80, 112] b)
 rw [Ee b [112, 168] [80, 112] rfl (by decide)]; rfl
theorem lI (b : Int) : A7 ⟨16, b⟩ = some (Gk 16 b) := by
 show (Bx [128, 256] b).bind (fun y_4 => cond (decide (0 <= y_4)) ((Cc [128, 256] y_4).bind fun e_2 => some e_2) (some 0)) = some (N0 [128, 256] [128, 256] b)
 rw [I9 _ _ (by decide)]
 unfold N0
 cases h : List.findIdx? (fun e => decide (b = e)) [128, 256] with
 | none => rfl
 | some i =>
  have hi := (List.findIdx?_eq_some_iff_getElem.1 h).1
  have : i < 2 := hi
  rcases (by omega : i = 0 \/ i = 1) with h | h <;> (subst h; rfl)
theorem jZ (b : Int) : Au ⟨16, b⟩ = some (Gk 16 b) := by
 show (Bs b [128, 256] [128, 256]).bind (fun y => some y) = some (N0 [128, 256] [128, 256] b)
 rw [Ee b [128, 256] [128, 256] rfl (by decide)]; rfl
theorem kJ (b : Int) : A7 ⟨17, b⟩ = some (Gk 17 b) := by
 show (Bx [128, 256] b).bind (fun y_4 => cond (decide (0 <= y_4)) ((Cc [128, 256] y_4).bind fun e_2 => some e_2) (some 0)) = some (N0 [128, 256] [128, 256] b)
 rw [I9 _ _ (by decide)]
 unfold N0
 cases h : List.findIdx? (fun e => decide (b = e)) [128, 256] with
 | none => rfl
 | some i =>
  have hi := (List.findIdx?_eq_some_iff_getElem.1 h).1
  have : i < 2 := hi
  rcases (by omega : i = 0 \/ i = 1) with h | h <;> (subst h; rfl)
theorem jN (b : Int) : Au ⟨17, b⟩ = some (Gk 17 b) := by
 show (Bs b [128, 256] [128, 256]).bind (fun y => some y) = some (N0 [128, 256] [128, 256] b)
 rw [Ee b [128, 256] [128, 256] rfl (by decide)]; rfl
theorem iZ (b : Int) : A7 ⟨18, b⟩ = some (Gk 18 b) := by
 show cond (decide (b = 0)) (some 256) (some 0) = some (Dv 256 b)
 unfold Dv
 by_cases h : b = 0 <;> simp [h]
theorem kN (b : Int) : Au ⟨18, b⟩ = some (Gk 18 b) := by
 show (Bs b [0] [256]).bind (fun y_8 => some y_8) = some (Dv 256 b)
 rw [Ee b [0] [256] rfl (by decide)]
 unfold N0 Dv
 by_cases h : b = 0 <;> simp [h]
theorem hQ (b : Int) : A7 ⟨19, b⟩ = some (Gk 19 b) := by
 show cond (decide (b = 0)) (some 64) (some 0) = some (Dv 64 b)
 unfold Dv
 by_cases h : b = 0 <;> simp [h]
theorem kC (b : Int) : Au ⟨19, b⟩ = some (Gk 19 b) := by
 show (Bs b [0] [64]).bind (fun y_8 => some y_8) = some (Dv 64 b)
 rw [Ee b [0] [64] rfl (by decide)]
 unfold N0 Dv
 by_cases h : b = 0 <;> simp [h]
theorem kD (b : Int) : A7 ⟨20, b⟩ = some (Gk 20 b) := by
 show cond (decide (b = 0)) (some 80) (some 0) = some (Dv 80 b)
 unfold Dv
 by_cases h : b = 0 <;> simp [h]
theorem iJ (b : Int) : Au ⟨20, b⟩ = some (Gk 20 b) := by
 show (Bs b [0] [80]).bind (fun y_8 => some y_8) = some (Dv 80 b)
 rw [Ee b [0] [80] rfl (by decide)]
 unfold N0 Dv
 by_cases h : b = 0 <;> simp [h]
theorem lQ (b : Int) : A7 ⟨21, b⟩ = some (Gk 21 b) := by
 show cond (decide (b = 0)) (some 128) (some 0) = some (Dv 128 b)
 unfold Dv
 by_cases h : b = 0 <;> simp [h]
theorem lJ (b : Int) : Au ⟨21, b⟩ = some (Gk 21 b) := by
 show (Bs b [0] [128]).bind (fun y_8 => some y_8) = some (Dv 128 b)
 rw [Ee b [0] [128] rfl (by decide)]
 unfold N0 Dv
 by_cases h : b = 0 <;> simp [h]
theorem iN (b : Int) : A7 ⟨22, b⟩ = some (Gk 22 b) := by
 show cond (decide (b = 0)) (some 256) (some 0) = some (Dv 256 b)
 unfold Dv
 by_cases h : b = 0 <;> simp [h]
theorem hY (b : Int) : Au ⟨22, b⟩ = some (Gk 22 b) := by
 show (Bs b [0] [256]).bind (fun y_8 => some y_8) = some (Dv 256 b)
 rw [Ee b [0] [256] rfl (by decide)]
 unfold N0 Dv
 by_cases h : b = 0 <;> simp [h]
theorem O7 {a : Int} (h : 1 <= a /\ a <= 22) : a = 1 \/ a = 2 \/ a = 3 \/ a = 4 \/ a = 5 \/ a = 6 \/ a = 7 \/ a = 8 \/ a = 9 \/ a = 10 \/ a = 11 \/ a = 12 \/ a = 13 \/ a = 14 \/ a = 15 \/ a = 16 \/ a = 17 \/ a = 18 \/ a = 19 \/ a = 20 \/ a = 21 \/ a = 22 := by omega
theorem Vr (u : Bk) : A7 u = some (Py u) := by
 obtain ⟨a, b⟩ := u
 unfold Py
 by_cases h0 : 1 <= a /\ a <= 22
 ·rw [if_pos h0]
  rcases O7 h0 with h | h | h | h | h | h | h | h | h | h | h | h | h | h | h | h | h | h | h | h | h | h <;> subst h
  ·exact nP b
  ·exact nY b
  ·exact mU b
  ·exact nX b
  ·exact mY b
  ·exact mN b
  ·exact mM b
  ·exact oV b
  ·exact oH b
  ·exact kW b
  ·exact iT b
  ·exact lU b
  ·exact jI b
  ·exact kY b
  ·exact hZ b
  ·exact lI b
  ·exact kJ b
  ·exact iZ b
  ·exact hQ b
  ·exact kD b
  ·exact lQ b
  ·exact iN b
 ·rw [if_neg h0]
  unfold A7 Dn
  by_cases h1 : a < 1
  ·simp [h1, Dn.j1]
  ·have h2 : 22 < a := by omega
   simp [h1, h2, Dn.j1]
theorem Vc (u : Bk) : Au u = some (Py u) := by
 obtain ⟨a, b⟩ := u
 unfold Py
 by_cases h0 : 1 <= a /\ a <= 22
 ·rw [if_pos h0]
  rcases O7 h0 with h | h | h | h | h | h | h | h | h | h | h | h | h | h | h | h | h | h | h | h | h | h <;> subst h
  ·exact oA b
  ·exact mK b
  ·exact oL b
  ·exact nF b
  ·exact nT b
  ·exact oF b
  ·exact oK b
  ·exact nN b
  ·exact nU b
  ·exact lR b
  ·exact jE b
  ·exact iI b
  ·exact mC b
  ·exact jR b
  ·exact lS b
  ·exact jZ b
  ·exact jN b
  ·exact kN b
  ·exact kC b
  ·exact iJ b
  ·exact lJ b
  ·exact hY b
 ·rw [if_neg h0]
  have h1 : ¬ a = 1 := by omega
  have h2 : ¬ a = 2 := by omega
  have h3 : ¬ a = 3 := by omega
  have h4 : ¬ a = 4 := by omega
  have h5 : ¬ a = 5 := by omega
  have h6 : ¬ a = 6 := by omega
  have h7 : ¬ a = 7 := by omega
  have h8 : ¬ a = 8 := by omega
  have h9 : ¬ a = 9 := by omega
  have h10 : ¬ a = 10 := by omega
  have h11 : ¬ a = 11 := by omega
  have h12 : ¬ a = 12 := by omega
  have h13 : ¬ a = 13 := by omega
  have h14 : ¬ a = 14 := by omega
  have h15 : ¬ a = 15 := by omega
  have h16 : ¬ a = 16 := by omega
  have h17 : ¬ a = 17 := by omega
  have h18 : ¬ a = 18 := by omega
  have h19 : ¬ a = 19 := by omega
  have h20 : ¬ a = 20 := by omega
  have h21 : ¬ a = 21 := by omega
  have h22 : ¬ a = 22 := by omega
  simp [Au, Au.j1, Au.j2, Au.j4, Ct, Ct.j1, Ct.j2, h1, h2, h3, h4, h5, h6, h7, h8, h9, h10, h11, h12, h13, h14, h15, h16, h17, h18, h19, h20, h21, h22]
  rw [Ee b [0] [0] rfl (by decide)]
  unfold N0
  by_cases h : b = 0 <;> simp [h]
theorem Tv (a : Int) : F8 a = some (Pp a) := by
 unfold Pp
 by_cases h0 : 1 <= a /\ a <= 22
 ·rw [if_pos h0]
  rcases O7 h0 with h | h | h | h | h | h | h | h | h | h | h | h | h | h | h | h | h | h | h | h | h | h <;> (subst h; rfl)
 ·rw [if_neg h0]
  unfold F8 Dn
  by_cases h1 : a < 1
  ·simp [h1, Dn.j1]
  ·have h2 : 22 < a := by omega
   simp [h1, h2, Dn.j1]
theorem cI (a : Int) : D4 a = some (Pp a) := by
 unfold Pp
 by_cases h0 : 1 <= a /\ a <= 22
 ·rw [if_pos h0]
  rcases O7 h0 with h | h | h | h | h | h | h | h | h | h | h | h | h | h | h | h | h | h | h | h | h | h <;> (subst h; rfl)
 ·rw [if_neg h0]
  unfold D4
  by_cases h1 : a < 1
  ·simp [h1, D4.j1]
  ·have h2 : 22 < a := by omega
   simp [h1, h2, D4.j1]
theorem O5 (u : Bk) : Ek u = some (decide (0 < Py u)) := by unfold Ek; rw [Vr]; rfl
theorem Un (u : Bk) : Hd u = some (decide (0 < Py u)) := by unfold Hd; rw [Vc]; rfl
end Go.Proofs.Ytjomajedgbcngaa
