/- Plain texts, joined. No program is in sight here. -/
import Derived.Test.YtkoflhimdenjaaaGreatL3
import Derived.Test.YtkoflhimdenjaaaGreatP1
set_option linter.unusedVariables false
set_option linter.unusedSimpArgs false
namespace Go.Proofs.YtkoflhimdenjaaaGreat
section
open Go
def D6 (s b : Int) : Int := if b = 0 then s else 0
def rZ (b : Int) : Int := if b < 1024 then 56 else if b < 2048 then 80 else if b < 3072 then 112 else if b < 7680 then 128 else if b < 15360 then 192 else 256
def Fr (b : Int) : Int := if 512 <= b /\ b <= 16384 then rZ b else 0
def N8 (b : Int) : Int := if b = 160 \/ b = 224 \/ b = 256 \/ b = 384 \/ b = 521 then b / 2 else 0
def Qd (sizes strengths : List Int) (b : Int) : Int := match sizes.findIdx? (fun e => decide (b = e)) with | some i => strengths.getD i 0 | none => 0
def Hv : Nat -> Int -> Int
 | 1 => D6 18
 | 2 => D6 60
 | 3 => D6 128
 | 4 => D6 192
 | 5 => Fr
 | 6 => Fr
 | 7 => N8
 | 8 => D6 128
 | 9 => Qd [44, 65, 87] [128, 192, 256]
 | 10 => Fr
 | 11 => Fr
 | 12 => N8
 | 13 => Qd [512, 768, 1024] [128, 192, 256]
 | 14 => Qd [40, 128] [40, 60]
 | 15 => Qd [112, 168] [80, 112]
 | 16 => Qd [128, 256] [128, 256]
 | 17 => Qd [128, 256] [128, 256]
 | 18 => D6 256
 | 19 => D6 64
 | 20 => D6 80
 | 21 => D6 128
 | 22 => D6 256
 | _ => fun _ => 0
def aBl : Nat -> Int
 | 1 => 1
 | 2 => 1
 | 3 => 1
 | 4 => 1
 | 5 => 2
 | 6 => 2
 | 7 => 2
 | 8 => 2
 | 9 => 2
 | 10 => 3
 | 11 => 3
 | 12 => 3
 | 13 => 3
 | 14 => 4
 | 15 => 4
 | 16 => 4
 | 17 => 4
 | 18 => 4
 | 19 => 5
 | 20 => 5
 | 21 => 5
 | 22 => 5
 | _ => 0
def N5 (u : Aw) : Int := if 1 <= u.Alg /\ u.Alg <= 22 then Hv u.Alg.toNat u.Bits else 0
def P9 (a : Int) : Int := if 1 <= a /\ a <= 22 then aBl a.toNat else 0
theorem E0 (b : Int) (sizes strengths : List Int) (h : sizes.length = strengths.length) (hl : sizes.length < 1000000) : Bs b sizes strengths = some (Qd sizes strengths b) := by
 unfold Bs Qd
 refine (Ul (body := fun q' => Bs.l1 b sizes strengths q') sizes (fun i => (i : Int)) (fun e => decide (b = e)) (fun i => strengths.getD i 0) 0 (fun i x hx => ?_) ?_).trans ?_
 ·have h1 := I8 hx
  show Bs.l1 b sizes strengths (i : Int) = _
  unfold Bs.l1
  rw [H7 hx, Fq, Hu (by omega)]
  have hs : strengths[i]? = some (strengths.getD i 0) := by
   rw [List.getD_eq_getElem?_getD, List.getElem?_eq_getElem (by omega)]; rfl
  by_cases e : b = x
  ·rw [decide_eq_true e.symm, decide_eq_true e, hs]; rfl
  ·rw [decide_eq_false (fun e' => e e'.symm), decide_eq_false e]; rfl
 ·show Bs.l1 b sizes strengths (sizes.length : Int) = _
  unfold Bs.l1
  rw [E9]; rfl
 ·rfl
theorem Ky (s : List Int) (v : Int) (hl : s.length < 4611686018427387904) : By s v = some (match s.findIdx? (fun e => decide (v = e)) with | some i => (i : Int) | none => -1) := by
 unfold By
 refine Ul (body := fun q' => By.l1 s v q') s (fun i => (i : Int)) (fun e => decide (v = e)) (fun i => (i : Int)) (-1) (fun i x hx => ?_) ?_
 ·have h1 := I8 hx
  show By.l1 s v (i : Int) = _
  unfold By.l1
  rw [H7 hx, Hu (by omega)]
  cases decide (v = x) <;> rfl
 ·show By.l1 s v (s.length : Int) = _
  unfold By.l1
  rw [E9]; rfl
theorem In (s : List Int) (v : Int) (hl : s.length < 4611686018427387904) : Cg s v = some (decide (v ∈ s)) := by
 unfold Cg
 rw [Ky s v hl, Option.bind_some]
 cases h : s.findIdx? (fun e => decide (v = e)) with
 | none =>
  have := List.findIdx?_eq_none_iff.1 h
  have hn : ¬ v ∈ s := fun hm => by have := this v hm; simp at this
  rw [decide_eq_false hn]; rfl
 | some i =>
  have h2 := List.findIdx?_isSome (xs := s) (p := fun e => decide (v = e))
  rw [h] at h2
  have : v ∈ s := by
   have h3 := h2.symm
   rw [Option.isSome_some, List.any_eq_true] at h3
   obtain ⟨x, hx, e⟩ := h3
   rw [of_decide_eq_true e]; exact hx
  rw [decide_eq_true this]
  simp
theorem Wo (b : Int) : Ct b = some (rZ b) := by
 have s0 : Ct.l1 b 0 = some (if b < 1024 then .done 56 else .next 1) := by
  by_cases h : b < 1024
  ·rw [if_pos h]; show cond (decide (b < 1024)) _ _ = _; rw [decide_eq_true h]; rfl
  ·rw [if_neg h]; show cond (decide (b < 1024)) _ _ = _; rw [decide_eq_false h]; rfl
 have s1 : Ct.l1 b 1 = some (if b < 2048 then .done 80 else .next 2) := by
  by_cases h : b < 2048
  ·rw [if_pos h]; show cond (decide (b < 2048)) _ _ = _; rw [decide_eq_true h]; rfl
  ·rw [if_neg h]; show cond (decide (b < 2048)) _ _ = _; rw [decide_eq_false h]; rfl
 have s2 : Ct.l1 b 2 = some (if b < 3072 then .done 112 else .next 3) := by
  by_cases h : b < 3072
  ·rw [if_pos h]; show cond (decide (b < 3072)) _ _ = _; rw [decide_eq_true h]; rfl
  ·rw [if_neg h]; show cond (decide (b < 3072)) _ _ = _; rw [decide_eq_false h]; rfl
 have s3 : Ct.l1 b 3 = some (if b < 7680 then .done 128 else .next 4) := by
  by_cases h : b < 7680
  ·rw [if_pos h]; show cond (decide (b < 7680)) _ _ = _; rw [decide_eq_true h]; rfl
  ·rw [if_neg h]; show cond (decide (b < 7680)) _ _ = _; rw [decide_eq_false h]; rfl
 have s4 : Ct.l1 b 4 = some (if b < 15360 then .done 192 else .next 5) := by
  by_cases h : b < 15360
  ·rw [if_pos h]; show cond (decide (b < 15360)) _ _ = _; rw [decide_eq_true h]; rfl
  ·rw [if_neg h]; show cond (decide (b < 15360)) _ _ = _; rw [decide_eq_false h]; rfl
 have s5 : Ct.l1 b 5 = some (.done 256) := rfl
 unfold Ct rZ
 rw [Gz, s0]
 split
 ·rfl
 show Ch _ (1 : Int) = _
 rw [Gz, s1]
 split
 ·rfl
 show Ch _ (2 : Int) = _
 rw [Gz, s2]
 split
 ·rfl
 show Ch _ (3 : Int) = _
 rw [Gz, s3]
 split
 ·rfl
 show Ch _ (4 : Int) = _
 rw [Gz, s4]
 split
 ·rfl
 show Ch _ (5 : Int) = _
 rw [Gz, s5]; rfl
theorem Wj (b : Int) : C4 b = some (Fr b) := by
 unfold C4 C4.j1 Fr rZ
 by_cases h1 : b < 512
 ·rw [decide_eq_true h1, if_neg (by omega)]; rfl
 ·by_cases h2 : 16384 < b
  ·rw [decide_eq_false h1, decide_eq_true h2, if_neg (by omega)]; rfl
  ·rw [decide_eq_false h1, decide_eq_false h2, if_pos (by omega)]
   simp only [cond_false]
   by_cases a : b < 1024
   ·simp [a]
   by_cases a2 : b < 2048
   ·simp [a, a2]
   by_cases a3 : b < 3072
   ·simp [a, a2, a3]
   by_cases a4 : b < 7680
   ·simp [a, a2, a3, a4]
   by_cases a5 : b < 15360 <;> simp [a, a2, a3, a4, a5]
theorem aDg (b : Int) : A3 ⟨1, b⟩ = some (Hv 1 b) := by
 show cond (decide (b = 0)) (some 18) (some 0) = some (D6 18 b)
 unfold D6
 by_cases h : b = 0 <;> simp [h]
theorem aCg (b : Int) : As ⟨1, b⟩ = some (Hv 1 b) := by
 show (Bs b [0] [18]).bind (fun y_8 => some y_8) = some (D6 18 b)
 rw [E0 b [0] [18] rfl (by decide)]
 unfold Qd D6
 by_cases h : b = 0 <;> simp [h]
theorem aAs (b : Int) : A3 ⟨2, b⟩ = some (Hv 2 b) := by
 show cond (decide (b = 0)) (some 60) (some 0) = some (D6 60 b)
 unfold D6
 by_cases h : b = 0 <;> simp [h]
theorem aCj (b : Int) : As ⟨2, b⟩ = some (Hv 2 b) := by
 show (Bs b [0] [60]).bind (fun y_8 => some y_8) = some (D6 60 b)
 rw [E0 b [0] [60] rfl (by decide)]
 unfold Qd D6
 by_cases h : b = 0 <;> simp [h]
theorem aBv (b : Int) : A3 ⟨3, b⟩ = some (Hv 3 b) := by
 show cond (decide (b = 0)) (some 128) (some 0) = some (D6 128 b)
 unfold D6
 by_cases h : b = 0 <;> simp [h]
theorem aA6 (b : Int) : As ⟨3, b⟩ = some (Hv 3 b) := by
 show (Bs b [0] [128]).bind (fun y_8 => some y_8) = some (D6 128 b)
 rw [E0 b [0] [128] rfl (by decide)]
 unfold Qd D6
 by_cases h : b = 0 <;> simp [h]
theorem aB8 (b : Int) : A3 ⟨4, b⟩ = some (Hv 4 b) := by
 show cond (decide (b = 0)) (some 192) (some 0) = some (D6 192 b)
 unfold D6
 by_cases h : b = 0 <;> simp [h]
theorem aCp (b : Int) : As ⟨4, b⟩ = some (Hv 4 b) := by
 show (Bs b [0] [192]).bind (fun y_8 => some y_8) = some (D6 192 b)
 rw [E0 b [0] [192] rfl (by decide)]
 unfold Qd D6
 by_cases h : b = 0 <;> simp [h]
theorem aBi (b : Int) : A3 ⟨5, b⟩ = some (Hv 5 b) := by
 show cond (decide (512 <= b)) (A3.j1 ⟨5, b⟩ (decide (b <= 16384))) (A3.j1 ⟨5, b⟩ false) = some (Fr b)
 unfold A3.j1 Fr
 rw [Wo]
 by_cases h1 : 512 <= b <;> by_cases h2 : b <= 16384 <;> simp [h1, h2]
theorem aDc (b : Int) : As ⟨5, b⟩ = some (Hv 5 b) := by
 show (C4 b).bind (fun y => some y) = some (Fr b)
 rw [Wj]; rfl
theorem aBn (b : Int) : A3 ⟨6, b⟩ = some (Hv 6 b) := by
 show cond (decide (512 <= b)) (A3.j1 ⟨6, b⟩ (decide (b <= 16384))) (A3.j1 ⟨6, b⟩ false) = some (Fr b)
 unfold A3.j1 Fr
 rw [Wo]
 by_cases h1 : 512 <= b <;> by_cases h2 : b <= 16384 <;> simp [h1, h2]
theorem aCl (b : Int) : As ⟨6, b⟩ = some (Hv 6 b) := by
 show (C4 b).bind (fun y => some y) = some (Fr b)
 rw [Wj]; rfl
theorem aBz (b : Int) : A3 ⟨7, b⟩ = some (Hv 7 b) := by
 show (Cg [160, 224, 256, 384, 521] b).bind (fun y_3 => cond y_3 ((Lg b 2).bind fun q => some q) (some 0)) = some (N8 b)
 rw [In _ _ (by decide)]
 unfold N8
 by_cases h : b = 160 \/ b = 224 \/ b = 256 \/ b = 384 \/ b = 521
 ·rw [if_pos h, decide_eq_true (by simpa using h)]
  rcases h with h | h | h | h | h <;> (subst h; rfl)
 ·rw [if_neg h, decide_eq_false (by simpa using h)]; rfl
theorem aC6 (b : Int) : As ⟨7, b⟩ = some (Hv 7 b) := by
 show As.j2 ⟨7, b⟩ true = some (N8 b)
 unfold As.j2 As.j3 N8
 by_cases h : b = 160 \/ b = 224 \/ b = 256 \/ b = 384 \/ b = 521
 ·rw [if_pos h]
  rcases h with h | h | h | h | h <;> (subst h; rfl)
 ·rw [if_neg h]
  have h1 : ¬ b = 160 := by omega
  have h2 : ¬ b = 224 := by omega
  have h3 : ¬ b = 256 := by omega
  have h4 : ¬ b = 384 := by omega
  have h5 : ¬ b = 521 := by omega
  simp [h1, h2, h3, h4, h5]
theorem aBx (b : Int) : A3 ⟨8, b⟩ = some (Hv 8 b) := by
 show cond (decide (b = 0)) (some 128) (some 0) = some (D6 128 b)
 unfold D6
 by_cases h : b = 0 <;> simp [h]
theorem aC4 (b : Int) : As ⟨8, b⟩ = some (Hv 8 b) := by
 show (Bs b [0] [128]).bind (fun y_8 => some y_8) = some (D6 128 b)
 rw [E0 b [0] [128] rfl (by decide)]
 unfold Qd D6
 by_cases h : b = 0 <;> simp [h]
theorem aAz (b : Int) : A3 ⟨9, b⟩ = some (Hv 9 b) := by
 show (By [44, 65, 87] b).bind (fun y_4 => cond (decide (0 <= y_4)) ((B3 [128, 192, 256] y_4).bind fun e_2 => some e_2) (some 0)) = some (Qd [44, 65, 87] [128, 192, 256] b)
 rw [Ky _ _ (by decide)]
 unfold Qd
 cases h : List.findIdx? (fun e => decide (b = e)) [44, 65, 87] with
 | none => rfl
 | some i =>
  have hi := (List.findIdx?_eq_some_iff_getElem.1 h).1
  have : i < 3 := hi
  rcases (by omega : i = 0 \/ i = 1 \/ i = 2) with h | h | h <;> (subst h; rfl)
theorem aC3 (b : Int) : As ⟨9, b⟩ = some (Hv 9 b) := by
 show (Bs b [44, 65, 87] [128, 192, 256]).bind (fun y => some y) = some (Qd [44, 65, 87] [128, 192, 256] b)
 rw [E0 b [44, 65, 87] [128, 192, 256] rfl (by decide)]; rfl
theorem wK (b : Int) : A3 ⟨10, b⟩ = some (Hv 10 b) := by
 show cond (decide (512 <= b)) (A3.j1 ⟨10, b⟩ (decide (b <= 16384))) (A3.j1 ⟨10, b⟩ false) = some (Fr b)
 unfold A3.j1 Fr
 rw [Wo]
 by_cases h1 : 512 <= b <;> by_cases h2 : b <= 16384 <;> simp [h1, h2]
theorem zZ (b : Int) : As ⟨10, b⟩ = some (Hv 10 b) := by
 show (C4 b).bind (fun y => some y) = some (Fr b)
 rw [Wj]; rfl
theorem zR (b : Int) : A3 ⟨11, b⟩ = some (Hv 11 b) := by
 show cond (decide (512 <= b)) (A3.j1 ⟨11, b⟩ (decide (b <= 16384))) (A3.j1 ⟨11, b⟩ false) = some (Fr b)
 unfold A3.j1 Fr
 rw [Wo]
 by_cases h1 : 512 <= b <;> by_cases h2 : b <= 16384 <;> simp [h1, h2]
theorem yI (b : Int) : As ⟨11, b⟩ = some (Hv 11 b) := by
 show (C4 b).bind (fun y => some y) = some (Fr b)
 rw [Wj]; rfl
theorem vK (b : Int) : A3 ⟨12, b⟩ = some (Hv 12 b) := by
 show (Cg [160, 224, 256, 384, 521] b).bind (fun y_3 => cond y_3 ((Lg b 2).bind fun q => some q) (some 0)) = some (N8 b)
 rw [In _ _ (by decide)]
 unfold N8
 by_cases h : b = 160 \/ b = 224 \/ b = 256 \/ b = 384 \/ b = 521
 ·rw [if_pos h, decide_eq_true (by simpa using h)]
  rcases h with h | h | h | h | h <;> (subst h; rfl)
 ·rw [if_neg h, decide_eq_false (by simpa using h)]; rfl
theorem zN (b : Int) : As ⟨12, b⟩ = some (Hv 12 b) := by
 show As.j2 ⟨12, b⟩ true = some (N8 b)
 unfold As.j2 As.j3 N8
 by_cases h : b = 160 \/ b = 224 \/ b = 256 \/ b = 384 \/ b = 521
 ·rw [if_pos h]
  rcases h with h | h | h | h | h <;> (subst h; rfl)
 ·rw [if_neg h]
  have h1 : ¬ b = 160 := by omega
  have h2 : ¬ b = 224 := by omega
  have h3 : ¬ b = 256 := by omega
  have h4 : ¬ b = 384 := by omega
  have h5 : ¬ b = 521 := by omega
  simp [h1, h2, h3, h4, h5]
theorem aAc (b : Int) : A3 ⟨13, b⟩ = some (Hv 13 b) := by
 show (By [512, 768, 1024] b).bind (fun y_4 => cond (decide (0 <= y_4)) ((B3 [128, 192, 256] y_4).bind fun e_2 => some e_2) (some 0)) = some (Qd [512, 768, 1024] [128, 192, 256] b)
 rw [Ky _ _ (by decide)]
 unfold Qd
 cases h : List.findIdx? (fun e => decide (b = e)) [512, 768, 1024] with
 | none => rfl
 | some i =>
  have hi := (List.findIdx?_eq_some_iff_getElem.1 h).1
  have : i < 3 := hi
  rcases (by omega : i = 0 \/ i = 1 \/ i = 2) with h | h | h <;> (subst h; rfl)
theorem vR (b : Int) : As ⟨13, b⟩ = some (Hv 13 b) := by
 show (Bs b [512, 768, 1024] [128, 192, 256]).bind (fun y => some y) = some (Qd [512, 768, 1024] [128, 192, 256] b)
 rw [E0 b [512, 768, 1024] [128, 192, 256] rfl (by decide)]; rfl
theorem xC (b : Int) : A3 ⟨14, b⟩ = some (Hv 14 b) := by
 show (By [40, 128] b).bind (fun y_4 => cond (decide (0 <= y_4)) ((B3 [40, 60] y_4).bind fun e_2 => some e_2) (some 0)) = some (Qd [40, 128] [40, 60] b)
 rw [Ky _ _ (by decide)]
 unfold Qd
 cases h : List.findIdx? (fun e => decide (b = e)) [40, 128] with
 | none => rfl
 | some i =>
  have hi := (List.findIdx?_eq_some_iff_getElem.1 h).1
  have : i < 2 := hi
  rcases (by omega : i = 0 \/ i = 1) with h | h <;> (subst h; rfl)
theorem yE (b : Int) : As ⟨14, b⟩ = some (Hv 14 b) := by
 show (Bs b [40, 128] [40, 60]).bind (fun y => some y) = some (Qd [40, 128] [40, 60] b)
 rw [E0 b [40, 128] [40, 60] rfl (by decide)]; rfl
theorem wM (b : Int) : A3 ⟨15, b⟩ = some (Hv 15 b) := by
 show (By [112, 168] b).bind (fun y_4 => cond (decide (0 <= y_4)) ((B3 [80, 112] y_4).bind fun e_2 => some e_2) (some 0)) = some (Qd [112, 168] [80, 112] b)
 rw [Ky _ _ (by decide)]
 unfold Qd
 cases h : List.findIdx? (fun e => decide (b = e)) [112, 168] with
 | none => rfl
 | some i =>
  have hi := (List.findIdx?_eq_some_iff_getElem.1 h).1
  have : i < 2 := hi
  rcases (by omega : i = 0 \/ i = 1) with h | h <;> (subst h; rfl)
theorem xT (b : Int) : As ⟨15, b⟩ = some (Hv 15 b) := by
 show (Bs b [112, 168] [80, 112]).bind (fun y => some y) = some (Qd [112, 168] [80, 112] b)
 rw [E0 b [112, 168] [80, 112] rfl (by decide)]; rfl
theorem wN (b : Int) : A3 ⟨16, b⟩ = some (Hv 16 b) := by
 show (By [128, 256] b).bind (fun y_4 => cond (decide (0 <= y_4)) ((B3 [128, 256] y_4).bind fun e_2 => some e_2) (some 0)) = some (Qd [128, 256] [128, 256] b)
 rw [Ky _ _ (by decide)]
 unfold Qd
 cases h : List.findIdx? (fun e => decide (b = e)) [128, 256] with
 | none => rfl
 | some i =>
  have hi := (List.findIdx?_eq_some_iff_getElem.1 h).1
  have : i < 2 := hi
  rcases (by omega : i = 0 \/ i = 1) with h | h <;> (subst h; rfl)
theorem zP (b : Int) : As ⟨16, b⟩ = some (Hv 16 b) := by
 show (Bs b [128, 256] [128, 256]).bind (fun y => some y) = some (Qd [128, 256] [128, 256] b)
 rw [E0 b [128, 256] [128, 256] rfl (by decide)]; rfl
theorem zD (b : Int) : A3 ⟨17, b⟩ = some (Hv 17 b) := by
 show (By [128, 256] b).bind (fun y_4 => cond (decide (0 <= y_4)) ((B3 [128, 256] y_4).bind fun e_2 => some e_2) (some 0)) = some (Qd [128, 256] [128, 256] b)
 rw [Ky _ _ (by decide)]
 unfold Qd
 cases h : List.findIdx? (fun e => decide (b = e)) [128, 256] with
 | none => rfl
 | some i =>
  have hi := (List.findIdx?_eq_some_iff_getElem.1 h).1
  have : i < 2 := hi
  rcases (by omega : i = 0 \/ i = 1) with h | h <;> (subst h; rfl)
theorem zF (b : Int) : As ⟨17, b⟩ = some (Hv 17 b) := by
 show (Bs b [128, 256] [128, 256]).bind (fun y => some y) = some (Qd [128, 256] [128, 256] b)
 rw [E0 b [128, 256] [128, 256] rfl (by decide)]; rfl
theorem xM (b : Int) : A3 ⟨18, b⟩ = some (Hv 18 b) := by
 show cond (decide (b = 0)) (some 256) (some 0) = some (D6 256 b)
 unfold D6
 by_cases h : b = 0 <;> simp [h]
theorem xH (b : Int) : As ⟨18, b⟩ = some (Hv 18 b) := by
 show (Bs b [0] [256]).bind (fun y_8 => some y_8) = some (D6 256 b)
 rw [E0 b [0] [256] rfl (by decide)]
 unfold Qd D6
 by_cases h : b = 0 <;> simp [h]
theorem yW (b : Int) : A3 ⟨19, b⟩ = some (Hv 19 b) := by
 show cond (decide (b = 0)) (some 64) (some 0) = some (D6 64 b)
 unfold D6
 by_cases h : b = 0 <;> simp [h]
theorem xQ (b : Int) : As ⟨19, b⟩ = some (Hv 19 b) := by
 show (Bs b [0] [64]).bind (fun y_8 => some y_8) = some (D6 64 b)
 rw [E0 b [0] [64] rfl (by decide)]
 unfold Qd D6
 by_cases h : b = 0 <;> simp [h]
theorem xO (b : Int) : A3 ⟨20, b⟩ = some (Hv 20 b) := by
 show cond (decide (b = 0)) (some 80) (some 0) = some (D6 80 b)
 unfold D6
 by_cases h : b = 0 <;> simp [h]
theorem yB (b : Int) : As ⟨20, b⟩ = some (Hv 20 b) := by
 show (Bs b [0] [80]).bind (fun y_8 => some y_8) = some (D6 80 b)
 rw [E0 b [0] [80] rfl (by decide)]
 unfold Qd D6
 by_cases h : b = 0 <;> simp [h]
theorem wR (b : Int) : A3 ⟨21, b⟩ = some (Hv 21 b) := by
 show cond (decide (b = 0)) (some 128) (some 0) = some (D6 128 b)
 unfold D6
 by_cases h : b = 0 <;> simp [h]
theorem xY (b : Int) : As ⟨21, b⟩ = some (Hv 21 b) := by
 show (Bs b [0] [128]).bind (fun y_8 => some y_8) = some (D6 128 b)
 rw [E0 b [0] [128] rfl (by decide)]
 unfold Qd D6
 by_cases h : b = 0 <;> simp [h]
theorem zX (b : Int) : A3 ⟨22, b⟩ = some (Hv 22 b) := by
 show cond (decide (b = 0)) (some 256) (some 0) = some (D6 256 b)
 unfold D6
 by_cases h : b = 0 <;> simp [h]
theorem wI (b : Int) : As ⟨22, b⟩ = some (Hv 22 b) := by
 show (Bs b [0] [256]).bind (fun y_8 => some y_8) = some (D6 256 b)
 rw [E0 b [0] [256] rfl (by decide)]
 unfold Qd D6
 by_cases h : b = 0 <;> simp [h]
theorem Ry {a : Int} (h : 1 <= a /\ a <= 22) : a = 1 \/ a = 2 \/ a = 3 \/ a = 4 \/ a = 5 \/ a = 6 \/ a = 7 \/ a = 8 \/ a = 9 \/ a = 10 \/ a = 11 \/ a = 12 \/ a = 13 \/ a = 14 \/ a = 15 \/ a = 16 \/ a = 17 \/ a = 18 \/ a = 19 \/ a = 20 \/ a = 21 \/ a = 22 := by omega
theorem bG (u : Aw) : A3 u = some (N5 u) := by
 obtain ⟨a, b⟩ := u
 unfold N5
 by_cases h0 : 1 <= a /\ a <= 22
 ·rw [if_pos h0]
  rcases Ry h0 with h | h | h | h | h | h | h | h | h | h | h | h | h | h | h | h | h | h | h | h | h | h <;> subst h
  ·exact aDg b
  ·exact aAs b
  ·exact aBv b
  ·exact aB8 b
  ·exact aBi b
  ·exact aBn b
  ·exact aBz b
  ·exact aBx b
  ·exact aAz b
  ·exact wK b
  ·exact zR b
  ·exact vK b
  ·exact aAc b
  ·exact xC b
  ·exact wM b
  ·exact wN b
  ·exact zD b
  ·exact xM b
  ·exact yW b
  ·exact xO b
  ·exact wR b
  ·exact zX b
 ·rw [if_neg h0]
  unfold A3 Dv
  by_cases h1 : a < 1
  ·simp [h1, Dv.j1]
  ·have h2 : 22 < a := by omega
   simp [h1, h2, Dv.j1]
theorem Z2 (u : Aw) : As u = some (N5 u) := by
 obtain ⟨a, b⟩ := u
 unfold N5
 by_cases h0 : 1 <= a /\ a <= 22
 ·rw [if_pos h0]
  rcases Ry h0 with h | h | h | h | h | h | h | h | h | h | h | h | h | h | h | h | h | h | h | h | h | h <;> subst h
  ·exact aCg b
  ·exact aCj b
  ·exact aA6 b
  ·exact aCp b
  ·exact aDc b
  ·exact aCl b
  ·exact aC6 b
  ·exact aC4 b
  ·exact aC3 b
  ·exact zZ b
  ·exact yI b
  ·exact zN b
  ·exact vR b
  ·exact yE b
  ·exact xT b
  ·exact zP b
  ·exact zF b
  ·exact xH b
  ·exact xQ b
  ·exact yB b
  ·exact xY b
  ·exact wI b
 ·rw [if_neg h0]
  have h1 : ¬ a = 1 := by omega
  have h2 : ¬ a = 2 := by omega
  have h3 : ¬ a = 3 := by omega
  have h4 : ¬ a = 4 := by omega
  have h5 : ¬ a = 5 := by omega
  have h6 : ¬ a = 6 := by omega
  have h7 : ¬ a = 7 := by omega
  have h8 : ¬ a = 8 := by omega
  have h9 : ¬ a = 9 := by omega
  have h10 : ¬ a = 10 := by omega
  have h11 : ¬ a = 11 := by omega
  have h12 : ¬ a = 12 := by omega
  have h13 : ¬ a = 13 := by omega
  have h14 : ¬ a = 14 := by omega
  have h15 : ¬ a = 15 := by omega
  have h16 : ¬ a = 16 := by omega
  have h17 : ¬ a = 17 := by omega
  have h18 : ¬ a = 18 := by omega
  have h19 : ¬ a = 19 := by omega
  have h20 : ¬ a = 20 := by omega
  have h21 : ¬ a = 21 := by omega
  have h22 : ¬ a = 22 := by omega
  simp [As, As.j1, As.j2, As.j4, Cs, Cs.j1, Cs.j2, h1, h2, h3, h4, h5, h6, h7, h8, h9, h10, h11, h12, h13, h14, h15, h16, h17, h18, h19, h20, h21, h22]
  rw [E0 b [0] [0] rfl (by decide)]
  unfold Qd
  by_cases h : b = 0 <;> simp [h]
theorem T5 (a : Int) : F1 a = some (P9 a) := by
 unfold P9
 by_cases h0 : 1 <= a /\ a <= 22
 ·rw [if_pos h0]
  rcases Ry h0 with h | h | h | h | h | h | h | h | h | h | h | h | h | h | h | h | h | h | h | h | h | h <;> (subst h; rfl)
 ·rw [if_neg h0]
  unfold F1 Dv
  by_cases h1 : a < 1
  ·simp [h1, Dv.j1]
  ·have h2 : 22 < a := by omega
   simp [h1, h2, Dv.j1]
theorem cR (a : Int) : D9 a = some (P9 a) := by
 unfold P9
 by_cases h0 : 1 <= a /\ a <= 22
 ·rw [if_pos h0]
  rcases Ry h0 with h | h | h | h | h | h | h | h | h | h | h | h | h | h | h | h | h | h | h | h | h | h <;> (subst h; rfl)
 ·rw [if_neg h0]
  unfold D9
  by_cases h1 : a < 1
  ·simp [h1, D9.j1]
  ·have h2 : 22 < a := by omega
   simp [h1, h2, D9.j1]
theorem Vb (u : Aw) : Fo u = some (decide (0 < N5 u)) := by unfold Fo; rw [bG]; rfl
theorem Zj (u : Aw) : I0 u = some (decide (0 < N5 u)) := by unfold I0; rw [Z2]; rfl
end
section
open Go
theorem Tt {i n : Nat} (h : i < n) (hn : n <= 9223372036854775807) : W ((i : Int) + 1) = ((i + 1 : Nat) : Int) := by
 rw [Eh (by omega)]; omega
theorem Te (s : ByteArray) : (Jc s).length = s.size := by unfold Jc; rw [Array.length_toList]; rfl
theorem tA {s : ByteArray} {i : Nat} {c : UInt8} (h : (Jc s)[i]? = some c) : bX s (i : Int) = some c := by
 unfold bX
 rw [if_neg (by omega), Int.toNat_natCast]
 unfold Jc at h
 rw [<- h]; simp
def uV (c : UInt8) : Bool := decide (33 <= (c.toNat : Int)) && decide ((c.toNat : Int) <= 126)
def F0 (s : ByteArray) : Bool := decide (1 <= (s.size : Int)) && decide ((s.size : Int) <= 32) && !(Jc s).any (fun c => !uV c)
theorem Me (s : ByteArray) (hs : s.size <= 9223372036854775807) : Bz s = some (F0 s) := by
 unfold Bz F0
 refine (Qp (body := fun q' => Bz.l1 s q') (Jc s) (fun i => (i : Int)) (fun c => !uV c) false (decide (1 <= (s.size : Int)) && decide ((s.size : Int) <= 32)) (fun i c hc => ?_) ?_).trans ?_
 ·have h1 := I8 hc
  rw [Te] at h1
  show Bz.l1 s (i : Int) = _
  unfold Bz.l1 Bz.j2 uV
  rw [H7 hc, Tt h1 hs]
  by_cases a : (c.toNat : Int) <= 32
  ·rw [decide_eq_true a, decide_eq_false (show ¬ (33 : Int) <= (c.toNat : Int) by omega)]; rfl
  ·rw [decide_eq_false a, decide_eq_true (show (33 : Int) <= (c.toNat : Int) by omega)]
   by_cases b : 126 < (c.toNat : Int)
   ·rw [decide_eq_true b, decide_eq_false (by omega)]; rfl
   ·rw [decide_eq_false b, decide_eq_true (by omega)]; rfl
 ·show Bz.l1 s ((Jc s).length : Int) = _
  unfold Bz.l1
  rw [E9]
  by_cases a : (1 : Int) <= (s.size : Int) <;> simp [a, up]
 ·cases (Jc s).any fun c => !uV c <;> simp
theorem W6 (s : ByteArray) (hs : s.size <= 9223372036854775807) : B6 s = some (F0 s) := by
 unfold B6 F0
 have hl : B6.j1 s false = some (!(Jc s).any fun c => !uV c) := by
  unfold B6.j1
  rw [cond_false]
  refine (Qp (body := fun q' => B6.l2 s q') (Jc s) (fun i => (i : Int)) (fun c => !uV c) false true (fun i c hc => ?_) ?_).trans ?_
  ·have h1 := I8 hc
   rw [Te] at h1
   show B6.l2 s (i : Int) = _
   unfold B6.l2 B6.j3 uV
   rw [decide_eq_true (by omega), cond_true, tA hc, Option.bind_some, Option.bind_some, Tt h1 hs]
   by_cases a : (c.toNat : Int) < 33
   ·rw [decide_eq_true a, decide_eq_false (show ¬ (33 : Int) <= (c.toNat : Int) by omega)]; rfl
   ·rw [decide_eq_false a, decide_eq_true (show (33 : Int) <= (c.toNat : Int) by omega)]
    by_cases b : 126 < (c.toNat : Int)
    ·rw [decide_eq_true b, decide_eq_false (by omega)]; rfl
    ·rw [decide_eq_false b, decide_eq_true (by omega)]; rfl
  ·show B6.l2 s ((Jc s).length : Int) = _
   unfold B6.l2
   rw [Te, E9]; rfl
  ·cases (Jc s).any fun c => !uV c <;> rfl
 by_cases a : (s.size : Int) < 1
 ·rw [decide_eq_true a, decide_eq_false (show ¬ (1 : Int) <= (s.size : Int) by omega)]; rfl
 ·rw [decide_eq_false a, decide_eq_true (show (1 : Int) <= (s.size : Int) by omega), cond_false]
  by_cases b : 32 < (s.size : Int)
  ·rw [decide_eq_true b, decide_eq_false (by omega)]; rfl
  ·rw [decide_eq_false b, decide_eq_true (by omega), hl]; simp
def bM (l : List ByteArray) (i : Nat) : Bool := !F0 (l.getD i ⟨#[]⟩) || (decide (0 < i) && !Lu (Jc (l.getD (i - 1) ⟨#[]⟩)) (Jc (l.getD i ⟨#[]⟩)))
def Lt (l : List ByteArray) : Bool := !(List.range l.length).any (bM l)
theorem Pr {α : Type} {l : List α} {i : Nat} {x d : α} (h : l[i]? = some x) : l.getD i d = x := by
 rw [List.getD_eq_getElem?_getD, h]; rfl
theorem fD (l : List ByteArray) (hl : l.length <= 9223372036854775807) (hs : ∀ s ∈ l, s.size <= 9223372036854775807) : Bt l = some (Lt l && decide ((l.length : Int) <= 8)) := by
 unfold Bt Lt
 refine (Vl (body := fun q' => Bt.l1 l q') l.length (fun i => (i : Int)) (bM l) false (decide ((l.length : Int) <= 8)) (fun i hi => ?_) ?_).trans ?_
 ·obtain ⟨s, hx⟩ : ∃ s, l[i]? = some s := ⟨_, List.getElem?_eq_getElem hi⟩
  show Bt.l1 l (i : Int) = _
  unfold Bt.l1 bM
  rw [H7 hx, Me s (hs s (Ho hx)), Option.bind_some, Pr hx]
  cases hn : F0 s with
  | false => rfl
  | true =>
   rw [Bool.not_true, cond_false, Bool.false_or]
   cases i with
   | zero => rfl
   | succ i =>
    obtain ⟨p, hp⟩ : ∃ p, l[i]? = some p := ⟨_, List.getElem?_eq_getElem (by omega)⟩
    rw [decide_eq_true (by omega), cond_true, Eh (by omega), show ((i + 1 : Nat) : Int) - 1 = (i : Int) by omega, Fq, hp, Option.bind_some, show i + 1 - 1 = i from rfl, Pr hp, decide_eq_true (by omega), Bool.true_and]
    unfold Bt.j2
    rw [Tt (n := l.length) (by omega) hl]
    cases Lu (Jc p) (Jc s) <;> rfl
 ·show Bt.l1 l (l.length : Int) = _
  unfold Bt.l1
  rw [E9]; rfl
 ·cases (List.range l.length).any (bM l) <;> rfl
end
section
open Go
def Pe (u : Aw) (k : Int) : Bool := decide (0 < N5 u) && decide (P9 u.Alg = k)
def Th (c : Ai) : List Bool := [decide (c.Serial < 0), decide (1099511627776 < c.Serial), !F0 c.Issuer, !F0 c.Subject, !Lt c.Names, decide (8 < (c.Names.length : Int)), !Pe c.Key 2, decide (c.KeyId < 0), decide (2147483648 < c.KeyId), !Pe c.Hash 1, decide (c.Seal.Key < 0), decide (2147483648 < c.Seal.Key), decide (c.Seal.Sum < 0), decide (4294967296 <= c.Seal.Sum), decide (c.From < 0), decide (c.To < c.From), decide (40000 < c.To), decide (c.Path < 0), decide (8 < c.Path), !c.Authority && !decide (c.Path = 0)]
def G5 (c : Ai) : Bool := !(Th c).any id
structure R9 (c : Ai) : Prop where
 names : c.Names.length < 1000000000
 name : ∀ s ∈ c.Names, s.size <= 9223372036854775807
 issuer : c.Issuer.size <= 9223372036854775807
 subject : c.Subject.size <= 9223372036854775807
 ints : ∀ n ∈ [c.Serial, c.Key.Alg, c.Key.Bits, c.KeyId, c.Hash.Alg, c.Hash.Bits, c.From, c.To, c.Path, c.Seal.Key, c.Seal.Sum], -9223372036854775808 <= n /\ n <= 9223372036854775807
structure fP (c : Ai) : Prop where
 names : c.Names.length <= 9223372036854775807
 name : ∀ s ∈ c.Names, s.size <= 9223372036854775807
 issuer : c.Issuer.size <= 9223372036854775807
 subject : c.Subject.size <= 9223372036854775807
theorem R9.w {c : Ai} (h : R9 c) : fP c := ⟨by have := h.names; omega, h.name, h.issuer, h.subject⟩
theorem lO (u : Aw) (k : Int) : G8 u k = some (Pe u k) := by
 unfold G8 Pe
 rw [Vb, T5, Option.bind_some]
 cases decide (0 < N5 u) <;> rfl
theorem Yp (u : Aw) : H5 u = some (Pe u 2) := by
 unfold H5 Pe
 rw [Zj, cR, Option.bind_some]
 cases decide (0 < N5 u) <;> rfl
theorem Ws (n : Int) : Eb n = some (!(decide (n < 0) || decide (2147483648 < n))) := by
 unfold Eb
 by_cases a : n < 0
 ·rw [decide_eq_true a, decide_eq_false (show ¬ 0 <= n by omega)]; rfl
 ·rw [decide_eq_false a, decide_eq_true (show 0 <= n by omega)]
  by_cases b : n <= 2147483648
  ·rw [decide_eq_true b, decide_eq_false (show ¬ 2147483648 < n by omega)]; rfl
  ·rw [decide_eq_false b, decide_eq_true (show 2147483648 < n by omega)]; rfl
theorem rI (n : Int) : H2 n = some (!(decide (n < 0) || decide (4294967296 <= n))) := by
 unfold H2
 by_cases a : n < 0
 ·rw [decide_eq_true a, decide_eq_false (show ¬ 0 <= n by omega)]; rfl
 ·rw [decide_eq_false a, decide_eq_true (show 0 <= n by omega)]
  by_cases b : n < 4294967296
  ·rw [decide_eq_true b, decide_eq_false (show ¬ 4294967296 <= n by omega)]; rfl
  ·rw [decide_eq_false b, decide_eq_true (show 4294967296 <= n by omega)]; rfl
theorem aDy (n : Nat) : decide ((n : Int) <= 8) = !decide (8 < (n : Int)) := by
 by_cases h : (n : Int) <= 8
 ·rw [decide_eq_true h, decide_eq_false (by omega)]; rfl
 ·rw [decide_eq_false h, decide_eq_true (by omega)]; rfl
theorem sG (c : Ai) : Bf.j3 c false = some (!(decide (c.Path < 0) || decide (8 < c.Path) || (!c.Authority && !decide (c.Path = 0)))) := by
 unfold Bf.j3
 by_cases a : c.Path < 0
 ·rw [decide_eq_true a, decide_eq_false (show ¬ 0 <= c.Path by omega)]; rfl
 ·rw [decide_eq_false a, decide_eq_true (show 0 <= c.Path by omega)]
  by_cases b : c.Path <= 8
  ·rw [decide_eq_true b, decide_eq_false (show ¬ 8 < c.Path by omega)]
   cases c.Authority <;> simp
  ·rw [decide_eq_false b, decide_eq_true (show 8 < c.Path by omega)]; rfl
theorem nG (c : Ai) (x : Bool) : Bf.j3 c x = some (!(x || decide (c.Path < 0) || decide (8 < c.Path) || (!c.Authority && !decide (c.Path = 0)))) := by
 cases x
 ·rw [sG]; simp
 ·simp [Bf.j3]
theorem fF (c : Ai) (h : fP c) : Bf c = some (G5 c) := by
 unfold Bf Bf.j1 Bf.j2
 simp only [nG]
 rw [Me _ h.issuer, Me _ h.subject, fD _ h.names h.name, lO, Ws, lO, Ws, rI, aDy]
 simp only [Option.bind_some]
 unfold G5 Th
 simp only [List.any_cons, List.any_nil, id]
 generalize decide (c.Serial < 0) = b1
 cases b1
 case true => simp
 generalize decide (1099511627776 < c.Serial) = b2
 cases b2
 case true => simp
 generalize F0 c.Issuer = b3
 cases b3
 case false => simp
 generalize F0 c.Subject = b4
 cases b4
 case false => simp
 generalize Lt c.Names = b5
 cases b5
 case false => simp
 generalize decide (8 < (c.Names.length : Int)) = b6
 cases b6
 case true => simp
 generalize Pe c.Key 2 = b7
 cases b7
 case false => simp
 generalize decide (c.KeyId < 0) = b8
 cases b8
 case true => simp
 generalize decide (2147483648 < c.KeyId) = b9
 cases b9
 case true => simp
 generalize Pe c.Hash 1 = b10
 cases b10
 case false => simp
 generalize decide (c.Seal.Key < 0) = b11
 cases b11
 case true => simp
 generalize decide (2147483648 < c.Seal.Key) = b12
 cases b12
 case true => simp
 generalize decide (c.Seal.Sum < 0) = b13
 cases b13
 case true => simp
 generalize decide (4294967296 <= c.Seal.Sum) = b14
 cases b14
 case true => simp
 generalize decide (c.From < 0) = b15
 cases b15
 case true => simp
 generalize decide (c.To < c.From) = b16
 cases b16
 case true => simp
 generalize decide (40000 < c.To) = b17
 cases b17
 case true => simp
 generalize decide (c.Path < 0) = b18
 generalize decide (8 < c.Path) = b19
 generalize decide (c.Path = 0) = b20
 cases b18 <;> cases b19 <;> cases b20 <;> simp
end
section
open Go
def Tq (c : Ai) : Bool := decide (c.Seal.Key < 0) || (decide (2147483648 < c.Seal.Key) || (decide (c.Seal.Sum < 0) || decide (4294967296 <= c.Seal.Sum)))
theorem vL (c : Ai) (h : fP c) (x : Bool) : A1.j3 c x = some (bif (x || !Lt c.Names || Tq c) then 9 else 0) := by
 cases x
 ·unfold A1.j3
  rw [cond_false]
  refine (Vl (body := fun q' => A1.l4 c q') c.Names.length (fun i => (i : Int)) (bM c.Names) 9 (bif Tq c then 9 else 0) (fun i hi => ?_) ?_).trans ?_
  ·obtain ⟨s, hx⟩ : ∃ s, c.Names[i]? = some s := ⟨_, List.getElem?_eq_getElem hi⟩
   have hN := h.names
   show A1.l4 c (i : Int) = _
   unfold A1.l4 bM
   rw [H7 hx, W6 s (h.name s (Ho hx)), Option.bind_some, Pr hx]
   cases hn : F0 s with
   | false => rfl
   | true =>
    rw [Bool.not_true, cond_false, Bool.false_or]
    cases i with
    | zero => rfl
    | succ i =>
     obtain ⟨p, hp⟩ : ∃ p, c.Names[i]? = some p := ⟨_, List.getElem?_eq_getElem (by omega)⟩
     rw [decide_eq_true (by omega), cond_true, Eh (by omega), show ((i + 1 : Nat) : Int) - 1 = (i : Int) by omega, Fq, hp, Option.bind_some, show i + 1 - 1 = i from rfl, Pr hp, decide_eq_true (by omega), Bool.true_and]
     unfold A1.j5
     rw [Tt (n := c.Names.length) (by omega) hN]
     cases Lu (Jc p) (Jc s) <;> rfl
  ·show A1.l4 c (c.Names.length : Int) = _
   unfold A1.l4 A1.j6 Tq
   rw [E9]
   cases decide (c.Seal.Key < 0) <;> cases decide (2147483648 < c.Seal.Key) <;> cases decide (c.Seal.Sum < 0) <;> cases decide (4294967296 <= c.Seal.Sum) <;> rfl
  ·unfold Lt
   cases (List.range c.Names.length).any (bM c.Names) <;> cases Tq c <;> rfl
 ·rfl
theorem eV (c : Ai) (h : fP c) : A1 c = some (bif G5 c then 0 else 9) := by
 unfold A1 A1.j1 A1.j2
 simp only [vL c h]
 rw [W6 _ h.issuer, W6 _ h.subject, Yp, Zj, cR]
 simp only [Option.bind_some]
 unfold G5 Th Tq
 simp only [List.any_cons, List.any_nil, id]
 have hu : Pe c.Hash 1 = (decide (0 < N5 c.Hash) && decide (P9 c.Hash.Alg = 1)) := rfl
 rw [hu]
 generalize decide (c.Serial < 0) = b1
 cases b1
 case true => simp
 generalize decide (1099511627776 < c.Serial) = b2
 cases b2
 case true => simp
 generalize F0 c.Issuer = b3
 cases b3
 case false => simp
 generalize F0 c.Subject = b4
 cases b4
 case false => simp
 generalize Pe c.Key 2 = b7
 cases b7
 case false => simp
 generalize decide (c.KeyId < 0) = b8
 cases b8
 case true => simp
 generalize decide (2147483648 < c.KeyId) = b9
 cases b9
 case true => simp
 generalize decide (0 < N5 c.Hash) = b10
 cases b10
 case false => simp
 generalize decide (P9 c.Hash.Alg = 1) = b10'
 cases b10'
 case false => simp
 generalize decide (c.From < 0) = b15
 cases b15
 case true => simp
 generalize decide (c.To < c.From) = b16
 cases b16
 case true => simp
 generalize decide (40000 < c.To) = b17
 cases b17
 case true => simp
 generalize decide (c.Path < 0) = b18
 cases b18
 case true => simp
 generalize decide (8 < c.Path) = b19
 cases b19
 case true => simp
 generalize decide (c.Path = 0) = b20
 generalize c.Authority = b21
 generalize decide (8 < (c.Names.length : Int)) = b6
 generalize Lt c.Names = b5
 cases b20 <;> cases b21 <;> cases b6 <;> cases b5 <;> simp <;> generalize decide (c.Seal.Key < 0) = b11 <;> generalize decide (2147483648 < c.Seal.Key) = b12 <;> generalize decide (c.Seal.Sum < 0) = b13 <;> generalize decide (4294967296 <= c.Seal.Sum) = b14 <;> cases b11 <;> cases b12 <;> cases b13 <;> cases b14 <;> rfl
theorem Y7 (c : Ai) (h : R9 c) : A1 c = some (bif G5 c then 0 else 9) := eV c h.w
end
end Go.Proofs.YtkoflhimdenjaaaGreat
