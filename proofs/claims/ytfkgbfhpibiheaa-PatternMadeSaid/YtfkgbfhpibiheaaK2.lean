/- Plain texts, joined. No program is in sight here. -/
import Derived.Test.YtfkgbfhpibiheaaL3
import Derived.Test.YtfkgbfhpibiheaaP1
set_option linter.unusedVariables false
set_option linter.unusedSimpArgs false
namespace Go.Proofs.Ytfkgbfhpibiheaa
section
open Go
def Ed (s b : Int) : Int := if b = 0 then s else 0
def mA (b : Int) : Int := if b < 1024 then 56 else if b < 2048 then 80 else if b < 3072 then 112 else if b < 7680 then 128 else if b < 15360 then 192 else 256
def E7 (b : Int) : Int := if 512 <= b /\ b <= 16384 then mA b else 0
def J0 (b : Int) : Int := if b = 160 \/ b = 224 \/ b = 256 \/ b = 384 \/ b = 521 then b / 2 else 0
def Mf (sizes strengths : List Int) (b : Int) : Int := match sizes.findIdx? (fun e => decide (b = e)) with | some i => strengths.getD i 0 | none => 0
def Gh : Nat -> Int -> Int
 | 1 => Ed 18
 | 2 => Ed 60
 | 3 => Ed 128
 | 4 => Ed 192
 | 5 => E7
 | 6 => E7
 | 7 => J0
 | 8 => Ed 128
 | 9 => Mf [44, 65, 87] [128, 192, 256]
 | 10 => E7
 | 11 => E7
 | 12 => J0
 | 13 => Mf [512, 768, 1024] [128, 192, 256]
 | 14 => Mf [40, 128] [40, 60]
 | 15 => Mf [112, 168] [80, 112]
 | 16 => Mf [128, 256] [128, 256]
 | 17 => Mf [128, 256] [128, 256]
 | 18 => Ed 256
 | 19 => Ed 64
 | 20 => Ed 80
 | 21 => Ed 128
 | 22 => Ed 256
 | _ => fun _ => 0
def Hj (u : Aa) : Int := if 1 <= u.Alg /\ u.Alg <= 22 then Gh u.Alg.toNat u.Bits else 0
theorem E8 (b : Int) (sizes strengths : List Int) (h : sizes.length = strengths.length) (hl : sizes.length < 1000000) : B5 b sizes strengths = some (Mf sizes strengths b) := by
 unfold B5 Mf
 refine (Ri (body := fun q' => B5.l1 b sizes strengths q') sizes (fun i => (i : Int)) (fun e => decide (b = e)) (fun i => strengths.getD i 0) 0 (fun i x hx => ?_) ?_).trans ?_
 ·have h1 := V9 hx
  show B5.l1 b sizes strengths (i : Int) = _
  unfold B5.l1
  rw [Pg hx, Bw, Cl (by omega)]
  have hs : strengths[i]? = some (strengths.getD i 0) := by
   rw [zA, xK (by omega)]; rfl
  by_cases e : b = x
  ·rw [xN e.symm, xN e, hs]; rfl
  ·rw [xL (fun e' => e e'.symm), xL e]; rfl
 ·show B5.l1 b sizes strengths (sizes.length : Int) = _
  unfold B5.l1
  rw [I0]; rfl
 ·rfl
theorem Jh (s : List Int) (v : Int) (hl : s.length < 4611686018427387904) : Cb s v = some (match s.findIdx? (fun e => decide (v = e)) with | some i => (i : Int) | none => -1) := by
 unfold Cb
 refine Ri (body := fun q' => Cb.l1 s v q') s (fun i => (i : Int)) (fun e => decide (v = e)) (fun i => (i : Int)) (-1) (fun i x hx => ?_) ?_
 ·have h1 := V9 hx
  show Cb.l1 s v (i : Int) = _
  unfold Cb.l1
  rw [Pg hx, Cl (by omega)]
  cases decide (v = x) <;> rfl
 ·show Cb.l1 s v (s.length : Int) = _
  unfold Cb.l1
  rw [I0]; rfl
theorem P1 (s : List Int) (v : Int) (hl : s.length < 4611686018427387904) : Ek s v = some (decide (v ∈ s)) := by
 unfold Ek
 rw [Jh s v hl, xJ]
 cases h : s.findIdx? (fun e => decide (v = e)) with
 | none =>
  have := aBa.1 h
  have hn : ¬ v ∈ s := fun hm => by have := this v hm; simp at this
  rw [xL hn]; rfl
 | some i =>
  have h2 := List.findIdx?_isSome (xs := s) (p := fun e => decide (v = e))
  rw [h] at h2
  have : v ∈ s := by
   have h3 := h2.symm
   rw [Option.isSome_some, zN] at h3
   obtain ⟨x, hx, e⟩ := h3
   rw [xU e]; exact hx
  rw [xN this]
  simp
theorem S4 (b : Int) : C6 b = some (mA b) := by
 have s0 : C6.l1 b 0 = some (if b < 1024 then .done 56 else .next 1) := by
  by_cases h : b < 1024
  ·rw [if_pos h]; show cond (decide (b < 1024)) _ _ = _; rw [xN h]; rfl
  ·rw [if_neg h]; show cond (decide (b < 1024)) _ _ = _; rw [xL h]; rfl
 have s1 : C6.l1 b 1 = some (if b < 2048 then .done 80 else .next 2) := by
  by_cases h : b < 2048
  ·rw [if_pos h]; show cond (decide (b < 2048)) _ _ = _; rw [xN h]; rfl
  ·rw [if_neg h]; show cond (decide (b < 2048)) _ _ = _; rw [xL h]; rfl
 have s2 : C6.l1 b 2 = some (if b < 3072 then .done 112 else .next 3) := by
  by_cases h : b < 3072
  ·rw [if_pos h]; show cond (decide (b < 3072)) _ _ = _; rw [xN h]; rfl
  ·rw [if_neg h]; show cond (decide (b < 3072)) _ _ = _; rw [xL h]; rfl
 have s3 : C6.l1 b 3 = some (if b < 7680 then .done 128 else .next 4) := by
  by_cases h : b < 7680
  ·rw [if_pos h]; show cond (decide (b < 7680)) _ _ = _; rw [xN h]; rfl
  ·rw [if_neg h]; show cond (decide (b < 7680)) _ _ = _; rw [xL h]; rfl
 have s4 : C6.l1 b 4 = some (if b < 15360 then .done 192 else .next 5) := by
  by_cases h : b < 15360
  ·rw [if_pos h]; show cond (decide (b < 15360)) _ _ = _; rw [xN h]; rfl
  ·rw [if_neg h]; show cond (decide (b < 15360)) _ _ = _; rw [xL h]; rfl
 have s5 : C6.l1 b 5 = some (.done 256) := rfl
 unfold C6 mA
 rw [Gf, s0]
 split
 ·rfl
 show B6 _ (1 : Int) = _
 rw [Gf, s1]
 split
 ·rfl
 show B6 _ (2 : Int) = _
 rw [Gf, s2]
 split
 ·rfl
 show B6 _ (3 : Int) = _
 rw [Gf, s3]
 split
 ·rfl
 show B6 _ (4 : Int) = _
 rw [Gf, s4]
 split
 ·rfl
 show B6 _ (5 : Int) = _
 rw [Gf, s5]; rfl
theorem S2 (b : Int) : Dg b = some (E7 b) := by
 unfold Dg Dg.j1 E7 mA
 by_cases h1 : b < 512
 ·rw [xN h1, if_neg (by omega)]; rfl
 ·by_cases h2 : 16384 < b
  ·rw [xL h1, xN h2, if_neg (by omega)]; rfl
  ·rw [xL h1, xL h2, if_pos (by omega)]
   simp only [xP]
   by_cases a : b < 1024
   ·simp [a]
   by_cases a2 : b < 2048
   ·simp [a, a2]
   by_cases a3 : b < 3072
   ·simp [a, a2, a3]
   by_cases a4 : b < 7680
   ·simp [a, a2, a3, a4]
   by_cases a5 : b < 15360 <;> simp [a, a2, a3, a4, a5]
theorem tV (b : Int) : A9 ⟨1, b⟩ = some (Gh 1 b) := by
 show cond (decide (b = 0)) (some 18) (some 0) = some (Ed 18 b)
 unfold Ed
 by_cases h : b = 0 <;> simp [h]
theorem uN (b : Int) : Ay ⟨1, b⟩ = some (Gh 1 b) := by
 show (B5 b [0] [18]).bind (fun y_8 => some y_8) = some (Ed 18 b)
 rw [E8 b [0] [18] rfl (by decide)]
 unfold Mf Ed
 by_cases h : b = 0 <;> simp [h]
theorem tI (b : Int) : A9 ⟨2, b⟩ = some (Gh 2 b) := by
 show cond (decide (b = 0)) (some 60) (some 0) = some (Ed 60 b)
 unfold Ed
 by_cases h : b = 0 <;> simp [h]
theorem uX (b : Int) : Ay ⟨2, b⟩ = some (Gh 2 b) := by
 show (B5 b [0] [60]).bind (fun y_8 => some y_8) = some (Ed 60 b)
 rw [E8 b [0] [60] rfl (by decide)]
 unfold Mf Ed
 by_cases h : b = 0 <;> simp [h]
theorem vI (b : Int) : A9 ⟨3, b⟩ = some (Gh 3 b) := by
 show cond (decide (b = 0)) (some 128) (some 0) = some (Ed 128 b)
 unfold Ed
 by_cases h : b = 0 <;> simp [h]
theorem tE (b : Int) : Ay ⟨3, b⟩ = some (Gh 3 b) := by
 show (B5 b [0] [128]).bind (fun y_8 => some y_8) = some (Ed 128 b)
 rw [E8 b [0] [128] rfl (by decide)]
 unfold Mf Ed
 by_cases h : b = 0 <;> simp [h]
theorem tU (b : Int) : A9 ⟨4, b⟩ = some (Gh 4 b) := by
 show cond (decide (b = 0)) (some 192) (some 0) = some (Ed 192 b)
 unfold Ed
 by_cases h : b = 0 <;> simp [h]
theorem uF (b : Int) : Ay ⟨4, b⟩ = some (Gh 4 b) := by
 show (B5 b [0] [192]).bind (fun y_8 => some y_8) = some (Ed 192 b)
 rw [E8 b [0] [192] rfl (by decide)]
 unfold Mf Ed
 by_cases h : b = 0 <;> simp [h]
theorem uM (b : Int) : A9 ⟨5, b⟩ = some (Gh 5 b) := by
 show cond (decide (512 <= b)) (A9.j1 ⟨5, b⟩ (decide (b <= 16384))) (A9.j1 ⟨5, b⟩ false) = some (E7 b)
 unfold A9.j1 E7
 rw [S4]
 by_cases h1 : 512 <= b <;> by_cases h2 : b <= 16384 <;> simp [h1, h2]
theorem tL (b : Int) : Ay ⟨5, b⟩ = some (Gh 5 b) := by
 show (Dg b).bind (fun y => some y) = some (E7 b)
 rw [S2]; rfl
theorem uC (b : Int) : A9 ⟨6, b⟩ = some (Gh 6 b) := by
 show cond (decide (512 <= b)) (A9.j1 ⟨6, b⟩ (decide (b <= 16384))) (A9.j1 ⟨6, b⟩ false) = some (E7 b)
 unfold A9.j1 E7
 rw [S4]
 by_cases h1 : 512 <= b <;> by_cases h2 : b <= 16384 <;> simp [h1, h2]
theorem vA (b : Int) : Ay ⟨6, b⟩ = some (Gh 6 b) := by
 show (Dg b).bind (fun y => some y) = some (E7 b)
 rw [S2]; rfl
theorem tX (b : Int) : A9 ⟨7, b⟩ = some (Gh 7 b) := by
 show (Ek [160, 224, 256, 384, 521] b).bind (fun y_3 => cond y_3 ((Ia b 2).bind fun q => some q) (some 0)) = some (J0 b)
 rw [P1 _ _ (by decide)]
 unfold J0
 by_cases h : b = 160 \/ b = 224 \/ b = 256 \/ b = 384 \/ b = 521
 ·rw [if_pos h, xN (by simpa using h)]
  rcases h with h | h | h | h | h <;> (subst h; rfl)
 ·rw [if_neg h, xL (by simpa using h)]; rfl
theorem uE (b : Int) : Ay ⟨7, b⟩ = some (Gh 7 b) := by
 show Ay.j2 ⟨7, b⟩ true = some (J0 b)
 unfold Ay.j2 Ay.j3 J0
 by_cases h : b = 160 \/ b = 224 \/ b = 256 \/ b = 384 \/ b = 521
 ·rw [if_pos h]
  rcases h with h | h | h | h | h <;> (subst h; rfl)
 ·rw [if_neg h]
  have h1 : ¬ b = 160 := by omega
  have h2 : ¬ b = 224 := by omega
  have h3 : ¬ b = 256 := by omega
  have h4 : ¬ b = 384 := by omega
  have h5 : ¬ b = 521 := by omega
  simp [h1, h2, h3, h4, h5]
theorem tF (b : Int) : A9 ⟨8, b⟩ = some (Gh 8 b) := by
 show cond (decide (b = 0)) (some 128) (some 0) = some (Ed 128 b)
 unfold Ed
 by_cases h : b = 0 <;> simp [h]
theorem tY (b : Int) : Ay ⟨8, b⟩ = some (Gh 8 b) := by
 show (B5 b [0] [128]).bind (fun y_8 => some y_8) = some (Ed 128 b)
 rw [E8 b [0] [128] rfl (by decide)]
 unfold Mf Ed
 by_cases h : b = 0 <;> simp [h]
theorem tZ (b : Int) : A9 ⟨9, b⟩ = some (Gh 9 b) := by
 show (Cb [44, 65, 87] b).bind (fun y_4 => cond (decide (0 <= y_4)) ((Bo [128, 192, 256] y_4).bind fun e_2 => some e_2) (some 0)) = some (Mf [44, 65, 87] [128, 192, 256] b)
 rw [Jh _ _ (by decide)]
 unfold Mf
 cases h : List.findIdx? (fun e => decide (b = e)) [44, 65, 87] with
 | none => rfl
 | some i =>
  have hi := (yU.1 h).1
  have : i < 3 := hi
  rcases (by omega : i = 0 \/ i = 1 \/ i = 2) with h | h | h <;> (subst h; rfl)
theorem uQ (b : Int) : Ay ⟨9, b⟩ = some (Gh 9 b) := by
 show (B5 b [44, 65, 87] [128, 192, 256]).bind (fun y => some y) = some (Mf [44, 65, 87] [128, 192, 256] b)
 rw [E8 b [44, 65, 87] [128, 192, 256] rfl (by decide)]; rfl
theorem qZ (b : Int) : A9 ⟨10, b⟩ = some (Gh 10 b) := by
 show cond (decide (512 <= b)) (A9.j1 ⟨10, b⟩ (decide (b <= 16384))) (A9.j1 ⟨10, b⟩ false) = some (E7 b)
 unfold A9.j1 E7
 rw [S4]
 by_cases h1 : 512 <= b <;> by_cases h2 : b <= 16384 <;> simp [h1, h2]
theorem sL (b : Int) : Ay ⟨10, b⟩ = some (Gh 10 b) := by
 show (Dg b).bind (fun y => some y) = some (E7 b)
 rw [S2]; rfl
theorem oQ (b : Int) : A9 ⟨11, b⟩ = some (Gh 11 b) := by
 show cond (decide (512 <= b)) (A9.j1 ⟨11, b⟩ (decide (b <= 16384))) (A9.j1 ⟨11, b⟩ false) = some (E7 b)
 unfold A9.j1 E7
 rw [S4]
 by_cases h1 : 512 <= b <;> by_cases h2 : b <= 16384 <;> simp [h1, h2]
theorem rN (b : Int) : Ay ⟨11, b⟩ = some (Gh 11 b) := by
 show (Dg b).bind (fun y => some y) = some (E7 b)
 rw [S2]; rfl
theorem rF (b : Int) : A9 ⟨12, b⟩ = some (Gh 12 b) := by
 show (Ek [160, 224, 256, 384, 521] b).bind (fun y_3 => cond y_3 ((Ia b 2).bind fun q => some q) (some 0)) = some (J0 b)
 rw [P1 _ _ (by decide)]
 unfold J0
 by_cases h : b = 160 \/ b = 224 \/ b = 256 \/ b = 384 \/ b = 521
 ·rw [if_pos h, xN (by simpa using h)]
  rcases h with h | h | h | h | h <;> (subst h; rfl)
 ·rw [if_neg h, xL (by simpa using h)]; rfl
theorem pA (b : Int) : Ay ⟨12, b⟩ = some (Gh 12 b) := by
 show Ay.j2 ⟨12, b⟩ true = some (J0 b)
 unfold Ay.j2 Ay.j3 J0
 by_cases h : b = 160 \/ b = 224 \/ b = 256 \/ b = 384 \/ b = 521
 ·rw [if_pos h]
  rcases h with h | h | h | h | h <;> (subst h; rfl)
 ·rw [if_neg h]
  have h1 : ¬ b = 160 := by omega
  have h2 : ¬ b = 224 := by omega
  have h3 : ¬ b = 256 := by omega
  have h4 : ¬ b = 384 := by omega
  have h5 : ¬ b = 521 := by omega
  simp [h1, h2, h3, h4, h5]
theorem rB (b : Int) : A9 ⟨13, b⟩ = some (Gh 13 b) := by
 show (Cb [512, 768, 1024] b).bind (fun y_4 => cond (decide (0 <= y_4)) ((Bo [128, 192, 256] y_4).bind fun e_2 => some e_2) (some 0)) = some (Mf [512, 768, 1024] [128, 192, 256] b)
 rw [Jh _ _ (by decide)]
 unfold Mf
 cases h : List.findIdx? (fun e => decide (b = e)) [512, 768, 1024] with
 | none => rfl
 | some i =>
  have hi := (yU.1 h).1
  have : i < 3 := hi
  rcases (by omega : i = 0 \/ i = 1 \/ i = 2) with h | h | h <;> (subst h; rfl)
theorem pF (b : Int) : Ay ⟨13, b⟩ = some (Gh 13 b) := by
 show (B5 b [512, 768, 1024] [128, 192, 256]).bind (fun y => some y) = some (Mf [512, 768, 1024] [128, 192, 256] b)
 rw [E8 b [512, 768, 1024] [128, 192, 256] rfl (by decide)]; rfl
theorem sH (b : Int) : A9 ⟨14, b⟩ = some (Gh 14 b) := by
 show (Cb [40, 128] b).bind (fun y_4 => cond (decide (0 <= y_4)) ((Bo [40, 60] y_4).bind fun e_2 => some e_2) (some 0)) = some (Mf [40, 128] [40, 60] b)
 rw [Jh _ _ (by decide)]
 unfold Mf
 cases h : List.findIdx? (fun e => decide (b = e)) [40, 128] with
 | none => rfl
 | some i =>
  have hi := (yU.1 h).1
  have : i < 2 := hi
  rcases (by omega : i = 0 \/ i = 1) with h | h <;> (subst h; rfl)
theorem rC (b : Int) : Ay ⟨14, b⟩ = some (Gh 14 b) := by
 show (B5 b [40, 128] [40, 60]).bind (fun y => some y) = some (Mf [40, 128] [40, 60] b)
 rw [E8 b [40, 128] [40, 60] rfl (by decide)]; rfl
theorem pD (b : Int) : A9 ⟨15, b⟩ = some (Gh 15 b) := by
 show (Cb [112, 168] b).bind (fun y_4 => cond (decide (0 <= y_4)) ((Bo [80, 112] y_4).bind fun e_2 => some e_2) (some 0)) = some (Mf [112, 168] [80, 112] b)
 rw [Jh _ _ (by decide)]
 unfold Mf
 cases h : List.findIdx? (fun e => decide (b = e)) [112, 168] with
 | none => rfl
 | some i =>
  have hi := (yU.1 h).1
  have : i < 2 := hi
  rcases (by omega : i = 0 \/ i = 1) with h | h <;> (subst h; rfl)
theorem rQ (b : Int) : Ay ⟨15, b⟩ = some (Gh 15 b) := by
 show (B5 b [112, 168] [80, 112]).bind (fun y => some y) = some (Mf [112, 168] [80, 112] b)
 rw [E8 b [112, 168] [80, 112] rfl (by decide)]; rfl
theorem rY (b : Int) : A9 ⟨16, b⟩ = some (Gh 16 b) := by
 show (Cb [128, 256] b).bind (fun y_4 => cond (decide (0 <= y_4)) ((Bo [128, 256] y_4).bind fun e_2 => some e_2) (some 0)) = some (Mf [128, 256] [128, 256] b)
 rw [Jh _ _ (by decide)]
 unfold Mf
 cases h : List.findIdx? (fun e => decide (b = e)) [128, 256] with
 | none => rfl
 | some i =>
  have hi := (yU.1 h).1
  have : i < 2 := hi
  rcases (by omega : i = 0 \/ i = 1) with h | h <;> (subst h; rfl)
theorem rD (b : Int) : Ay ⟨16, b⟩ = some (Gh 16 b) := by
 show (B5 b [128, 256] [128, 256]).bind (fun y => some y) = some (Mf [128, 256] [128, 256] b)
 rw [E8 b [128, 256] [128, 256] rfl (by decide)]; rfl
theorem qT (b : Int) : A9 ⟨17, b⟩ = some (Gh 17 b) := by
 show (Cb [128, 256] b).bind (fun y_4 => cond (decide (0 <= y_4)) ((Bo [128, 256] y_4).bind fun e_2 => some e_2) (some 0)) = some (Mf [128, 256] [128, 256] b)
 rw [Jh _ _ (by decide)]
 unfold Mf
 cases h : List.findIdx? (fun e => decide (b = e)) [128, 256] with
 | none => rfl
 | some i =>
  have hi := (yU.1 h).1
  have : i < 2 := hi
  rcases (by omega : i = 0 \/ i = 1) with h | h <;> (subst h; rfl)
theorem pE (b : Int) : Ay ⟨17, b⟩ = some (Gh 17 b) := by
 show (B5 b [128, 256] [128, 256]).bind (fun y => some y) = some (Mf [128, 256] [128, 256] b)
 rw [E8 b [128, 256] [128, 256] rfl (by decide)]; rfl
theorem qC (b : Int) : A9 ⟨18, b⟩ = some (Gh 18 b) := by
 show cond (decide (b = 0)) (some 256) (some 0) = some (Ed 256 b)
 unfold Ed
 by_cases h : b = 0 <;> simp [h]
theorem pC (b : Int) : Ay ⟨18, b⟩ = some (Gh 18 b) := by
 show (B5 b [0] [256]).bind (fun y_8 => some y_8) = some (Ed 256 b)
 rw [E8 b [0] [256] rfl (by decide)]
 unfold Mf Ed
 by_cases h : b = 0 <;> simp [h]
theorem qL (b : Int) : A9 ⟨19, b⟩ = some (Gh 19 b) := by
 show cond (decide (b = 0)) (some 64) (some 0) = some (Ed 64 b)
 unfold Ed
 by_cases h : b = 0 <;> simp [h]
theorem pT (b : Int) : Ay ⟨19, b⟩ = some (Gh 19 b) := by
 show (B5 b [0] [64]).bind (fun y_8 => some y_8) = some (Ed 64 b)
 rw [E8 b [0] [64] rfl (by decide)]
 unfold Mf Ed
 by_cases h : b = 0 <;> simp [h]
theorem pP (b : Int) : A9 ⟨20, b⟩ = some (Gh 20 b) := by
 show cond (decide (b = 0)) (some 80) (some 0) = some (Ed 80 b)
 unfold Ed
 by_cases h : b = 0 <;> simp [h]
theorem rU (b : Int) : Ay ⟨20, b⟩ = some (Gh 20 b) := by
 show (B5 b [0] [80]).bind (fun y_8 => some y_8) = some (Ed 80 b)
 rw [E8 b [0] [80] rfl (by decide)]
 unfold Mf Ed
 by_cases h : b = 0 <;> simp [h]
theorem qW (b : Int) : A9 ⟨21, b⟩ = some (Gh 21 b) := by
 show cond (decide (b = 0)) (some 128) (some 0) = some (Ed 128 b)
 unfold Ed
 by_cases h : b = 0 <;> simp [h]
theorem pQ (b : Int) : Ay ⟨21, b⟩ = some (Gh 21 b) := by
 show (B5 b [0] [128]).bind (fun y_8 => some y_8) = some (Ed 128 b)
 rw [E8 b [0] [128] rfl (by decide)]
 unfold Mf Ed
 by_cases h : b = 0 <;> simp [h]
theorem qE (b : Int) : A9 ⟨22, b⟩ = some (Gh 22 b) := by
 show cond (decide (b = 0)) (some 256) (some 0) = some (Ed 256 b)
 unfold Ed
 by_cases h : b = 0 <;> simp [h]
theorem rG (b : Int) : Ay ⟨22, b⟩ = some (Gh 22 b) := by
 show (B5 b [0] [256]).bind (fun y_8 => some y_8) = some (Ed 256 b)
 rw [E8 b [0] [256] rfl (by decide)]
 unfold Mf Ed
 by_cases h : b = 0 <;> simp [h]
theorem Oq {a : Int} (h : 1 <= a /\ a <= 22) : a = 1 \/ a = 2 \/ a = 3 \/ a = 4 \/ a = 5 \/ a = 6 \/ a = 7 \/ a = 8 \/ a = 9 \/ a = 10 \/ a = 11 \/ a = 12 \/ a = 13 \/ a = 14 \/ a = 15 \/ a = 16 \/ a = 17 \/ a = 18 \/ a = 19 \/ a = 20 \/ a = 21 \/ a = 22 := by omega
theorem Xn (u : Aa) : A9 u = some (Hj u) := by
 obtain ⟨a, b⟩ := u
 unfold Hj
 by_cases h0 : 1 <= a /\ a <= 22
 ·rw [if_pos h0]
  rcases Oq h0 with h | h | h | h | h | h | h | h | h | h | h | h | h | h | h | h | h | h | h | h | h | h <;> subst h
  ·exact tV b
  ·exact tI b
  ·exact vI b
  ·exact tU b
  ·exact uM b
  ·exact uC b
  ·exact tX b
  ·exact tF b
  ·exact tZ b
  ·exact qZ b
  ·exact oQ b
  ·exact rF b
  ·exact rB b
  ·exact sH b
  ·exact pD b
  ·exact rY b
  ·exact qT b
  ·exact qC b
  ·exact qL b
  ·exact pP b
  ·exact qW b
  ·exact qE b
 ·rw [if_neg h0]
  unfold A9 E5
  by_cases h1 : a < 1
  ·simp [h1, E5.j1]
  ·have h2 : 22 < a := by omega
   simp [h1, h2, E5.j1]
theorem X8 (u : Aa) : Ay u = some (Hj u) := by
 obtain ⟨a, b⟩ := u
 unfold Hj
 by_cases h0 : 1 <= a /\ a <= 22
 ·rw [if_pos h0]
  rcases Oq h0 with h | h | h | h | h | h | h | h | h | h | h | h | h | h | h | h | h | h | h | h | h | h <;> subst h
  ·exact uN b
  ·exact uX b
  ·exact tE b
  ·exact uF b
  ·exact tL b
  ·exact vA b
  ·exact uE b
  ·exact tY b
  ·exact uQ b
  ·exact sL b
  ·exact rN b
  ·exact pA b
  ·exact pF b
  ·exact rC b
  ·exact rQ b
  ·exact rD b
  ·exact pE b
  ·exact pC b
  ·exact pT b
  ·exact rU b
  ·exact pQ b
  ·exact rG b
 ·rw [if_neg h0]
  have h1 : ¬ a = 1 := by omega
  have h2 : ¬ a = 2 := by omega
  have h3 : ¬ a = 3 := by omega
  have h4 : ¬ a = 4 := by omega
  have h5 : ¬ a = 5 := by omega
  have h6 : ¬ a = 6 := by omega
  have h7 : ¬ a = 7 := by omega
  have h8 : ¬ a = 8 := by omega
  have h9 : ¬ a = 9 := by omega
  have h10 : ¬ a = 10 := by omega
  have h11 : ¬ a = 11 := by omega
  have h12 : ¬ a = 12 := by omega
  have h13 : ¬ a = 13 := by omega
  have h14 : ¬ a = 14 := by omega
  have h15 : ¬ a = 15 := by omega
  have h16 : ¬ a = 16 := by omega
  have h17 : ¬ a = 17 := by omega
  have h18 : ¬ a = 18 := by omega
  have h19 : ¬ a = 19 := by omega
  have h20 : ¬ a = 20 := by omega
  have h21 : ¬ a = 21 := by omega
  have h22 : ¬ a = 22 := by omega
  simp [Ay, Ay.j1, Ay.j2, Ay.j4, C7, C7.j1, C7.j2, h1, h2, h3, h4, h5, h6, h7, h8, h9, h10, h11, h12, h13, h14, h15, h16, h17, h18, h19, h20, h21, h22]
  rw [E8 b [0] [0] rfl (by decide)]
  unfold Mf
  by_cases h : b = 0 <;> simp [h]
theorem fM (u : Aa) : Hc u = some (decide (0 < Hj u)) := by unfold Hc; rw [Xn]; rfl
theorem fD (u : Aa) : Ii u = some (decide (0 < Hj u)) := by unfold Ii; rw [X8]; rfl
end
section
open Go
theorem cY {i n : Nat} (h : i < n) (hn : n <= 9223372036854775807) : W ((i : Int) + 1) = ((i + 1 : Nat) : Int) := by
 rw [Do (by omega)]; omega
theorem Tc (s : ByteArray) : (Up s).length = s.size := by unfold Up; rw [aBy]; rfl
theorem lV {s : ByteArray} {i : Nat} {c : UInt8} (h : (Up s)[i]? = some c) : idxT s (i : Int) = some c := by
 unfold idxT
 rw [if_neg (by omega), yA]
 unfold Up at h
 rw [<- h]; simp
def nX (c : UInt8) : Bool := decide (33 <= (c.toNat : Int)) && decide ((c.toNat : Int) <= 126)
def Pc (s : ByteArray) : Bool := decide (1 <= (s.size : Int)) && decide ((s.size : Int) <= 32) && !(Up s).any (fun c => !nX c)
theorem dQ (s : ByteArray) (hs : s.size <= 9223372036854775807) : Cz s = some (Pc s) := by
 unfold Cz Pc
 refine (Ux (body := fun q' => Cz.l1 s q') (Up s) (fun i => (i : Int)) (fun c => !nX c) false (decide (1 <= (s.size : Int)) && decide ((s.size : Int) <= 32)) (fun i c hc => ?_) ?_).trans ?_
 ·have h1 := V9 hc
  rw [Tc] at h1
  show Cz.l1 s (i : Int) = _
  unfold Cz.l1 Cz.j2 nX
  rw [Pg hc, cY h1 hs]
  by_cases a : (c.toNat : Int) <= 32
  ·rw [xN a, xL (show ¬ (33 : Int) <= (c.toNat : Int) by omega)]; rfl
  ·rw [xL a, xN (show (33 : Int) <= (c.toNat : Int) by omega)]
   by_cases b : 126 < (c.toNat : Int)
   ·rw [xN b, xL (by omega)]; rfl
   ·rw [xL b, xN (by omega)]; rfl
 ·show Cz.l1 s ((Up s).length : Int) = _
  unfold Cz.l1
  rw [I0]
  by_cases a : (1 : Int) <= (s.size : Int) <;> simp [a, up]
 ·cases (Up s).any fun c => !nX c <;> simp
theorem Yc (s : ByteArray) (hs : s.size <= 9223372036854775807) : Co s = some (Pc s) := by
 unfold Co Pc
 have hl : Co.j1 s false = some (!(Up s).any fun c => !nX c) := by
  unfold Co.j1
  rw [xP]
  refine (Ux (body := fun q' => Co.l2 s q') (Up s) (fun i => (i : Int)) (fun c => !nX c) false true (fun i c hc => ?_) ?_).trans ?_
  ·have h1 := V9 hc
   rw [Tc] at h1
   show Co.l2 s (i : Int) = _
   unfold Co.l2 Co.j3 nX
   rw [xN (by omega), xT, lV hc, xJ, xJ, cY h1 hs]
   by_cases a : (c.toNat : Int) < 33
   ·rw [xN a, xL (show ¬ (33 : Int) <= (c.toNat : Int) by omega)]; rfl
   ·rw [xL a, xN (show (33 : Int) <= (c.toNat : Int) by omega)]
    by_cases b : 126 < (c.toNat : Int)
    ·rw [xN b, xL (by omega)]; rfl
    ·rw [xL b, xN (by omega)]; rfl
  ·show Co.l2 s ((Up s).length : Int) = _
   unfold Co.l2
   rw [Tc, I0]; rfl
  ·cases (Up s).any fun c => !nX c <;> rfl
 by_cases a : (s.size : Int) < 1
 ·rw [xN a, xL (show ¬ (1 : Int) <= (s.size : Int) by omega)]; rfl
 ·rw [xL a, xN (show (1 : Int) <= (s.size : Int) by omega), xP]
  by_cases b : 32 < (s.size : Int)
  ·rw [xN b, xL (by omega)]; rfl
  ·rw [xL b, xN (by omega), hl]; simp
theorem mG {α : Type} {l : List α} {i : Nat} {x d : α} (h : l[i]? = some x) : l.getD i d = x := by
 rw [zA, h]; rfl
end
end Go.Proofs.Ytfkgbfhpibiheaa
