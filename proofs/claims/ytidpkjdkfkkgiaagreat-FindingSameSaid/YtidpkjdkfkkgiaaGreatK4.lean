/- Plain texts, joined. No program is in sight here. -/
import Derived.Test.YtidpkjdkfkkgiaaGreatL3
import Derived.Test.YtidpkjdkfkkgiaaGreatP1
set_option linter.unusedVariables false
set_option linter.unusedSimpArgs false
namespace Go.Proofs.YtidpkjdkfkkgiaaGreat
section
open Go
def Ew (s b : Int) : Int := if b = 0 then s else 0
def tO (b : Int) : Int := if b < 1024 then 56 else if b < 2048 then 80 else if b < 3072 then 112 else if b < 7680 then 128 else if b < 15360 then 192 else 256
def Gf (b : Int) : Int := if 512 <= b /\ b <= 16384 then tO b else 0
def Ou (b : Int) : Int := if b = 160 \/ b = 224 \/ b = 256 \/ b = 384 \/ b = 521 then b / 2 else 0
def Q5 (sizes strengths : List Int) (b : Int) : Int := match sizes.findIdx? (fun e => decide (b = e)) with | some i => strengths.getD i 0 | none => 0
def H7 : Nat -> Int -> Int
 | 1 => Ew 18
 | 2 => Ew 60
 | 3 => Ew 128
 | 4 => Ew 192
 | 5 => Gf
 | 6 => Gf
 | 7 => Ou
 | 8 => Ew 128
 | 9 => Q5 [44, 65, 87] [128, 192, 256]
 | 10 => Gf
 | 11 => Gf
 | 12 => Ou
 | 13 => Q5 [512, 768, 1024] [128, 192, 256]
 | 14 => Q5 [40, 128] [40, 60]
 | 15 => Q5 [112, 168] [80, 112]
 | 16 => Q5 [128, 256] [128, 256]
 | 17 => Q5 [128, 256] [128, 256]
 | 18 => Ew 256
 | 19 => Ew 64
 | 20 => Ew 80
 | 21 => Ew 128
 | 22 => Ew 256
 | _ => fun _ => 0
def aBs : Nat -> Int
 | 1 => 1
 | 2 => 1
 | 3 => 1
 | 4 => 1
 | 5 => 2
 | 6 => 2
 | 7 => 2
 | 8 => 2
 | 9 => 2
 | 10 => 3
 | 11 => 3
 | 12 => 3
 | 13 => 3
 | 14 => 4
 | 15 => 4
 | 16 => 4
 | 17 => 4
 | 18 => 4
 | 19 => 5
 | 20 => 5
 | 21 => 5
 | 22 => 5
 | _ => 0
def K0 (u : As) : Int := if 1 <= u.Alg /\ u.Alg <= 22 then H7 u.Alg.toNat u.Bits else 0
def M1 (a : Int) : Int := if 1 <= a /\ a <= 22 then aBs a.toNat else 0
theorem Fm (b : Int) (sizes strengths : List Int) (h : sizes.length = strengths.length) (hl : sizes.length < 1000000) : Bt b sizes strengths = some (Q5 sizes strengths b) := by
 unfold Bt Q5
 refine (Vt (body := fun q' => Bt.l1 b sizes strengths q') sizes (fun i => (i : Int)) (fun e => decide (b = e)) (fun i => strengths.getD i 0) 0 (fun i x hx => ?_) ?_).trans ?_
 ·have h1 := Oq hx
  show Bt.l1 b sizes strengths (i : Int) = _
  unfold Bt.l1
  rw [H8 hx, Eg, Gq (by omega)]
  have hs : strengths[i]? = some (strengths.getD i 0) := by
   rw [List.getD_eq_getElem?_getD, List.getElem?_eq_getElem (by omega)]; rfl
  by_cases e : b = x
  ·rw [decide_eq_true e.symm, decide_eq_true e, hs]; rfl
  ·rw [decide_eq_false (fun e' => e e'.symm), decide_eq_false e]; rfl
 ·show Bt.l1 b sizes strengths (sizes.length : Int) = _
  unfold Bt.l1
  rw [Ge]; rfl
 ·rfl
theorem Lj (s : List Int) (v : Int) (hl : s.length < 4611686018427387904) : B3 s v = some (match s.findIdx? (fun e => decide (v = e)) with | some i => (i : Int) | none => -1) := by
 unfold B3
 refine Vt (body := fun q' => B3.l1 s v q') s (fun i => (i : Int)) (fun e => decide (v = e)) (fun i => (i : Int)) (-1) (fun i x hx => ?_) ?_
 ·have h1 := Oq hx
  show B3.l1 s v (i : Int) = _
  unfold B3.l1
  rw [H8 hx, Gq (by omega)]
  cases decide (v = x) <;> rfl
 ·show B3.l1 s v (s.length : Int) = _
  unfold B3.l1
  rw [Ge]; rfl
theorem Mp (s : List Int) (v : Int) (hl : s.length < 4611686018427387904) : D0 s v = some (decide (v ∈ s)) := by
 unfold D0
 rw [Lj s v hl, Option.bind_some]
 cases h : s.findIdx? (fun e => decide (v = e)) with
 | none =>
  have := List.findIdx?_eq_none_iff.1 h
  have hn : ¬ v ∈ s := fun hm => by have := this v hm; simp at this
  rw [decide_eq_false hn]; rfl
 | some i =>
  have h2 := List.findIdx?_isSome (xs := s) (p := fun e => decide (v = e))
  rw [h] at h2
  have : v ∈ s := by
   have h3 := h2.symm
   rw [Option.isSome_some, List.any_eq_true] at h3
   obtain ⟨x, hx, e⟩ := h3
   rw [of_decide_eq_true e]; exact hx
  rw [decide_eq_true this]
  simp
theorem Xd (b : Int) : Db b = some (tO b) := by
 have s0 : Db.l1 b 0 = some (if b < 1024 then .done 56 else .next 1) := by
  by_cases h : b < 1024
  ·rw [if_pos h]; show cond (decide (b < 1024)) _ _ = _; rw [decide_eq_true h]; rfl
  ·rw [if_neg h]; show cond (decide (b < 1024)) _ _ = _; rw [decide_eq_false h]; rfl
 have s1 : Db.l1 b 1 = some (if b < 2048 then .done 80 else .next 2) := by
  by_cases h : b < 2048
  ·rw [if_pos h]; show cond (decide (b < 2048)) _ _ = _; rw [decide_eq_true h]; rfl
  ·rw [if_neg h]; show cond (decide (b < 2048)) _ _ = _; rw [decide_eq_false h]; rfl
 have s2 : Db.l1 b 2 = some (if b < 3072 then .done 112 else .next 3) := by
  by_cases h : b < 3072
  ·rw [if_pos h]; show cond (decide (b < 3072)) _ _ = _; rw [decide_eq_true h]; rfl
  ·rw [if_neg h]; show cond (decide (b < 3072)) _ _ = _; rw [decide_eq_false h]; rfl
 have s3 : Db.l1 b 3 = some (if b < 7680 then .done 128 else .next 4) := by
  by_cases h : b < 7680
  ·rw [if_pos h]; show cond (decide (b < 7680)) _ _ = _; rw [decide_eq_true h]; rfl
  ·rw [if_neg h]; show cond (decide (b < 7680)) _ _ = _; rw [decide_eq_false h]; rfl
 have s4 : Db.l1 b 4 = some (if b < 15360 then .done 192 else .next 5) := by
  by_cases h : b < 15360
  ·rw [if_pos h]; show cond (decide (b < 15360)) _ _ = _; rw [decide_eq_true h]; rfl
  ·rw [if_neg h]; show cond (decide (b < 15360)) _ _ = _; rw [decide_eq_false h]; rfl
 have s5 : Db.l1 b 5 = some (.done 256) := rfl
 unfold Db tO
 rw [Hn, s0]
 split
 ·rfl
 show Cf _ (1 : Int) = _
 rw [Hn, s1]
 split
 ·rfl
 show Cf _ (2 : Int) = _
 rw [Hn, s2]
 split
 ·rfl
 show Cf _ (3 : Int) = _
 rw [Hn, s3]
 split
 ·rfl
 show Cf _ (4 : Int) = _
 rw [Hn, s4]
 split
 ·rfl
 show Cf _ (5 : Int) = _
 rw [Hn, s5]; rfl
theorem Xi (b : Int) : Dm b = some (Gf b) := by
 unfold Dm Dm.j1 Gf tO
 by_cases h1 : b < 512
 ·rw [decide_eq_true h1, if_neg (by omega)]; rfl
 ·by_cases h2 : 16384 < b
  ·rw [decide_eq_false h1, decide_eq_true h2, if_neg (by omega)]; rfl
  ·rw [decide_eq_false h1, decide_eq_false h2, if_pos (by omega)]
   simp only [cond_false]
   by_cases a : b < 1024
   ·simp [a]
   by_cases a2 : b < 2048
   ·simp [a, a2]
   by_cases a3 : b < 3072
   ·simp [a, a2, a3]
   by_cases a4 : b < 7680
   ·simp [a, a2, a3, a4]
   by_cases a5 : b < 15360 <;> simp [a, a2, a3, a4, a5]
theorem aCm (b : Int) : A8 ⟨1, b⟩ = some (H7 1 b) := by
 show cond (decide (b = 0)) (some 18) (some 0) = some (Ew 18 b)
 unfold Ew
 by_cases h : b = 0 <;> simp [h]
theorem aB9 (b : Int) : Au ⟨1, b⟩ = some (H7 1 b) := by
 show (Bt b [0] [18]).bind (fun y_8 => some y_8) = some (Ew 18 b)
 rw [Fm b [0] [18] rfl (by decide)]
 unfold Q5 Ew
 by_cases h : b = 0 <;> simp [h]
theorem aC0 (b : Int) : A8 ⟨2, b⟩ = some (H7 2 b) := by
 show cond (decide (b = 0)) (some 60) (some 0) = some (Ew 60 b)
 unfold Ew
 by_cases h : b = 0 <;> simp [h]
theorem aCv (b : Int) : Au ⟨2, b⟩ = some (H7 2 b) := by
 show (Bt b [0] [60]).bind (fun y_8 => some y_8) = some (Ew 60 b)
 rw [Fm b [0] [60] rfl (by decide)]
 unfold Q5 Ew
 by_cases h : b = 0 <;> simp [h]
theorem aCr (b : Int) : A8 ⟨3, b⟩ = some (H7 3 b) := by
 show cond (decide (b = 0)) (some 128) (some 0) = some (Ew 128 b)
 unfold Ew
 by_cases h : b = 0 <;> simp [h]
theorem aCz (b : Int) : Au ⟨3, b⟩ = some (H7 3 b) := by
 show (Bt b [0] [128]).bind (fun y_8 => some y_8) = some (Ew 128 b)
 rw [Fm b [0] [128] rfl (by decide)]
 unfold Q5 Ew
 by_cases h : b = 0 <;> simp [h]
theorem aBo (b : Int) : A8 ⟨4, b⟩ = some (H7 4 b) := by
 show cond (decide (b = 0)) (some 192) (some 0) = some (Ew 192 b)
 unfold Ew
 by_cases h : b = 0 <;> simp [h]
theorem aDh (b : Int) : Au ⟨4, b⟩ = some (H7 4 b) := by
 show (Bt b [0] [192]).bind (fun y_8 => some y_8) = some (Ew 192 b)
 rw [Fm b [0] [192] rfl (by decide)]
 unfold Q5 Ew
 by_cases h : b = 0 <;> simp [h]
theorem aDb (b : Int) : A8 ⟨5, b⟩ = some (H7 5 b) := by
 show cond (decide (512 <= b)) (A8.j1 ⟨5, b⟩ (decide (b <= 16384))) (A8.j1 ⟨5, b⟩ false) = some (Gf b)
 unfold A8.j1 Gf
 rw [Xd]
 by_cases h1 : 512 <= b <;> by_cases h2 : b <= 16384 <;> simp [h1, h2]
theorem aC8 (b : Int) : Au ⟨5, b⟩ = some (H7 5 b) := by
 show (Dm b).bind (fun y => some y) = some (Gf b)
 rw [Xi]; rfl
theorem aCe (b : Int) : A8 ⟨6, b⟩ = some (H7 6 b) := by
 show cond (decide (512 <= b)) (A8.j1 ⟨6, b⟩ (decide (b <= 16384))) (A8.j1 ⟨6, b⟩ false) = some (Gf b)
 unfold A8.j1 Gf
 rw [Xd]
 by_cases h1 : 512 <= b <;> by_cases h2 : b <= 16384 <;> simp [h1, h2]
theorem aDi (b : Int) : Au ⟨6, b⟩ = some (H7 6 b) := by
 show (Dm b).bind (fun y => some y) = some (Gf b)
 rw [Xi]; rfl
theorem aDm (b : Int) : A8 ⟨7, b⟩ = some (H7 7 b) := by
 show (D0 [160, 224, 256, 384, 521] b).bind (fun y_3 => cond y_3 ((Ly b 2).bind fun q => some q) (some 0)) = some (Ou b)
 rw [Mp _ _ (by decide)]
 unfold Ou
 by_cases h : b = 160 \/ b = 224 \/ b = 256 \/ b = 384 \/ b = 521
 ·rw [if_pos h, decide_eq_true (by simpa using h)]
  rcases h with h | h | h | h | h <;> (subst h; rfl)
 ·rw [if_neg h, decide_eq_false (by simpa using h)]; rfl
theorem aCp (b : Int) : Au ⟨7, b⟩ = some (H7 7 b) := by
 show Au.j2 ⟨7, b⟩ true = some (Ou b)
 unfold Au.j2 Au.j3 Ou
 by_cases h : b = 160 \/ b = 224 \/ b = 256 \/ b = 384 \/ b = 521
 ·rw [if_pos h]
  rcases h with h | h | h | h | h <;> (subst h; rfl)
 ·rw [if_neg h]
  have h1 : ¬ b = 160 := by omega
  have h2 : ¬ b = 224 := by omega
  have h3 : ¬ b = 256 := by omega
  have h4 : ¬ b = 384 := by omega
  have h5 : ¬ b = 521 := by omega
  simp [h1, h2, h3, h4, h5]
theorem aC2 (b : Int) : A8 ⟨8, b⟩ = some (H7 8 b) := by
 show cond (decide (b = 0)) (some 128) (some 0) = some (Ew 128 b)
 unfold Ew
 by_cases h : b = 0 <;> simp [h]
theorem aCd (b : Int) : Au ⟨8, b⟩ = some (H7 8 b) := by
 show (Bt b [0] [128]).bind (fun y_8 => some y_8) = some (Ew 128 b)
 rw [Fm b [0] [128] rfl (by decide)]
 unfold Q5 Ew
 by_cases h : b = 0 <;> simp [h]
theorem aDl (b : Int) : A8 ⟨9, b⟩ = some (H7 9 b) := by
 show (B3 [44, 65, 87] b).bind (fun y_4 => cond (decide (0 <= y_4)) ((B1 [128, 192, 256] y_4).bind fun e_2 => some e_2) (some 0)) = some (Q5 [44, 65, 87] [128, 192, 256] b)
 rw [Lj _ _ (by decide)]
 unfold Q5
 cases h : List.findIdx? (fun e => decide (b = e)) [44, 65, 87] with
 | none => rfl
 | some i =>
  have hi := (List.findIdx?_eq_some_iff_getElem.1 h).1
  have : i < 3 := hi
  rcases (by omega : i = 0 \/ i = 1 \/ i = 2) with h | h | h <;> (subst h; rfl)
theorem aCc (b : Int) : Au ⟨9, b⟩ = some (H7 9 b) := by
 show (Bt b [44, 65, 87] [128, 192, 256]).bind (fun y => some y) = some (Q5 [44, 65, 87] [128, 192, 256] b)
 rw [Fm b [44, 65, 87] [128, 192, 256] rfl (by decide)]; rfl
theorem xD (b : Int) : A8 ⟨10, b⟩ = some (H7 10 b) := by
 show cond (decide (512 <= b)) (A8.j1 ⟨10, b⟩ (decide (b <= 16384))) (A8.j1 ⟨10, b⟩ false) = some (Gf b)
 unfold A8.j1 Gf
 rw [Xd]
 by_cases h1 : 512 <= b <;> by_cases h2 : b <= 16384 <;> simp [h1, h2]
theorem wF (b : Int) : Au ⟨10, b⟩ = some (H7 10 b) := by
 show (Dm b).bind (fun y => some y) = some (Gf b)
 rw [Xi]; rfl
theorem aAa (b : Int) : A8 ⟨11, b⟩ = some (H7 11 b) := by
 show cond (decide (512 <= b)) (A8.j1 ⟨11, b⟩ (decide (b <= 16384))) (A8.j1 ⟨11, b⟩ false) = some (Gf b)
 unfold A8.j1 Gf
 rw [Xd]
 by_cases h1 : 512 <= b <;> by_cases h2 : b <= 16384 <;> simp [h1, h2]
theorem wT (b : Int) : Au ⟨11, b⟩ = some (H7 11 b) := by
 show (Dm b).bind (fun y => some y) = some (Gf b)
 rw [Xi]; rfl
theorem aAr (b : Int) : A8 ⟨12, b⟩ = some (H7 12 b) := by
 show (D0 [160, 224, 256, 384, 521] b).bind (fun y_3 => cond y_3 ((Ly b 2).bind fun q => some q) (some 0)) = some (Ou b)
 rw [Mp _ _ (by decide)]
 unfold Ou
 by_cases h : b = 160 \/ b = 224 \/ b = 256 \/ b = 384 \/ b = 521
 ·rw [if_pos h, decide_eq_true (by simpa using h)]
  rcases h with h | h | h | h | h <;> (subst h; rfl)
 ·rw [if_neg h, decide_eq_false (by simpa using h)]; rfl
theorem aAk (b : Int) : Au ⟨12, b⟩ = some (H7 12 b) := by
 show Au.j2 ⟨12, b⟩ true = some (Ou b)
 unfold Au.j2 Au.j3 Ou
 by_cases h : b = 160 \/ b = 224 \/ b = 256 \/ b = 384 \/ b = 521
 ·rw [if_pos h]
  rcases h with h | h | h | h | h <;> (subst h; rfl)
 ·rw [if_neg h]
  have h1 : ¬ b = 160 := by omega
  have h2 : ¬ b = 224 := by omega
  have h3 : ¬ b = 256 := by omega
  have h4 : ¬ b = 384 := by omega
  have h5 : ¬ b = 521 := by omega
  simp [h1, h2, h3, h4, h5]
theorem xT (b : Int) : A8 ⟨13, b⟩ = some (H7 13 b) := by
 show (B3 [512, 768, 1024] b).bind (fun y_4 => cond (decide (0 <= y_4)) ((B1 [128, 192, 256] y_4).bind fun e_2 => some e_2) (some 0)) = some (Q5 [512, 768, 1024] [128, 192, 256] b)
 rw [Lj _ _ (by decide)]
 unfold Q5
 cases h : List.findIdx? (fun e => decide (b = e)) [512, 768, 1024] with
 | none => rfl
 | some i =>
  have hi := (List.findIdx?_eq_some_iff_getElem.1 h).1
  have : i < 3 := hi
  rcases (by omega : i = 0 \/ i = 1 \/ i = 2) with h | h | h <;> (subst h; rfl)
theorem yA (b : Int) : Au ⟨13, b⟩ = some (H7 13 b) := by
 show (Bt b [512, 768, 1024] [128, 192, 256]).bind (fun y => some y) = some (Q5 [512, 768, 1024] [128, 192, 256] b)
 rw [Fm b [512, 768, 1024] [128, 192, 256] rfl (by decide)]; rfl
theorem aBa (b : Int) : A8 ⟨14, b⟩ = some (H7 14 b) := by
 show (B3 [40, 128] b).bind (fun y_4 => cond (decide (0 <= y_4)) ((B1 [40, 60] y_4).bind fun e_2 => some e_2) (some 0)) = some (Q5 [40, 128] [40, 60] b)
 rw [Lj _ _ (by decide)]
 unfold Q5
 cases h : List.findIdx? (fun e => decide (b = e)) [40, 128] with
 | none => rfl
 | some i =>
  have hi := (List.findIdx?_eq_some_iff_getElem.1 h).1
  have : i < 2 := hi
  rcases (by omega : i = 0 \/ i = 1) with h | h <;> (subst h; rfl)
theorem aAb (b : Int) : Au ⟨14, b⟩ = some (H7 14 b) := by
 show (Bt b [40, 128] [40, 60]).bind (fun y => some y) = some (Q5 [40, 128] [40, 60] b)
 rw [Fm b [40, 128] [40, 60] rfl (by decide)]; rfl
theorem yE (b : Int) : A8 ⟨15, b⟩ = some (H7 15 b) := by
 show (B3 [112, 168] b).bind (fun y_4 => cond (decide (0 <= y_4)) ((B1 [80, 112] y_4).bind fun e_2 => some e_2) (some 0)) = some (Q5 [112, 168] [80, 112] b)
 rw [Lj _ _ (by decide)]
 unfold Q5
 cases h : List.findIdx? (fun e => decide (b = e)) [112, 168] with
 | none => rfl
 | some i =>
  have hi := (List.findIdx?_eq_some_iff_getElem.1 h).1
  have : i < 2 := hi
  rcases (by omega : i = 0 \/ i = 1) with h | h <;> (subst h; rfl)
theorem wA (b : Int) : Au ⟨15, b⟩ = some (H7 15 b) := by
 show (Bt b [112, 168] [80, 112]).bind (fun y => some y) = some (Q5 [112, 168] [80, 112] b)
 rw [Fm b [112, 168] [80, 112] rfl (by decide)]; rfl
theorem aAg (b : Int) : A8 ⟨16, b⟩ = some (H7 16 b) := by
 show (B3 [128, 256] b).bind (fun y_4 => cond (decide (0 <= y_4)) ((B1 [128, 256] y_4).bind fun e_2 => some e_2) (some 0)) = some (Q5 [128, 256] [128, 256] b)
 rw [Lj _ _ (by decide)]
 unfold Q5
 cases h : List.findIdx? (fun e => decide (b = e)) [128, 256] with
 | none => rfl
 | some i =>
  have hi := (List.findIdx?_eq_some_iff_getElem.1 h).1
  have : i < 2 := hi
  rcases (by omega : i = 0 \/ i = 1) with h | h <;> (subst h; rfl)
theorem aAj (b : Int) : Au ⟨16, b⟩ = some (H7 16 b) := by
 show (Bt b [128, 256] [128, 256]).bind (fun y => some y) = some (Q5 [128, 256] [128, 256] b)
 rw [Fm b [128, 256] [128, 256] rfl (by decide)]; rfl
theorem xN (b : Int) : A8 ⟨17, b⟩ = some (H7 17 b) := by
 show (B3 [128, 256] b).bind (fun y_4 => cond (decide (0 <= y_4)) ((B1 [128, 256] y_4).bind fun e_2 => some e_2) (some 0)) = some (Q5 [128, 256] [128, 256] b)
 rw [Lj _ _ (by decide)]
 unfold Q5
 cases h : List.findIdx? (fun e => decide (b = e)) [128, 256] with
 | none => rfl
 | some i =>
  have hi := (List.findIdx?_eq_some_iff_getElem.1 h).1
  have : i < 2 := hi
  rcases (by omega : i = 0 \/ i = 1) with h | h <;> (subst h; rfl)
theorem xV (b : Int) : Au ⟨17, b⟩ = some (H7 17 b) := by
 show (Bt b [128, 256] [128, 256]).bind (fun y => some y) = some (Q5 [128, 256] [128, 256] b)
 rw [Fm b [128, 256] [128, 256] rfl (by decide)]; rfl
theorem wV (b : Int) : A8 ⟨18, b⟩ = some (H7 18 b) := by
 show cond (decide (b = 0)) (some 256) (some 0) = some (Ew 256 b)
 unfold Ew
 by_cases h : b = 0 <;> simp [h]
theorem xM (b : Int) : Au ⟨18, b⟩ = some (H7 18 b) := by
 show (Bt b [0] [256]).bind (fun y_8 => some y_8) = some (Ew 256 b)
 rw [Fm b [0] [256] rfl (by decide)]
 unfold Q5 Ew
 by_cases h : b = 0 <;> simp [h]
theorem yC (b : Int) : A8 ⟨19, b⟩ = some (H7 19 b) := by
 show cond (decide (b = 0)) (some 64) (some 0) = some (Ew 64 b)
 unfold Ew
 by_cases h : b = 0 <;> simp [h]
theorem wE (b : Int) : Au ⟨19, b⟩ = some (H7 19 b) := by
 show (Bt b [0] [64]).bind (fun y_8 => some y_8) = some (Ew 64 b)
 rw [Fm b [0] [64] rfl (by decide)]
 unfold Q5 Ew
 by_cases h : b = 0 <;> simp [h]
theorem aAe (b : Int) : A8 ⟨20, b⟩ = some (H7 20 b) := by
 show cond (decide (b = 0)) (some 80) (some 0) = some (Ew 80 b)
 unfold Ew
 by_cases h : b = 0 <;> simp [h]
theorem yB (b : Int) : Au ⟨20, b⟩ = some (H7 20 b) := by
 show (Bt b [0] [80]).bind (fun y_8 => some y_8) = some (Ew 80 b)
 rw [Fm b [0] [80] rfl (by decide)]
 unfold Q5 Ew
 by_cases h : b = 0 <;> simp [h]
theorem xF (b : Int) : A8 ⟨21, b⟩ = some (H7 21 b) := by
 show cond (decide (b = 0)) (some 128) (some 0) = some (Ew 128 b)
 unfold Ew
 by_cases h : b = 0 <;> simp [h]
theorem zC (b : Int) : Au ⟨21, b⟩ = some (H7 21 b) := by
 show (Bt b [0] [128]).bind (fun y_8 => some y_8) = some (Ew 128 b)
 rw [Fm b [0] [128] rfl (by decide)]
 unfold Q5 Ew
 by_cases h : b = 0 <;> simp [h]
theorem zW (b : Int) : A8 ⟨22, b⟩ = some (H7 22 b) := by
 show cond (decide (b = 0)) (some 256) (some 0) = some (Ew 256 b)
 unfold Ew
 by_cases h : b = 0 <;> simp [h]
theorem yQ (b : Int) : Au ⟨22, b⟩ = some (H7 22 b) := by
 show (Bt b [0] [256]).bind (fun y_8 => some y_8) = some (Ew 256 b)
 rw [Fm b [0] [256] rfl (by decide)]
 unfold Q5 Ew
 by_cases h : b = 0 <;> simp [h]
theorem R7 {a : Int} (h : 1 <= a /\ a <= 22) : a = 1 \/ a = 2 \/ a = 3 \/ a = 4 \/ a = 5 \/ a = 6 \/ a = 7 \/ a = 8 \/ a = 9 \/ a = 10 \/ a = 11 \/ a = 12 \/ a = 13 \/ a = 14 \/ a = 15 \/ a = 16 \/ a = 17 \/ a = 18 \/ a = 19 \/ a = 20 \/ a = 21 \/ a = 22 := by omega
theorem cJ (u : As) : A8 u = some (K0 u) := by
 obtain ⟨a, b⟩ := u
 unfold K0
 by_cases h0 : 1 <= a /\ a <= 22
 ·rw [if_pos h0]
  rcases R7 h0 with h | h | h | h | h | h | h | h | h | h | h | h | h | h | h | h | h | h | h | h | h | h <;> subst h
  ·exact aCm b
  ·exact aC0 b
  ·exact aCr b
  ·exact aBo b
  ·exact aDb b
  ·exact aCe b
  ·exact aDm b
  ·exact aC2 b
  ·exact aDl b
  ·exact xD b
  ·exact aAa b
  ·exact aAr b
  ·exact xT b
  ·exact aBa b
  ·exact yE b
  ·exact aAg b
  ·exact xN b
  ·exact wV b
  ·exact yC b
  ·exact aAe b
  ·exact xF b
  ·exact zW b
 ·rw [if_neg h0]
  unfold A8 Ef
  by_cases h1 : a < 1
  ·simp [h1, Ef.j1]
  ·have h2 : 22 < a := by omega
   simp [h1, h2, Ef.j1]
theorem Up (u : As) : Au u = some (K0 u) := by
 obtain ⟨a, b⟩ := u
 unfold K0
 by_cases h0 : 1 <= a /\ a <= 22
 ·rw [if_pos h0]
  rcases R7 h0 with h | h | h | h | h | h | h | h | h | h | h | h | h | h | h | h | h | h | h | h | h | h <;> subst h
  ·exact aB9 b
  ·exact aCv b
  ·exact aCz b
  ·exact aDh b
  ·exact aC8 b
  ·exact aDi b
  ·exact aCp b
  ·exact aCd b
  ·exact aCc b
  ·exact wF b
  ·exact wT b
  ·exact aAk b
  ·exact yA b
  ·exact aAb b
  ·exact wA b
  ·exact aAj b
  ·exact xV b
  ·exact xM b
  ·exact wE b
  ·exact yB b
  ·exact zC b
  ·exact yQ b
 ·rw [if_neg h0]
  have h1 : ¬ a = 1 := by omega
  have h2 : ¬ a = 2 := by omega
  have h3 : ¬ a = 3 := by omega
  have h4 : ¬ a = 4 := by omega
  have h5 : ¬ a = 5 := by omega
  have h6 : ¬ a = 6 := by omega
  have h7 : ¬ a = 7 := by omega
  have h8 : ¬ a = 8 := by omega
  have h9 : ¬ a = 9 := by omega
  have h10 : ¬ a = 10 := by omega
  have h11 : ¬ a = 11 := by omega
  have h12 : ¬ a = 12 := by omega
  have h13 : ¬ a = 13 := by omega
  have h14 : ¬ a = 14 := by omega
  have h15 : ¬ a = 15 := by omega
  have h16 : ¬ a = 16 := by omega
  have h17 : ¬ a = 17 := by omega
  have h18 : ¬ a = 18 := by omega
  have h19 : ¬ a = 19 := by omega
  have h20 : ¬ a = 20 := by omega
  have h21 : ¬ a = 21 := by omega
  have h22 : ¬ a = 22 := by omega
  simp [Au, Au.j1, Au.j2, Au.j4, Da, Da.j1, Da.j2, h1, h2, h3, h4, h5, h6, h7, h8, h9, h10, h11, h12, h13, h14, h15, h16, h17, h18, h19, h20, h21, h22]
  rw [Fm b [0] [0] rfl (by decide)]
  unfold Q5
  by_cases h : b = 0 <;> simp [h]
theorem Po (a : Int) : Gv a = some (M1 a) := by
 unfold M1
 by_cases h0 : 1 <= a /\ a <= 22
 ·rw [if_pos h0]
  rcases R7 h0 with h | h | h | h | h | h | h | h | h | h | h | h | h | h | h | h | h | h | h | h | h | h <;> (subst h; rfl)
 ·rw [if_neg h0]
  unfold Gv Ef
  by_cases h1 : a < 1
  ·simp [h1, Ef.j1]
  ·have h2 : 22 < a := by omega
   simp [h1, h2, Ef.j1]
theorem eJ (a : Int) : Ez a = some (M1 a) := by
 unfold M1
 by_cases h0 : 1 <= a /\ a <= 22
 ·rw [if_pos h0]
  rcases R7 h0 with h | h | h | h | h | h | h | h | h | h | h | h | h | h | h | h | h | h | h | h | h | h <;> (subst h; rfl)
 ·rw [if_neg h0]
  unfold Ez
  by_cases h1 : a < 1
  ·simp [h1, Ez.j1]
  ·have h2 : 22 < a := by omega
   simp [h1, h2, Ez.j1]
theorem Mt (u : As) : Gc u = some (decide (0 < K0 u)) := by unfold Gc; rw [cJ]; rfl
theorem aO (u : As) : I6 u = some (decide (0 < K0 u)) := by unfold I6; rw [Up]; rfl
end
section
open Go
theorem Uf {i n : Nat} (h : i < n) (hn : n <= 9223372036854775807) : W ((i : Int) + 1) = ((i + 1 : Nat) : Int) := by
 rw [Ee (by omega)]; omega
theorem Tz (s : ByteArray) : (Im s).length = s.size := by unfold Im; rw [Array.length_toList]; rfl
theorem tE {s : ByteArray} {i : Nat} {c : UInt8} (h : (Im s)[i]? = some c) : dI s (i : Int) = some c := by
 unfold dI
 rw [if_neg (by omega), Int.toNat_natCast]
 unfold Im at h
 rw [<- h]; simp
def vL (c : UInt8) : Bool := decide (33 <= (c.toNat : Int)) && decide ((c.toNat : Int) <= 126)
def Et (s : ByteArray) : Bool := decide (1 <= (s.size : Int)) && decide ((s.size : Int) <= 32) && !(Im s).any (fun c => !vL c)
theorem I5 (s : ByteArray) (hs : s.size <= 9223372036854775807) : Bs s = some (Et s) := by
 unfold Bs Et
 refine (Rp (body := fun q' => Bs.l1 s q') (Im s) (fun i => (i : Int)) (fun c => !vL c) false (decide (1 <= (s.size : Int)) && decide ((s.size : Int) <= 32)) (fun i c hc => ?_) ?_).trans ?_
 ·have h1 := Oq hc
  rw [Tz] at h1
  show Bs.l1 s (i : Int) = _
  unfold Bs.l1 Bs.j2 vL
  rw [H8 hc, Uf h1 hs]
  by_cases a : (c.toNat : Int) <= 32
  ·rw [decide_eq_true a, decide_eq_false (show ¬ (33 : Int) <= (c.toNat : Int) by omega)]; rfl
  ·rw [decide_eq_false a, decide_eq_true (show (33 : Int) <= (c.toNat : Int) by omega)]
   by_cases b : 126 < (c.toNat : Int)
   ·rw [decide_eq_true b, decide_eq_false (by omega)]; rfl
   ·rw [decide_eq_false b, decide_eq_true (by omega)]; rfl
 ·show Bs.l1 s ((Im s).length : Int) = _
  unfold Bs.l1
  rw [Ge]
  by_cases a : (1 : Int) <= (s.size : Int) <;> simp [a, up]
 ·cases (Im s).any fun c => !vL c <;> simp
theorem Xu (s : ByteArray) (hs : s.size <= 9223372036854775807) : Cd s = some (Et s) := by
 unfold Cd Et
 have hl : Cd.j1 s false = some (!(Im s).any fun c => !vL c) := by
  unfold Cd.j1
  rw [cond_false]
  refine (Rp (body := fun q' => Cd.l2 s q') (Im s) (fun i => (i : Int)) (fun c => !vL c) false true (fun i c hc => ?_) ?_).trans ?_
  ·have h1 := Oq hc
   rw [Tz] at h1
   show Cd.l2 s (i : Int) = _
   unfold Cd.l2 Cd.j3 vL
   rw [decide_eq_true (by omega), cond_true, tE hc, Option.bind_some, Option.bind_some, Uf h1 hs]
   by_cases a : (c.toNat : Int) < 33
   ·rw [decide_eq_true a, decide_eq_false (show ¬ (33 : Int) <= (c.toNat : Int) by omega)]; rfl
   ·rw [decide_eq_false a, decide_eq_true (show (33 : Int) <= (c.toNat : Int) by omega)]
    by_cases b : 126 < (c.toNat : Int)
    ·rw [decide_eq_true b, decide_eq_false (by omega)]; rfl
    ·rw [decide_eq_false b, decide_eq_true (by omega)]; rfl
  ·show Cd.l2 s ((Im s).length : Int) = _
   unfold Cd.l2
   rw [Tz, Ge]; rfl
  ·cases (Im s).any fun c => !vL c <;> rfl
 by_cases a : (s.size : Int) < 1
 ·rw [decide_eq_true a, decide_eq_false (show ¬ (1 : Int) <= (s.size : Int) by omega)]; rfl
 ·rw [decide_eq_false a, decide_eq_true (show (1 : Int) <= (s.size : Int) by omega), cond_false]
  by_cases b : 32 < (s.size : Int)
  ·rw [decide_eq_true b, decide_eq_false (by omega)]; rfl
  ·rw [decide_eq_false b, decide_eq_true (by omega), hl]; simp
def cG (l : List ByteArray) (i : Nat) : Bool := !Et (l.getD i ⟨#[]⟩) || (decide (0 < i) && !K1 (Im (l.getD (i - 1) ⟨#[]⟩)) (Im (l.getD i ⟨#[]⟩)))
def Kp (l : List ByteArray) : Bool := !(List.range l.length).any (cG l)
theorem Ql {α : Type} {l : List α} {i : Nat} {x d : α} (h : l[i]? = some x) : l.getD i d = x := by
 rw [List.getD_eq_getElem?_getD, h]; rfl
theorem iT (l : List ByteArray) (hl : l.length <= 9223372036854775807) (hs : ∀ s ∈ l, s.size <= 9223372036854775807) : Bu l = some (Kp l && decide ((l.length : Int) <= 8)) := by
 unfold Bu Kp
 refine (Vg (body := fun q' => Bu.l1 l q') l.length (fun i => (i : Int)) (cG l) false (decide ((l.length : Int) <= 8)) (fun i hi => ?_) ?_).trans ?_
 ·obtain ⟨s, hx⟩ : ∃ s, l[i]? = some s := ⟨_, List.getElem?_eq_getElem hi⟩
  show Bu.l1 l (i : Int) = _
  unfold Bu.l1 cG
  rw [H8 hx, I5 s (hs s (Ja hx)), Option.bind_some, Ql hx]
  cases hn : Et s with
  | false => rfl
  | true =>
   rw [Bool.not_true, cond_false, Bool.false_or]
   cases i with
   | zero => rfl
   | succ i =>
    obtain ⟨p, hp⟩ : ∃ p, l[i]? = some p := ⟨_, List.getElem?_eq_getElem (by omega)⟩
    rw [decide_eq_true (by omega), cond_true, Ee (by omega), show ((i + 1 : Nat) : Int) - 1 = (i : Int) by omega, Eg, hp, Option.bind_some, show i + 1 - 1 = i from rfl, Ql hp, decide_eq_true (by omega), Bool.true_and]
    unfold Bu.j2
    rw [Uf (n := l.length) (by omega) hl]
    cases K1 (Im p) (Im s) <;> rfl
 ·show Bu.l1 l (l.length : Int) = _
  unfold Bu.l1
  rw [Ge]; rfl
 ·cases (List.range l.length).any (cG l) <;> rfl
end
section
open Go
def Mb (u : As) (k : Int) : Bool := decide (0 < K0 u) && decide (M1 u.Alg = k)
def Uv (c : Af) : List Bool := [decide (c.Serial < 0), decide (1099511627776 < c.Serial), !Et c.Issuer, !Et c.Subject, !Kp c.Names, decide (8 < (c.Names.length : Int)), !Mb c.Key 2, decide (c.KeyId < 0), decide (2147483648 < c.KeyId), !Mb c.Hash 1, decide (c.Seal.Key < 0), decide (2147483648 < c.Seal.Key), decide (c.Seal.Sum < 0), decide (4294967296 <= c.Seal.Sum), decide (c.From < 0), decide (c.To < c.From), decide (40000 < c.To), decide (c.Path < 0), decide (8 < c.Path), !c.Authority && !decide (c.Path = 0)]
def Gx (c : Af) : Bool := !(Uv c).any id
structure Qd (c : Af) : Prop where
 names : c.Names.length < 1000000000
 name : ∀ s ∈ c.Names, s.size <= 9223372036854775807
 issuer : c.Issuer.size <= 9223372036854775807
 subject : c.Subject.size <= 9223372036854775807
 ints : ∀ n ∈ [c.Serial, c.Key.Alg, c.Key.Bits, c.KeyId, c.Hash.Alg, c.Hash.Bits, c.From, c.To, c.Path, c.Seal.Key, c.Seal.Sum], -9223372036854775808 <= n /\ n <= 9223372036854775807
structure iM (c : Af) : Prop where
 names : c.Names.length <= 9223372036854775807
 name : ∀ s ∈ c.Names, s.size <= 9223372036854775807
 issuer : c.Issuer.size <= 9223372036854775807
 subject : c.Subject.size <= 9223372036854775807
theorem Qd.w {c : Af} (h : Qd c) : iM c := ⟨by have := h.names; omega, h.name, h.issuer, h.subject⟩
theorem rS (u : As) (k : Int) : Hq u k = some (Mb u k) := by
 unfold Hq Mb
 rw [Mt, Po, Option.bind_some]
 cases decide (0 < K0 u) <;> rfl
theorem Zi (u : As) : If u = some (Mb u 2) := by
 unfold If Mb
 rw [aO, eJ, Option.bind_some]
 cases decide (0 < K0 u) <;> rfl
theorem Xj (n : Int) : Ej n = some (!(decide (n < 0) || decide (2147483648 < n))) := by
 unfold Ej
 by_cases a : n < 0
 ·rw [decide_eq_true a, decide_eq_false (show ¬ 0 <= n by omega)]; rfl
 ·rw [decide_eq_false a, decide_eq_true (show 0 <= n by omega)]
  by_cases b : n <= 2147483648
  ·rw [decide_eq_true b, decide_eq_false (show ¬ 2147483648 < n by omega)]; rfl
  ·rw [decide_eq_false b, decide_eq_true (show 2147483648 < n by omega)]; rfl
theorem sD (n : Int) : Ib n = some (!(decide (n < 0) || decide (4294967296 <= n))) := by
 unfold Ib
 by_cases a : n < 0
 ·rw [decide_eq_true a, decide_eq_false (show ¬ 0 <= n by omega)]; rfl
 ·rw [decide_eq_false a, decide_eq_true (show 0 <= n by omega)]
  by_cases b : n < 4294967296
  ·rw [decide_eq_true b, decide_eq_false (show ¬ 4294967296 <= n by omega)]; rfl
  ·rw [decide_eq_false b, decide_eq_true (show 4294967296 <= n by omega)]; rfl
theorem aEo (n : Nat) : decide ((n : Int) <= 8) = !decide (8 < (n : Int)) := by
 by_cases h : (n : Int) <= 8
 ·rw [decide_eq_true h, decide_eq_false (by omega)]; rfl
 ·rw [decide_eq_false h, decide_eq_true (by omega)]; rfl
theorem rZ (c : Af) : Bc.j3 c false = some (!(decide (c.Path < 0) || decide (8 < c.Path) || (!c.Authority && !decide (c.Path = 0)))) := by
 unfold Bc.j3
 by_cases a : c.Path < 0
 ·rw [decide_eq_true a, decide_eq_false (show ¬ 0 <= c.Path by omega)]; rfl
 ·rw [decide_eq_false a, decide_eq_true (show 0 <= c.Path by omega)]
  by_cases b : c.Path <= 8
  ·rw [decide_eq_true b, decide_eq_false (show ¬ 8 < c.Path by omega)]
   cases c.Authority <;> simp
  ·rw [decide_eq_false b, decide_eq_true (show 8 < c.Path by omega)]; rfl
theorem oR (c : Af) (x : Bool) : Bc.j3 c x = some (!(x || decide (c.Path < 0) || decide (8 < c.Path) || (!c.Authority && !decide (c.Path = 0)))) := by
 cases x
 ·rw [rZ]; simp
 ·simp [Bc.j3]
theorem hQ (c : Af) (h : iM c) : Bc c = some (Gx c) := by
 unfold Bc Bc.j1 Bc.j2
 simp only [oR]
 rw [I5 _ h.issuer, I5 _ h.subject, iT _ h.names h.name, rS, Xj, rS, Xj, sD, aEo]
 simp only [Option.bind_some]
 unfold Gx Uv
 simp only [List.any_cons, List.any_nil, id]
 generalize decide (c.Serial < 0) = b1
 cases b1
 case true => simp
 generalize decide (1099511627776 < c.Serial) = b2
 cases b2
 case true => simp
 generalize Et c.Issuer = b3
 cases b3
 case false => simp
 generalize Et c.Subject = b4
 cases b4
 case false => simp
 generalize Kp c.Names = b5
 cases b5
 case false => simp
 generalize decide (8 < (c.Names.length : Int)) = b6
 cases b6
 case true => simp
 generalize Mb c.Key 2 = b7
 cases b7
 case false => simp
 generalize decide (c.KeyId < 0) = b8
 cases b8
 case true => simp
 generalize decide (2147483648 < c.KeyId) = b9
 cases b9
 case true => simp
 generalize Mb c.Hash 1 = b10
 cases b10
 case false => simp
 generalize decide (c.Seal.Key < 0) = b11
 cases b11
 case true => simp
 generalize decide (2147483648 < c.Seal.Key) = b12
 cases b12
 case true => simp
 generalize decide (c.Seal.Sum < 0) = b13
 cases b13
 case true => simp
 generalize decide (4294967296 <= c.Seal.Sum) = b14
 cases b14
 case true => simp
 generalize decide (c.From < 0) = b15
 cases b15
 case true => simp
 generalize decide (c.To < c.From) = b16
 cases b16
 case true => simp
 generalize decide (40000 < c.To) = b17
 cases b17
 case true => simp
 generalize decide (c.Path < 0) = b18
 generalize decide (8 < c.Path) = b19
 generalize decide (c.Path = 0) = b20
 cases b18 <;> cases b19 <;> cases b20 <;> simp
end
section
open Go
def T9 (c : Af) : Bool := decide (c.Seal.Key < 0) || (decide (2147483648 < c.Seal.Key) || (decide (c.Seal.Sum < 0) || decide (4294967296 <= c.Seal.Sum)))
theorem wK (c : Af) (h : iM c) (x : Bool) : A7.j3 c x = some (bif (x || !Kp c.Names || T9 c) then 9 else 0) := by
 cases x
 ·unfold A7.j3
  rw [cond_false]
  refine (Vg (body := fun q' => A7.l4 c q') c.Names.length (fun i => (i : Int)) (cG c.Names) 9 (bif T9 c then 9 else 0) (fun i hi => ?_) ?_).trans ?_
  ·obtain ⟨s, hx⟩ : ∃ s, c.Names[i]? = some s := ⟨_, List.getElem?_eq_getElem hi⟩
   have hN := h.names
   show A7.l4 c (i : Int) = _
   unfold A7.l4 cG
   rw [H8 hx, Xu s (h.name s (Ja hx)), Option.bind_some, Ql hx]
   cases hn : Et s with
   | false => rfl
   | true =>
    rw [Bool.not_true, cond_false, Bool.false_or]
    cases i with
    | zero => rfl
    | succ i =>
     obtain ⟨p, hp⟩ : ∃ p, c.Names[i]? = some p := ⟨_, List.getElem?_eq_getElem (by omega)⟩
     rw [decide_eq_true (by omega), cond_true, Ee (by omega), show ((i + 1 : Nat) : Int) - 1 = (i : Int) by omega, Eg, hp, Option.bind_some, show i + 1 - 1 = i from rfl, Ql hp, decide_eq_true (by omega), Bool.true_and]
     unfold A7.j5
     rw [Uf (n := c.Names.length) (by omega) hN]
     cases K1 (Im p) (Im s) <;> rfl
  ·show A7.l4 c (c.Names.length : Int) = _
   unfold A7.l4 A7.j6 T9
   rw [Ge]
   cases decide (c.Seal.Key < 0) <;> cases decide (2147483648 < c.Seal.Key) <;> cases decide (c.Seal.Sum < 0) <;> cases decide (4294967296 <= c.Seal.Sum) <;> rfl
  ·unfold Kp
   cases (List.range c.Names.length).any (cG c.Names) <;> cases T9 c <;> rfl
 ·rfl
theorem iF (c : Af) (h : iM c) : A7 c = some (bif Gx c then 0 else 9) := by
 unfold A7 A7.j1 A7.j2
 simp only [wK c h]
 rw [Xu _ h.issuer, Xu _ h.subject, Zi, aO, eJ]
 simp only [Option.bind_some]
 unfold Gx Uv T9
 simp only [List.any_cons, List.any_nil, id]
 have hu : Mb c.Hash 1 = (decide (0 < K0 c.Hash) && decide (M1 c.Hash.Alg = 1)) := rfl
 rw [hu]
 generalize decide (c.Serial < 0) = b1
 cases b1
 case true => simp
 generalize decide (1099511627776 < c.Serial) = b2
 cases b2
 case true => simp
 generalize Et c.Issuer = b3
 cases b3
 case false => simp
 generalize Et c.Subject = b4
 cases b4
 case false => simp
 generalize Mb c.Key 2 = b7
 cases b7
 case false => simp
 generalize decide (c.KeyId < 0) = b8
 cases b8
 case true => simp
 generalize decide (2147483648 < c.KeyId) = b9
 cases b9
 case true => simp
 generalize decide (0 < K0 c.Hash) = b10
 cases b10
 case false => simp
 generalize decide (M1 c.Hash.Alg = 1) = b10'
 cases b10'
 case false => simp
 generalize decide (c.From < 0) = b15
 cases b15
 case true => simp
 generalize decide (c.To < c.From) = b16
 cases b16
 case true => simp
 generalize decide (40000 < c.To) = b17
 cases b17
 case true => simp
 generalize decide (c.Path < 0) = b18
 cases b18
 case true => simp
 generalize decide (8 < c.Path) = b19
 cases b19
 case true => simp
 generalize decide (c.Path = 0) = b20
 generalize c.Authority = b21
 generalize decide (8 < (c.Names.length : Int)) = b6
 generalize Kp c.Names = b5
 cases b20 <;> cases b21 <;> cases b6 <;> cases b5 <;> simp <;> generalize decide (c.Seal.Key < 0) = b11 <;> generalize decide (2147483648 < c.Seal.Key) = b12 <;> generalize decide (c.Seal.Sum < 0) = b13 <;> generalize decide (4294967296 <= c.Seal.Sum) = b14 <;> cases b11 <;> cases b12 <;> cases b13 <;> cases b14 <;> rfl
theorem aN (c : Af) (h : Qd c) : A7 c = some (bif Gx c then 0 else 9) := iF c h.w
end
end Go.Proofs.YtidpkjdkfkkgiaaGreat
