/- Plain texts, joined. No program is in sight here. -/
import Derived.Test.YtkpcbnnlefcebaaGreatL3
import Derived.Test.YtkpcbnnlefcebaaGreatP1
import Derived.Test.YtkpcbnnlefcebaaGreatD7
set_option linter.unusedVariables false
set_option linter.unusedSimpArgs false
namespace Go.Proofs.YtkpcbnnlefcebaaGreat
section
open Go
def Hs (s b : Int) : Int := if b = 0 then s else 0
def qC (b : Int) : Int := if b < 1024 then 56 else if b < 2048 then 80 else if b < 3072 then 112 else if b < 7680 then 128 else if b < 15360 then 192 else 256
def Iu (b : Int) : Int := if 512 <= b /\ b <= 16384 then qC b else 0
def Uy (b : Int) : Int := if b = 160 \/ b = 224 \/ b = 256 \/ b = 384 \/ b = 521 then b / 2 else 0
def aD (sizes strengths : List Int) (b : Int) : Int := match sizes.findIdx? (fun e => decide (b = e)) with | some i => strengths.getD i 0 | none => 0
def Nn : Nat -> Int -> Int
 | 1 => Hs 18
 | 2 => Hs 60
 | 3 => Hs 128
 | 4 => Hs 192
 | 5 => Iu
 | 6 => Iu
 | 7 => Uy
 | 8 => Hs 128
 | 9 => aD [44, 65, 87] [128, 192, 256]
 | 10 => Iu
 | 11 => Iu
 | 12 => Uy
 | 13 => aD [512, 768, 1024] [128, 192, 256]
 | 14 => aD [40, 128] [40, 60]
 | 15 => aD [112, 168] [80, 112]
 | 16 => aD [128, 256] [128, 256]
 | 17 => aD [128, 256] [128, 256]
 | 18 => Hs 256
 | 19 => Hs 64
 | 20 => Hs 80
 | 21 => Hs 128
 | 22 => Hs 256
 | _ => fun _ => 0
def tN (u : Az) : Int := if 1 <= u.Alg /\ u.Alg <= 22 then Nn u.Alg.toNat u.Bits else 0
theorem Lt (s : List Int) (v : Int) (hl : s.length < 4611686018427387904) : Cg s v = some (match s.findIdx? (fun e => decide (v = e)) with | some i => (i : Int) | none => -1) := by
 unfold Cg
 refine Y5 (body := fun q' => Cg.l1 s v q') s (fun i => (i : Int)) (fun e => decide (v = e)) (fun i => (i : Int)) (-1) (fun i x hx => ?_) ?_
 ·have h1 := N0 hx
  show Cg.l1 s v (i : Int) = _
  unfold Cg.l1
  rw [P2 hx, Ri (by omega)]
  cases decide (v = x) <;> rfl
 ·show Cg.l1 s v (s.length : Int) = _
  unfold Cg.l1
  rw [Mu]; rfl
theorem T9 (s : List Int) (v : Int) (hl : s.length < 4611686018427387904) : Ea s v = some (decide (v ∈ s)) := by
 unfold Ea
 rw [Lt s v hl, Option.bind_some]
 cases h : s.findIdx? (fun e => decide (v = e)) with
 | none =>
  have := List.findIdx?_eq_none_iff.1 h
  have hn : ¬ v ∈ s := fun hm => by have := this v hm; simp at this
  rw [decide_eq_false hn]; rfl
 | some i =>
  have h2 := List.findIdx?_isSome (xs := s) (p := fun e => decide (v = e))
  rw [h] at h2
  have : v ∈ s := by
   have h3 := h2.symm
   rw [Option.isSome_some, List.any_eq_true] at h3
   obtain ⟨x, hx, e⟩ := h3
   rw [of_decide_eq_true e]; exact hx
  rw [decide_eq_true this]
  simp
theorem Wg (b : Int) : C6 b = some (qC b) := by
 have s0 : C6.l1 b 0 = some (if b < 1024 then .done 56 else .next 1) := by
  by_cases h : b < 1024
  ·rw [if_pos h]; show cond (decide (b < 1024)) _ _ = _; rw [decide_eq_true h]; rfl
  ·rw [if_neg h]; show cond (decide (b < 1024)) _ _ = _; rw [decide_eq_false h]; rfl
 have s1 : C6.l1 b 1 = some (if b < 2048 then .done 80 else .next 2) := by
  by_cases h : b < 2048
  ·rw [if_pos h]; show cond (decide (b < 2048)) _ _ = _; rw [decide_eq_true h]; rfl
  ·rw [if_neg h]; show cond (decide (b < 2048)) _ _ = _; rw [decide_eq_false h]; rfl
 have s2 : C6.l1 b 2 = some (if b < 3072 then .done 112 else .next 3) := by
  by_cases h : b < 3072
  ·rw [if_pos h]; show cond (decide (b < 3072)) _ _ = _; rw [decide_eq_true h]; rfl
  ·rw [if_neg h]; show cond (decide (b < 3072)) _ _ = _; rw [decide_eq_false h]; rfl
 have s3 : C6.l1 b 3 = some (if b < 7680 then .done 128 else .next 4) := by
  by_cases h : b < 7680
  ·rw [if_pos h]; show cond (decide (b < 7680)) _ _ = _; rw [decide_eq_true h]; rfl
  ·rw [if_neg h]; show cond (decide (b < 7680)) _ _ = _; rw [decide_eq_false h]; rfl
 have s4 : C6.l1 b 4 = some (if b < 15360 then .done 192 else .next 5) := by
  by_cases h : b < 15360
  ·rw [if_pos h]; show cond (decide (b < 15360)) _ _ = _; rw [decide_eq_true h]; rfl
  ·rw [if_neg h]; show cond (decide (b < 15360)) _ _ = _; rw [decide_eq_false h]; rfl
 have s5 : C6.l1 b 5 = some (.done 256) := rfl
 unfold C6 qC
 rw [Im, s0]
 split
 ·rfl
 show C2 _ (1 : Int) = _
 rw [Im, s1]
 split
 ·rfl
 show C2 _ (2 : Int) = _
 rw [Im, s2]
 split
 ·rfl
 show C2 _ (3 : Int) = _
 rw [Im, s3]
 split
 ·rfl
 show C2 _ (4 : Int) = _
 rw [Im, s4]
 split
 ·rfl
 show C2 _ (5 : Int) = _
 rw [Im, s5]; rfl
theorem uX (b : Int) : Bb ⟨1, b⟩ = some (Nn 1 b) := by
 show cond (decide (b = 0)) (some 18) (some 0) = some (Hs 18 b)
 unfold Hs
 by_cases h : b = 0 <;> simp [h]
theorem wT (b : Int) : Bb ⟨2, b⟩ = some (Nn 2 b) := by
 show cond (decide (b = 0)) (some 60) (some 0) = some (Hs 60 b)
 unfold Hs
 by_cases h : b = 0 <;> simp [h]
theorem wJ (b : Int) : Bb ⟨3, b⟩ = some (Nn 3 b) := by
 show cond (decide (b = 0)) (some 128) (some 0) = some (Hs 128 b)
 unfold Hs
 by_cases h : b = 0 <;> simp [h]
theorem vA (b : Int) : Bb ⟨4, b⟩ = some (Nn 4 b) := by
 show cond (decide (b = 0)) (some 192) (some 0) = some (Hs 192 b)
 unfold Hs
 by_cases h : b = 0 <;> simp [h]
theorem wN (b : Int) : Bb ⟨5, b⟩ = some (Nn 5 b) := by
 show cond (decide (512 <= b)) (Bb.j1 ⟨5, b⟩ (decide (b <= 16384))) (Bb.j1 ⟨5, b⟩ false) = some (Iu b)
 unfold Bb.j1 Iu
 rw [Wg]
 by_cases h1 : 512 <= b <;> by_cases h2 : b <= 16384 <;> simp [h1, h2]
theorem uW (b : Int) : Bb ⟨6, b⟩ = some (Nn 6 b) := by
 show cond (decide (512 <= b)) (Bb.j1 ⟨6, b⟩ (decide (b <= 16384))) (Bb.j1 ⟨6, b⟩ false) = some (Iu b)
 unfold Bb.j1 Iu
 rw [Wg]
 by_cases h1 : 512 <= b <;> by_cases h2 : b <= 16384 <;> simp [h1, h2]
theorem wX (b : Int) : Bb ⟨7, b⟩ = some (Nn 7 b) := by
 show (Ea [160, 224, 256, 384, 521] b).bind (fun y_3 => cond y_3 ((Mb b 2).bind fun q => some q) (some 0)) = some (Uy b)
 rw [T9 _ _ (by decide)]
 unfold Uy
 by_cases h : b = 160 \/ b = 224 \/ b = 256 \/ b = 384 \/ b = 521
 ·rw [if_pos h, decide_eq_true (by simpa using h)]
  rcases h with h | h | h | h | h <;> (subst h; rfl)
 ·rw [if_neg h, decide_eq_false (by simpa using h)]; rfl
theorem xB (b : Int) : Bb ⟨8, b⟩ = some (Nn 8 b) := by
 show cond (decide (b = 0)) (some 128) (some 0) = some (Hs 128 b)
 unfold Hs
 by_cases h : b = 0 <;> simp [h]
theorem vZ (b : Int) : Bb ⟨9, b⟩ = some (Nn 9 b) := by
 show (Cg [44, 65, 87] b).bind (fun y_4 => cond (decide (0 <= y_4)) ((Cb [128, 192, 256] y_4).bind fun e_2 => some e_2) (some 0)) = some (aD [44, 65, 87] [128, 192, 256] b)
 rw [Lt _ _ (by decide)]
 unfold aD
 cases h : List.findIdx? (fun e => decide (b = e)) [44, 65, 87] with
 | none => rfl
 | some i =>
  have hi := (List.findIdx?_eq_some_iff_getElem.1 h).1
  have : i < 3 := hi
  rcases (by omega : i = 0 \/ i = 1 \/ i = 2) with h | h | h <;> (subst h; rfl)
theorem pX (b : Int) : Bb ⟨10, b⟩ = some (Nn 10 b) := by
 show cond (decide (512 <= b)) (Bb.j1 ⟨10, b⟩ (decide (b <= 16384))) (Bb.j1 ⟨10, b⟩ false) = some (Iu b)
 unfold Bb.j1 Iu
 rw [Wg]
 by_cases h1 : 512 <= b <;> by_cases h2 : b <= 16384 <;> simp [h1, h2]
theorem sN (b : Int) : Bb ⟨11, b⟩ = some (Nn 11 b) := by
 show cond (decide (512 <= b)) (Bb.j1 ⟨11, b⟩ (decide (b <= 16384))) (Bb.j1 ⟨11, b⟩ false) = some (Iu b)
 unfold Bb.j1 Iu
 rw [Wg]
 by_cases h1 : 512 <= b <;> by_cases h2 : b <= 16384 <;> simp [h1, h2]
theorem tH (b : Int) : Bb ⟨12, b⟩ = some (Nn 12 b) := by
 show (Ea [160, 224, 256, 384, 521] b).bind (fun y_3 => cond y_3 ((Mb b 2).bind fun q => some q) (some 0)) = some (Uy b)
 rw [T9 _ _ (by decide)]
 unfold Uy
 by_cases h : b = 160 \/ b = 224 \/ b = 256 \/ b = 384 \/ b = 521
 ·rw [if_pos h, decide_eq_true (by simpa using h)]
  rcases h with h | h | h | h | h <;> (subst h; rfl)
 ·rw [if_neg h, decide_eq_false (by simpa using h)]; rfl
theorem uF (b : Int) : Bb ⟨13, b⟩ = some (Nn 13 b) := by
 show (Cg [512, 768, 1024] b).bind (fun y_4 => cond (decide (0 <= y_4)) ((Cb [128, 192, 256] y_4).bind fun e_2 => some e_2) (some 0)) = some (aD [512, 768, 1024] [128, 192, 256] b)
 rw [Lt _ _ (by decide)]
 unfold aD
 cases h : List.findIdx? (fun e => decide (b = e)) [512, 768, 1024] with
 | none => rfl
 | some i =>
  have hi := (List.findIdx?_eq_some_iff_getElem.1 h).1
  have : i < 3 := hi
  rcases (by omega : i = 0 \/ i = 1 \/ i = 2) with h | h | h <;> (subst h; rfl)
theorem qT (b : Int) : Bb ⟨14, b⟩ = some (Nn 14 b) := by
 show (Cg [40, 128] b).bind (fun y_4 => cond (decide (0 <= y_4)) ((Cb [40, 60] y_4).bind fun e_2 => some e_2) (some 0)) = some (aD [40, 128] [40, 60] b)
 rw [Lt _ _ (by decide)]
 unfold aD
 cases h : List.findIdx? (fun e => decide (b = e)) [40, 128] with
 | none => rfl
 | some i =>
  have hi := (List.findIdx?_eq_some_iff_getElem.1 h).1
  have : i < 2 := hi
  rcases (by omega : i = 0 \/ i = 1) with h | h <;> (subst h; rfl)
theorem pZ (b : Int) : Bb ⟨15, b⟩ = some (Nn 15 b) := by
 show (Cg [112, 168] b).bind (fun y_4 => cond (decide (0 <= y_4)) ((Cb [80, 112] y_4).bind fun e_2 => some e_2) (some 0)) = some (aD [112, 168] [80, 112] b)
 rw [Lt _ _ (by decide)]
 unfold aD
 cases h : List.findIdx? (fun e => decide (b = e)) [112, 168] with
 | none => rfl
 | some i =>
  have hi := (List.findIdx?_eq_some_iff_getElem.1 h).1
  have : i < 2 := hi
  rcases (by omega : i = 0 \/ i = 1) with h | h <;> (subst h; rfl)
theorem qN (b : Int) : Bb ⟨16, b⟩ = some (Nn 16 b) := by
 show (Cg [128, 256] b).bind (fun y_4 => cond (decide (0 <= y_4)) ((Cb [128, 256] y_4).bind fun e_2 => some e_2) (some 0)) = some (aD [128, 256] [128, 256] b)
 rw [Lt _ _ (by decide)]
 unfold aD
 cases h : List.findIdx? (fun e => decide (b = e)) [128, 256] with
 | none => rfl
 | some i =>
  have hi := (List.findIdx?_eq_some_iff_getElem.1 h).1
  have : i < 2 := hi
  rcases (by omega : i = 0 \/ i = 1) with h | h <;> (subst h; rfl)
theorem rG (b : Int) : Bb ⟨17, b⟩ = some (Nn 17 b) := by
 show (Cg [128, 256] b).bind (fun y_4 => cond (decide (0 <= y_4)) ((Cb [128, 256] y_4).bind fun e_2 => some e_2) (some 0)) = some (aD [128, 256] [128, 256] b)
 rw [Lt _ _ (by decide)]
 unfold aD
 cases h : List.findIdx? (fun e => decide (b = e)) [128, 256] with
 | none => rfl
 | some i =>
  have hi := (List.findIdx?_eq_some_iff_getElem.1 h).1
  have : i < 2 := hi
  rcases (by omega : i = 0 \/ i = 1) with h | h <;> (subst h; rfl)
theorem sR (b : Int) : Bb ⟨18, b⟩ = some (Nn 18 b) := by
 show cond (decide (b = 0)) (some 256) (some 0) = some (Hs 256 b)
 unfold Hs
 by_cases h : b = 0 <;> simp [h]
theorem pT (b : Int) : Bb ⟨19, b⟩ = some (Nn 19 b) := by
 show cond (decide (b = 0)) (some 64) (some 0) = some (Hs 64 b)
 unfold Hs
 by_cases h : b = 0 <;> simp [h]
theorem sD (b : Int) : Bb ⟨20, b⟩ = some (Nn 20 b) := by
 show cond (decide (b = 0)) (some 80) (some 0) = some (Hs 80 b)
 unfold Hs
 by_cases h : b = 0 <;> simp [h]
theorem tY (b : Int) : Bb ⟨21, b⟩ = some (Nn 21 b) := by
 show cond (decide (b = 0)) (some 128) (some 0) = some (Hs 128 b)
 unfold Hs
 by_cases h : b = 0 <;> simp [h]
theorem sM (b : Int) : Bb ⟨22, b⟩ = some (Nn 22 b) := by
 show cond (decide (b = 0)) (some 256) (some 0) = some (Hs 256 b)
 unfold Hs
 by_cases h : b = 0 <;> simp [h]
theorem iA {a : Int} (h : 1 <= a /\ a <= 22) : a = 1 \/ a = 2 \/ a = 3 \/ a = 4 \/ a = 5 \/ a = 6 \/ a = 7 \/ a = 8 \/ a = 9 \/ a = 10 \/ a = 11 \/ a = 12 \/ a = 13 \/ a = 14 \/ a = 15 \/ a = 16 \/ a = 17 \/ a = 18 \/ a = 19 \/ a = 20 \/ a = 21 \/ a = 22 := by omega
theorem Z7 (u : Az) : Bb u = some (tN u) := by
 obtain ⟨a, b⟩ := u
 unfold tN
 by_cases h0 : 1 <= a /\ a <= 22
 ·rw [if_pos h0]
  rcases iA h0 with h | h | h | h | h | h | h | h | h | h | h | h | h | h | h | h | h | h | h | h | h | h <;> subst h
  ·exact uX b
  ·exact wT b
  ·exact wJ b
  ·exact vA b
  ·exact wN b
  ·exact uW b
  ·exact wX b
  ·exact xB b
  ·exact vZ b
  ·exact pX b
  ·exact sN b
  ·exact tH b
  ·exact uF b
  ·exact qT b
  ·exact pZ b
  ·exact qN b
  ·exact rG b
  ·exact sR b
  ·exact pT b
  ·exact sD b
  ·exact tY b
  ·exact sM b
 ·rw [if_neg h0]
  unfold Bb En
  by_cases h1 : a < 1
  ·simp [h1, En.j1]
  ·have h2 : 22 < a := by omega
   simp [h1, h2, En.j1]
theorem gM (u : Az) : Fr u = some (decide (0 < tN u)) := by unfold Fr; rw [Z7]; rfl
end
section
open Go
theorem nG {i n : Nat} (h : i < n) (hn : n <= 9223372036854775807) : W ((i : Int) + 1) = ((i + 1 : Nat) : Int) := by
 rw [Es (by omega)]; omega
theorem oB (s : ByteArray) : (Ny s).length = s.size := by unfold Ny; rw [Array.length_toList]; rfl
def xJ (c : UInt8) : Bool := decide (33 <= (c.toNat : Int)) && decide ((c.toNat : Int) <= 126)
def Wz (s : ByteArray) : Bool := decide (1 <= (s.size : Int)) && decide ((s.size : Int) <= 32) && !(Ny s).any (fun c => !xJ c)
theorem gX (s : ByteArray) (hs : s.size <= 9223372036854775807) : Ch s = some (Wz s) := by
 unfold Ch Wz
 refine (aN (body := fun q' => Ch.l1 s q') (Ny s) (fun i => (i : Int)) (fun c => !xJ c) false (decide (1 <= (s.size : Int)) && decide ((s.size : Int) <= 32)) (fun i c hc => ?_) ?_).trans ?_
 ·have h1 := N0 hc
  rw [oB] at h1
  show Ch.l1 s (i : Int) = _
  unfold Ch.l1 Ch.j2 xJ
  rw [P2 hc, nG h1 hs]
  by_cases a : (c.toNat : Int) <= 32
  ·rw [decide_eq_true a, decide_eq_false (show ¬ (33 : Int) <= (c.toNat : Int) by omega)]; rfl
  ·rw [decide_eq_false a, decide_eq_true (show (33 : Int) <= (c.toNat : Int) by omega)]
   by_cases b : 126 < (c.toNat : Int)
   ·rw [decide_eq_true b, decide_eq_false (by omega)]; rfl
   ·rw [decide_eq_false b, decide_eq_true (by omega)]; rfl
 ·show Ch.l1 s ((Ny s).length : Int) = _
  unfold Ch.l1
  rw [Mu]
  by_cases a : (1 : Int) <= (s.size : Int) <;> simp [a, up]
 ·cases (Ny s).any fun c => !xJ c <;> simp
end
section
open Go
structure nE (c : Am) : Prop where
 names : c.Names.length < 1000000000
 name : ∀ s ∈ c.Names, s.size <= 9223372036854775807
 issuer : c.Issuer.size <= 9223372036854775807
 subject : c.Subject.size <= 9223372036854775807
 ints : ∀ n ∈ [c.Serial, c.Key.Alg, c.Key.Bits, c.KeyId, c.Hash.Alg, c.Hash.Bits, c.From, c.To, c.Path, c.Seal.Key, c.Seal.Sum], -9223372036854775808 <= n /\ n <= 9223372036854775807
structure zK (c : Am) : Prop where
 names : c.Names.length <= 9223372036854775807
 name : ∀ s ∈ c.Names, s.size <= 9223372036854775807
 issuer : c.Issuer.size <= 9223372036854775807
 subject : c.Subject.size <= 9223372036854775807
theorem nE.w {c : Am} (h : nE c) : zK c := ⟨by have := h.names; omega, h.name, h.issuer, h.subject⟩
end
section
open Go
end
section
open Go
theorem cU {s : ByteArray} (h : Wz s = true) : s.size <= 32 := by
 unfold Wz at h
 simp only [Bool.and_eq_true, decide_eq_true_eq] at h
 omega
end
section
open Go
end
end Go.Proofs.YtkpcbnnlefcebaaGreat
