import Derived.Test.YtfkgbfhpibiheaaM0
import Derived.Test.YtfkgbfhpibiheaaK2
import Derived.Test.YtfkgbfhpibiheaaZ8
set_option linter.unusedVariables false
set_option linter.unusedSimpArgs false
set_option maxRecDepth 100000
namespace Go.Proofs.Ytfkgbfhpibiheaa
open Go
theorem J3 {d : Am} (h : S6 d) (l : List Int) (hl : 1 <= l.length) (hl2 : l.length <= 1000) : Ok (Cj d l) (fun y => y.1 ∈ l /\ S6 y.2) := by
 unfold Cj
 refine Ok.bind (I5 h _ (by omega) (by omega)) fun y hy => ?_
 refine Ok.bind (He (by omega) (by omega)) fun e he => ?_
 exact Ok.ret ⟨he, hy.2⟩
theorem rH {d : Am} (h : S6 d) (n : Int) (hn : 1 <= n) (hn2 : n <= 1000) : Ok (Hd d n) (fun y => S6 y.2) := by
 unfold Hd
 refine Ok.bind (I5 h _ (by omega) (by omega)) fun y hy => ?_
 exact Ok.ret hy.2
theorem mP {l : List Int} (h : l.length <= 400) : Ok (K9 l) S6 := Ok.ret ⟨Vc (by show l.length <= _; omega), Int.le_refl _, by show (0 : Int) <= (l.length : Int); omega⟩
theorem dR {d : Am} (hd : S6 d) {a : Int} (ha : 1 <= a /\ a <= 22) : Ok (Db d a) (fun y => decide (0 < Hj ⟨a, y.1⟩) = true /\ S6 y.2) := by
 rcases Oq ha with rfl | rfl | rfl | rfl | rfl | rfl | rfl | rfl | rfl | rfl | rfl | rfl | rfl | rfl | rfl | rfl | rfl | rfl | rfl | rfl | rfl | rfl
 ·show Ok (some ((0 : Int), d)) _
  exact Ok.ret ⟨show decide (0 < Hj ⟨1, 0⟩) = true by decide +kernel, hd⟩
 ·show Ok (some ((0 : Int), d)) _
  exact Ok.ret ⟨show decide (0 < Hj ⟨2, 0⟩) = true by decide +kernel, hd⟩
 ·show Ok (some ((0 : Int), d)) _
  exact Ok.ret ⟨show decide (0 < Hj ⟨3, 0⟩) = true by decide +kernel, hd⟩
 ·show Ok (some ((0 : Int), d)) _
  exact Ok.ret ⟨show decide (0 < Hj ⟨4, 0⟩) = true by decide +kernel, hd⟩
 ·show Ok ((Cj d ([2048, 1024, 512, 3072, 1023, 4096, 16384] : List Int)).bind fun y => some (y.1, y.2)) _
  refine Ok.bind (J3 hd _ (by decide) (by decide)) fun y hy => Ok.ret ⟨?_, hy.2⟩
  have h := hy.1
  simp only [yI, zH, aA9] at h
  show decide (0 < Hj ⟨5, y.1⟩) = true
  rcases h with e | e | e | e | e | e | e <;> rw [e] <;> decide +kernel
 ·show Ok ((Cj d ([2048, 1024, 512, 3072, 1023, 4096, 16384] : List Int)).bind fun y => some (y.1, y.2)) _
  refine Ok.bind (J3 hd _ (by decide) (by decide)) fun y hy => Ok.ret ⟨?_, hy.2⟩
  have h := hy.1
  simp only [yI, zH, aA9] at h
  show decide (0 < Hj ⟨6, y.1⟩) = true
  rcases h with e | e | e | e | e | e | e <;> rw [e] <;> decide +kernel
 ·show Ok ((Cj d ([256, 160, 224, 384, 521] : List Int)).bind fun y => some (y.1, y.2)) _
  refine Ok.bind (J3 hd _ (by decide) (by decide)) fun y hy => Ok.ret ⟨?_, hy.2⟩
  have h := hy.1
  simp only [yI, zH, aA9] at h
  show decide (0 < Hj ⟨7, y.1⟩) = true
  rcases h with e | e | e | e | e <;> rw [e] <;> decide +kernel
 ·show Ok (some ((0 : Int), d)) _
  exact Ok.ret ⟨show decide (0 < Hj ⟨8, 0⟩) = true by decide +kernel, hd⟩
 ·show Ok ((Cj d ([65, 44, 87] : List Int)).bind fun y => some (y.1, y.2)) _
  refine Ok.bind (J3 hd _ (by decide) (by decide)) fun y hy => Ok.ret ⟨?_, hy.2⟩
  have h := hy.1
  simp only [yI, zH, aA9] at h
  show decide (0 < Hj ⟨9, y.1⟩) = true
  rcases h with e | e | e <;> rw [e] <;> decide +kernel
 ·show Ok ((Cj d ([2048, 1024, 512, 3072, 1023, 4096, 16384] : List Int)).bind fun y => some (y.1, y.2)) _
  refine Ok.bind (J3 hd _ (by decide) (by decide)) fun y hy => Ok.ret ⟨?_, hy.2⟩
  have h := hy.1
  simp only [yI, zH, aA9] at h
  show decide (0 < Hj ⟨10, y.1⟩) = true
  rcases h with e | e | e | e | e | e | e <;> rw [e] <;> decide +kernel
 ·show Ok ((Cj d ([2048, 1024, 512, 3072, 1023, 4096, 16384] : List Int)).bind fun y => some (y.1, y.2)) _
  refine Ok.bind (J3 hd _ (by decide) (by decide)) fun y hy => Ok.ret ⟨?_, hy.2⟩
  have h := hy.1
  simp only [yI, zH, aA9] at h
  show decide (0 < Hj ⟨11, y.1⟩) = true
  rcases h with e | e | e | e | e | e | e <;> rw [e] <;> decide +kernel
 ·show Ok ((Cj d ([256, 160, 224, 384, 521] : List Int)).bind fun y => some (y.1, y.2)) _
  refine Ok.bind (J3 hd _ (by decide) (by decide)) fun y hy => Ok.ret ⟨?_, hy.2⟩
  have h := hy.1
  simp only [yI, zH, aA9] at h
  show decide (0 < Hj ⟨12, y.1⟩) = true
  rcases h with e | e | e | e | e <;> rw [e] <;> decide +kernel
 ·show Ok ((Cj d ([768, 512, 1024] : List Int)).bind fun y => some (y.1, y.2)) _
  refine Ok.bind (J3 hd _ (by decide) (by decide)) fun y hy => Ok.ret ⟨?_, hy.2⟩
  have h := hy.1
  simp only [yI, zH, aA9] at h
  show decide (0 < Hj ⟨13, y.1⟩) = true
  rcases h with e | e | e <;> rw [e] <;> decide +kernel
 ·show Ok ((Cj d ([128, 40] : List Int)).bind fun y => some (y.1, y.2)) _
  refine Ok.bind (J3 hd _ (by decide) (by decide)) fun y hy => Ok.ret ⟨?_, hy.2⟩
  have h := hy.1
  simp only [yI, zH, aA9] at h
  show decide (0 < Hj ⟨14, y.1⟩) = true
  rcases h with e | e <;> rw [e] <;> decide +kernel
 ·show Ok ((Cj d ([168, 112] : List Int)).bind fun y => some (y.1, y.2)) _
  refine Ok.bind (J3 hd _ (by decide) (by decide)) fun y hy => Ok.ret ⟨?_, hy.2⟩
  have h := hy.1
  simp only [yI, zH, aA9] at h
  show decide (0 < Hj ⟨15, y.1⟩) = true
  rcases h with e | e <;> rw [e] <;> decide +kernel
 ·show Ok ((Cj d ([128, 256] : List Int)).bind fun y => some (y.1, y.2)) _
  refine Ok.bind (J3 hd _ (by decide) (by decide)) fun y hy => Ok.ret ⟨?_, hy.2⟩
  have h := hy.1
  simp only [yI, zH, aA9] at h
  show decide (0 < Hj ⟨16, y.1⟩) = true
  rcases h with e | e <;> rw [e] <;> decide +kernel
 ·show Ok ((Cj d ([128, 256] : List Int)).bind fun y => some (y.1, y.2)) _
  refine Ok.bind (J3 hd _ (by decide) (by decide)) fun y hy => Ok.ret ⟨?_, hy.2⟩
  have h := hy.1
  simp only [yI, zH, aA9] at h
  show decide (0 < Hj ⟨17, y.1⟩) = true
  rcases h with e | e <;> rw [e] <;> decide +kernel
 ·show Ok (some ((0 : Int), d)) _
  exact Ok.ret ⟨show decide (0 < Hj ⟨18, 0⟩) = true by decide +kernel, hd⟩
 ·show Ok (some ((0 : Int), d)) _
  exact Ok.ret ⟨show decide (0 < Hj ⟨19, 0⟩) = true by decide +kernel, hd⟩
 ·show Ok (some ((0 : Int), d)) _
  exact Ok.ret ⟨show decide (0 < Hj ⟨20, 0⟩) = true by decide +kernel, hd⟩
 ·show Ok (some ((0 : Int), d)) _
  exact Ok.ret ⟨show decide (0 < Hj ⟨21, 0⟩) = true by decide +kernel, hd⟩
 ·show Ok (some ((0 : Int), d)) _
  exact Ok.ret ⟨show decide (0 < Hj ⟨22, 0⟩) = true by decide +kernel, hd⟩
theorem pW {d : Am} (hd : S6 d) : Ok (Ki d) (fun y => decide (0 < Hj y.1) = true /\ S6 y.2) := by
 unfold Ki
 refine Ok.bind (I5 hd 22 (by omega) (by omega)) fun y hy => ?_
 have := hy.1
 rw [Do (by omega)]
 refine Ok.bind (dR hy.2 (by omega)) fun z hz => ?_
 exact Ok.ret ⟨hz.1, hz.2⟩
theorem mK {d : Am} (hd : S6 d) (n : Nat) (hn : n <= 1000) : Ok (Ft d (n : Int)) (fun y => y.1.length <= n /\ S6 y.2) := by
 unfold Ft
 rw [Cl (by omega)]
 refine Ok.bind (I5 hd _ (by omega) (by omega)) ?_
 rintro ⟨m, d'⟩ ⟨⟨h1, h2⟩, h3⟩
 simp only at h1 h2 h3
 refine Ok.loop (fun t => ∃ i : Nat, t.1 = (i : Int) /\ t.2.2.length + i <= n /\ S6 t.2.1) (fun t => t.1.toNat) ?_ ⟨m.toNat, by show m = _; omega, by simp; omega, h3⟩
 rintro ⟨x, d1, b⟩ ⟨i, c1, c2, c3⟩
 simp only at c1 c2 c3 ⊢
 subst c1
 unfold Ft.l1
 refine Ok.cond (fun hp => ?_) fun hz => Ok.up (Ok.ret ⟨by show b.length <= n; omega, c3⟩)
 have hp := xU hp
 refine Ok.bind (J3 c3 _ (by decide) (by decide)) fun y hy => ?_
 refine Ok.bindE (Ey (by rw [yJ]; omega)) ?_
 refine Ok.ret ⟨⟨i - 1, ?_, by simp; omega, hy.2⟩, ?_⟩
 ·show W ((i : Int) - 1) = _
  rw [Do (by omega)]
  omega
 ·show (W ((i : Int) - 1)).toNat < (i : Int).toNat
  rw [Do (by omega)]
  omega
def vK (l : List Ai) : Prop := ∀ q ∈ l, 1 <= q.Bytes.length /\ q.Bytes.length <= 5 /\ decide (0 < Hj q.Use) = true
theorem nE {d : Am} (hd : S6 d) : Ok (Dl d) (fun y => 1 <= y.1.length /\ y.1.length <= 5 /\ vK y.1 /\ S6 y.2) := by
 unfold Dl
 refine Ok.bind (I5 hd _ (by omega) (by omega)) ?_
 rintro ⟨m, d'⟩ ⟨⟨h1, h2⟩, h3⟩
 simp only at h1 h2 h3
 rw [Do (show -9223372036854775808 <= 1 + m /\ 1 + m <= 9223372036854775807 by omega)]
 refine Ok.loop (fun t => ∃ i : Nat, t.1 = (i : Int) /\ t.2.2.length + i <= 5 /\ 1 <= t.2.2.length + i /\ vK t.2.2 /\ S6 t.2.1) (fun t => t.1.toNat) ?_ ⟨(1 + m).toNat, by show 1 + m = _; omega, by simp; omega, by simp; omega, fun q hq => by simp at hq, h3⟩
 rintro ⟨x, d1, p⟩ ⟨i, c1, c2, c3, c4, c5⟩
 simp only at c1 c2 c3 c4 c5 ⊢
 subst c1
 unfold Dl.l1
 refine Ok.cond (fun hp => ?_) fun hz => by
  have hz := yB hz
  exact Ok.up (Ok.ret ⟨by show 1 <= p.length; omega, by show p.length <= 5; omega, c4, c5⟩)
 have hp := xU hp
 refine Ok.bind (I5 c5 _ (by omega) (by omega)) ?_
 rintro ⟨m2, d2⟩ ⟨⟨e1, e2⟩, e3⟩
 simp only at e1 e2 e3
 rw [Do (show -9223372036854775808 <= 1 + m2 /\ 1 + m2 <= 9223372036854775807 by omega)]
 refine Ok.loop (fun t => ∃ j : Nat, t.1 = (j : Int) /\ t.2.2.length + j <= 5 /\ 1 <= t.2.2.length + j /\ S6 t.2.1) (fun t => t.1.toNat) ?_ ⟨(1 + m2).toNat, by show 1 + m2 = _; omega, by simp; omega, by simp; omega, e3⟩
 rintro ⟨y, d3, b⟩ ⟨j, f1, f2, f3, f4⟩
 simp only at f1 f2 f3 f4 ⊢
 subst f1
 unfold Dl.l2
 refine Ok.cond (fun hp2 => ?_) fun hz2 => ?_
 ·have hp2 := xU hp2
  refine Ok.bind (J3 f4 _ (by decide) (by decide)) fun y hy => ?_
  refine Ok.bindE (Ey (by rw [yJ]; omega)) ?_
  refine Ok.ret ⟨⟨j - 1, ?_, by simp; omega, by simp; omega, hy.2⟩, ?_⟩
  ·show W ((j : Int) - 1) = _
   rw [Do (by omega)]
   omega
  ·show (W ((j : Int) - 1)).toNat < (j : Int).toNat
   rw [Do (by omega)]
   omega
 ·have hz2 := yB hz2
  refine Ok.up ?_
  refine Ok.bind (pW f4) fun u hu => ?_
  refine Ok.bindE (Ey (by rw [yJ]; omega)) ?_
  refine Ok.ret ⟨⟨i - 1, ?_, by simp; omega, by simp; omega, fun q hq => ?_, hu.2⟩, ?_⟩
  ·show W ((i : Int) - 1) = _
   rw [Do (by omega)]
   omega
  ·rcases yQ.1 hq with hq | hq
   ·exact c4 q hq
   ·rw [xQ.1 hq]
    exact ⟨by show 1 <= b.length; omega, by show b.length <= 5; omega, hu.1⟩
  ·show (W ((i : Int) - 1)).toNat < (i : Int).toNat
   rw [Do (by omega)]
   omega
end Go.Proofs.Ytfkgbfhpibiheaa
