/- Uses that are made are valid; few letters; patterns that are made. -/
import Derived.Test.YtfkgbfhpibiheaaM0
import Derived.Test.YtfkgbfhpibiheaaK1
import Derived.Test.YtfkgbfhpibiheaaZ8
set_option linter.unusedVariables false
set_option linter.unusedSimpArgs false
set_option maxRecDepth 100000
namespace Go.Proofs.Ytfkgbfhpibiheaa
open Go
theorem of_ok {d : cipherplanmake_Dice} (h : DOK d) (l : List Int) (hl : 1 ≤ l.length) (hl2 : l.length ≤ 1000) : Ok (g_make_Dice_Of d l) (fun y => y.1 ∈ l ∧ DOK y.2) := by
  unfold g_make_Dice_Of
  refine Ok.bind (next_ok h _ (by omega) (by omega)) fun y hy => ?_
  refine Ok.bind (getI_mem (by omega) (by omega)) fun e he => ?_
  exact Ok.ret ⟨he, hy.2⟩
theorem one_ok {d : cipherplanmake_Dice} (h : DOK d) (n : Int) (hn : 1 ≤ n) (hn2 : n ≤ 1000) : Ok (g_make_Dice_One d n) (fun y => DOK y.2) := by
  unfold g_make_Dice_One
  refine Ok.bind (next_ok h _ (by omega) (by omega)) fun y hy => ?_
  exact Ok.ret hy.2
theorem roll_ok {l : List Int} (h : l.length ≤ 400) : Ok (g_make_Roll l) DOK := Ok.ret ⟨lo_small (by show l.length ≤ _; omega), Int.le_refl _, by show (0 : Int) ≤ (l.length : Int); omega⟩
theorem size_spec {d : cipherplanmake_Dice} (hd : DOK d) {a : Int} (ha : 1 ≤ a ∧ a ≤ 22) : Ok (g_make_size d a) (fun y => decide (0 < strS ⟨a, y.1⟩) = true ∧ DOK y.2) := by
  rcases alg_cases ha with rfl | rfl | rfl | rfl | rfl | rfl | rfl | rfl | rfl | rfl | rfl | rfl | rfl | rfl | rfl | rfl | rfl | rfl | rfl | rfl | rfl | rfl
  · show Ok (some ((0 : Int), d)) _
    exact Ok.ret ⟨show decide (0 < strS ⟨1, 0⟩) = true by decide +kernel, hd⟩
  · show Ok (some ((0 : Int), d)) _
    exact Ok.ret ⟨show decide (0 < strS ⟨2, 0⟩) = true by decide +kernel, hd⟩
  · show Ok (some ((0 : Int), d)) _
    exact Ok.ret ⟨show decide (0 < strS ⟨3, 0⟩) = true by decide +kernel, hd⟩
  · show Ok (some ((0 : Int), d)) _
    exact Ok.ret ⟨show decide (0 < strS ⟨4, 0⟩) = true by decide +kernel, hd⟩
  · show Ok ((g_make_Dice_Of d ([2048, 1024, 512, 3072, 1023, 4096, 16384] : List Int)).bind fun y => some (y.1, y.2)) _
    refine Ok.bind (of_ok hd _ (by decide) (by decide)) fun y hy => Ok.ret ⟨?_, hy.2⟩
    have h := hy.1
    simp only [List.mem_cons, List.not_mem_nil, or_false] at h
    show decide (0 < strS ⟨5, y.1⟩) = true
    rcases h with e | e | e | e | e | e | e <;> rw [e] <;> decide +kernel
  · show Ok ((g_make_Dice_Of d ([2048, 1024, 512, 3072, 1023, 4096, 16384] : List Int)).bind fun y => some (y.1, y.2)) _
    refine Ok.bind (of_ok hd _ (by decide) (by decide)) fun y hy => Ok.ret ⟨?_, hy.2⟩
    have h := hy.1
    simp only [List.mem_cons, List.not_mem_nil, or_false] at h
    show decide (0 < strS ⟨6, y.1⟩) = true
    rcases h with e | e | e | e | e | e | e <;> rw [e] <;> decide +kernel
  · show Ok ((g_make_Dice_Of d ([256, 160, 224, 384, 521] : List Int)).bind fun y => some (y.1, y.2)) _
    refine Ok.bind (of_ok hd _ (by decide) (by decide)) fun y hy => Ok.ret ⟨?_, hy.2⟩
    have h := hy.1
    simp only [List.mem_cons, List.not_mem_nil, or_false] at h
    show decide (0 < strS ⟨7, y.1⟩) = true
    rcases h with e | e | e | e | e <;> rw [e] <;> decide +kernel
  · show Ok (some ((0 : Int), d)) _
    exact Ok.ret ⟨show decide (0 < strS ⟨8, 0⟩) = true by decide +kernel, hd⟩
  · show Ok ((g_make_Dice_Of d ([65, 44, 87] : List Int)).bind fun y => some (y.1, y.2)) _
    refine Ok.bind (of_ok hd _ (by decide) (by decide)) fun y hy => Ok.ret ⟨?_, hy.2⟩
    have h := hy.1
    simp only [List.mem_cons, List.not_mem_nil, or_false] at h
    show decide (0 < strS ⟨9, y.1⟩) = true
    rcases h with e | e | e <;> rw [e] <;> decide +kernel
  · show Ok ((g_make_Dice_Of d ([2048, 1024, 512, 3072, 1023, 4096, 16384] : List Int)).bind fun y => some (y.1, y.2)) _
    refine Ok.bind (of_ok hd _ (by decide) (by decide)) fun y hy => Ok.ret ⟨?_, hy.2⟩
    have h := hy.1
    simp only [List.mem_cons, List.not_mem_nil, or_false] at h
    show decide (0 < strS ⟨10, y.1⟩) = true
    rcases h with e | e | e | e | e | e | e <;> rw [e] <;> decide +kernel
  · show Ok ((g_make_Dice_Of d ([2048, 1024, 512, 3072, 1023, 4096, 16384] : List Int)).bind fun y => some (y.1, y.2)) _
    refine Ok.bind (of_ok hd _ (by decide) (by decide)) fun y hy => Ok.ret ⟨?_, hy.2⟩
    have h := hy.1
    simp only [List.mem_cons, List.not_mem_nil, or_false] at h
    show decide (0 < strS ⟨11, y.1⟩) = true
    rcases h with e | e | e | e | e | e | e <;> rw [e] <;> decide +kernel
  · show Ok ((g_make_Dice_Of d ([256, 160, 224, 384, 521] : List Int)).bind fun y => some (y.1, y.2)) _
    refine Ok.bind (of_ok hd _ (by decide) (by decide)) fun y hy => Ok.ret ⟨?_, hy.2⟩
    have h := hy.1
    simp only [List.mem_cons, List.not_mem_nil, or_false] at h
    show decide (0 < strS ⟨12, y.1⟩) = true
    rcases h with e | e | e | e | e <;> rw [e] <;> decide +kernel
  · show Ok ((g_make_Dice_Of d ([768, 512, 1024] : List Int)).bind fun y => some (y.1, y.2)) _
    refine Ok.bind (of_ok hd _ (by decide) (by decide)) fun y hy => Ok.ret ⟨?_, hy.2⟩
    have h := hy.1
    simp only [List.mem_cons, List.not_mem_nil, or_false] at h
    show decide (0 < strS ⟨13, y.1⟩) = true
    rcases h with e | e | e <;> rw [e] <;> decide +kernel
  · show Ok ((g_make_Dice_Of d ([128, 40] : List Int)).bind fun y => some (y.1, y.2)) _
    refine Ok.bind (of_ok hd _ (by decide) (by decide)) fun y hy => Ok.ret ⟨?_, hy.2⟩
    have h := hy.1
    simp only [List.mem_cons, List.not_mem_nil, or_false] at h
    show decide (0 < strS ⟨14, y.1⟩) = true
    rcases h with e | e <;> rw [e] <;> decide +kernel
  · show Ok ((g_make_Dice_Of d ([168, 112] : List Int)).bind fun y => some (y.1, y.2)) _
    refine Ok.bind (of_ok hd _ (by decide) (by decide)) fun y hy => Ok.ret ⟨?_, hy.2⟩
    have h := hy.1
    simp only [List.mem_cons, List.not_mem_nil, or_false] at h
    show decide (0 < strS ⟨15, y.1⟩) = true
    rcases h with e | e <;> rw [e] <;> decide +kernel
  · show Ok ((g_make_Dice_Of d ([128, 256] : List Int)).bind fun y => some (y.1, y.2)) _
    refine Ok.bind (of_ok hd _ (by decide) (by decide)) fun y hy => Ok.ret ⟨?_, hy.2⟩
    have h := hy.1
    simp only [List.mem_cons, List.not_mem_nil, or_false] at h
    show decide (0 < strS ⟨16, y.1⟩) = true
    rcases h with e | e <;> rw [e] <;> decide +kernel
  · show Ok ((g_make_Dice_Of d ([128, 256] : List Int)).bind fun y => some (y.1, y.2)) _
    refine Ok.bind (of_ok hd _ (by decide) (by decide)) fun y hy => Ok.ret ⟨?_, hy.2⟩
    have h := hy.1
    simp only [List.mem_cons, List.not_mem_nil, or_false] at h
    show decide (0 < strS ⟨17, y.1⟩) = true
    rcases h with e | e <;> rw [e] <;> decide +kernel
  · show Ok (some ((0 : Int), d)) _
    exact Ok.ret ⟨show decide (0 < strS ⟨18, 0⟩) = true by decide +kernel, hd⟩
  · show Ok (some ((0 : Int), d)) _
    exact Ok.ret ⟨show decide (0 < strS ⟨19, 0⟩) = true by decide +kernel, hd⟩
  · show Ok (some ((0 : Int), d)) _
    exact Ok.ret ⟨show decide (0 < strS ⟨20, 0⟩) = true by decide +kernel, hd⟩
  · show Ok (some ((0 : Int), d)) _
    exact Ok.ret ⟨show decide (0 < strS ⟨21, 0⟩) = true by decide +kernel, hd⟩
  · show Ok (some ((0 : Int), d)) _
    exact Ok.ret ⟨show decide (0 < strS ⟨22, 0⟩) = true by decide +kernel, hd⟩
theorem use_ok {d : cipherplanmake_Dice} (hd : DOK d) : Ok (g_make_Use d) (fun y => decide (0 < strS y.1) = true ∧ DOK y.2) := by
  unfold g_make_Use
  refine Ok.bind (next_ok hd 22 (by omega) (by omega)) fun y hy => ?_
  have := hy.1
  rw [W_id (by omega)]
  refine Ok.bind (size_spec hy.2 (by omega)) fun z hz => ?_
  exact Ok.ret ⟨hz.1, hz.2⟩
theorem text_ok {d : cipherplanmake_Dice} (hd : DOK d) (n : Nat) (hn : n ≤ 1000) : Ok (g_law11_text d (n : Int)) (fun y => y.1.length ≤ n ∧ DOK y.2) := by
  unfold g_law11_text
  rw [W_succ (by omega)]
  refine Ok.bind (next_ok hd _ (by omega) (by omega)) ?_
  rintro ⟨m, d'⟩ ⟨⟨h1, h2⟩, h3⟩
  simp only at h1 h2 h3
  refine Ok.loop (fun t => ∃ i : Nat, t.1 = (i : Int) ∧ t.2.2.length + i ≤ n ∧ DOK t.2.1) (fun t => t.1.toNat) ?_ ⟨m.toNat, by show m = _; omega, by simp; omega, h3⟩
  rintro ⟨x, d1, b⟩ ⟨i, c1, c2, c3⟩
  simp only at c1 c2 c3 ⊢
  subst c1
  unfold g_law11_text.l1
  refine Ok.cond (fun hp => ?_) fun hz => Ok.up (Ok.ret ⟨by show b.length ≤ n; omega, c3⟩)
  have hp := of_decide_eq_true hp
  refine Ok.bind (of_ok c3 _ (by decide) (by decide)) fun y hy => ?_
  refine Ok.bindE (appI_ok (by rw [List.length_singleton]; omega)) ?_
  refine Ok.ret ⟨⟨i - 1, ?_, by simp; omega, hy.2⟩, ?_⟩
  · show W ((i : Int) - 1) = _
    rw [W_id (by omega)]
    omega
  · show (W ((i : Int) - 1)).toNat < (i : Int).toNat
    rw [W_id (by omega)]
    omega
def PatM (l : List api_Pattern) : Prop := ∀ q ∈ l, 1 ≤ q.Bytes.length ∧ q.Bytes.length ≤ 5 ∧ decide (0 < strS q.Use) = true
theorem pats_ok {d : cipherplanmake_Dice} (hd : DOK d) : Ok (g_make_Patterns d) (fun y => 1 ≤ y.1.length ∧ y.1.length ≤ 5 ∧ PatM y.1 ∧ DOK y.2) := by
  unfold g_make_Patterns
  refine Ok.bind (next_ok hd _ (by omega) (by omega)) ?_
  rintro ⟨m, d'⟩ ⟨⟨h1, h2⟩, h3⟩
  simp only at h1 h2 h3
  rw [W_id (show -9223372036854775808 ≤ 1 + m ∧ 1 + m ≤ 9223372036854775807 by omega)]
  refine Ok.loop (fun t => ∃ i : Nat, t.1 = (i : Int) ∧ t.2.2.length + i ≤ 5 ∧ 1 ≤ t.2.2.length + i ∧ PatM t.2.2 ∧ DOK t.2.1) (fun t => t.1.toNat) ?_ ⟨(1 + m).toNat, by show 1 + m = _; omega, by simp; omega, by simp; omega, fun q hq => by simp at hq, h3⟩
  rintro ⟨x, d1, p⟩ ⟨i, c1, c2, c3, c4, c5⟩
  simp only at c1 c2 c3 c4 c5 ⊢
  subst c1
  unfold g_make_Patterns.l1
  refine Ok.cond (fun hp => ?_) fun hz => by
    have hz := of_decide_eq_false hz
    exact Ok.up (Ok.ret ⟨by show 1 ≤ p.length; omega, by show p.length ≤ 5; omega, c4, c5⟩)
  have hp := of_decide_eq_true hp
  refine Ok.bind (next_ok c5 _ (by omega) (by omega)) ?_
  rintro ⟨m2, d2⟩ ⟨⟨e1, e2⟩, e3⟩
  simp only at e1 e2 e3
  rw [W_id (show -9223372036854775808 ≤ 1 + m2 ∧ 1 + m2 ≤ 9223372036854775807 by omega)]
  refine Ok.loop (fun t => ∃ j : Nat, t.1 = (j : Int) ∧ t.2.2.length + j ≤ 5 ∧ 1 ≤ t.2.2.length + j ∧ DOK t.2.1) (fun t => t.1.toNat) ?_ ⟨(1 + m2).toNat, by show 1 + m2 = _; omega, by simp; omega, by simp; omega, e3⟩
  rintro ⟨y, d3, b⟩ ⟨j, f1, f2, f3, f4⟩
  simp only at f1 f2 f3 f4 ⊢
  subst f1
  unfold g_make_Patterns.l2
  refine Ok.cond (fun hp2 => ?_) fun hz2 => ?_
  · have hp2 := of_decide_eq_true hp2
    refine Ok.bind (of_ok f4 _ (by decide) (by decide)) fun y hy => ?_
    refine Ok.bindE (appI_ok (by rw [List.length_singleton]; omega)) ?_
    refine Ok.ret ⟨⟨j - 1, ?_, by simp; omega, by simp; omega, hy.2⟩, ?_⟩
    · show W ((j : Int) - 1) = _
      rw [W_id (by omega)]
      omega
    · show (W ((j : Int) - 1)).toNat < (j : Int).toNat
      rw [W_id (by omega)]
      omega
  · have hz2 := of_decide_eq_false hz2
    refine Ok.up ?_
    refine Ok.bind (use_ok f4) fun u hu => ?_
    refine Ok.bindE (appI_ok (by rw [List.length_singleton]; omega)) ?_
    refine Ok.ret ⟨⟨i - 1, ?_, by simp; omega, by simp; omega, fun q hq => ?_, hu.2⟩, ?_⟩
    · show W ((i : Int) - 1) = _
      rw [W_id (by omega)]
      omega
    · rcases List.mem_append.1 hq with hq | hq
      · exact c4 q hq
      · rw [List.mem_singleton.1 hq]
        exact ⟨by show 1 ≤ b.length; omega, by show b.length ≤ 5; omega, hu.1⟩
    · show (W ((i : Int) - 1)).toNat < (i : Int).toNat
      rw [W_id (by omega)]
      omega
theorem chk_zero {l : List api_Pattern} (h1 : l.length ≤ 32) (h2 : ∀ q ∈ l, 1 ≤ q.Bytes.length ∧ q.Bytes.length ≤ 64 ∧ decide (0 < strS q.Use) = true) : chk l = 0 := by
  unfold chk
  have : l.any badP = false := List.any_eq_false.2 fun q hq => by
    obtain ⟨a, b, c⟩ := h2 q hq
    unfold badP
    rw [decide_eq_false (by omega), decide_eq_false (by omega), c]
    decide
  rw [this, cond_false, decide_eq_false (by omega), cond_false]
end Go.Proofs.Ytfkgbfhpibiheaa
