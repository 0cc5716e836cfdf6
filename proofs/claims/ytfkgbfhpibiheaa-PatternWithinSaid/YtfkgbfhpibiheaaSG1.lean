/- The library's sort: its scans, bits, random numbers: no element type here. -/
import Derived.Test.YtfkgbfhpibiheaaL3
import Derived.Test.YtfkgbfhpibiheaaC1
import Derived.Sort.AssemblyPlain
set_option linter.unusedVariables false
set_option linter.unusedSimpArgs false
namespace Go.Proofs.Ytfkgbfhpibiheaa
open Go Go.Sort
theorem scanU_ {α γ : Type} [Inhabited α] {body : Int → Option (Lp Int γ)} {J : Nat → Bool → Option (Lp Int γ)} {K : Nat → Option γ} {p : α → Bool} {D : Array α} {i0 j : Nat} (hj : j < 1000000000)
    (hb : ∀ i : Nat, i0 ≤ i → i ≤ j + 1 → body (i : Int) = J i (decide (i ≤ j) && p D[i]!)) (ht : ∀ i : Nat, J i true = some (.next (W ((i : Int) + 1)))) (hf : ∀ i : Nat, i0 ≤ i → i ≤ j + 1 → J i false = up (K i)) :
    ∀ n i, j + 1 - i = n → i0 ≤ i → i ≤ j + 1 → loop body (i : Int) = K (scanUp p D j i) := by
  intro n
  induction n with
  | zero =>
    intro i hn h0 hi
    have hc : (decide (i ≤ j) && p D[i]!) = false := by rw [decide_eq_false (by omega), Bool.false_and]
    rw [scanUp, if_neg (by rw [hc]; simp)]
    exact loop_up (by rw [hb i h0 hi, hc, hf i h0 hi])
  | succ n ih =>
    intro i hn h0 hi
    rw [scanUp]
    cases hc : (decide (i ≤ j) && p D[i]!) with
    | false =>
      rw [if_neg (by simp)]
      exact loop_up (by rw [hb i h0 hi, hc, hf i h0 hi])
    | true =>
      rw [if_pos rfl]
      have e1 : body (i : Int) = some (.next ((i + 1 : Nat) : Int)) := by rw [hb i h0 hi, hc, ht, W_succ (by omega)]
      rw [loop_next e1]
      exact ih (i + 1) (by omega) (by omega) (by omega)
theorem scanD_ {α γ : Type} [Inhabited α] {body : Int → Option (Lp Int γ)} {J : Nat → Bool → Option (Lp Int γ)} {K : Nat → Option γ} {p : α → Bool} {D : Array α} {i j0 : Nat} (hi : 1 ≤ i) (hj0 : j0 < 1000000000)
    (hb : ∀ j : Nat, i ≤ j + 1 → j ≤ j0 → body (j : Int) = J j (decide (i ≤ j) && p D[j]!)) (ht : ∀ j : Nat, J j true = some (.next (W ((j : Int) - 1)))) (hf : ∀ j : Nat, i ≤ j + 1 → j ≤ j0 → J j false = up (K j)) :
    ∀ j : Nat, i ≤ j + 1 → j ≤ j0 → loop body (j : Int) = K (scanDown p D i j)
  | 0, h1, h2 => by
    have hc : (decide (i ≤ 0) && p D[0]!) = false := by rw [decide_eq_false (by omega), Bool.false_and]
    rw [scanDown]
    exact loop_up (by rw [hb 0 h1 h2, hc, hf 0 h1 h2])
  | j + 1, h1, h2 => by
    rw [scanDown]
    cases hc : (decide (i ≤ j + 1) && p D[j + 1]!) with
    | false =>
      rw [if_neg (by simp)]
      exact loop_up (by rw [hb (j + 1) h1 h2, hc, hf (j + 1) h1 h2])
    | true =>
      rw [if_pos rfl]
      have h3 : i ≤ j + 1 := by
        rw [Bool.and_eq_true] at hc
        exact of_decide_eq_true hc.1
      have e1 : body ((j + 1 : Nat) : Int) = some (.next (j : Int)) := by
        have e2 : W (((j + 1 : Nat) : Int) - 1) = (j : Int) := by rw [W_id (by omega)]; omega
        rw [hb (j + 1) h1 h2, hc, ht, e2]
      rw [loop_next e1]
      exact scanD_ hi hj0 hb ht hf j (by omega) (by omega)
theorem scanS_ {α γ : Type} [Inhabited α] {body : Int → Option (Lp Int γ)} {J : Nat → Bool → Option (Lp Int γ)} {K : Nat → Option γ} {lt : α → α → Bool} {D : Array α} {i0 b : Nat} (hb0 : b < 2000000000)
    (hb : ∀ i : Nat, i0 ≤ i → i ≤ b → body (i : Int) = J i (decide (i < b) && !lt D[i]! D[i - 1]!)) (ht : ∀ i : Nat, J i true = some (.next (W ((i : Int) + 1)))) (hf : ∀ i : Nat, i0 ≤ i → i ≤ b → J i false = up (K i)) :
    ∀ n i, b - i = n → i0 ≤ i → i ≤ b → loop body (i : Int) = K (scanSorted lt D b i) := by
  intro n
  induction n with
  | zero =>
    intro i hn h0 hi
    have hc : (decide (i < b) && !lt D[i]! D[i - 1]!) = false := by rw [decide_eq_false (by omega), Bool.false_and]
    rw [scanSorted, if_neg (by rw [hc]; simp)]
    exact loop_up (by rw [hb i h0 hi, hc, hf i h0 hi])
  | succ n ih =>
    intro i hn h0 hi
    rw [scanSorted]
    cases hc : (decide (i < b) && !lt D[i]! D[i - 1]!) with
    | false =>
      rw [if_neg (by simp)]
      exact loop_up (by rw [hb i h0 hi, hc, hf i h0 hi])
    | true =>
      rw [if_pos rfl]
      have e1 : body (i : Int) = some (.next ((i + 1 : Nat) : Int)) := by rw [hb i h0 hi, hc, ht, W_succ (by omega)]
      rw [loop_next e1]
      exact ih (i + 1) (by omega) (by omega) (by omega)
theorem scanSorted_le {α : Type} [Inhabited α] (lt : α → α → Bool) (D : Array α) (b : Nat) : ∀ n i, b - i = n → i ≤ b → i ≤ scanSorted lt D b i ∧ scanSorted lt D b i ≤ b := by
  intro n
  induction n with
  | zero =>
    intro i hn hi
    rw [scanSorted, if_neg (by rw [decide_eq_false (by omega), Bool.false_and]; simp)]
    exact ⟨Nat.le_refl _, hi⟩
  | succ n ih =>
    intro i hn hi
    rw [scanSorted]
    split
    · have := ih (i + 1) (by omega) (by omega)
      omega
    · exact ⟨Nat.le_refl _, hi⟩
theorem Wp {n : Nat} (h : n < 4000000000) : W ((n : Int) + 1) = ((n + 1 : Nat) : Int) := W_succ (by omega)
theorem Wm {n : Nat} (h : n < 4000000000) (h0 : 0 < n) : W ((n : Int) - 1) = ((n - 1 : Nat) : Int) := by rw [W_id (by omega)]; omega
theorem Wd {m n : Nat} (h : m < 4000000000) (h0 : n ≤ m) : W ((m : Int) - (n : Int)) = ((m - n : Nat) : Int) := by rw [W_id (by omega)]; omega
theorem quo4 {n : Nat} (h : n < 4000000000) : quoI (n : Int) 4 = some ((n / 4 : Nat) : Int) := by
  unfold quoI
  rw [if_neg (by omega), W_id]
  · rfl
  · have : (n : Int).tdiv 4 = ((n / 4 : Nat) : Int) := rfl
    rw [this]
    omega
theorem quo8s {n : Nat} (h : n < 4000000000) : quoI (n : Int) 8 = some ((n / 8 : Nat) : Int) := by
  unfold quoI
  rw [if_neg (by omega), W_id]
  · rfl
  · have : (n : Int).tdiv 8 = ((n / 8 : Nat) : Int) := rfl
    rw [this]
    omega
theorem Wq1 {a q : Nat} (h : a < 4000000000) (k : q < 4000000000) : W ((a : Int) + W ((q : Int) * 1)) = ((a + q : Nat) : Int) := by
  rw [W_id (x := (q : Int) * 1) (by omega), W_id (by omega)]; omega
theorem Wq2 {a q : Nat} (h : a < 4000000000) (k : q < 4000000000) : W ((a : Int) + W ((q : Int) * 2)) = ((a + q * 2 : Nat) : Int) := by
  rw [W_id (x := (q : Int) * 2) (by omega), W_id (by omega)]; omega
theorem Wq3 {a q : Nat} (h : a < 4000000000) (k : q < 4000000000) : W ((a : Int) + W ((q : Int) * 3)) = ((a + q * 3 : Nat) : Int) := by
  rw [W_id (x := (q : Int) * 3) (by omega), W_id (by omega)]; omega
theorem shr_pos {x : Int} (hx : 0 ≤ x) (k : Nat) (hk : k ≤ 64) : shrK .u64 x (k : Int) = some (x / 2 ^ k) := by
  unfold shrK
  rw [if_neg (by omega)]
  have e : min ((k : Int)).toNat IntKind.u64.bits = k := by
    show min ((k : Int)).toNat 64 = k
    omega
  rw [e, Int.fdiv_eq_ediv_of_nonneg _ (Int.le_of_lt (Int.pow_pos (by decide)))]
noncomputable def chkLen (x : Nat) : Bool := match g_math_bits_Len64.j3 (x : Int) 0 with | some L => decide (0 ≤ L ∧ L ≤ 8 ∧ x < 2 ^ L.toNat ∧ (x = 0 ∨ 2 ^ L.toNat ≤ 2 * x)) | none => false
theorem chkLen_all : (List.range 256).all chkLen = true := by decide +kernel
theorem j3_len (x n : Int) : g_math_bits_Len64.j3 x n = (g_math_bits_Len64.j3 x 0).bind fun c => some (W (n + c)) := by
  unfold g_math_bits_Len64.j3
  cases idxT _ ((u8 x).toNat : Int) with
  | none => rfl
  | some c =>
    have := c.toNat_lt
    show some (W (n + (c.toNat : Int))) = some (W (n + W (0 + (c.toNat : Int))))
    rw [W_id (x := 0 + (c.toNat : Int)) (by omega), Int.zero_add]
theorem j3_ok (x : Nat) (hx : x < 256) : ∃ L : Nat, L ≤ 8 ∧ x < 2 ^ L ∧ (x = 0 ∨ 2 ^ L ≤ 2 * x) ∧ ∀ n : Nat, n < 1000 → g_math_bits_Len64.j3 (x : Int) (n : Int) = some ((n + L : Nat) : Int) := by
  have h := List.all_eq_true.1 chkLen_all x (List.mem_range.2 hx)
  unfold chkLen at h
  cases hj : g_math_bits_Len64.j3 (x : Int) 0 with
  | none => rw [hj] at h; cases h
  | some L =>
    rw [hj] at h
    obtain ⟨h1, h2, h3, h4⟩ := of_decide_eq_true h
    refine ⟨L.toNat, by omega, h3, h4, fun n hn => ?_⟩
    rw [j3_len, hj, Option.bind_some, W_id (by omega)]
    exact congrArg some (by omega)
theorem len_ok (x : Nat) (hx : x < 65536) : ∃ L : Nat, L ≤ 16 ∧ x < 2 ^ L ∧ (x = 0 ∨ 2 ^ L ≤ 2 * x) ∧ g_math_bits_Len (x : Int) = some (L : Int) := by
  by_cases h : x < 256
  · obtain ⟨L, h1, h2, h3, h4⟩ := j3_ok x h
    refine ⟨L, by omega, h2, h3, ?_⟩
    have h5 : g_math_bits_Len64.j3 (x : Int) 0 = some (L : Int) := by
      have h6 := h4 0 (by omega)
      rw [Nat.zero_add] at h6
      exact h6
    unfold g_math_bits_Len g_math_bits_Len64 g_math_bits_Len64.j1 g_math_bits_Len64.j2
    rw [decide_eq_false (by omega), cond_false, decide_eq_false (by omega), cond_false, decide_eq_false (by omega), cond_false]
    rw [h5, Option.bind_some]
  · obtain ⟨L, h1, h2, h3, h4⟩ := j3_ok (x / 256) (by omega)
    refine ⟨8 + L, by omega, ?_, ?_, ?_⟩
    · rw [Nat.pow_add]; omega
    · rw [Nat.pow_add]; omega
    · have h5 := h4 8 (by omega)
      unfold g_math_bits_Len g_math_bits_Len64 g_math_bits_Len64.j1 g_math_bits_Len64.j2
      rw [decide_eq_false (by omega), cond_false, decide_eq_false (by omega), cond_false, decide_eq_true (by omega), cond_true]
      have e : shrK .u64 (x : Int) 8 = some ((x / 256 : Nat) : Int) := by
        rw [show (8 : Int) = ((8 : Nat) : Int) from rfl, shr_pos (by omega) 8 (by omega)]
        rfl
      rw [e, Option.bind_some, show W (0 + 8) = ((8 : Nat) : Int) from rfl, h5, Option.bind_some]
theorem wrap_pos {x : Int} (h : 0 ≤ x ∧ x < 18446744073709551616) : IntKind.u64.wrap x = x := by
  have e : IntKind.u64.wrap x = x % 18446744073709551616 := by simp [IntKind.wrap, IntKind.bits, IntKind.signed]
  rw [e]; omega
theorem pow2_ok (x : Nat) (h0 : 0 < x) (hx : x < 65536) : ∃ y : Nat, x < y ∧ y ≤ 2 * x ∧ g_slices_nextPowerOfTwo (x : Int) = some (y : Int) := by
  obtain ⟨L, h1, h2, h3, h4⟩ := len_ok x hx
  refine ⟨2 ^ L, h2, by omega, ?_⟩
  unfold g_slices_nextPowerOfTwo
  rw [wrap_pos (by omega), h4, Option.bind_some]
  have e : shlK .u64 1 (L : Int) = some ((2 ^ L : Nat) : Int) := by
    unfold shlK
    rw [if_neg (by omega)]
    have e1 : min ((L : Int)).toNat IntKind.u64.bits = L := by
      show min ((L : Int)).toNat 64 = L
      omega
    have e2 : (1 : Int) * 2 ^ L = ((2 ^ L : Nat) : Int) := by simp
    rw [e1, e2, wrap_pos]
    have : 2 ^ L ≤ 2 ^ 16 := Nat.pow_le_pow_right (by omega) h1
    omega
  rw [e]
  rfl
theorem rnd_ok (r : Int) : ∃ z : Int × Int, g_slices_xorshift_Next r = some z := by
  unfold g_slices_xorshift_Next
  have e1 : ∀ x : Int, ∃ q, shlK .u64 x 13 = some q := fun x => ⟨_, if_neg (by decide)⟩
  have e2 : ∀ x : Int, ∃ q, shrK .u64 x 7 = some q := fun x => ⟨_, if_neg (by decide)⟩
  have e3 : ∀ x : Int, ∃ q, shlK .u64 x 17 = some q := fun x => ⟨_, if_neg (by decide)⟩
  obtain ⟨q, h⟩ := e1 r
  rw [h, Option.bind_some]
  obtain ⟨q2, h2⟩ := e2 (xorK .u64 r q)
  rw [h2, Option.bind_some]
  obtain ⟨q3, h3⟩ := e3 (xorK .u64 (xorK .u64 r q) q2)
  rw [h3, Option.bind_some]
  exact ⟨_, rfl⟩
theorem and_ok (r : Int) (y : Nat) (hy : y < 1000000) : ∃ z : Nat, z ≤ y ∧ W (andK .u64 r (IntKind.u64.wrap (y : Int))) = (z : Int) := by
  refine ⟨(BitVec.ofInt 64 r &&& BitVec.ofInt 64 (y : Int)).toNat, ?_, ?_⟩
  · rw [BitVec.toNat_and]
    refine Nat.le_trans Nat.and_le_right ?_
    rw [BitVec.toNat_ofInt]
    omega
  · have h : (BitVec.ofInt 64 r &&& BitVec.ofInt 64 (y : Int)).toNat ≤ y := by
      rw [BitVec.toNat_and]
      refine Nat.le_trans Nat.and_le_right ?_
      rw [BitVec.toNat_ofInt]
      omega
    rw [wrap_pos (by omega)]
    show W (IntKind.u64.wrap ((BitVec.ofInt 64 r &&& BitVec.ofInt 64 (y : Int)).toNat : Int)) = _
    rw [wrap_pos (by omega), W_id (by omega)]
end Go.Proofs.Ytfkgbfhpibiheaa
