/- Plain texts, joined. No program is in sight here. -/
import Derived.Test.YtkpcbnnlefcebaaGreatL3
import Derived.Test.YtkpcbnnlefcebaaGreatC1
import Derived.Sort.AssemblyPlain
set_option linter.unusedVariables false
set_option linter.unusedSimpArgs false
namespace Go.Proofs.YtkpcbnnlefcebaaGreat
section
open Go Go.Sort
theorem cH {α γ : Type} [Inhabited α] {body : Int -> Option (Lp Int γ)} {J : Nat -> Bool -> Option (Lp Int γ)} {K : Nat -> Option γ} {p : α -> Bool} {D : Array α} {i0 j : Nat} (hj : j < 1000000000)
  (hb : ∀ i : Nat, i0 <= i -> i <= j + 1 -> body (i : Int) = J i (decide (i <= j) && p D[i]!)) (ht : ∀ i : Nat, J i true = some (.next (W ((i : Int) + 1)))) (hf : ∀ i : Nat, i0 <= i -> i <= j + 1 -> J i false = up (K i)) :
  ∀ n i, j + 1 - i = n -> i0 <= i -> i <= j + 1 -> C2 body (i : Int) = K (scanUp p D j i) := by
 intro n
 induction n with
 | zero =>
  intro i hn h0 hi
  have hc : (decide (i <= j) && p D[i]!) = false := by rw [decide_eq_false (by omega), Bool.false_and]
  rw [scanUp, if_neg (by rw [hc]; simp)]
  exact Ey (by rw [hb i h0 hi, hc, hf i h0 hi])
 | succ n ih =>
  intro i hn h0 hi
  rw [scanUp]
  cases hc : (decide (i <= j) && p D[i]!) with
  | false =>
   rw [if_neg (by simp)]
   exact Ey (by rw [hb i h0 hi, hc, hf i h0 hi])
  | true =>
   rw [if_pos rfl]
   have e1 : body (i : Int) = some (.next ((i + 1 : Nat) : Int)) := by rw [hb i h0 hi, hc, ht, Ri (by omega)]
   rw [Fv e1]
   exact ih (i + 1) (by omega) (by omega) (by omega)
theorem Zh {α γ : Type} [Inhabited α] {body : Int -> Option (Lp Int γ)} {J : Nat -> Bool -> Option (Lp Int γ)} {K : Nat -> Option γ} {p : α -> Bool} {D : Array α} {i j0 : Nat} (hi : 1 <= i) (hj0 : j0 < 1000000000)
  (hb : ∀ j : Nat, i <= j + 1 -> j <= j0 -> body (j : Int) = J j (decide (i <= j) && p D[j]!)) (ht : ∀ j : Nat, J j true = some (.next (W ((j : Int) - 1)))) (hf : ∀ j : Nat, i <= j + 1 -> j <= j0 -> J j false = up (K j)) :
  ∀ j : Nat, i <= j + 1 -> j <= j0 -> C2 body (j : Int) = K (scanDown p D i j)
 | 0, h1, h2 => by
  have hc : (decide (i <= 0) && p D[0]!) = false := by rw [decide_eq_false (by omega), Bool.false_and]
  rw [scanDown]
  exact Ey (by rw [hb 0 h1 h2, hc, hf 0 h1 h2])
 | j + 1, h1, h2 => by
  rw [scanDown]
  cases hc : (decide (i <= j + 1) && p D[j + 1]!) with
  | false =>
   rw [if_neg (by simp)]
   exact Ey (by rw [hb (j + 1) h1 h2, hc, hf (j + 1) h1 h2])
  | true =>
   rw [if_pos rfl]
   have h3 : i <= j + 1 := by
    rw [Bool.and_eq_true] at hc
    exact of_decide_eq_true hc.1
   have e1 : body ((j + 1 : Nat) : Int) = some (.next (j : Int)) := by
    have e2 : W (((j + 1 : Nat) : Int) - 1) = (j : Int) := by rw [Es (by omega)]; omega
    rw [hb (j + 1) h1 h2, hc, ht, e2]
   rw [Fv e1]
   exact Zh hi hj0 hb ht hf j (by omega) (by omega)
theorem tQ {α γ : Type} [Inhabited α] {body : Int -> Option (Lp Int γ)} {J : Nat -> Bool -> Option (Lp Int γ)} {K : Nat -> Option γ} {lt : α -> α -> Bool} {D : Array α} {i0 b : Nat} (hb0 : b < 2000000000)
  (hb : ∀ i : Nat, i0 <= i -> i <= b -> body (i : Int) = J i (decide (i < b) && !lt D[i]! D[i - 1]!)) (ht : ∀ i : Nat, J i true = some (.next (W ((i : Int) + 1)))) (hf : ∀ i : Nat, i0 <= i -> i <= b -> J i false = up (K i)) :
  ∀ n i, b - i = n -> i0 <= i -> i <= b -> C2 body (i : Int) = K (scanSorted lt D b i) := by
 intro n
 induction n with
 | zero =>
  intro i hn h0 hi
  have hc : (decide (i < b) && !lt D[i]! D[i - 1]!) = false := by rw [decide_eq_false (by omega), Bool.false_and]
  rw [scanSorted, if_neg (by rw [hc]; simp)]
  exact Ey (by rw [hb i h0 hi, hc, hf i h0 hi])
 | succ n ih =>
  intro i hn h0 hi
  rw [scanSorted]
  cases hc : (decide (i < b) && !lt D[i]! D[i - 1]!) with
  | false =>
   rw [if_neg (by simp)]
   exact Ey (by rw [hb i h0 hi, hc, hf i h0 hi])
  | true =>
   rw [if_pos rfl]
   have e1 : body (i : Int) = some (.next ((i + 1 : Nat) : Int)) := by rw [hb i h0 hi, hc, ht, Ri (by omega)]
   rw [Fv e1]
   exact ih (i + 1) (by omega) (by omega) (by omega)
theorem X8 {α : Type} [Inhabited α] (lt : α -> α -> Bool) (D : Array α) (b : Nat) : ∀ n i, b - i = n -> i <= b -> i <= scanSorted lt D b i /\ scanSorted lt D b i <= b := by
 intro n
 induction n with
 | zero =>
  intro i hn hi
  rw [scanSorted, if_neg (by rw [decide_eq_false (by omega), Bool.false_and]; simp)]
  exact ⟨Nat.le_refl _, hi⟩
 | succ n ih =>
  intro i hn hi
  rw [scanSorted]
  split
  ·have := ih (i + 1) (by omega) (by omega)
   omega
  ·exact ⟨Nat.le_refl _, hi⟩
theorem Wp {n : Nat} (h : n < 4000000000) : W ((n : Int) + 1) = ((n + 1 : Nat) : Int) := Ri (by omega)
theorem Wm {n : Nat} (h : n < 4000000000) (h0 : 0 < n) : W ((n : Int) - 1) = ((n - 1 : Nat) : Int) := by rw [Es (by omega)]; omega
theorem Wd {m n : Nat} (h : m < 4000000000) (h0 : n <= m) : W ((m : Int) - (n : Int)) = ((m - n : Nat) : Int) := by rw [Es (by omega)]; omega
theorem oO {n : Nat} (h : n < 4000000000) : Mb (n : Int) 4 = some ((n / 4 : Nat) : Int) := by
 unfold Mb
 rw [if_neg (by omega), Es]
 ·rfl
 ·have : (n : Int).tdiv 4 = ((n / 4 : Nat) : Int) := rfl
  rw [this]
  omega
theorem wG {n : Nat} (h : n < 4000000000) : Mb (n : Int) 8 = some ((n / 8 : Nat) : Int) := by
 unfold Mb
 rw [if_neg (by omega), Es]
 ·rfl
 ·have : (n : Int).tdiv 8 = ((n / 8 : Nat) : Int) := rfl
  rw [this]
  omega
theorem zU {a q : Nat} (h : a < 4000000000) (k : q < 4000000000) : W ((a : Int) + W ((q : Int) * 1)) = ((a + q : Nat) : Int) := by
 rw [Es (x := (q : Int) * 1) (by omega), Es (by omega)]; omega
theorem xG {a q : Nat} (h : a < 4000000000) (k : q < 4000000000) : W ((a : Int) + W ((q : Int) * 2)) = ((a + q * 2 : Nat) : Int) := by
 rw [Es (x := (q : Int) * 2) (by omega), Es (by omega)]; omega
theorem zY {a q : Nat} (h : a < 4000000000) (k : q < 4000000000) : W ((a : Int) + W ((q : Int) * 3)) = ((a + q * 3 : Nat) : Int) := by
 rw [Es (x := (q : Int) * 3) (by omega), Es (by omega)]; omega
theorem mP {x : Int} (hx : 0 <= x) (k : Nat) (hk : k <= 64) : Sk .u64 x (k : Int) = some (x / 2 ^ k) := by
 unfold Sk
 rw [if_neg (by omega)]
 have e : min ((k : Int)).toNat IntKind.u64.bits = k := by
  show min ((k : Int)).toNat 64 = k
  omega
 rw [e, Int.fdiv_eq_ediv_of_nonneg _ (Int.le_of_lt (Int.pow_pos (by decide)))]
noncomputable def kR (x : Nat) : Bool := match B1.j3 (x : Int) 0 with | some L => decide (0 <= L /\ L <= 8 /\ x < 2 ^ L.toNat /\ (x = 0 \/ 2 ^ L.toNat <= 2 * x)) | none => false
theorem cM : (List.range 256).all kR = true := by decide +kernel
theorem tF (x n : Int) : B1.j3 x n = (B1.j3 x 0).bind fun c => some (W (n + c)) := by
 unfold B1.j3
 cases bD _ ((u8 x).toNat : Int) with
 | none => rfl
 | some c =>
  have := c.toNat_lt
  show some (W (n + (c.toNat : Int))) = some (W (n + W (0 + (c.toNat : Int))))
  rw [Es (x := 0 + (c.toNat : Int)) (by omega), Int.zero_add]
theorem oW (x : Nat) (hx : x < 256) : ∃ L : Nat, L <= 8 /\ x < 2 ^ L /\ (x = 0 \/ 2 ^ L <= 2 * x) /\ ∀ n : Nat, n < 1000 -> B1.j3 (x : Int) (n : Int) = some ((n + L : Nat) : Int) := by
 have h := List.all_eq_true.1 cM x (List.mem_range.2 hx)
 unfold kR at h
 cases hj : B1.j3 (x : Int) 0 with
 | none => rw [hj] at h; cases h
 | some L =>
  rw [hj] at h
  obtain ⟨h1, h2, h3, h4⟩ := of_decide_eq_true h
  refine ⟨L.toNat, by omega, h3, h4, fun n hn => ?_⟩
  rw [tF, hj, Option.bind_some, Es (by omega)]
  exact congrArg some (by omega)
theorem lQ (x : Nat) (hx : x < 65536) : ∃ L : Nat, L <= 16 /\ x < 2 ^ L /\ (x = 0 \/ 2 ^ L <= 2 * x) /\ G5 (x : Int) = some (L : Int) := by
 by_cases h : x < 256
 ·obtain ⟨L, h1, h2, h3, h4⟩ := oW x h
  refine ⟨L, by omega, h2, h3, ?_⟩
  have h5 : B1.j3 (x : Int) 0 = some (L : Int) := by
   have h6 := h4 0 (by omega)
   rw [Nat.zero_add] at h6
   exact h6
  unfold G5 B1 B1.j1 B1.j2
  rw [decide_eq_false (by omega), cond_false, decide_eq_false (by omega), cond_false, decide_eq_false (by omega), cond_false]
  rw [h5, Option.bind_some]
 ·obtain ⟨L, h1, h2, h3, h4⟩ := oW (x / 256) (by omega)
  refine ⟨8 + L, by omega, ?_, ?_, ?_⟩
  ·rw [Nat.pow_add]; omega
  ·rw [Nat.pow_add]; omega
  ·have h5 := h4 8 (by omega)
   unfold G5 B1 B1.j1 B1.j2
   rw [decide_eq_false (by omega), cond_false, decide_eq_false (by omega), cond_false, decide_eq_true (by omega), cond_true]
   have e : Sk .u64 (x : Int) 8 = some ((x / 256 : Nat) : Int) := by
    rw [show (8 : Int) = ((8 : Nat) : Int) from rfl, mP (by omega) 8 (by omega)]
    rfl
   rw [e, Option.bind_some, show W (0 + 8) = ((8 : Nat) : Int) from rfl, h5, Option.bind_some]
theorem Qs {x : Int} (h : 0 <= x /\ x < 18446744073709551616) : IntKind.u64.wrap x = x := by
 have e : IntKind.u64.wrap x = x % 18446744073709551616 := by simp [IntKind.wrap, IntKind.bits, IntKind.signed]
 rw [e]; omega
theorem mT (x : Nat) (h0 : 0 < x) (hx : x < 65536) : ∃ y : Nat, x < y /\ y <= 2 * x /\ F7 (x : Int) = some (y : Int) := by
 obtain ⟨L, h1, h2, h3, h4⟩ := lQ x hx
 refine ⟨2 ^ L, h2, by omega, ?_⟩
 unfold F7
 rw [Qs (by omega), h4, Option.bind_some]
 have e : X3 .u64 1 (L : Int) = some ((2 ^ L : Nat) : Int) := by
  unfold X3
  rw [if_neg (by omega)]
  have e1 : min ((L : Int)).toNat IntKind.u64.bits = L := by
   show min ((L : Int)).toNat 64 = L
   omega
  have e2 : (1 : Int) * 2 ^ L = ((2 ^ L : Nat) : Int) := by simp
  rw [e1, e2, Qs]
  have : 2 ^ L <= 2 ^ 16 := Nat.pow_le_pow_right (by omega) h1
  omega
 rw [e]
 rfl
theorem rN (r : Int) : ∃ z : Int × Int, Gj r = some z := by
 unfold Gj
 have e1 : ∀ x : Int, ∃ q, X3 .u64 x 13 = some q := fun x => ⟨_, if_neg (by decide)⟩
 have e2 : ∀ x : Int, ∃ q, Sk .u64 x 7 = some q := fun x => ⟨_, if_neg (by decide)⟩
 have e3 : ∀ x : Int, ∃ q, X3 .u64 x 17 = some q := fun x => ⟨_, if_neg (by decide)⟩
 obtain ⟨q, h⟩ := e1 r
 rw [h, Option.bind_some]
 obtain ⟨q2, h2⟩ := e2 (Qv .u64 r q)
 rw [h2, Option.bind_some]
 obtain ⟨q3, h3⟩ := e3 (Qv .u64 (Qv .u64 r q) q2)
 rw [h3, Option.bind_some]
 exact ⟨_, rfl⟩
theorem sK (r : Int) (y : Nat) (hy : y < 1000000) : ∃ z : Nat, z <= y /\ W (aM .u64 r (IntKind.u64.wrap (y : Int))) = (z : Int) := by
 refine ⟨(BitVec.ofInt 64 r &&& BitVec.ofInt 64 (y : Int)).toNat, ?_, ?_⟩
 ·rw [BitVec.toNat_and]
  refine Nat.le_trans Nat.and_le_right ?_
  rw [BitVec.toNat_ofInt]
  omega
 ·have h : (BitVec.ofInt 64 r &&& BitVec.ofInt 64 (y : Int)).toNat <= y := by
   rw [BitVec.toNat_and]
   refine Nat.le_trans Nat.and_le_right ?_
   rw [BitVec.toNat_ofInt]
   omega
  rw [Qs (by omega)]
  show W (IntKind.u64.wrap ((BitVec.ofInt 64 r &&& BitVec.ofInt 64 (y : Int)).toNat : Int)) = _
  rw [Qs (by omega), Es (by omega)]
end
section
open Go Go.Sort
section
variable {cmp : Aa -> Aa -> Option Int} {lt : Aa -> Aa -> Bool} {P : Aa -> Prop}
def Bn (cmp : Aa -> Aa -> Option Int) (lt : Aa -> Aa -> Bool) (P : Aa -> Prop) : Prop := ∀ x y, P x -> P y -> ∃ n, cmp x y = some n /\ decide (n < 0) = lt x y
def A7 (P : Aa -> Prop) (d : Array Aa) : Prop := d.size <= 1000000000 /\ ∀ i, i < d.size -> P d[i]!
theorem Ca (d : Array Aa) (i j : Nat) : (swp d i j).size = d.size := by simp [swp]
theorem A7.swp {d : Array Aa} (h : A7 P d) {i j : Nat} (hi : i < d.size) (hj : j < d.size) : A7 P (Sort.swp d i j) := by
 refine ⟨by rw [Ca]; exact h.1, fun k hk => ?_⟩
 rw [Ca] at hk
 unfold Sort.swp
 by_cases h1 : j = k
 ·subst h1
  rw [getElem!_pos ((d.setIfInBounds i d[j]!).setIfInBounds j d[i]!) _ (by simpa using hk)]
  simp only [Array.getElem_setIfInBounds_self]
  exact h.2 i hi
 ·by_cases h2 : i = k
  ·subst h2
   rw [getElem!_pos ((d.setIfInBounds i d[j]!).setIfInBounds j d[i]!) _ (by simpa using hk)]
   rw [Array.getElem_setIfInBounds_ne (by simpa using hk) (by omega)]
   simp only [Array.getElem_setIfInBounds_self]
   exact h.2 j hj
  ·rw [getElem!_pos _ _ (by simpa using hk)]
   rw [Array.getElem_setIfInBounds_ne (by simpa using hk) (by omega), Array.getElem_setIfInBounds_ne (by simpa using hk) (by omega)]
   have := h.2 k hk
   rwa [getElem!_pos d k hk] at this
theorem Cq {d : Array Aa} {i : Nat} (h : i < d.size) {k : Int} (hk : k = (i : Int)) : Cb d.toList k = some d[i]! := by
 subst hk
 rw [D8, Array.getElem?_toList, Array.getElem?_eq_getElem h, getElem!_pos d i h]
theorem Lj (d : Array Aa) (i : Nat) (x : Aa) : De d.toList i x = (d.setIfInBounds i x).toList := by
 unfold De
 simp
theorem Gu {d : Array Aa} {i : Nat} {x : Aa} {j : Nat} (h : i < d.size) {k : Int} (hk : k = (i : Int)) : ∃ y, Cb (De d.toList j x) k = some y := by
 subst hk
 rw [D8]
 exact ⟨_, List.getElem?_eq_getElem (by unfold De; simpa using h)⟩
theorem Gv (d : Array Aa) (i j : Nat) : De (De d.toList i d[j]!) j d[i]! = (Sort.swp d i j).toList := by
 rw [Lj, Lj]
 rfl
theorem F8 (hc : Bn cmp lt P) {d : Array Aa} (h : A7 P d) {i j : Nat} (hi : i < d.size) (hj : j < d.size) : ∃ n, cmp d[i]! d[j]! = some n /\ decide (n < 0) = lt d[i]! d[j]! := hc _ _ (h.2 i hi) (h.2 j hj)
theorem Kp (hc : Bn cmp lt P) {a i1 : Nat} : ∀ (j : Nat) (d : Array Aa), j < d.size -> A7 P d ->
  A7 P (insInner lt a j d) /\ (insInner lt a j d).size = d.size /\ C2 (fun q' => Au.l2 (a : Int) cmp (i1 : Int) q'.1 q'.2) ((j : Int), d.toList) = some (.next (W ((i1 : Int) + 1), (insInner lt a j d).toList))
 | 0, d, hj, hd => by
  refine ⟨hd, rfl, Ey ?_⟩
  show Au.l2 (a : Int) cmp (i1 : Int) ((0 : Nat) : Int) d.toList = _
  unfold Au.l2
  rw [decide_eq_false (by omega)]
  rfl
 | j + 1, d, hj, hd => by
  have hsz := hd.1
  have hW : W (((j + 1 : Nat) : Int) - 1) = (j : Int) := by rw [Es (by omega)]; omega
  unfold insInner
  by_cases ha : a < j + 1
  ·obtain ⟨n, h1, h2⟩ := F8 hc hd hj (show j < d.size by omega)
   have hbody : ∀ r, Au.j3 (i1 : Int) ((j + 1 : Nat) : Int) d.toList (lt d[j + 1]! d[j]!) = r -> Au.l2 (a : Int) cmp (i1 : Int) ((j + 1 : Nat) : Int) d.toList = r := fun r hr => by
    unfold Au.l2
    rw [decide_eq_true (by omega), cond_true, Cq hj rfl, Option.bind_some, Cq (i := j) (by omega) hW, Option.bind_some, h1, Option.bind_some, h2]
    exact hr
   cases hl : lt d[j + 1]! d[j]! with
   | true =>
    obtain ⟨q1, q2, q3⟩ := Kp hc (i1 := i1) (a := a) j (Sort.swp d (j + 1) j) (by rw [Ca]; omega) (hd.swp hj (by omega))
    rw [if_pos (by simp [ha])]
    refine ⟨q1, by rw [q2, Ca], ?_⟩
    have hb' : Au.l2 (a : Int) cmp (i1 : Int) ((j + 1 : Nat) : Int) d.toList = some (.next ((j : Int), (Sort.swp d (j + 1) j).toList)) := by
     refine hbody _ ?_
     rw [hl]
     unfold Au.j3
     obtain ⟨y, hy⟩ := Gu (d := d) (x := d[j]!) (j := (((j + 1 : Nat) : Int)).toNat) (i := j) (by omega) hW
     rw [cond_true, Cq (i := j) (by omega) hW, Option.bind_some, Cq hj rfl, Option.bind_some, hy, Option.bind_some, hW]
     have e1 : (((j + 1 : Nat) : Int)).toNat = j + 1 := by omega
     have e2 : ((j : Int)).toNat = j := by omega
     rw [e1, e2, Gv]
    exact (Fv (body := fun q' => Au.l2 (a : Int) cmp (i1 : Int) q'.1 q'.2) (s := (((j + 1 : Nat) : Int), d.toList)) hb').trans q3
   | false =>
    rw [if_neg (by simp)]
    refine ⟨hd, rfl, Ey (hbody _ ?_)⟩
    rw [hl]
    rfl
  ·rw [if_neg (by simp [ha])]
   refine ⟨hd, rfl, Ey ?_⟩
   show Au.l2 (a : Int) cmp (i1 : Int) ((j + 1 : Nat) : Int) d.toList = _
   unfold Au.l2
   rw [decide_eq_false (by omega)]
   rfl
theorem Kt (hc : Bn cmp lt P) {a b : Nat} : ∀ (n i : Nat) (d : Array Aa), b - i = n -> b <= d.size -> A7 P d ->
  C2 (fun q' => Au.l1 (a : Int) (b : Int) cmp q'.1 q'.2) ((i : Int), d.toList) = some (insOuter lt a b i d).toList
 | 0, i, d, hn, hb, hd => by
  unfold insOuter
  rw [if_neg (by omega)]
  refine Ey (x := some d.toList) ?_
  show Au.l1 (a : Int) (b : Int) cmp (i : Int) d.toList = _
  unfold Au.l1
  rw [decide_eq_false (by omega)]
  rfl
 | n + 1, i, d, hn, hb, hd => by
  have hsz := hd.1
  unfold insOuter
  rw [if_pos (by omega)]
  obtain ⟨q1, q2, q3⟩ := Kp hc (a := a) (i1 := i) i d (by omega) hd
  rw [Fv (s' := (((i + 1 : Nat) : Int), (insInner lt a i d).toList)) ?_]
  ·exact Kt hc n (i + 1) _ (by omega) (by rw [q2]; exact hb) q1
  ·show Au.l1 (a : Int) (b : Int) cmp (i : Int) d.toList = _
   unfold Au.l1
   rw [decide_eq_true (by omega), cond_true, q3, Ri (by omega)]
theorem Oz (hc : Bn cmp lt P) {a b : Nat} {d : Array Aa} (hab : a <= b) (hb : b <= d.size) (hd : A7 P d) : Au d.toList (a : Int) (b : Int) cmp = some (insertionSort lt d a b).toList := by
 have hsz := hd.1
 unfold Au insertionSort
 rw [Ri (by omega)]
 exact Kt hc _ (a + 1) d rfl hb hd
theorem Qk (hc : Bn cmp lt P) {first root c : Nat} {d : Array Aa} (h1 : first + root < d.size) (h2 : first + c < d.size) (hd : A7 P d) :
  As.j3 (first : Int) cmp (root : Int) d.toList (c : Int) = some (bif lt d[first + root]! d[first + c]! then .next ((c : Int), (Sort.swp d (first + root) (first + c)).toList) else .done d.toList) := by
 have hsz := hd.1
 have w1 : W ((first : Int) + (root : Int)) = ((first + root : Nat) : Int) := by rw [Es (by omega)]; omega
 have w2 : W ((first : Int) + (c : Int)) = ((first + c : Nat) : Int) := by rw [Es (by omega)]; omega
 obtain ⟨n, n1, n2⟩ := F8 hc hd h1 h2
 unfold As.j3
 rw [w1, w2, Cq h1 rfl, Option.bind_some, Cq h2 rfl, Option.bind_some, n1, Option.bind_some, n2]
 cases lt d[first + root]! d[first + c]! with
 | false => rfl
 | true =>
  obtain ⟨y, hy⟩ := Gu (d := d) (x := d[first + c]!) (j := (((first + root : Nat) : Int)).toNat) h2 rfl
  rw [show (!true) = false from rfl, cond_false, hy, Option.bind_some, cond_true]
  have e1 : (((first + root : Nat) : Int)).toNat = first + root := by omega
  have e2 : (((first + c : Nat) : Int)).toNat = first + c := by omega
  rw [e1, e2, Gv]
theorem Nk (hc : Bn cmp lt P) {hi first : Nat} : ∀ (n root : Nat) (d : Array Aa), hi - root <= n -> root <= 1000000000 -> first + hi <= d.size -> A7 P d ->
  A7 P (siftDown lt hi first root d) /\ (siftDown lt hi first root d).size = d.size /\ C2 (fun q' => As.l1 (hi : Int) (first : Int) cmp q'.1 q'.2) ((root : Int), d.toList) = some (siftDown lt hi first root d).toList := by
 intro n
 induction n with
 | zero =>
  intro root d hn hr hh hd
  have hsz := hd.1
  unfold siftDown
  rw [dif_pos (by omega)]
  refine ⟨hd, rfl, Ey (x := some d.toList) ?_⟩
  show As.l1 (hi : Int) (first : Int) cmp (root : Int) d.toList = _
  unfold As.l1
  rw [Es (x := 2 * (root : Int)) (by omega), Es (by omega), decide_eq_true (by omega)]
  rfl
 | succ n ih =>
  intro root d hn hr hh hd
  have hsz := hd.1
  have w0 : W (2 * (root : Int)) = ((2 * root : Nat) : Int) := by rw [Es (by omega)]; omega
  have w1 : W (((2 * root : Nat) : Int) + 1) = ((2 * root + 1 : Nat) : Int) := by rw [Es (by omega)]; omega
  have w2 : W (((2 * root + 1 : Nat) : Int) + 1) = ((2 * root + 2 : Nat) : Int) := by rw [Es (by omega)]; omega
  by_cases hend : 2 * root + 1 >= hi
  ·unfold siftDown
   rw [dif_pos hend]
   refine ⟨hd, rfl, Ey (x := some d.toList) ?_⟩
   show As.l1 (hi : Int) (first : Int) cmp (root : Int) d.toList = _
   unfold As.l1
   rw [w0, w1, decide_eq_true (by omega)]
   rfl
  ·have step : ∀ c : Nat, c < hi -> root < c -> ∀ (b : Bool) (r : Array Aa), (lt d[first + root]! d[first + c]! = b) -> r = (bif b then siftDown lt hi first c (Sort.swp d (first + root) (first + c)) else d) ->
     (As.l1 (hi : Int) (first : Int) cmp (root : Int) d.toList = As.j3 (first : Int) cmp (root : Int) d.toList (c : Int)) ->
     A7 P r /\ r.size = d.size /\ C2 (fun q' => As.l1 (hi : Int) (first : Int) cmp q'.1 q'.2) ((root : Int), d.toList) = some r.toList := fun c hc1 hc2 b r hb hrr hl => by
    have hj := Qk hc (first := first) (root := root) (c := c) (d := d) (by omega) (by omega) hd
    rw [hb] at hj
    cases b with
    | false =>
     rw [cond_false] at hrr
     rw [hrr]
     refine ⟨hd, rfl, gW ?_⟩
     exact (by rw [hl, hj]; rfl : As.l1 (hi : Int) (first : Int) cmp (root : Int) d.toList = some (.done d.toList))
    | true =>
     rw [cond_true] at hrr
     rw [hrr]
     obtain ⟨q1, q2, q3⟩ := ih c (Sort.swp d (first + root) (first + c)) (by omega) (by omega) (by rw [Ca]; exact hh) (hd.swp (by omega) (by omega))
     refine ⟨q1, by rw [q2, Ca], ?_⟩
     have hb' : As.l1 (hi : Int) (first : Int) cmp (root : Int) d.toList = some (.next ((c : Int), (Sort.swp d (first + root) (first + c)).toList)) := by rw [hl, hj]; rfl
     exact (Fv (body := fun q' => As.l1 (hi : Int) (first : Int) cmp q'.1 q'.2) (s := ((root : Int), d.toList)) hb').trans q3
   unfold siftDown
   rw [dif_neg hend]
   have hl : ∀ b : Bool, (decide (2 * root + 1 + 1 < hi) && lt d[first + (2 * root + 1)]! d[first + (2 * root + 1) + 1]!) = b -> As.l1 (hi : Int) (first : Int) cmp (root : Int) d.toList = As.j3 (first : Int) cmp (root : Int) d.toList (bif b then ((2 * root + 2 : Nat) : Int) else ((2 * root + 1 : Nat) : Int)) := fun b hb => by
    unfold As.l1
    rw [w0, w1, w2, decide_eq_false (by omega), cond_false]
    by_cases h2 : 2 * root + 2 < hi
    ·have a2 : first + (2 * root + 1) + 1 < d.size := by clear w0 w1 w2; omega
     have a1 : first + (2 * root + 1) < d.size := by clear w0 w1 w2; omega
     have a3 : decide (2 * root + 1 + 1 < hi) = true := decide_eq_true h2
     have a4 : decide (((2 * root + 2 : Nat) : Int) < (hi : Int)) = true := decide_eq_true (by clear w0 w1 w2; omega)
     have v1 : W ((first : Int) + ((2 * root + 1 : Nat) : Int)) = ((first + (2 * root + 1) : Nat) : Int) := by rw [Es (by omega)]; omega
     have v2 : W (((first + (2 * root + 1) : Nat) : Int) + 1) = ((first + (2 * root + 1) + 1 : Nat) : Int) := by rw [Es (by omega)]; omega
     obtain ⟨m, m1, m2⟩ := F8 hc hd (i := first + (2 * root + 1)) (j := first + (2 * root + 1) + 1) a1 a2
     rw [a4, cond_true, v1, v2, Cq (i := first + (2 * root + 1)) a1 rfl, Option.bind_some, Cq (i := first + (2 * root + 1) + 1) a2 rfl, Option.bind_some, m1, Option.bind_some, m2]
     rw [a3, Bool.true_and] at hb
     rw [hb]
     unfold As.j2
     rw [w0, w1, w2]
     cases b with
     | true => rw [cond_true, cond_true]
     | false => rw [cond_false, cond_false]
    ·rw [decide_eq_false (by omega), cond_false]
     rw [decide_eq_false (by omega), Bool.false_and] at hb
     subst hb
     unfold As.j2
     rw [w0, w1, cond_false, cond_false]
   cases hb : (decide (2 * root + 1 + 1 < hi) && lt d[first + (2 * root + 1)]! d[first + (2 * root + 1) + 1]!) with
   | true =>
    rw [if_pos rfl]
    have h2 : 2 * root + 2 < hi := by
     rw [Bool.and_eq_true] at hb
     have := of_decide_eq_true hb.1
     omega
    refine step (2 * root + 2) h2 (by omega) _ _ rfl ?_ (hl true hb)
    cases lt d[first + root]! d[first + (2 * root + 2)]! with
    | false => rfl
    | true => rw [show (!true) = false from rfl, if_neg (by simp), dif_pos h2]; rfl
   | false =>
    rw [if_neg (by simp)]
    refine step (2 * root + 1) (by omega) (by omega) _ _ rfl ?_ (hl false hb)
    cases lt d[first + root]! d[first + (2 * root + 1)]! with
    | false => rfl
    | true => rfl
theorem Ke (hc : Bn cmp lt P) {a b : Nat} : ∀ (k : Nat) (d : Array Aa), a + (b - a) <= d.size -> a <= b -> k <= 1000000000 -> A7 P d ->
  A7 P (heapBuild lt (b - a) a k d) /\ (heapBuild lt (b - a) a k d).size = d.size /\ C2 (fun q' => A6.l1 (a : Int) (b : Int) cmp q'.1 q'.2) ((k : Int) - 1, d.toList) = C2 (fun q' => A6.l1 (a : Int) (b : Int) cmp q'.1 q'.2) (-1, (heapBuild lt (b - a) a k d).toList)
 | 0, d, h1, hab, hk, hd => ⟨hd, rfl, rfl⟩
 | k + 1, d, h1, hab, hk, hd => by
  have hsz := hd.1
  obtain ⟨q1, q2, q3⟩ := Nk hc (hi := b - a) (first := a) _ k d (Nat.le_refl _) (by omega) h1 hd
  obtain ⟨r1, r2, r3⟩ := Ke hc (a := a) (b := b) k (siftDown lt (b - a) a k d) (by rw [q2]; exact h1) hab (by omega) q1
  refine ⟨r1, by show (heapBuild lt (b - a) a k _).size = _; rw [r2, q2], ?_⟩
  rw [Fv (s' := ((k : Int) - 1, (siftDown lt (b - a) a k d).toList)) ?_]
  ·exact r3
  ·show A6.l1 (a : Int) (b : Int) cmp (((k + 1 : Nat) : Int) - 1) d.toList = _
   have e0 : ((k + 1 : Nat) : Int) - 1 = (k : Int) := by omega
   have e1 : W ((b : Int) - (a : Int)) = ((b - a : Nat) : Int) := by rw [Es (by omega)]; omega
   unfold A6.l1
   rw [e0, decide_eq_true (by omega), cond_true, e1]
   have e2 : As d.toList (k : Int) ((b - a : Nat) : Int) (a : Int) cmp = some (siftDown lt (b - a) a k d).toList := q3
   rw [e2, Option.bind_some, Es (by omega)]
theorem Lf (hc : Bn cmp lt P) {a : Nat} : ∀ (k : Nat) (d : Array Aa), a + k <= d.size -> A7 P d ->
  C2 (fun q' => A6.l2 (a : Int) cmp q'.1 q'.2) ((k : Int) - 1, d.toList) = some (heapPop lt a k d).toList
 | 0, d, h1, hd => Ey (x := some d.toList) (by
   show A6.l2 (a : Int) cmp (((0 : Nat) : Int) - 1) d.toList = _
   unfold A6.l2
   rw [decide_eq_false (by omega)]
   rfl)
 | k + 1, d, h1, hd => by
  have hsz := hd.1
  obtain ⟨q1, q2, q3⟩ := Nk hc (hi := k) (first := a) k 0 (Sort.swp d a (a + k)) (by omega) (by omega) (by rw [Ca]; omega) (hd.swp (by omega) (by omega))
  rw [Fv (s' := ((k : Int) - 1, (siftDown lt k a 0 (Sort.swp d a (a + k))).toList)) ?_]
  ·exact Lf hc k _ (by rw [q2, Ca]; omega) q1
  ·show A6.l2 (a : Int) cmp (((k + 1 : Nat) : Int) - 1) d.toList = _
   have e0 : ((k + 1 : Nat) : Int) - 1 = (k : Int) := by omega
   have e1 : W ((a : Int) + (k : Int)) = ((a + k : Nat) : Int) := by rw [Es (by omega)]; omega
   obtain ⟨y, hy⟩ := Gu (d := d) (x := d[a + k]!) (j := ((a : Int)).toNat) (i := a + k) (by omega) rfl
   unfold A6.l2
   rw [e0, decide_eq_true (by omega), cond_true, e1, Cq (i := a + k) (by omega) rfl, Option.bind_some, Cq (i := a) (by omega) rfl, Option.bind_some, hy, Option.bind_some]
   have e2 : ((a : Int)).toNat = a := by omega
   have e3 : (((a + k : Nat) : Int)).toNat = a + k := by omega
   rw [e2, e3, Gv]
   have e4 : As (Sort.swp d a (a + k)).toList 0 (k : Int) (a : Int) cmp = some (siftDown lt k a 0 (Sort.swp d a (a + k))).toList := q3
   rw [e4, Option.bind_some, Es (by omega)]
theorem S2 (hc : Bn cmp lt P) {a b : Nat} {d : Array Aa} (hab : a < b) (hb : b <= d.size) (hd : A7 P d) : A6 d.toList (a : Int) (b : Int) cmp = some (heapSort lt d a b).toList := by
 have hsz := hd.1
 have e1 : W ((b : Int) - (a : Int)) = ((b - a : Nat) : Int) := by rw [Es (by omega)]; omega
 have e2 : W (((b - a : Nat) : Int) - 1) = ((b - a - 1 : Nat) : Int) := by rw [Es (by omega)]; omega
 obtain ⟨r1, r2, r3⟩ := Ke hc (a := a) (b := b) ((b - a - 1) / 2 + 1) d (by omega) (by omega) (by omega) hd
 unfold A6 heapSort
 rw [e1, e2]
 have eq : Mb ((b - a - 1 : Nat) : Int) 2 = some (((b - a - 1) / 2 : Nat) : Int) := by
  unfold Mb
  rw [if_neg (by omega), Es]
  ·congr 1
  ·have : ((b - a - 1 : Nat) : Int).tdiv 2 = (((b - a - 1) / 2 : Nat) : Int) := rfl
   rw [this]
   omega
 rw [eq, Option.bind_some]
 have e0 : (((b - a - 1) / 2 : Nat) : Int) = (((b - a - 1) / 2 + 1 : Nat) : Int) - 1 := by omega
 rw [e0, r3]
 refine Ey (x := some (heapPop lt a (b - a) (heapBuild lt (b - a) a ((b - a - 1) / 2 + 1) d)).toList) ?_
 show A6.l1 (a : Int) (b : Int) cmp (-1) _ = _
 unfold A6.l1
 rw [decide_eq_false (by omega), cond_false, e1]
 have e3 : W (((b - a : Nat) : Int) - 1) = ((b - a : Nat) : Int) - 1 := Es (by omega)
 rw [e3, Lf hc (b - a) _ (by rw [r2]; omega) r1]
end
end
section
open Go Go.Sort
section
variable {cmp : Aa -> Aa -> Option Int} {lt : Aa -> Aa -> Bool} {P : Aa -> Prop}
theorem Fj {d : Array Aa} {i j : Nat} (hi : i < d.size) (hj : j < d.size) {ki kj : Int} (eki : ki = (i : Int)) (ekj : kj = (j : Int)) {γ : Type} (F : List Aa -> Option γ) :
  ((Cb d.toList kj).bind fun e => (Cb d.toList ki).bind fun e2 => (Cb (De d.toList ki.toNat e) kj).bind fun _ => F (De (De d.toList ki.toNat e) kj.toNat e2)) = F (Sort.swp d i j).toList := by
 subst eki ekj
 obtain ⟨y, hy⟩ := Gu (d := d) (x := d[j]!) (j := ((i : Int)).toNat) (i := j) hj rfl
 rw [Cq hj rfl, Option.bind_some, Cq hi rfl, Option.bind_some, hy, Option.bind_some, Int.toNat_natCast, Int.toNat_natCast, Gv]
theorem Gf (hc : Bn cmp lt P) {d : Array Aa} (h : A7 P d) {i j : Nat} (hi : i < d.size) (hj : j < d.size) {ki kj : Int} (eki : ki = (i : Int)) (ekj : kj = (j : Int)) {γ : Type} (F : Bool -> Option γ) :
  ((Cb d.toList ki).bind fun e => (Cb d.toList kj).bind fun e2 => (cmp e e2).bind fun y => F (decide (y < 0))) = F (lt d[i]! d[j]!) := by
 subst eki ekj
 obtain ⟨n, h1, h2⟩ := F8 hc h hi hj
 rw [Cq hi rfl, Option.bind_some, Cq hj rfl, Option.bind_some, h1, Option.bind_some, h2]
theorem Qj (hc : Bn cmp lt P) {L0 : List Aa} {e e2 : Aa} {D : Array Aa} {a b pivot : Nat} (hD : De (De L0 ((a : Int)).toNat e) ((pivot : Int)).toNat e2 = D.toList) (hA : A7 P D) (ha : a < b) (hb : b <= D.size) :
  C2 (fun q' => Ai.l1 L0 (a : Int) (b : Int) (pivot : Int) cmp e e2 q') (W ((a : Int) + 1)) = C2 (fun q' => Ai.l3 L0 (a : Int) (pivot : Int) cmp e e2 ((scanUp (fun x => lt x D[a]!) D (b - 1) (a + 1) : Nat) : Int) q') (((b - 1 : Nat) : Int)) := by
 have hsz := hA.1
 rw [Wp (by omega)]
 refine cH (p := fun x => lt x D[a]!) (D := D) (i0 := a + 1) (j := b - 1) (J := fun i x => Ai.j2 L0 (a : Int) (b : Int) (pivot : Int) cmp e e2 (i : Int) x) (K := fun i => C2 (fun q' => Ai.l3 L0 (a : Int) (pivot : Int) cmp e e2 (i : Int) q') (((b - 1 : Nat) : Int))) (by omega) (fun i h1 h2 => ?_) (fun i => rfl) (fun i _ _ => ?_) _ (a + 1) rfl (Nat.le_refl _) (by omega)
 ·unfold Ai.l1
  rw [hD, Wm (by omega) (by omega)]
  by_cases h : i <= b - 1
  ·rw [decide_eq_true (by omega), cond_true, decide_eq_true h, Bool.true_and]
   exact Gf hc hA (i := i) (j := a) (by omega) (by omega) rfl rfl (F := fun x => Ai.j2 L0 (a : Int) (b : Int) (pivot : Int) cmp e e2 (i : Int) x)
  ·rw [decide_eq_false (by omega), cond_false, decide_eq_false h, Bool.false_and]
 ·unfold Ai.j2
  rw [Wm (by omega) (by omega)]
  rfl
theorem Qf (hc : Bn cmp lt P) {L0 : List Aa} {e e2 : Aa} {D : Array Aa} {a b i pivot : Nat} (hD : De (De L0 ((a : Int)).toNat e) ((pivot : Int)).toNat e2 = D.toList) (hA : A7 P D) (ha : a < i) (hi : i <= b) (hb : b <= D.size) :
  C2 (fun q' => Ai.l3 L0 (a : Int) (pivot : Int) cmp e e2 (i : Int) q') (((b - 1 : Nat) : Int)) = (fun j => if j < i then some ((j : Int), true, (Sort.swp D j a).toList) else
   C2 (fun q' => Ai.l5 (a : Int) cmp q'.1 q'.2.1 q'.2.2) (((i + 1 : Nat) : Int), ((j - 1 : Nat) : Int), (Sort.swp D i j).toList)) (scanDown (fun x => !lt x D[a]!) D i (b - 1)) := by
 have hsz := hA.1
 refine Zh (p := fun x => !lt x D[a]!) (D := D) (i := i) (j0 := b - 1) (J := fun j x => Ai.j4 L0 (a : Int) (pivot : Int) cmp e e2 (i : Int) (j : Int) x) (K := fun j : Nat => if j < i then some ((j : Int), true, (Sort.swp D j a).toList) else
   C2 (fun q' => Ai.l5 (a : Int) cmp q'.1 q'.2.1 q'.2.2) (((i + 1 : Nat) : Int), ((j - 1 : Nat) : Int), (Sort.swp D i j).toList)) (by omega) (by omega) (fun j h1 h2 => ?_) (fun i => rfl) (fun j h1 h2 => ?_) (b - 1) (by omega) (Nat.le_refl _)
 ·unfold Ai.l3
  rw [hD]
  by_cases h : i <= j
  ·rw [decide_eq_true (by omega), cond_true, decide_eq_true h, Bool.true_and]
   exact Gf hc hA (i := j) (j := a) (by omega) (by omega) rfl rfl (F := fun x => Ai.j4 L0 (a : Int) (pivot : Int) cmp e e2 (i : Int) (j : Int) (!x))
  ·rw [decide_eq_false (by omega), cond_false, decide_eq_false h, Bool.false_and]
 ·unfold Ai.j4
  rw [hD, cond_false]
  congr 1
  by_cases h : j < i
  ·rw [decide_eq_true (by omega), cond_true, if_pos h]
   exact Fj (i := j) (j := a) (by omega) (by omega) rfl rfl (fun l => some ((j : Int), true, l))
  ·rw [decide_eq_false (by omega), cond_false, if_neg h, Wp (by omega), Wm (by omega) (by omega)]
   exact Fj (i := i) (j := j) (by omega) (by omega) rfl rfl (fun l => C2 (fun q' => Ai.l5 (a : Int) cmp q'.1 q'.2.1 q'.2.2) (((i + 1 : Nat) : Int), ((j - 1 : Nat) : Int), l))
theorem K8 (hc : Bn cmp lt P) {D : Array Aa} {a i j : Nat} (hA : A7 P D) (ha : a < i) (hi : i <= j + 1) (hj : j < D.size) :
  Ai.l5 (a : Int) cmp (i : Int) (j : Int) D.toList = (fun i' j' : Nat => if j' < i' then up (some ((j' : Int), false, (Sort.swp D j' a).toList)) else some (.next (((i' + 1 : Nat) : Int), ((j' - 1 : Nat) : Int), (Sort.swp D i' j').toList))) (scanUp (fun x => lt x D[a]!) D j i) (scanDown (fun x => !lt x D[a]!) D (scanUp (fun x => lt x D[a]!) D j i) j) := by
 have hsz := hA.1
 have hu := scanUp_spec (fun x => lt x D[a]!) D j _ i rfl
 unfold Ai.l5
 refine (cH (p := fun x => lt x D[a]!) (D := D) (i0 := i) (j := j) (J := fun i x => Ai.j7 (a : Int) cmp (j : Int) D.toList (i : Int) x) (K := fun i => C2 (fun q' => Ai.l8 (a : Int) cmp D.toList (i : Int) q') (j : Int)) (by omega) (fun i' h1 h2 => ?_) (fun i => rfl) (fun i' h1 h2 => rfl) _ i rfl (Nat.le_refl _) (by omega)).trans ?_
 ·unfold Ai.l6
  by_cases h : i' <= j
  ·rw [decide_eq_true (by omega), cond_true, decide_eq_true h, Bool.true_and]
   exact Gf hc hA (i := i') (j := a) (by omega) (by omega) rfl rfl (F := fun x => Ai.j7 (a : Int) cmp (j : Int) D.toList (i' : Int) x)
  ·rw [decide_eq_false (by omega), cond_false, decide_eq_false h, Bool.false_and]
 ·generalize scanUp (fun x => lt x D[a]!) D j i = i2 at hu ⊢
  have h1 := hu.1
  have h2 := hu.2.1 hi
  refine Zh (p := fun x => !lt x D[a]!) (D := D) (i := i2) (j0 := j) (J := fun j x => Ai.j9 (a : Int) D.toList (i2 : Int) (j : Int) x) (K := fun j' : Nat => if j' < i2 then up (some ((j' : Int), false, (Sort.swp D j' a).toList)) else some (.next (((i2 + 1 : Nat) : Int), ((j' - 1 : Nat) : Int), (Sort.swp D i2 j').toList))) (by omega) (by omega) (fun j' h3 h4 => ?_) (fun j' => rfl) (fun j' h3 h4 => ?_) j (by omega) (Nat.le_refl _)
  ·unfold Ai.l8
   by_cases h : i2 <= j'
   ·rw [decide_eq_true (by omega), cond_true, decide_eq_true h, Bool.true_and]
    exact Gf hc hA (i := j') (j := a) (by omega) (by omega) rfl rfl (F := fun x => Ai.j9 (a : Int) D.toList (i2 : Int) (j' : Int) (!x))
   ·rw [decide_eq_false (by omega), cond_false, decide_eq_false h, Bool.false_and]
  ·unfold Ai.j9
   rw [cond_false]
   congr 1
   by_cases h : j' < i2
   ·rw [decide_eq_true (by omega), cond_true, if_pos h]
    congr 1
    exact Fj (i := j') (j := a) (by omega) (by omega) rfl rfl (fun l => some ((j' : Int), false, l))
   ·rw [decide_eq_false (by omega), cond_false, if_neg h, Wp (by omega), Wm (by omega) (by omega)]
    exact Fj (i := i2) (j := j') (by omega) (by omega) rfl rfl (fun l => some (Lp.next (((i2 + 1 : Nat) : Int), ((j' - 1 : Nat) : Int), l)))
theorem Oo (hc : Bn cmp lt P) {a : Nat} : ∀ (n i j : Nat) (D : Array Aa), j + 1 - i <= n -> a < i -> i <= j + 1 -> j < D.size -> A7 P D ->
  A7 P (partLoop lt a i j D).2 /\ (partLoop lt a i j D).2.size = D.size /\ (partLoop lt a i j D).1 < D.size /\
  C2 (fun q' => Ai.l5 (a : Int) cmp q'.1 q'.2.1 q'.2.2) ((i : Int), (j : Int), D.toList) = some (((partLoop lt a i j D).1 : Int), false, (Sort.swp (partLoop lt a i j D).2 (partLoop lt a i j D).1 a).toList) := by
 intro n
 induction n with
 | zero =>
  intro i j D hn ha hi hj hA
  have hr := K8 hc hA ha hi hj
  have hu := scanUp_spec (fun x => lt x D[a]!) D j _ i rfl
  rw [partLoop_eq]
  generalize scanUp (fun x => lt x D[a]!) D j i = i2 at hu hr ⊢
  have hd := scanDown_spec (fun x => !lt x D[a]!) D i2 j
  generalize scanDown (fun x => !lt x D[a]!) D i2 j = j2 at hd hr ⊢
  have h1 := hu.1
  have h2 := hd.1
  rw [if_pos (show i2 > j2 by omega)]
  refine ⟨hA, rfl, show j2 < D.size by omega, Ey (hr.trans ?_)⟩
  exact if_pos (show j2 < i2 by omega)
 | succ n ih =>
  intro i j D hn ha hi hj hA
  have hr := K8 hc hA ha hi hj
  have hu := scanUp_spec (fun x => lt x D[a]!) D j _ i rfl
  rw [partLoop_eq]
  generalize scanUp (fun x => lt x D[a]!) D j i = i2 at hu hr ⊢
  have hd := scanDown_spec (fun x => !lt x D[a]!) D i2 j
  generalize scanDown (fun x => !lt x D[a]!) D i2 j = j2 at hd hr ⊢
  have h1 := hu.1
  have h2 := hd.1
  by_cases h : i2 > j2
  ·rw [if_pos h]
   refine ⟨hA, rfl, show j2 < D.size by omega, Ey (hr.trans ?_)⟩
   exact if_pos (show j2 < i2 by omega)
  ·rw [if_neg h]
   have hne : i2 ≠ j2 := fun e => by
    have u4 := hu.2.2.2 (by omega)
    have d4 := hd.2.2.2 (by omega) (by omega)
    rw [e] at u4
    rw [u4] at d4
    cases d4
   obtain ⟨q1, q2, q3, q4⟩ := ih (i2 + 1) (j2 - 1) (Sort.swp D i2 j2) (by omega) (by omega) (by omega) (by rw [Ca]; omega) (hA.swp (by omega) (by omega))
   rw [Ca] at q2 q3
   refine ⟨q1, q2, q3, (Fv (hr.trans (if_neg (show ¬ j2 < i2 by omega)))).trans q4⟩
theorem Sl (hc : Bn cmp lt P) {a b pivot : Nat} {d : Array Aa} (hab : a < b) (hp1 : a <= pivot) (hp2 : pivot < b) (hb : b <= d.size) (hd : A7 P d) :
  Ai d.toList (a : Int) (b : Int) (pivot : Int) cmp = some (((partition lt d a b pivot).1 : Int), (partition lt d a b pivot).2.1, (partition lt d a b pivot).2.2.toList) := by
 have hsz := hd.1
 have hA : A7 P (Sort.swp d a pivot) := hd.swp (by omega) (by omega)
 have hs := Ca d a pivot
 have hD : De (De d.toList ((a : Int)).toNat d[pivot]!) ((pivot : Int)).toNat d[a]! = (Sort.swp d a pivot).toList := by
  rw [Int.toNat_natCast, Int.toNat_natCast, Gv]
 obtain ⟨y, hy⟩ := Gu (d := d) (x := d[pivot]!) (j := ((a : Int)).toNat) (i := pivot) (by omega) rfl
 unfold Ai partition
 rw [Cq (i := pivot) (by omega) rfl, Option.bind_some, Cq (i := a) (by omega) rfl, Option.bind_some, hy, Option.bind_some, Qj hc hD hA hab (by omega)]
 simp only []
 generalize Sort.swp d a pivot = D at hA hs hD ⊢
 have hu := scanUp_spec (fun x => lt x D[a]!) D (b - 1) _ (a + 1) rfl
 generalize scanUp (fun x => lt x D[a]!) D (b - 1) (a + 1) = i2 at hu ⊢
 have h1 := hu.1
 have h2 := hu.2.1 (by omega)
 rw [Qf hc hD hA (b := b) (i := i2) (by omega) (by omega) (by omega)]
 have hdn := scanDown_spec (fun x => !lt x D[a]!) D i2 (b - 1)
 generalize scanDown (fun x => !lt x D[a]!) D i2 (b - 1) = j2 at hdn ⊢
 have h3 := hdn.1
 by_cases h : i2 > j2
 ·rw [if_pos h]
  exact if_pos (show j2 < i2 by omega)
 ·rw [if_neg h]
  have hne : i2 ≠ j2 := fun e => by
   have u4 := hu.2.2.2 (by omega)
   have d4 := hdn.2.2.2 (by omega) (by omega)
   rw [e] at u4
   rw [u4] at d4
   cases d4
  refine (if_neg (show ¬ j2 < i2 by omega)).trans ?_
  exact (Oo hc _ (i2 + 1) (j2 - 1) (Sort.swp D i2 j2) (Nat.le_refl _) (by omega) (by omega) (by rw [Ca]; omega) (hA.swp (by omega) (by omega))).2.2.2
end
end
section
open Go Go.Sort
section
variable {cmp : Aa -> Aa -> Option Int} {lt : Aa -> Aa -> Bool} {P : Aa -> Prop}
theorem Lq (hc : Bn cmp lt P) {D : Array Aa} {a i j : Nat} (hA : A7 P D) (ha : a < i) (hi : i <= j + 1) (hj : j < D.size) :
  Ap.l1 (a : Int) cmp (i : Int) (j : Int) D.toList = (fun i' j' : Nat => if j' < i' then up (some ((i' : Int), D.toList)) else some (.next (((i' + 1 : Nat) : Int), ((j' - 1 : Nat) : Int), (Sort.swp D i' j').toList))) (scanUp (fun x => !lt D[a]! x) D j i) (scanDown (fun x => lt D[a]! x) D (scanUp (fun x => !lt D[a]! x) D j i) j) := by
 have hsz := hA.1
 have hu := scanUp_spec (fun x => !lt D[a]! x) D j _ i rfl
 unfold Ap.l1
 refine (cH (p := fun x => !lt D[a]! x) (D := D) (i0 := i) (j := j) (J := fun i x => Ap.j3 (a : Int) cmp (j : Int) D.toList (i : Int) x) (K := fun i => C2 (fun q' => Ap.l4 (a : Int) cmp D.toList (i : Int) q') (j : Int)) (by omega) (fun i' h1 h2 => ?_) (fun i => rfl) (fun i' h1 h2 => rfl) _ i rfl (Nat.le_refl _) (by omega)).trans ?_
 ·unfold Ap.l2
  by_cases h : i' <= j
  ·rw [decide_eq_true (by omega), cond_true, decide_eq_true h, Bool.true_and]
   exact Gf hc hA (i := a) (j := i') (by omega) (by omega) rfl rfl (F := fun x => Ap.j3 (a : Int) cmp (j : Int) D.toList (i' : Int) (!x))
  ·rw [decide_eq_false (by omega), cond_false, decide_eq_false h, Bool.false_and]
 ·generalize scanUp (fun x => !lt D[a]! x) D j i = i2 at hu ⊢
  have h1 := hu.1
  have h2 := hu.2.1 hi
  refine Zh (p := fun x => lt D[a]! x) (D := D) (i := i2) (j0 := j) (J := fun j x => Ap.j5 D.toList (i2 : Int) (j : Int) x) (K := fun j' : Nat => if j' < i2 then up (some ((i2 : Int), D.toList)) else some (.next (((i2 + 1 : Nat) : Int), ((j' - 1 : Nat) : Int), (Sort.swp D i2 j').toList))) (by omega) (by omega) (fun j' h3 h4 => ?_) (fun j' => rfl) (fun j' h3 h4 => ?_) j (by omega) (Nat.le_refl _)
  ·unfold Ap.l4
   by_cases h : i2 <= j'
   ·rw [decide_eq_true (by omega), cond_true, decide_eq_true h, Bool.true_and]
    exact Gf hc hA (i := a) (j := j') (by omega) (by omega) rfl rfl (F := fun x => Ap.j5 D.toList (i2 : Int) (j' : Int) x)
   ·rw [decide_eq_false (by omega), cond_false, decide_eq_false h, Bool.false_and]
  ·unfold Ap.j5
   rw [cond_false]
   congr 1
   by_cases h : j' < i2
   ·rw [decide_eq_true (by omega), cond_true, if_pos h]
   ·rw [decide_eq_false (by omega), cond_false, if_neg h, Wp (by omega), Wm (by omega) (by omega)]
    exact Fj (i := i2) (j := j') (by omega) (by omega) rfl rfl (fun l => some (Lp.next (((i2 + 1 : Nat) : Int), ((j' - 1 : Nat) : Int), l)))
theorem Pu (hc : Bn cmp lt P) {a : Nat} : ∀ (n i j : Nat) (D : Array Aa), j + 1 - i <= n -> a < i -> i <= j + 1 -> j < D.size -> A7 P D ->
  C2 (fun q' => Ap.l1 (a : Int) cmp q'.1 q'.2.1 q'.2.2) ((i : Int), (j : Int), D.toList) = some (((partEqLoop lt a i j D).1 : Int), (partEqLoop lt a i j D).2.toList) := by
 intro n
 induction n with
 | zero =>
  intro i j D hn ha hi hj hA
  have hr := Lq hc hA ha hi hj
  have hu := scanUp_spec (fun x => !lt D[a]! x) D j _ i rfl
  rw [partEqLoop_eq]
  generalize scanUp (fun x => !lt D[a]! x) D j i = i2 at hu hr ⊢
  have hd := scanDown_spec (fun x => lt D[a]! x) D i2 j
  generalize scanDown (fun x => lt D[a]! x) D i2 j = j2 at hd hr ⊢
  have h1 := hu.1
  have h2 := hd.1
  rw [if_pos (show i2 > j2 by omega)]
  refine Ey (hr.trans ?_)
  exact if_pos (show j2 < i2 by omega)
 | succ n ih =>
  intro i j D hn ha hi hj hA
  have hr := Lq hc hA ha hi hj
  have hu := scanUp_spec (fun x => !lt D[a]! x) D j _ i rfl
  rw [partEqLoop_eq]
  generalize scanUp (fun x => !lt D[a]! x) D j i = i2 at hu hr ⊢
  have hd := scanDown_spec (fun x => lt D[a]! x) D i2 j
  generalize scanDown (fun x => lt D[a]! x) D i2 j = j2 at hd hr ⊢
  have h1 := hu.1
  have h2 := hd.1
  by_cases h : i2 > j2
  ·rw [if_pos h]
   refine Ey (hr.trans ?_)
   exact if_pos (show j2 < i2 by omega)
  ·rw [if_neg h]
   have hne : i2 ≠ j2 := fun e => by
    have u4 := hu.2.2.2 (by omega)
    have d4 := hd.2.2.2 (by omega) (by omega)
    rw [e] at u4
    rw [d4] at u4
    cases u4
   exact (Fv (hr.trans (if_neg (show ¬ j2 < i2 by omega)))).trans (ih (i2 + 1) (j2 - 1) (Sort.swp D i2 j2) (by omega) (by omega) (by omega) (by rw [Ca]; omega) (hA.swp (by omega) (by omega)))
theorem Tj (hc : Bn cmp lt P) {a b pivot : Nat} {d : Array Aa} (hab : a < b) (hp1 : a <= pivot) (hp2 : pivot < b) (hb : b <= d.size) (hd : A7 P d) :
  Ap d.toList (a : Int) (b : Int) (pivot : Int) cmp = some (((partitionEqual lt d a b pivot).1 : Int), (partitionEqual lt d a b pivot).2.toList) := by
 have hsz := hd.1
 unfold Ap partitionEqual
 rw [Wp (by omega), Wm (by omega) (by omega)]
 refine (Fj (i := a) (j := pivot) (by omega) (by omega) rfl rfl (fun l => C2 (fun q' => Ap.l1 (a : Int) cmp q'.1 q'.2.1 q'.2.2) (((a + 1 : Nat) : Int), ((b - 1 : Nat) : Int), l))).trans ?_
 exact Pu hc _ (a + 1) (b - 1) (Sort.swp d a pivot) (Nat.le_refl _) (by omega) (by omega) (by rw [Ca]; omega) (hd.swp (by omega) (by omega))
theorem Tx (hc : Bn cmp lt P) {b i2 : Nat} {j1 : Int} : ∀ (n j : Nat) (d : Array Aa), b - j = n -> 1 <= j -> b <= d.size -> A7 P d ->
  A7 P (shiftUp lt b j d) /\ (shiftUp lt b j d).size = d.size /\ C2 (fun q' => Ab.l6 (b : Int) cmp j1 (i2 : Int) q'.1 q'.2) ((j : Int), d.toList) = some (.next ((i2 : Int), W (j1 + 1), (shiftUp lt b j d).toList)) := by
 intro n
 induction n with
 | zero =>
  intro j d hn h1 hb hd
  rw [shiftUp, if_neg (by omega)]
  refine ⟨hd, rfl, Ey ?_⟩
  show Ab.l6 (b : Int) cmp j1 (i2 : Int) (j : Int) d.toList = _
  unfold Ab.l6
  rw [decide_eq_false (by omega), cond_false]
  rfl
 | succ n ih =>
  intro j d hn h1 hb hd
  have hsz := hd.1
  rw [shiftUp, if_pos (by omega)]
  obtain ⟨m, m1, m2⟩ := F8 hc hd (i := j) (j := j - 1) (by omega) (by omega)
  have hbody : Ab.l6 (b : Int) cmp j1 (i2 : Int) (j : Int) d.toList = bif lt d[j]! d[j - 1]! then some (.next (((j + 1 : Nat) : Int), (Sort.swp d j (j - 1)).toList)) else up (some (.next ((i2 : Int), W (j1 + 1), d.toList))) := by
   obtain ⟨y, hy⟩ := Gu (d := d) (x := d[j - 1]!) (j := ((j : Int)).toNat) (i := j - 1) (by omega) rfl
   unfold Ab.l6
   rw [decide_eq_true (by omega), cond_true, Wm (by omega) (by omega), Cq (i := j) (by omega) rfl, Option.bind_some, Cq (i := j - 1) (by omega) rfl, Option.bind_some, m1, Option.bind_some, m2, hy, Option.bind_some, Wp (by omega), Int.toNat_natCast, Int.toNat_natCast, Gv]
   cases lt d[j]! d[j - 1]! <;> rfl
  cases hl : lt d[j]! d[j - 1]! with
  | false =>
   rw [hl] at hbody
   rw [if_pos (by rfl)]
   exact ⟨hd, rfl, Ey hbody⟩
  | true =>
   rw [hl] at hbody
   rw [if_neg (by simp)]
   obtain ⟨q1, q2, q3⟩ := ih (j + 1) (Sort.swp d j (j - 1)) (by omega) (by omega) (by rw [Ca]; exact hb) (hd.swp (by omega) (by omega))
   exact ⟨q1, by rw [q2, Ca], (Fv hbody).trans q3⟩
theorem T7 (hc : Bn cmp lt P) {b i2 : Nat} {j1 : Int} {d : Array Aa} (h1 : 1 <= i2) (h2 : i2 < b) (hb : b <= d.size) (hd : A7 P d) :
  A7 P (if b - i2 >= 2 then shiftUp lt b (i2 + 1) d else d) /\ (if b - i2 >= 2 then shiftUp lt b (i2 + 1) d else d).size = d.size /\ Ab.j5 (b : Int) cmp j1 (i2 : Int) d.toList = some (.next ((i2 : Int), W (j1 + 1), (if b - i2 >= 2 then shiftUp lt b (i2 + 1) d else d).toList)) := by
 have hsz := hd.1
 unfold Ab.j5
 rw [Wd (by omega) (by omega)]
 by_cases h : b - i2 >= 2
 ·rw [decide_eq_true (by omega), cond_true, if_pos h, Wp (by omega)]
  exact Tx hc _ (i2 + 1) d rfl (by omega) hb hd
 ·rw [decide_eq_false (by omega), cond_false, if_neg h]
  exact ⟨hd, rfl, rfl⟩
theorem N3 (hc : Bn cmp lt P) {b i2 : Nat} {j1 : Int} : ∀ (j : Nat) (d : Array Aa), j < d.size -> A7 P d ->
  A7 P (shiftDown lt j d) /\ (shiftDown lt j d).size = d.size /\ C2 (fun q' => Ab.l4 (b : Int) cmp j1 (i2 : Int) q'.1 q'.2) ((j : Int), d.toList) = Ab.j5 (b : Int) cmp j1 (i2 : Int) (shiftDown lt j d).toList
 | 0, d, hj, hd => by
  refine ⟨hd, rfl, Ey ?_⟩
  show Ab.l4 (b : Int) cmp j1 (i2 : Int) ((0 : Nat) : Int) d.toList = _
  unfold Ab.l4
  rw [decide_eq_false (by omega), cond_false]
  rfl
 | j + 1, d, hj, hd => by
  have hsz := hd.1
  unfold shiftDown
  obtain ⟨m, m1, m2⟩ := F8 hc hd (i := j + 1) (j := j) (by omega) (by omega)
  have hbody : Ab.l4 (b : Int) cmp j1 (i2 : Int) ((j + 1 : Nat) : Int) d.toList = bif lt d[j + 1]! d[j]! then some (.next ((j : Int), (Sort.swp d (j + 1) j).toList)) else up (Ab.j5 (b : Int) cmp j1 (i2 : Int) d.toList) := by
   obtain ⟨y, hy⟩ := Gu (d := d) (x := d[j]!) (j := (((j + 1 : Nat) : Int)).toNat) (i := j) (by omega) rfl
   unfold Ab.l4
   have e : W (((j + 1 : Nat) : Int) - 1) = (j : Int) := Wm (n := j + 1) (by omega) (by omega)
   rw [decide_eq_true (by omega), cond_true, e, Cq (i := j + 1) (by omega) rfl, Option.bind_some, Cq (i := j) (by omega) rfl, Option.bind_some, m1, Option.bind_some, m2, hy, Option.bind_some, Int.toNat_natCast, Int.toNat_natCast, Gv]
   cases lt d[j + 1]! d[j]! <;> rfl
  cases hl : lt d[j + 1]! d[j]! with
  | false =>
   rw [hl] at hbody
   rw [if_pos (by rfl)]
   exact ⟨hd, rfl, Ey hbody⟩
  | true =>
   rw [hl] at hbody
   rw [if_neg (by simp)]
   obtain ⟨q1, q2, q3⟩ := N3 hc j (Sort.swp d (j + 1) j) (by rw [Ca]; omega) (hd.swp (by omega) (by omega))
   exact ⟨q1, by rw [q2, Ca], (Fv hbody).trans q3⟩
theorem Na (hc : Bn cmp lt P) {a b : Nat} : ∀ (s i : Nat) (d : Array Aa), s <= 5 -> a < i -> i <= b -> b <= d.size -> A7 P d ->
  C2 (fun q' => Ab.l1 (a : Int) (b : Int) cmp q'.1 q'.2.1 q'.2.2) ((i : Int), ((5 - s : Nat) : Int), d.toList) = some ((partialIns lt a b s i d).2, (partialIns lt a b s i d).1.toList)
 | 0, i, d, hs, ha, hi, hb, hd => by
  refine Ey ?_
  show Ab.l1 (a : Int) (b : Int) cmp (i : Int) ((5 - 0 : Nat) : Int) d.toList = _
  unfold Ab.l1
  rw [decide_eq_false (by omega), cond_false]
  rfl
 | s + 1, i, d, hs, ha, hi, hb, hd => by
  have hsz := hd.1
  have hle := X8 lt d b _ i rfl hi
  have hbody : Ab.l1 (a : Int) (b : Int) cmp (i : Int) ((5 - (s + 1) : Nat) : Int) d.toList =
    (fun i' : Nat => if i' = b then up (some (true, d.toList)) else if b - a < 50 then up (some (false, d.toList)) else
     bif decide (i' - a >= 2) then C2 (fun q' => Ab.l4 (b : Int) cmp ((5 - (s + 1) : Nat) : Int) (i' : Int) q'.1 q'.2) (((i' - 1 : Nat) : Int), (Sort.swp d i' (i' - 1)).toList)
     else Ab.j5 (b : Int) cmp ((5 - (s + 1) : Nat) : Int) (i' : Int) (Sort.swp d i' (i' - 1)).toList) (scanSorted lt d b i) := by
   unfold Ab.l1
   rw [decide_eq_true (by omega), cond_true]
   refine tQ (lt := lt) (D := d) (i0 := i) (b := b) (J := fun i x => Ab.j3 (a : Int) (b : Int) cmp ((5 - (s + 1) : Nat) : Int) d.toList (i : Int) x) (K := fun i' : Nat => if i' = b then up (some (true, d.toList)) else if b - a < 50 then up (some (false, d.toList)) else
     bif decide (i' - a >= 2) then C2 (fun q' => Ab.l4 (b : Int) cmp ((5 - (s + 1) : Nat) : Int) (i' : Int) q'.1 q'.2) (((i' - 1 : Nat) : Int), (Sort.swp d i' (i' - 1)).toList)
     else Ab.j5 (b : Int) cmp ((5 - (s + 1) : Nat) : Int) (i' : Int) (Sort.swp d i' (i' - 1)).toList) (by omega) (fun i' h1 h2 => ?_) (fun i' => rfl) (fun i' h1 h2 => ?_) _ i rfl (Nat.le_refl _) hi
   ·unfold Ab.l2
    by_cases h : i' < b
    ·rw [decide_eq_true (by omega), cond_true, decide_eq_true h, Bool.true_and, Wm (by omega) (by omega)]
     exact Gf hc hd (i := i') (j := i' - 1) (by omega) (by omega) rfl rfl (F := fun x => Ab.j3 (a : Int) (b : Int) cmp ((5 - (s + 1) : Nat) : Int) d.toList (i' : Int) (!x))
    ·rw [decide_eq_false (by omega), cond_false, decide_eq_false h, Bool.false_and]
   ·unfold Ab.j3
    rw [cond_false]
    congr 1
    by_cases e : i' = b
    ·rw [decide_eq_true (by omega), cond_true, if_pos e]
    ·rw [decide_eq_false (by omega), cond_false, if_neg e, Wd (by omega) (by omega)]
     by_cases h50 : b - a < 50
     ·rw [decide_eq_true (by omega), cond_true, if_pos h50]
     ·rw [decide_eq_false (by omega), cond_false, if_neg h50, Wm (by omega) (by omega), Wd (by omega) (by omega)]
      have e2 : decide ((2 : Int) <= ((i' - a : Nat) : Int)) = decide (i' - a >= 2) := decide_eq_decide.2 (by omega)
      rw [e2]
      exact Fj (i := i') (j := i' - 1) (by omega) (by omega) rfl rfl (fun l => cond (decide (i' - a >= 2)) (C2 (fun q' => Ab.l4 (b : Int) cmp ((5 - (s + 1) : Nat) : Int) (i' : Int) q'.1 q'.2) (((i' - 1 : Nat) : Int), l)) (Ab.j5 (b : Int) cmp ((5 - (s + 1) : Nat) : Int) (i' : Int) l))
  rw [partialIns_succ]
  generalize scanSorted lt d b i = i2 at hbody hle ⊢
  by_cases e : i2 = b
  ·rw [if_pos e]
   exact Ey (hbody.trans (if_pos e))
  ·rw [if_neg e]
   by_cases h50 : b - a < 50
   ·rw [if_pos h50]
    exact Ey (hbody.trans ((if_neg e).trans (if_pos h50)))
   ·rw [if_neg h50]
    have hb2 := hbody.trans ((if_neg e).trans (if_neg h50))
    unfold fixDown fixUp
    have hd1 : A7 P (Sort.swp d i2 (i2 - 1)) := hd.swp (by omega) (by omega)
    have hz1 := Ca d i2 (i2 - 1)
    generalize Sort.swp d i2 (i2 - 1) = d1 at hb2 hd1 hz1 ⊢
    have e5 : W (((5 - (s + 1) : Nat) : Int) + 1) = ((5 - s : Nat) : Int) := by
     rw [Wp (by omega)]
     omega
    have main : ∀ d2 : Array Aa, d2.size = d1.size -> A7 P d2 -> Ab.l1 (a : Int) (b : Int) cmp (i : Int) ((5 - (s + 1) : Nat) : Int) d.toList = Ab.j5 (b : Int) cmp ((5 - (s + 1) : Nat) : Int) (i2 : Int) d2.toList ->
      C2 (fun q' => Ab.l1 (a : Int) (b : Int) cmp q'.1 q'.2.1 q'.2.2) ((i : Int), ((5 - (s + 1) : Nat) : Int), d.toList) = some ((partialIns lt a b s i2 (if b - i2 >= 2 then shiftUp lt b (i2 + 1) d2 else d2)).2, (partialIns lt a b s i2 (if b - i2 >= 2 then shiftUp lt b (i2 + 1) d2 else d2)).1.toList) := fun d2 hz2 hd2 hl => by
     obtain ⟨q1, q2, q3⟩ := T7 hc (b := b) (i2 := i2) (j1 := ((5 - (s + 1) : Nat) : Int)) (d := d2) (by omega) (by omega) (by omega) hd2
     rw [e5] at q3
     exact (Fv (hl.trans q3)).trans (Na hc s i2 _ (by omega) (by omega) (by omega) (by omega) q1)
    by_cases h2 : i2 - a >= 2
    ·rw [if_pos h2]
     rw [decide_eq_true h2, cond_true] at hb2
     obtain ⟨q1, q2, q3⟩ := N3 hc (b := b) (i2 := i2) (j1 := ((5 - (s + 1) : Nat) : Int)) (i2 - 1) d1 (by omega) hd1
     exact main _ q2 q1 (hb2.trans q3)
    ·rw [if_neg h2]
     rw [decide_eq_false h2, cond_false] at hb2
     exact main _ rfl hd1 hb2
theorem Qn (hc : Bn cmp lt P) {a b : Nat} {d : Array Aa} (hab : a < b) (hb : b <= d.size) (hd : A7 P d) :
  Ab d.toList (a : Int) (b : Int) cmp = some ((partialInsertionSort lt d a b).2, (partialInsertionSort lt d a b).1.toList) := by
 have hsz := hd.1
 unfold Ab partialInsertionSort
 rw [Wp (by omega)]
 exact Na hc 5 (a + 1) d (by omega) (by omega) (by omega) hb hd
end
end
section
open Go Go.Sort
section
variable {cmp : Aa -> Aa -> Option Int} {lt : Aa -> Aa -> Bool} {P : Aa -> Prop}
theorem A7.perm {d d' : Array Aa} {a b : Nat} (h : A7 P d) (hb : b <= d.size) (hp : PermIn a b d d') : A7 P d' := by
 refine ⟨by rw [hp.1]; exact h.1, fun i hi => ?_⟩
 rw [hp.1] at hi
 by_cases hr : a <= i /\ i < b
 ·exact permIn_all d d' a b P hb hp (fun k _ hk => h.2 k (by omega)) i hr.1 hr.2
 ·rw [hp.2.1 i (by omega)]
  exact h.2 i hi
theorem T3 : ∀ (n i j : Nat) (d : Array Aa), j - i <= n -> j < d.size -> d.size <= 1000000000 ->
  C2 (fun q' => Bk.l1 q'.1 q'.2.1 q'.2.2) ((i : Int), (j : Int), d.toList) = some (reverseLoop i j d).toList := by
 intro n
 induction n with
 | zero =>
  intro i j d hn hj hs
  rw [reverseLoop, if_neg (by omega)]
  refine Ey ?_
  show Bk.l1 (i : Int) (j : Int) d.toList = _
  unfold Bk.l1
  rw [decide_eq_false (by omega), cond_false]
 | succ n ih =>
  intro i j d hn hj hs
  rw [reverseLoop]
  by_cases h : i < j
  ·rw [if_pos h]
   have hb : Bk.l1 (i : Int) (j : Int) d.toList = some (.next (((i + 1 : Nat) : Int), ((j - 1 : Nat) : Int), (Sort.swp d i j).toList)) := by
    unfold Bk.l1
    rw [decide_eq_true (by omega), cond_true, Wp (by omega), Wm (by omega) (by omega)]
    exact Fj (i := i) (j := j) (by omega) (by omega) rfl rfl (fun l => some (Lp.next (((i + 1 : Nat) : Int), ((j - 1 : Nat) : Int), l)))
   exact (Fv hb).trans (ih (i + 1) (j - 1) _ (by omega) (by rw [Ca]; omega) (by rw [Ca]; exact hs))
  ·rw [if_neg h]
   refine Ey ?_
   show Bk.l1 (i : Int) (j : Int) d.toList = _
   unfold Bk.l1
   rw [decide_eq_false (by omega), cond_false]
theorem Ql {a b : Nat} {d : Array Aa} (hab : a < b) (hb : b <= d.size) (hs : d.size <= 1000000000) : Bk d.toList (a : Int) (b : Int) cmp = some (reverseRange d a b).toList := by
 unfold Bk reverseRange
 rw [Wm (by omega) (by omega)]
 exact T3 _ a (b - 1) d (Nat.le_refl _) (by omega) hs
theorem Mf {a Fl o : Nat} {d : Array Aa} {z : Int × Int} (hi : Fl < d.size) (ho : a + o < d.size) (hs : d.size <= 1000000000) :
  A5.j2 (a : Int) (Fl : Int) d.toList z (o : Int) = some (.next (((Fl + 1 : Nat) : Int), (Sort.swp d Fl (a + o)).toList, z.2)) := by
 unfold A5.j2
 have e : W ((a : Int) + (o : Int)) = ((a + o : Nat) : Int) := by rw [Es (by omega)]; omega
 rw [e, Wp (by omega)]
 exact Fj (i := Fl) (j := a + o) hi ho rfl rfl (fun l => some (Lp.next (((Fl + 1 : Nat) : Int), l, z.2)))
theorem Rk {a b y : Nat} (hab : a < b) (h8 : 8 <= b - a) (hy1 : b - a < y) (hy2 : y <= 2 * (b - a)) : ∀ (k Fl : Nat) (d : Array Aa) (r : Int), Fl + k = a + (b - a) / 4 * 2 + 2 -> a <= Fl -> b <= d.size -> d.size < 65536 ->
  ∃ d', C2 (fun q' => A5.l1 (a : Int) (b : Int) (y : Int) q'.1 q'.2.1 q'.2.2) ((Fl : Int), d.toList, r) = some d'.toList /\ PermIn a b d d' := by
 intro k
 induction k with
 | zero =>
  intro Fl d r hk hi hb hs
  refine ⟨d, Ey ?_, permIn_refl d a b⟩
  show A5.l1 (a : Int) (b : Int) (y : Int) (Fl : Int) d.toList r = _
  unfold A5.l1
  rw [Wd (by omega) (by omega), oO (by omega), Option.bind_some, xG (by omega) (by omega), Wp (by omega), decide_eq_false (by omega), cond_false]
 | succ k ih =>
  intro Fl d r hk hi hb hs
  obtain ⟨z, hz⟩ := rN r
  obtain ⟨m, m1, m2⟩ := sK z.1 (y - 1) (by omega)
  have e3 : ((y : Int) - 1) = ((y - 1 : Nat) : Int) := by omega
  have hbody : ∃ o : Nat, o < b - a /\ A5.l1 (a : Int) (b : Int) (y : Int) (Fl : Int) d.toList r = some (.next (((Fl + 1 : Nat) : Int), (Sort.swp d Fl (a + o)).toList, z.2)) := by
   unfold A5.l1
   rw [Wd (m := b) (n := a) (by omega) (by omega), oO (by omega), Option.bind_some, xG (by omega) (by omega), Wp (by omega), decide_eq_true (by omega), cond_true, hz, Option.bind_some, e3, m2]
   clear m2
   by_cases h : b - a <= m
   ·refine ⟨m - (b - a), by omega, ?_⟩
    rw [decide_eq_true (by omega), cond_true, Wd (by omega) h]
    exact Mf (by omega) (by omega) (by omega)
   ·refine ⟨m, by omega, ?_⟩
    rw [decide_eq_false (by omega), cond_false]
    exact Mf (by omega) (by omega) (by omega)
  obtain ⟨o, ho, hbd⟩ := hbody
  obtain ⟨d', h1, h2⟩ := ih (Fl + 1) (Sort.swp d Fl (a + o)) z.2 (by omega) (by omega) (by rw [Ca]; exact hb) (by rw [Ca]; exact hs)
  exact ⟨d', (Fv hbd).trans h1, permIn_trans _ _ _ a b (swp_permIn d a b Fl (a + o) (by omega) (by omega) (by omega) (by omega) hb) h2⟩
theorem R9 {a b : Nat} {d : Array Aa} (hab : a < b) (hb : b <= d.size) (hs : d.size < 65536) : ∃ d', A5 d.toList (a : Int) (b : Int) cmp = some d'.toList /\ PermIn a b d d' := by
 unfold A5
 rw [Wd (by omega) (by omega)]
 by_cases h8 : 8 <= b - a
 ·obtain ⟨y, y1, y2, y3⟩ := mT (b - a) (by omega) (by omega)
  rw [decide_eq_true (by omega), cond_true, y3, Option.bind_some, oO (by omega), Option.bind_some, xG (by omega) (by omega), Wm (by omega) (by omega)]
  exact Rk hab h8 y1 y2 3 (a + (b - a) / 4 * 2 - 1) d _ (by omega) (by omega) hb hs
 ·rw [decide_eq_false (by omega), cond_false]
  exact ⟨d, rfl, permIn_refl d a b⟩
theorem Kl (hc : Bn cmp lt P) {d : Array Aa} (hd : A7 P d) {x y : Nat} (hx : x < d.size) (hy : y < d.size) (s : Int) :
  ∃ (x' y' : Nat) (s' : Int), Dr d.toList (x : Int) (y : Int) s cmp = some ((x' : Int), (y' : Int), s') /\ (x' = x /\ y' = y \/ x' = y /\ y' = x) := by
 obtain ⟨m, m1, m2⟩ := F8 hc hd (i := y) (j := x) hy hx
 unfold Dr
 rw [Cq (i := y) hy rfl, Option.bind_some, Cq (i := x) hx rfl, Option.bind_some, m1, Option.bind_some]
 cases decide (m < 0) with
 | true => exact ⟨y, x, _, rfl, Or.inr ⟨rfl, rfl⟩⟩
 | false => exact ⟨x, y, _, rfl, Or.inl ⟨rfl, rfl⟩⟩
theorem N8 (hc : Bn cmp lt P) {d : Array Aa} (hd : A7 P d) {x y z : Nat} (hx : x < d.size) (hy : y < d.size) (hz : z < d.size) (s : Int) :
  ∃ (x' : Nat) (s' : Int), D2 d.toList (x : Int) (y : Int) (z : Int) s cmp = some ((x' : Int), s') /\ (x' = x \/ x' = y \/ x' = z) := by
 obtain ⟨p1, p2, s1, h1, k1⟩ := Kl hc hd hx hy s
 unfold D2
 rw [h1, Option.bind_some]
 obtain ⟨q1, q2, s2, h2, k2⟩ := Kl hc hd (x := p2) (y := z) (by omega) hz s1
 simp only []
 rw [h2, Option.bind_some]
 obtain ⟨r1, r2, s3, h3, k3⟩ := Kl hc hd (x := p1) (y := q1) (by omega) (by omega) s2
 simp only []
 rw [h3, Option.bind_some]
 exact ⟨r2, s3, rfl, by omega⟩
theorem Kk (hc : Bn cmp lt P) {d : Array Aa} (hd : A7 P d) {x : Nat} (h0 : 0 < x) (hx : x + 1 < d.size) (s : Int) :
  ∃ (x' : Nat) (s' : Int), Cu d.toList (x : Int) s cmp = some ((x' : Int), s') /\ (x' = x - 1 \/ x' = x \/ x' = x + 1) := by
 have hsz := hd.1
 obtain ⟨p, s1, h1, k1⟩ := N8 hc hd (x := x - 1) (y := x) (z := x + 1) (by omega) (by omega) hx s
 unfold Cu
 rw [Wm (by omega) h0, Wp (by omega), h1, Option.bind_some]
 exact ⟨p, s1, rfl, k1⟩
theorem Sq (p : Nat) (s : Int) : ∃ h : Int, A8.j2 (p : Int) s = some ((p : Int), h) := by
 unfold A8.j2
 cases decide (s = 0) with
 | true => exact ⟨_, rfl⟩
 | false =>
  cases decide (s = 12) with
  | true => exact ⟨_, rfl⟩
  | false => exact ⟨_, rfl⟩
theorem Qw (hc : Bn cmp lt P) {d : Array Aa} (hd : A7 P d) {a b : Nat} (h8 : 8 <= b - a) (hb : b <= d.size) :
  ∃ (p : Nat) (h : Int), A8 d.toList (a : Int) (b : Int) cmp = some ((p : Int), h) /\ a <= p /\ p < b := by
 have hsz := hd.1
 have j1 : ∀ (i j k : Nat) (s : Int), a <= i -> i < b -> a <= j -> j < b -> a <= k -> k < b -> ∃ (p : Nat) (h : Int), A8.j1 d.toList cmp (i : Int) (j : Int) (k : Int) s = some ((p : Int), h) /\ a <= p /\ p < b := fun i j k s h1 h2 h3 h4 h5 h6 => by
  obtain ⟨p, s1, k1, k2⟩ := N8 hc hd (x := i) (y := j) (z := k) (by omega) (by omega) (by omega) s
  unfold A8.j1
  rw [k1, Option.bind_some]
  obtain ⟨h, hh⟩ := Sq p s1
  exact ⟨p, h, hh, by omega, by omega⟩
 unfold A8
 rw [Wd (by omega) (by omega), oO (by omega), Option.bind_some, Option.bind_some, Option.bind_some, decide_eq_true (by omega), cond_true]
 generalize hq : (b - a) / 4 = q
 rw [zU (by omega) (by omega), xG (by omega) (by omega), zY (by omega) (by omega)]
 by_cases h50 : 50 <= b - a
 ·rw [decide_eq_true (by omega), cond_true]
  obtain ⟨x1, s1, g1, k1⟩ := Kk hc hd (x := a + q) (by omega) (by omega) 0
  rw [g1, Option.bind_some]
  obtain ⟨x2, s2, g2, k2⟩ := Kk hc hd (x := a + q * 2) (by omega) (by omega) s1
  simp only []
  rw [g2, Option.bind_some]
  obtain ⟨x3, s3, g3, k3⟩ := Kk hc hd (x := a + q * 3) (by omega) (by omega) s2
  simp only []
  rw [g3, Option.bind_some]
  exact j1 x1 x2 x3 s3 (by omega) (by omega) (by omega) (by omega) (by omega) (by omega)
 ·rw [decide_eq_false (by omega), cond_false]
  exact j1 (a + q) (a + q * 2) (a + q * 3) 0 (by omega) (by omega) (by omega) (by omega) (by omega) (by omega)
end
end
section
open Go Go.Sort
section
variable {cmp : Aa -> Aa -> Option Int} {lt : Aa -> Aa -> Bool} {P : Aa -> Prop}
def Nd (lt : Aa -> Aa -> Bool) (P : Aa -> Prop) (V8 : Array Aa -> Prop) (s : Int × Int × Int × Bool × Bool × List Aa) : Prop :=
 ∃ (d : Array Aa) (a b : Nat), s.1 = (a : Int) /\ s.2.1 = (b : Int) /\ s.2.2.2.2.2 = d.toList /\ a <= b /\ b <= d.size /\ d.size < 65536 /\ A7 P d /\ Below lt a b d /\ ∀ R, PermIn a b d R -> SortedIn lt a b R -> V8 R
def Gb (lt : Aa -> Aa -> Bool) (P : Aa -> Prop) (rec : List Aa -> Int -> Int -> Int -> Option (List Aa)) (n : Nat) : Prop :=
 ∀ (d : Array Aa) (a b : Nat) (lim : Int), a <= b -> b <= d.size -> d.size < 65536 -> A7 P d -> Below lt a b d -> b - a < n -> Ok (rec d.toList (a : Int) (b : Int) lim) (fun r => ∃ d', r = d'.toList /\ PermIn a b d d' /\ SortedIn lt a b d')
abbrev Hh (lt : Aa -> Aa -> Bool) (P : Aa -> Prop) (V8 : Array Aa -> Prop) (n : Nat) : Lp (Int × Int × Int × Bool × Bool × List Aa) (List Aa) -> Prop :=
 dI (fun s => Nd lt P V8 s /\ (s.2.1 - s.1).toNat < n) (fun r => ∃ d', r = d'.toList /\ V8 d')
variable {V8 : Array Aa -> Prop} {rec : List Aa -> Int -> Int -> Int -> Option (List Aa)}
theorem Md (hS : SWO lt) (hc : Bn cmp lt P) {a b pivot : Nat} {d : Array Aa} {wb wp : Bool} {lim : Int} {x : Bool} (hr : Gb lt P rec (b - a)) (hab : a < b) (hp1 : a <= pivot) (hp2 : pivot < b) (hb : b <= d.size) (hs : d.size < 65536) (hd : A7 P d) (hB : Below lt a b d) (hF : ∀ R, PermIn a b d R -> SortedIn lt a b R -> V8 R) (hx : x = true -> 0 < a /\ lt d[a - 1]! d[pivot]! = false) :
  Ok (Ak.j6 rec cmp (a : Int) (b : Int) wb wp lim (pivot : Int) d.toList x) (Hh lt P V8 (b - a)) := by
 unfold Ak.j6
 refine Ok.cond (fun hxt => ?_) (fun _ => ?_)
 ·obtain ⟨h0, h1⟩ := hx hxt
  rw [Tj hc hab hp1 hp2 hb hd, Option.bind_some]
  obtain ⟨g1, g2, g3, g4, g5⟩ := round_eq (d4 := (partitionEqual lt d a b pivot).2) (mid := (partitionEqual lt d a b pivot).1) hS (partitionEqual_holds lt) h0 hp1 hp2 hb hB h1 rfl
  have hge : ∀ i, a <= i -> i < b -> lt d[i]! d[pivot]! = false := fun i hi hi' => by
   rcases hB with h0 | hB
   ·omega
   ·exact hS.ntrans _ _ _ (hB i hi hi') h1
  have hpm := (partitionEqual_holds lt hS d a b pivot hp1 hp2 hb hge).2.2.1
  generalize (partitionEqual lt d a b pivot).2 = d4 at g3 g4 g5 hpm ⊢
  generalize (partitionEqual lt d a b pivot).1 = mid at g1 g2 g4 g5 ⊢
  refine Ok.ret ⟨⟨d4, mid, b, rfl, rfl, rfl, g2, by omega, by omega, hd.perm hb hpm, g4, fun R h2 h3 => ?_⟩, ?_⟩
  ·obtain ⟨k1, k2⟩ := g5 R h2 h3
   exact hF R k1 k2
  ·show (((b : Int)) - (mid : Int)).toNat < b - a
   omega
 ·rw [Sl hc hab hp1 hp2 hb hd, Option.bind_some]
  obtain ⟨g1, g2, g3, g4, g5, g6, g7⟩ := round_part (d4 := (partition lt d a b pivot).2.2) (mid := (partition lt d a b pivot).1) (ap := (partition lt d a b pivot).2.1) hS (partition_holds lt) hp1 hp2 hb hB rfl
  have hpm := (partition_holds lt hS d a b pivot hp1 hp2 hb).2.2.1
  generalize (partition lt d a b pivot).2.2 = d4 at g3 g4 g5 g6 g7 hpm ⊢
  generalize (partition lt d a b pivot).2.1 = ap
  generalize (partition lt d a b pivot).1 = mid at g1 g2 g4 g5 g6 g7 ⊢
  have hd4 := hd.perm hb hpm
  simp only []
  rw [Wd (m := b) (n := a) (by omega) (by omega), wG (by omega), Option.bind_some, Wd (m := mid) (n := a) (by omega) (by omega), Wd (m := b) (n := mid) (by omega) (by omega), Wp (by omega)]
  refine Ok.cond (fun hm => ?_) (fun hm => ?_)
  ·have hm' := of_decide_eq_true hm
   refine Ok.bind (hr d4 a mid lim g1 (by omega) (by omega) hd4 g4 (by omega)) (fun r hr' => ?_)
   obtain ⟨L, rfl, l1, l2⟩ := hr'
   obtain ⟨k1, k2⟩ := g6 L l1 l2
   have hz := l1.1
   refine Ok.ret ⟨⟨L, mid + 1, b, rfl, rfl, rfl, by omega, by omega, by omega, hd4.perm (by omega) l1, k1, fun R h2 h3 => ?_⟩, ?_⟩
   ·obtain ⟨m1, m2⟩ := k2 R h2 h3
    exact hF R m1 m2
   ·show (((b : Int)) - ((mid + 1 : Nat) : Int)).toNat < b - a
    omega
  ·have hm' := of_decide_eq_false hm
   refine Ok.bind (hr d4 (mid + 1) b lim (by omega) (by omega) (by omega) hd4 g5 (by omega)) (fun r hr' => ?_)
   obtain ⟨L, rfl, l1, l2⟩ := hr'
   obtain ⟨k1, k2⟩ := g7 L l1 l2
   have hz := l1.1
   refine Ok.ret ⟨⟨L, a, mid, rfl, rfl, rfl, by omega, by omega, by omega, hd4.perm (by omega) l1, k1, fun R h2 h3 => ?_⟩, ?_⟩
   ·obtain ⟨m1, m2⟩ := k2 R h2 h3
    exact hF R m1 m2
   ·show (((mid : Int)) - (a : Int)).toNat < b - a
    omega
theorem L4 (hS : SWO lt) (hc : Bn cmp lt P) {a b pivot : Nat} {d : Array Aa} {wb wp : Bool} {lim : Int} (hr : Gb lt P rec (b - a)) (hab : a < b) (hp1 : a <= pivot) (hp2 : pivot < b) (hb : b <= d.size) (hs : d.size < 65536) (hd : A7 P d) (hB : Below lt a b d) (hF : ∀ R, PermIn a b d R -> SortedIn lt a b R -> V8 R) :
  Ok (Ak.j5 rec cmp (a : Int) (b : Int) wb wp lim (pivot : Int) d.toList) (Hh lt P V8 (b - a)) := by
 unfold Ak.j5
 refine Ok.cond (fun ha => ?_) (fun _ => Md hS hc hr hab hp1 hp2 hb hs hd hB hF (fun h => by cases h))
 have ha' := of_decide_eq_true ha
 rw [Wm (by omega) (by omega)]
 obtain ⟨n, n1, n2⟩ := F8 hc hd (i := a - 1) (j := pivot) (by omega) (by omega)
 rw [Cq (i := a - 1) (by omega) rfl, Option.bind_some, Cq (i := pivot) (by omega) rfl, Option.bind_some, n1, Option.bind_some, n2]
 refine Md hS hc hr hab hp1 hp2 hb hs hd hB hF (fun h => ⟨by omega, ?_⟩)
 cases hl : lt d[a - 1]! d[pivot]! with
 | false => rfl
 | true => rw [hl] at h; cases h
theorem Jq (hS : SWO lt) (hc : Bn cmp lt P) {a b pivot : Nat} {d : Array Aa} {wb wp : Bool} {lim : Int} {x : Bool} (hr : Gb lt P rec (b - a)) (hab : a < b) (hp1 : a <= pivot) (hp2 : pivot < b) (hb : b <= d.size) (hs : d.size < 65536) (hd : A7 P d) (hB : Below lt a b d) (hF : ∀ R, PermIn a b d R -> SortedIn lt a b R -> V8 R) :
  Ok (Ak.j4 rec cmp (a : Int) (b : Int) wb wp lim (pivot : Int) d.toList x) (Hh lt P V8 (b - a)) := by
 unfold Ak.j4
 refine Ok.cond (fun _ => ?_) (fun _ => L4 hS hc hr hab hp1 hp2 hb hs hd hB hF)
 rw [Qn hc hab hb hd, Option.bind_some]
 obtain ⟨k1, k2⟩ := partialInsertionSort_holds hS d a b hab hb hB
 generalize partialInsertionSort lt d a b = pi at k1 k2 ⊢
 have hz : pi.1.size = d.size := k1.1
 have hb' : b <= pi.1.size := by omega
 have hs' : pi.1.size < 65536 := by omega
 refine Ok.cond (fun h => ?_) (fun _ => L4 (d := pi.1) hS hc hr hab hp1 hp2 hb' hs' (hd.perm hb k1) (hB.perm hb k1) (fun R h2 h3 => hF R (permIn_trans _ _ _ a b k1 h2) h3))
 exact Ok.up (Ok.ret ⟨_, rfl, hF _ k1 (k2 h)⟩)
theorem L3 (hS : SWO lt) (hc : Bn cmp lt P) {a b pivot : Nat} {d : Array Aa} {wb wp : Bool} {lim hint : Int} (hr : Gb lt P rec (b - a)) (hab : a < b) (hp1 : a <= pivot) (hp2 : pivot < b) (hb : b <= d.size) (hs : d.size < 65536) (hd : A7 P d) (hB : Below lt a b d) (hF : ∀ R, PermIn a b d R -> SortedIn lt a b R -> V8 R) :
  Ok (Ak.j3 rec cmp (a : Int) (b : Int) wb wp lim (pivot : Int) hint d.toList) (Hh lt P V8 (b - a)) := by
 unfold Ak.j3
 exact Ok.cond (fun _ => Ok.cond (fun _ => Jq hS hc hr hab hp1 hp2 hb hs hd hB hF) (fun _ => Jq hS hc hr hab hp1 hp2 hb hs hd hB hF)) (fun _ => Jq hS hc hr hab hp1 hp2 hb hs hd hB hF)
theorem Me (hS : SWO lt) (hc : Bn cmp lt P) {a b : Nat} {d : Array Aa} {wb wp : Bool} {lim : Int} (hr : Gb lt P rec (b - a)) (h12 : 12 < b - a) (hb : b <= d.size) (hs : d.size < 65536) (hd : A7 P d) (hB : Below lt a b d) (hF : ∀ R, PermIn a b d R -> SortedIn lt a b R -> V8 R) :
  Ok (Ak.j2 rec cmp (a : Int) (b : Int) wb wp lim d.toList) (Hh lt P V8 (b - a)) := by
 obtain ⟨p, h, h1, h2, h3⟩ := Qw hc hd (a := a) (b := b) (by omega) hb
 unfold Ak.j2
 rw [h1, Option.bind_some]
 refine Ok.cond (fun _ => ?_) (fun _ => L3 hS hc hr (by omega) h2 h3 hb hs hd hB hF)
 rw [Ql (by omega) hb (by omega), Option.bind_some]
 have k1 := reverseRange_holds d a b (by omega) hb
 generalize reverseRange d a b = d2 at k1 ⊢
 have hz := k1.1
 have e : W (W ((b : Int) - 1) - W ((p : Int) - (a : Int))) = ((b - 1 - (p - a) : Nat) : Int) := by
  rw [Wm (by omega) (by omega), Wd (by omega) (by omega), Wd (by omega) (by omega)]
 simp only []
 rw [e]
 clear e
 exact L3 hS hc hr (by omega) (by omega) (by omega) (by omega) (by omega) (hd.perm hb k1) (hB.perm hb k1) (fun R h2 h3 => hF R (permIn_trans _ _ _ a b k1 h2) h3)
theorem Rh (hS : SWO lt) (hc : Bn cmp lt P) {a b : Nat} {d : Array Aa} {wb wp : Bool} {lim : Int} (hr : Gb lt P rec (b - a)) (hab : a <= b) (hb : b <= d.size) (hs : d.size < 65536) (hd : A7 P d) (hB : Below lt a b d) (hF : ∀ R, PermIn a b d R -> SortedIn lt a b R -> V8 R) :
  Ok (Ak.l1 rec cmp (a : Int) (b : Int) lim wb wp d.toList) (Hh lt P V8 (b - a)) := by
 unfold Ak.l1
 rw [Wd (by omega) hab]
 refine Ok.cond (fun _ => ?_) (fun h12 => ?_)
 ·rw [Oz hc hab hb hd, Option.bind_some]
  obtain ⟨k1, k2⟩ := insertionSort_holds hS d a b hab hb
  exact Ok.up (Ok.ret ⟨_, rfl, hF _ k1 k2⟩)
 ·have h12' := of_decide_eq_false h12
  refine Ok.cond (fun _ => ?_) (fun _ => ?_)
  ·rw [S2 hc (by omega) hb hd, Option.bind_some]
   obtain ⟨k1, k2⟩ := heapSort_holds hS d a b hab hb
   exact Ok.up (Ok.ret ⟨_, rfl, hF _ k1 k2⟩)
  ·refine Ok.cond (fun _ => ?_) (fun _ => Me hS hc hr (by omega) hb hs hd hB hF)
   obtain ⟨d1, k0, k1⟩ := R9 (cmp := cmp) (a := a) (b := b) (d := d) (by omega) hb hs
   have hz := k1.1
   rw [k0, Option.bind_some]
   exact Me hS hc hr (by omega) (by omega) (by omega) (hd.perm hb k1) (hB.perm hb k1) (fun R h2 h3 => hF R (permIn_trans _ _ _ a b k1 h2) h3)
theorem Tq (hS : SWO lt) (hc : Bn cmp lt P) {a b : Nat} {d : Array Aa} {lim : Int} (hab : a <= b) (hb : b <= d.size) (hs : d.size < 65536) (hd : A7 P d) (hB : Below lt a b d) :
  Ok (Ak d.toList (a : Int) (b : Int) lim cmp) (fun r => ∃ d', r = d'.toList /\ PermIn a b d d' /\ SortedIn lt a b d') := by
 unfold Ak
 refine (nD (I8 (cmp := cmp)) (fun x => (x.2.2.1 - x.2.1).toNat)
  (fun x => ∃ (d : Array Aa) (a b : Nat), x.1 = d.toList /\ x.2.1 = (a : Int) /\ x.2.2.1 = (b : Int) /\ a <= b /\ b <= d.size /\ d.size < 65536 /\ A7 P d /\ Below lt a b d)
  (fun x r => ∀ (d : Array Aa) (a b : Nat), x.1 = d.toList -> x.2.1 = (a : Int) -> x.2.2.1 = (b : Int) -> ∃ d', r = d'.toList /\ PermIn a b d d' /\ SortedIn lt a b d') ?_ _ ⟨d, a, b, rfl, rfl, rfl, hab, hb, hs, hd, hB⟩).mono (fun r hr => hr d a b rfl rfl rfl)
 rintro rec ⟨l, a', b', lim'⟩ ⟨d, a, b, h1, h2, h3, hab, hb, hs, hd, hB⟩ ih
 have h1 : l = d.toList := h1
 have h2 : a' = (a : Int) := h2
 have h3 : b' = (b : Int) := h3
 subst h1 h2 h3
 have hr : Gb lt P (fun data a b limit => rec (data, a, b, limit)) (b - a) := fun d2 a2 b2 lim2 k1 k2 k3 k4 k5 k6 =>
  (ih (d2.toList, (a2 : Int), (b2 : Int), lim2) ⟨d2, a2, b2, rfl, rfl, rfl, k1, k2, k3, k4, k5⟩ (by show (((b2 : Int)) - (a2 : Int)).toNat < (((b : Int)) - (a : Int)).toNat; omega)).mono (fun r hr => hr d2 a2 b2 rfl rfl rfl)
 have main : Ok (Ak.F (fun data a b limit => rec (data, a, b, limit)) d.toList (a : Int) (b : Int) lim' cmp) (fun r => ∃ d', r = d'.toList /\ (PermIn a b d d' /\ SortedIn lt a b d')) := by
  unfold Ak.F
  refine Ok.loop (fun s => Nd lt P (fun R => PermIn a b d R /\ SortedIn lt a b R) s /\ (s.2.1 - s.1).toNat <= b - a) (fun s => (s.2.1 - s.1).toNat) ?_ ⟨⟨d, a, b, rfl, rfl, rfl, hab, hb, hs, hd, hB, fun R h1 h2 => ⟨h1, h2⟩⟩, ?_⟩
  ·rintro ⟨sa, sb, sl, wb, wp, dl⟩ ⟨⟨d3, a3, b3, e1, e2, e3, k1, k2, k3, k4, k5, k6⟩, hm⟩
   have e1 : sa = (a3 : Int) := e1
   have e2 : sb = (b3 : Int) := e2
   have e3 : dl = d3.toList := e3
   subst e1 e2 e3
   have hm : (((b3 : Int)) - (a3 : Int)).toNat <= b - a := hm
   refine (Rh hS hc (fun d2 a2 b2 lim2 q1 q2 q3 q4 q5 q6 => hr d2 a2 b2 lim2 q1 q2 q3 q4 q5 (by omega)) k1 k2 k3 k4 k5 k6).mono (fun o ho => ?_)
   have em : (((b3 : Int)) - (a3 : Int)).toNat = b3 - a3 := by omega
   cases o with
   | done r => exact ho
   | next s =>
    obtain ⟨ho1, ho2⟩ := ho
    refine ⟨⟨ho1, by omega⟩, ?_⟩
    show (s.2.1 - s.1).toNat < (((b3 : Int)) - (a3 : Int)).toNat
    omega
  ·show (((b : Int)) - (a : Int)).toNat <= b - a
   omega
 refine main.mono (fun r hr d2 a2 b2 e1 e2 e3 => ?_)
 have e1 : d.toList = d2.toList := e1
 have e2 : (a : Int) = (a2 : Int) := e2
 have e3 : (b : Int) = (b2 : Int) := e3
 obtain rfl : d = d2 := Array.toList_inj.1 e1
 obtain rfl : a = a2 := by omega
 obtain rfl : b = b2 := by omega
 exact hr
theorem R6 (hS : SWO lt) (hc : Bn cmp lt P) (l : List Aa) (hl : l.length < 65536) (hP : ∀ x ∈ l, P x) :
  Ok (Ed l cmp) (fun r => r.Perm l /\ r.Pairwise (fun x y => lt y x = false)) := by
 obtain ⟨L, _, _, _, h4⟩ := lQ l.length hl
 unfold Ed
 rw [Qs (by omega), h4, Option.bind_some]
 have hsz : l.toArray.size = l.length := by simp
 have hA : A7 P l.toArray := ⟨by omega, fun i hi => by
  rw [getElem!_pos l.toArray i hi]
  exact hP _ (by simp)⟩
 have h := Tq hS hc (a := 0) (b := l.toArray.size) (d := l.toArray) (lim := (L : Int)) (Nat.zero_le _) (Nat.le_refl _) (by omega) hA (Or.inl rfl)
 rw [hsz] at h
 have e : ((0 : Nat) : Int) = 0 := rfl
 rw [e] at h
 refine Ok.bind h (fun r hr => ?_)
 obtain ⟨d', rfl, k1, k2⟩ := hr
 have hz := k1.1
 refine Ok.ret ⟨?_, ?_⟩
 ·have := k1.2.2
  have e1 : d'.extract 0 l.length = d' := by
   rw [<- hsz, <- hz]; exact Array.extract_size
  have e2 : l.toArray.extract 0 l.length = l.toArray := by
   rw [<- hsz]; exact Array.extract_size
  rw [e1, e2] at this
  exact this
 ·rw [List.pairwise_iff_getElem]
  intro i j hi hj hij
  have hi' : i < d'.size := by simpa using hi
  have hj' : j < d'.size := by simpa using hj
  have := k2 i j (Nat.zero_le _) hij (by omega)
  rw [getElem!_pos d' i hi', getElem!_pos d' j hj'] at this
  simpa using this
def Em : Nat := 65535
theorem R7 (hS : SWO lt) (hc : Bn cmp lt P) (l : List Aa) (hl : l.length <= Em) (hP : ∀ x ∈ l, P x) :
  Ok (Ed l cmp) (fun r => r.Perm l /\ r.Pairwise (fun x y => lt y x = false)) := R6 hS hc l (by unfold Em at hl; omega) hP
end
end
end Go.Proofs.YtkpcbnnlefcebaaGreat
