/- The plain laws: what was encoded is what is read; no program is walked here. -/
import Derived.Test.YthjgcmifggdepaaH17
set_option linter.unusedSimpArgs false
set_option linter.unusedVariables false
namespace Go.Proofs.Ythjgcmifggdepaa
open Go.RowKit

theorem recN_of {m : Nat} {part rest : List UInt8} (hp : part.length = m) (h1 : 1 ≤ m) (h2 : m ≤ 65535) : recN ([22, b8 ((m : Int) / 256), b8 (m : Int)] ++ part ++ rest) = some m := by
  have e1 := b8_nat ((m : Int) / 256)
  have e2 := b8_nat (m : Int)
  have e3 : (b8 ((m : Int) / 256)).toNat * 256 + (b8 (m : Int)).toNat = m := by omega
  rw [List.append_assoc, List.cons_append, List.cons_append, List.cons_append, List.nil_append, recN_four, e3, if_pos]
  refine ⟨rfl, h1, ?_⟩
  rw [List.length_append]
  omega
theorem msgs_recs {s : Nat} (hs : 1 ≤ s) (hs2 : s ≤ 65535) (rest : List UInt8) : ∀ (k : Nat) (l : List UInt8), l.length ≤ k → msgs (recs s l ++ rest) = (msgs rest).map (l ++ ·) := by
  intro k
  induction k with
  | zero =>
    intro l hl
    have : l = [] := List.eq_nil_of_length_eq_zero (by omega)
    subst this
    rw [recs_nil]
    simp
  | succ k ih =>
    intro l hl
    by_cases h0 : l = []
    · subst h0
      rw [recs_nil]
      simp
    have hpos : 0 < l.length := Nat.pos_of_ne_zero fun e => h0 (List.eq_nil_of_length_eq_zero e)
    obtain ⟨m, hm⟩ : ∃ m, min s l.length = m := ⟨_, rfl⟩
    have ht : (l.take s).length = m := by rw [List.length_take, hm]
    have hR : recN (recs s l ++ rest) = some m := by
      rw [recs_step (by omega) hpos, hm, List.append_assoc]
      exact recN_of ht (by omega) (by omega)
    rw [msgs_some hR]
    have e1 : recs s l ++ rest = ([22, b8 ((m : Int) / 256), b8 (m : Int)] ++ l.take s) ++ (recs s (l.drop s) ++ rest) := by
      rw [recs_step (by omega) hpos, hm, List.append_assoc]
    have e2 : (recs s l ++ rest).drop (3 + m) = recs s (l.drop s) ++ rest := by
      rw [e1]
      exact List.drop_left' (by rw [List.length_append, ht]; rfl)
    have e3 : ((recs s l ++ rest).drop 3).take m = l.take s := by
      rw [e1, List.append_assoc]
      show (l.take s ++ _).take m = _
      exact List.take_left' ht
    rw [e2, e3, ih (l.drop s) (by rw [List.length_drop]; omega), Option.map_map]
    congr 1
    funext a
    show l.take s ++ (l.drop s ++ a) = l ++ a
    rw [← List.append_assoc, List.take_append_drop]
theorem recs_len {s : Nat} (hs : 1 ≤ s) : ∀ (k : Nat) (l : List UInt8), l.length ≤ k → (recs s l).length ≤ 4 * l.length := by
  intro k
  induction k with
  | zero =>
    intro l hl
    have : l = [] := List.eq_nil_of_length_eq_zero (by omega)
    subst this
    rw [recs_nil]
    simp
  | succ k ih =>
    intro l hl
    by_cases h0 : l = []
    · subst h0
      rw [recs_nil]
      simp
    have hpos : 0 < l.length := Nat.pos_of_ne_zero fun e => h0 (List.eq_nil_of_length_eq_zero e)
    have := ih (l.drop s) (by rw [List.length_drop]; omega)
    rw [recs_step (by omega) hpos]
    rw [List.length_drop] at this
    simp only [List.length_append, List.length_take, List.length_cons, List.length_nil]
    omega
theorem msgs_back {r m : List UInt8} (hm : msgs r = some m) (hr : r.length ≤ 16384) : msgE r = 0 ∧ msgL r = m := by
  unfold msgE msgL
  rw [if_neg (by omega), if_neg (by omega), hm]
  exact ⟨rfl, rfl⟩
theorem flat_at : ∀ (su : List Int) (r : List UInt8) (j : Nat) (x : Int), su[j]? = some x → (su.flatMap two8 ++ r)[2 * j]? = some (b8 (x / 256)) ∧ (su.flatMap two8 ++ r)[2 * j + 1]? = some (b8 x)
  | [], r, j, x, h => by simp at h
  | y :: t, r, 0, x, h => by
    simp at h
    subst h
    exact ⟨rfl, rfl⟩
  | y :: t, r, j + 1, x, h => by
    have := flat_at t r j x (by simpa using h)
    exact this
theorem getD_of {l : List UInt8} {k : Nat} {x : UInt8} (h : l[k]? = some x) : bAt l k = x.toNat := by unfold bAt; rw [List.getD_eq_getElem?_getD, h]; rfl
theorem decH_raw {h : Hl} (hb : helloB h = true) (rest : List UInt8) : decH (rawH h ++ rest) = some (h, (rawH h).length) := by
  obtain ⟨hp, hsu, hha⟩ := helloB_in hb
  obtain ⟨m, su, ha⟩ := h
  dsimp only at hp hsu hha
  have hlen := rawH_len ⟨m, su, ha⟩
  dsimp only at hlen
  obtain ⟨L, hL⟩ : ∃ L, rawH ⟨m, su, ha⟩ ++ rest = L := ⟨_, rfl⟩
  have e0 : L = [1, b8 m, b8 su.length] ++ (su.flatMap two8 ++ ([b8 ha.length] ++ (ha.map b8 ++ rest))) := by rw [← hL]; unfold rawH; simp
  have hfl := flat_len su
  have b1 : bAt L 1 = m.toNat := by rw [getD_of (x := b8 m) (by rw [e0]; rfl)]; have := b8_small (n := m) (by omega) (by omega); omega
  have b2 : bAt L 2 = su.length := by rw [getD_of (x := b8 su.length) (by rw [e0]; rfl)]; have := b8_small (n := (su.length : Int)) (by omega) (by omega); omega
  have g3 : ∀ i, L[3 + i]? = (su.flatMap two8 ++ ([b8 ha.length] ++ (ha.map b8 ++ rest)))[i]? := fun i => by rw [e0, List.getElem?_append_right (by simp)]; simp
  have bM : bAt L (3 + 2 * su.length) = ha.length := by
    rw [getD_of (x := b8 ha.length) (by rw [g3, List.getElem?_append_right (by omega), hfl]; simp)]
    have := b8_small (n := (ha.length : Int)) (by omega) (by omega)
    omega
  have hLl : L.length = 4 + 2 * su.length + ha.length + rest.length := by rw [← hL, List.length_append, hlen]
  have hpairs : pairs L su.length = su := by
    apply List.ext_getElem?
    intro j
    by_cases hj : j < su.length
    · have hx : su[j]? = some su[j] := List.getElem?_eq_getElem hj
      obtain ⟨f1, f2⟩ := flat_at su ([b8 ha.length] ++ (ha.map b8 ++ rest)) j _ hx
      have c1 := getD_of (l := L) (k := 3 + 2 * j) (by rw [g3]; exact f1)
      have c2 := getD_of (l := L) (k := 3 + 2 * j + 1) (by rw [Nat.add_assoc, g3]; exact f2)
      have r := hsu su[j] (List.getElem_mem hj)
      have n1 := b8_nat (su[j] / 256)
      have n2 := b8_nat su[j]
      rw [hx]
      unfold pairs
      rw [List.getElem?_map, List.getElem?_range hj]
      simp only [Option.map_some, Option.some.injEq]
      rw [c1, c2]
      omega
    · rw [List.getElem?_eq_none (by rw [pairs_len]; omega), List.getElem?_eq_none (by omega)]
  have hints : ints8 L (3 + 2 * su.length + 1) ha.length = ha := by
    apply List.ext_getElem?
    intro j
    by_cases hj : j < ha.length
    · have hx : ha[j]? = some ha[j] := List.getElem?_eq_getElem hj
      have c1 := getD_of (l := L) (k := 3 + 2 * su.length + 1 + j) (x := b8 ha[j]) (by
        rw [show 3 + 2 * su.length + 1 + j = 3 + (2 * su.length + (1 + j)) by omega, g3, List.getElem?_append_right (by omega), hfl, show 2 * su.length + (1 + j) - 2 * su.length = 1 + j by omega, List.getElem?_append_right (by simp)]
        simp only [List.length_singleton, Nat.add_sub_cancel_left]
        rw [List.getElem?_append_left (by simpa using hj)]
        simp [hj])
      have r := hha ha[j] (List.getElem_mem hj)
      have n1 := b8_small (n := ha[j]) (by omega) (by omega)
      rw [hx]
      unfold ints8
      rw [List.getElem?_map, List.getElem?_range hj]
      simp only [Option.map_some, Option.some.injEq]
      rw [c1]
      omega
    · rw [List.getElem?_eq_none (by rw [ints8_len]; omega), List.getElem?_eq_none (by omega)]
  rw [hL]
  unfold decH
  rw [if_neg (by omega), b2, bM, if_neg (by omega), if_neg (by omega), hpairs, hints, b1, hlen]
  have : ((m.toNat : Nat) : Int) = m := by omega
  rw [this]
  congr 2
  omega
theorem decD_rawH {h : Hl} (hb : helloB h = true) (rest : List UInt8) : decD (rawH h ++ rest) = ⟨h, zC, ((rawH h).length : Nat), 0⟩ := by
  have hlen := rawH_len h
  unfold decD
  rw [if_pos ⟨by rw [List.length_append]; omega, rfl⟩, decH_raw hb]
  dsimp only
  rw [hb]
  rfl
theorem chOf_raw {c : Ch} (hb : choiceB c = true) (rest : List UInt8) : chOf (rawC c ++ rest) = c := by
  rw [choiceB_iff] at hb
  have hp := of_decide_eq_true hb
  obtain ⟨v, s, k⟩ := c
  dsimp only at hp
  have n1 := b8_nat v
  have n2 := b8_nat (s / 256)
  have n3 := b8_nat s
  have n4 := b8_nat (k / 16777216)
  have n5 := b8_nat (k / 65536)
  have n6 := b8_nat (k / 256)
  have n7 := b8_nat k
  show (⟨((b8 v).toNat : Int), ((b8 (s / 256)).toNat : Int) * 256 + ((b8 s).toNat : Int), ((((b8 (k / 16777216)).toNat : Int) * 256 + ((b8 (k / 65536)).toNat : Int)) * 256 + ((b8 (k / 256)).toNat : Int)) * 256 + ((b8 k).toNat : Int)⟩ : Ch) = ⟨v, s, k⟩
  rw [n1, n2, n3, n4, n5, n6, n7]
  congr 1 <;> omega
theorem decD_rawC {c : Ch} (hb : choiceB c = true) (rest : List UInt8) : decD (rawC c ++ rest) = ⟨zH, c, 8, 0⟩ := by
  unfold decD
  have e0 : bAt (rawC c ++ rest) 0 = 2 := rfl
  rw [if_neg (by rw [e0]; omega), if_pos ⟨by rw [List.length_append]; show 8 ≤ 8 + _; omega, e0⟩, chOf_raw hb, hb]
  rfl
theorem capD_raw {h : Hl} {c : Ch} (hb : helloB h = true) (hc : choiceB c = true) {r : List UInt8} (he : msgE r = 0) (hm : msgL r = rawH h ++ rawC c) : capD r = ⟨h, c, 0⟩ := by
  have d2 : decD ((rawH h ++ rawC c).drop (rawH h).length) = ⟨zH, c, 8, 0⟩ := by
    rw [List.drop_left]
    have := decD_rawC hc []
    rwa [List.append_nil] at this
  have hlen := rawH_len h
  have b0 : bAt (rawH h ++ rawC c) 0 = 1 := rfl
  have bk : bAt (rawH h ++ rawC c) (rawH h).length = 2 := by
    refine getD_of (x := 2) ?_
    rw [List.getElem?_append_right (Nat.le_refl _), Nat.sub_self]
    rfl
  unfold capD
  rw [hm, decD_rawH hb]
  simp only [Int.toNat_natCast, d2]
  rw [if_pos he, if_pos trivial, if_pos b0, if_pos trivial, if_pos ⟨bk, by rw [List.length_append]; show _ = (((rawH h).length + 8 : Nat) : Int); omega⟩]
end Go.Proofs.Ythjgcmifggdepaa
