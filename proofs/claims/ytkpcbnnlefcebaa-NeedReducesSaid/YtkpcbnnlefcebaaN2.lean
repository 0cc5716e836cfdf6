/- Ways as a table. No program is in sight here. -/
import Derived.Test.YtkpcbnnlefcebaaN1
import Derived.Test.YtkpcbnnlefcebaaWA
set_option linter.unusedVariables false
set_option linter.unusedSimpArgs false
namespace Go.Proofs.Ytkpcbnnlefcebaa
open Go
structure Mx (n : Nat) (M : List (List Bool)) (w : Nat → Nat → Bool) : Prop where
  len : M.length = n
  row : ∀ i, i < n → ∃ r, M[i]? = some r ∧ r.length = n ∧ ∀ j, j < n → r[j]? = some (w i j)
theorem Mx.congr {n : Nat} {M : List (List Bool)} {w w' : Nat → Nat → Bool} (h : Mx n M w) (e : ∀ i j, i < n → j < n → w i j = w' i j) : Mx n M w' :=
  ⟨h.len, fun i hi => by obtain ⟨r, h1, h2, h3⟩ := h.row i hi; exact ⟨r, h1, h2, fun j hj => by rw [h3 j hj, e i j hi hj]⟩⟩
theorem Mx.get {n : Nat} {M : List (List Bool)} {w : Nat → Nat → Bool} (h : Mx n M w) {i : Nat} (hi : i < n) : ∃ r, getI M (i : Int) = some r ∧ r.length = n ∧ M[i]? = some r ∧ ∀ j, j < n → getI r (j : Int) = some (w i j) := by
  obtain ⟨r, h1, h2, h3⟩ := h.row i hi
  exact ⟨r, getI_nat.trans h1, h2, h1, fun j hj => getI_nat.trans (h3 j hj)⟩
def setW (w : Nat → Nat → Bool) (i j : Nat) : Nat → Nat → Bool := fun a b => decide (a = i ∧ b = j) || w a b
theorem Mx.set {n : Nat} {M : List (List Bool)} {w : Nat → Nat → Bool} (h : Mx n M w) {i j : Nat} (hi : i < n) (hj : j < n) {r : List Bool} (hr : M[i]? = some r) : Mx n (setI M i (setI r j true)) (setW w i j) := by
  refine ⟨by unfold setI; rw [List.length_set]; exact h.len, fun a ha => ?_⟩
  unfold setI
  by_cases e : a = i
  · subst e
    obtain ⟨r', h1, h2, h3⟩ := h.row a ha
    rw [hr] at h1
    injection h1 with h1
    subst h1
    refine ⟨r.set j true, List.getElem?_set_self (by rw [h.len]; exact ha), by rw [List.length_set]; exact h2, fun b hb => ?_⟩
    unfold setW
    by_cases e2 : b = j
    · subst e2
      rw [List.getElem?_set_self (by omega), decide_eq_true ⟨rfl, rfl⟩]
      rfl
    · rw [List.getElem?_set_ne (fun e => e2 e.symm), h3 b hb, decide_eq_false (fun e => e2 e.2)]
      rfl
  · obtain ⟨r', h1, h2, h3⟩ := h.row a ha
    refine ⟨r', by rw [List.getElem?_set_ne (fun x => e x.symm)]; exact h1, h2, fun b hb => ?_⟩
    unfold setW
    rw [h3 b hb, decide_eq_false (fun x => e x.1)]
    rfl
def edge (l : List api_Required) : Nat → Nat → Bool := fun a b => l.any fun r => decide (r = ⟨(a : Int), (b : Int)⟩)
def InR (n : Nat) (l : List api_Required) : Prop := ∀ r ∈ l, 0 ≤ r.First ∧ r.First < n ∧ 0 ≤ r.Then ∧ r.Then < n
theorem edge_iff {l : List api_Required} {a b : Nat} : edge l a b = true ↔ (⟨(a : Int), (b : Int)⟩ : api_Required) ∈ l := by
  unfold edge
  rw [List.any_eq_true]
  constructor
  · rintro ⟨r, h1, h2⟩
    rw [of_decide_eq_true h2] at h1; exact h1
  · intro h
    exact ⟨_, h, decide_eq_true rfl⟩
theorem edge_lt {n : Nat} {l : List api_Required} (h : InR n l) {a b : Nat} (hab : edge l a b = true) : a < n ∧ b < n := by
  obtain ⟨h1, h2, h3, h4⟩ := h _ (edge_iff.1 hab)
  simp only at h1 h2 h3 h4
  omega
def cur (k : Nat) (w : Nat → Nat → Bool) (i j : Nat) : Nat → Nat → Bool := fun a b => if a < i ∨ (a = i ∧ b < j) then wst k w a b else w a b
theorem wst_col {k : Nat} {w : Nat → Nat → Bool} {i : Nat} : wst k w i k = w i k := by unfold wst; cases w i k <;> simp
theorem wst_row {k : Nat} {w : Nat → Nat → Bool} {j : Nat} : wst k w k j = w k j := by unfold wst; cases w k j <;> simp
theorem cur_col {k : Nat} {w : Nat → Nat → Bool} {i j a : Nat} : cur k w i j a k = w a k := by unfold cur; split; exact wst_col; rfl
theorem cur_row {k : Nat} {w : Nat → Nat → Bool} {i j b : Nat} : cur k w i j k b = w k b := by unfold cur; split; exact wst_row; rfl
theorem cur_here {k : Nat} {w : Nat → Nat → Bool} {i j : Nat} : cur k w i j i j = w i j := by unfold cur; rw [if_neg (by omega)]
theorem cur_next {k : Nat} {w : Nat → Nat → Bool} {i j a b : Nat} : cur k w i (j + 1) a b = if a = i ∧ b = j then wst k w i j else cur k w i j a b := by
  unfold cur
  by_cases e : a = i ∧ b = j
  · rw [if_pos e, e.1, e.2, if_pos (by omega)]
  · rw [if_neg e]
    by_cases h : a < i ∨ (a = i ∧ b < j)
    · rw [if_pos h, if_pos (by omega)]
    · rw [if_neg h, if_neg (by omega)]
theorem ways_ok {n : Nat} (hn : n ≤ 1000) {l : List api_Required} (hl : InR n l) (hlen : l.length ≤ 1000000) : Ok (g_ref28_Ways (n : Int) l) (fun M => Mx n M (warsh (edge l) n)) := by
  -- the stages
  have l6 : ∀ (k i : Nat) (w : Nat → Nat → Bool), k < n → i < n → ∀ (s : Int × List (List Bool)), (∃ j : Nat, s.1 = (j : Int) ∧ j ≤ n ∧ Mx n s.2 (cur k w i j)) →
      Ok (loop (fun q' => g_ref28_Ways.l6 (n : Int) (k : Int) (i : Int) q'.1 q'.2) s) (Rd' (fun s' : Int × List (List Bool) => (s'.1 = ((i + 1 : Nat) : Int) ∧ Mx n s'.2 (cur k w (i + 1) 0)) ∧ True) (fun _ => False)) := by
    intro k i w hk hi s hs
    refine Ok.loop (fun s : Int × List (List Bool) => ∃ j : Nat, s.1 = (j : Int) ∧ j ≤ n ∧ Mx n s.2 (cur k w i j)) (fun s => n - s.1.toNat) ?_ hs
    rintro ⟨_, M⟩ ⟨j, rfl, hj, hM⟩
    show Ok (g_ref28_Ways.l6 (n : Int) (k : Int) (i : Int) (j : Int) M) _
    unfold g_ref28_Ways.l6
    refine Ok.cond (fun h => ?_) (fun h => ?_)
    · have hjn : j < n := by have := of_decide_eq_true h; omega
      obtain ⟨r, a1, a2, a3, a4⟩ := hM.get hi
      obtain ⟨r2, b1, b2, b3, b4⟩ := hM.get hk
      have e1 : W ((j : Int) + 1) = ((j + 1 : Nat) : Int) := by rw [W_id (by omega)]; omega
      rw [a1, Option.bind_some, a4 k hk, Option.bind_some, cur_col]
      have fin : ∀ b : Bool, (b = true → w i k = true ∧ w k j = true) → (b = false → ¬ (w i k = true ∧ w k j = true)) → Ok (g_ref28_Ways.j7 (i : Int) (j : Int) M b) (Rd' (fun s' : Int × List (List Bool) => (∃ j : Nat, s'.1 = (j : Int) ∧ j ≤ n ∧ Mx n s'.2 (cur k w i j)) ∧ n - s'.1.toNat < n - ((j : Int)).toNat) (Rd' (fun s' : Int × List (List Bool) => (s'.1 = ((i + 1 : Nat) : Int) ∧ Mx n s'.2 (cur k w (i + 1) 0)) ∧ True) (fun _ => False))) := by
        intro b hb1 hb2
        unfold g_ref28_Ways.j7
        refine Ok.cond (fun h => ?_) (fun h => ?_)
        · obtain ⟨q1, q2⟩ := hb1 h
          rw [a1, Option.bind_some, a4 j hjn, Option.bind_some]
          unfold g_ref28_Ways.j8
          rw [e1]
          refine Ok.ret ⟨⟨j + 1, rfl, by omega, ?_⟩, by show n - ((j + 1 : Nat) : Int).toNat < _; omega⟩
          have := hM.set (j := j) hi hjn a3
          rw [show (i : Int).toNat = i from rfl, show (j : Int).toNat = j from rfl]
          refine this.congr fun a b _ _ => ?_
          rw [cur_next]
          unfold setW
          by_cases e : a = i ∧ b = j
          · rw [decide_eq_true e, if_pos e]
            unfold wst
            rw [q1, q2]; simp
          · rw [decide_eq_false e, if_neg e]; rfl
        · have q := hb2 h
          unfold g_ref28_Ways.j8
          rw [e1]
          refine Ok.ret ⟨⟨j + 1, rfl, by omega, hM.congr fun a b _ _ => ?_⟩, by show n - ((j + 1 : Nat) : Int).toNat < _; omega⟩
          rw [cur_next]
          by_cases e : a = i ∧ b = j
          · rw [if_pos e, e.1, e.2, cur_here]
            unfold wst
            cases h1 : w i k with
            | false => simp
            | true =>
              cases h2 : w k j with
              | false => simp
              | true => exact absurd ⟨h1, h2⟩ q
          · rw [if_neg e]
      refine Ok.cond (fun h1 => ?_) (fun h1 => ?_)
      · rw [b1, Option.bind_some, b4 j hjn, Option.bind_some, cur_row]
        exact fin _ (fun h2 => ⟨h1, h2⟩) (fun h2 h3 => by rw [h3.2] at h2; cases h2)
      · exact fin _ (fun h2 => by cases h2) (fun _ h3 => by rw [h3.1] at h1; cases h1)
    · have hjn : j = n := by have := of_decide_eq_false h; omega
      subst hjn
      refine Ok.up (Ok.ret ⟨⟨?_, hM.congr fun a b ha hb => ?_⟩, trivial⟩)
      · rw [W_id (by omega)]; omega
      · unfold cur
        by_cases h : a < i ∨ (a = i ∧ b < j)
        · rw [if_pos h, if_pos (by omega)]
        · rw [if_neg h, if_neg (by omega)]
  have l5 : ∀ (k : Nat) (w : Nat → Nat → Bool), k < n → ∀ M, Mx n M w → Ok (loop (fun q' => g_ref28_Ways.l5 (n : Int) (k : Int) q'.1 q'.2) (0, M)) (Rd' (fun s' : Int × List (List Bool) => s'.1 = ((k + 1 : Nat) : Int) ∧ Mx n s'.2 (wst k w)) (fun _ => False)) := by
    intro k w hk M hM
    refine Ok.loop (fun s : Int × List (List Bool) => ∃ i : Nat, s.1 = (i : Int) ∧ i ≤ n ∧ Mx n s.2 (cur k w i 0)) (fun s => n - s.1.toNat) ?_ ⟨0, rfl, Nat.zero_le _, hM.congr fun a b _ _ => by unfold cur; rw [if_neg (by omega)]⟩
    rintro ⟨_, M⟩ ⟨i, rfl, hi, hM⟩
    show Ok (g_ref28_Ways.l5 (n : Int) (k : Int) (i : Int) M) _
    unfold g_ref28_Ways.l5
    refine Ok.cond (fun h => ?_) (fun h => ?_)
    · have hin : i < n := by have := of_decide_eq_true h; omega
      refine (l6 k i w hk hin (0, M) ⟨0, rfl, Nat.zero_le _, hM⟩).mono fun o ho => ?_
      cases o with
      | done r => exact ho.elim
      | next s =>
        obtain ⟨⟨h1, h2⟩, -⟩ := ho
        exact ⟨⟨i + 1, h1, hin, h2⟩, by show n - s.1.toNat < n - ((i : Int)).toNat; rw [h1]; omega⟩
    · have hin : i = n := by have := of_decide_eq_false h; omega
      subst hin
      refine Ok.up (Ok.ret ⟨?_, hM.congr fun a b ha hb => ?_⟩)
      · rw [W_id (by omega)]; omega
      · unfold cur; rw [if_pos (.inl ha)]
  have l4 : ∀ M, Mx n M (edge l) → Ok (loop (fun q' => g_ref28_Ways.l4 (n : Int) q'.1 q'.2) (0, M)) (fun M => Mx n M (warsh (edge l) n)) := by
    intro M hM
    refine Ok.loop (fun s : Int × List (List Bool) => ∃ k : Nat, s.1 = (k : Int) ∧ k ≤ n ∧ Mx n s.2 (warsh (edge l) k)) (fun s => n - s.1.toNat) ?_ ⟨0, rfl, Nat.zero_le _, hM⟩
    rintro ⟨_, M⟩ ⟨k, rfl, hk, hM⟩
    show Ok (g_ref28_Ways.l4 (n : Int) (k : Int) M) _
    unfold g_ref28_Ways.l4
    refine Ok.cond (fun h => ?_) (fun h => ?_)
    · have hkn : k < n := by have := of_decide_eq_true h; omega
      refine (l5 k _ hkn M hM).mono fun o ho => ?_
      cases o with
      | done r => exact ho.elim
      | next s =>
        obtain ⟨h1, h2⟩ := ho
        exact ⟨⟨k + 1, h1, hkn, h2⟩, by show n - s.1.toNat < n - ((k : Int)).toNat; rw [h1]; omega⟩
    · have hkn : k = n := by have := of_decide_eq_false h; omega
      subst hkn
      exact Ok.up (Ok.ret hM)
  -- the steps
  have l3 : ∀ M, Mx n M (fun _ _ => false) → Ok (loop (fun q' => g_ref28_Ways.l3 (n : Int) l q'.1 q'.2) (0, M)) (fun M => Mx n M (warsh (edge l) n)) := by
    intro M hM
    refine Ok.loop (fun s : Int × List (List Bool) => ∃ i : Nat, s.1 = (i : Int) ∧ i ≤ l.length ∧ Mx n s.2 (edge (l.take i))) (fun s => l.length - s.1.toNat) ?_ ⟨0, rfl, Nat.zero_le _, hM.congr fun a b _ _ => rfl⟩
    rintro ⟨_, M⟩ ⟨i, rfl, hi, hM⟩
    show Ok (g_ref28_Ways.l3 (n : Int) l (i : Int) M) _
    unfold g_ref28_Ways.l3
    refine Ok.cond (fun h => ?_) (fun h => ?_)
    · have hil : i < l.length := by have := of_decide_eq_true h; omega
      obtain ⟨r, hr⟩ : ∃ r, l[i]? = some r := ⟨_, List.getElem?_eq_getElem hil⟩
      obtain ⟨q1, q2, q3, q4⟩ := hl r (List.mem_of_getElem? hr)
      obtain ⟨a, ha⟩ : ∃ a : Nat, r.First = (a : Int) := ⟨r.First.toNat, by omega⟩
      obtain ⟨b, hb⟩ : ∃ b : Nat, r.Then = (b : Int) := ⟨r.Then.toNat, by omega⟩
      obtain ⟨row, a1, a2, a3, a4⟩ := hM.get (i := a) (by omega)
      rw [getI_nat, hr, Option.bind_some, ha, a1, Option.bind_some, hb, a4 b (by omega), Option.bind_some]
      refine Ok.ret ⟨⟨i + 1, by rw [W_id (by omega)]; omega, hil, ?_⟩, by show l.length - (W ((i : Int) + 1)).toNat < l.length - ((i : Int)).toNat; rw [W_id (by omega)]; omega⟩
      refine (hM.set (j := b) (by omega) (by omega) a3).congr fun x y _ _ => ?_
      unfold setW edge
      rw [take_succ' hr, List.any_append, Bool.or_comm]
      congr 1
      simp only [List.any_cons, List.any_nil, Bool.or_false]
      have : r = ⟨(a : Int), (b : Int)⟩ := by rw [← ha, ← hb]
      rw [this]
      by_cases e : x = a ∧ y = b
      · rw [decide_eq_true e, e.1, e.2, decide_eq_true rfl]
      · rw [decide_eq_false e, decide_eq_false]
        intro e2
        injection e2 with e3 e4
        exact e ⟨by omega, by omega⟩
    · have hil : i = l.length := by have := of_decide_eq_false h; omega
      subst hil
      rw [List.take_length] at hM
      exact Ok.up (l4 M hM)
  unfold g_ref28_Ways
  refine Ok.loop (fun s : Int × List (List Bool) => ∃ i : Nat, s.1 = (i : Int) ∧ i ≤ n ∧ s.2 = List.replicate i (List.replicate n false)) (fun s => n - s.1.toNat) ?_ ⟨0, rfl, Nat.zero_le _, rfl⟩
  rintro ⟨_, _⟩ ⟨i, rfl, hi, rfl⟩
  show Ok (g_ref28_Ways.l2 (n : Int) l (i : Int) (List.replicate i (List.replicate n false))) _
  unfold g_ref28_Ways.l2
  refine Ok.cond (fun h => ?_) (fun h => ?_)
  · have hin : i < n := by have := of_decide_eq_true h; omega
    have e0 : makI 1 (n : Int) false = some (List.replicate n false) := by
      unfold makI
      rw [if_pos (by omega)]
      rfl
    rw [e0, Option.bind_some, appI_ok (by simp; omega), Option.bind_some]
    refine Ok.ret ⟨⟨i + 1, by rw [W_id (by omega)]; omega, hin, ?_⟩, by show n - (W ((i : Int) + 1)).toNat < n - ((i : Int)).toNat; rw [W_id (by omega)]; omega⟩
    show List.replicate i (List.replicate n false) ++ [List.replicate n false] = _
    rw [List.replicate_succ']
  · have hin : i = n := by have := of_decide_eq_false h; omega
    subst hin
    refine Ok.up (l3 _ ⟨by simp, fun a ha => ⟨List.replicate i false, by simp [ha], by simp, fun b hb => by simp [hb]⟩⟩)
theorem need_Chain_ok (l : List Int) (hl : l.length ≤ 1000) : Ok (g_need_Chain l) (fun r => r = sortS ltR ((List.range (l.length - 1)).map fun i => ⟨l.getD i 0, l.getD (i + 1) 0⟩)) := by
  unfold g_need_Chain
  refine Ok.loop (fun s : Int × List api_Required => ∃ i : Nat, s.1 = ((i + 1 : Nat) : Int) ∧ (i = 0 ∨ i + 1 ≤ l.length) ∧ s.2 = (List.range i).map fun i => ⟨l.getD i 0, l.getD (i + 1) 0⟩) (fun s => l.length - s.1.toNat) ?_ ⟨0, rfl, .inl rfl, rfl⟩
  rintro ⟨_, _⟩ ⟨i, rfl, hi, rfl⟩
  show Ok (g_need_Chain.l1 l ((i + 1 : Nat) : Int) _) _
  unfold g_need_Chain.l1
  refine Ok.cond (fun h => ?_) (fun h => ?_)
  · have hil : i + 1 < l.length := by have := of_decide_eq_true h; omega
    have e1 : l[i]? = some (l.getD i 0) := by rw [List.getD_eq_getElem?_getD, List.getElem?_eq_getElem (by omega)]; rfl
    have e2 : l[i + 1]? = some (l.getD (i + 1) 0) := by rw [List.getD_eq_getElem?_getD, List.getElem?_eq_getElem (by omega)]; rfl
    rw [W_id (by omega), show ((i + 1 : Nat) : Int) - 1 = (i : Int) by omega, getI_nat, e1, Option.bind_some, getI_nat, e2, Option.bind_some, appI_ok (by simp; omega), Option.bind_some]
    refine Ok.ret ⟨⟨i + 1, by rw [W_id (by omega)]; omega, .inr (by omega), by rw [List.range_succ]; simp⟩, by show l.length - (W (((i + 1 : Nat) : Int) + 1)).toNat < l.length - (((i + 1 : Nat) : Int)).toNat; rw [W_id (by omega)]; omega⟩
  · have hil : l.length - 1 = i := by have := of_decide_eq_false h; omega
    rw [need_sorted_ok _ (by simp; omega), Option.bind_some]
    exact Ok.up (Ok.ret (by rw [hil]))
structure Mad (n : Nat) (l : List api_Required) : Prop where
  asc : SA l
  len : l.length ≤ 200
  fwd : ∀ r ∈ l, 0 ≤ r.First ∧ r.First < r.Then ∧ r.Then < n
theorem move_Needs_ok {d : cipherplanmake_Dice} (h : DOK d) (n : Nat) (hn : 1 ≤ n) (hn2 : n ≤ 50) : Ok (g_move_Needs d (n : Int)) (fun y => Mad n y.1 ∧ DOK y.2) := by
  unfold g_move_Needs
  rw [W_id (x := 2 * (n : Int)) (by omega), W_id (by omega)]
  refine Ok.bind (next_ok h _ (by omega) (by omega)) fun y hy => ?_
  refine Ok.loop (fun s : List api_Required × Int × cipherplanmake_Dice => ((SA s.1 ∧ ∀ r ∈ s.1, 0 ≤ r.First ∧ r.First < r.Then ∧ r.Then < n) ∧ (s.1.length : Int) + s.2.1 ≤ 2 * n) ∧ 0 ≤ s.2.1 ∧ DOK s.2.2) (fun s => s.2.1.toNat) ?_ ⟨⟨⟨.nil, fun r hr => by cases hr⟩, by have := hy.1; show ((0 : Nat) : Int) + y.1 ≤ _; omega⟩, by have := hy.1; show 0 ≤ y.1; omega, hy.2⟩
  rintro ⟨l, k, d1⟩ ⟨⟨⟨h1, h2⟩, h3⟩, h4, h5⟩
  simp only at h1 h2 h3 h4 h5
  show Ok (g_move_Needs.l1 (n : Int) l k d1) _
  unfold g_move_Needs.l1
  have done_ : Ok (g_move_Needs.j2 (n : Int) l k d1 false) (Rd' (fun s' : List api_Required × Int × cipherplanmake_Dice => (((SA s'.1 ∧ ∀ r ∈ s'.1, 0 ≤ r.First ∧ r.First < r.Then ∧ r.Then < n) ∧ (s'.1.length : Int) + s'.2.1 ≤ 2 * n) ∧ 0 ≤ s'.2.1 ∧ DOK s'.2.2) ∧ s'.2.1.toNat < k.toNat) (fun y => Mad n y.1 ∧ DOK y.2)) :=
    Ok.up (Ok.ret ⟨⟨h1, by show l.length ≤ 200; omega, h2⟩, h5⟩)
  refine Ok.cond (fun hk => ?_) (fun _ => done_)
  have hk := of_decide_eq_true hk
  cases hb : decide (1 < (n : Int)) with
  | false => exact done_
  | true =>
    unfold g_move_Needs.j2
    rw [cond_true]
    refine Ok.bind (next_ok h5 _ (by omega) (by omega)) fun y2 hy2 => ?_
    refine Ok.bind (next_ok hy2.2 _ (by omega) (by omega)) fun y3 hy3 => ?_
    refine Ok.cond (fun hlt => ?_) (fun _ => ?_)
    · have hlt := of_decide_eq_true hlt
      rw [ref28_Union_ok _ _ (by simp; omega), Option.bind_some]
      unfold g_move_Needs.j3
      rw [W_id (by omega)]
      have hlen := sortS_len ltR (l ++ [(⟨y2.1, y3.1⟩ : api_Required)])
      rw [List.length_append] at hlen
      simp only [List.length_cons, List.length_nil] at hlen
      refine Ok.ret ⟨⟨⟨⟨sortS_asc linR _, fun r hr => ?_⟩, by show ((sortS ltR _).length : Int) + (k - 1) ≤ _; omega⟩, by show 0 ≤ k - 1; omega, hy3.2⟩, by show (k - 1).toNat < k.toNat; omega⟩
      rcases List.mem_append.1 ((sortS_mem linR).1 hr) with hr | hr
      · exact h2 r hr
      · rw [List.mem_singleton.1 hr]
        exact ⟨hy2.1.1, hlt, hy3.1.2⟩
    · unfold g_move_Needs.j3
      rw [W_id (by omega)]
      exact Ok.ret ⟨⟨⟨⟨h1, h2⟩, by show (l.length : Int) + (k - 1) ≤ _; omega⟩, by show 0 ≤ k - 1; omega, hy3.2⟩, by show (k - 1).toNat < k.toNat; omega⟩
theorem Mad.inr {n : Nat} {l : List api_Required} (h : Mad n l) : InR n l := fun r hr => by have := h.fwd r hr; omega
theorem awake28 : g_law28_awake = some true := by
  obtain ⟨c, hc, rfl⟩ := need_Chain_ok [2, 0, 1] (by decide)
  unfold g_law28_awake
  have e1 : g_need_Rank (api_Endpoint.mk (⟨#[]⟩ : ByteArray) 0 0 ([] : (List Int)) false ([] : (List api_Identity)) ([] : (List Int)) ([] : (List Int)) false) (api_Change.mk 0 5 0 0 (api_Identity.mk (api_Use.mk 0 0) 0 ([] : List api_Certificate))) = some 1 := rfl
  have e2 : g_need_Rank (api_Endpoint.mk (⟨#[]⟩ : ByteArray) 0 0 ([] : (List Int)) false ([] : (List api_Identity)) ([] : (List Int)) ([] : (List Int)) false) (api_Change.mk 0 2 0 0 (api_Identity.mk (api_Use.mk 0 0) 0 ([] : List api_Certificate))) = some 3 := rfl
  rw [e1, Option.bind_some, decide_eq_true rfl, cond_true, e2, Option.bind_some, decide_eq_true rfl, cond_true, hc, Option.bind_some]
  rfl
theorem roll28 {t : List Int} (h : t.length ≤ 400) : Ok (g_make_Roll t) DOK := Ok.ret ⟨by unfold Lo; show t.length < _; omega, Int.le_refl _, by show (0 : Int) ≤ (t.length : Int); omega⟩
end Go.Proofs.Ytkpcbnnlefcebaa
