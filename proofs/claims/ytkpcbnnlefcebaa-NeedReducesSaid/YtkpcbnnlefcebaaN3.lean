/- Chapter 28: requirements that are reduced. No program is in sight here. -/
import Derived.Test.YtkpcbnnlefcebaaN2
set_option autoImplicit false
namespace Go.Proofs.Ytkpcbnnlefcebaa
open Go
section
variable {κ ν : Type} [DecidableEq κ]
theorem mapGet_cons (p : κ × ν) (l : List (κ × ν)) (x : κ) (z : ν) : mapGet (p :: l) x z = if p.1 = x then p.2 else mapGet l x z := by
  unfold mapGet
  by_cases h : p.1 = x <;> simp [h]
theorem mapPut_cons (p : κ × ν) (l : List (κ × ν)) (x : κ) (v : ν) : mapPut (p :: l) x v = if p.1 = x then (x, v) :: l else p :: mapPut l x v := by
  unfold mapPut
  by_cases h : p.1 = x
  · rw [List.findIdx?_cons, decide_eq_true h, if_pos h]; rfl
  · rw [List.findIdx?_cons, decide_eq_false h, if_neg h]
    cases hf : l.findIdx? (fun p => decide (p.1 = x)) <;> simp
theorem mapGet_put (x : κ) (v : ν) (y : κ) (z : ν) : ∀ l : List (κ × ν), mapGet (mapPut l x v) y z = if x = y then v else mapGet l y z
  | [] => by
    show mapGet [(x, v)] y z = _
    rw [mapGet_cons]
  | p :: l => by
    rw [mapPut_cons]
    by_cases h : p.1 = x
    · rw [if_pos h, mapGet_cons, mapGet_cons]
      by_cases e : x = y
      · rw [if_pos e, if_pos e]
      · rw [if_neg e, if_neg e, if_neg (by rw [h]; exact e)]
    · rw [if_neg h, mapGet_cons, mapGet_put x v y z l, mapGet_cons]
      by_cases e : x = y
      · rw [if_pos e, if_pos e, if_neg (by rw [← e]; exact h)]
      · rw [if_neg e, if_neg e]
end
def MW (n : Nat) (m : List (api_Required × Bool)) (w : Nat → Nat → Bool) : Prop := ∀ a b : Nat, a < n → b < n → mapGet m ⟨(a : Int), (b : Int)⟩ false = w a b
theorem MW.congr {n : Nat} {m : List (api_Required × Bool)} {w w' : Nat → Nat → Bool} (h : MW n m w) (e : ∀ i j, i < n → j < n → w i j = w' i j) : MW n m w' := fun a b ha hb => (h a b ha hb).trans (e a b ha hb)
theorem MW.put {n : Nat} {m : List (api_Required × Bool)} {w : Nat → Nat → Bool} (h : MW n m w) (i j : Nat) : MW n (mapPut m ⟨(i : Int), (j : Int)⟩ true) (setW w i j) := fun a b ha hb => by
  rw [mapGet_put, h a b ha hb]
  unfold setW
  by_cases e : a = i ∧ b = j
  · rw [decide_eq_true e, if_pos (by rw [e.1, e.2])]; rfl
  · rw [decide_eq_false e, if_neg (fun x => by injection x with x1 x2; exact e ⟨by omega, by omega⟩)]; rfl
theorem reach_ok {n : Nat} (hn : n ≤ 1000) {l : List api_Required} (hl : InR n l) (hlen : l.length ≤ 1000000) : Ok (g_need_reach (n : Int) l) (fun M => MW n M (warsh (edge l) n)) := by
  have l6 : ∀ (k i : Nat) (w : Nat → Nat → Bool), k < n → i < n → ∀ (s : Int × List (api_Required × Bool)), (∃ j : Nat, s.1 = (j : Int) ∧ j ≤ n ∧ MW n s.2 (cur k w i j)) →
      Ok (loop (fun q' => g_need_reach.l4 (n : Int) (k : Int) (i : Int) q'.1 q'.2) s) (Rd' (fun s' : Int × List (api_Required × Bool) => (s'.1 = ((i + 1 : Nat) : Int) ∧ MW n s'.2 (cur k w (i + 1) 0)) ∧ True) (fun _ => False)) := by
    intro k i w hk hi s hs
    refine Ok.loop (fun s : Int × List (api_Required × Bool) => ∃ j : Nat, s.1 = (j : Int) ∧ j ≤ n ∧ MW n s.2 (cur k w i j)) (fun s => n - s.1.toNat) ?_ hs
    rintro ⟨_, M⟩ ⟨j, rfl, hj, hM⟩
    have hM : MW n M (cur k w i j) := hM
    show Ok (g_need_reach.l4 (n : Int) (k : Int) (i : Int) (j : Int) M) _
    unfold g_need_reach.l4
    refine Ok.cond (fun h => ?_) (fun h => ?_)
    · have hjn : j < n := by have := of_decide_eq_true h; omega
      have e1 : W ((j : Int) + 1) = ((j + 1 : Nat) : Int) := by rw [W_id (by omega)]; omega
      rw [hM i k hi hk, hM k j hk hjn, cur_col, cur_row]
      have fin : ∀ b : Bool, (b = true → w i k = true ∧ w k j = true) → (b = false → ¬ (w i k = true ∧ w k j = true)) → Ok (g_need_reach.j5 (i : Int) (j : Int) M b) (Rd' (fun s' : Int × List (api_Required × Bool) => (∃ j : Nat, s'.1 = (j : Int) ∧ j ≤ n ∧ MW n s'.2 (cur k w i j)) ∧ n - s'.1.toNat < n - ((j : Int)).toNat) (Rd' (fun s' : Int × List (api_Required × Bool) => (s'.1 = ((i + 1 : Nat) : Int) ∧ MW n s'.2 (cur k w (i + 1) 0)) ∧ True) (fun _ => False))) := by
        intro b hb1 hb2
        unfold g_need_reach.j5
        refine Ok.cond (fun h => ?_) (fun h => ?_)
        · obtain ⟨q1, q2⟩ := hb1 h
          unfold g_need_reach.j6
          rw [e1]
          refine Ok.ret ⟨⟨j + 1, rfl, by omega, (hM.put i j).congr fun a b _ _ => ?_⟩, by show n - ((j + 1 : Nat) : Int).toNat < _; omega⟩
          rw [cur_next]
          unfold setW
          by_cases e : a = i ∧ b = j
          · rw [decide_eq_true e, if_pos e]
            unfold wst
            rw [q1, q2]; simp
          · rw [decide_eq_false e, if_neg e]; rfl
        · have q := hb2 h
          unfold g_need_reach.j6
          rw [e1]
          refine Ok.ret ⟨⟨j + 1, rfl, by omega, hM.congr fun a b _ _ => ?_⟩, by show n - ((j + 1 : Nat) : Int).toNat < _; omega⟩
          rw [cur_next]
          by_cases e : a = i ∧ b = j
          · rw [if_pos e, e.1, e.2, cur_here]
            unfold wst
            cases h1 : w i k with
            | false => simp
            | true =>
              cases h2 : w k j with
              | false => simp
              | true => exact absurd ⟨h1, h2⟩ q
          · rw [if_neg e]
      refine Ok.cond (fun h1 => ?_) (fun h1 => ?_)
      · exact fin _ (fun h2 => ⟨h1, h2⟩) (fun h2 h3 => by rw [h3.2] at h2; cases h2)
      · exact fin _ (fun h2 => by cases h2) (fun _ h3 => by rw [h3.1] at h1; cases h1)
    · have hjn : j = n := by have := of_decide_eq_false h; omega
      subst hjn
      refine Ok.up (Ok.ret ⟨⟨?_, hM.congr fun a b ha hb => ?_⟩, trivial⟩)
      · rw [W_id (by omega)]; omega
      · unfold cur
        by_cases h : a < i ∨ (a = i ∧ b < j)
        · rw [if_pos h, if_pos (by omega)]
        · rw [if_neg h, if_neg (by omega)]
  have l5 : ∀ (k : Nat) (w : Nat → Nat → Bool), k < n → ∀ M, MW n M w → Ok (loop (fun q' => g_need_reach.l3 (n : Int) (k : Int) q'.1 q'.2) (0, M)) (Rd' (fun s' : Int × List (api_Required × Bool) => s'.1 = ((k + 1 : Nat) : Int) ∧ MW n s'.2 (wst k w)) (fun _ => False)) := by
    intro k w hk M hM
    refine Ok.loop (fun s : Int × List (api_Required × Bool) => ∃ i : Nat, s.1 = (i : Int) ∧ i ≤ n ∧ MW n s.2 (cur k w i 0)) (fun s => n - s.1.toNat) ?_ ⟨0, rfl, Nat.zero_le _, hM.congr fun a b _ _ => by unfold cur; rw [if_neg (by omega)]⟩
    rintro ⟨_, M⟩ ⟨i, rfl, hi, hM⟩
    have hM : MW n M (cur k w i 0) := hM
    show Ok (g_need_reach.l3 (n : Int) (k : Int) (i : Int) M) _
    unfold g_need_reach.l3
    refine Ok.cond (fun h => ?_) (fun h => ?_)
    · have hin : i < n := by have := of_decide_eq_true h; omega
      refine (l6 k i w hk hin (0, M) ⟨0, rfl, Nat.zero_le _, hM⟩).mono fun o ho => ?_
      cases o with
      | done r => exact ho.elim
      | next s =>
        obtain ⟨⟨h1, h2⟩, -⟩ := ho
        exact ⟨⟨i + 1, h1, hin, h2⟩, by show n - s.1.toNat < n - ((i : Int)).toNat; rw [h1]; omega⟩
    · have hin : i = n := by have := of_decide_eq_false h; omega
      subst hin
      refine Ok.up (Ok.ret ⟨?_, hM.congr fun a b ha hb => ?_⟩)
      · rw [W_id (by omega)]; omega
      · unfold cur; rw [if_pos (.inl ha)]
  have l4 : ∀ M, MW n M (edge l) → Ok (loop (fun q' => g_need_reach.l2 (n : Int) q'.1 q'.2) (0, M)) (fun M => MW n M (warsh (edge l) n)) := by
    intro M hM
    refine Ok.loop (fun s : Int × List (api_Required × Bool) => ∃ k : Nat, s.1 = (k : Int) ∧ k ≤ n ∧ MW n s.2 (warsh (edge l) k)) (fun s => n - s.1.toNat) ?_ ⟨0, rfl, Nat.zero_le _, hM⟩
    rintro ⟨_, M⟩ ⟨k, rfl, hk, hM⟩
    have hM : MW n M (warsh (edge l) k) := hM
    show Ok (g_need_reach.l2 (n : Int) (k : Int) M) _
    unfold g_need_reach.l2
    refine Ok.cond (fun h => ?_) (fun h => ?_)
    · have hkn : k < n := by have := of_decide_eq_true h; omega
      refine (l5 k _ hkn M hM).mono fun o ho => ?_
      cases o with
      | done r => exact ho.elim
      | next s =>
        obtain ⟨h1, h2⟩ := ho
        exact ⟨⟨k + 1, h1, hkn, h2⟩, by show n - s.1.toNat < n - ((k : Int)).toNat; rw [h1]; omega⟩
    · have hkn : k = n := by have := of_decide_eq_false h; omega
      subst hkn
      exact Ok.up (Ok.ret hM)
  unfold g_need_reach
  refine Ok.loop (fun s : Int × List (api_Required × Bool) => ∃ i : Nat, s.1 = (i : Int) ∧ i ≤ l.length ∧ MW n s.2 (edge (l.take i))) (fun s => l.length - s.1.toNat) ?_ ⟨0, rfl, Nat.zero_le _, fun a b _ _ => rfl⟩
  rintro ⟨_, M⟩ ⟨i, rfl, hi, hM⟩
  have hM : MW n M (edge (l.take i)) := hM
  show Ok (g_need_reach.l1 (n : Int) l (i : Int) M) _
  unfold g_need_reach.l1
  refine Ok.cond (fun h => ?_) (fun h => ?_)
  · have hil : i < l.length := by have := of_decide_eq_true h; omega
    obtain ⟨r, hr⟩ : ∃ r, l[i]? = some r := ⟨_, List.getElem?_eq_getElem hil⟩
    obtain ⟨q1, q2, q3, q4⟩ := hl r (List.mem_of_getElem? hr)
    obtain ⟨a, ha⟩ : ∃ a : Nat, r.First = (a : Int) := ⟨r.First.toNat, by omega⟩
    obtain ⟨b, hb⟩ : ∃ b : Nat, r.Then = (b : Int) := ⟨r.Then.toNat, by omega⟩
    have hrab : r = ⟨(a : Int), (b : Int)⟩ := by rw [← ha, ← hb]
    rw [getI_nat, hr, Option.bind_some]
    refine Ok.ret ⟨⟨i + 1, by rw [W_id (by omega)]; omega, hil, ?_⟩, by show l.length - (W ((i : Int) + 1)).toNat < l.length - ((i : Int)).toNat; rw [W_id (by omega)]; omega⟩
    show MW n (mapPut M r true) _
    rw [hrab]
    refine (hM.put a b).congr fun x y _ _ => ?_
    unfold setW edge
    rw [take_succ' hr, List.any_append, Bool.or_comm]
    congr 1
    simp only [List.any_cons, List.any_nil, Bool.or_false]
    rw [hrab]
    by_cases e : x = a ∧ y = b
    · rw [decide_eq_true e, e.1, e.2, decide_eq_true rfl]
    · rw [decide_eq_false e, decide_eq_false]
      intro e2
      injection e2 with e3 e4
      exact e ⟨by omega, by omega⟩
  · have hil : i = l.length := by have := of_decide_eq_false h; omega
    subst hil
    rw [List.take_length] at hM
    exact Ok.up (l4 M hM)
def keep (n : Nat) (l : List api_Required) (r : api_Required) : Bool := !(List.range n).any fun k => warsh (edge l) n r.First.toNat k && warsh (edge l) n k r.Then.toNat
def red (n : Nat) (l : List api_Required) : List api_Required := l.filter (keep n l)
theorem Mad.eup {n : Nat} {l : List api_Required} (h : Mad n l) {a b : Nat} (e : edge l a b = true) : a < b := by
  have := h.fwd _ (edge_iff.1 e)
  simp only at this
  omega
theorem Mad.acy {n : Nat} {l : List api_Required} (h : Mad n l) (a : Nat) : ¬ TC (fun a b => edge l a b = true) a a := fun ht => by
  have := ht.up (fun _ _ => h.eup)
  omega
theorem Mad.wr {n : Nat} {l : List api_Required} (h : Mad n l) {a b : Nat} : warsh (edge l) n a b = true ↔ TC (fun a b => edge l a b = true) a b := warsh_iff fun _ _ => edge_lt h.inr
theorem Mad.sub {n : Nat} {l m : List api_Required} (h : Mad n l) (hs : m.Sublist l) : Mad n m := ⟨h.asc.sublist hs, Nat.le_trans hs.length_le h.len, fun r hr => h.fwd r (hs.subset hr)⟩
theorem Mad.red {n : Nat} {l : List api_Required} (h : Mad n l) : Mad n (red n l) := h.sub List.filter_sublist
theorem Mad.keep {n : Nat} {l : List api_Required} (h : Mad n l) {a b : Nat} : keep n l ⟨(a : Int), (b : Int)⟩ = true ↔ ¬ ∃ k, TC (fun a b => edge l a b = true) a k ∧ TC (fun a b => edge l a b = true) k b := by
  unfold Proofs.Ytkpcbnnlefcebaa.keep
  rw [Bool.not_eq_true', ← Bool.not_eq_true, List.any_eq_true]
  refine not_congr ⟨?_, ?_⟩
  · rintro ⟨k, -, hk⟩
    rw [Bool.and_eq_true] at hk
    exact ⟨k, h.wr.1 hk.1, h.wr.1 hk.2⟩
  · rintro ⟨k, h1, h2⟩
    refine ⟨k, List.mem_range.2 (h1.lt (fun _ _ => edge_lt h.inr)).2, ?_⟩
    rw [Bool.and_eq_true]
    exact ⟨h.wr.2 h1, h.wr.2 h2⟩
theorem Mad.edge_red {n : Nat} {l : List api_Required} (h : Mad n l) {a b : Nat} : edge (Proofs.Ytkpcbnnlefcebaa.red n l) a b = true ↔ Rdu (fun a b => edge l a b = true) a b := by
  rw [edge_iff]
  unfold Proofs.Ytkpcbnnlefcebaa.red
  rw [List.mem_filter, h.keep, ← edge_iff]
  exact Iff.rfl
theorem Mad.warsh_red {n : Nat} {l : List api_Required} (h : Mad n l) (a b : Nat) : warsh (edge (Proofs.Ytkpcbnnlefcebaa.red n l)) n a b = warsh (edge l) n a b := by
  rw [Bool.eq_iff_iff, h.red.wr, h.wr, ← rd_iff (R := fun a b => edge l a b = true) (n := n) (fun _ _ => edge_lt h.inr) h.acy]
  constructor
  · exact TC.mono fun _ _ e => h.edge_red.1 e
  · exact TC.mono fun _ _ e => h.edge_red.2 e
theorem Mad.red_red {n : Nat} {l : List api_Required} (h : Mad n l) : Proofs.Ytkpcbnnlefcebaa.red n (Proofs.Ytkpcbnnlefcebaa.red n l) = Proofs.Ytkpcbnnlefcebaa.red n l := by
  have e : Proofs.Ytkpcbnnlefcebaa.keep n (Proofs.Ytkpcbnnlefcebaa.red n l) = Proofs.Ytkpcbnnlefcebaa.keep n l := by
    funext r
    unfold Proofs.Ytkpcbnnlefcebaa.keep
    simp only [h.warsh_red]
  show (Proofs.Ytkpcbnnlefcebaa.red n l).filter (Proofs.Ytkpcbnnlefcebaa.keep n (Proofs.Ytkpcbnnlefcebaa.red n l)) = _
  rw [e]
  unfold Proofs.Ytkpcbnnlefcebaa.red
  rw [List.filter_filter]
  simp
theorem Reduce_ok {n : Nat} (hn : n ≤ 24) {l : List api_Required} (h : Mad n l) : Ok (g_need_Reduce (n : Int) l) (fun y => y = (red n l, 0)) := by
  have hl := h.len
  unfold g_need_Reduce
  rw [decide_eq_false (by omega), cond_false, decide_eq_false (by omega)]
  unfold g_need_Reduce.j2
  rw [cond_false]
  -- none is strange
  have c1 : g_slices_ContainsFunc_api_Required l (fun x0 => g_need_Reduce_c1 x0 n) = some false := by
    have : Ok (g_slices_IndexFunc_api_Required l (fun x0 => g_need_Reduce_c1 x0 n)) (fun y => y = -1) := by
      unfold g_slices_IndexFunc_api_Required
      refine Ok.loop (fun s : Int => ∃ i : Nat, s = (i : Int) ∧ i ≤ l.length) (fun s => l.length - s.toNat) ?_ ⟨0, rfl, Nat.zero_le _⟩
      rintro _ ⟨i, rfl, hi⟩
      show Ok (g_slices_IndexFunc_api_Required.l1 l (fun x0 => g_need_Reduce_c1 x0 n) (i : Int)) _
      unfold g_slices_IndexFunc_api_Required.l1
      refine Ok.cond (fun hb => ?_) (fun hb => ?_)
      · have hil : i < l.length := by have := of_decide_eq_true hb; omega
        obtain ⟨r, hr⟩ : ∃ r, l[i]? = some r := ⟨_, List.getElem?_eq_getElem hil⟩
        have q := h.fwd r (List.mem_of_getElem? hr)
        have hc : g_need_Reduce_c1 r (n : Int) = some false := by
          unfold g_need_Reduce_c1
          rw [decide_eq_false (by omega), cond_false, decide_eq_false (by omega), cond_false, decide_eq_false (by omega), cond_false, decide_eq_false (by omega), cond_false, decide_eq_false (by omega)]
        rw [getI_nat, hr, Option.bind_some]
        show Ok ((g_need_Reduce_c1 r (n : Int)).bind _) _
        rw [hc, Option.bind_some, cond_false, W_id (by omega)]
        exact Ok.ret ⟨⟨i + 1, by omega, hil⟩, by show l.length - ((i : Int) + 1).toNat < l.length - ((i : Int)).toNat; omega⟩
      · exact Ok.up (Ok.ret rfl)
    obtain ⟨y, hy, rfl⟩ := this
    unfold g_slices_ContainsFunc_api_Required
    rw [hy]; rfl
  have c2 : g_need_sorted l = some l := by rw [need_sorted_ok l (by omega), sortS_self linR h.asc]
  have c3 : g_slices_Equal_api_Required l l = some true := by
    refine Ok.true_ ?_
    unfold g_slices_Equal_api_Required
    rw [decide_eq_true rfl, Bool.not_true, cond_false]
    refine Ok.loop (fun s : Int => ∃ i : Nat, s = (i : Int) ∧ i ≤ l.length) (fun s => l.length - s.toNat) ?_ ⟨0, rfl, Nat.zero_le _⟩
    rintro _ ⟨i, rfl, hi⟩
    show Ok (g_slices_Equal_api_Required.l1 l l (i : Int)) _
    unfold g_slices_Equal_api_Required.l1
    refine Ok.cond (fun hb => ?_) (fun hb => ?_)
    · have hil : i < l.length := by have := of_decide_eq_true hb; omega
      obtain ⟨r, hr⟩ : ∃ r, l[i]? = some r := ⟨_, List.getElem?_eq_getElem hil⟩
      rw [getI_nat, hr, Option.bind_some, Option.bind_some, decide_eq_true rfl, Bool.not_true, cond_false, W_id (by omega)]
      exact Ok.ret ⟨⟨i + 1, by omega, hil⟩, by show l.length - ((i : Int) + 1).toNat < l.length - ((i : Int)).toNat; omega⟩
    · exact Ok.up (Ok.ret rfl)
  rw [c1, Option.bind_some, cond_false, c2, Option.bind_some, c3, Option.bind_some, Bool.not_true, cond_false]
  refine Ok.bind (reach_ok (by omega) h.inr (by omega)) fun M hM => ?_
  -- the steps that are kept
  have l5 : ∀ (i : Nat) (e : api_Required), i < l.length → l[i]? = some e → ∀ out : List api_Required, out.length ≤ i → Ok (loop (fun q' => g_need_Reduce.l5 (n : Int) M (i : Int) out e q'.1 q'.2) (false, 0)) (fun o : Lp (Int × List api_Required) ((List api_Required) × Int) => o = .next (((i + 1 : Nat) : Int), out ++ [e].filter (keep n l))) := by
    intro i e hi he out ho
    have q := h.fwd e (List.mem_of_getElem? he)
    obtain ⟨a, ha⟩ : ∃ a : Nat, e.First = (a : Int) := ⟨e.First.toNat, by omega⟩
    obtain ⟨b, hb⟩ : ∃ b : Nat, e.Then = (b : Int) := ⟨e.Then.toNat, by omega⟩
    refine Ok.loop (fun s : Bool × Int => ∃ k : Nat, s.2 = (k : Int) ∧ k ≤ n ∧ s.1 = (List.range k).any fun k => warsh (edge l) n a k && warsh (edge l) n k b) (fun s => n - s.2.toNat) ?_ ⟨0, rfl, Nat.zero_le _, rfl⟩
    rintro ⟨_, _⟩ ⟨k, rfl, hk, rfl⟩
    show Ok (g_need_Reduce.l5 (n : Int) M (i : Int) out e ((List.range k).any fun k => warsh (edge l) n a k && warsh (edge l) n k b) (k : Int)) _
    unfold g_need_Reduce.l5
    refine Ok.cond (fun hc => ?_) (fun hc => ?_)
    · have hkn : k < n := by have := of_decide_eq_true hc; omega
      have fin : ∀ x : Bool, x = ((List.range (k + 1)).any fun k => warsh (edge l) n a k && warsh (edge l) n k b) → Ok (g_need_Reduce.j6 (k : Int) x) (Rd' (fun s' : Bool × Int => (∃ k : Nat, s'.2 = (k : Int) ∧ k ≤ n ∧ s'.1 = (List.range k).any fun k => warsh (edge l) n a k && warsh (edge l) n k b) ∧ n - s'.2.toNat < n - ((k : Int)).toNat) (fun o : Lp (Int × List api_Required) ((List api_Required) × Int) => o = .next (((i + 1 : Nat) : Int), out ++ [e].filter (keep n l)))) := by
        intro x hx
        unfold g_need_Reduce.j6
        rw [W_id (by omega)]
        exact Ok.ret ⟨⟨k + 1, by show (k : Int) + 1 = _; omega, hkn, hx⟩, by show n - ((k : Int) + 1).toNat < n - ((k : Int)).toNat; omega⟩
      refine Ok.cond (fun h1 => fin _ ?_) (fun h1 => ?_)
      · rw [List.range_succ, List.any_append, h1]; rfl
      · rw [ha, hb, hM a k (by omega) hkn, hM k b hkn (by omega)]
        refine Ok.cond (fun h2 => fin _ ?_) (fun h2 => fin _ ?_)
        · rw [List.range_succ, List.any_append, h1]; simp [h2]
        · rw [List.range_succ, List.any_append, h1]; simp [h2]
    · have hkn : k = n := by have := of_decide_eq_false hc; omega
      subst hkn
      have hke : keep k l e = !((List.range k).any fun j => warsh (edge l) k a j && warsh (edge l) k j b) := by
        unfold keep
        rw [ha, hb]; rfl
      unfold g_need_Reduce.j7
      rw [W_id (by omega), ← hke]
      refine Ok.up (Ok.cond (fun h1 => ?_) (fun h1 => ?_))
      · rw [appI_ok (by simp; omega), Option.bind_some]
        refine Ok.ret ?_
        rw [List.filter_cons_of_pos h1]; rfl
      · refine Ok.ret ?_
        rw [List.filter_cons_of_neg (by rw [h1]; decide)]
        simp
  have l4 : Ok (loop (fun q' => g_need_Reduce.l4 (n : Int) l M q'.1 q'.2) (0, ([] : List api_Required))) (fun y => y = (red n l, 0)) := by
    refine Ok.loop (fun s : Int × List api_Required => ∃ i : Nat, s.1 = (i : Int) ∧ i ≤ l.length ∧ s.2 = (l.take i).filter (keep n l)) (fun s => l.length - s.1.toNat) ?_ ⟨0, rfl, Nat.zero_le _, rfl⟩
    rintro ⟨_, _⟩ ⟨i, rfl, hi, rfl⟩
    show Ok (g_need_Reduce.l4 (n : Int) l M (i : Int) ((l.take i).filter (keep n l))) _
    unfold g_need_Reduce.l4
    refine Ok.cond (fun hb => ?_) (fun hb => ?_)
    · have hil : i < l.length := by have := of_decide_eq_true hb; omega
      obtain ⟨r, hr⟩ : ∃ r, l[i]? = some r := ⟨_, List.getElem?_eq_getElem hil⟩
      rw [getI_nat, hr, Option.bind_some]
      refine (l5 i r hil hr _ (Nat.le_trans (List.length_filter_le _ _) (by rw [List.length_take]; omega))).mono fun o ho => ?_
      subst ho
      refine ⟨⟨i + 1, rfl, hil, ?_⟩, by show l.length - (((i + 1 : Nat) : Int)).toNat < l.length - ((i : Int)).toNat; omega⟩
      show _ ++ _ = _
      rw [take_succ' hr, List.filter_append]
    · have hil : i = l.length := by have := of_decide_eq_false hb; omega
      subst hil
      rw [List.take_length]
      exact Ok.up (Ok.ret rfl)
  refine Ok.loop (fun s : Int => ∃ k : Nat, s = (k : Int) ∧ k ≤ n) (fun s => n - s.toNat) ?_ ⟨0, rfl, Nat.zero_le _⟩
  rintro _ ⟨k, rfl, hk⟩
  show Ok (g_need_Reduce.l3 (n : Int) l M (k : Int)) _
  unfold g_need_Reduce.l3
  refine Ok.cond (fun hb => ?_) (fun hb => ?_)
  · have hkn : k < n := by have := of_decide_eq_true hb; omega
    rw [hM k k hkn hkn]
    refine Ok.cond (fun h1 => absurd (h.wr.1 h1) (h.acy k)) (fun h1 => ?_)
    rw [W_id (by omega)]
    exact Ok.ret ⟨⟨k + 1, by omega, hkn⟩, by show n - ((k : Int) + 1).toNat < n - ((k : Int)).toNat; omega⟩
  · exact Ok.up l4
theorem law_same_ok {n : Nat} (hn : n ≤ 1000) {A B : List (List Bool)} {v w : Nat → Nat → Bool} (hA : Mx n A v) (hB : Mx n B w) : Ok (g_law28_same A B) (fun b => b = true ↔ ∀ i j, i < n → j < n → v i j = w i j) := by
  have hlA := hA.len
  unfold g_law28_same
  refine Ok.loop (fun s : Int => ∃ i : Nat, s = (i : Int) ∧ i ≤ n ∧ ∀ a b, a < i → b < n → v a b = w a b) (fun s => n - s.toNat) ?_ ⟨0, rfl, Nat.zero_le _, fun a b ha => absurd ha (Nat.not_lt_zero _)⟩
  rintro _ ⟨i, rfl, hi, hag⟩
  show Ok (g_law28_same.l1 A B (i : Int)) _
  unfold g_law28_same.l1
  refine Ok.cond (fun hb => ?_) (fun hb => ?_)
  · have hin : i < n := by have := of_decide_eq_true hb; omega
    obtain ⟨r, a1, a2, a3, a4⟩ := hA.get hin
    obtain ⟨r2, b1, b2, b3, b4⟩ := hB.get hin
    rw [a1, Option.bind_some]
    refine Ok.loop (fun s : Int => ∃ j : Nat, s = (j : Int) ∧ j ≤ n ∧ ∀ b, b < j → v i b = w i b) (fun s => n - s.toNat) ?_ ⟨0, rfl, Nat.zero_le _, fun b hb => absurd hb (Nat.not_lt_zero _)⟩
    rintro _ ⟨j, rfl, hj, hag2⟩
    show Ok (g_law28_same.l2 B (i : Int) r (j : Int)) _
    unfold g_law28_same.l2
    refine Ok.cond (fun hc => ?_) (fun hc => ?_)
    · have hjn : j < n := by have := of_decide_eq_true hc; omega
      rw [a4 j hjn, Option.bind_some, b1, Option.bind_some, b4 j hjn, Option.bind_some]
      by_cases e : v i j = w i j
      · rw [decide_eq_true e, Bool.not_true, cond_false, W_id (by omega)]
        refine Ok.ret ⟨⟨j + 1, by omega, hjn, fun b hb => ?_⟩, by show n - ((j : Int) + 1).toNat < n - ((j : Int)).toNat; omega⟩
        by_cases e2 : b = j
        · rw [e2]; exact e
        · exact hag2 b (by omega)
      · rw [decide_eq_false e, Bool.not_false, cond_true]
        exact Ok.up (Ok.up (Ok.ret ⟨fun h => (by cases h), fun h => absurd (h i j hin hjn) e⟩))
    · have hjn : j = n := by have := of_decide_eq_false hc; omega
      subst hjn
      rw [W_id (by omega)]
      refine Ok.up (Ok.ret ⟨⟨i + 1, by omega, hin, fun a b ha hb => ?_⟩, by show j - ((i : Int) + 1).toNat < j - ((i : Int)).toNat; omega⟩)
      by_cases e2 : a = i
      · rw [e2]; exact hag2 b hb
      · exact hag a b (by omega) hb
  · have hin : i = n := by have := of_decide_eq_false hb; omega
    subst hin
    exact Ok.up (Ok.ret ⟨fun _ => hag, fun _ => rfl⟩)
theorem Mad.needed {n : Nat} {l : List api_Required} (h : Mad n l) {i : Nat} (hi : i < (Proofs.Ytkpcbnnlefcebaa.red n l).length) : ¬ ∀ a b, a < n → b < n → warsh (edge l) n a b = warsh (edge ((Proofs.Ytkpcbnnlefcebaa.red n l).take i ++ (Proofs.Ytkpcbnnlefcebaa.red n l).drop (i + 1))) n a b := fun hall => by
  obtain ⟨r, hr⟩ : ∃ r, (Proofs.Ytkpcbnnlefcebaa.red n l)[i]? = some r := ⟨_, List.getElem?_eq_getElem hi⟩
  have hm := List.mem_of_getElem? hr
  have hspl : Proofs.Ytkpcbnnlefcebaa.red n l = (Proofs.Ytkpcbnnlefcebaa.red n l).take i ++ r :: (Proofs.Ytkpcbnnlefcebaa.red n l).drop (i + 1) := by
    rw [List.getElem?_eq_getElem hi] at hr
    injection hr with hr
    rw [← hr, ← List.drop_eq_getElem_cons hi, List.take_append_drop]
  have q := h.red.fwd r hm
  obtain ⟨a, ha⟩ : ∃ a : Nat, r.First = (a : Int) := ⟨r.First.toNat, by omega⟩
  obtain ⟨b, hb⟩ : ∃ b : Nat, r.Then = (b : Int) := ⟨r.Then.toNat, by omega⟩
  have hrab : r = ⟨(a : Int), (b : Int)⟩ := by rw [← ha, ← hb]
  have hsub : ((Proofs.Ytkpcbnnlefcebaa.red n l).take i ++ (Proofs.Ytkpcbnnlefcebaa.red n l).drop (i + 1)).Sublist (Proofs.Ytkpcbnnlefcebaa.red n l) := by
    conv => rhs; rw [hspl]
    exact List.Sublist.append_left (List.sublist_cons_self _ _) _
  have hM := h.red.sub hsub
  have hnot : r ∉ (Proofs.Ytkpcbnnlefcebaa.red n l).take i ++ (Proofs.Ytkpcbnnlefcebaa.red n l).drop (i + 1) := fun hmem => by
    have hn : (Proofs.Ytkpcbnnlefcebaa.red n l).Nodup := Asc.nodup linR h.red.asc
    rw [hspl, List.nodup_append] at hn
    obtain ⟨-, h2, h3⟩ := hn
    rcases List.mem_append.1 hmem with h4 | h4
    · exact h3 r h4 r (List.mem_cons_self ..) rfl
    · exact (List.nodup_cons.1 h2).1 h4
  have h1 : edge (Proofs.Ytkpcbnnlefcebaa.red n l) a b = true := edge_iff.2 (by rw [← hrab]; exact hm)
  have h2 := h.edge_red.1 h1
  have h3 : warsh (edge l) n a b = true := warsh_ext h2.1
  rw [hall a b (by omega) (by omega)] at h3
  exact rd_min (R := fun a b => edge l a b = true) (n := n) (fun _ _ => edge_lt h.inr) h.acy h2 (S := fun a b => edge ((Proofs.Ytkpcbnnlefcebaa.red n l).take i ++ (Proofs.Ytkpcbnnlefcebaa.red n l).drop (i + 1)) a b = true)
    (fun x y hxy => h.edge_red.1 (edge_iff.2 (hsub.subset (edge_iff.1 hxy)))) (fun hab => hnot (by rw [hrab]; exact edge_iff.1 hab)) (hM.wr.1 h3)
theorem law_NeedReduces (t : List Int) : g_law28_NeedReduces t = some true := by
  unfold g_law28_NeedReduces g_make_Light
  rw [Option.bind_some]
  by_cases hl : (t.length : Int) ≤ 400
  · rw [decide_eq_true hl, Bool.not_true, cond_false]
    refine Ok.true_ ?_
    refine Ok.bind (roll28 (by omega)) fun d hd => ?_
    refine Ok.bind (move_Needs_ok hd 8 (by omega) (by omega)) fun y4 h4 => ?_
    obtain ⟨l, d4⟩ := y4
    obtain ⟨h4, -⟩ := h4
    have h4 : Mad 8 l := h4
    refine Ok.bind (Reduce_ok (n := 8) (by omega) h4) fun y5 h5 => ?_
    subst h5
    refine Ok.bind (Reduce_ok (n := 8) (by omega) h4.red) fun y6 h6 => ?_
    subst h6
    have hlen := h4.red.len
    rw [decide_eq_true rfl, Bool.not_true, cond_false, cond_false, same_ok _ _ (by show (red 8 l).length < 1000000; omega), Option.bind_some, decide_eq_true h4.red_red.symm, Bool.not_true, cond_false]
    refine Ok.bind (ways_ok (n := 8) (by omega) h4.inr (by show l.length ≤ 1000000; have := h4.len; omega)) fun A hA => ?_
    refine Ok.bind (ways_ok (n := 8) (by omega) h4.red.inr (by show (red 8 l).length ≤ 1000000; omega)) fun B hB => ?_
    refine Ok.bind (law_same_ok (by omega) hA hB) fun y hy => ?_
    rw [hy.2 fun i j _ _ => (h4.warsh_red i j).symm, Bool.not_true]
    unfold g_law28_NeedReduces.j1
    rw [cond_false]
    refine Ok.loop (fun s : Int => ∃ i : Nat, s = (i : Int) ∧ i ≤ (red 8 l).length) (fun s => (red 8 l).length - s.toNat) ?_ ⟨0, rfl, Nat.zero_le _⟩
    rintro _ ⟨i, rfl, hi⟩
    show Ok (g_law28_NeedReduces.l2 (l, d4) (red 8 l, 0) (i : Int)) _
    unfold g_law28_NeedReduces.l2
    show Ok (cond (decide ((i : Int) < ((red 8 l).length : Int))) _ _) _
    refine Ok.cond (fun hb => ?_) (fun hb => ?_)
    · have hil : i < (red 8 l).length := by have := of_decide_eq_true hb; omega
      have e1 : W ((i : Int) + 1) = ((i + 1 : Nat) : Int) := by rw [W_id (by omega)]; omega
      show Ok ((slI (red 8 l) 0 (i : Int)).bind _) _
      rw [slI_v (by omega), Option.bind_some, appI_ok (by simp; omega), Option.bind_some]
      rw [e1, show ((l, d4), (red 8 l, (0 : Int))).2.1 = red 8 l from rfl, slI_v (by omega), Option.bind_some, appI_ok (by simp; omega), Option.bind_some]
      have ew : ([] ++ List.take ((i : Int).toNat - (0 : Int).toNat) (List.drop (0 : Int).toNat (red 8 l))) ++ List.take ((((red 8 l).length : Nat) : Int).toNat - (((i + 1 : Nat) : Int)).toNat) (List.drop (((i + 1 : Nat) : Int)).toNat (red 8 l)) = (red 8 l).take i ++ (red 8 l).drop (i + 1) := by
        show ([] ++ List.take (i - 0) (List.drop 0 (red 8 l))) ++ List.take ((red 8 l).length - (i + 1)) (List.drop (i + 1) (red 8 l)) = _
        rw [List.nil_append, Nat.sub_zero, List.drop_zero, List.take_of_length_le (l := List.drop (i + 1) (red 8 l)) (by rw [List.length_drop]; omega)]
      rw [ew]
      have hsub : ((red 8 l).take i ++ (red 8 l).drop (i + 1)).Sublist (red 8 l) := by
        have : (red 8 l).Sublist (red 8 l) := List.Sublist.refl _
        conv => rhs; rw [← List.take_append_drop i (red 8 l)]
        exact List.Sublist.append_left (by rw [← List.drop_drop]; exact List.drop_sublist _ _) _
      have h7 := h4.red.sub hsub
      refine Ok.bind (ways_ok (n := 8) (by omega) h4.inr (by show l.length ≤ 1000000; have := h4.len; omega)) fun C hC => ?_
      refine Ok.bind (ways_ok (n := 8) (by omega) h7.inr (by have := h7.len; omega)) fun D hD => ?_
      refine Ok.bind (law_same_ok (by omega) hC hD) fun z hz => ?_
      have hz : z = false := by
        cases z with
        | false => rfl
        | true => exact absurd (hz.1 rfl) (h4.needed hil)
      rw [hz, cond_false]
      exact Ok.ret ⟨⟨i + 1, rfl, hil⟩, by show (red 8 l).length - (((i + 1 : Nat) : Int)).toNat < (red 8 l).length - ((i : Int)).toNat; omega⟩
    · refine Ok.up ?_
      rw [awake28, Option.bind_some]
      exact Ok.ret rfl
  · rw [decide_eq_false hl, Bool.not_false, cond_true, awake28]
    rfl
end Go.Proofs.Ytkpcbnnlefcebaa
