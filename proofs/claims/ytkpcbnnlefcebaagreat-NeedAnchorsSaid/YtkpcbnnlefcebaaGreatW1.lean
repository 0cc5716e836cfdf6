/- Sound estates: made, and checked. No program is in sight here. -/
import Derived.Test.YtkpcbnnlefcebaaGreatM1
import Derived.KernelRfl
set_option linter.unusedVariables false
set_option linter.unusedSimpArgs false
namespace Go.Proofs.YtkpcbnnlefcebaaGreat
open Go
def nmL : List ByteArray := [⟨#[97, 112, 112]⟩, ⟨#[100, 98]⟩, ⟨#[119, 101, 98]⟩]
def nmS (i : Nat) : ByteArray := nmL.getD i ⟨#[]⟩
noncomputable def leafI (i : Nat) : api_Identity := (c_move_Leaf 3000 (nmS i) (api_Use.mk 5 2048) (100 + (i : Int)) 1 901).getD ⟨⟨0, 0⟩, 0, []⟩
theorem leaf_0 : g_move_Leaf (nmS 0) (api_Use.mk 5 2048) 100 1 901 = some (leafI 0) := c_move_Leaf_le (fu := 3000) _ (by kernel_rfl)
theorem leaf_1 : g_move_Leaf (nmS 1) (api_Use.mk 5 2048) 101 1 901 = some (leafI 1) := c_move_Leaf_le (fu := 3000) _ (by kernel_rfl)
theorem leaf_2 : g_move_Leaf (nmS 2) (api_Use.mk 5 2048) 102 1 901 = some (leafI 2) := c_move_Leaf_le (fu := 3000) _ (by kernel_rfl)
theorem leaf_ok {i : Nat} (h : i < 3) : g_move_Leaf (nmS i) (api_Use.mk 5 2048) (W (100 + (i : Int))) 1 901 = some (leafI i) := by
  rw [W_id (by omega)]
  rcases i with _ | _ | _ | i
  · exact leaf_0
  · exact leaf_1
  · exact leaf_2
  · omega
noncomputable def epS (i : Nat) (most : Int) (s : List Int) (own fall : Bool) : api_Endpoint := api_Endpoint.mk (nmS i) 1 most s own [leafI i] [1] [2, 3] fall
def combos : List (Int × List Int) := [(3, [10, 8, 2]), (3, [8, 2]), (3, [2, 10, 8, 3]), (4, [14, 10, 8, 2]), (4, [14, 8, 2]), (4, [14, 2, 10, 8, 3])]
def EpOK (i : Nat) (e : api_Endpoint) : Prop := ∃ c ∈ combos, ∃ own fall, e = epS i c.1 c.2 own fall
theorem ep_check {i : Nat} {e : api_Endpoint} (hi : i < 3) (h : EpOK i e) : g_endpoint_Check e = some 0 := by
  obtain ⟨c, hc, own, fall, rfl⟩ := h
  unfold combos at hc
  simp only [List.mem_cons, List.not_mem_nil, or_false] at hc
  rcases i with _ | _ | _ | i
  · rcases hc with rfl | rfl | rfl | rfl | rfl | rfl <;> exact c_endpoint_Check_le (fu := 3000) _ (by kernel_rfl)
  · rcases hc with rfl | rfl | rfl | rfl | rfl | rfl <;> exact c_endpoint_Check_le (fu := 3000) _ (by kernel_rfl)
  · rcases hc with rfl | rfl | rfl | rfl | rfl | rfl <;> exact c_endpoint_Check_le (fu := 3000) _ (by kernel_rfl)
  · omega
def usesL : List api_Use := [(api_Use.mk 2 0), (api_Use.mk 1 0), (api_Use.mk 5 2048), (api_Use.mk 16 128), (api_Use.mk 3 0), (api_Use.mk 15 168)]
theorem uses_valid {u : api_Use} (h : u ∈ usesL) : g_catalog_Valid u = some true := by
  unfold usesL at h
  simp only [List.mem_cons, List.not_mem_nil, or_false] at h
  rw [cat_Valid]
  rcases h with rfl | rfl | rfl | rfl | rfl | rfl <;> decide +kernel
structure LinksOK (l : List api_Link) (day : Int) : Prop where
  len : l.length ≤ 3
  use : ∀ x ∈ l, x.Use ∈ usesL ∧ 0 ≤ x.Day ∧ x.Day < day ∧ x.Day ≤ 1000
  asc : ∀ (j : Nat) x y, l[j]? = some x → l[j + 1]? = some y → x.Day < y.Day
theorem item_check {name : ByteArray} {k p u : Int} {l : List api_Link} {day : Int} (hn : nameS name = true) (hk : k = 1 ∨ k = 2) (hp : 1 ≤ p ∧ p ≤ 4) (hl : LinksOK l day) (h1 : 1 ≤ l.length) (hu : ∀ x, l[0]? = some x → x.Day ≤ u) (hu2 : u ≤ 40000) : g_lifetime_Check (api_Item.mk name k p l u) = some 0 := by
  have hlen := hl.len
  have hns := nameS_size hn
  obtain ⟨x0, hx0⟩ : ∃ x, l[0]? = some x := ⟨_, List.getElem?_eq_getElem (by omega)⟩
  have L : loop (fun q' => g_lifetime_Check.l3 (api_Item.mk name k p l u) q') 0 = some 0 := by
    refine (loop_has l (fun _ => false) 30 0 ((by unfold Lo; omega : Lo l)) (fun i e he => ?_) ?_).trans ?_
    · show g_lifetime_Check.l3 (api_Item.mk name k p l u) (i : Int) = _
      have hi := at_lt he
      obtain ⟨e1, e2, e3, e4⟩ := hl.use e (at_mem he)
      unfold g_lifetime_Check.l3
      rw [for_in he, uses_valid e1, Option.bind_some, Bool.not_true, cond_false, decide_eq_false (by omega), cond_false, decide_eq_false (by omega), cond_false]
      cases i with
      | zero => rfl
      | succ i =>
        obtain ⟨q, hq⟩ : ∃ q, l[i]? = some q := ⟨_, List.getElem?_eq_getElem (by omega)⟩
        have := hl.asc i q e hq he
        rw [decide_eq_true (by omega), cond_true, W_id (by omega), show ((i + 1 : Nat) : Int) - 1 = (i : Int) by omega]
        show ((getI l (i : Int)).bind _) = _
        rw [getI_nat, hq, Option.bind_some, decide_eq_false (by omega)]
        rfl
    · show g_lifetime_Check.l3 (api_Item.mk name k p l u) (l.length : Int) = _
      unfold g_lifetime_Check.l3
      rw [for_out]
      have e0 : getI l 0 = some x0 := by rw [getI_z]; exact hx0
      show up ((getI l 0).bind _) = _
      have hd := hu x0 hx0
      rw [e0, Option.bind_some, decide_eq_false (show ¬ u < x0.Day by omega), cond_false, decide_eq_false (show ¬ 40000 < u by omega)]
      rfl
    · have : l.any (fun _ => false) = false := by simp
      rw [this]; rfl
  have J : g_lifetime_Check.j1 (api_Item.mk name k p l u) true = some 0 := by
    unfold g_lifetime_Check.j1
    rw [cat_Named _ (by show name.size ≤ _; omega), Option.bind_some, hn, Bool.not_true, cond_false, cond_false, decide_eq_false (by show ¬ p < 1; omega), cond_false, decide_eq_false (by show ¬ 4 < p; omega), cond_false, decide_eq_false (by show ¬ (l.length : Int) < 1; omega), cond_false, decide_eq_false (by show ¬ 8 < (l.length : Int); omega)]
    exact L
  unfold g_lifetime_Check
  rcases hk with rfl | rfl
  · exact J
  · exact J
theorem item_ok {d : cipherplanmake_Dice} (h : DOK d) {name : ByteArray} (hn : nameS name = true) : Ok (g_make_Item d name) (fun y => g_lifetime_Check y.1 = some 0 ∧ DOK y.2) := by
  unfold g_make_Item
  refine Ok.bind (next_ok h 2 (by omega) (by omega)) fun y1 h1 => ?_
  refine Ok.bind (next_ok h1.2 4 (by omega) (by omega)) fun y2 h2 => ?_
  refine Ok.bind (next_ok h2.2 20 (by omega) (by omega)) fun y3 h3 => ?_
  refine Ok.bind (next_ok h3.2 3 (by omega) (by omega)) fun y4 h4 => ?_
  have b1 := h1.1
  have b2 := h2.1
  have b3 := h3.1
  have b4 := h4.1
  rw [W_id (x := 1 + y4.1) (by omega)]
  refine Ok.loop (fun s : Int × Int × cipherplanmake_Dice × List api_Link => 0 ≤ s.2.1 ∧ s.2.1 + (s.2.2.2.length : Int) = 1 + y4.1 ∧ DOK s.2.2.1 ∧ (0 ≤ s.1 ∧ s.1 ≤ 20 + 101 * (s.2.2.2.length : Int)) ∧ LinksOK s.2.2.2 s.1) (fun s => s.2.1.toNat) (fun s hs => ?_) ⟨by show 0 ≤ 1 + y4.1; omega, by show 1 + y4.1 + ((([] : List api_Link).length : Nat) : Int) = _; simp, h4.2, ⟨b3.1, by show y3.1 ≤ 20 + 101 * ((([] : List api_Link).length : Nat) : Int); simp; omega⟩, ⟨Nat.zero_le _, fun x hx => (by cases hx), fun j x y hx => (by cases hx)⟩⟩
  obtain ⟨day, i, d1, l⟩ := s
  obtain ⟨a1, a2, a3, a4, a5⟩ := hs
  dsimp only at a1 a2 a3 a4 a5
  have al := a5.len
  show Ok (g_make_Item.l1 name y1 y2 day i d1 l) _
  unfold g_make_Item.l1
  refine Ok.cond (fun hb => ?_) fun hb => ?_
  · have hb := of_decide_eq_true hb
    refine Ok.bind (next_ok a3 6 (by omega) (by omega)) fun y5 h5 => ?_
    have b5 := h5.1
    refine Ok.bind (getI_mem (by omega) (by show y5.1 < (6 : Int); omega)) fun e he => ?_
    refine Ok.bind (appI_ok' (by rw [List.length_singleton]; omega)) fun l' hl' => ?_
    subst hl'
    refine Ok.bind (of_ok h5.2 _ (by decide) (by decide)) fun y6 h6 => ?_
    have b6 : 0 ≤ y6.1 ∧ y6.1 ≤ 100 := by
      have := h6.1
      simp only [List.mem_cons, List.not_mem_nil, or_false] at this
      omega
    rw [W_id (x := day + 1) (by omega), W_id (x := day + 1 + y6.1) (by omega), W_id (x := i - 1) (by omega)]
    refine Ok.ret ⟨⟨by show 0 ≤ i - 1; omega, ?_, h6.2, ⟨by show 0 ≤ day + 1 + y6.1; omega, ?_⟩, ?_⟩, ?_⟩
    · show i - 1 + ((l ++ [api_Link.mk e day]).length : Int) = 1 + y4.1
      rw [List.length_append, List.length_singleton]; omega
    · show day + 1 + y6.1 ≤ 20 + 101 * ((l ++ [api_Link.mk e day]).length : Int)
      rw [List.length_append, List.length_singleton]; omega
    · refine ⟨by show (l ++ [api_Link.mk e day]).length ≤ 3; rw [List.length_append, List.length_singleton]; omega, fun x hx => ?_, fun j x y hx hy => ?_⟩
      · rcases List.mem_append.1 hx with hx | hx
        · obtain ⟨c1, c2, c3, c4⟩ := a5.use x hx
          exact ⟨c1, c2, by show x.Day < day + 1 + y6.1; omega, c4⟩
        · rw [List.mem_singleton.1 hx]
          exact ⟨he, a4.1, by show day < day + 1 + y6.1; omega, by show day ≤ 1000; omega⟩
      · have hx : (l ++ [api_Link.mk e day])[j]? = some x := hx
        have hy : (l ++ [api_Link.mk e day])[j + 1]? = some y := hy
        have hj := at_lt hy
        rw [List.length_append, List.length_singleton] at hj
        rw [List.getElem?_append_left (by omega)] at hx
        by_cases hj2 : j + 1 < l.length
        · rw [List.getElem?_append_left hj2] at hy
          exact a5.asc j x y hx hy
        · rw [List.getElem?_append_right (by omega), show j + 1 - l.length = 0 by omega] at hy
          injection hy with hy
          subst hy
          exact (a5.use x (at_mem hx)).2.2.1
    · show (i - 1).toNat < i.toNat; omega
  · have hb := of_decide_eq_false hb
    refine Ok.up ?_
    obtain ⟨x0, hx0⟩ : ∃ x, l[0]? = some x := ⟨_, List.getElem?_eq_getElem (by omega)⟩
    refine Ok.bindE (a := x0) (by rw [getI_z]; exact hx0) ?_
    refine Ok.bind (of_ok a3 _ (by decide) (by decide)) fun y7 h7 => ?_
    have b7 : 0 ≤ y7.1 ∧ y7.1 ≤ 3000 := by
      have := h7.1
      simp only [List.mem_cons, List.not_mem_nil, or_false] at this
      omega
    obtain ⟨-, c2, -, c4⟩ := a5.use x0 (at_mem hx0)
    rw [W_id (x := 1 + y1.1) (by omega), W_id (x := 1 + y2.1) (by omega), W_id (x := x0.Day + y7.1) (by omega)]
    refine Ok.ret ⟨item_check hn (by omega) (by omega) a5 (by omega) (fun x hx => ?_) (by omega), h7.2⟩
    rw [hx0] at hx
    injection hx with hx
    subst hx
    omega
end Go.Proofs.YtkpcbnnlefcebaaGreat
