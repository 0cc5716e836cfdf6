/- Sound estates: edges; what is made passes the check. No program is in sight here. -/
import Derived.Test.YtkpcbnnlefcebaaGreatW1
set_option linter.unusedVariables false
set_option linter.unusedSimpArgs false
namespace Go.Proofs.YtkpcbnnlefcebaaGreat
open Go
theorem sl_Contains_item (s : List api_Item) (f : api_Item → Option Bool) (p : api_Item → Bool) (h : Lo s) (hf : ∀ x ∈ s, f x = some (p x)) : g_slices_ContainsFunc_api_Item s f = some (s.any p) := by
  have hi : g_slices_IndexFunc_api_Item s f = some (firstS s p) := by
    unfold g_slices_IndexFunc_api_Item
    refine loop_first s p h (fun i x hx => ?_) ?_
    · show g_slices_IndexFunc_api_Item.l1 s f (i : Int) = _
      unfold g_slices_IndexFunc_api_Item.l1
      rw [for_in hx, hf x (at_mem hx), Option.bind_some]
      cases p x <;> rfl
    · show g_slices_IndexFunc_api_Item.l1 s f (s.length : Int) = _
      unfold g_slices_IndexFunc_api_Item.l1
      rw [for_out]; rfl
  unfold g_slices_ContainsFunc_api_Item
  rw [hi, Option.bind_some, firstS_any]
structure EdgesOK (n : Nat) (l : List api_Edge) : Prop where
  len : l.length ≤ 3
  rng : ∀ e ∈ l, (0 ≤ e.Client ∧ e.Client < (n : Int)) ∧ (0 ≤ e.Server ∧ e.Server < (n : Int)) ∧ e.Client ≠ e.Server
  asc : ∀ (j : Nat) x y, l[j]? = some x → l[j + 1]? = some y → x.Client < y.Client ∨ (x.Client = y.Client ∧ x.Server < y.Server)
def Ahead (i k : Int) (l : List api_Edge) : Prop := ∀ e ∈ l, e.Client < i ∨ (e.Client = i ∧ e.Server < k)
theorem linked_ok {n : Nat} {l : List api_Edge} (h : EdgesOK n l) : g_exposure_linked l (n : Int) = some true := by
  have hlen := h.len
  unfold g_exposure_linked
  refine (loop_has l (fun _ => false) false true (by unfold Lo; omega) (fun i e he => ?_) ?_).trans ?_
  · show g_exposure_linked.l1 l (n : Int) (i : Int) = _
    obtain ⟨c1, c2, c3⟩ := h.rng e (at_mem he)
    have hi := at_lt he
    unfold g_exposure_linked.l1
    rw [for_in he, decide_eq_false (show ¬ e.Client < 0 by omega), cond_false, decide_eq_false (show ¬ (n : Int) ≤ e.Client by omega), cond_false, decide_eq_false (show ¬ e.Server < 0 by omega), cond_false, decide_eq_false (show ¬ (n : Int) ≤ e.Server by omega), cond_false, decide_eq_false c3]
    unfold g_exposure_linked.j2
    rw [cond_false]
    cases i with
    | zero => rfl
    | succ i =>
      obtain ⟨q, hq⟩ : ∃ q, l[i]? = some q := ⟨_, List.getElem?_eq_getElem (by omega)⟩
      have ha := h.asc i q e hq he
      rw [decide_eq_true (by omega), cond_true, W_id (by omega), show ((i + 1 : Nat) : Int) - 1 = (i : Int) by omega, getI_nat, hq, Option.bind_some, decide_eq_false (show ¬ e.Client < q.Client by omega), cond_false]
      rcases ha with ha | ⟨ha, hb⟩
      · rw [decide_eq_false (show ¬ q.Client = e.Client by omega)]; rfl
      · rw [decide_eq_true ha, cond_true, decide_eq_false (show ¬ e.Server ≤ q.Server by omega)]; rfl
  · show g_exposure_linked.l1 l (n : Int) (l.length : Int) = _
    unfold g_exposure_linked.l1
    rw [for_out, decide_eq_true (show (l.length : Int) ≤ 40 by omega)]
    rfl
  · have : l.any (fun _ => false) = false := by simp
    rw [this]; rfl
structure SoundE (s : api_Estate) : Prop where
  n2 : 2 ≤ s.Endpoints.length ∧ s.Endpoints.length ≤ 3
  eps : ∀ (j : Nat) e, s.Endpoints[j]? = some e → EpOK j e
  edges : EdgesOK s.Endpoints.length s.Edges
  items : s.Items.length ≤ 2 ∧ ∀ x ∈ s.Items, g_lifetime_Check x = some 0
theorem ep_name {i : Nat} {e : api_Endpoint} (h : EpOK i e) : e.Name = nmS i := by
  obtain ⟨c, hc, own, fall, rfl⟩ := h
  rfl
theorem names_asc {i : Nat} (h : i + 1 < 3) : ltT (toB (nmS i)) (toB (nmS (i + 1))) = true := by
  rcases i with _ | _ | i
  · decide +kernel
  · decide +kernel
  · omega
theorem sound_check {s : api_Estate} (h : SoundE s) : g_exposure_Check s = some 0 := by
  have hn := h.n2
  have hit := h.items
  unfold g_exposure_Check
  refine (loop_has s.Endpoints (fun _ => false) 31 0 (by unfold Lo; omega) (fun i e he => ?_) ?_).trans ?_
  · show g_exposure_Check.l1 s (i : Int) = _
    have hi := at_lt he
    unfold g_exposure_Check.l1
    rw [for_in he, ep_check (by omega) (h.eps i e he), Option.bind_some, decide_eq_true rfl, Bool.not_true, cond_false]
    cases i with
    | zero => rfl
    | succ i =>
      obtain ⟨q, hq⟩ : ∃ q, s.Endpoints[i]? = some q := ⟨_, List.getElem?_eq_getElem (by omega)⟩
      rw [decide_eq_true (by omega), cond_true, W_id (by omega), show ((i + 1 : Nat) : Int) - 1 = (i : Int) by omega, getI_nat, hq, Option.bind_some, ep_name (h.eps i q hq), ep_name (h.eps (i + 1) e he), names_asc (by omega)]
      rfl
  · show g_exposure_Check.l1 s (s.Endpoints.length : Int) = _
    unfold g_exposure_Check.l1
    have hc := sl_Contains_item s.Items (fun x0 => g_exposure_Check_c1 x0) (fun _ => false) (by unfold Lo; omega) (fun x hx => by
      unfold g_exposure_Check_c1
      rw [hit.2 x hx]
      rfl)
    have hf : s.Items.any (fun _ => false) = false := by simp
    rw [hf] at hc
    rw [for_out, hc, Option.bind_some, cond_false, decide_eq_false (show ¬ 16 < (s.Endpoints.length : Int) by omega), cond_false, decide_eq_false (show ¬ 30 < (s.Items.length : Int) by omega), cond_false, linked_ok h.edges]
    rfl
  · have : s.Endpoints.any (fun _ => false) = false := by simp
    rw [this]; rfl
end Go.Proofs.YtkpcbnnlefcebaaGreat
