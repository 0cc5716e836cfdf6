/- Requirements: their order, unions. No program is in sight here. -/
import Derived.Test.YtkpcbnnlefcebaaSO5need_required
import Derived.Test.YtkpcbnnlefcebaaSCneed_required
import Derived.Test.YtkpcbnnlefcebaaCO
import Derived.Test.YtkpcbnnlefcebaaM0
set_option linter.unusedVariables false
set_option linter.unusedSimpArgs false
namespace Go.Proofs.Ytkpcbnnlefcebaa
open Go
def ltR (a b : api_Required) : Bool := bif !decide (a.First = b.First) then decide (a.First < b.First) else decide (a.Then < b.Then)
theorem ltR_iff {a b : api_Required} : ltR a b = true ↔ a.First < b.First ∨ (a.First = b.First ∧ a.Then < b.Then) := by
  unfold ltR
  by_cases h : a.First = b.First
  · rw [decide_eq_true h]; simp [h]
  · rw [decide_eq_false h]; simp [h]
theorem ltR_f {a b : api_Required} : ltR a b = false ↔ ¬ (a.First < b.First ∨ (a.First = b.First ∧ a.Then < b.Then)) := by
  rw [← ltR_iff]; simp
theorem linR : LinO ltR where
  irrefl a := ltR_f.2 (by omega)
  trans a b c h1 h2 := by rw [ltR_iff] at *; omega
  tot a b h1 h2 := by
    rw [ltR_f] at h1 h2
    cases a; cases b
    simp only at h1 h2
    congr 1 <;> omega
theorem slI_v {α : Type} {l : List α} {a b : Int} (h : 0 ≤ a ∧ a ≤ b ∧ b ≤ l.length) : slI l a b = some ((l.drop a.toNat).take (b.toNat - a.toNat)) := if_pos h
theorem putS_cons {α : Type} (lt : α → α → Bool) (y : α) (l : List α) (x : α) : putS lt (y :: l) x = bif lt y x then y :: putS lt l x else bif lt x y then x :: y :: l else y :: l := rfl
abbrev SA (l : List api_Required) : Prop := Asc ltR l
theorem ref28_less_ok (a b : api_Required) : g_ref28_less a b = some (ltR a b) := by
  unfold g_ref28_less ltR
  cases decide (a.First = b.First) <;> rfl
theorem ref28_put_ok (l : List api_Required) (x : api_Required) (hl : l.length < 1000000) (hs : SA l) : g_ref28_put l x = some (putS ltR l x) := by
  have key : ∀ (m p : List api_Required), p ++ m = l → (∀ y ∈ p, ltR y x = true) → loop (fun q' => g_ref28_put.l1 l x q') (p.length : Int) = some (p ++ putS ltR m x) := by
    intro m
    induction m with
    | nil =>
      intro p hp hlt
      have hlen : l.length = p.length := by rw [← hp]; simp
      have e1 : g_ref28_put.l1 l x (p.length : Int) = up (g_ref28_put.j3 l x (p.length : Int) false) := by
        unfold g_ref28_put.l1
        rw [decide_eq_false (by omega), cond_false]
        unfold g_ref28_put.j2
        rw [cond_false, decide_eq_false (by omega), cond_false]
      rw [loop_up e1]
      unfold g_ref28_put.j3
      rw [cond_false]
      have hp' : l = p := by rw [← hp]; simp
      rw [slI_v (a := 0) (b := (p.length : Int)) (by omega), Option.bind_some]
      rw [appI_ok (by simp; omega), Option.bind_some, appI_ok (by simp; omega), Option.bind_some, slI_v (by omega), Option.bind_some, appI_ok (by simp; omega), Option.bind_some]
      subst hp'
      simp [putS]
    | cons y m ih =>
      intro p hp hlt
      have hy : l[p.length]? = some y := by rw [← hp]; simp
      have hlen : p.length < l.length := (List.getElem?_eq_some_iff.1 hy).1
      cases h1 : ltR y x with
      | true =>
        have e1 : g_ref28_put.l1 l x (p.length : Int) = some (.next (((p ++ [y]).length : Nat) : Int)) := by
          unfold g_ref28_put.l1
          rw [decide_eq_true (by omega), cond_true, getI_nat, hy, Option.bind_some, ref28_less_ok, Option.bind_some, h1]
          unfold g_ref28_put.j2
          rw [cond_true, W_id (by omega)]
          simp
        rw [loop_next e1, ih (p ++ [y]) (by simp [hp]) (fun z hz => by
          rcases List.mem_append.1 hz with hz | hz
          · exact hlt z hz
          · rw [List.mem_singleton.1 hz]; exact h1)]
        show _ = some (p ++ putS ltR (y :: m) x)
        rw [putS_cons, h1]
        simp
      | false =>
        have e1 : g_ref28_put.l1 l x (p.length : Int) = up (g_ref28_put.j3 l x (p.length : Int) (decide (y = x))) := by
          unfold g_ref28_put.l1
          rw [decide_eq_true (by omega), cond_true, getI_nat, hy, Option.bind_some, ref28_less_ok, Option.bind_some, h1]
          unfold g_ref28_put.j2
          rw [cond_false, decide_eq_true (by omega), cond_true, getI_nat, hy, Option.bind_some]
        rw [loop_up e1]
        show _ = some (p ++ putS ltR (y :: m) x)
        rw [putS_cons, h1, cond_false]
        unfold g_ref28_put.j3
        by_cases hyx : y = x
        · subst hyx
          rw [decide_eq_true rfl, cond_true, linR.irrefl, cond_false, hp]
        · have h2 : ltR x y = true := by
            cases h : ltR x y with
            | true => rfl
            | false => exact absurd (linR.tot _ _ h1 h) hyx
          rw [decide_eq_false hyx, cond_false, h2, cond_true]
          rw [slI_v (a := 0) (b := (p.length : Int)) (by omega), Option.bind_some]
          have q1 : (l.drop (0 : Int).toNat).take ((p.length : Int).toNat - (0 : Int).toNat) = p := by rw [← hp]; simp
          have q2 : (l.drop (p.length : Int).toNat).take ((l.length : Int).toNat - (p.length : Int).toNat) = y :: m := by
            rw [List.take_of_length_le (by rw [List.length_drop]; omega), ← hp]; simp
          rw [q1, appI_ok (by simp; omega), Option.bind_some, appI_ok (by simp; omega), Option.bind_some, slI_v (by omega), Option.bind_some, q2]
          have : (y :: m).length ≤ l.length := by rw [← hp]; simp
          rw [appI_ok (by simp at *; omega), Option.bind_some]
          simp
  have := key l [] rfl (fun _ h => by cases h)
  exact this
theorem ref28_Union_ok (a b : List api_Required) (h : a.length + b.length < 900000) : g_ref28_Union a b = some (sortS ltR (a ++ b)) := by
  have key : ∀ (m p : List api_Required) (out : List api_Required) (F : Int × List api_Required → Int) , True := fun _ _ _ _ => trivial
  unfold g_ref28_Union
  have step : ∀ (m : List api_Required) (x : api_Required) (acc : List api_Required), True := fun _ _ _ => trivial
  have l2 : ∀ (m p acc : List api_Required), p ++ m = b → SA acc → acc.length + m.length < 950000 → loop (fun q' => g_ref28_Union.l2 b q'.1 q'.2) (acc, (p.length : Int)) = some (m.foldl (putS ltR) acc) := by
    intro m
    induction m with
    | nil =>
      intro p acc hp hs hl
      have : b.length = p.length := by rw [← hp]; simp
      refine loop_up (x := some acc) ?_
      show g_ref28_Union.l2 b acc (p.length : Int) = _
      unfold g_ref28_Union.l2
      rw [decide_eq_false (by omega), cond_false]
    | cons y m ih =>
      intro p acc hp hs hl
      rw [List.length_cons] at hl
      have hy : b[p.length]? = some y := by rw [← hp]; simp
      have hlen : p.length < b.length := (List.getElem?_eq_some_iff.1 hy).1
      have hq := putS_len ltR y acc
      have e1 : g_ref28_Union.l2 b acc (p.length : Int) = some (.next (putS ltR acc y, (((p ++ [y]).length : Nat) : Int))) := by
        unfold g_ref28_Union.l2
        rw [decide_eq_true (by omega), cond_true, getI_nat, hy, Option.bind_some, ref28_put_ok acc y (by omega) hs, Option.bind_some, W_id (by omega)]
        simp
      rw [loop_next (body := fun q' => g_ref28_Union.l2 b q'.1 q'.2) e1, ih (p ++ [y]) _ (by simp [hp]) (putS_asc linR hs) (by omega)]
      rfl
  have l1 : ∀ (m p acc : List api_Required), p ++ m = a → SA acc → acc.length + m.length + b.length < 950000 → loop (fun q' => g_ref28_Union.l1 a b q'.1 q'.2) (acc, (p.length : Int)) = some (b.foldl (putS ltR) (m.foldl (putS ltR) acc)) := by
    intro m
    induction m with
    | nil =>
      intro p acc hp hs hl
      have : a.length = p.length := by rw [← hp]; simp
      refine loop_up (x := some (b.foldl (putS ltR) acc)) ?_
      show g_ref28_Union.l1 a b acc (p.length : Int) = _
      unfold g_ref28_Union.l1
      rw [decide_eq_false (by omega), cond_false]
      have := l2 b [] acc rfl hs (by simp at hl; omega)
      rw [show ((([] : List api_Required).length : Nat) : Int) = 0 from rfl] at this
      rw [this]
    | cons y m ih =>
      intro p acc hp hs hl
      rw [List.length_cons] at hl
      have hy : a[p.length]? = some y := by rw [← hp]; simp
      have hlen : p.length < a.length := (List.getElem?_eq_some_iff.1 hy).1
      have hq := putS_len ltR y acc
      have e1 : g_ref28_Union.l1 a b acc (p.length : Int) = some (.next (putS ltR acc y, (((p ++ [y]).length : Nat) : Int))) := by
        unfold g_ref28_Union.l1
        rw [decide_eq_true (by omega), cond_true, getI_nat, hy, Option.bind_some, ref28_put_ok acc y (by omega) hs, Option.bind_some, W_id (by omega)]
        simp
      rw [loop_next (body := fun q' => g_ref28_Union.l1 a b q'.1 q'.2) e1, ih (p ++ [y]) _ (by simp [hp]) (putS_asc linR hs) (by omega)]
      rfl
  have := l1 a [] [] rfl .nil (by simp; omega)
  rw [show ((([] : List api_Required).length : Nat) : Int) = 0 from rfl] at this
  rw [this]
  unfold sortS
  rw [List.foldl_append]
def rq (x : api_Required) : need_required := ⟨x.First, x.Then⟩
def ur (x : need_required) : api_Required := ⟨x.First, x.Then⟩
def ltQ (a b : need_required) : Bool := ltR (ur a) (ur b)
theorem linQ : LinO ltQ where
  irrefl a := linR.irrefl _
  trans a b c h1 h2 := linR.trans _ _ _ h1 h2
  tot a b h1 h2 := by
    have := linR.tot _ _ h1 h2
    have := congrArg rq this
    exact this
theorem swoQ : Sort.SWO ltQ where
  irrefl a := linQ.irrefl a
  trans a b c h1 h2 := linQ.trans _ _ _ h1 h2
  ntrans a b c h1 h2 := by
    cases h : ltQ a c with
    | false => rfl
    | true =>
      cases h3 : ltQ b a with
      | true => have := linQ.trans _ _ _ h3 h; rw [h2] at this; cases this
      | false =>
        rw [linQ.tot _ _ h1 h3] at h
        rw [h2] at h; cases h
theorem cmp_int (x y : Int) : g_cmp_Compare_int x y = some (cmpI x y) := by
  unfold g_cmp_Compare_int g_cmp_isNaN_int cmpI
  by_cases h1 : x < y
  · simp [h1]
  · by_cases h2 : y < x <;> simp [h1, h2]
theorem cmp_or2 (x y : Int) : g_cmp_Or_int [x, y] = some (bif !decide (x = 0) then x else y) := by
  unfold g_cmp_Or_int
  by_cases hx : x = 0
  · subst hx
    have e1 : g_cmp_Or_int.l1 [0, y] 0 = some (.next 1) := rfl
    rw [loop_next (body := fun q' => g_cmp_Or_int.l1 [0, y] q') e1]
    by_cases hy : y = 0
    · subst hy
      have e2 : g_cmp_Or_int.l1 [0, 0] 1 = some (.next 2) := rfl
      have e3 : g_cmp_Or_int.l1 [0, 0] 2 = up (some 0) := rfl
      rw [loop_next (body := fun q' => g_cmp_Or_int.l1 [0, 0] q') e2, loop_up e3]
      rfl
    · have e2 : g_cmp_Or_int.l1 [0, y] 1 = up (some y) := by
        show cond _ (Option.bind (some y) _) _ = _
        show cond (!decide (y = 0)) _ _ = _
        rw [decide_eq_false hy]; rfl
      rw [loop_up e2]
      rfl
  · have e1 : g_cmp_Or_int.l1 [x, y] 0 = up (some x) := by
      show cond (!decide (x = 0)) _ _ = _
      rw [decide_eq_false hx]; rfl
    rw [loop_up e1, decide_eq_false hx]
    rfl
theorem cmpQ : CmpOk_need_required (fun x0 x1 => g_need_required_compare x0 x1) ltQ (fun _ => True) := fun x y _ _ => by
  show ∃ n, g_need_required_compare x y = some n ∧ decide (n < 0) = ltQ x y
  unfold g_need_required_compare
  rw [cmp_int, Option.bind_some, cmp_int, Option.bind_some, cmp_or2, Option.bind_some]
  refine ⟨_, rfl, ?_⟩
  unfold ltQ ltR ur cmpI
  by_cases h1 : x.First < y.First
  · have : ¬ x.First = y.First := by omega
    simp [h1, this]
  · by_cases h2 : y.First < x.First
    · have : ¬ x.First = y.First := by omega
      simp [h1, h2, this]
    · have : x.First = y.First := by omega
      simp only [this, Int.lt_irrefl, decide_false, cond_false, decide_true, Bool.not_true]
      by_cases h3 : x.Then < y.Then
      · simp [h3]
      · by_cases h4 : y.Then < x.Then <;> simp [h3, h4]
theorem sortS_map (l : List api_Required) : (sortS ltQ (l.map rq)).map ur = sortS ltR l := by
  refine sortS_of linR ?_ fun z => ?_
  · exact List.Pairwise.map ur (fun a b h => h) (sortS_asc linQ _)
  · constructor
    · intro h
      obtain ⟨q, h1, rfl⟩ := List.mem_map.1 h
      obtain ⟨x, h2, rfl⟩ := List.mem_map.1 ((sortS_mem linQ).1 h1)
      exact h2
    · intro h
      exact List.mem_map.2 ⟨rq z, (sortS_mem linQ).2 (List.mem_map.2 ⟨z, h, rfl⟩), rfl⟩
theorem need_sorted_ok (l : List api_Required) (hl : l.length < 65536) : g_need_sorted l = some (sortS ltR l) := by
  obtain ⟨r, hr1, hr2, hr3⟩ := sortF_need_required swoQ cmpQ (l.map rq) (by simpa using hl) (fun _ _ => trivial)
  have hrl : r.length = l.length := by rw [hr2.length_eq]; simp
  obtain ⟨c, hc1, rfl⟩ := compact_need_required r (by omega)
  have hcs : cmpS r = sortS ltQ (l.map rq) := sort_cmp linQ hr2 hr3
  rw [hcs] at hc1
  have hsl : (sortS ltQ (l.map rq)).length ≤ l.length := by have := sortS_len ltQ (l.map rq); simpa using this
  have l2 : ∀ (m p : List need_required), p ++ m = sortS ltQ (l.map rq) → loop (fun q' => g_need_sorted.l2 (sortS ltQ (l.map rq)) q'.1 q'.2) ((p.length : Int), p.map ur) = some ((p ++ m).map ur) := by
    intro m
    induction m with
    | nil =>
      intro p hp
      have : (sortS ltQ (l.map rq)).length = p.length := by rw [← hp]; simp
      refine loop_up (x := some _) ?_
      show g_need_sorted.l2 _ (p.length : Int) (p.map ur) = _
      unfold g_need_sorted.l2
      rw [decide_eq_false (by omega), cond_false, List.append_nil]
    | cons y m ih =>
      intro p hp
      have hy : (sortS ltQ (l.map rq))[p.length]? = some y := by rw [← hp]; simp
      have hlen : p.length < (sortS ltQ (l.map rq)).length := (List.getElem?_eq_some_iff.1 hy).1
      have e1 : g_need_sorted.l2 (sortS ltQ (l.map rq)) (p.length : Int) (p.map ur) = some (.next ((((p ++ [y]).length : Nat) : Int), (p ++ [y]).map ur)) := by
        unfold g_need_sorted.l2
        rw [decide_eq_true (by omega), cond_true, getI_nat, hy, Option.bind_some, appI_ok (by simp; omega), Option.bind_some, W_id (by omega)]
        simp [ur]
      rw [loop_next (body := fun q' => g_need_sorted.l2 (sortS ltQ (l.map rq)) q'.1 q'.2) e1, ih (p ++ [y]) (by simp [hp])]
      simp
  have l1 : ∀ (m p : List api_Required), p ++ m = l → loop (fun q' => g_need_sorted.l1 l q'.1 q'.2) ((p.length : Int), p.map rq) = some (sortS ltR l) := by
    intro m
    induction m with
    | nil =>
      intro p hp
      rw [List.append_nil] at hp
      subst hp
      refine loop_up (x := some _) ?_
      show g_need_sorted.l1 _ (p.length : Int) (p.map rq) = _
      unfold g_need_sorted.l1
      rw [decide_eq_false (by omega), cond_false, hr1, Option.bind_some, hc1, Option.bind_some]
      have := l2 (sortS ltQ (p.map rq)) [] rfl
      rw [List.nil_append] at this
      rw [sortS_map] at this
      exact congrArg up this
    | cons y m ih =>
      intro p hp
      have hy : l[p.length]? = some y := by rw [← hp]; simp
      have hlen : p.length < l.length := (List.getElem?_eq_some_iff.1 hy).1
      have e1 : g_need_sorted.l1 l (p.length : Int) (p.map rq) = some (.next ((((p ++ [y]).length : Nat) : Int), (p ++ [y]).map rq)) := by
        unfold g_need_sorted.l1
        rw [decide_eq_true (by omega), cond_true, getI_nat, hy, Option.bind_some, appI_ok (by simp; omega), Option.bind_some, W_id (by omega)]
        simp [rq]
      rw [loop_next (body := fun q' => g_need_sorted.l1 l q'.1 q'.2) e1, ih (p ++ [y]) (by simp [hp])]
  exact l1 l [] rfl
theorem same_ok (a b : List api_Required) (h : a.length < 1000000) : g_ref28_Same a b = some (decide (a = b)) := by
  unfold g_ref28_Same
  by_cases hl : a.length = b.length
  · rw [decide_eq_true (show (a.length : Int) = (b.length : Int) by omega), Bool.not_true, cond_false]
    have key : ∀ (m n p : List api_Required), p ++ m = a → p ++ n = b → loop (fun q' => g_ref28_Same.l1 a b q') (p.length : Int) = some (decide (m = n)) := by
      intro m
      induction m with
      | nil =>
        intro n p h1 h2
        have hn : n = [] := List.eq_nil_of_length_eq_zero (by have e1 := congrArg List.length h1; have e2 := congrArg List.length h2; simp at e1 e2; omega)
        subst hn
        refine loop_up (x := some true) ?_
        show g_ref28_Same.l1 a b (p.length : Int) = _
        unfold g_ref28_Same.l1
        rw [decide_eq_false (by rw [← h1]; simp), cond_false]
      | cons x m ih =>
        intro n p h1 h2
        cases n with
        | nil => have e1 := congrArg List.length h1; have e2 := congrArg List.length h2; simp at e1 e2; omega
        | cons y n =>
          have hx : a[p.length]? = some x := by rw [← h1]; simp
          have hy : b[p.length]? = some y := by rw [← h2]; simp
          have hlen := (List.getElem?_eq_some_iff.1 hx).1
          by_cases hxy : x = y
          · subst hxy
            have e1 : g_ref28_Same.l1 a b (p.length : Int) = some (.next (((p ++ [x]).length : Nat) : Int)) := by
              unfold g_ref28_Same.l1
              rw [decide_eq_true (by omega), cond_true, getI_nat, hx, Option.bind_some, getI_nat, hy, Option.bind_some, decide_eq_true rfl, Bool.not_true, cond_false, W_id (by omega)]
              simp
            rw [loop_next e1, ih n (p ++ [x]) (by simp [h1]) (by simp [h2])]
            simp
          · have e1 : g_ref28_Same.l1 a b (p.length : Int) = up (some false) := by
              unfold g_ref28_Same.l1
              rw [decide_eq_true (by omega), cond_true, getI_nat, hx, Option.bind_some, getI_nat, hy, Option.bind_some, decide_eq_false hxy, Bool.not_false, cond_true]
            rw [loop_up e1]
            simp [hxy]
    exact key a b [] rfl rfl
  · rw [decide_eq_false (show ¬ (a.length : Int) = (b.length : Int) by omega), Bool.not_false, cond_true, decide_eq_false (fun e => hl (by rw [e]))]
end Go.Proofs.Ytkpcbnnlefcebaa
