/- Plain texts, joined. No program is in sight here. -/
import Derived.Test.YtkpcbnnlefcebaaGreatPU
import Derived.Test.YtkpcbnnlefcebaaGreatL3
import Derived.Test.YtkpcbnnlefcebaaGreatC1
import Derived.Test.YtkpcbnnlefcebaaGreatM1
import Derived.Test.YtkpcbnnlefcebaaGreatSEneed_required
import Derived.Test.YtkpcbnnlefcebaaGreatW3
import Derived.KernelRfl
set_option linter.unusedVariables false
set_option linter.unusedSimpArgs false
set_option autoImplicit false
namespace Go.Proofs.YtkpcbnnlefcebaaGreat
section
structure LinO {α : Type} (lt : α → α → Bool) : Prop where
  irrefl : ∀ a, lt a a = false
  trans : ∀ a b c, lt a b = true → lt b c = true → lt a c = true
  tot : ∀ a b, lt a b = false → lt b a = false → a = b
section
variable {α : Type} {lt : α → α → Bool}
theorem LinO.asymm (h : LinO lt) {a b : α} (hab : lt a b = true) : lt b a = false := by
  cases hb : lt b a with
  | false => rfl
  | true => have := h.trans _ _ _ hab hb; rw [h.irrefl] at this; cases this
abbrev Asc (lt : α → α → Bool) (l : List α) : Prop := l.Pairwise fun x y => lt x y = true
theorem asc_ext (h : LinO lt) : ∀ {l m : List α}, Asc lt l → Asc lt m → (∀ x, x ∈ l ↔ x ∈ m) → l = m
  | [], [], _, _, _ => rfl
  | [], y :: m, _, _, he => by have := (he y).2 (.head _); cases this
  | x :: l, [], _, _, he => by have := (he x).1 (.head _); cases this
  | x :: l, y :: m, hl, hm, he => by
    obtain ⟨l1, l2⟩ := List.pairwise_cons.1 hl
    obtain ⟨m1, m2⟩ := List.pairwise_cons.1 hm
    have hxy : x = y := by
      rcases List.mem_cons.1 ((he x).1 (.head _)) with h1 | h1
      · exact h1
      · rcases List.mem_cons.1 ((he y).2 (.head _)) with h2 | h2
        · exact h2.symm
        · have a1 := m1 x h1
          have a2 := l1 y h2
          rw [h.asymm a1] at a2
          cases a2
    subst hxy
    rw [asc_ext h l2 m2 fun z => ⟨fun hz => ?_, fun hz => ?_⟩]
    · rcases List.mem_cons.1 ((he z).1 (.tail _ hz)) with rfl | h1
      · have := l1 z hz
        rw [h.irrefl] at this; cases this
      · exact h1
    · rcases List.mem_cons.1 ((he z).2 (.tail _ hz)) with rfl | h1
      · have := m1 z hz
        rw [h.irrefl] at this; cases this
      · exact h1
def putS (lt : α → α → Bool) : List α → α → List α
  | [], x => [x]
  | y :: l, x => bif lt y x then y :: putS lt l x else bif lt x y then x :: y :: l else y :: l
theorem putS_mem (h : LinO lt) {x z : α} : ∀ {l : List α}, z ∈ putS lt l x ↔ z = x ∨ z ∈ l
  | [] => by simp [putS]
  | y :: l => by
    unfold putS
    cases h1 : lt y x with
    | true => rw [cond_true, List.mem_cons, putS_mem h (l := l), List.mem_cons]; exact ⟨fun h => h.elim (fun h => .inr (.inl h)) fun h => h.elim .inl fun h => .inr (.inr h), fun h => h.elim (fun h => .inr (.inl h)) fun h => h.elim .inl fun h => .inr (.inr h)⟩
    | false =>
      cases h2 : lt x y with
      | true => rw [cond_false, cond_true, List.mem_cons]
      | false =>
        rw [cond_false, cond_false, h.tot y x h1 h2]
        exact ⟨.inr, fun hh => hh.elim (fun e => by rw [e]; exact .head _) id⟩
theorem putS_asc (h : LinO lt) {x : α} : ∀ {l : List α}, Asc lt l → Asc lt (putS lt l x)
  | [], _ => by simp [putS]
  | y :: l, hl => by
    obtain ⟨l1, l2⟩ := List.pairwise_cons.1 hl
    unfold putS
    cases h1 : lt y x with
    | true =>
      rw [cond_true]
      refine List.pairwise_cons.2 ⟨fun z hz => ?_, putS_asc h l2⟩
      rcases (putS_mem h).1 hz with rfl | hz
      · exact h1
      · exact l1 z hz
    | false =>
      cases h2 : lt x y with
      | true =>
        rw [cond_false, cond_true]
        refine List.pairwise_cons.2 ⟨fun z hz => ?_, hl⟩
        rcases List.mem_cons.1 hz with rfl | hz
        · exact h2
        · exact h.trans _ _ _ h2 (l1 z hz)
      | false => exact hl
def sortS (lt : α → α → Bool) (l : List α) : List α := l.foldl (putS lt) []
theorem fold_put (h : LinO lt) : ∀ (l a : List α), Asc lt a → Asc lt (l.foldl (putS lt) a) ∧ ∀ z, z ∈ l.foldl (putS lt) a ↔ z ∈ a ∨ z ∈ l
  | [], a, ha => ⟨ha, fun z => by simp⟩
  | x :: l, a, ha => by
    obtain ⟨h1, h2⟩ := fold_put h l (putS lt a x) (putS_asc h ha)
    refine ⟨h1, fun z => ?_⟩
    rw [List.foldl_cons, h2 z, putS_mem h, List.mem_cons]
    exact ⟨fun h => h.elim (fun h => h.elim (fun h => .inr (.inl h)) .inl) fun h => .inr (.inr h), fun h => h.elim (fun h => .inl (.inr h)) fun h => h.elim (fun h => .inl (.inl h)) .inr⟩
theorem sortS_asc (h : LinO lt) (l : List α) : Asc lt (sortS lt l) := (fold_put h l [] .nil).1
theorem sortS_mem (h : LinO lt) {l : List α} {z : α} : z ∈ sortS lt l ↔ z ∈ l := by
  have := (fold_put h l [] .nil).2 z
  simpa [sortS] using this
theorem sortS_of (h : LinO lt) {l m : List α} (hm : Asc lt m) (he : ∀ z, z ∈ m ↔ z ∈ l) : m = sortS lt l := asc_ext h hm (sortS_asc h l) fun z => (he z).trans (sortS_mem h).symm
theorem sortS_self (h : LinO lt) {l : List α} (hl : Asc lt l) : sortS lt l = l := (sortS_of h hl fun _ => Iff.rfl).symm
theorem putS_len (lt : α → α → Bool) (x : α) : ∀ l : List α, (putS lt l x).length ≤ l.length + 1
  | [] => by simp [putS]
  | y :: l => by
    unfold putS
    cases lt y x with
    | true => have := putS_len lt x l; simp only [cond_true, List.length_cons]; omega
    | false => cases lt x y <;> simp
theorem fold_len (lt : α → α → Bool) : ∀ l a : List α, (l.foldl (putS lt) a).length ≤ a.length + l.length
  | [], a => by simp
  | x :: l, a => by
    have h1 := fold_len lt l (putS lt a x)
    have h2 := putS_len lt x a
    rw [List.foldl_cons, List.length_cons]
    omega
theorem sortS_len (lt : α → α → Bool) (l : List α) : (sortS lt l).length ≤ l.length := by
  have := fold_len lt l []
  simpa [sortS] using this
def cmpS [DecidableEq α] : List α → List α
  | [] => []
  | [x] => [x]
  | x :: y :: l => if x = y then cmpS (y :: l) else x :: cmpS (y :: l)
theorem cmpS_mem [DecidableEq α] {z : α} : ∀ {l : List α}, z ∈ cmpS l ↔ z ∈ l
  | [] => by simp [cmpS]
  | [x] => by simp [cmpS]
  | x :: y :: l => by
    unfold cmpS
    have ih := cmpS_mem (z := z) (l := y :: l)
    split
    · rename_i e
      rw [ih, e]
      simp
    · simp only [List.mem_cons] at ih ⊢
      rw [ih]
theorem cmpS_asc [DecidableEq α] (h : LinO lt) : ∀ {l : List α}, (l.Pairwise fun x y => lt y x = false) → Asc lt (cmpS l)
  | [], _ => .nil
  | [x], _ => by simp [cmpS]
  | x :: y :: l, hl => by
    obtain ⟨l1, l2⟩ := List.pairwise_cons.1 hl
    have ih := cmpS_asc h l2
    unfold cmpS
    split
    · exact ih
    · rename_i hne
      refine List.pairwise_cons.2 ⟨fun z hz => ?_, ih⟩
      have hz := cmpS_mem.1 hz
      have hxy : lt x y = true := by
        cases hh : lt x y with
        | true => rfl
        | false => exact absurd (h.tot x y hh (l1 y (.head _))) hne
      rcases List.mem_cons.1 hz with rfl | hz
      · exact hxy
      · have h3 := (List.pairwise_cons.1 l2).1 z hz
        cases hh : lt y z with
        | true => exact h.trans _ _ _ hxy hh
        | false => rw [← h.tot y z hh h3]; exact hxy
theorem sort_cmp [DecidableEq α] (h : LinO lt) {l r : List α} (hp : r.Perm l) (hr : r.Pairwise fun x y => lt y x = false) : cmpS r = sortS lt l := sortS_of h (cmpS_asc h hr) fun z => cmpS_mem.trans hp.mem_iff
end
end
section
open Go
theorem cmpS_snoc_need_required (x : need_required) : ∀ l : List need_required, cmpS (l ++ [x]) = if l.getLast? = some x then cmpS l else cmpS l ++ [x]
  | [] => by simp [cmpS]
  | [y] => by
    show (if y = x then cmpS [x] else y :: cmpS [x]) = _
    by_cases h : y = x
    · rw [if_pos h, if_pos (by simp [h]), h]
    · rw [if_neg h, if_neg (by simpa using h)]
      rfl
  | y :: z :: l => by
    have ih := cmpS_snoc_need_required x (z :: l)
    show (if y = z then cmpS (z :: (l ++ [x])) else y :: cmpS (z :: (l ++ [x]))) = _
    rw [List.getLast?_cons_cons]
    have e : cmpS (y :: z :: l) = if y = z then cmpS (z :: l) else y :: cmpS (z :: l) := rfl
    rw [e, show z :: (l ++ [x]) = z :: l ++ [x] from rfl, ih]
    by_cases h : y = z
    · rw [if_pos h, if_pos h]
    · rw [if_neg h, if_neg h]
      split <;> rfl
theorem cmp_step_need_required {s : List need_required} {i : Nat} {x y : need_required} (hx : s[i + 1]? = some x) (hy : s[i]? = some y) : cmpS (s.take (i + 2)) = if y = x then cmpS (s.take (i + 1)) else cmpS (s.take (i + 1)) ++ [x] := by
  rw [take_succ' hx, cmpS_snoc_need_required]
  rw [show (s.take (i + 1)).getLast? = some y by rw [take_succ' hy]; simp]
  by_cases h : y = x
  · rw [if_pos (by rw [h]), if_pos h]
  · rw [if_neg (fun e => h (by injection e)), if_neg h]
theorem compact_need_required (s : List need_required) (hs : s.length < 4611686018427387904) : Ok (g_slices_Compact_need_required s) (fun r => r = cmpS s) := by
  unfold g_slices_Compact_need_required
  refine Ok.cond (fun h => Ok.ret ?_) (fun h => ?_)
  · have h := of_decide_eq_true h
    match s, h with
    | [], _ => rfl
    | [x], _ => rfl
    | _ :: _ :: _, h => simp only [List.length_cons] at h; omega
  · have h := of_decide_eq_false h
    refine Ok.loop (fun k : Int => ∃ i : Nat, k = ((i + 1 : Nat) : Int) ∧ i + 1 ≤ s.length ∧ cmpS (s.take (i + 1)) = s.take (i + 1)) (fun k => s.length - k.toNat) ?_ ⟨0, rfl, by omega, ?_⟩
    · rintro k ⟨i, rfl, hi, hc⟩
      show Ok (g_slices_Compact_need_required.l1 s ((i + 1 : Nat) : Int)) _
      unfold g_slices_Compact_need_required.l1
      refine Ok.cond (fun h1 => ?_) (fun h1 => ?_)
      · have h1 := of_decide_eq_true h1
        obtain ⟨x, hx⟩ : ∃ x, s[i + 1]? = some x := ⟨_, List.getElem?_eq_getElem (by omega)⟩
        obtain ⟨y, hy⟩ : ∃ y, s[i]? = some y := ⟨_, List.getElem?_eq_getElem (by omega)⟩
        refine Ok.bindE (getI_nat.trans hx) ?_
        rw [W_id (show -9223372036854775808 ≤ ((i + 1 : Nat) : Int) - 1 ∧ ((i + 1 : Nat) : Int) - 1 ≤ 9223372036854775807 by omega), show ((i + 1 : Nat) : Int) - 1 = (i : Int) by omega]
        refine Ok.bindE (getI_nat.trans hy) ?_
        have hst := cmp_step_need_required hx hy
        refine Ok.cond (fun h2 => ?_) (fun h2 => Ok.ret ⟨⟨i + 1, ?_, by omega, ?_⟩, ?_⟩)
        · have h2 := of_decide_eq_true h2
          rw [if_pos h2.symm, hc] at hst
          refine Ok.bind (slI_ok (a := ((i + 1 : Nat) : Int)) (b := (s.length : Int)) (by omega)) fun l _ => ?_
          refine Ok.loop (fun q : Int × Int × List need_required => ∃ a b : Nat, q.1 = (a : Int) ∧ q.2.1 = ((b + 1 : Nat) : Int) ∧ a ≤ i + 1 + b ∧ i + 1 + b + 1 ≤ s.length ∧ q.2.2.length = s.length ∧ q.2.2.take a = cmpS (s.take (i + 1 + b + 1)) ∧ ∀ m, i + 1 + b ≤ m → q.2.2[m]? = s[m]?) (fun q => s.length - q.2.1.toNat) ?_ ⟨i + 1, 0, rfl, rfl, by omega, by omega, rfl, hst.symm, fun _ _ => rfl⟩
          rintro ⟨k', k2, s'⟩ ⟨a, b, e1, e2, h3, h4, h5, h6, h7⟩
          simp only at e1 e2 h5 h6 h7
          subst e1 e2
          show Ok (g_slices_Compact_need_required.l2 s ((i + 1 : Nat) : Int) (a : Int) ((b + 1 : Nat) : Int) s') _
          unfold g_slices_Compact_need_required.l2
          have ed : (((i + 1 : Nat) : Int)).toNat = i + 1 := by omega
          have en : (((s.length : Int) : Int)).toNat = s.length := by omega
          have hget : ∀ m : Nat, m < s.length - (i + 1) → getI ((s'.drop (((i + 1 : Nat) : Int)).toNat).take ((((s.length : Int) : Int)).toNat - (((i + 1 : Nat) : Int)).toNat)) (m : Int) = s'[i + 1 + m]? := fun m hm => by
            rw [getI_nat, ed, en, List.getElem?_take, if_pos hm, List.getElem?_drop]
          refine Ok.cond (fun g1 => ?_) (fun g1 => ?_)
          · have g1 := of_decide_eq_true g1
            rw [ed, en] at g1
            obtain ⟨x2, hx2⟩ : ∃ x2, s[i + 1 + b + 1]? = some x2 := ⟨_, List.getElem?_eq_getElem (by omega)⟩
            obtain ⟨y2, hy2⟩ : ∃ y2, s[i + 1 + b]? = some y2 := ⟨_, List.getElem?_eq_getElem (by omega)⟩
            refine Ok.bindE ((hget (b + 1) (by omega)).trans ((h7 _ (by omega)).trans hx2)) ?_
            rw [W_id (show -9223372036854775808 ≤ ((b + 1 : Nat) : Int) - 1 ∧ ((b + 1 : Nat) : Int) - 1 ≤ 9223372036854775807 by omega), show ((b + 1 : Nat) : Int) - 1 = (b : Int) by omega]
            refine Ok.bindE ((hget b (by omega)).trans ((h7 _ (by omega)).trans hy2)) ?_
            have hs2 := cmp_step_need_required hx2 hy2
            have eb : W (((b + 1 : Nat) : Int) + 1) = ((b + 1 + 1 : Nat) : Int) := by rw [W_id (by omega)]; omega
            refine Ok.cond (fun g2 => ?_) (fun g2 => ?_)
            · have g2 : ¬ x2 = y2 := by simpa using g2
              rw [if_neg (fun e => g2 e.symm)] at hs2
              obtain ⟨z, hz⟩ : ∃ z, s'[a]? = some z := ⟨_, List.getElem?_eq_getElem (by omega)⟩
              refine Ok.bindE (getI_nat.trans hz) ?_
              unfold g_slices_Compact_need_required.j3
              rw [eb, W_id (show -9223372036854775808 ≤ (a : Int) + 1 ∧ (a : Int) + 1 ≤ 9223372036854775807 by omega)]
              have ea : ((a : Int)).toNat = a := by omega
              refine Ok.ret ⟨⟨a + 1, b + 1, by omega, rfl, by omega, by omega, ?_, ?_, fun m hm => ?_⟩, ?_⟩
              · show (setI s' (a : Int).toNat x2).length = _
                unfold setI
                rw [List.length_set]; exact h5
              · show (setI s' (a : Int).toNat x2).take (a + 1) = _
                unfold setI
                have : (s'.set (a : Int).toNat x2)[a]? = some x2 := by rw [ea, List.getElem?_set_self (by omega)]
                rw [take_succ' this, ea, List.take_set_of_le (Nat.le_refl a), h6]
                exact hs2.symm
              · show (setI s' (a : Int).toNat x2)[m]? = _
                unfold setI
                rw [List.getElem?_set_ne (by omega)]
                exact h7 m (by omega)
              · show s.length - (((b + 1 + 1 : Nat) : Int)).toNat < s.length - (((b + 1 : Nat) : Int)).toNat
                omega
            · have g2 : x2 = y2 := by simpa using g2
              rw [if_pos g2.symm] at hs2
              unfold g_slices_Compact_need_required.j3
              rw [eb]
              refine Ok.ret ⟨⟨a, b + 1, rfl, rfl, by omega, by omega, h5, h6.trans hs2.symm, fun m hm => h7 m (by omega)⟩, ?_⟩
              show s.length - (((b + 1 + 1 : Nat) : Int)).toNat < s.length - (((b + 1 : Nat) : Int)).toNat
              omega
          · have g1 := of_decide_eq_false g1
            rw [ed, en] at g1
            have hb : i + 1 + b + 1 = s.length := by omega
            rw [hb, List.take_length] at h6
            have ea : ((a : Int)).toNat = a := by omega
            refine Ok.up (Ok.bind (slI_ok (a := (a : Int)) (b := (s'.length : Int)) (by omega)) fun l2 _ => ?_)
            refine Ok.bind (Q := fun r => r.length = s'.length ∧ r.take a = s'.take a) ?_ fun l3 h3' => ?_
            · unfold clrI
              rw [ea, show (((s'.length : Int) : Int)).toNat = s'.length by omega, if_pos (by omega)]
              refine ⟨_, rfl, by simp; omega, ?_⟩
              rw [List.append_assoc, List.take_append, List.take_of_length_le (by simp; omega)]
              have : a - (s'.take a).length = 0 := by rw [List.length_take]; omega
              rw [this]
              simp
            · refine Ok.bind (slI_ok (a := 0) (b := (a : Int)) (by omega)) fun l4 _ => Ok.up (Ok.ret ?_)
              show l3.take ((a : Int).toNat - (0 : Int).toNat) = _
              rw [ea, show a - (0 : Int).toNat = a from rfl, h3'.2, h6]
        · rw [W_id (by omega)]
          omega
        · have h2 : ¬ x = y := of_decide_eq_false h2
          rw [if_neg (fun e => h2 e.symm), hc, ← take_succ' hx] at hst
          exact hst
        · rw [W_id (by omega)]
          omega
      · have h1 := of_decide_eq_false h1
        refine Ok.up (Ok.ret ?_)
        have hl : i + 1 = s.length := by omega
        rw [hl, List.take_length] at hc
        exact hc.symm
    · match s, h with
      | [], _ => rfl
      | x :: _, _ => rfl
end
section
structure Pre {α : Type} (c : α → α → Int) : Prop where
  anti : ∀ a b, c b a = - c a b
  tr : ∀ a b d, c a b ≤ 0 → c b d ≤ 0 → c a d ≤ 0
section
variable {α β : Type} {c c' : α → α → Int}
theorem Pre.self (h : Pre c) (a : α) : c a a = 0 := by have := h.anti a a; omega
theorem Pre.by_ (f : α → β) {d : β → β → Int} (h : Pre d) : Pre fun a b => d (f a) (f b) := ⟨fun a b => h.anti _ _, fun a b d' h1 h2 => h.tr _ _ _ h1 h2⟩
end
def cmpI (x y : Int) : Int := bif decide (x < y) then -1 else bif decide (y < x) then 1 else 0
end
section
open Go
def ltR (a b : api_Required) : Bool := bif !decide (a.First = b.First) then decide (a.First < b.First) else decide (a.Then < b.Then)
theorem ltR_iff {a b : api_Required} : ltR a b = true ↔ a.First < b.First ∨ (a.First = b.First ∧ a.Then < b.Then) := by
  unfold ltR
  by_cases h : a.First = b.First
  · rw [decide_eq_true h]; simp [h]
  · rw [decide_eq_false h]; simp [h]
theorem ltR_f {a b : api_Required} : ltR a b = false ↔ ¬ (a.First < b.First ∨ (a.First = b.First ∧ a.Then < b.Then)) := by
  rw [← ltR_iff]; simp
theorem linR : LinO ltR where
  irrefl a := ltR_f.2 (by omega)
  trans a b c h1 h2 := by rw [ltR_iff] at *; omega
  tot a b h1 h2 := by
    rw [ltR_f] at h1 h2
    cases a; cases b
    simp only at h1 h2
    congr 1 <;> omega
abbrev SA (l : List api_Required) : Prop := Asc ltR l
def rq (x : api_Required) : need_required := ⟨x.First, x.Then⟩
def ur (x : need_required) : api_Required := ⟨x.First, x.Then⟩
def ltQ (a b : need_required) : Bool := ltR (ur a) (ur b)
theorem linQ : LinO ltQ where
  irrefl a := linR.irrefl _
  trans a b c h1 h2 := linR.trans _ _ _ h1 h2
  tot a b h1 h2 := by
    have := linR.tot _ _ h1 h2
    have := congrArg rq this
    exact this
theorem swoQ : Sort.SWO ltQ where
  irrefl a := linQ.irrefl a
  trans a b c h1 h2 := linQ.trans _ _ _ h1 h2
  ntrans a b c h1 h2 := by
    cases h : ltQ a c with
    | false => rfl
    | true =>
      cases h3 : ltQ b a with
      | true => have := linQ.trans _ _ _ h3 h; rw [h2] at this; cases this
      | false =>
        rw [linQ.tot _ _ h1 h3] at h
        rw [h2] at h; cases h
theorem cmp_int (x y : Int) : g_cmp_Compare_int x y = some (cmpI x y) := by
  unfold g_cmp_Compare_int g_cmp_isNaN_int cmpI
  by_cases h1 : x < y
  · simp [h1]
  · by_cases h2 : y < x <;> simp [h1, h2]
theorem cmp_or2 (x y : Int) : g_cmp_Or_int [x, y] = some (bif !decide (x = 0) then x else y) := by
  unfold g_cmp_Or_int
  by_cases hx : x = 0
  · subst hx
    have e1 : g_cmp_Or_int.l1 [0, y] 0 = some (.next 1) := rfl
    rw [loop_next (body := fun q' => g_cmp_Or_int.l1 [0, y] q') e1]
    by_cases hy : y = 0
    · subst hy
      have e2 : g_cmp_Or_int.l1 [0, 0] 1 = some (.next 2) := rfl
      have e3 : g_cmp_Or_int.l1 [0, 0] 2 = up (some 0) := rfl
      rw [loop_next (body := fun q' => g_cmp_Or_int.l1 [0, 0] q') e2, loop_up e3]
      rfl
    · have e2 : g_cmp_Or_int.l1 [0, y] 1 = up (some y) := by
        show cond _ (Option.bind (some y) _) _ = _
        show cond (!decide (y = 0)) _ _ = _
        rw [decide_eq_false hy]; rfl
      rw [loop_up e2]
      rfl
  · have e1 : g_cmp_Or_int.l1 [x, y] 0 = up (some x) := by
      show cond (!decide (x = 0)) _ _ = _
      rw [decide_eq_false hx]; rfl
    rw [loop_up e1, decide_eq_false hx]
    rfl
theorem cmpQ : CmpOk_need_required (fun x0 x1 => g_need_required_compare x0 x1) ltQ (fun _ => True) := fun x y _ _ => by
  show ∃ n, g_need_required_compare x y = some n ∧ decide (n < 0) = ltQ x y
  unfold g_need_required_compare
  rw [cmp_int, Option.bind_some, cmp_int, Option.bind_some, cmp_or2, Option.bind_some]
  refine ⟨_, rfl, ?_⟩
  unfold ltQ ltR ur cmpI
  by_cases h1 : x.First < y.First
  · have : ¬ x.First = y.First := by omega
    simp [h1, this]
  · by_cases h2 : y.First < x.First
    · have : ¬ x.First = y.First := by omega
      simp [h1, h2, this]
    · have : x.First = y.First := by omega
      simp only [this, Int.lt_irrefl, decide_false, cond_false, decide_true, Bool.not_true]
      by_cases h3 : x.Then < y.Then
      · simp [h3]
      · by_cases h4 : y.Then < x.Then <;> simp [h3, h4]
theorem sortS_map (l : List api_Required) : (sortS ltQ (l.map rq)).map ur = sortS ltR l := by
  refine sortS_of linR ?_ fun z => ?_
  · exact List.Pairwise.map ur (fun a b h => h) (sortS_asc linQ _)
  · constructor
    · intro h
      obtain ⟨q, h1, rfl⟩ := List.mem_map.1 h
      obtain ⟨x, h2, rfl⟩ := List.mem_map.1 ((sortS_mem linQ).1 h1)
      exact h2
    · intro h
      exact List.mem_map.2 ⟨rq z, (sortS_mem linQ).2 (List.mem_map.2 ⟨z, h, rfl⟩), rfl⟩
theorem cap_le : cap_need_required ≤ 65535 := by unfold cap_need_required; omega
theorem need_sorted_ok (l : List api_Required) (hl : l.length ≤ cap_need_required) : g_need_sorted l = some (sortS ltR l) := by
  have hcap := cap_le
  obtain ⟨r, hr1, hr2, hr3⟩ := sortC_need_required swoQ cmpQ (l.map rq) (by simpa using hl) (fun _ _ => trivial)
  have hrl : r.length = l.length := by rw [hr2.length_eq]; simp
  obtain ⟨c, hc1, rfl⟩ := compact_need_required r (by omega)
  have hcs : cmpS r = sortS ltQ (l.map rq) := sort_cmp linQ hr2 hr3
  rw [hcs] at hc1
  have hsl : (sortS ltQ (l.map rq)).length ≤ l.length := by have := sortS_len ltQ (l.map rq); simpa using this
  have l2 : ∀ (m p : List need_required), p ++ m = sortS ltQ (l.map rq) → loop (fun q' => g_need_sorted.l2 (sortS ltQ (l.map rq)) q'.1 q'.2) ((p.length : Int), p.map ur) = some ((p ++ m).map ur) := by
    intro m
    induction m with
    | nil =>
      intro p hp
      have : (sortS ltQ (l.map rq)).length = p.length := by rw [← hp]; simp
      refine loop_up (x := some _) ?_
      show g_need_sorted.l2 _ (p.length : Int) (p.map ur) = _
      unfold g_need_sorted.l2
      rw [decide_eq_false (by omega), cond_false, List.append_nil]
    | cons y m ih =>
      intro p hp
      have hy : (sortS ltQ (l.map rq))[p.length]? = some y := by rw [← hp]; simp
      have hlen : p.length < (sortS ltQ (l.map rq)).length := (List.getElem?_eq_some_iff.1 hy).1
      have e1 : g_need_sorted.l2 (sortS ltQ (l.map rq)) (p.length : Int) (p.map ur) = some (.next ((((p ++ [y]).length : Nat) : Int), (p ++ [y]).map ur)) := by
        unfold g_need_sorted.l2
        rw [decide_eq_true (by omega), cond_true, getI_nat, hy, Option.bind_some, appI_ok (by simp; omega), Option.bind_some, W_id (by omega)]
        simp [ur]
      rw [loop_next (body := fun q' => g_need_sorted.l2 (sortS ltQ (l.map rq)) q'.1 q'.2) e1, ih (p ++ [y]) (by simp [hp])]
      simp
  have l1 : ∀ (m p : List api_Required), p ++ m = l → loop (fun q' => g_need_sorted.l1 l q'.1 q'.2) ((p.length : Int), p.map rq) = some (sortS ltR l) := by
    intro m
    induction m with
    | nil =>
      intro p hp
      rw [List.append_nil] at hp
      subst hp
      refine loop_up (x := some _) ?_
      show g_need_sorted.l1 _ (p.length : Int) (p.map rq) = _
      unfold g_need_sorted.l1
      rw [decide_eq_false (by omega), cond_false, hr1, Option.bind_some, hc1, Option.bind_some]
      have := l2 (sortS ltQ (p.map rq)) [] rfl
      rw [List.nil_append] at this
      rw [sortS_map] at this
      exact congrArg up this
    | cons y m ih =>
      intro p hp
      have hy : l[p.length]? = some y := by rw [← hp]; simp
      have hlen : p.length < l.length := (List.getElem?_eq_some_iff.1 hy).1
      have e1 : g_need_sorted.l1 l (p.length : Int) (p.map rq) = some (.next ((((p ++ [y]).length : Nat) : Int), (p ++ [y]).map rq)) := by
        unfold g_need_sorted.l1
        rw [decide_eq_true (by omega), cond_true, getI_nat, hy, Option.bind_some, appI_ok (by simp; omega), Option.bind_some, W_id (by omega)]
        simp [rq]
      rw [loop_next (body := fun q' => g_need_sorted.l1 l q'.1 q'.2) e1, ih (p ++ [y]) (by simp [hp])]
  exact l1 l [] rfl
end
section
inductive TC (R : Nat → Nat → Prop) : Nat → Nat → Prop
  | one {a b} (h : R a b) : TC R a b
  | step {a b c} (h : R a b) (hs : TC R b c) : TC R a c
theorem TC.trans {R : Nat → Nat → Prop} {a b c : Nat} (h : TC R a b) (h' : TC R b c) : TC R a c := by
  induction h with
  | one h => exact .step h h'
  | step h _ ih => exact .step h (ih h')
theorem TC.mono {R S : Nat → Nat → Prop} (hRS : ∀ a b, R a b → S a b) {a b : Nat} (h : TC R a b) : TC S a b := by
  induction h with
  | one h => exact .one (hRS _ _ h)
  | step h _ ih => exact .step (hRS _ _ h) ih
theorem TC.lt {R : Nat → Nat → Prop} {n : Nat} (hR : ∀ a b, R a b → a < n ∧ b < n) {a b : Nat} (h : TC R a b) : a < n ∧ b < n := by
  induction h with
  | one h => exact hR _ _ h
  | step h _ ih => exact ⟨(hR _ _ h).1, ih.2⟩
theorem TC.up {R : Nat → Nat → Prop} (hR : ∀ a b, R a b → a < b) {a b : Nat} (h : TC R a b) : a < b := by
  induction h with
  | one h => exact hR _ _ h
  | step h _ ih => exact Nat.lt_trans (hR _ _ h) ih
def wst (k : Nat) (w : Nat → Nat → Bool) : Nat → Nat → Bool := fun i j => w i j || (w i k && w k j)
def warsh (w : Nat → Nat → Bool) : Nat → Nat → Nat → Bool
  | 0 => w
  | k + 1 => wst k (warsh w k)
theorem warsh_sound {w : Nat → Nat → Bool} : ∀ {k i j : Nat}, warsh w k i j = true → TC (fun a b => w a b = true) i j
  | 0, _, _, h => .one h
  | k + 1, i, j, h => by
    have h : (warsh w k i j || (warsh w k i k && warsh w k k j)) = true := h
    rw [Bool.or_eq_true, Bool.and_eq_true] at h
    rcases h with h | ⟨h1, h2⟩
    · exact warsh_sound h
    · exact (warsh_sound h1).trans (warsh_sound h2)
theorem warsh_ext {w : Nat → Nat → Bool} : ∀ {k i j : Nat}, w i j = true → warsh w k i j = true
  | 0, _, _, h => h
  | k + 1, i, j, h => by
    show (warsh w k i j || (warsh w k i k && warsh w k k j)) = true
    rw [warsh_ext h]
    rfl
theorem warsh_closed {w : Nat → Nat → Bool} : ∀ {k i j m : Nat}, m < k → warsh w k i m = true → warsh w k m j = true → warsh w k i j = true
  | 0, _, _, _, h, _, _ => by omega
  | k + 1, i, j, m, hm, h1, h2 => by
    have P : ∀ i j m, m < k → warsh w k i m = true → warsh w k m j = true → warsh w k i j = true := fun i j m => warsh_closed
    have h1 : (warsh w k i m || (warsh w k i k && warsh w k k m)) = true := h1
    have h2 : (warsh w k m j || (warsh w k m k && warsh w k k j)) = true := h2
    show (warsh w k i j || (warsh w k i k && warsh w k k j)) = true
    simp only [Bool.or_eq_true, Bool.and_eq_true] at h1 h2 ⊢
    rcases Nat.lt_or_ge m k with hk | hk
    · rcases h1 with h1 | ⟨h1, h3⟩ <;> rcases h2 with h2 | ⟨h2, h4⟩
      · exact .inl (P i j m hk h1 h2)
      · exact .inr ⟨P i k m hk h1 h2, h4⟩
      · exact .inr ⟨h1, P k j m hk h3 h2⟩
      · exact .inr ⟨h1, h4⟩
    · have : m = k := by omega
      subst this
      have h1 : warsh w m i m = true := h1.elim id And.left
      have h2 : warsh w m m j = true := h2.elim id And.right
      exact .inr ⟨h1, h2⟩
theorem warsh_iff {w : Nat → Nat → Bool} {n : Nat} (hw : ∀ a b, w a b = true → a < n ∧ b < n) {i j : Nat} : warsh w n i j = true ↔ TC (fun a b => w a b = true) i j := by
  refine ⟨warsh_sound, fun h => ?_⟩
  induction h with
  | one h => exact warsh_ext h
  | step h hs ih => exact warsh_closed (hw _ _ h).2 (warsh_ext h) ih
end
section
open Go
structure Mx (n : Nat) (M : List (List Bool)) (w : Nat → Nat → Bool) : Prop where
  len : M.length = n
  row : ∀ i, i < n → ∃ r, M[i]? = some r ∧ r.length = n ∧ ∀ j, j < n → r[j]? = some (w i j)
theorem Mx.congr {n : Nat} {M : List (List Bool)} {w w' : Nat → Nat → Bool} (h : Mx n M w) (e : ∀ i j, i < n → j < n → w i j = w' i j) : Mx n M w' :=
  ⟨h.len, fun i hi => by obtain ⟨r, h1, h2, h3⟩ := h.row i hi; exact ⟨r, h1, h2, fun j hj => by rw [h3 j hj, e i j hi hj]⟩⟩
theorem Mx.get {n : Nat} {M : List (List Bool)} {w : Nat → Nat → Bool} (h : Mx n M w) {i : Nat} (hi : i < n) : ∃ r, getI M (i : Int) = some r ∧ r.length = n ∧ M[i]? = some r ∧ ∀ j, j < n → getI r (j : Int) = some (w i j) := by
  obtain ⟨r, h1, h2, h3⟩ := h.row i hi
  exact ⟨r, getI_nat.trans h1, h2, h1, fun j hj => getI_nat.trans (h3 j hj)⟩
def setW (w : Nat → Nat → Bool) (i j : Nat) : Nat → Nat → Bool := fun a b => decide (a = i ∧ b = j) || w a b
theorem Mx.set {n : Nat} {M : List (List Bool)} {w : Nat → Nat → Bool} (h : Mx n M w) {i j : Nat} (hi : i < n) (hj : j < n) {r : List Bool} (hr : M[i]? = some r) : Mx n (setI M i (setI r j true)) (setW w i j) := by
  refine ⟨by unfold setI; rw [List.length_set]; exact h.len, fun a ha => ?_⟩
  unfold setI
  by_cases e : a = i
  · subst e
    obtain ⟨r', h1, h2, h3⟩ := h.row a ha
    rw [hr] at h1
    injection h1 with h1
    subst h1
    refine ⟨r.set j true, List.getElem?_set_self (by rw [h.len]; exact ha), by rw [List.length_set]; exact h2, fun b hb => ?_⟩
    unfold setW
    by_cases e2 : b = j
    · subst e2
      rw [List.getElem?_set_self (by omega), decide_eq_true ⟨rfl, rfl⟩]
      rfl
    · rw [List.getElem?_set_ne (fun e => e2 e.symm), h3 b hb, decide_eq_false (fun e => e2 e.2)]
      rfl
  · obtain ⟨r', h1, h2, h3⟩ := h.row a ha
    refine ⟨r', by rw [List.getElem?_set_ne (fun x => e x.symm)]; exact h1, h2, fun b hb => ?_⟩
    unfold setW
    rw [h3 b hb, decide_eq_false (fun x => e x.1)]
    rfl
def edge (l : List api_Required) : Nat → Nat → Bool := fun a b => l.any fun r => decide (r = ⟨(a : Int), (b : Int)⟩)
def InR (n : Nat) (l : List api_Required) : Prop := ∀ r ∈ l, 0 ≤ r.First ∧ r.First < n ∧ 0 ≤ r.Then ∧ r.Then < n
theorem edge_iff {l : List api_Required} {a b : Nat} : edge l a b = true ↔ (⟨(a : Int), (b : Int)⟩ : api_Required) ∈ l := by
  unfold edge
  rw [List.any_eq_true]
  constructor
  · rintro ⟨r, h1, h2⟩
    rw [of_decide_eq_true h2] at h1; exact h1
  · intro h
    exact ⟨_, h, decide_eq_true rfl⟩
theorem edge_lt {n : Nat} {l : List api_Required} (h : InR n l) {a b : Nat} (hab : edge l a b = true) : a < n ∧ b < n := by
  obtain ⟨h1, h2, h3, h4⟩ := h _ (edge_iff.1 hab)
  simp only at h1 h2 h3 h4
  omega
def cur (k : Nat) (w : Nat → Nat → Bool) (i j : Nat) : Nat → Nat → Bool := fun a b => if a < i ∨ (a = i ∧ b < j) then wst k w a b else w a b
theorem wst_col {k : Nat} {w : Nat → Nat → Bool} {i : Nat} : wst k w i k = w i k := by unfold wst; cases w i k <;> simp
theorem wst_row {k : Nat} {w : Nat → Nat → Bool} {j : Nat} : wst k w k j = w k j := by unfold wst; cases w k j <;> simp
theorem cur_col {k : Nat} {w : Nat → Nat → Bool} {i j a : Nat} : cur k w i j a k = w a k := by unfold cur; split; exact wst_col; rfl
theorem cur_row {k : Nat} {w : Nat → Nat → Bool} {i j b : Nat} : cur k w i j k b = w k b := by unfold cur; split; exact wst_row; rfl
theorem cur_here {k : Nat} {w : Nat → Nat → Bool} {i j : Nat} : cur k w i j i j = w i j := by unfold cur; rw [if_neg (by omega)]
theorem cur_next {k : Nat} {w : Nat → Nat → Bool} {i j a b : Nat} : cur k w i (j + 1) a b = if a = i ∧ b = j then wst k w i j else cur k w i j a b := by
  unfold cur
  by_cases e : a = i ∧ b = j
  · rw [if_pos e, e.1, e.2, if_pos (by omega)]
  · rw [if_neg e]
    by_cases h : a < i ∨ (a = i ∧ b < j)
    · rw [if_pos h, if_pos (by omega)]
    · rw [if_neg h, if_neg (by omega)]
theorem need_Chain_ok (l : List Int) (hl : l.length ≤ 1000) (hc : l.length ≤ cap_need_required) : Ok (g_need_Chain l) (fun r => r = sortS ltR ((List.range (l.length - 1)).map fun i => ⟨l.getD i 0, l.getD (i + 1) 0⟩)) := by
  unfold g_need_Chain
  refine Ok.loop (fun s : Int × List api_Required => ∃ i : Nat, s.1 = ((i + 1 : Nat) : Int) ∧ (i = 0 ∨ i + 1 ≤ l.length) ∧ s.2 = (List.range i).map fun i => ⟨l.getD i 0, l.getD (i + 1) 0⟩) (fun s => l.length - s.1.toNat) ?_ ⟨0, rfl, .inl rfl, rfl⟩
  rintro ⟨_, _⟩ ⟨i, rfl, hi, rfl⟩
  show Ok (g_need_Chain.l1 l ((i + 1 : Nat) : Int) _) _
  unfold g_need_Chain.l1
  refine Ok.cond (fun h => ?_) (fun h => ?_)
  · have hil : i + 1 < l.length := by have := of_decide_eq_true h; omega
    have e1 : l[i]? = some (l.getD i 0) := by rw [List.getD_eq_getElem?_getD, List.getElem?_eq_getElem (by omega)]; rfl
    have e2 : l[i + 1]? = some (l.getD (i + 1) 0) := by rw [List.getD_eq_getElem?_getD, List.getElem?_eq_getElem (by omega)]; rfl
    rw [W_id (by omega), show ((i + 1 : Nat) : Int) - 1 = (i : Int) by omega, getI_nat, e1, Option.bind_some, getI_nat, e2, Option.bind_some, appI_ok (by simp; omega), Option.bind_some]
    refine Ok.ret ⟨⟨i + 1, by rw [W_id (by omega)]; omega, .inr (by omega), by rw [List.range_succ]; simp⟩, by show l.length - (W (((i + 1 : Nat) : Int) + 1)).toNat < l.length - (((i + 1 : Nat) : Int)).toNat; rw [W_id (by omega)]; omega⟩
  · have hil : l.length - 1 = i := by have := of_decide_eq_false h; omega
    rw [need_sorted_ok _ (by simp; omega), Option.bind_some]
    exact Ok.up (Ok.ret (by rw [hil]))
structure Mad (n : Nat) (l : List api_Required) : Prop where
  asc : SA l
  len : l.length ≤ 200
  fwd : ∀ r ∈ l, 0 ≤ r.First ∧ r.First < r.Then ∧ r.Then < n
theorem Mad.inr {n : Nat} {l : List api_Required} (h : Mad n l) : InR n l := fun r hr => by have := h.fwd r hr; omega
theorem awake28 : g_law28_awake = some true := by
  obtain ⟨c, hc, rfl⟩ := need_Chain_ok [2, 0, 1] (by decide) (by decide)
  unfold g_law28_awake
  have e1 : g_need_Rank (api_Endpoint.mk (⟨#[]⟩ : ByteArray) 0 0 ([] : (List Int)) false ([] : (List api_Identity)) ([] : (List Int)) ([] : (List Int)) false) (api_Change.mk 0 5 0 0 (api_Identity.mk (api_Use.mk 0 0) 0 ([] : List api_Certificate))) = some 1 := rfl
  have e2 : g_need_Rank (api_Endpoint.mk (⟨#[]⟩ : ByteArray) 0 0 ([] : (List Int)) false ([] : (List api_Identity)) ([] : (List Int)) ([] : (List Int)) false) (api_Change.mk 0 2 0 0 (api_Identity.mk (api_Use.mk 0 0) 0 ([] : List api_Certificate))) = some 3 := rfl
  rw [e1, Option.bind_some, decide_eq_true rfl, cond_true, e2, Option.bind_some, decide_eq_true rfl, cond_true, hc, Option.bind_some]
  rfl
theorem roll28 {t : List Int} (h : t.length ≤ 400) : Ok (g_make_Roll t) DOK := Ok.ret ⟨by unfold Lo; show t.length < _; omega, Int.le_refl _, by show (0 : Int) ≤ (t.length : Int); omega⟩
end
section
open Go
section
variable {κ ν : Type} [DecidableEq κ]
theorem mapGet_cons (p : κ × ν) (l : List (κ × ν)) (x : κ) (z : ν) : mapGet (p :: l) x z = if p.1 = x then p.2 else mapGet l x z := by
  unfold mapGet
  by_cases h : p.1 = x <;> simp [h]
theorem mapPut_cons (p : κ × ν) (l : List (κ × ν)) (x : κ) (v : ν) : mapPut (p :: l) x v = if p.1 = x then (x, v) :: l else p :: mapPut l x v := by
  unfold mapPut
  by_cases h : p.1 = x
  · rw [List.findIdx?_cons, decide_eq_true h, if_pos h]; rfl
  · rw [List.findIdx?_cons, decide_eq_false h, if_neg h]
    cases hf : l.findIdx? (fun p => decide (p.1 = x)) <;> simp
theorem mapGet_put (x : κ) (v : ν) (y : κ) (z : ν) : ∀ l : List (κ × ν), mapGet (mapPut l x v) y z = if x = y then v else mapGet l y z
  | [] => by
    show mapGet [(x, v)] y z = _
    rw [mapGet_cons]
  | p :: l => by
    rw [mapPut_cons]
    by_cases h : p.1 = x
    · rw [if_pos h, mapGet_cons, mapGet_cons]
      by_cases e : x = y
      · rw [if_pos e, if_pos e]
      · rw [if_neg e, if_neg e, if_neg (by rw [h]; exact e)]
    · rw [if_neg h, mapGet_cons, mapGet_put x v y z l, mapGet_cons]
      by_cases e : x = y
      · rw [if_pos e, if_pos e, if_neg (by rw [← e]; exact h)]
      · rw [if_neg e, if_neg e]
end
def MW (n : Nat) (m : List (api_Required × Bool)) (w : Nat → Nat → Bool) : Prop := ∀ a b : Nat, a < n → b < n → mapGet m ⟨(a : Int), (b : Int)⟩ false = w a b
theorem MW.congr {n : Nat} {m : List (api_Required × Bool)} {w w' : Nat → Nat → Bool} (h : MW n m w) (e : ∀ i j, i < n → j < n → w i j = w' i j) : MW n m w' := fun a b ha hb => (h a b ha hb).trans (e a b ha hb)
theorem MW.put {n : Nat} {m : List (api_Required × Bool)} {w : Nat → Nat → Bool} (h : MW n m w) (i j : Nat) : MW n (mapPut m ⟨(i : Int), (j : Int)⟩ true) (setW w i j) := fun a b ha hb => by
  rw [mapGet_put, h a b ha hb]
  unfold setW
  by_cases e : a = i ∧ b = j
  · rw [decide_eq_true e, if_pos (by rw [e.1, e.2])]; rfl
  · rw [decide_eq_false e, if_neg (fun x => by injection x with x1 x2; exact e ⟨by omega, by omega⟩)]; rfl
theorem reach_ok {n : Nat} (hn : n ≤ 1000) {l : List api_Required} (hl : InR n l) (hlen : l.length ≤ 1000000) : Ok (g_need_reach (n : Int) l) (fun M => MW n M (warsh (edge l) n)) := by
  have l6 : ∀ (k i : Nat) (w : Nat → Nat → Bool), k < n → i < n → ∀ (s : Int × List (api_Required × Bool)), (∃ j : Nat, s.1 = (j : Int) ∧ j ≤ n ∧ MW n s.2 (cur k w i j)) →
      Ok (loop (fun q' => g_need_reach.l4 (n : Int) (k : Int) (i : Int) q'.1 q'.2) s) (Rd' (fun s' : Int × List (api_Required × Bool) => (s'.1 = ((i + 1 : Nat) : Int) ∧ MW n s'.2 (cur k w (i + 1) 0)) ∧ True) (fun _ => False)) := by
    intro k i w hk hi s hs
    refine Ok.loop (fun s : Int × List (api_Required × Bool) => ∃ j : Nat, s.1 = (j : Int) ∧ j ≤ n ∧ MW n s.2 (cur k w i j)) (fun s => n - s.1.toNat) ?_ hs
    rintro ⟨_, M⟩ ⟨j, rfl, hj, hM⟩
    have hM : MW n M (cur k w i j) := hM
    show Ok (g_need_reach.l4 (n : Int) (k : Int) (i : Int) (j : Int) M) _
    unfold g_need_reach.l4
    refine Ok.cond (fun h => ?_) (fun h => ?_)
    · have hjn : j < n := by have := of_decide_eq_true h; omega
      have e1 : W ((j : Int) + 1) = ((j + 1 : Nat) : Int) := by rw [W_id (by omega)]; omega
      rw [hM i k hi hk, hM k j hk hjn, cur_col, cur_row]
      have fin : ∀ b : Bool, (b = true → w i k = true ∧ w k j = true) → (b = false → ¬ (w i k = true ∧ w k j = true)) → Ok (g_need_reach.j5 (i : Int) (j : Int) M b) (Rd' (fun s' : Int × List (api_Required × Bool) => (∃ j : Nat, s'.1 = (j : Int) ∧ j ≤ n ∧ MW n s'.2 (cur k w i j)) ∧ n - s'.1.toNat < n - ((j : Int)).toNat) (Rd' (fun s' : Int × List (api_Required × Bool) => (s'.1 = ((i + 1 : Nat) : Int) ∧ MW n s'.2 (cur k w (i + 1) 0)) ∧ True) (fun _ => False))) := by
        intro b hb1 hb2
        unfold g_need_reach.j5
        refine Ok.cond (fun h => ?_) (fun h => ?_)
        · obtain ⟨q1, q2⟩ := hb1 h
          unfold g_need_reach.j6
          rw [e1]
          refine Ok.ret ⟨⟨j + 1, rfl, by omega, (hM.put i j).congr fun a b _ _ => ?_⟩, by show n - ((j + 1 : Nat) : Int).toNat < _; omega⟩
          rw [cur_next]
          unfold setW
          by_cases e : a = i ∧ b = j
          · rw [decide_eq_true e, if_pos e]
            unfold wst
            rw [q1, q2]; simp
          · rw [decide_eq_false e, if_neg e]; rfl
        · have q := hb2 h
          unfold g_need_reach.j6
          rw [e1]
          refine Ok.ret ⟨⟨j + 1, rfl, by omega, hM.congr fun a b _ _ => ?_⟩, by show n - ((j + 1 : Nat) : Int).toNat < _; omega⟩
          rw [cur_next]
          by_cases e : a = i ∧ b = j
          · rw [if_pos e, e.1, e.2, cur_here]
            unfold wst
            cases h1 : w i k with
            | false => simp
            | true =>
              cases h2 : w k j with
              | false => simp
              | true => exact absurd ⟨h1, h2⟩ q
          · rw [if_neg e]
      refine Ok.cond (fun h1 => ?_) (fun h1 => ?_)
      · exact fin _ (fun h2 => ⟨h1, h2⟩) (fun h2 h3 => by rw [h3.2] at h2; cases h2)
      · exact fin _ (fun h2 => by cases h2) (fun _ h3 => by rw [h3.1] at h1; cases h1)
    · have hjn : j = n := by have := of_decide_eq_false h; omega
      subst hjn
      refine Ok.up (Ok.ret ⟨⟨?_, hM.congr fun a b ha hb => ?_⟩, trivial⟩)
      · rw [W_id (by omega)]; omega
      · unfold cur
        by_cases h : a < i ∨ (a = i ∧ b < j)
        · rw [if_pos h, if_pos (by omega)]
        · rw [if_neg h, if_neg (by omega)]
  have l5 : ∀ (k : Nat) (w : Nat → Nat → Bool), k < n → ∀ M, MW n M w → Ok (loop (fun q' => g_need_reach.l3 (n : Int) (k : Int) q'.1 q'.2) (0, M)) (Rd' (fun s' : Int × List (api_Required × Bool) => s'.1 = ((k + 1 : Nat) : Int) ∧ MW n s'.2 (wst k w)) (fun _ => False)) := by
    intro k w hk M hM
    refine Ok.loop (fun s : Int × List (api_Required × Bool) => ∃ i : Nat, s.1 = (i : Int) ∧ i ≤ n ∧ MW n s.2 (cur k w i 0)) (fun s => n - s.1.toNat) ?_ ⟨0, rfl, Nat.zero_le _, hM.congr fun a b _ _ => by unfold cur; rw [if_neg (by omega)]⟩
    rintro ⟨_, M⟩ ⟨i, rfl, hi, hM⟩
    have hM : MW n M (cur k w i 0) := hM
    show Ok (g_need_reach.l3 (n : Int) (k : Int) (i : Int) M) _
    unfold g_need_reach.l3
    refine Ok.cond (fun h => ?_) (fun h => ?_)
    · have hin : i < n := by have := of_decide_eq_true h; omega
      refine (l6 k i w hk hin (0, M) ⟨0, rfl, Nat.zero_le _, hM⟩).mono fun o ho => ?_
      cases o with
      | done r => exact ho.elim
      | next s =>
        obtain ⟨⟨h1, h2⟩, -⟩ := ho
        exact ⟨⟨i + 1, h1, hin, h2⟩, by show n - s.1.toNat < n - ((i : Int)).toNat; rw [h1]; omega⟩
    · have hin : i = n := by have := of_decide_eq_false h; omega
      subst hin
      refine Ok.up (Ok.ret ⟨?_, hM.congr fun a b ha hb => ?_⟩)
      · rw [W_id (by omega)]; omega
      · unfold cur; rw [if_pos (.inl ha)]
  have l4 : ∀ M, MW n M (edge l) → Ok (loop (fun q' => g_need_reach.l2 (n : Int) q'.1 q'.2) (0, M)) (fun M => MW n M (warsh (edge l) n)) := by
    intro M hM
    refine Ok.loop (fun s : Int × List (api_Required × Bool) => ∃ k : Nat, s.1 = (k : Int) ∧ k ≤ n ∧ MW n s.2 (warsh (edge l) k)) (fun s => n - s.1.toNat) ?_ ⟨0, rfl, Nat.zero_le _, hM⟩
    rintro ⟨_, M⟩ ⟨k, rfl, hk, hM⟩
    have hM : MW n M (warsh (edge l) k) := hM
    show Ok (g_need_reach.l2 (n : Int) (k : Int) M) _
    unfold g_need_reach.l2
    refine Ok.cond (fun h => ?_) (fun h => ?_)
    · have hkn : k < n := by have := of_decide_eq_true h; omega
      refine (l5 k _ hkn M hM).mono fun o ho => ?_
      cases o with
      | done r => exact ho.elim
      | next s =>
        obtain ⟨h1, h2⟩ := ho
        exact ⟨⟨k + 1, h1, hkn, h2⟩, by show n - s.1.toNat < n - ((k : Int)).toNat; rw [h1]; omega⟩
    · have hkn : k = n := by have := of_decide_eq_false h; omega
      subst hkn
      exact Ok.up (Ok.ret hM)
  unfold g_need_reach
  refine Ok.loop (fun s : Int × List (api_Required × Bool) => ∃ i : Nat, s.1 = (i : Int) ∧ i ≤ l.length ∧ MW n s.2 (edge (l.take i))) (fun s => l.length - s.1.toNat) ?_ ⟨0, rfl, Nat.zero_le _, fun a b _ _ => rfl⟩
  rintro ⟨_, M⟩ ⟨i, rfl, hi, hM⟩
  have hM : MW n M (edge (l.take i)) := hM
  show Ok (g_need_reach.l1 (n : Int) l (i : Int) M) _
  unfold g_need_reach.l1
  refine Ok.cond (fun h => ?_) (fun h => ?_)
  · have hil : i < l.length := by have := of_decide_eq_true h; omega
    obtain ⟨r, hr⟩ : ∃ r, l[i]? = some r := ⟨_, List.getElem?_eq_getElem hil⟩
    obtain ⟨q1, q2, q3, q4⟩ := hl r (List.mem_of_getElem? hr)
    obtain ⟨a, ha⟩ : ∃ a : Nat, r.First = (a : Int) := ⟨r.First.toNat, by omega⟩
    obtain ⟨b, hb⟩ : ∃ b : Nat, r.Then = (b : Int) := ⟨r.Then.toNat, by omega⟩
    have hrab : r = ⟨(a : Int), (b : Int)⟩ := by rw [← ha, ← hb]
    rw [getI_nat, hr, Option.bind_some]
    refine Ok.ret ⟨⟨i + 1, by rw [W_id (by omega)]; omega, hil, ?_⟩, by show l.length - (W ((i : Int) + 1)).toNat < l.length - ((i : Int)).toNat; rw [W_id (by omega)]; omega⟩
    show MW n (mapPut M r true) _
    rw [hrab]
    refine (hM.put a b).congr fun x y _ _ => ?_
    unfold setW edge
    rw [take_succ' hr, List.any_append, Bool.or_comm]
    congr 1
    simp only [List.any_cons, List.any_nil, Bool.or_false]
    rw [hrab]
    by_cases e : x = a ∧ y = b
    · rw [decide_eq_true e, e.1, e.2, decide_eq_true rfl]
    · rw [decide_eq_false e, decide_eq_false]
      intro e2
      injection e2 with e3 e4
      exact e ⟨by omega, by omega⟩
  · have hil : i = l.length := by have := of_decide_eq_false h; omega
    subst hil
    rw [List.take_length] at hM
    exact Ok.up (l4 M hM)
def keep (n : Nat) (l : List api_Required) (r : api_Required) : Bool := !(List.range n).any fun k => warsh (edge l) n r.First.toNat k && warsh (edge l) n k r.Then.toNat
def red (n : Nat) (l : List api_Required) : List api_Required := l.filter (keep n l)
theorem Mad.eup {n : Nat} {l : List api_Required} (h : Mad n l) {a b : Nat} (e : edge l a b = true) : a < b := by
  have := h.fwd _ (edge_iff.1 e)
  simp only at this
  omega
theorem Mad.acy {n : Nat} {l : List api_Required} (h : Mad n l) (a : Nat) : ¬ TC (fun a b => edge l a b = true) a a := fun ht => by
  have := ht.up (fun _ _ => h.eup)
  omega
theorem Mad.wr {n : Nat} {l : List api_Required} (h : Mad n l) {a b : Nat} : warsh (edge l) n a b = true ↔ TC (fun a b => edge l a b = true) a b := warsh_iff fun _ _ => edge_lt h.inr
theorem Mad.sub {n : Nat} {l m : List api_Required} (h : Mad n l) (hs : m.Sublist l) : Mad n m := ⟨h.asc.sublist hs, Nat.le_trans hs.length_le h.len, fun r hr => h.fwd r (hs.subset hr)⟩
theorem Mad.red {n : Nat} {l : List api_Required} (h : Mad n l) : Mad n (red n l) := h.sub List.filter_sublist
theorem Mad.keep {n : Nat} {l : List api_Required} (h : Mad n l) {a b : Nat} : keep n l ⟨(a : Int), (b : Int)⟩ = true ↔ ¬ ∃ k, TC (fun a b => edge l a b = true) a k ∧ TC (fun a b => edge l a b = true) k b := by
  unfold Proofs.YtkpcbnnlefcebaaGreat.keep
  rw [Bool.not_eq_true', ← Bool.not_eq_true, List.any_eq_true]
  refine not_congr ⟨?_, ?_⟩
  · rintro ⟨k, -, hk⟩
    rw [Bool.and_eq_true] at hk
    exact ⟨k, h.wr.1 hk.1, h.wr.1 hk.2⟩
  · rintro ⟨k, h1, h2⟩
    refine ⟨k, List.mem_range.2 (h1.lt (fun _ _ => edge_lt h.inr)).2, ?_⟩
    rw [Bool.and_eq_true]
    exact ⟨h.wr.2 h1, h.wr.2 h2⟩
structure Req (n : Nat) (l : List api_Required) : Prop where
  asc : SA l
  len : l.length ≤ 1000
  cap : l.length ≤ cap_need_required
  inr : InR n l
  acy : ∀ a, ¬ TC (fun a b => edge l a b = true) a a
theorem Req.fwd {n : Nat} {l : List api_Required} (h : Req n l) : ∀ r ∈ l, (0 ≤ r.First ∧ r.First < n ∧ 0 ≤ r.Then ∧ r.Then < n) ∧ r.First ≠ r.Then := fun r hr => by
  have q := h.inr r hr
  refine ⟨q, fun e => h.acy r.First.toNat (.one (edge_iff.2 ?_))⟩
  have e1 : ((r.First.toNat : Nat) : Int) = r.First := by omega
  have : (⟨r.First, r.First⟩ : api_Required) = r := by
    obtain ⟨x, y⟩ := r
    have e : x = y := e
    subst e; rfl
  rw [e1, this]; exact hr
theorem Req.wr {n : Nat} {l : List api_Required} (h : Req n l) {a b : Nat} : warsh (edge l) n a b = true ↔ TC (fun a b => edge l a b = true) a b := warsh_iff fun _ _ => edge_lt h.inr
theorem Reduce_ok {n : Nat} (hn : n ≤ 24) {l : List api_Required} (h : Req n l) : Ok (g_need_Reduce (n : Int) l) (fun y => y = (red n l, 0)) := by
  have hl := h.len
  unfold g_need_Reduce
  rw [decide_eq_false (by omega), cond_false, decide_eq_false (by omega)]
  unfold g_need_Reduce.j2
  rw [cond_false]
  -- none is strange
  have c1 : g_slices_ContainsFunc_api_Required l (fun x0 => g_need_Reduce_c1 x0 n) = some false := by
    have : Ok (g_slices_IndexFunc_api_Required l (fun x0 => g_need_Reduce_c1 x0 n)) (fun y => y = -1) := by
      unfold g_slices_IndexFunc_api_Required
      refine Ok.loop (fun s : Int => ∃ i : Nat, s = (i : Int) ∧ i ≤ l.length) (fun s => l.length - s.toNat) ?_ ⟨0, rfl, Nat.zero_le _⟩
      rintro _ ⟨i, rfl, hi⟩
      show Ok (g_slices_IndexFunc_api_Required.l1 l (fun x0 => g_need_Reduce_c1 x0 n) (i : Int)) _
      unfold g_slices_IndexFunc_api_Required.l1
      refine Ok.cond (fun hb => ?_) (fun hb => ?_)
      · have hil : i < l.length := by have := of_decide_eq_true hb; omega
        obtain ⟨r, hr⟩ : ∃ r, l[i]? = some r := ⟨_, List.getElem?_eq_getElem hil⟩
        have q := h.fwd r (List.mem_of_getElem? hr)
        have hc : g_need_Reduce_c1 r (n : Int) = some false := by
          unfold g_need_Reduce_c1
          rw [decide_eq_false (by omega), cond_false, decide_eq_false (by omega), cond_false, decide_eq_false (by omega), cond_false, decide_eq_false (by omega), cond_false, decide_eq_false (by omega)]
        rw [getI_nat, hr, Option.bind_some]
        show Ok ((g_need_Reduce_c1 r (n : Int)).bind _) _
        rw [hc, Option.bind_some, cond_false, W_id (by omega)]
        exact Ok.ret ⟨⟨i + 1, by omega, hil⟩, by show l.length - ((i : Int) + 1).toNat < l.length - ((i : Int)).toNat; omega⟩
      · exact Ok.up (Ok.ret rfl)
    obtain ⟨y, hy, rfl⟩ := this
    unfold g_slices_ContainsFunc_api_Required
    rw [hy]; rfl
  have c2 : g_need_sorted l = some l := by rw [need_sorted_ok l h.cap, sortS_self linR h.asc]
  have c3 : g_slices_Equal_api_Required l l = some true := by
    refine Ok.true_ ?_
    unfold g_slices_Equal_api_Required
    rw [decide_eq_true rfl, Bool.not_true, cond_false]
    refine Ok.loop (fun s : Int => ∃ i : Nat, s = (i : Int) ∧ i ≤ l.length) (fun s => l.length - s.toNat) ?_ ⟨0, rfl, Nat.zero_le _⟩
    rintro _ ⟨i, rfl, hi⟩
    show Ok (g_slices_Equal_api_Required.l1 l l (i : Int)) _
    unfold g_slices_Equal_api_Required.l1
    refine Ok.cond (fun hb => ?_) (fun hb => ?_)
    · have hil : i < l.length := by have := of_decide_eq_true hb; omega
      obtain ⟨r, hr⟩ : ∃ r, l[i]? = some r := ⟨_, List.getElem?_eq_getElem hil⟩
      rw [getI_nat, hr, Option.bind_some, Option.bind_some, decide_eq_true rfl, Bool.not_true, cond_false, W_id (by omega)]
      exact Ok.ret ⟨⟨i + 1, by omega, hil⟩, by show l.length - ((i : Int) + 1).toNat < l.length - ((i : Int)).toNat; omega⟩
    · exact Ok.up (Ok.ret rfl)
  rw [c1, Option.bind_some, cond_false, c2, Option.bind_some, c3, Option.bind_some, Bool.not_true, cond_false]
  refine Ok.bind (reach_ok (by omega) h.inr (by omega)) fun M hM => ?_
  -- the steps that are kept
  have l5 : ∀ (i : Nat) (e : api_Required), i < l.length → l[i]? = some e → ∀ out : List api_Required, out.length ≤ i → Ok (loop (fun q' => g_need_Reduce.l5 (n : Int) M (i : Int) out e q'.1 q'.2) (false, 0)) (fun o : Lp (Int × List api_Required) ((List api_Required) × Int) => o = .next (((i + 1 : Nat) : Int), out ++ [e].filter (keep n l))) := by
    intro i e hi he out ho
    have q := h.fwd e (List.mem_of_getElem? he)
    obtain ⟨a, ha⟩ : ∃ a : Nat, e.First = (a : Int) := ⟨e.First.toNat, by omega⟩
    obtain ⟨b, hb⟩ : ∃ b : Nat, e.Then = (b : Int) := ⟨e.Then.toNat, by omega⟩
    refine Ok.loop (fun s : Bool × Int => ∃ k : Nat, s.2 = (k : Int) ∧ k ≤ n ∧ s.1 = (List.range k).any fun k => warsh (edge l) n a k && warsh (edge l) n k b) (fun s => n - s.2.toNat) ?_ ⟨0, rfl, Nat.zero_le _, rfl⟩
    rintro ⟨_, _⟩ ⟨k, rfl, hk, rfl⟩
    show Ok (g_need_Reduce.l5 (n : Int) M (i : Int) out e ((List.range k).any fun k => warsh (edge l) n a k && warsh (edge l) n k b) (k : Int)) _
    unfold g_need_Reduce.l5
    refine Ok.cond (fun hc => ?_) (fun hc => ?_)
    · have hkn : k < n := by have := of_decide_eq_true hc; omega
      have fin : ∀ x : Bool, x = ((List.range (k + 1)).any fun k => warsh (edge l) n a k && warsh (edge l) n k b) → Ok (g_need_Reduce.j6 (k : Int) x) (Rd' (fun s' : Bool × Int => (∃ k : Nat, s'.2 = (k : Int) ∧ k ≤ n ∧ s'.1 = (List.range k).any fun k => warsh (edge l) n a k && warsh (edge l) n k b) ∧ n - s'.2.toNat < n - ((k : Int)).toNat) (fun o : Lp (Int × List api_Required) ((List api_Required) × Int) => o = .next (((i + 1 : Nat) : Int), out ++ [e].filter (keep n l)))) := by
        intro x hx
        unfold g_need_Reduce.j6
        rw [W_id (by omega)]
        exact Ok.ret ⟨⟨k + 1, by show (k : Int) + 1 = _; omega, hkn, hx⟩, by show n - ((k : Int) + 1).toNat < n - ((k : Int)).toNat; omega⟩
      refine Ok.cond (fun h1 => fin _ ?_) (fun h1 => ?_)
      · rw [List.range_succ, List.any_append, h1]; rfl
      · rw [ha, hb, hM a k (by omega) hkn, hM k b hkn (by omega)]
        refine Ok.cond (fun h2 => fin _ ?_) (fun h2 => fin _ ?_)
        · rw [List.range_succ, List.any_append, h1]; simp [h2]
        · rw [List.range_succ, List.any_append, h1]; simp [h2]
    · have hkn : k = n := by have := of_decide_eq_false hc; omega
      subst hkn
      have hke : keep k l e = !((List.range k).any fun j => warsh (edge l) k a j && warsh (edge l) k j b) := by
        unfold keep
        rw [ha, hb]; rfl
      unfold g_need_Reduce.j7
      rw [W_id (by omega), ← hke]
      refine Ok.up (Ok.cond (fun h1 => ?_) (fun h1 => ?_))
      · rw [appI_ok (by simp; omega), Option.bind_some]
        refine Ok.ret ?_
        rw [List.filter_cons_of_pos h1]; rfl
      · refine Ok.ret ?_
        rw [List.filter_cons_of_neg (by rw [h1]; decide)]
        simp
  have l4 : Ok (loop (fun q' => g_need_Reduce.l4 (n : Int) l M q'.1 q'.2) (0, ([] : List api_Required))) (fun y => y = (red n l, 0)) := by
    refine Ok.loop (fun s : Int × List api_Required => ∃ i : Nat, s.1 = (i : Int) ∧ i ≤ l.length ∧ s.2 = (l.take i).filter (keep n l)) (fun s => l.length - s.1.toNat) ?_ ⟨0, rfl, Nat.zero_le _, rfl⟩
    rintro ⟨_, _⟩ ⟨i, rfl, hi, rfl⟩
    show Ok (g_need_Reduce.l4 (n : Int) l M (i : Int) ((l.take i).filter (keep n l))) _
    unfold g_need_Reduce.l4
    refine Ok.cond (fun hb => ?_) (fun hb => ?_)
    · have hil : i < l.length := by have := of_decide_eq_true hb; omega
      obtain ⟨r, hr⟩ : ∃ r, l[i]? = some r := ⟨_, List.getElem?_eq_getElem hil⟩
      rw [getI_nat, hr, Option.bind_some]
      refine (l5 i r hil hr _ (Nat.le_trans (List.length_filter_le _ _) (by rw [List.length_take]; omega))).mono fun o ho => ?_
      subst ho
      refine ⟨⟨i + 1, rfl, hil, ?_⟩, by show l.length - (((i + 1 : Nat) : Int)).toNat < l.length - ((i : Int)).toNat; omega⟩
      show _ ++ _ = _
      rw [take_succ' hr, List.filter_append]
    · have hil : i = l.length := by have := of_decide_eq_false hb; omega
      subst hil
      rw [List.take_length]
      exact Ok.up (Ok.ret rfl)
  refine Ok.loop (fun s : Int => ∃ k : Nat, s = (k : Int) ∧ k ≤ n) (fun s => n - s.toNat) ?_ ⟨0, rfl, Nat.zero_le _⟩
  rintro _ ⟨k, rfl, hk⟩
  show Ok (g_need_Reduce.l3 (n : Int) l M (k : Int)) _
  unfold g_need_Reduce.l3
  refine Ok.cond (fun hb => ?_) (fun hb => ?_)
  · have hkn : k < n := by have := of_decide_eq_true hb; omega
    rw [hM k k hkn hkn]
    refine Ok.cond (fun h1 => absurd (h.wr.1 h1) (h.acy k)) (fun h1 => ?_)
    rw [W_id (by omega)]
    exact Ok.ret ⟨⟨k + 1, by omega, hkn⟩, by show n - ((k : Int) + 1).toNat < n - ((k : Int)).toNat; omega⟩
  · exact Ok.up l4
end
section
open Go
noncomputable def rkS (e : api_Endpoint) (c : api_Change) : Int := (g_need_Rank e c).getD 0
theorem need_Rank_ok (e : api_Endpoint) (c : api_Change) : g_need_Rank e c = some (rkS e c) := by
  have : Ok (g_need_Rank e c) (fun _ => True) := by
    unfold g_need_Rank g_need_Rank.j1 g_need_Rank.j2 g_need_Rank.j3
    repeat' (first | exact Ok.ret trivial | refine Ok.cond (fun _ => ?_) (fun _ => ?_))
  obtain ⟨v, hv, -⟩ := this
  unfold rkS
  rw [hv]; rfl
theorem sl_Contains_edge (s : List api_Edge) (v : api_Edge) (h : Lo s) : g_slices_Contains_api_Edge s v = some (s.any fun x => decide (v = x)) := by
  have hi : g_slices_Index_api_Edge s v = some (firstS s fun x => decide (v = x)) := by
    unfold g_slices_Index_api_Edge
    refine loop_first s _ h (fun i x hx => ?_) ?_
    · show g_slices_Index_api_Edge.l1 s v (i : Int) = _
      unfold g_slices_Index_api_Edge.l1
      rw [for_in hx]
      cases decide (v = x) <;> rfl
    · show g_slices_Index_api_Edge.l1 s v (s.length : Int) = _
      unfold g_slices_Index_api_Edge.l1
      rw [for_out]; rfl
  unfold g_slices_Contains_api_Edge
  rw [hi, Option.bind_some, firstS_any]
theorem sl_Contains_change (s : List api_Change) (f : api_Change → Option Bool) (p : api_Change → Bool) (h : Lo s) (hf : ∀ x ∈ s, f x = some (p x)) : g_slices_ContainsFunc_api_Change s f = some (s.any p) := by
  have hi : g_slices_IndexFunc_api_Change s f = some (firstS s p) := by
    unfold g_slices_IndexFunc_api_Change
    refine loop_first s p h (fun i x hx => ?_) ?_
    · show g_slices_IndexFunc_api_Change.l1 s f (i : Int) = _
      unfold g_slices_IndexFunc_api_Change.l1
      rw [for_in hx, hf x (at_mem hx), Option.bind_some]
      cases p x <;> rfl
    · show g_slices_IndexFunc_api_Change.l1 s f (s.length : Int) = _
      unfold g_slices_IndexFunc_api_Change.l1
      rw [for_out]; rfl
  unfold g_slices_ContainsFunc_api_Change
  rw [hi, Option.bind_some, firstS_any]
def lkS (e : api_Estate) (a b : Int) : Bool := decide (a = b) || ((e.Edges.any fun x => decide ((⟨a, b⟩ : api_Edge) = x)) || (e.Edges.any fun x => decide ((⟨b, a⟩ : api_Edge) = x)))
theorem need_linked_ok (e : api_Estate) (h : Lo e.Edges) (a b : Int) : g_need_linked e a b = some (lkS e a b) := by
  unfold g_need_linked lkS
  rw [sl_Contains_edge _ _ h, sl_Contains_edge _ _ h, Option.bind_some, Option.bind_some]
  cases decide (a = b) with
  | true => rfl
  | false => cases e.Edges.any fun x => decide ((⟨a, b⟩ : api_Edge) = x) <;> rfl
def derRow (p : Nat → Nat → Bool) (i k : Nat) : List api_Required := ((List.range k).filter (p i)).map fun (k : Nat) => ⟨(i : Int), (k : Int)⟩
def derRows (p : Nat → Nat → Bool) (m i : Nat) : List api_Required := (List.range i).flatMap fun i => derRow p i m
theorem derRow_succ (p : Nat → Nat → Bool) (i k : Nat) : derRow p i (k + 1) = derRow p i k ++ (bif p i k then [⟨(i : Int), (k : Int)⟩] else []) := by
  unfold derRow
  rw [List.range_succ, List.filter_append, List.map_append]
  cases h : p i k with
  | true => rw [List.filter_cons_of_pos h]; rfl
  | false => rw [List.filter_cons_of_neg (by rw [h]; decide)]; rfl
theorem derRow_len (p : Nat → Nat → Bool) (i k : Nat) : (derRow p i k).length ≤ k := by
  unfold derRow
  rw [List.length_map]
  have := List.length_filter_le (p i) (List.range k)
  rw [List.length_range] at this
  exact this
theorem derRows_succ (p : Nat → Nat → Bool) (m i : Nat) : derRows p m (i + 1) = derRows p m i ++ derRow p i m := by
  unfold derRows
  rw [List.range_succ, List.flatMap_append]
  simp
theorem derRows_len (p : Nat → Nat → Bool) (m : Nat) : ∀ i, (derRows p m i).length ≤ i * m
  | 0 => Nat.zero_le _
  | i + 1 => by
    have := derRows_len p m i
    have h2 := derRow_len p i m
    rw [derRows_succ, List.length_append, Nat.succ_mul]
    omega
theorem mem_derRows {p : Nat → Nat → Bool} {m n : Nat} {r : api_Required} : r ∈ derRows p m n ↔ ∃ i k, i < n ∧ k < m ∧ p i k = true ∧ r = ⟨(i : Int), (k : Int)⟩ := by
  unfold derRows derRow
  simp only [List.mem_flatMap, List.mem_range, List.mem_map, List.mem_filter]
  constructor
  · rintro ⟨i, hi, k, ⟨hk, hp⟩, rfl⟩
    exact ⟨i, k, hi, hk, hp, rfl⟩
  · rintro ⟨i, k, hi, hk, hp, rfl⟩
    exact ⟨i, hi, k, ⟨hk, hp⟩, rfl⟩
def epOf (e : api_Estate) (c : api_Change) : api_Endpoint := e.Endpoints.getD c.Endpoint.toNat default
def NamedC (e : api_Estate) (c : api_Change) : Prop := 0 ≤ c.Endpoint ∧ c.Endpoint < (e.Endpoints.length : Int)
theorem getEp {e : api_Estate} {c : api_Change} (h : NamedC e c) : getI e.Endpoints c.Endpoint = some (epOf e c) := by
  obtain ⟨h1, h2⟩ := h
  obtain ⟨j, hj⟩ : ∃ j : Nat, c.Endpoint = (j : Int) := ⟨c.Endpoint.toNat, by omega⟩
  unfold epOf
  rw [hj, getI_nat, Int.toNat_natCast, List.getD_eq_getElem?_getD, List.getElem?_eq_getElem (by omega)]
  rfl
noncomputable def jnC (e : api_Estate) (a b : api_Change) : Bool := decide (rkS (epOf e a) a < rkS (epOf e b) b) && lkS e a.Endpoint b.Endpoint
noncomputable def derP (e : api_Estate) (l : List api_Change) (i k : Nat) : Bool := jnC e (l.getD i default) (l.getD k default)
theorem getD_of {α : Type} {l : List α} {i : Nat} {x y : α} (h : l[i]? = some x) : l.getD i y = x := by
  rw [List.getD_eq_getElem?_getD, h]; rfl
theorem named_ok {e : api_Estate} {c : api_Change} (h : NamedC e c) : g_need_named e c = some true := by
  unfold g_need_named
  rw [decide_eq_true h.1, cond_true, decide_eq_true h.2]
theorem Derive_ok {e : api_Estate} {l : List api_Change} (hc : g_exposure_Check e = some 0) (hE : Lo e.Edges) (hl : l.length ≤ 24) (hn : ∀ c ∈ l, NamedC e c) (hcap : (derRows (derP e l) l.length l.length).length ≤ cap_need_required) : Ok (g_need_Derive e l) (fun y => y = (sortS ltR (derRows (derP e l) l.length l.length), 0)) := by
  have hlo : Lo l := by unfold Lo; omega
  unfold g_need_Derive
  rw [hc, Option.bind_some, decide_eq_true rfl, Bool.not_true, cond_false, decide_eq_false (by omega), cond_false]
  have c1 := sl_Contains_change l (fun x0 => g_need_Derive_c1 x0 e) (fun _ => false) hlo (fun x hx => by
    unfold g_need_Derive_c1
    rw [named_ok (hn x hx)]; rfl)
  have hf : l.any (fun _ => false) = false := by simp
  rw [c1, Option.bind_some, hf, cond_false]
  have l3 : ∀ (i : Nat) (c : api_Change), l[i]? = some c → ∀ out : List api_Required, out.length ≤ 600 → Ok (loop (fun q' => g_need_Derive.l3 e l (i : Int) c q'.1 q'.2) (0, out)) (fun o : Lp (Int × List api_Required) ((List api_Required) × Int) => o = .next (((i + 1 : Nat) : Int), out ++ derRow (derP e l) i l.length)) := by
    intro i c hic out ho
    have hil := at_lt hic
    refine Ok.loop (fun s : Int × List api_Required => ∃ k : Nat, s.1 = (k : Int) ∧ k ≤ l.length ∧ s.2 = out ++ derRow (derP e l) i k) (fun s => l.length - s.1.toNat) ?_ ⟨0, rfl, Nat.zero_le _, by show out = out ++ []; rw [List.append_nil]⟩
    rintro ⟨_, _⟩ ⟨k, rfl, hk, rfl⟩
    show Ok (g_need_Derive.l3 e l (i : Int) c (k : Int) (out ++ derRow (derP e l) i k)) _
    unfold g_need_Derive.l3
    refine Ok.cond (fun hb => ?_) (fun hb => ?_)
    · have hkl : k < l.length := by have := of_decide_eq_true hb; omega
      obtain ⟨b, hkb⟩ : ∃ b, l[k]? = some b := ⟨_, List.getElem?_eq_getElem hkl⟩
      have fin : ∀ x : Bool, x = derP e l i k → Ok (g_need_Derive.j4 (i : Int) (k : Int) (out ++ derRow (derP e l) i k) x) (Rd' (fun s' : Int × List api_Required => (∃ k : Nat, s'.1 = (k : Int) ∧ k ≤ l.length ∧ s'.2 = out ++ derRow (derP e l) i k) ∧ l.length - s'.1.toNat < l.length - ((k : Int)).toNat) (fun o : Lp (Int × List api_Required) ((List api_Required) × Int) => o = .next (((i + 1 : Nat) : Int), out ++ derRow (derP e l) i l.length))) := by
        intro x hx
        have hrl := derRow_len (derP e l) i k
        unfold g_need_Derive.j4 g_need_Derive.j5
        rw [W_id (by omega)]
        refine Ok.cond (fun h1 => ?_) (fun h1 => ?_)
        · refine Ok.bind (appI_ok' (by rw [List.length_append, List.length_singleton]; omega)) fun l' hl' => ?_
          subst hl'
          refine Ok.ret ⟨⟨k + 1, by show (k : Int) + 1 = _; omega, hkl, ?_⟩, by show l.length - ((k : Int) + 1).toNat < l.length - ((k : Int)).toNat; omega⟩
          show _ ++ _ = _
          rw [derRow_succ, ← hx, h1, List.append_assoc]; rfl
        · refine Ok.ret ⟨⟨k + 1, by show (k : Int) + 1 = _; omega, hkl, ?_⟩, by show l.length - ((k : Int) + 1).toNat < l.length - ((k : Int)).toNat; omega⟩
          show _ ++ _ = _
          rw [derRow_succ, ← hx, h1, cond_false, List.append_nil]
      rw [getI_nat, hkb, Option.bind_some, getEp (hn c (at_mem hic)), Option.bind_some, need_Rank_ok, Option.bind_some, getEp (hn b (at_mem hkb)), Option.bind_some, need_Rank_ok, Option.bind_some, need_linked_ok e hE, Option.bind_some]
      have hp : derP e l i k = (decide (rkS (epOf e c) c < rkS (epOf e b) b) && lkS e c.Endpoint b.Endpoint) := by
        unfold derP jnC
        rw [getD_of hic, getD_of hkb]
      refine Ok.cond (fun h1 => fin _ ?_) (fun h1 => fin _ ?_)
      · rw [hp, h1]; rfl
      · rw [hp, h1]; rfl
    · have hkl : k = l.length := by have := of_decide_eq_false hb; omega
      subst hkl
      rw [W_id (by omega)]
      exact Ok.up (Ok.ret rfl)
  refine Ok.loop (fun s : Int × List api_Required => ∃ i : Nat, s.1 = (i : Int) ∧ i ≤ l.length ∧ s.2 = derRows (derP e l) l.length i) (fun s => l.length - s.1.toNat) ?_ ⟨0, rfl, Nat.zero_le _, rfl⟩
  rintro ⟨_, _⟩ ⟨i, rfl, hi, rfl⟩
  have hlen := derRows_len (derP e l) l.length i
  have hmul : i * l.length ≤ 24 * 24 := Nat.mul_le_mul (by omega) hl
  show Ok (g_need_Derive.l2 e l (i : Int) (derRows (derP e l) l.length i)) _
  unfold g_need_Derive.l2
  refine Ok.cond (fun hb => ?_) (fun hb => ?_)
  · have hil : i < l.length := by have := of_decide_eq_true hb; omega
    obtain ⟨c, hic⟩ : ∃ c, l[i]? = some c := ⟨_, List.getElem?_eq_getElem hil⟩
    rw [getI_nat, hic, Option.bind_some]
    refine (l3 i c hic _ (by omega)).mono fun o ho => ?_
    subst ho
    refine ⟨⟨i + 1, rfl, hil, ?_⟩, by show l.length - (((i + 1 : Nat) : Int)).toNat < l.length - ((i : Int)).toNat; omega⟩
    show _ ++ _ = _
    rw [derRows_succ]
  · have hil : i = l.length := by have := of_decide_eq_false hb; omega
    subst hil
    rw [need_sorted_ok _ hcap, Option.bind_some]
    exact Ok.up (Ok.ret rfl)
theorem der_req {e : api_Estate} {l : List api_Change} (hl : l.length ≤ 24) (hcap : (derRows (derP e l) l.length l.length).length ≤ cap_need_required) : Req l.length (sortS ltR (derRows (derP e l) l.length l.length)) := by
  have hlen := derRows_len (derP e l) l.length l.length
  have hmul : l.length * l.length ≤ 24 * 24 := Nat.mul_le_mul hl hl
  have hs := sortS_len ltR (derRows (derP e l) l.length l.length)
  refine ⟨sortS_asc linR _, by omega, Nat.le_trans hs hcap, fun r hr => ?_, fun a ha => ?_⟩
  · obtain ⟨i, k, hi, hk, -, rfl⟩ := mem_derRows.1 ((sortS_mem linR).1 hr)
    refine ⟨by show (0 : Int) ≤ (i : Int); omega, by show (i : Int) < _; omega, by show (0 : Int) ≤ (k : Int); omega, by show (k : Int) < _; omega⟩
  · have up : ∀ a b, TC (fun a b => edge (sortS ltR (derRows (derP e l) l.length l.length)) a b = true) a b → rkS (epOf e (l.getD a default)) (l.getD a default) < rkS (epOf e (l.getD b default)) (l.getD b default) := by
      have one : ∀ a b, edge (sortS ltR (derRows (derP e l) l.length l.length)) a b = true → rkS (epOf e (l.getD a default)) (l.getD a default) < rkS (epOf e (l.getD b default)) (l.getD b default) := by
        intro a b h
        obtain ⟨i, k, hi, hk, hp, he⟩ := mem_derRows.1 ((sortS_mem linR).1 (edge_iff.1 h))
        injection he with e1 e2
        have e1 : a = i := by omega
        have e2 : b = k := by omega
        subst e1 e2
        unfold derP jnC at hp
        rw [Bool.and_eq_true] at hp
        exact of_decide_eq_true hp.1
      intro a b h
      induction h with
      | one h => exact one _ _ h
      | step h _ ih => exact Int.lt_trans (one _ _ h) ih
    have := up a a ha
    omega
end
section
open Go
def MvI (e : api_Estate) (n : Nat) (l : List api_Change) : Prop := l.length ≤ n ∧ ∀ c ∈ l, NamedC e c
theorem MvI.add {e : api_Estate} {n n' : Nat} {l m : List api_Change} (h : MvI e n l) (hn : n + m.length ≤ n') (hm : ∀ c ∈ m, NamedC e c) : MvI e n' (l ++ m) := by
  refine ⟨by rw [List.length_append]; have := h.1; omega, fun c hc => ?_⟩
  rcases List.mem_append.1 hc with hc | hc
  · exact h.2 c hc
  · exact hm c hc
theorem MvI.le {e : api_Estate} {n n' : Nat} {l : List api_Change} (h : MvI e n l) (hn : n ≤ n') : MvI e n' l := ⟨Nat.le_trans h.1 hn, h.2⟩
noncomputable def lfM (i : Nat) (id a : Int) : api_Identity := (c_move_Leaf 3000 (nmS i) (api_Use.mk 7 256) id a 901).getD ⟨⟨0, 0⟩, 0, []⟩
theorem lfA_ok {i : Nat} (h : i < 3) : Ok (g_move_Leaf (nmS i) (api_Use.mk 7 256) 300 2 901) (fun _ => True) := by
  rcases i with _ | _ | _ | i
  · exact ⟨lfM 0 300 2, c_move_Leaf_le (fu := 3000) _ (by kernel_rfl), trivial⟩
  · exact ⟨lfM 1 300 2, c_move_Leaf_le (fu := 3000) _ (by kernel_rfl), trivial⟩
  · exact ⟨lfM 2 300 2, c_move_Leaf_le (fu := 3000) _ (by kernel_rfl), trivial⟩
  · omega
theorem sound_lo {e : api_Estate} (h : SoundE e) : Lo e.Edges := by have := h.edges.len; unfold Lo; omega
end
section
open Go
theorem derRow_congr {p q : Nat → Nat → Bool} {i m : Nat} (h : ∀ k, k < m → p i k = q i k) : derRow p i m = derRow q i m := by
  unfold derRow
  rw [List.filter_congr fun k hk => h k (List.mem_range.1 hk)]
theorem derRows_congr {p q : Nat → Nat → Bool} {m : Nat} : ∀ {n : Nat}, (∀ i k, i < n → k < m → p i k = q i k) → derRows p m n = derRows q m n
  | 0, _ => rfl
  | n + 1, h => by
    rw [derRows_succ, derRows_succ, derRows_congr fun i k hi hk => h i k (by omega) hk, derRow_congr fun k hk => h n k (by omega) hk]
def noId : api_Identity := ⟨⟨0, 0⟩, 0, []⟩
def exL (s c : Int) (w : api_Identity) : List api_Change := [⟨s, 6, W (100 + s), 0, noId⟩, ⟨s, 5, 0, 0, w⟩, ⟨c, 7, 2, 0, noId⟩, ⟨c, 2, 2, 0, noId⟩]
def exR : Nat → Int | 0 => 3 | 1 => 1 | 2 => 0 | _ => 3
def exE (s c : Int) : Nat → Int | 0 => s | 1 => s | _ => c
theorem ex_rk (e : api_Estate) (s c : Int) (w : api_Identity) {i : Nat} (hi : i < 4) : rkS (epOf e ((exL s c w).getD i default)) ((exL s c w).getD i default) = exR i ∧ ((exL s c w).getD i default).Endpoint = exE s c i := by
  rcases i with _ | _ | _ | _ | i
  · exact ⟨rfl, rfl⟩
  · exact ⟨rfl, rfl⟩
  · exact ⟨rfl, rfl⟩
  · exact ⟨rfl, rfl⟩
  · omega
theorem ex_der (e : api_Estate) (s c : Int) (w : api_Identity) (b : Bool) (h : ∀ i k, i < 4 → k < 4 → lkS e (exE s c i) (exE s c k) = (b || decide (decide (i < 2) = decide (k < 2)))) : derRows (derP e (exL s c w)) 4 4 = derRows (fun i k => decide (exR i < exR k) && (b || decide (decide (i < 2) = decide (k < 2)))) 4 4 := by
  refine derRows_congr fun i k hi hk => ?_
  unfold derP jnC
  rw [(ex_rk e s c w hi).1, (ex_rk e s c w hk).1, (ex_rk e s c w hi).2, (ex_rk e s c w hk).2, h i k hi hk]
def exD : List api_Required := [⟨1, 0⟩, ⟨1, 3⟩, ⟨2, 0⟩, ⟨2, 1⟩, ⟨2, 3⟩]
theorem ex_all : sortS ltR (derRows (fun i k => decide (exR i < exR k) && (true || decide (decide (i < 2) = decide (k < 2)))) 4 4) = exD := by decide
theorem ex_few : (sortS ltR (derRows (fun i k => decide (exR i < exR k) && (false || decide (decide (i < 2) = decide (k < 2)))) 4 4)).length = 2 := by decide
theorem ex_all5 : (derRows (fun i k => decide (exR i < exR k) && (true || decide (decide (i < 2) = decide (k < 2)))) 4 4).length ≤ cap_need_required := by decide
theorem ex_few2 : (derRows (fun i k => decide (exR i < exR k) && (false || decide (decide (i < 2) = decide (k < 2)))) 4 4).length ≤ cap_need_required := by decide
theorem ex_red : (red 4 exD).length = 3 := by decide +kernel
theorem lk_refl (e : api_Estate) (a : Int) : lkS e a a = true := by unfold lkS; rw [decide_eq_true rfl]; rfl
theorem lk_edge {e : api_Estate} {x : api_Edge} (h : x ∈ e.Edges) : lkS e x.Client x.Server = true ∧ lkS e x.Server x.Client = true := by
  have h1 : (e.Edges.any fun y => decide ((⟨x.Client, x.Server⟩ : api_Edge) = y)) = true := List.any_eq_true.2 ⟨x, h, decide_eq_true rfl⟩
  unfold lkS
  rw [h1]
  simp
theorem lk_none {a b : Int} (e : api_Estate) (h : e.Edges = []) (hne : a ≠ b) : lkS e a b = false := by
  unfold lkS
  rw [h, decide_eq_false hne]; rfl
theorem ex_pairs {s c : Int} (P : Int → Int → Bool) (b : Bool) (h1 : P s s = true) (h2 : P c c = true) (h3 : P s c = b) (h4 : P c s = b) : ∀ i k, i < 4 → k < 4 → P (exE s c i) (exE s c k) = (b || decide (decide (i < 2) = decide (k < 2))) := by
  intro i k hi hk
  rcases i with _ | _ | _ | _ | i <;> rcases k with _ | _ | _ | _ | k <;> first | omega | (simp [exE, h1, h2, h3, h4])
theorem law_NeedAnchors (t : List Int) : g_law28_NeedAnchors t = some true := by
  unfold g_law28_NeedAnchors g_make_Light
  rw [Option.bind_some]
  by_cases hl : (t.length : Int) ≤ 400
  · rw [decide_eq_true hl, Bool.not_true, cond_false]
    refine Ok.true_ ?_
    refine Ok.bind (roll28 (by omega)) fun d hd => ?_
    refine Ok.bind (sound_okN hd) fun y4 h4 => ?_
    obtain ⟨e, d4⟩ := y4
    obtain ⟨⟨hS, hne⟩, hd4⟩ := h4
    have hS : SoundE e := hS
    have hne : e.Edges ≠ [] := hne
    obtain ⟨x, hx⟩ : ∃ x, e.Edges[0]? = some x := ⟨_, List.getElem?_eq_getElem (List.length_pos_iff.2 hne)⟩
    have hxm := at_mem hx
    obtain ⟨r1, r2, r3⟩ := hS.edges.rng x hxm
    have hn2 := hS.n2
    obtain ⟨j, hj⟩ : ∃ j : Nat, x.Server = (j : Int) := ⟨x.Server.toNat, by omega⟩
    obtain ⟨p, hp⟩ : ∃ p, e.Endpoints[j]? = some p := ⟨_, List.getElem?_eq_getElem (by omega)⟩
    show Ok ((getI e.Edges 0).bind _) _
    rw [getI_z, hx, Option.bind_some]
    show Ok ((getI e.Endpoints x.Server).bind _) _
    rw [hj, getI_nat, hp, Option.bind_some]
    unfold g_move_EC
    rw [Option.bind_some, ep_name (hS.eps j p hp)]
    refine Ok.bind (lfA_ok (by omega)) fun w _ => ?_
    rw [← hj]
    have hnm : ∀ E : List api_Edge, ∀ c ∈ exL x.Server x.Client w, NamedC ⟨e.Endpoints, E, e.Items⟩ c := fun E c hc => by
      unfold exL at hc
      simp only [List.mem_cons, List.not_mem_nil, or_false] at hc
      rcases hc with rfl | rfl | rfl | rfl
      · exact r2
      · exact r2
      · exact r1
      · exact r1
    have hS2 : SoundE ⟨e.Endpoints, [], e.Items⟩ := ⟨hS.n2, hS.eps, ⟨by show 0 ≤ 3; omega, (fun x hx => nomatch hx), (fun j x y hx => nomatch hx)⟩, hS.items⟩
    show Ok ((g_need_Derive e (exL x.Server x.Client w)).bind _) _
    have d7 := ex_der e x.Server x.Client w true (ex_pairs (lkS e) true (lk_refl _ _) (lk_refl _ _) (lk_edge hxm).2 (lk_edge hxm).1)
    have c7 : (derRows (derP e (exL x.Server x.Client w)) 4 4).length ≤ cap_need_required := by rw [d7]; exact ex_all5
    refine Ok.bind (Derive_ok (sound_check hS) (sound_lo hS) (show (exL x.Server x.Client w).length ≤ 24 by show 4 ≤ 24; omega) (hnm e.Edges) c7) fun y7 h7 => ?_
    have e7 : sortS ltR (derRows (derP e (exL x.Server x.Client w)) 4 4) = exD := by
      rw [d7, ex_all]
    have h7 : y7 = (exD, 0) := by rw [h7, ← e7]; rfl
    subst h7
    rw [decide_eq_true rfl, Bool.not_true, cond_false]
    have l3 : ∀ (i : Nat) (r : api_Required), r ∈ exD → i < 5 → Ok (loop (fun q' => g_law28_NeedAnchors.l3 (exD, 0) (i : Int) r q'.1 q'.2) (false, 0)) (fun o : Lp Int Bool => o = .next (((i + 1 : Nat) : Int))) := by
      intro i r hr hi
      refine Ok.loop (fun s : Bool × Int => ∃ k : Nat, s.2 = (k : Int) ∧ k ≤ 5 ∧ s.1 = (exD.take k).any fun z => decide (z = r)) (fun s => 5 - s.2.toNat) ?_ ⟨0, rfl, Nat.zero_le _, rfl⟩
      rintro ⟨_, _⟩ ⟨k, rfl, hk, rfl⟩
      show Ok (g_law28_NeedAnchors.l3 (exD, 0) (i : Int) r ((exD.take k).any fun z => decide (z = r)) (k : Int)) _
      unfold g_law28_NeedAnchors.l3
      show Ok (cond (decide ((k : Int) < (5 : Int))) ((getI exD (k : Int)).bind _) _) _
      refine Ok.cond (fun hb => ?_) (fun hb => ?_)
      · have hk5 : k < 5 := by have := of_decide_eq_true hb; omega
        obtain ⟨z, hz⟩ : ∃ z, exD[k]? = some z := ⟨_, List.getElem?_eq_getElem hk5⟩
        have fin : ∀ b : Bool, b = ((exD.take (k + 1)).any fun z => decide (z = r)) → Ok (g_law28_NeedAnchors.j4 (k : Int) b) (Rd' (fun s' : Bool × Int => (∃ k : Nat, s'.2 = (k : Int) ∧ k ≤ 5 ∧ s'.1 = (exD.take k).any fun z => decide (z = r)) ∧ 5 - s'.2.toNat < 5 - ((k : Int)).toNat) (fun o : Lp Int Bool => o = .next (((i + 1 : Nat) : Int)))) := by
          intro b hb
          unfold g_law28_NeedAnchors.j4
          rw [W_id (by omega)]
          exact Ok.ret ⟨⟨k + 1, by show (k : Int) + 1 = _; omega, hk5, hb⟩, by show 5 - ((k : Int) + 1).toNat < 5 - ((k : Int)).toNat; omega⟩
        rw [getI_nat, hz, Option.bind_some]
        refine Ok.cond (fun h1 => fin _ ?_) (fun h1 => fin _ ?_)
        · rw [take_succ' hz, List.any_append, h1]; rfl
        · rw [take_succ' hz, List.any_append, h1]; simp
      · have hk5 : k = 5 := by have := of_decide_eq_false hb; omega
        subst hk5
        have ha : ((exD.take 5).any fun z => decide (z = r)) = true := List.any_eq_true.2 ⟨r, hr, decide_eq_true rfl⟩
        rw [ha, Bool.not_true, cond_false, W_id (by omega)]
        exact Ok.up (Ok.ret (by rfl))
    refine Ok.loop (fun s : Int => ∃ i : Nat, s = (i : Int) ∧ i ≤ 5) (fun s => 5 - s.toNat) ?_ ⟨0, rfl, Nat.zero_le _⟩
    rintro _ ⟨i, rfl, hi⟩
    show Ok (g_law28_NeedAnchors.l2 (e, d4) x w (exD, 0) (i : Int)) _
    unfold g_law28_NeedAnchors.l2
    show Ok (cond (decide ((i : Int) < (5 : Int))) _ _) _
    refine Ok.cond (fun hb => ?_) (fun hb => ?_)
    · have hi5 : i < 5 := by have := of_decide_eq_true hb; omega
      obtain ⟨r, hr⟩ : ∃ r, ([⟨2, 1⟩, ⟨1, 0⟩, ⟨1, 3⟩, ⟨2, 0⟩, ⟨2, 3⟩] : List api_Required)[i]? = some r := ⟨_, List.getElem?_eq_getElem hi5⟩
      have hrD : r ∈ exD := by
        have : ∀ z ∈ ([⟨2, 1⟩, ⟨1, 0⟩, ⟨1, 3⟩, ⟨2, 0⟩, ⟨2, 3⟩] : List api_Required), z ∈ exD := by decide
        exact this r (at_mem hr)
      rw [getI_nat, hr, Option.bind_some]
      refine (l3 i r hrD hi5).mono fun o ho => ?_
      subst ho
      exact ⟨⟨i + 1, rfl, hi5⟩, by show 5 - (((i + 1 : Nat) : Int)).toNat < 5 - ((i : Int)).toNat; omega⟩
    · refine Ok.up ?_
      show Ok ((g_need_Derive ⟨e.Endpoints, [], e.Items⟩ (exL x.Server x.Client w)).bind _) _
      have d8 := ex_der (⟨e.Endpoints, [], e.Items⟩ : api_Estate) x.Server x.Client w false (ex_pairs (lkS _) false (lk_refl _ _) (lk_refl _ _) (lk_none _ rfl (fun e0 => r3 e0.symm)) (lk_none _ rfl r3))
      have c8 : (derRows (derP ⟨e.Endpoints, [], e.Items⟩ (exL x.Server x.Client w)) 4 4).length ≤ cap_need_required := by rw [d8]; exact ex_few2
      refine Ok.bind (Derive_ok (sound_check hS2) (sound_lo hS2) (show (exL x.Server x.Client w).length ≤ 24 by show 4 ≤ 24; omega) (hnm []) c8) fun y8 h8 => ?_
      have e8 : (sortS ltR (derRows (derP ⟨e.Endpoints, [], e.Items⟩ (exL x.Server x.Client w)) 4 4)).length = 2 := by
        rw [d8, ex_few]
      have hreq : Req 4 exD := by
        have := der_req (e := e) (l := exL x.Server x.Client w) (by show 4 ≤ 24; omega) c7
        have : Req 4 (sortS ltR (derRows (derP e (exL x.Server x.Client w)) 4 4)) := this
        rw [e7] at this
        exact this
      refine Ok.bind (Reduce_ok (n := 4) (by omega) hreq) fun y9 h9 => ?_
      subst h9
      have e8' : y8.1.length = 2 := by rw [h8]; exact e8
      have e8'' : y8.2 = 0 := by rw [h8]
      rw [e8'', decide_eq_true rfl, cond_true, cond_true, e8']
      show Ok (cond (decide ((5 : Int) = 5)) (cond (decide (((2 : Nat) : Int) = 2)) (cond (decide ((((red 4 exD).length : Nat) : Int) = 3)) _ _) _) _) _
      rw [ex_red, awake28, Option.bind_some]
      exact Ok.ret rfl
  · rw [decide_eq_false hl, Bool.not_false, cond_true, awake28]
    rfl
end
end Go.Proofs.YtkpcbnnlefcebaaGreat
