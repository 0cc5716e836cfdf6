/- Key stores: the merge. No program is in sight here. -/
import Derived.Test.YtbeageaekgccgaaE1
import Derived.Test.YtbeageaekgccgaaSO5api_Entry
set_option linter.unusedVariables false
set_option linter.unusedSimpArgs false
namespace Go.Proofs.Ytbeageaekgccgaa
open Go
theorem ltT_irrefl (a : List UInt8) : ltT a a = false := by
  have := ltT_tot a a
  rw [decide_eq_true rfl, Bool.or_true] at this
  exact this.symm
theorem ltT_trans : ∀ (a b c : List UInt8), ltT a b = true → ltT b c = true → ltT a c = true
  | a, [], c, h, k => by cases a <;> cases h
  | a, b :: bs, [], h, k => by cases k
  | [], b :: bs, c :: cs, h, k => rfl
  | a :: u, b :: v, c :: w, h, k => by
    simp only [ltT, Bool.or_eq_true, decide_eq_true_eq, Bool.and_eq_true, beq_iff_eq] at h k ⊢
    rcases h with h | ⟨rfl, h⟩
    · rcases k with k | ⟨rfl, k⟩
      · exact .inl (UInt8.lt_trans h k)
      · exact .inl h
    · rcases k with k | ⟨rfl, k⟩
      · exact .inl k
      · exact .inr ⟨rfl, ltT_trans u v w h k⟩
theorem ltT_both {a b : List UInt8} (h : ltT a b = false) (k : ltT b a = false) : a = b := by
  have := ltT_tot a b
  rw [h, k, Bool.false_or] at this
  by_cases e : a = b
  · exact e
  · rw [decide_eq_false e] at this; cases this
theorem ltT_asymm {a b : List UInt8} (h : ltT a b = true) : ltT b a = false := by
  cases k : ltT b a with
  | false => rfl
  | true => have := ltT_trans _ _ _ h k; rw [ltT_irrefl] at this; cases this
theorem ltE_swo : Sort.SWO ltE where
  irrefl x := ltT_irrefl _
  trans x y z h k := ltT_trans _ _ _ h k
  ntrans x y z h k := by
    cases e : ltE x z with
    | false => rfl
    | true =>
      unfold ltE at *
      cases h2 : ltT (toB y.Alias) (toB x.Alias) with
      | true =>
        have := ltT_trans _ _ _ h2 e
        rw [k] at this; cases this
      | false =>
        rw [ltT_both h h2] at e
        rw [k] at e; cases e
theorem toB_inj5 {a b : ByteArray} (h : toB a = toB b) : a = b := by
  cases a with | mk a => cases b with | mk b =>
  unfold toB at h
  exact congrArg ByteArray.mk (Array.toList_inj.1 h)
theorem ltE_ne {x y : api_Entry} (h : ltE x y = true) : x.Alias ≠ y.Alias := fun e => by
  unfold ltE at h
  rw [e, ltT_irrefl] at h
  cases h
abbrev StrS (l : List api_Entry) : Prop := l.Pairwise (fun x y => ltE x y = true)
theorem few_of {e : api_Entry} (h : okE e = true) : FewN e.Chain := by
  unfold okE showsS at h
  simp only [Bool.and_eq_true, Bool.not_eq_true', decide_eq_false_iff_not] at h
  obtain ⟨_, _, _, h1, h2, _⟩ := h
  refine ⟨by omega, fun c hc => ?_⟩
  have : certS c = true := by
    cases hb : certS c with
    | true => rfl
    | false =>
      have : (e.Chain.any fun c => !certS c) = true := List.any_eq_true.2 ⟨c, hc, by rw [hb]; rfl⟩
      rw [this] at h2; cases h2
  have := (valid_sizes this).2.2.1
  omega
theorem store_zero {l : List api_Entry} : storeS l = 0 ↔ l.length ≤ 64 ∧ (∀ e ∈ l, okE e = true) ∧ StrS l := by
  have key : (List.range l.length).any (badE l) = false ↔ (∀ e ∈ l, okE e = true) ∧ StrS l := by
    rw [List.any_eq_false]
    constructor
    · intro h
      have hb : ∀ (i : Nat) (e : api_Entry), l[i]? = some e → badE l i = false := fun i e he => by
        have := h i (List.mem_range.2 (at_lt he))
        cases hx : badE l i with
        | false => rfl
        | true => exact absurd hx this
      refine ⟨fun e he => ?_, ?_⟩
      · obtain ⟨i, hi⟩ := List.mem_iff_getElem?.1 he
        have := hb i e hi
        unfold badE at this
        rw [getD_at hi] at this
        simp only [Bool.or_eq_false_iff, Bool.not_eq_false'] at this
        unfold okE
        rw [this.1, this.2.2]; rfl
      · have adj : ∀ i, i + 1 < l.length → ltE (l.getD i zE) (l.getD (i + 1) zE) = true := fun i hi => by
          obtain ⟨e, he⟩ : ∃ e, l[i + 1]? = some e := ⟨_, List.getElem?_eq_getElem hi⟩
          have := hb (i + 1) e he
          unfold badE at this
          simp only [Bool.or_eq_false_iff, Bool.not_eq_false', Bool.and_eq_false_iff, decide_eq_false_iff_not] at this
          rcases this.2.1 with h2 | h2
          · omega
          · exact h2
        have all : ∀ k i, i + k + 1 < l.length → ltE (l.getD i zE) (l.getD (i + k + 1) zE) = true := fun k => by
          induction k with
          | zero => exact fun i hi => adj i hi
          | succ k ih => exact fun i hi => ltT_trans _ _ _ (ih i (by omega)) (adj (i + k + 1) hi)
        rw [StrS, List.pairwise_iff_getElem]
        intro i j hi hj hij
        have := all (j - i - 1) i (by omega)
        rw [show i + (j - i - 1) + 1 = j by omega] at this
        rw [getD_at (List.getElem?_eq_getElem hi), getD_at (List.getElem?_eq_getElem hj)] at this
        exact this
    · rintro ⟨h1, h2⟩ i hi
      have hi := List.mem_range.1 hi
      have := h1 l[i] (List.getElem_mem hi)
      unfold okE at this
      rw [Bool.and_eq_true] at this
      unfold badE
      rw [getD_at (List.getElem?_eq_getElem hi), this.1, this.2]
      cases i with
      | zero => simp
      | succ i =>
        rw [show i + 1 - 1 = i from rfl, getD_at (List.getElem?_eq_getElem (show i < l.length by omega))]
        have h2 := List.pairwise_iff_getElem.1 h2
        rw [h2 i (i + 1) (by omega) hi (by omega)]
        simp
  unfold storeS
  by_cases h64 : 64 < (l.length : Int)
  · rw [decide_eq_true h64, Bool.or_true]
    constructor
    · intro h; cases h
    · intro h; omega
  · rw [decide_eq_false h64, Bool.or_false]
    cases hb : (List.range l.length).any (badE l) with
    | true =>
      constructor
      · intro h; cases h
      · intro h; rw [key.2 h.2] at hb; cases hb
    | false => exact ⟨fun _ => ⟨by omega, key.1 hb⟩, fun _ => rfl⟩
def hasA (b : List api_Entry) (s : ByteArray) : Bool := b.any fun x => decide (x.Alias = s)
def mergeS : List api_Entry → List api_Entry → List api_Entry
  | [], b => b
  | a, [] => a
  | x :: a, y :: b => if ltE x y = true then x :: mergeS a (y :: b) else if x.Alias = y.Alias then y :: mergeS a b else y :: mergeS (x :: a) b
termination_by a b => a.length + b.length
theorem mergeS_nil (a : List api_Entry) : mergeS a [] = a := by cases a <;> rw [mergeS] <;> intro h <;> cases h
theorem hasA_false {b : List api_Entry} {s : ByteArray} : hasA b s = false ↔ ∀ y ∈ b, y.Alias ≠ s := by
  unfold hasA
  rw [List.any_eq_false]
  constructor
  · intro h y hy e
    exact h y hy (decide_eq_true e)
  · intro h y hy e
    exact h y hy (of_decide_eq_true e)
theorem mergeS_ok : ∀ (n : Nat) (a b : List api_Entry), a.length + b.length ≤ n → StrS a → StrS b → (mergeS a b).Perm (b ++ a.filter (fun e => !hasA b e.Alias)) ∧ StrS (mergeS a b)
  | _, [], b, _, _, hb => by
    rw [mergeS]
    exact ⟨by rw [List.filter_nil, List.append_nil], hb⟩
  | _, x :: a, [], _, ha, _ => by
    rw [mergeS_nil]
    refine ⟨?_, ha⟩
    have e : (x :: a).filter (fun e => !hasA [] e.Alias) = x :: a := List.filter_eq_self.2 (fun e _ => rfl)
    rw [List.nil_append, e]
  | 0, x :: a, y :: b, hn, _, _ => by simp only [List.length_cons] at hn; omega
  | n + 1, x :: a, y :: b, hn, ha, hb => by
    simp only [List.length_cons] at hn
    have hax : ∀ z ∈ a, ltE x z = true := (List.pairwise_cons.1 ha).1
    have ha' : StrS a := (List.pairwise_cons.1 ha).2
    have hby : ∀ z ∈ b, ltE y z = true := (List.pairwise_cons.1 hb).1
    have hb' : StrS b := (List.pairwise_cons.1 hb).2
    rw [mergeS]
    by_cases h1 : ltE x y = true
    · rw [if_pos h1]
      obtain ⟨p1, p2⟩ := mergeS_ok n a (y :: b) (by simp only [List.length_cons]; omega) ha' hb
      have hx : hasA (y :: b) x.Alias = false := hasA_false.2 fun z hz => by
        rcases List.mem_cons.1 hz with rfl | hz
        · exact (ltE_ne h1).symm
        · exact (ltE_ne (ltT_trans _ _ _ h1 (hby z hz))).symm
      refine ⟨?_, List.pairwise_cons.2 ⟨fun z hz => ?_, p2⟩⟩
      · rw [List.filter_cons_of_pos (by rw [hx]; rfl)]
        exact (List.Perm.cons x p1).trans List.perm_middle.symm
      · rcases List.mem_append.1 (p1.mem_iff.1 hz) with hz | hz
        · rcases List.mem_cons.1 hz with rfl | hz
          · exact h1
          · exact ltT_trans _ _ _ h1 (hby z hz)
        · exact hax z (List.mem_filter.1 hz).1
    · rw [if_neg h1]
      have h1' : ltE x y = false := by cases h : ltE x y with | false => rfl | true => exact absurd h h1
      by_cases h2 : x.Alias = y.Alias
      · rw [if_pos h2]
        obtain ⟨p1, p2⟩ := mergeS_ok n a b (by omega) ha' hb'
        have hx : hasA (y :: b) x.Alias = true := List.any_eq_true.2 ⟨y, .head _, decide_eq_true h2.symm⟩
        have hya : ∀ z ∈ a, ltE y z = true := fun z hz => by
          have := hax z hz
          unfold ltE at this ⊢
          rw [← h2]; exact this
        refine ⟨?_, List.pairwise_cons.2 ⟨fun z hz => ?_, p2⟩⟩
        · rw [List.filter_cons_of_neg (by rw [hx]; simp)]
          have e : a.filter (fun e => !hasA (y :: b) e.Alias) = a.filter (fun e => !hasA b e.Alias) := List.filter_congr fun z hz => by
            unfold hasA
            rw [List.any_cons, decide_eq_false (ltE_ne (hya z hz)), Bool.false_or]
          rw [e]
          exact List.Perm.cons y p1
        · rcases List.mem_append.1 (p1.mem_iff.1 hz) with hz | hz
          · exact hby z hz
          · exact hya z (List.mem_filter.1 hz).1
      · rw [if_neg h2]
        obtain ⟨p1, p2⟩ := mergeS_ok n (x :: a) b (by simp only [List.length_cons]; omega) ha hb'
        have hyx : ltE y x = true := by
          cases h : ltE y x with
          | true => rfl
          | false => exact absurd (toB_inj5 (ltT_both h1' h)) h2
        have hya : ∀ z ∈ x :: a, ltE y z = true := fun z hz => by
          rcases List.mem_cons.1 hz with rfl | hz
          · exact hyx
          · exact ltT_trans _ _ _ hyx (hax z hz)
        refine ⟨?_, List.pairwise_cons.2 ⟨fun z hz => ?_, p2⟩⟩
        · have e : (x :: a).filter (fun e => !hasA (y :: b) e.Alias) = (x :: a).filter (fun e => !hasA b e.Alias) := List.filter_congr fun z hz => by
            unfold hasA
            rw [List.any_cons, decide_eq_false (ltE_ne (hya z hz)), Bool.false_or]
          rw [e]
          exact List.Perm.cons y p1
        · rcases List.mem_append.1 (p1.mem_iff.1 hz) with hz | hz
          · exact hby z hz
          · exact hya z (List.mem_filter.1 hz).1
theorem sorted_only : ∀ (l m : List api_Entry), l.Perm m → l.Pairwise (fun x y => ltE y x = false) → StrS m → l = m
  | l, [], h, _, _ => h.eq_nil
  | [], y :: m, h, _, _ => by have := h.length_eq; cases this
  | x :: l, y :: m, h, hl, hm => by
    by_cases e : x = y
    · subst e
      rw [sorted_only l m (List.Perm.cons_inv h) (List.pairwise_cons.1 hl).2 (List.pairwise_cons.1 hm).2]
    · have h1 : x ∈ m := by
        rcases List.mem_cons.1 (h.mem_iff.1 (.head _)) with h1 | h1
        · exact absurd h1 e
        · exact h1
      have h2 : y ∈ l := by
        rcases List.mem_cons.1 (h.mem_iff.2 (.head _)) with h2 | h2
        · exact absurd h2.symm e
        · exact h2
      have := (List.pairwise_cons.1 hm).1 x h1
      rw [(List.pairwise_cons.1 hl).1 y h2] at this
      cases this
def finS (l : List api_Entry) : List api_Entry × Int := bif decide (64 < (l.length : Int)) then ([], 3) else (l, 0)
def mergeR (a b : List api_Entry) : List api_Entry × Int := bif !decide (storeS a = 0) || !decide (storeS b = 0) then ([], 16) else finS (mergeS a b)
theorem loop_pathU {S R : Type} {body : S → Option (Lp S R)} (n : Nat) (G : Nat → S) (x : Option R) (h1 : ∀ i, i < n → body (G i) = some (.next (G (i + 1)))) (h2 : body (G n) = up x) : loop body (G 0) = x := by
  have key : ∀ k i, i + k = n → loop body (G i) = x := by
    intro k
    induction k with
    | zero => intro i hi; rw [show i = n by omega]; exact loop_up h2
    | succ k ih => intro i hi; rw [loop_next (h1 i (by omega))]; exact ih (i + 1) (by omega)
  exact key n 0 (by omega)
theorem sl_IndexFunc_e (s : List api_Entry) (f : api_Entry → Option Bool) (p : api_Entry → Bool) (h : Lo s) (hf : ∀ x ∈ s, f x = some (p x)) : g_slices_IndexFunc_api_Entry s f = some (firstS s p) := by
  unfold g_slices_IndexFunc_api_Entry
  refine loop_first s p h (fun i x hx => ?_) ?_
  · show g_slices_IndexFunc_api_Entry.l1 s f (i : Int) = _
    unfold g_slices_IndexFunc_api_Entry.l1
    rw [for_in hx, hf x (at_mem hx), Option.bind_some]
    cases p x <;> rfl
  · show g_slices_IndexFunc_api_Entry.l1 s f (s.length : Int) = _
    unfold g_slices_IndexFunc_api_Entry.l1
    rw [for_out]; rfl
def findE (l : List api_Entry) (s : ByteArray) : api_Entry × Bool := match l.find? (fun x => decide (x.Alias = s)) with
  | some e => (e, true)
  | none => (zE, false)
theorem first_find (l : List api_Entry) (p : api_Entry → Bool) : (l.find? p = none ∧ firstS l p = -1) ∨ ∃ (i : Nat) (e : api_Entry), l[i]? = some e ∧ l.find? p = some e ∧ firstS l p = (i : Int) := by
  unfold firstS
  cases h : l.findIdx? p with
  | none =>
    refine .inl ⟨?_, rfl⟩
    rw [List.find?_eq_none]
    rw [List.findIdx?_eq_none_iff] at h
    intro x hx
    rw [h x hx]; simp
  | some i =>
    obtain ⟨hi, h1, h2⟩ := List.findIdx?_eq_some_iff_getElem.1 h
    refine .inr ⟨i, l[i], List.getElem?_eq_getElem hi, ?_, rfl⟩
    rw [List.find?_eq_some_iff_getElem]
    exact ⟨h1, i, hi, rfl, fun j hj => by have := h2 j hj; simpa using this⟩
theorem ks_Find (l : List api_Entry) (s : ByteArray) (hl : Lo l) (hw : ∀ e ∈ l, FewN e.Chain) : g_keystore_Find l s = some (findE l s) := by
  unfold g_keystore_Find findE
  rw [sl_IndexFunc_e l (fun x0 => g_keystore_Find_c1 x0 s) (fun x => decide (x.Alias = s)) hl (fun x _ => rfl), Option.bind_some]
  rcases first_find l (fun x => decide (x.Alias = s)) with ⟨h1, h2⟩ | ⟨i, e, h1, h2, h3⟩
  · rw [h1, h2]; rfl
  · rw [h2, h3, decide_eq_false (by omega), cond_false, getI_nat, h1, Option.bind_some, ownE (hw e (List.mem_of_getElem? h1))]
    rfl
theorem findE_2 (l : List api_Entry) (s : ByteArray) : (findE l s).2 = hasA l s := by
  unfold findE hasA
  cases h : l.find? (fun x => decide (x.Alias = s)) with
  | none => exact (List.any_eq_false.2 (List.find?_eq_none.1 h)).symm
  | some e => exact (List.any_eq_true.2 ⟨e, List.mem_of_find?_eq_some h, List.find?_some h⟩).symm
theorem cmp_ok5 : CmpOk_api_Entry (fun x0 x1 => g_keystore_Merge_c1 x0 x1) ltE (fun _ => True) := fun x y _ _ => by
  show ∃ n, g_keystore_Merge_c1 x y = some n ∧ decide (n < 0) = ltE x y
  unfold g_keystore_Merge_c1
  show ∃ n, cond (ltE x y) _ _ = some n ∧ _
  cases ltE x y
  · exact ⟨1, rfl, rfl⟩
  · exact ⟨-1, rfl, rfl⟩
theorem ks_Merge (a b : List api_Entry) (ha : a.length ≤ 1000000) (hb : b.length ≤ 1000000) (fa : ∀ e ∈ a, FitE e) (fb : ∀ e ∈ b, FitE e) : g_keystore_Merge a b = some (mergeR a b) := by
  have hj1 : g_keystore_Merge.j1 a b true = some ([], 16) := rfl
  unfold g_keystore_Merge mergeR
  rw [ks_Check a ha fa, Option.bind_some, ks_Check b hb fb, Option.bind_some]
  by_cases h1 : storeS a = 0
  · rw [decide_eq_true h1, Bool.not_true, cond_false, Bool.false_or]
    by_cases h2 : storeS b = 0
    · rw [decide_eq_true h2, Bool.not_true, cond_false]
      obtain ⟨la, oa, sa⟩ := store_zero.1 h1
      obtain ⟨lb, ob, sb⟩ := store_zero.1 h2
      obtain ⟨m1, m2⟩ := mergeS_ok _ a b (Nat.le_refl _) sa sb
      have hm : ∀ e ∈ mergeS a b, okE e = true := fun e he => by
        rcases List.mem_append.1 (m1.mem_iff.1 he) with h | h
        · exact ob e h
        · exact oa e (List.mem_filter.1 h).1
      unfold g_keystore_Merge.j1
      have e1 : makC 72 (b.length : Int) (W ((a.length : Int) + (b.length : Int))) (api_Entry.mk (⟨#[]⟩ : ByteArray) (api_Use.mk 0 0) 0 false ([] : (List api_Certificate))) = some (List.replicate b.length zE) := by
        rw [W_id (by omega)]
        unfold makC
        rw [if_pos (by omega)]
        rfl
      have e2 : cpyI (List.replicate b.length zE) b = some b := by
        unfold cpyI
        rw [if_pos (by simp)]
      rw [cond_false, e1, Option.bind_some, e2, Option.bind_some]
      have e0 : ((0 : Int), b) = ((fun i : Nat => ((i : Int), b ++ (a.take i).filter (fun e => !hasA b e.Alias))) 0) := by simp
      rw [e0]
      refine loop_pathU (body := fun q' => g_keystore_Merge.l2 a b q'.1 q'.2) a.length (fun i => ((i : Int), b ++ (a.take i).filter (fun e => !hasA b e.Alias))) (some (finS (mergeS a b))) (fun i hi => ?_) ?_ |>.trans ?_
      · obtain ⟨e, he⟩ : ∃ e, a[i]? = some e := ⟨_, List.getElem?_eq_getElem hi⟩
        have hlen : ((a.take i).filter (fun e => !hasA b e.Alias)).length ≤ 64 := Nat.le_trans (List.length_filter_le _ _) (by rw [List.length_take]; omega)
        show g_keystore_Merge.l2 a b (i : Int) (b ++ (a.take i).filter (fun e => !hasA b e.Alias)) = _
        unfold g_keystore_Merge.l2 g_keystore_Merge.j3
        rw [for_in he, ks_Find b e.Alias (lo_small hb) (fun x hx => few_of (ob x hx)), Option.bind_some, findE_2, take_succ' he, List.filter_append, W_succ (by omega)]
        cases hh : hasA b e.Alias with
        | true =>
          rw [List.filter_cons_of_neg (by rw [hh]; simp), List.filter_nil, List.append_nil]
          rfl
        | false =>
          rw [List.filter_cons_of_pos (by rw [hh]; rfl), List.filter_nil, Bool.not_false, cond_true, appI_ok (by rw [List.length_append, List.length_singleton]; omega), Option.bind_some, List.append_assoc]
      · show g_keystore_Merge.l2 a b (a.length : Int) (b ++ (a.take a.length).filter (fun e => !hasA b e.Alias)) = _
        unfold g_keystore_Merge.l2
        rw [for_out, List.take_length]
        refine congrArg up ?_
        have hlen := m1.length_eq
        generalize hl : b ++ a.filter (fun e => !hasA b e.Alias) = l at m1 hlen ⊢
        unfold finS
        rw [hlen]
        by_cases h64 : 64 < (l.length : Int)
        · rw [decide_eq_true h64]; rfl
        · rw [decide_eq_false h64, cond_false, cond_false]
          obtain ⟨s, s1, s2, s3⟩ := sortF_api_Entry ltE_swo cmp_ok5 l (by omega) (fun _ _ => trivial)
          rw [s1, Option.bind_some]
          obtain rfl := sorted_only s (mergeS a b) (s2.trans m1.symm) s3 m2
          have hs := s2.length_eq
          refine loop_path (body := fun q' => g_keystore_Merge.l4 (mergeS a b) q'.1 q'.2) (mergeS a b).length (fun i => ((i : Int), (mergeS a b).take i)) _ (fun i hi => ?_) ?_
          · obtain ⟨e, he⟩ : ∃ e, (mergeS a b)[i]? = some e := ⟨_, List.getElem?_eq_getElem hi⟩
            show g_keystore_Merge.l4 (mergeS a b) (i : Int) ((mergeS a b).take i) = _
            unfold g_keystore_Merge.l4
            rw [for_in he, ownE (few_of (hm e (at_mem he))), Option.bind_some, appI_ok (by rw [List.length_take, List.length_singleton]; omega), Option.bind_some, W_succ (by omega), take_succ' he]
          · show g_keystore_Merge.l4 (mergeS a b) ((mergeS a b).length : Int) ((mergeS a b).take (mergeS a b).length) = _
            unfold g_keystore_Merge.l4
            rw [for_out, List.take_length]; rfl
      · rfl
    · rw [decide_eq_false h2, Bool.not_false, hj1]; rfl
  · rw [decide_eq_false h1, Bool.not_false, cond_true, hj1]; rfl
end Go.Proofs.Ytbeageaekgccgaa
