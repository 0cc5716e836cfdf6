/- Key stores that are made; merges of them. No program is in sight here. -/
import Derived.Test.YtbeageaekgccgaaE3
import Derived.Test.YtbeageaekgccgaaM2
import Derived.Test.YtbeageaekgccgaaK8
set_option linter.unusedVariables false
set_option linter.unusedSimpArgs false
namespace Go.Proofs.Ytbeageaekgccgaa
open Go
theorem chain_ok5 {d : cipherplanmake_Dice} (h : DOK d) {name : ByteArray} {key : api_Use} {id : Int} (hs : nameS name = true) (hs31 : name.size ≤ 31) (hk : KeyU key) (hid : 0 ≤ id ∧ id ≤ 2147483648) :
    Ok (g_make_Chain d name key id) (fun y => (y.1.length ≤ 3 ∧ (∀ c ∈ y.1, certS c = true) ∧ headS key id y.1 = true) ∧ DOK y.2) := by
  unfold g_make_Chain
  refine Ok.bind (of_ok h _ (by decide) (by decide)) fun y1 h1 => ?_
  have hy1 : 0 ≤ y1.1 ∧ y1.1 ≤ 2 := by
    have := h1.1
    simp only [List.mem_cons, List.not_mem_nil, or_false] at this
    omega
  refine Ok.bind (next_ok h1.2 2 (by omega) (by omega)) fun y2 h2 => ?_
  have hy2 := h2.1
  refine Ok.loop (fun s => (0 ≤ s.1 ∧ s.1 ≤ 100) ∧ nameS s.2.1 = true ∧ 0 ≤ s.2.2.1 ∧ s.2.2.1 ≤ y1.1 ∧ DOK s.2.2.2.1 ∧ (s.2.2.2.2.length : Int) = s.2.2.1 ∧ ∀ c ∈ s.2.2.2.2, certS c = true) (fun s => (y1.1 - s.2.2.1).toNat) (fun s hs' => ?_) ⟨by rw [W_id (by omega)]; constructor <;> omega, by show nameS ⟨#[114, 111, 111, 116]⟩ = true; decide +kernel, Int.le_refl _, hy1.1, h2.2, rfl, fun c hc => by cases hc⟩
  obtain ⟨signer, issuer, i, d1, above⟩ := s
  obtain ⟨a1, a2, a3, a4, a5, a6, a7⟩ := hs'
  dsimp only at a1 a2 a3 a4 a5 a6 a7
  show Ok (g_make_Chain.l1 name key id y1 signer issuer i d1 above) _
  unfold g_make_Chain.l1
  refine Ok.cond (fun hb => ?_) fun hb => ?_
  · have hb := of_decide_eq_true hb
    refine Ok.bind (getI_mem (by omega) (by show i < (3 : Int); omega)) fun e he => ?_
    have hes : nameS e = true ∧ e.size ≤ 31 := by
      simp only [List.mem_cons, List.not_mem_nil, or_false] at he
      rcases he with rfl | rfl | rfl <;> exact ⟨by decide +kernel, by decide⟩
    have e11 : W (11 + i) = 11 + i := W_id (by omega)
    refine Ok.bind (cert_ok3 a5 true a2 hes.1 hes.2 ⟨⟨⟨by decide, by decide⟩, ⟨by decide, by decide⟩⟩, by decide +kernel⟩ (by rw [e11]; omega) (by omega)) fun y3 h3 => ?_
    refine Ok.bind (appI_ok' (by simp; omega)) fun l hl => ?_
    subst hl
    rw [W_id (x := i + 1) (by omega), e11]
    clear e11
    refine Ok.ret ⟨⟨⟨by show 0 ≤ 11 + i; omega, by show 11 + i ≤ 100; omega⟩, hes.1, ?_, ?_, h3.2, ?_, ?_⟩, ?_⟩
    · show 0 ≤ i + 1; omega
    · show i + 1 ≤ y1.1; omega
    · show ((y3.1 :: above).length : Int) = i + 1
      rw [List.length_cons]; omega
    · intro c hc
      rcases List.mem_cons.1 hc with rfl | hc
      · exact h3.1.ok
      · exact a7 c hc
    · show (y1.1 - (i + 1)).toNat < (y1.1 - i).toNat; omega
  · have hb := of_decide_eq_false hb
    refine Ok.up ?_
    refine Ok.bind (cert_ok3 a5 false a2 hs hs31 hk hid (by omega)) fun y4 h4 => ?_
    refine Ok.bind (appI_ok' (by simp; omega)) fun l hl => ?_
    subst hl
    refine Ok.ret ⟨⟨?_, ?_, ?_⟩, h4.2⟩
    · show ([y4.1] ++ above).length ≤ 3
      rw [List.length_append, List.length_singleton]; omega
    · intro c hc
      rcases List.mem_cons.1 hc with rfl | hc
      · exact h4.1.ok
      · exact a7 c hc
    · show (decide (y4.1.Key = key) && decide (y4.1.KeyId = id)) = true
      rw [h4.1.key_, h4.1.id_, decide_eq_true rfl, decide_eq_true rfl]; rfl
theorem shows_of {key : api_Use} {id : Int} {l : List api_Certificate} (hk : useS key 2 = true) (hid : 0 ≤ id ∧ id ≤ 2147483648) (hl : l.length ≤ 8) (hc : ∀ c ∈ l, certS c = true) (hh : headS key id l = true) : showsS key id l = true := by
  unfold showsS keyB
  have h1 : (l.any fun c => !certS c) = false := List.any_eq_false.2 fun c h => by rw [hc c h]; simp
  rw [hk, decide_eq_false (show ¬ id < 0 by omega), decide_eq_false (show ¬ 2147483648 < id by omega), decide_eq_false (show ¬ 8 < (l.length : Int) by omega), h1, hh]
  rfl
theorem entry_ok {d : cipherplanmake_Dice} (h : DOK d) {alias name : ByteArray} {id : Int} (ha : nameS alias = true) (hs : nameS name = true) (hs31 : name.size ≤ 31) (hid : 0 ≤ id ∧ id ≤ 2147483648) :
    Ok (g_make_Entry d alias name id) (fun y => (y.1.Alias = alias ∧ okE y.1 = true) ∧ DOK y.2) := by
  unfold g_make_Entry
  refine Ok.bind (key_ok3 h) fun y1 h1 => ?_
  refine Ok.bind (one_ok h1.2 2 (by omega) (by omega)) fun y2 h2 => ?_
  refine Ok.bind (one_ok h2 5 (by omega) (by omega)) fun y3 h3 => ?_
  refine Ok.cond (fun _ => ?_) fun _ => ?_
  · refine Ok.bind (chain_ok5 h3 hs hs31 h1.1 hid) fun y4 h4 => ?_
    refine Ok.ret ⟨⟨rfl, ?_⟩, h4.2⟩
    show (nameS alias && showsS y1.1 id y4.1) = true
    rw [ha, shows_of h1.1.2 hid (by have := h4.1.1; omega) h4.1.2.1 h4.1.2.2]
    rfl
  · refine Ok.ret ⟨⟨rfl, ?_⟩, h3⟩
    show (nameS alias && showsS y1.1 id []) = true
    rw [ha, shows_of h1.1.2 hid (Nat.zero_le _) (fun c hc => by cases hc) rfl]
    rfl
def k4 : List ByteArray := [(⟨#[107, 49]⟩ : ByteArray), (⟨#[107, 50]⟩ : ByteArray), (⟨#[107, 51]⟩ : ByteArray), (⟨#[107, 52]⟩ : ByteArray)]
def MadeS (l : List api_Entry) : Prop := l.length ≤ 4 ∧ ∀ (j : Nat) (e : api_Entry), l[j]? = some e → k4[j]? = some e.Alias ∧ okE e = true
theorem store_ok {d : cipherplanmake_Dice} (h : DOK d) {name : ByteArray} (hs : nameS name = true) (hs31 : name.size ≤ 31) : Ok (g_make_Store d name) (fun y => (1 ≤ y.1.length ∧ MadeS y.1) ∧ DOK y.2) := by
  unfold g_make_Store
  refine Ok.bind (next_ok h 4 (by omega) (by omega)) fun y1 h1 => ?_
  have hy1 := h1.1
  rw [W_id (by omega)]
  refine Ok.loop (fun s => 0 ≤ s.1 ∧ s.1 + s.2.2.length = 1 + y1.1 ∧ DOK s.2.1 ∧ MadeS s.2.2) (fun s => s.1.toNat) (fun s hs' => ?_) ⟨by show 0 ≤ 1 + y1.1; omega, by show 1 + y1.1 + ((([] : List api_Entry).length : Nat) : Int) = 1 + y1.1; simp, h1.2, ⟨Nat.zero_le _, fun j e he => by cases he⟩⟩
  obtain ⟨i, d1, l⟩ := s
  obtain ⟨a1, a2, a3, a4⟩ := hs'
  dsimp only at a1 a2 a3 a4
  show Ok (g_make_Store.l1 name i d1 l) _
  unfold g_make_Store.l1
  refine Ok.cond (fun hb => ?_) fun hb => ?_
  · have hb := of_decide_eq_true hb
    obtain ⟨e, he⟩ : ∃ e, k4[l.length]? = some e := ⟨_, List.getElem?_eq_getElem (show l.length < 4 by omega)⟩
    refine Ok.bindE (a := e) (by rw [getI_nat]; exact he) ?_
    have hes : nameS e = true := by
      have := List.mem_of_getElem? he
      unfold k4 at this
      simp only [List.mem_cons, List.not_mem_nil, or_false] at this
      rcases this with rfl | rfl | rfl | rfl <;> decide +kernel
    refine Ok.bind (next_ok a3 3 (by omega) (by omega)) fun y2 h2 => ?_
    have hy2 := h2.1
    rw [W_id (x := y2.1 * 10) (by omega), W_id (x := 100 + (l.length : Int)) (by omega), W_id (by omega)]
    refine Ok.bind (entry_ok h2.2 hes hs hs31 (by omega)) fun y3 h3 => ?_
    refine Ok.bind (appI_ok' (by rw [List.length_singleton]; omega)) fun l' hl' => ?_
    subst hl'
    rw [W_id (by omega)]
    refine Ok.ret ⟨⟨by show 0 ≤ i - 1; omega, ?_, h3.2, ?_⟩, ?_⟩
    · show i - 1 + ((l ++ [y3.1]).length : Int) = 1 + y1.1
      rw [List.length_append, List.length_singleton]; omega
    · refine ⟨by show (l ++ [y3.1]).length ≤ 4; rw [List.length_append, List.length_singleton]; omega, fun j x hx => ?_⟩
      have hx : (l ++ [y3.1])[j]? = some x := hx
      rw [List.getElem?_append] at hx
      split at hx
      · exact a4.2 j x hx
      · rename_i hj
        have hj0 : j - l.length = 0 := by
          have := at_lt hx
          rw [List.length_singleton] at this
          omega
        rw [hj0] at hx
        injection hx with hx
        subst hx
        rw [show j = l.length by omega, he, h3.1.1]
        exact ⟨rfl, h3.1.2⟩
    · show (i - 1).toNat < i.toNat; omega
  · have hb := of_decide_eq_false hb
    exact Ok.up (Ok.ret ⟨⟨by show 1 ≤ l.length; omega, a4⟩, a3⟩)
theorem k4_lt : ∀ i : _root_.Fin 4, ∀ j : _root_.Fin 4, i < j → ltT (toB k4[i]!) (toB k4[j]!) = true := by decide +kernel
theorem k4_at {l : List api_Entry} (h : MadeS l) {i : Nat} {e : api_Entry} (he : l[i]? = some e) : k4[i]! = e.Alias := by
  have h1 := (h.2 i e he).1
  rw [List.getElem!_eq_getElem?_getD, h1]; rfl
theorem made_strict {l : List api_Entry} (h : MadeS l) : StrS l := by
  rw [StrS, List.pairwise_iff_getElem]
  intro i j hi hj hij
  have := k4_lt ⟨i, by have := h.1; omega⟩ ⟨j, by have := h.1; omega⟩ hij
  unfold ltE
  rw [← k4_at h (List.getElem?_eq_getElem hi), ← k4_at h (List.getElem?_eq_getElem hj)]
  exact this
structure GoodS (n : Nat) (l : List api_Entry) : Prop where
  len : l.length ≤ n
  ok : ∀ e ∈ l, okE e = true
  str : StrS l
theorem GoodS.zero {n : Nat} {l : List api_Entry} (h : GoodS n l) (hn : n ≤ 64) : storeS l = 0 := store_zero.2 ⟨by have := h.len; omega, h.ok, h.str⟩
theorem GoodS.few {n : Nat} {l : List api_Entry} (h : GoodS n l) : ∀ e ∈ l, FewN e.Chain := fun e he => few_of (h.ok e he)
theorem made_good {l : List api_Entry} (h : MadeS l) : GoodS 4 l := ⟨h.1, fun e he => by
  obtain ⟨i, hi⟩ := List.mem_iff_getElem?.1 he
  exact (h.2 i e hi).2, made_strict h⟩
theorem GoodS.drop {n : Nat} {l : List api_Entry} (h : GoodS n l) (k : Nat) : GoodS n (l.drop k) := ⟨by rw [List.length_drop]; have := h.len; omega, fun e he => h.ok e (List.mem_of_mem_drop he), h.str.sublist (List.drop_sublist k l)⟩
theorem merge_mem {n m : Nat} {a b : List api_Entry} (ha : GoodS n a) (hb : GoodS m b) (e : api_Entry) : e ∈ mergeS a b ↔ e ∈ b ∨ (e ∈ a ∧ hasA b e.Alias = false) := by
  obtain ⟨m1, m2⟩ := mergeS_ok _ a b (Nat.le_refl _) ha.str hb.str
  rw [m1.mem_iff, List.mem_append, List.mem_filter]
  simp
theorem merge_good {n m : Nat} {a b : List api_Entry} (ha : GoodS n a) (hb : GoodS m b) : GoodS (n + m) (mergeS a b) := by
  obtain ⟨m1, m2⟩ := mergeS_ok _ a b (Nat.le_refl _) ha.str hb.str
  refine ⟨?_, fun e he => ?_, m2⟩
  · rw [m1.length_eq, List.length_append]
    have := List.length_filter_le (fun e => !hasA b e.Alias) a
    have := ha.len
    have := hb.len
    omega
  · rcases (merge_mem ha hb e).1 he with h | h
    · exact hb.ok e h
    · exact ha.ok e h.1
theorem hasA_merge {n m : Nat} {a b : List api_Entry} (ha : GoodS n a) (hb : GoodS m b) (s : ByteArray) : hasA (mergeS a b) s = (hasA b s || hasA a s) := by
  have key : hasA (mergeS a b) s = true ↔ (hasA b s = true ∨ hasA a s = true) := by
    have hx : ∀ l : List api_Entry, hasA l s = true ↔ ∃ e ∈ l, e.Alias = s := fun l => by
      unfold hasA
      rw [List.any_eq_true]
      exact ⟨fun ⟨e, h1, h2⟩ => ⟨e, h1, of_decide_eq_true h2⟩, fun ⟨e, h1, h2⟩ => ⟨e, h1, decide_eq_true h2⟩⟩
    rw [hx, hx, hx]
    constructor
    · rintro ⟨e, h1, h2⟩
      rcases (merge_mem ha hb e).1 h1 with h | h
      · exact .inl ⟨e, h, h2⟩
      · exact .inr ⟨e, h.1, h2⟩
    · rintro (⟨e, h1, h2⟩ | ⟨e, h1, h2⟩)
      · exact ⟨e, (merge_mem ha hb e).2 (.inl h1), h2⟩
      · cases hh : hasA b e.Alias with
        | false => exact ⟨e, (merge_mem ha hb e).2 (.inr ⟨h1, hh⟩), h2⟩
        | true =>
          unfold hasA at hh
          obtain ⟨f, h3, h4⟩ := List.any_eq_true.1 hh
          exact ⟨f, (merge_mem ha hb f).2 (.inl h3), (of_decide_eq_true h4).trans h2⟩
  cases h1 : hasA (mergeS a b) s <;> cases h2 : hasA b s <;> cases h3 : hasA a s <;> rw [h1, h2, h3] at key <;> simp at key <;> rfl
theorem good_ext {n m : Nat} {a b : List api_Entry} (ha : GoodS n a) (hb : GoodS m b) (h : ∀ e, e ∈ a ↔ e ∈ b) : a = b := by
  have nd : ∀ {l : List api_Entry}, StrS l → l.Nodup := fun hl => hl.imp fun h e => by
    subst e
    unfold ltE at h
    rw [ltT_irrefl] at h
    cases h
  have hp : a.Perm b := (List.perm_ext_iff_of_nodup (nd ha.str) (nd hb.str)).2 h
  exact sorted_only a b hp (ha.str.imp fun h => ltT_asymm h) hb.str
theorem merge_assoc {n m k : Nat} {a b c : List api_Entry} (ha : GoodS n a) (hb : GoodS m b) (hc : GoodS k c) : mergeS (mergeS a b) c = mergeS a (mergeS b c) := by
  refine good_ext (merge_good (merge_good ha hb) hc) (merge_good ha (merge_good hb hc)) fun e => ?_
  rw [merge_mem (merge_good ha hb) hc, merge_mem ha hb, merge_mem ha (merge_good hb hc), merge_mem hb hc, hasA_merge hb hc, Bool.or_eq_false_iff]
  by_cases h1 : e ∈ a <;> by_cases h2 : e ∈ b <;> by_cases h3 : e ∈ c <;> cases hasA b e.Alias <;> cases hasA c e.Alias <;> simp [h1, h2, h3]
theorem merge_self {n : Nat} {a : List api_Entry} (ha : GoodS n a) : mergeS a a = a := by
  refine good_ext (merge_good ha ha) ha fun e => ?_
  rw [merge_mem ha ha]
  constructor
  · rintro (h | h)
    · exact h
    · exact h.1
  · exact .inl
theorem fitE_ok {e : api_Entry} (h : okE e = true) : FitE e := by
  have hf := few_of h
  unfold okE at h
  rw [Bool.and_eq_true] at h
  refine ⟨by have := nameS_size h.1; omega, fun c hc => ?_⟩
  have h2 := h.2
  unfold showsS at h2
  simp only [Bool.and_eq_true, Bool.not_eq_true'] at h2
  obtain ⟨_, _, _, h3, _⟩ := h2
  have hcs : certS c = true := by
    cases hb : certS c with
    | true => rfl
    | false =>
      have : (e.Chain.any fun c => !certS c) = true := List.any_eq_true.2 ⟨c, hc, by rw [hb]; rfl⟩
      rw [this] at h3; cases h3
  obtain ⟨v1, v2, v3, v4⟩ := valid_sizes hcs
  exact ⟨by omega, fun s hs => by have := v4 s hs; omega, by omega, by omega⟩
theorem GoodS.fit {n : Nat} {l : List api_Entry} (h : GoodS n l) : ∀ e ∈ l, FitE e := fun e he => fitE_ok (h.ok e he)
theorem merge_run {n m : Nat} {a b : List api_Entry} (ha : GoodS n a) (hb : GoodS m b) (hn : n + m ≤ 64) : g_keystore_Merge a b = some (mergeS a b, 0) := by
  have h1 := ha.len
  have h2 := hb.len
  rw [ks_Merge a b (by omega) (by omega) ha.fit hb.fit]
  unfold mergeR finS
  have h3 := (merge_good ha hb).len
  rw [ha.zero (by omega), hb.zero (by omega), decide_eq_false (show ¬ 64 < ((mergeS a b).length : Int) by omega)]
  rfl
theorem find_good {n : Nat} {l : List api_Entry} (h : GoodS n l) {e : api_Entry} (he : e ∈ l) : findE l e.Alias = (e, true) := by
  unfold findE
  cases hf : l.find? (fun x => decide (x.Alias = e.Alias)) with
  | none => exact absurd (decide_eq_true rfl) (List.find?_eq_none.1 hf e he)
  | some f =>
    have h1 := List.mem_of_find?_eq_some hf
    have h2 : decide (f.Alias = e.Alias) = true := List.find?_some (p := fun x : api_Entry => decide (x.Alias = e.Alias)) hf
    replace h2 := of_decide_eq_true h2
    have : f = e := by
      obtain ⟨i, hi, rfl⟩ := List.mem_iff_getElem.1 h1
      obtain ⟨j, hj, rfl⟩ := List.mem_iff_getElem.1 he
      have hp := List.pairwise_iff_getElem.1 h.str
      rcases Nat.lt_trichotomy i j with hl | hl | hl
      · exact absurd h2 (ltE_ne (hp i j hi hj hl))
      · subst hl; rfl
      · exact absurd h2.symm (ltE_ne (hp j i hj hi hl))
    rw [this]
theorem awakeOk5 : Ok (g_law05_awake.bind fun y => some y) (fun r => r = true) := Ok.bindE awake_law05 (Ok.ret rfl)
theorem law_KeystoreMerges (x0 : (List Int)) (hok : okVs [.sl 1 (encL eI x0)]) : g_law05_KeystoreMerges x0 = some true := by
  refine Ok.true_ ?_
  unfold g_law05_KeystoreMerges g_make_Light
  rw [Option.bind_some]
  refine Ok.cond (fun _ => awakeOk5) fun hb => ?_
  have hl : x0.length ≤ 400 := by
    have := of_decide_eq_true (by simpa using hb)
    omega
  refine Ok.bind (roll_ok hl) fun d hd => ?_
  refine Ok.bind (store_ok hd (by decide +kernel) (by decide)) fun y4 h4 => ?_
  refine Ok.bind (store_ok h4.2 (by decide +kernel) (by decide)) fun y5 h5 => ?_
  obtain ⟨⟨-, m4⟩, -⟩ := h4
  obtain ⟨⟨l5, m5⟩, d5⟩ := h5
  refine Ok.bind (slI_ok ⟨by omega, by omega, by omega⟩) fun B hB => ?_
  have hB' : B = y5.1.drop 1 := by
    rw [hB]
    show (y5.1.drop 1).take _ = _
    rw [List.take_of_length_le]
    rw [List.length_drop]
    show y5.1.length - 1 ≤ ((y5.1.length : Int)).toNat - 1
    omega
  have gA := made_good m4
  have gB : GoodS 4 B := by rw [hB']; exact (made_good m5).drop 1
  clear hB hB'
  refine Ok.bind (store_ok d5 (by decide +kernel) (by decide)) fun y6 h6 => ?_
  have gC := made_good h6.1.2
  generalize y4.1 = A at gA ⊢
  generalize y6.1 = C at gC ⊢
  have gAB := merge_good gA gB
  have gBC := merge_good gB gC
  refine Ok.bindE (merge_run gA gB (by omega)) (Ok.bindE (merge_run gB gC (by omega)) ?_)
  refine Ok.bindE (merge_run gAB gC (by omega)) (Ok.bindE (merge_run gA gBC (by omega)) (Ok.bindE (merge_run gA gA (by omega)) ?_))
  have gX := merge_good gAB gC
  have hX := gX.len
  have hA := gA.len
  have hB := gB.len
  simp only [decide_true, Bool.not_true, cond_false]
  rw [← merge_assoc gA gB gC, merge_self gA, sameE (by omega) gX.few, Option.bind_some, Bool.not_true, cond_false, sameE (by omega) gA.few, Option.bind_some, Bool.not_true]
  unfold g_law05_KeystoreMerges.j1
  rw [cond_false]
  refine Ok.of ?_ rfl
  refine (loop_has B (fun _ => false) false true (lo_small (by omega)) (fun i e he => ?_) ?_).trans ?_
  · show g_law05_KeystoreMerges.l2 B _ _ (i : Int) = _
    have hi := at_lt he
    unfold g_law05_KeystoreMerges.l2
    have hAB := gAB.len
    have hm : e ∈ mergeS A B := (merge_mem gA gB e).2 (.inl (at_mem he))
    have hsl : slI B (i : Int) (W ((i : Int) + 1)) = some [e] := by
      rw [W_succ (by omega)]
      unfold slI
      rw [if_pos (by omega), Int.toNat_natCast, Int.toNat_natCast, drop_at he, show i + 1 - i = 1 by omega]
      rfl
    rw [for_in he, ks_Find _ _ (lo_small (by omega)) gAB.few, Option.bind_some, find_good gAB hm, Bool.not_true, cond_false, hsl, Option.bind_some]
    simp only []
    rw [sameE (l := [e]) (by rw [List.length_singleton]; omega) (fun f hf => by rw [List.mem_singleton.1 hf]; exact gAB.few e hm), Option.bind_some]
    rfl
  · show g_law05_KeystoreMerges.l2 B _ _ (B.length : Int) = _
    unfold g_law05_KeystoreMerges.l2
    rw [for_out, ks_Check _ (by omega) gX.fit, gX.zero (by omega), awake_law05]
    rfl
  · have : B.any (fun _ => false) = false := by simp
    rw [this]; rfl
end Go.Proofs.Ytbeageaekgccgaa
