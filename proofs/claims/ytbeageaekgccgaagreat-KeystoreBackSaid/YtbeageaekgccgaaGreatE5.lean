/- Plain texts, joined. No program is in sight here. -/
import Derived.Test.YtbeageaekgccgaaGreatB0
import Derived.Test.YtbeageaekgccgaaGreatOW
import Derived.Test.YtbeageaekgccgaaGreatK7
import Derived.Test.YtbeageaekgccgaaGreatSEapi_Entry
import Derived.Test.YtbeageaekgccgaaGreatM2
import Derived.Test.YtbeageaekgccgaaGreatK8
import Derived.Test.YtbeageaekgccgaaGreatQ3
set_option linter.unusedVariables false
set_option linter.unusedSimpArgs false
namespace Go.Proofs.YtbeageaekgccgaaGreat
section
open Go
theorem cert_Check (c : api_Certificate) (h : FitW c) : g_certificate_Check c = some (bif certS c then 0 else 9) := by
  unfold g_certificate_Check
  rw [cat_validW c h, Option.bind_some]
  cases certS c <;> rfl
def keyB (id : Int) : Bool := decide (id < 0) || decide (2147483648 < id)
def headS (key : api_Use) (id : Int) : List api_Certificate → Bool
  | [] => true
  | c :: _ => decide (c.Key = key) && decide (c.KeyId = id)
def showsS (key : api_Use) (id : Int) (l : List api_Certificate) : Bool := useS key 2 && (!keyB id && (!decide (8 < (l.length : Int)) && (!l.any (fun c => !certS c) && headS key id l)))
theorem head_end (key : api_Use) (id : Int) (l : List api_Certificate) :
    (cond (decide ((l.length : Int) = 0)) (some true) ((getI l 0).bind fun e_2 => cond (decide (e_2.Key = key)) (some (decide (e_2.KeyId = id))) (some false))) = some (headS key id l) := by
  cases l with
  | nil => rfl
  | cons c l =>
    rw [decide_eq_false (by simp only [List.length_cons]; omega), cond_false]
    show cond (decide (c.Key = key)) (some (decide (c.KeyId = id))) (some false) = some (decide (c.Key = key) && decide (c.KeyId = id))
    cases decide (c.Key = key) <;> rfl
theorem cat_Shows (key : api_Use) (id : Int) (l : List api_Certificate) (hf : ∀ c ∈ l, FitW c) : g_keystore_Shows key id l = some (showsS key id l) := by
  unfold g_keystore_Shows showsS useS
  rw [cat_Valid, Option.bind_some, cat_Kind, Option.bind_some, cat_Key, Option.bind_some]
  have h1 : g_keystore_Shows.j1 key id l true = some false := rfl
  have h0 : ¬ (8 < (l.length : Int)) → g_keystore_Shows.j1 key id l false = some (!l.any (fun c => !certS c) && headS key id l) := fun h8 => by
    unfold g_keystore_Shows.j1
    rw [cond_false]
    refine (loop_has l (fun c => !certS c) false (headS key id l) (lo_small (by omega)) (fun i c hc => ?_) ?_).trans ?_
    · show g_keystore_Shows.l2 key id l (i : Int) = _
      unfold g_keystore_Shows.l2
      rw [for_in hc, cert_Check c (hf c (at_mem hc)), Option.bind_some]
      cases certS c <;> rfl
    · show g_keystore_Shows.l2 key id l (l.length : Int) = _
      unfold g_keystore_Shows.l2
      rw [for_out, head_end]
      rfl
    · cases l.any (fun c => !certS c) <;> rfl
  cases decide (0 < strS key) with
  | false => rw [Bool.not_false, cond_true, h1]; rfl
  | true =>
    rw [Bool.not_true, cond_false]
    cases decide (kindS key.Alg = 2) with
    | false => rw [Bool.not_false, cond_true, h1]; rfl
    | true =>
      rw [Bool.not_true, cond_false]
      show cond (!!keyB id) _ _ = _
      cases keyB id with
      | true => rw [Bool.not_not, cond_true, h1]; rfl
      | false =>
        rw [Bool.not_not, cond_false]
        by_cases h8 : 8 < (l.length : Int)
        · rw [decide_eq_true h8, h1]; rfl
        · rw [decide_eq_false h8, h0 h8]; rfl
structure FitE (e : api_Entry) : Prop where
  alias : e.Alias.size ≤ 9223372036854775807
  chain : ∀ c ∈ e.Chain, FitW c
def zE : api_Entry := api_Entry.mk ⟨#[]⟩ (api_Use.mk 0 0) 0 false []
def ltE (x y : api_Entry) : Bool := ltT (toB x.Alias) (toB y.Alias)
def okE (e : api_Entry) : Bool := nameS e.Alias && showsS e.Key e.KeyId e.Chain
def badE (l : List api_Entry) (i : Nat) : Bool := !nameS (l.getD i zE).Alias || ((decide (0 < i) && !ltE (l.getD (i - 1) zE) (l.getD i zE)) || !showsS (l.getD i zE).Key (l.getD i zE).KeyId (l.getD i zE).Chain)
def storeS (l : List api_Entry) : Int := bif (List.range l.length).any (badE l) || decide (64 < (l.length : Int)) then 16 else 0
theorem ks_Check (l : List api_Entry) (hl : l.length ≤ 1000000) (hf : ∀ e ∈ l, FitE e) : g_keystore_Check l = some (storeS l) := by
  unfold g_keystore_Check
  refine (loop_hasN (body := fun q' => g_keystore_Check.l1 l q') l.length (badE l) (16 : Int) (bif decide (64 < (l.length : Int)) then 16 else 0) (by omega) (fun i hi => ?_) ?_).trans ?_
  · obtain ⟨e, he⟩ : ∃ e, l[i]? = some e := ⟨_, List.getElem?_eq_getElem hi⟩
    have hfe := hf e (at_mem he)
    show g_keystore_Check.l1 l (i : Int) = _
    unfold g_keystore_Check.l1 badE
    rw [for_in he, cat_Named _ hfe.alias, Option.bind_some, getD_at he, cat_Shows _ _ _ hfe.chain]
    cases nameS e.Alias with
    | false => rfl
    | true =>
      rw [Bool.not_true, cond_false, Bool.false_or]
      cases i with
      | zero =>
        show cond false _ ((some (showsS e.Key e.KeyId e.Chain)).bind _) = _
        cases showsS e.Key e.KeyId e.Chain <;> rfl
      | succ i =>
        obtain ⟨p, hp⟩ : ∃ p, l[i]? = some p := ⟨_, List.getElem?_eq_getElem (by omega)⟩
        rw [decide_eq_true (by omega), cond_true, W_id (by omega), show ((i + 1 : Nat) : Int) - 1 = (i : Int) by omega, getI_nat, hp, Option.bind_some, show i + 1 - 1 = i from rfl, getD_at hp, decide_eq_true (by omega), Bool.true_and, Option.bind_some]
        show cond (!ltE p e) _ _ = _
        cases ltE p e with
        | false => rfl
        | true => cases showsS e.Key e.KeyId e.Chain <;> rfl
  · show g_keystore_Check.l1 l (l.length : Int) = _
    unfold g_keystore_Check.l1
    rw [for_out]
    cases decide (64 < (l.length : Int)) <;> rfl
  · unfold storeS
    cases (List.range l.length).any (badE l) <;> cases decide (64 < (l.length : Int)) <;> rfl
def FewN (l : List api_Certificate) : Prop := l.length ≤ 20 ∧ ∀ c ∈ l, c.Names.length ≤ 1000
theorem copyC {l : List api_Certificate} (h : FewN l) : g_certificate_Copy l = some l := by
  have hlo := h.1
  unfold g_certificate_Copy
  refine loop_path (body := fun q' => g_certificate_Copy.l1 l q'.1 q'.2) l.length (fun i => ((i : Int), l.take i)) l (fun i hi => ?_) ?_
  · obtain ⟨c, hc⟩ : ∃ c, l[i]? = some c := ⟨_, List.getElem?_eq_getElem hi⟩
    have hf := h.2 c (List.mem_of_getElem? hc)
    show g_certificate_Copy.l1 l (i : Int) (l.take i) = _
    unfold g_certificate_Copy.l1
    rw [for_in hc, sl_Clone_string _ (by omega), Option.bind_some, appI_ok (by simp; omega), Option.bind_some, W_succ (by omega), take_succ' hc]
  · show g_certificate_Copy.l1 l (l.length : Int) (l.take l.length) = _
    unfold g_certificate_Copy.l1
    rw [for_out, List.take_length]; rfl
theorem ownE {e : api_Entry} (h : FewN e.Chain) : g_keystore_own e = some e := by
  unfold g_keystore_own
  rw [copyC h]
  rfl
theorem sameCh {l : List api_Certificate} (h : FewN l) : g_ref03_SameChain l l = some true := by
  have hlo := h.1
  unfold g_ref03_SameChain
  rw [decide_eq_true rfl, Bool.not_true, cond_false]
  refine loop_path (body := fun q' => g_ref03_SameChain.l1 l l q') l.length (fun i => (i : Int)) true (fun i hi => ?_) ?_
  · obtain ⟨c, hc⟩ : ∃ c, l[i]? = some c := ⟨_, List.getElem?_eq_getElem hi⟩
    have hf := h.2 c (List.mem_of_getElem? hc)
    show g_ref03_SameChain.l1 l l (i : Int) = _
    unfold g_ref03_SameChain.l1
    rw [for_in hc, getI_nat, hc, Option.bind_some, ref_Same c c (lo_small (by omega)), decide_eq_true rfl, W_succ (by omega)]
    rfl
  · show g_ref03_SameChain.l1 l l (l.length : Int) = _
    unfold g_ref03_SameChain.l1
    rw [for_out]; rfl
end
section
open Go
theorem ltT_irrefl (a : List UInt8) : ltT a a = false := by
  have := ltT_tot a a
  rw [decide_eq_true rfl, Bool.or_true] at this
  exact this.symm
theorem ltT_trans : ∀ (a b c : List UInt8), ltT a b = true → ltT b c = true → ltT a c = true
  | a, [], c, h, k => by cases a <;> cases h
  | a, b :: bs, [], h, k => by cases k
  | [], b :: bs, c :: cs, h, k => rfl
  | a :: u, b :: v, c :: w, h, k => by
    simp only [ltT, Bool.or_eq_true, decide_eq_true_eq, Bool.and_eq_true, beq_iff_eq] at h k ⊢
    rcases h with h | ⟨rfl, h⟩
    · rcases k with k | ⟨rfl, k⟩
      · exact .inl (UInt8.lt_trans h k)
      · exact .inl h
    · rcases k with k | ⟨rfl, k⟩
      · exact .inl k
      · exact .inr ⟨rfl, ltT_trans u v w h k⟩
theorem ltT_both {a b : List UInt8} (h : ltT a b = false) (k : ltT b a = false) : a = b := by
  have := ltT_tot a b
  rw [h, k, Bool.false_or] at this
  by_cases e : a = b
  · exact e
  · rw [decide_eq_false e] at this; cases this
theorem ltE_swo : Sort.SWO ltE where
  irrefl x := ltT_irrefl _
  trans x y z h k := ltT_trans _ _ _ h k
  ntrans x y z h k := by
    cases e : ltE x z with
    | false => rfl
    | true =>
      unfold ltE at *
      cases h2 : ltT (toB y.Alias) (toB x.Alias) with
      | true =>
        have := ltT_trans _ _ _ h2 e
        rw [k] at this; cases this
      | false =>
        rw [ltT_both h h2] at e
        rw [k] at e; cases e
theorem toB_inj5 {a b : ByteArray} (h : toB a = toB b) : a = b := by
  cases a with | mk a => cases b with | mk b =>
  unfold toB at h
  exact congrArg ByteArray.mk (Array.toList_inj.1 h)
theorem ltE_ne {x y : api_Entry} (h : ltE x y = true) : x.Alias ≠ y.Alias := fun e => by
  unfold ltE at h
  rw [e, ltT_irrefl] at h
  cases h
abbrev StrS (l : List api_Entry) : Prop := l.Pairwise (fun x y => ltE x y = true)
theorem few_of {e : api_Entry} (h : okE e = true) : FewN e.Chain := by
  unfold okE showsS at h
  simp only [Bool.and_eq_true, Bool.not_eq_true', decide_eq_false_iff_not] at h
  obtain ⟨_, _, _, h1, h2, _⟩ := h
  refine ⟨by omega, fun c hc => ?_⟩
  have : certS c = true := by
    cases hb : certS c with
    | true => rfl
    | false =>
      have : (e.Chain.any fun c => !certS c) = true := List.any_eq_true.2 ⟨c, hc, by rw [hb]; rfl⟩
      rw [this] at h2; cases h2
  have := (valid_sizes this).2.2.1
  omega
theorem store_zero {l : List api_Entry} : storeS l = 0 ↔ l.length ≤ 64 ∧ (∀ e ∈ l, okE e = true) ∧ StrS l := by
  have key : (List.range l.length).any (badE l) = false ↔ (∀ e ∈ l, okE e = true) ∧ StrS l := by
    rw [List.any_eq_false]
    constructor
    · intro h
      have hb : ∀ (i : Nat) (e : api_Entry), l[i]? = some e → badE l i = false := fun i e he => by
        have := h i (List.mem_range.2 (at_lt he))
        cases hx : badE l i with
        | false => rfl
        | true => exact absurd hx this
      refine ⟨fun e he => ?_, ?_⟩
      · obtain ⟨i, hi⟩ := List.mem_iff_getElem?.1 he
        have := hb i e hi
        unfold badE at this
        rw [getD_at hi] at this
        simp only [Bool.or_eq_false_iff, Bool.not_eq_false'] at this
        unfold okE
        rw [this.1, this.2.2]; rfl
      · have adj : ∀ i, i + 1 < l.length → ltE (l.getD i zE) (l.getD (i + 1) zE) = true := fun i hi => by
          obtain ⟨e, he⟩ : ∃ e, l[i + 1]? = some e := ⟨_, List.getElem?_eq_getElem hi⟩
          have := hb (i + 1) e he
          unfold badE at this
          simp only [Bool.or_eq_false_iff, Bool.not_eq_false', Bool.and_eq_false_iff, decide_eq_false_iff_not] at this
          rcases this.2.1 with h2 | h2
          · omega
          · exact h2
        have all : ∀ k i, i + k + 1 < l.length → ltE (l.getD i zE) (l.getD (i + k + 1) zE) = true := fun k => by
          induction k with
          | zero => exact fun i hi => adj i hi
          | succ k ih => exact fun i hi => ltT_trans _ _ _ (ih i (by omega)) (adj (i + k + 1) hi)
        rw [StrS, List.pairwise_iff_getElem]
        intro i j hi hj hij
        have := all (j - i - 1) i (by omega)
        rw [show i + (j - i - 1) + 1 = j by omega] at this
        rw [getD_at (List.getElem?_eq_getElem hi), getD_at (List.getElem?_eq_getElem hj)] at this
        exact this
    · rintro ⟨h1, h2⟩ i hi
      have hi := List.mem_range.1 hi
      have := h1 l[i] (List.getElem_mem hi)
      unfold okE at this
      rw [Bool.and_eq_true] at this
      unfold badE
      rw [getD_at (List.getElem?_eq_getElem hi), this.1, this.2]
      cases i with
      | zero => simp
      | succ i =>
        rw [show i + 1 - 1 = i from rfl, getD_at (List.getElem?_eq_getElem (show i < l.length by omega))]
        have h2 := List.pairwise_iff_getElem.1 h2
        rw [h2 i (i + 1) (by omega) hi (by omega)]
        simp
  unfold storeS
  by_cases h64 : 64 < (l.length : Int)
  · rw [decide_eq_true h64, Bool.or_true]
    constructor
    · intro h; cases h
    · intro h; omega
  · rw [decide_eq_false h64, Bool.or_false]
    cases hb : (List.range l.length).any (badE l) with
    | true =>
      constructor
      · intro h; cases h
      · intro h; rw [key.2 h.2] at hb; cases hb
    | false => exact ⟨fun _ => ⟨by omega, key.1 hb⟩, fun _ => rfl⟩
def hasA (b : List api_Entry) (s : ByteArray) : Bool := b.any fun x => decide (x.Alias = s)
def mergeS : List api_Entry → List api_Entry → List api_Entry
  | [], b => b
  | a, [] => a
  | x :: a, y :: b => if ltE x y = true then x :: mergeS a (y :: b) else if x.Alias = y.Alias then y :: mergeS a b else y :: mergeS (x :: a) b
termination_by a b => a.length + b.length
theorem mergeS_nil (a : List api_Entry) : mergeS a [] = a := by cases a <;> rw [mergeS] <;> intro h <;> cases h
theorem hasA_false {b : List api_Entry} {s : ByteArray} : hasA b s = false ↔ ∀ y ∈ b, y.Alias ≠ s := by
  unfold hasA
  rw [List.any_eq_false]
  constructor
  · intro h y hy e
    exact h y hy (decide_eq_true e)
  · intro h y hy e
    exact h y hy (of_decide_eq_true e)
theorem mergeS_ok : ∀ (n : Nat) (a b : List api_Entry), a.length + b.length ≤ n → StrS a → StrS b → (mergeS a b).Perm (b ++ a.filter (fun e => !hasA b e.Alias)) ∧ StrS (mergeS a b)
  | _, [], b, _, _, hb => by
    rw [mergeS]
    exact ⟨by rw [List.filter_nil, List.append_nil], hb⟩
  | _, x :: a, [], _, ha, _ => by
    rw [mergeS_nil]
    refine ⟨?_, ha⟩
    have e : (x :: a).filter (fun e => !hasA [] e.Alias) = x :: a := List.filter_eq_self.2 (fun e _ => rfl)
    rw [List.nil_append, e]
  | 0, x :: a, y :: b, hn, _, _ => by simp only [List.length_cons] at hn; omega
  | n + 1, x :: a, y :: b, hn, ha, hb => by
    simp only [List.length_cons] at hn
    have hax : ∀ z ∈ a, ltE x z = true := (List.pairwise_cons.1 ha).1
    have ha' : StrS a := (List.pairwise_cons.1 ha).2
    have hby : ∀ z ∈ b, ltE y z = true := (List.pairwise_cons.1 hb).1
    have hb' : StrS b := (List.pairwise_cons.1 hb).2
    rw [mergeS]
    by_cases h1 : ltE x y = true
    · rw [if_pos h1]
      obtain ⟨p1, p2⟩ := mergeS_ok n a (y :: b) (by simp only [List.length_cons]; omega) ha' hb
      have hx : hasA (y :: b) x.Alias = false := hasA_false.2 fun z hz => by
        rcases List.mem_cons.1 hz with rfl | hz
        · exact (ltE_ne h1).symm
        · exact (ltE_ne (ltT_trans _ _ _ h1 (hby z hz))).symm
      refine ⟨?_, List.pairwise_cons.2 ⟨fun z hz => ?_, p2⟩⟩
      · rw [List.filter_cons_of_pos (by rw [hx]; rfl)]
        exact (List.Perm.cons x p1).trans List.perm_middle.symm
      · rcases List.mem_append.1 (p1.mem_iff.1 hz) with hz | hz
        · rcases List.mem_cons.1 hz with rfl | hz
          · exact h1
          · exact ltT_trans _ _ _ h1 (hby z hz)
        · exact hax z (List.mem_filter.1 hz).1
    · rw [if_neg h1]
      have h1' : ltE x y = false := by cases h : ltE x y with | false => rfl | true => exact absurd h h1
      by_cases h2 : x.Alias = y.Alias
      · rw [if_pos h2]
        obtain ⟨p1, p2⟩ := mergeS_ok n a b (by omega) ha' hb'
        have hx : hasA (y :: b) x.Alias = true := List.any_eq_true.2 ⟨y, .head _, decide_eq_true h2.symm⟩
        have hya : ∀ z ∈ a, ltE y z = true := fun z hz => by
          have := hax z hz
          unfold ltE at this ⊢
          rw [← h2]; exact this
        refine ⟨?_, List.pairwise_cons.2 ⟨fun z hz => ?_, p2⟩⟩
        · rw [List.filter_cons_of_neg (by rw [hx]; simp)]
          have e : a.filter (fun e => !hasA (y :: b) e.Alias) = a.filter (fun e => !hasA b e.Alias) := List.filter_congr fun z hz => by
            unfold hasA
            rw [List.any_cons, decide_eq_false (ltE_ne (hya z hz)), Bool.false_or]
          rw [e]
          exact List.Perm.cons y p1
        · rcases List.mem_append.1 (p1.mem_iff.1 hz) with hz | hz
          · exact hby z hz
          · exact hya z (List.mem_filter.1 hz).1
      · rw [if_neg h2]
        obtain ⟨p1, p2⟩ := mergeS_ok n (x :: a) b (by simp only [List.length_cons]; omega) ha hb'
        have hyx : ltE y x = true := by
          cases h : ltE y x with
          | true => rfl
          | false => exact absurd (toB_inj5 (ltT_both h1' h)) h2
        have hya : ∀ z ∈ x :: a, ltE y z = true := fun z hz => by
          rcases List.mem_cons.1 hz with rfl | hz
          · exact hyx
          · exact ltT_trans _ _ _ hyx (hax z hz)
        refine ⟨?_, List.pairwise_cons.2 ⟨fun z hz => ?_, p2⟩⟩
        · have e : (x :: a).filter (fun e => !hasA (y :: b) e.Alias) = (x :: a).filter (fun e => !hasA b e.Alias) := List.filter_congr fun z hz => by
            unfold hasA
            rw [List.any_cons, decide_eq_false (ltE_ne (hya z hz)), Bool.false_or]
          rw [e]
          exact List.Perm.cons y p1
        · rcases List.mem_append.1 (p1.mem_iff.1 hz) with hz | hz
          · exact hby z hz
          · exact hya z (List.mem_filter.1 hz).1
theorem sorted_only : ∀ (l m : List api_Entry), l.Perm m → l.Pairwise (fun x y => ltE y x = false) → StrS m → l = m
  | l, [], h, _, _ => h.eq_nil
  | [], y :: m, h, _, _ => by have := h.length_eq; cases this
  | x :: l, y :: m, h, hl, hm => by
    by_cases e : x = y
    · subst e
      rw [sorted_only l m (List.Perm.cons_inv h) (List.pairwise_cons.1 hl).2 (List.pairwise_cons.1 hm).2]
    · have h1 : x ∈ m := by
        rcases List.mem_cons.1 (h.mem_iff.1 (.head _)) with h1 | h1
        · exact absurd h1 e
        · exact h1
      have h2 : y ∈ l := by
        rcases List.mem_cons.1 (h.mem_iff.2 (.head _)) with h2 | h2
        · exact absurd h2.symm e
        · exact h2
      have := (List.pairwise_cons.1 hm).1 x h1
      rw [(List.pairwise_cons.1 hl).1 y h2] at this
      cases this
def finS (l : List api_Entry) : List api_Entry × Int := bif decide (64 < (l.length : Int)) then ([], 3) else (l, 0)
def mergeR (a b : List api_Entry) : List api_Entry × Int := bif !decide (storeS a = 0) || !decide (storeS b = 0) then ([], 16) else finS (mergeS a b)
theorem loop_pathU {S R : Type} {body : S → Option (Lp S R)} (n : Nat) (G : Nat → S) (x : Option R) (h1 : ∀ i, i < n → body (G i) = some (.next (G (i + 1)))) (h2 : body (G n) = up x) : loop body (G 0) = x := by
  have key : ∀ k i, i + k = n → loop body (G i) = x := by
    intro k
    induction k with
    | zero => intro i hi; rw [show i = n by omega]; exact loop_up h2
    | succ k ih => intro i hi; rw [loop_next (h1 i (by omega))]; exact ih (i + 1) (by omega)
  exact key n 0 (by omega)
theorem sl_IndexFunc_e (s : List api_Entry) (f : api_Entry → Option Bool) (p : api_Entry → Bool) (h : Lo s) (hf : ∀ x ∈ s, f x = some (p x)) : g_slices_IndexFunc_api_Entry s f = some (firstS s p) := by
  unfold g_slices_IndexFunc_api_Entry
  refine loop_first s p h (fun i x hx => ?_) ?_
  · show g_slices_IndexFunc_api_Entry.l1 s f (i : Int) = _
    unfold g_slices_IndexFunc_api_Entry.l1
    rw [for_in hx, hf x (at_mem hx), Option.bind_some]
    cases p x <;> rfl
  · show g_slices_IndexFunc_api_Entry.l1 s f (s.length : Int) = _
    unfold g_slices_IndexFunc_api_Entry.l1
    rw [for_out]; rfl
def findE (l : List api_Entry) (s : ByteArray) : api_Entry × Bool := match l.find? (fun x => decide (x.Alias = s)) with
  | some e => (e, true)
  | none => (zE, false)
theorem first_find (l : List api_Entry) (p : api_Entry → Bool) : (l.find? p = none ∧ firstS l p = -1) ∨ ∃ (i : Nat) (e : api_Entry), l[i]? = some e ∧ l.find? p = some e ∧ firstS l p = (i : Int) := by
  unfold firstS
  cases h : l.findIdx? p with
  | none =>
    refine .inl ⟨?_, rfl⟩
    rw [List.find?_eq_none]
    rw [List.findIdx?_eq_none_iff] at h
    intro x hx
    rw [h x hx]; simp
  | some i =>
    obtain ⟨hi, h1, h2⟩ := List.findIdx?_eq_some_iff_getElem.1 h
    refine .inr ⟨i, l[i], List.getElem?_eq_getElem hi, ?_, rfl⟩
    rw [List.find?_eq_some_iff_getElem]
    exact ⟨h1, i, hi, rfl, fun j hj => by have := h2 j hj; simpa using this⟩
theorem ks_Find (l : List api_Entry) (s : ByteArray) (hl : Lo l) (hw : ∀ e ∈ l, FewN e.Chain) : g_keystore_Find l s = some (findE l s) := by
  unfold g_keystore_Find findE
  rw [sl_IndexFunc_e l (fun x0 => g_keystore_Find_c1 x0 s) (fun x => decide (x.Alias = s)) hl (fun x _ => rfl), Option.bind_some]
  rcases first_find l (fun x => decide (x.Alias = s)) with ⟨h1, h2⟩ | ⟨i, e, h1, h2, h3⟩
  · rw [h1, h2]; rfl
  · rw [h2, h3, decide_eq_false (by omega), cond_false, getI_nat, h1, Option.bind_some, ownE (hw e (List.mem_of_getElem? h1))]
    rfl
theorem findE_2 (l : List api_Entry) (s : ByteArray) : (findE l s).2 = hasA l s := by
  unfold findE hasA
  cases h : l.find? (fun x => decide (x.Alias = s)) with
  | none => exact (List.any_eq_false.2 (List.find?_eq_none.1 h)).symm
  | some e => exact (List.any_eq_true.2 ⟨e, List.mem_of_find?_eq_some h, List.find?_some h⟩).symm
theorem cmp_ok5 : CmpOk_api_Entry (fun x0 x1 => g_keystore_Merge_c1 x0 x1) ltE (fun _ => True) := fun x y _ _ => by
  show ∃ n, g_keystore_Merge_c1 x y = some n ∧ decide (n < 0) = ltE x y
  unfold g_keystore_Merge_c1
  show ∃ n, cond (ltE x y) _ _ = some n ∧ _
  cases ltE x y
  · exact ⟨1, rfl, rfl⟩
  · exact ⟨-1, rfl, rfl⟩
theorem ks_Merge (a b : List api_Entry) (hcap : a.length ≤ 64 → b.length ≤ 64 → a.length + b.length ≤ cap_api_Entry) (ha : a.length ≤ 1000000) (hb : b.length ≤ 1000000) (fa : ∀ e ∈ a, FitE e) (fb : ∀ e ∈ b, FitE e) : g_keystore_Merge a b = some (mergeR a b) := by
  have hj1 : g_keystore_Merge.j1 a b true = some ([], 16) := rfl
  unfold g_keystore_Merge mergeR
  rw [ks_Check a ha fa, Option.bind_some, ks_Check b hb fb, Option.bind_some]
  by_cases h1 : storeS a = 0
  · rw [decide_eq_true h1, Bool.not_true, cond_false, Bool.false_or]
    by_cases h2 : storeS b = 0
    · rw [decide_eq_true h2, Bool.not_true, cond_false]
      obtain ⟨la, oa, sa⟩ := store_zero.1 h1
      obtain ⟨lb, ob, sb⟩ := store_zero.1 h2
      obtain ⟨m1, m2⟩ := mergeS_ok _ a b (Nat.le_refl _) sa sb
      have hm : ∀ e ∈ mergeS a b, okE e = true := fun e he => by
        rcases List.mem_append.1 (m1.mem_iff.1 he) with h | h
        · exact ob e h
        · exact oa e (List.mem_filter.1 h).1
      unfold g_keystore_Merge.j1
      have e1 : makC 72 (b.length : Int) (W ((a.length : Int) + (b.length : Int))) (api_Entry.mk (⟨#[]⟩ : ByteArray) (api_Use.mk 0 0) 0 false ([] : (List api_Certificate))) = some (List.replicate b.length zE) := by
        rw [W_id (by omega)]
        unfold makC
        rw [if_pos (by omega)]
        rfl
      have e2 : cpyI (List.replicate b.length zE) b = some b := by
        unfold cpyI
        rw [if_pos (by simp)]
      rw [cond_false, e1, Option.bind_some, e2, Option.bind_some]
      have e0 : ((0 : Int), b) = ((fun i : Nat => ((i : Int), b ++ (a.take i).filter (fun e => !hasA b e.Alias))) 0) := by simp
      rw [e0]
      refine loop_pathU (body := fun q' => g_keystore_Merge.l2 a b q'.1 q'.2) a.length (fun i => ((i : Int), b ++ (a.take i).filter (fun e => !hasA b e.Alias))) (some (finS (mergeS a b))) (fun i hi => ?_) ?_ |>.trans ?_
      · obtain ⟨e, he⟩ : ∃ e, a[i]? = some e := ⟨_, List.getElem?_eq_getElem hi⟩
        have hlen : ((a.take i).filter (fun e => !hasA b e.Alias)).length ≤ 64 := Nat.le_trans (List.length_filter_le _ _) (by rw [List.length_take]; omega)
        show g_keystore_Merge.l2 a b (i : Int) (b ++ (a.take i).filter (fun e => !hasA b e.Alias)) = _
        unfold g_keystore_Merge.l2 g_keystore_Merge.j3
        rw [for_in he, ks_Find b e.Alias (lo_small hb) (fun x hx => few_of (ob x hx)), Option.bind_some, findE_2, take_succ' he, List.filter_append, W_succ (by omega)]
        cases hh : hasA b e.Alias with
        | true =>
          rw [List.filter_cons_of_neg (by rw [hh]; simp), List.filter_nil, List.append_nil]
          rfl
        | false =>
          rw [List.filter_cons_of_pos (by rw [hh]; rfl), List.filter_nil, Bool.not_false, cond_true, appI_ok (by rw [List.length_append, List.length_singleton]; omega), Option.bind_some, List.append_assoc]
      · show g_keystore_Merge.l2 a b (a.length : Int) (b ++ (a.take a.length).filter (fun e => !hasA b e.Alias)) = _
        unfold g_keystore_Merge.l2
        rw [for_out, List.take_length]
        refine congrArg up ?_
        have hlen := m1.length_eq
        have hll : (b ++ a.filter (fun e => !hasA b e.Alias)).length ≤ cap_api_Entry := by
          rw [List.length_append]
          have := List.length_filter_le (fun e => !hasA b e.Alias) a
          have := hcap la lb
          omega
        generalize hl : b ++ a.filter (fun e => !hasA b e.Alias) = l at m1 hlen hll ⊢
        unfold finS
        rw [hlen]
        by_cases h64 : 64 < (l.length : Int)
        · rw [decide_eq_true h64]; rfl
        · rw [decide_eq_false h64, cond_false, cond_false]
          obtain ⟨s, s1, s2, s3⟩ := sortC_api_Entry ltE_swo cmp_ok5 l hll (fun _ _ => trivial)
          rw [s1, Option.bind_some]
          obtain rfl := sorted_only s (mergeS a b) (s2.trans m1.symm) s3 m2
          have hs := s2.length_eq
          refine loop_path (body := fun q' => g_keystore_Merge.l4 (mergeS a b) q'.1 q'.2) (mergeS a b).length (fun i => ((i : Int), (mergeS a b).take i)) _ (fun i hi => ?_) ?_
          · obtain ⟨e, he⟩ : ∃ e, (mergeS a b)[i]? = some e := ⟨_, List.getElem?_eq_getElem hi⟩
            show g_keystore_Merge.l4 (mergeS a b) (i : Int) ((mergeS a b).take i) = _
            unfold g_keystore_Merge.l4
            rw [for_in he, ownE (few_of (hm e (at_mem he))), Option.bind_some, appI_ok (by rw [List.length_take, List.length_singleton]; omega), Option.bind_some, W_succ (by omega), take_succ' he]
          · show g_keystore_Merge.l4 (mergeS a b) ((mergeS a b).length : Int) ((mergeS a b).take (mergeS a b).length) = _
            unfold g_keystore_Merge.l4
            rw [for_out, List.take_length]; rfl
      · rfl
    · rw [decide_eq_false h2, Bool.not_false, hj1]; rfl
  · rw [decide_eq_false h1, Bool.not_false, cond_true, hj1]; rfl
end
section
open Go
theorem fitE_plain {e : api_Entry} (h1 : e.Alias.size ≤ 100) (h2 : e.Chain = []) : FitE e := ⟨by omega, fun c hc => by rw [h2] at hc; cases hc⟩
def awA : List api_Entry := [(api_Entry.mk (⟨#[97]⟩ : ByteArray) (api_Use.mk 5 2048) 0 false ([] : (List api_Certificate))), (api_Entry.mk (⟨#[98]⟩ : ByteArray) (api_Use.mk 5 2048) 1 false ([] : (List api_Certificate)))]
def awB : List api_Entry := [(api_Entry.mk (⟨#[98]⟩ : ByteArray) (api_Use.mk 5 2048) 2 false ([] : (List api_Certificate))), (api_Entry.mk (⟨#[99]⟩ : ByteArray) (api_Use.mk 5 2048) 0 false ([] : (List api_Certificate)))]
def awM : List api_Entry := [(api_Entry.mk (⟨#[97]⟩ : ByteArray) (api_Use.mk 5 2048) 0 false ([] : (List api_Certificate))), (api_Entry.mk (⟨#[98]⟩ : ByteArray) (api_Use.mk 5 2048) 2 false ([] : (List api_Certificate))), (api_Entry.mk (⟨#[99]⟩ : ByteArray) (api_Use.mk 5 2048) 0 false ([] : (List api_Certificate)))]
theorem fit_plain {l : List api_Entry} (h : l.all (fun e => decide (e.Alias.size ≤ 100) && decide (e.Chain = [])) = true) : ∀ e ∈ l, FitE e := fun e he => by
  have := List.all_eq_true.1 h e he
  rw [Bool.and_eq_true] at this
  exact fitE_plain (of_decide_eq_true this.1) (of_decide_eq_true this.2)
theorem awake_law05 : g_law05_awake = some true := by
  have e1 : mergeS awA awB = awM := by
    unfold awA awB
    rw [mergeS, if_pos (by decide +kernel), mergeS, if_neg (by decide +kernel), if_pos (by rfl), mergeS]
    rfl
  have a0 : storeS awA = 0 := by decide +kernel
  have b0 : storeS awB = 0 := by decide +kernel
  have m0 : storeS awM = 0 := by decide +kernel
  have fa : ∀ e ∈ awA, FitE e := fit_plain (by decide +kernel)
  have fb : ∀ e ∈ awB, FitE e := fit_plain (by decide +kernel)
  have fm : ∀ e ∈ awM, FitE e := fit_plain (by decide +kernel)
  have hm : g_keystore_Merge awA awB = some (awM, 0) := by
    rw [ks_Merge awA awB (fun _ _ => by decide) (by decide) (by decide) fa fb]
    unfold mergeR
    rw [a0, b0, e1]
    rfl
  unfold g_law05_awake
  show (g_keystore_Merge awA awB).bind _ = _
  rw [hm, Option.bind_some]
  have hf : g_keystore_Find awM ⟨#[98]⟩ = some (findE awM ⟨#[98]⟩) := ks_Find awM _ (lo_small (by decide)) (fun e he => few_of ((store_zero.1 m0).2.1 e he))
  simp only []
  rw [hf, Option.bind_some, ks_Check awM (by decide) fm, m0]
  rfl
end
section
open Go
theorem chain_ok5 {d : cipherplanmake_Dice} (h : DOK d) {name : ByteArray} {key : api_Use} {id : Int} (hs : nameS name = true) (hs31 : name.size ≤ 31) (hk : KeyU key) (hid : 0 ≤ id ∧ id ≤ 2147483648) :
    Ok (g_make_Chain d name key id) (fun y => (y.1.length ≤ 3 ∧ (∀ c ∈ y.1, certS c = true ∧ FitC c) ∧ headS key id y.1 = true) ∧ DOK y.2) := by
  unfold g_make_Chain
  refine Ok.bind (of_ok h _ (by decide) (by decide)) fun y1 h1 => ?_
  have hy1 : 0 ≤ y1.1 ∧ y1.1 ≤ 2 := by
    have := h1.1
    simp only [List.mem_cons, List.not_mem_nil, or_false] at this
    omega
  refine Ok.bind (next_ok h1.2 2 (by omega) (by omega)) fun y2 h2 => ?_
  have hy2 := h2.1
  refine Ok.loop (fun s => (0 ≤ s.1 ∧ s.1 ≤ 100) ∧ nameS s.2.1 = true ∧ 0 ≤ s.2.2.1 ∧ s.2.2.1 ≤ y1.1 ∧ DOK s.2.2.2.1 ∧ (s.2.2.2.2.length : Int) = s.2.2.1 ∧ ∀ c ∈ s.2.2.2.2, certS c = true ∧ FitC c) (fun s => (y1.1 - s.2.2.1).toNat) (fun s hs' => ?_) ⟨by rw [W_id (by omega)]; constructor <;> omega, by show nameS ⟨#[114, 111, 111, 116]⟩ = true; decide +kernel, Int.le_refl _, hy1.1, h2.2, rfl, fun c hc => by cases hc⟩
  obtain ⟨signer, issuer, i, d1, above⟩ := s
  obtain ⟨a1, a2, a3, a4, a5, a6, a7⟩ := hs'
  dsimp only at a1 a2 a3 a4 a5 a6 a7
  show Ok (g_make_Chain.l1 name key id y1 signer issuer i d1 above) _
  unfold g_make_Chain.l1
  refine Ok.cond (fun hb => ?_) fun hb => ?_
  · have hb := of_decide_eq_true hb
    refine Ok.bind (getI_mem (by omega) (by show i < (3 : Int); omega)) fun e he => ?_
    have hes : nameS e = true ∧ e.size ≤ 31 := by
      simp only [List.mem_cons, List.not_mem_nil, or_false] at he
      rcases he with rfl | rfl | rfl <;> exact ⟨by decide +kernel, by decide⟩
    have e11 : W (11 + i) = 11 + i := W_id (by omega)
    refine Ok.bind (cert_ok3 a5 true a2 hes.1 hes.2 ⟨⟨⟨by decide, by decide⟩, ⟨by decide, by decide⟩⟩, by decide +kernel⟩ (by rw [e11]; omega) (by omega)) fun y3 h3 => ?_
    refine Ok.bind (appI_ok' (by simp; omega)) fun l hl => ?_
    subst hl
    rw [W_id (x := i + 1) (by omega), e11]
    clear e11
    refine Ok.ret ⟨⟨⟨by show 0 ≤ 11 + i; omega, by show 11 + i ≤ 100; omega⟩, hes.1, ?_, ?_, h3.2, ?_, ?_⟩, ?_⟩
    · show 0 ≤ i + 1; omega
    · show i + 1 ≤ y1.1; omega
    · show ((y3.1 :: above).length : Int) = i + 1
      rw [List.length_cons]; omega
    · intro c hc
      rcases List.mem_cons.1 hc with rfl | hc
      · exact ⟨h3.1.ok, h3.1.fit⟩
      · exact a7 c hc
    · show (y1.1 - (i + 1)).toNat < (y1.1 - i).toNat; omega
  · have hb := of_decide_eq_false hb
    refine Ok.up ?_
    refine Ok.bind (cert_ok3 a5 false a2 hs hs31 hk hid (by omega)) fun y4 h4 => ?_
    refine Ok.bind (appI_ok' (by simp; omega)) fun l hl => ?_
    subst hl
    refine Ok.ret ⟨⟨?_, ?_, ?_⟩, h4.2⟩
    · show ([y4.1] ++ above).length ≤ 3
      rw [List.length_append, List.length_singleton]; omega
    · intro c hc
      rcases List.mem_cons.1 hc with rfl | hc
      · exact ⟨h4.1.ok, h4.1.fit⟩
      · exact a7 c hc
    · show (decide (y4.1.Key = key) && decide (y4.1.KeyId = id)) = true
      rw [h4.1.key_, h4.1.id_, decide_eq_true rfl, decide_eq_true rfl]; rfl
theorem shows_of {key : api_Use} {id : Int} {l : List api_Certificate} (hk : useS key 2 = true) (hid : 0 ≤ id ∧ id ≤ 2147483648) (hl : l.length ≤ 8) (hc : ∀ c ∈ l, certS c = true) (hh : headS key id l = true) : showsS key id l = true := by
  unfold showsS keyB
  have h1 : (l.any fun c => !certS c) = false := List.any_eq_false.2 fun c h => by rw [hc c h]; simp
  rw [hk, decide_eq_false (show ¬ id < 0 by omega), decide_eq_false (show ¬ 2147483648 < id by omega), decide_eq_false (show ¬ 8 < (l.length : Int) by omega), h1, hh]
  rfl
def FullE (e : api_Entry) : Prop := (I64 e.Key.Alg ∧ I64 e.Key.Bits ∧ I64 e.KeyId) ∧ ∀ c ∈ e.Chain, FitC c
theorem entry_ok {d : cipherplanmake_Dice} (h : DOK d) {alias name : ByteArray} {id : Int} (ha : nameS alias = true) (hs : nameS name = true) (hs31 : name.size ≤ 31) (hid : 0 ≤ id ∧ id ≤ 2147483648) :
    Ok (g_make_Entry d alias name id) (fun y => (y.1.Alias = alias ∧ okE y.1 = true ∧ FullE y.1) ∧ DOK y.2) := by
  unfold g_make_Entry
  refine Ok.bind (key_ok3 h) fun y1 h1 => ?_
  refine Ok.bind (one_ok h1.2 2 (by omega) (by omega)) fun y2 h2 => ?_
  refine Ok.bind (one_ok h2 5 (by omega) (by omega)) fun y3 h3 => ?_
  refine Ok.cond (fun _ => ?_) fun _ => ?_
  · refine Ok.bind (chain_ok5 h3 hs hs31 h1.1 hid) fun y4 h4 => ?_
    refine Ok.ret ⟨⟨rfl, ?_, ⟨h1.1.1.1.i64, h1.1.1.2.i64, show I64 id by unfold I64; omega⟩, fun c hc => (h4.1.2.1 c hc).2⟩, h4.2⟩
    show (nameS alias && showsS y1.1 id y4.1) = true
    rw [ha, shows_of h1.1.2 hid (by have := h4.1.1; omega) (fun c hc => (h4.1.2.1 c hc).1) h4.1.2.2]
    rfl
  · refine Ok.ret ⟨⟨rfl, ?_, ⟨h1.1.1.1.i64, h1.1.1.2.i64, show I64 id by unfold I64; omega⟩, fun c hc => by cases hc⟩, h3⟩
    show (nameS alias && showsS y1.1 id []) = true
    rw [ha, shows_of h1.1.2 hid (Nat.zero_le _) (fun c hc => by cases hc) rfl]
    rfl
def k4 : List ByteArray := [(⟨#[107, 49]⟩ : ByteArray), (⟨#[107, 50]⟩ : ByteArray), (⟨#[107, 51]⟩ : ByteArray), (⟨#[107, 52]⟩ : ByteArray)]
def MadeS (l : List api_Entry) : Prop := l.length ≤ 4 ∧ ∀ (j : Nat) (e : api_Entry), l[j]? = some e → k4[j]? = some e.Alias ∧ okE e = true ∧ FullE e
theorem store_ok {d : cipherplanmake_Dice} (h : DOK d) {name : ByteArray} (hs : nameS name = true) (hs31 : name.size ≤ 31) : Ok (g_make_Store d name) (fun y => (1 ≤ y.1.length ∧ MadeS y.1) ∧ DOK y.2) := by
  unfold g_make_Store
  refine Ok.bind (next_ok h 4 (by omega) (by omega)) fun y1 h1 => ?_
  have hy1 := h1.1
  rw [W_id (by omega)]
  refine Ok.loop (fun s => 0 ≤ s.1 ∧ s.1 + s.2.2.length = 1 + y1.1 ∧ DOK s.2.1 ∧ MadeS s.2.2) (fun s => s.1.toNat) (fun s hs' => ?_) ⟨by show 0 ≤ 1 + y1.1; omega, by show 1 + y1.1 + ((([] : List api_Entry).length : Nat) : Int) = 1 + y1.1; simp, h1.2, ⟨Nat.zero_le _, fun j e he => by cases he⟩⟩
  obtain ⟨i, d1, l⟩ := s
  obtain ⟨a1, a2, a3, a4⟩ := hs'
  dsimp only at a1 a2 a3 a4
  show Ok (g_make_Store.l1 name i d1 l) _
  unfold g_make_Store.l1
  refine Ok.cond (fun hb => ?_) fun hb => ?_
  · have hb := of_decide_eq_true hb
    obtain ⟨e, he⟩ : ∃ e, k4[l.length]? = some e := ⟨_, List.getElem?_eq_getElem (show l.length < 4 by omega)⟩
    refine Ok.bindE (a := e) (by rw [getI_nat]; exact he) ?_
    have hes : nameS e = true := by
      have := List.mem_of_getElem? he
      unfold k4 at this
      simp only [List.mem_cons, List.not_mem_nil, or_false] at this
      rcases this with rfl | rfl | rfl | rfl <;> decide +kernel
    refine Ok.bind (next_ok a3 3 (by omega) (by omega)) fun y2 h2 => ?_
    have hy2 := h2.1
    rw [W_id (x := y2.1 * 10) (by omega), W_id (x := 100 + (l.length : Int)) (by omega), W_id (by omega)]
    refine Ok.bind (entry_ok h2.2 hes hs hs31 (by omega)) fun y3 h3 => ?_
    refine Ok.bind (appI_ok' (by rw [List.length_singleton]; omega)) fun l' hl' => ?_
    subst hl'
    rw [W_id (by omega)]
    refine Ok.ret ⟨⟨by show 0 ≤ i - 1; omega, ?_, h3.2, ?_⟩, ?_⟩
    · show i - 1 + ((l ++ [y3.1]).length : Int) = 1 + y1.1
      rw [List.length_append, List.length_singleton]; omega
    · refine ⟨by show (l ++ [y3.1]).length ≤ 4; rw [List.length_append, List.length_singleton]; omega, fun j x hx => ?_⟩
      have hx : (l ++ [y3.1])[j]? = some x := hx
      rw [List.getElem?_append] at hx
      split at hx
      · exact a4.2 j x hx
      · rename_i hj
        have hj0 : j - l.length = 0 := by
          have := at_lt hx
          rw [List.length_singleton] at this
          omega
        rw [hj0] at hx
        injection hx with hx
        subst hx
        rw [show j = l.length by omega, he, h3.1.1]
        exact ⟨rfl, h3.1.2⟩
    · show (i - 1).toNat < i.toNat; omega
  · have hb := of_decide_eq_false hb
    exact Ok.up (Ok.ret ⟨⟨by show 1 ≤ l.length; omega, a4⟩, a3⟩)
theorem k4_lt : ∀ i : _root_.Fin 4, ∀ j : _root_.Fin 4, i < j → ltT (toB k4[i]!) (toB k4[j]!) = true := by decide +kernel
theorem k4_at {l : List api_Entry} (h : MadeS l) {i : Nat} {e : api_Entry} (he : l[i]? = some e) : k4[i]! = e.Alias := by
  have h1 := (h.2 i e he).1
  rw [List.getElem!_eq_getElem?_getD, h1]; rfl
theorem made_strict {l : List api_Entry} (h : MadeS l) : StrS l := by
  rw [StrS, List.pairwise_iff_getElem]
  intro i j hi hj hij
  have := k4_lt ⟨i, by have := h.1; omega⟩ ⟨j, by have := h.1; omega⟩ hij
  unfold ltE
  rw [← k4_at h (List.getElem?_eq_getElem hi), ← k4_at h (List.getElem?_eq_getElem hj)]
  exact this
structure GoodS (n : Nat) (l : List api_Entry) : Prop where
  len : l.length ≤ n
  ok : ∀ e ∈ l, okE e = true
  str : StrS l
theorem GoodS.zero {n : Nat} {l : List api_Entry} (h : GoodS n l) (hn : n ≤ 64) : storeS l = 0 := store_zero.2 ⟨by have := h.len; omega, h.ok, h.str⟩
theorem GoodS.few {n : Nat} {l : List api_Entry} (h : GoodS n l) : ∀ e ∈ l, FewN e.Chain := fun e he => few_of (h.ok e he)
theorem made_good {l : List api_Entry} (h : MadeS l) : GoodS 4 l := ⟨h.1, fun e he => by
  obtain ⟨i, hi⟩ := List.mem_iff_getElem?.1 he
  exact (h.2 i e hi).2.1, made_strict h⟩
theorem GoodS.drop {n : Nat} {l : List api_Entry} (h : GoodS n l) (k : Nat) : GoodS n (l.drop k) := ⟨by rw [List.length_drop]; have := h.len; omega, fun e he => h.ok e (List.mem_of_mem_drop he), h.str.sublist (List.drop_sublist k l)⟩
theorem fitE_ok {e : api_Entry} (h : okE e = true) : FitE e := by
  have hf := few_of h
  unfold okE at h
  rw [Bool.and_eq_true] at h
  refine ⟨by have := nameS_size h.1; omega, fun c hc => ?_⟩
  have h2 := h.2
  unfold showsS at h2
  simp only [Bool.and_eq_true, Bool.not_eq_true'] at h2
  obtain ⟨_, _, _, h3, _⟩ := h2
  have hcs : certS c = true := by
    cases hb : certS c with
    | true => rfl
    | false =>
      have : (e.Chain.any fun c => !certS c) = true := List.any_eq_true.2 ⟨c, hc, by rw [hb]; rfl⟩
      rw [this] at h3; cases h3
  obtain ⟨v1, v2, v3, v4⟩ := valid_sizes hcs
  exact ⟨by omega, fun s hs => by have := v4 s hs; omega, by omega, by omega⟩
theorem GoodS.fit {n : Nat} {l : List api_Entry} (h : GoodS n l) : ∀ e ∈ l, FitE e := fun e he => fitE_ok (h.ok e he)
theorem find_good {n : Nat} {l : List api_Entry} (h : GoodS n l) {e : api_Entry} (he : e ∈ l) : findE l e.Alias = (e, true) := by
  unfold findE
  cases hf : l.find? (fun x => decide (x.Alias = e.Alias)) with
  | none => exact absurd (decide_eq_true rfl) (List.find?_eq_none.1 hf e he)
  | some f =>
    have h1 := List.mem_of_find?_eq_some hf
    have h2 : decide (f.Alias = e.Alias) = true := List.find?_some (p := fun x : api_Entry => decide (x.Alias = e.Alias)) hf
    replace h2 := of_decide_eq_true h2
    have : f = e := by
      obtain ⟨i, hi, rfl⟩ := List.mem_iff_getElem.1 h1
      obtain ⟨j, hj, rfl⟩ := List.mem_iff_getElem.1 he
      have hp := List.pairwise_iff_getElem.1 h.str
      rcases Nat.lt_trichotomy i j with hl | hl | hl
      · exact absurd h2 (ltE_ne (hp i j hi hj hl))
      · subst hl; rfl
      · exact absurd h2.symm (ltE_ne (hp j i hj hi hl))
    rw [this]
theorem awakeOk5 : Ok (g_law05_awake.bind fun y => some y) (fun r => r = true) := Ok.bindE awake_law05 (Ok.ret rfl)
end
section
open Go
def entryL (e : api_Entry) : List api_Value := [textV e.Alias, useV e.Key, intV e.KeyId, boolV e.Secret, listV (e.Chain.map elemV)]
def entryV (e : api_Entry) : api_Value := listV (entryL e)
def storeV (l : List api_Entry) : api_Value := listV (l.map entryV)
theorem int_sz9 (n : Int) : (intV n).sz ≤ 18 := by
  have := use_sz ⟨n, n⟩
  unfold useV at this
  rw [list_sz] at this
  simp only [szs] at this
  omega
theorem elem_sz {c : api_Certificate} (h : certS c = true) : (elemV c).sz ≤ 1024 := by
  have hb := body_sz h
  have hs := seal_sz c.Seal
  unfold elemV
  rw [list_sz]
  have hB : (bodyV c).sz = szs (bodyL c) + 1 := list_sz _
  simp only [szs]; omega
theorem elems_sz : ∀ l : List api_Certificate, (∀ c ∈ l, certS c = true) → szs (l.map elemV) ≤ 1024 * l.length
  | [], _ => Nat.le_refl _
  | c :: l, h => by
    have h1 := elem_sz (h c (.head _))
    have h2 := elems_sz l fun c hc => h c (.tail _ hc)
    rw [List.map_cons, szs, List.length_cons]; omega
theorem shows_all {key : api_Use} {id : Int} {l : List api_Certificate} (h : showsS key id l = true) : l.length ≤ 8 ∧ ∀ c ∈ l, certS c = true := by
  unfold showsS at h
  simp only [Bool.and_eq_true, Bool.not_eq_true', decide_eq_false_iff_not] at h
  obtain ⟨_, _, h1, h3, _⟩ := h
  refine ⟨by omega, fun c hc => ?_⟩
  cases hb : certS c with
  | true => rfl
  | false =>
    have : (l.any fun c => !certS c) = true := List.any_eq_true.2 ⟨c, hc, by rw [hb]; rfl⟩
    rw [this] at h3; cases h3
theorem okE_parts {e : api_Entry} (h : okE e = true) : nameS e.Alias = true ∧ e.Chain.length ≤ 8 ∧ (∀ c ∈ e.Chain, certS c = true) := by
  unfold okE at h
  rw [Bool.and_eq_true] at h
  obtain ⟨h1, h2⟩ := shows_all h.2
  exact ⟨h.1, h1, h2⟩
theorem entry_sz {e : api_Entry} (h : okE e = true) : szs (entryL e) ≤ 9000 := by
  obtain ⟨h1, h2, h3⟩ := okE_parts h
  have a := nameS_size h1
  have b := text_sz e.Alias
  have c := use_sz e.Key
  have d := int_sz9 e.KeyId
  have f := elems_sz e.Chain h3
  have g : (boolV e.Secret).sz ≤ 10 := by cases e.Secret <;> decide
  unfold entryL
  simp only [szs, list_sz]
  omega
theorem entries_sz : ∀ l : List api_Entry, (∀ e ∈ l, okE e = true) → szs (l.map entryV) ≤ 9001 * l.length
  | [], _ => Nat.le_refl _
  | e :: l, h => by
    have h1 := entry_sz (h e (.head _))
    have h2 := entries_sz l fun c hc => h c (.tail _ hc)
    have h3 : (entryV e).sz = szs (entryL e) + 1 := list_sz _
    rw [List.map_cons, szs, List.length_cons]; omega
theorem cat_Elem {c : api_Certificate} (hc : certS c = true) : g_certificate_Element c = some (elemV c) := by
  have hb := body_sz hc
  have he := elem_szs (c := c) (by omega)
  have hs := seal_sz c.Seal
  unfold sealV at hs
  rw [list_sz] at hs
  unfold g_certificate_Element
  rw [cat_body c hc, Option.bind_some, der_Int, Option.bind_some, der_Int, Option.bind_some, der_Of _ (by omega), Option.bind_some]
  have e : g_der_Of [bodyV c, api_Value.mk 48 [] true [intV c.Seal.Key, intV c.Seal.Sum]] = some (elemV c) := der_Of [bodyV c, sealV c.Seal] (by omega)
  rw [e, Option.bind_some]
theorem ks_element {e : api_Entry} (h : okE e = true) : g_keystore_element e = some (entryV e) := by
  obtain ⟨h1, h2, h3⟩ := okE_parts h
  have hz := entry_sz h
  have hch : szs (e.Chain.map elemV) < 1073741824 := by have := elems_sz e.Chain h3; omega
  unfold g_keystore_element
  refine loop_path (body := fun q' => g_keystore_element.l1 e q'.1 q'.2) e.Chain.length (fun i => ((i : Int), (e.Chain.take i).map elemV)) _ (fun i hi => ?_) ?_
  · obtain ⟨c, hc⟩ : ∃ c, e.Chain[i]? = some c := ⟨_, List.getElem?_eq_getElem hi⟩
    show g_keystore_element.l1 e (i : Int) ((e.Chain.take i).map elemV) = _
    unfold g_keystore_element.l1
    rw [for_in hc, cat_Elem (h3 c (at_mem hc)), Option.bind_some, appI_ok (by rw [List.length_map, List.length_take, List.length_singleton]; omega), Option.bind_some, W_succ (by omega), take_succ' hc, List.map_append]
    rfl
  · show g_keystore_element.l1 e (e.Chain.length : Int) ((e.Chain.take e.Chain.length).map elemV) = _
    unfold g_keystore_element.l1
    rw [for_out, List.take_length, show g_der_Text e.Alias = some (textV e.Alias) from rfl, Option.bind_some, cat_Use, Option.bind_some, der_Int, Option.bind_some, der_Bool, Option.bind_some, der_List _ hch, Option.bind_some]
    have e1 : g_der_Of [textV e.Alias, useV e.Key, intV e.KeyId, boolV e.Secret, listV (e.Chain.map elemV)] = some (entryV e) := der_Of (entryL e) (by omega)
    exact (congrArg (fun o => up (Option.bind o fun y_11 => some y_11)) e1).trans rfl
def encK (l : List api_Entry) : List UInt8 × Int := encS (storeV l)
theorem ks_Encode {n : Nat} {l : List api_Entry} (h : GoodS n l) (hn : n ≤ 64) : g_keystore_Encode l = some (encK l) := by
  have hl := h.len
  have hz := entries_sz l h.ok
  unfold g_keystore_Encode
  rw [ks_Check l (by omega) h.fit, Option.bind_some, h.zero hn, decide_eq_true rfl, Bool.not_true, cond_false]
  refine loop_path (body := fun q' => g_keystore_Encode.l1 l q'.1 q'.2) l.length (fun i => ((i : Int), (l.take i).map entryV)) _ (fun i hi => ?_) ?_
  · obtain ⟨c, hc⟩ : ∃ c, l[i]? = some c := ⟨_, List.getElem?_eq_getElem hi⟩
    show g_keystore_Encode.l1 l (i : Int) ((l.take i).map entryV) = _
    unfold g_keystore_Encode.l1
    rw [for_in hc, ks_element (h.ok c (at_mem hc)), Option.bind_some, appI_ok (by rw [List.length_map, List.length_take, List.length_singleton]; omega), Option.bind_some, W_succ (by omega), take_succ' hc, List.map_append]
    rfl
  · show g_keystore_Encode.l1 l (l.length : Int) ((l.take l.length).map entryV) = _
    unfold g_keystore_Encode.l1
    rw [for_out, List.take_length, der_List _ (by omega), Option.bind_some]
    have e1 : g_der_Encode (api_Value.mk 48 [] true (l.map entryV)) = some (encK l) := der_Encode (storeV l) (by unfold storeV; rw [list_sz]; omega)
    rw [e1]
    rfl
theorem elem_formed (c : api_Certificate) : (elemV c).formed = true := by
  have h0 : (sealV c.Seal).formed = true := by
    unfold sealV
    rw [list_formed]
    simp only [formedAll, int_formed, Bool.and_self]
  unfold elemV
  rw [list_formed]
  simp only [formedAll, body_formed, h0, Bool.and_self]
theorem elems_formed : ∀ l : List api_Certificate, formedAll (l.map elemV) = true
  | [] => rfl
  | c :: l => by rw [List.map_cons]; simp only [formedAll, elem_formed, elems_formed l, Bool.and_self]
theorem entry_formed (e : api_Entry) : formedAll (entryL e) = true := by
  unfold entryL
  simp only [formedAll, text_formed, use_formed, int_formed, bool_formed, list_formed, elems_formed, Bool.and_self]
theorem entries_formed : ∀ l : List api_Entry, formedAll (l.map entryV) = true
  | [] => rfl
  | e :: l => by
    rw [List.map_cons]
    have : (entryV e).formed = true := by unfold entryV; rw [list_formed]; exact entry_formed e
    simp only [formedAll, this, entries_formed l, Bool.and_self]
theorem ks_entry {e : api_Entry} (h : okE e = true) (hi : I64 e.Key.Alg ∧ I64 e.Key.Bits ∧ I64 e.KeyId) (hf : ∀ c ∈ e.Chain, FitC c) : g_keystore_entry (entryV e) = some (e, true) := by
  obtain ⟨h1, h2, h3⟩ := okE_parts h
  have hz := entry_sz h
  have hsz : (entryV e).sz < 1073741824 := by unfold entryV; rw [list_sz]; omega
  have hch : (listV (e.Chain.map elemV)).sz < 1073741824 := by have := elems_sz e.Chain h3; rw [list_sz]; omega
  refine (?_ : Ok (g_keystore_entry (entryV e)) (fun y => y = (e, true))) |> fun ⟨a, h1, h2⟩ => h1.trans (congrArg some h2)
  unfold g_keystore_entry
  refine Ok.bind (p_Read (entryV e) 5 hsz) fun y hy => ?_
  have hL : listN 5 (entryV e) = some ((), entryL e) := by
    unfold listN entryV
    rw [asList_list (entry_formed e)]
    rfl
  rw [hL] at hy
  refine Ok.bind (p_Text y _ _ hy) fun y2 k2 => ?_
  refine Ok.bind (p_Use y2.2 _ _ k2) fun y3 k3 => ?_
  refine Ok.bind (p_Int y3.2 _ _ k3) fun y4 k4 => ?_
  refine Ok.bind (p_Bool y4.2 _ _ k4) fun y5 k5 => ?_
  refine Ok.bind (p_List y5.2 _ _ k5) fun y6 k6 => ?_
  unfold entryL at k6
  rw [seqP_cons, asText_text (name_chars h1), Option.map_some, seqP_cons, use_use hi.1 hi.2.1, Option.map_some, seqP_cons, asInt_int hi.2.2, Option.map_some, seqP_cons, asBool_bool, Option.map_some, seqP_cons, asList_list (elems_formed _), Option.map_some] at k6
  obtain ⟨-, ⟨k, -⟩ | ⟨t, k, kr⟩⟩ := k6
  · cases k
  simp only [Option.some.injEq, Prod.mk.injEq] at k
  obtain ⟨⟨⟨⟨⟨⟨-, e2⟩, e3⟩, e4⟩, e5⟩, e6⟩, -⟩ := k
  have hfail : y6.2.Failed = false := by rw [kr]
  refine Ok.of (a := (e, true)) ?_ rfl
  refine loop_path (body := fun q' => g_keystore_entry.l1 y2 y3 y4 y5 y6 q'.1 q'.2) e.Chain.length (fun i => ((i : Int), e.Chain.take i)) _ (fun i hi => ?_) ?_
  · obtain ⟨c, hc⟩ : ∃ c, e.Chain[i]? = some c := ⟨_, List.getElem?_eq_getElem hi⟩
    have hv : y6.1[i]? = some (elemV c) := by rw [← e6, List.getElem?_map, hc]; rfl
    have hcs := h3 c (at_mem hc)
    have hp := cert_Parse (elemV c) (by have := elem_sz hcs; omega)
    rw [parse_elem (hf c (at_mem hc)) hcs] at hp
    show g_keystore_entry.l1 y2 y3 y4 y5 y6 (i : Int) (e.Chain.take i) = _
    unfold g_keystore_entry.l1
    rw [for_in hv, hp, Option.bind_some]
    simp only [Bool.not_true, cond_false]
    rw [appI_ok (by rw [List.length_take, List.length_singleton]; omega), Option.bind_some, W_succ (by omega), take_succ' hc]
  · have hlen : e.Chain.length = y6.1.length := by rw [← e6, List.length_map]
    show g_keystore_entry.l1 y2 y3 y4 y5 y6 (e.Chain.length : Int) (e.Chain.take e.Chain.length) = _
    unfold g_keystore_entry.l1
    rw [hlen, for_out, ← hlen, List.take_length, ← e2, ← e3, ← e4, ← e5, hfail]
    rfl
def FullS (l : List api_Entry) : Prop := ∀ e ∈ l, FullE e
theorem store_formed (l : List api_Entry) : (storeV l).formed = true := by unfold storeV; rw [list_formed]; exact entries_formed l
theorem encK_or (l : List api_Entry) : encK l = ([], 3) ∨ (encK l = ((storeV l).put, 0) ∧ (storeV l).depth ≤ 16 ∧ (storeV l).put.length ≤ 4096) := by
  unfold encK encS
  rw [if_pos (store_formed l)]
  split
  · exact .inl rfl
  · split
    · exact .inl rfl
    · exact .inr ⟨rfl, by omega, by omega⟩
theorem ks_Decode {n : Nat} {l : List api_Entry} (h : GoodS n l) (hn : n ≤ 64) (hf : FullS l) (hd : (storeV l).depth ≤ 16) (hp : (storeV l).put.length ≤ 4096) : g_keystore_Decode (storeV l).put = some (l, 0) := by
  have hl := h.len
  have hz := entries_sz l h.ok
  unfold g_keystore_Decode
  rw [der_Decode, Option.bind_some, decS_put (store_formed l) hp hd]
  simp only [decide_true, Bool.not_true, cond_false]
  rw [der_AsList _ (by unfold storeV; rw [list_sz]; omega), Option.bind_some]
  have hL : asListS (storeV l) = some (l.map entryV) := asList_list (entries_formed l)
  rw [hL]
  have hO : ores ([] : List api_Value) (some (l.map entryV)) = (l.map entryV, 0) := rfl
  rw [hO]
  simp only [decide_true, Bool.not_true, cond_false]
  refine loop_path (body := fun q' => g_keystore_Decode.l1 (l.map entryV, 0) q'.1 q'.2) l.length (fun i => ((i : Int), l.take i)) _ (fun i hi => ?_) ?_
  · obtain ⟨e, he⟩ : ∃ e, l[i]? = some e := ⟨_, List.getElem?_eq_getElem hi⟩
    have hv : (l.map entryV)[i]? = some (entryV e) := by rw [List.getElem?_map, he]; rfl
    show g_keystore_Decode.l1 (l.map entryV, 0) (i : Int) (l.take i) = _
    unfold g_keystore_Decode.l1
    simp only []
    rw [for_in hv, ks_entry (h.ok e (at_mem he)) (hf e (at_mem he)).1 (hf e (at_mem he)).2, Option.bind_some]
    simp only [Bool.not_true, cond_false]
    rw [appI_ok (by rw [List.length_take, List.length_singleton]; omega), Option.bind_some, W_succ (by omega), take_succ' he]
  · show g_keystore_Decode.l1 (l.map entryV, 0) (l.length : Int) (l.take l.length) = _
    unfold g_keystore_Decode.l1
    have hlen : l.length = (l.map entryV).length := by rw [List.length_map]
    simp only []
    rw [hlen, for_out, ← hlen, List.take_length, ks_Check l (by omega) h.fit, Option.bind_some, h.zero hn]
    rfl
theorem ks_Decode0 : g_keystore_Decode [] = some ([], 1) := by
  unfold g_keystore_Decode
  rw [der_Decode, Option.bind_some]
  rfl
theorem same_cc {e : api_Entry} (h : FewN e.Chain) : g_keystore_Same_c1 e e = some true := by
  have hlo := h.1
  unfold g_keystore_Same_c1
  rw [decide_eq_true rfl, decide_eq_true rfl, decide_eq_true rfl, decide_eq_true rfl, cond_true, cond_true, cond_true, cond_true]
  have : g_slices_EqualFunc_api_Certificate e.Chain e.Chain (fun x0 x1 => g_certificate_Same x0 x1) = some true := by
    unfold g_slices_EqualFunc_api_Certificate
    rw [decide_eq_true rfl, Bool.not_true, cond_false]
    refine loop_path (body := fun q' => g_slices_EqualFunc_api_Certificate.l1 e.Chain e.Chain (fun x0 x1 => g_certificate_Same x0 x1) q') e.Chain.length (fun i => (i : Int)) true (fun i hi => ?_) ?_
    · obtain ⟨c, hc⟩ : ∃ c, e.Chain[i]? = some c := ⟨_, List.getElem?_eq_getElem hi⟩
      have hn := h.2 c (at_mem hc)
      show g_slices_EqualFunc_api_Certificate.l1 e.Chain e.Chain (fun x0 x1 => g_certificate_Same x0 x1) (i : Int) = _
      unfold g_slices_EqualFunc_api_Certificate.l1
      rw [for_in hc, getI_nat, hc, Option.bind_some]
      show ((g_certificate_Same c c).bind _) = _
      rw [cat_Same c c (lo_small (by omega)), decide_eq_true rfl, Option.bind_some, W_succ (by omega)]
      rfl
    · show g_slices_EqualFunc_api_Certificate.l1 e.Chain e.Chain (fun x0 x1 => g_certificate_Same x0 x1) (e.Chain.length : Int) = _
      unfold g_slices_EqualFunc_api_Certificate.l1
      rw [for_out]; rfl
  rw [this]
  rfl
theorem ks_Same {l : List api_Entry} (hl : l.length ≤ 1000000) (h : ∀ e ∈ l, FewN e.Chain) : g_keystore_Same l l = some true := by
  unfold g_keystore_Same
  have : g_slices_EqualFunc_api_Entry l l (fun x0 x1 => g_keystore_Same_c1 x0 x1) = some true := by
    unfold g_slices_EqualFunc_api_Entry
    rw [decide_eq_true rfl, Bool.not_true, cond_false]
    refine loop_path (body := fun q' => g_slices_EqualFunc_api_Entry.l1 l l (fun x0 x1 => g_keystore_Same_c1 x0 x1) q') l.length (fun i => (i : Int)) true (fun i hi => ?_) ?_
    · obtain ⟨c, hc⟩ : ∃ c, l[i]? = some c := ⟨_, List.getElem?_eq_getElem hi⟩
      show g_slices_EqualFunc_api_Entry.l1 l l (fun x0 x1 => g_keystore_Same_c1 x0 x1) (i : Int) = _
      unfold g_slices_EqualFunc_api_Entry.l1
      rw [for_in hc, getI_nat, hc, Option.bind_some]
      show ((g_keystore_Same_c1 c c).bind _) = _
      rw [same_cc (h c (at_mem hc)), Option.bind_some, W_succ (by omega)]
      rfl
    · show g_slices_EqualFunc_api_Entry.l1 l l (fun x0 x1 => g_keystore_Same_c1 x0 x1) (l.length : Int) = _
      unfold g_slices_EqualFunc_api_Entry.l1
      rw [for_out]; rfl
  rw [this]
  rfl
theorem law_KeystoreBack (x0 : (List Int)) (hok : okVs [.sl 1 (encL eI x0)]) : g_law05_KeystoreBack x0 = some true := by
  refine Ok.true_ ?_
  unfold g_law05_KeystoreBack g_make_Light
  rw [Option.bind_some]
  refine Ok.cond (fun _ => awakeOk5) fun hb => ?_
  have hl : x0.length ≤ 400 := by
    have := of_decide_eq_true (by simpa using hb)
    omega
  refine Ok.bind (roll_ok hl) fun d hd => ?_
  refine Ok.bind (store_ok hd (by decide +kernel) (by decide)) fun y4 h4 => ?_
  have g := made_good h4.1.2
  have hfull : FullS y4.1 := fun e he => by
    obtain ⟨i, hi⟩ := List.mem_iff_getElem?.1 he
    exact (h4.1.2.2 i e hi).2.2
  obtain ⟨x, dd⟩ := y4
  have g : GoodS 4 x := g
  have hfull : FullS x := hfull
  have hx := g.len
  refine Ok.bindE (ks_Encode g (by omega)) ?_
  rcases encK_or x with he | ⟨he, h1, h2⟩
  · rw [he]
    refine Ok.bindE ks_Decode0 ?_
    exact Ok.cond (fun _ => awakeOk5) fun h => by cases h
  · rw [he]
    refine Ok.bindE (ks_Decode g (by omega) hfull h1 h2) ?_
    refine Ok.cond (fun h => by cases h) fun _ => ?_
    refine Ok.of ?_ rfl
    refine (loop_has x (fun _ => false) false true (lo_small (by omega)) (fun i e hi => ?_) ?_).trans ?_
    · show g_law05_KeystoreBack.l2 _ _ _ (i : Int) = _
      unfold g_law05_KeystoreBack.l2
      simp only []
      rw [for_in hi, ks_Find x e.Alias (lo_small (by omega)) g.few, Option.bind_some, find_good g (at_mem hi)]
      simp only [Bool.not_true, cond_false, decide_true]
      rw [sameCh (g.few e (at_mem hi)), Option.bind_some]
      rfl
    · show g_law05_KeystoreBack.l2 _ _ _ (x.length : Int) = _
      unfold g_law05_KeystoreBack.l2
      simp only []
      rw [for_out, ks_Same (by omega) g.few, awake_law05]
      rfl
    · have : x.any (fun _ => false) = false := by simp
      rw [this]; rfl
end
end Go.Proofs.YtbeageaekgccgaaGreat
