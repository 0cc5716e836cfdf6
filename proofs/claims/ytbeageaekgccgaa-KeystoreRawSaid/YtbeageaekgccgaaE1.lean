/- Key stores: the checks, the copies. No program is in sight here. -/
import Derived.Test.YtbeageaekgccgaaB0
import Derived.Test.YtbeageaekgccgaaOW
import Derived.Test.YtbeageaekgccgaaK7
set_option linter.unusedVariables false
set_option linter.unusedSimpArgs false
namespace Go.Proofs.Ytbeageaekgccgaa
open Go
theorem cert_Check (c : api_Certificate) (h : FitW c) : g_certificate_Check c = some (bif certS c then 0 else 9) := by
  unfold g_certificate_Check
  rw [cat_validW c h, Option.bind_some]
  cases certS c <;> rfl
def keyB (id : Int) : Bool := decide (id < 0) || decide (2147483648 < id)
def headS (key : api_Use) (id : Int) : List api_Certificate → Bool
  | [] => true
  | c :: _ => decide (c.Key = key) && decide (c.KeyId = id)
def showsS (key : api_Use) (id : Int) (l : List api_Certificate) : Bool := useS key 2 && (!keyB id && (!decide (8 < (l.length : Int)) && (!l.any (fun c => !certS c) && headS key id l)))
theorem head_end (key : api_Use) (id : Int) (l : List api_Certificate) :
    (cond (decide ((l.length : Int) = 0)) (some true) ((getI l 0).bind fun e_2 => cond (decide (e_2.Key = key)) (some (decide (e_2.KeyId = id))) (some false))) = some (headS key id l) := by
  cases l with
  | nil => rfl
  | cons c l =>
    rw [decide_eq_false (by simp only [List.length_cons]; omega), cond_false]
    show cond (decide (c.Key = key)) (some (decide (c.KeyId = id))) (some false) = some (decide (c.Key = key) && decide (c.KeyId = id))
    cases decide (c.Key = key) <;> rfl
theorem cat_Shows (key : api_Use) (id : Int) (l : List api_Certificate) (hf : ∀ c ∈ l, FitW c) : g_keystore_Shows key id l = some (showsS key id l) := by
  unfold g_keystore_Shows showsS useS
  rw [cat_Valid, Option.bind_some, cat_Kind, Option.bind_some, cat_Key, Option.bind_some]
  have h1 : g_keystore_Shows.j1 key id l true = some false := rfl
  have h0 : ¬ (8 < (l.length : Int)) → g_keystore_Shows.j1 key id l false = some (!l.any (fun c => !certS c) && headS key id l) := fun h8 => by
    unfold g_keystore_Shows.j1
    rw [cond_false]
    refine (loop_has l (fun c => !certS c) false (headS key id l) (lo_small (by omega)) (fun i c hc => ?_) ?_).trans ?_
    · show g_keystore_Shows.l2 key id l (i : Int) = _
      unfold g_keystore_Shows.l2
      rw [for_in hc, cert_Check c (hf c (at_mem hc)), Option.bind_some]
      cases certS c <;> rfl
    · show g_keystore_Shows.l2 key id l (l.length : Int) = _
      unfold g_keystore_Shows.l2
      rw [for_out, head_end]
      rfl
    · cases l.any (fun c => !certS c) <;> rfl
  cases decide (0 < strS key) with
  | false => rw [Bool.not_false, cond_true, h1]; rfl
  | true =>
    rw [Bool.not_true, cond_false]
    cases decide (kindS key.Alg = 2) with
    | false => rw [Bool.not_false, cond_true, h1]; rfl
    | true =>
      rw [Bool.not_true, cond_false]
      show cond (!!keyB id) _ _ = _
      cases keyB id with
      | true => rw [Bool.not_not, cond_true, h1]; rfl
      | false =>
        rw [Bool.not_not, cond_false]
        by_cases h8 : 8 < (l.length : Int)
        · rw [decide_eq_true h8, h1]; rfl
        · rw [decide_eq_false h8, h0 h8]; rfl
theorem ref_Right (key : api_Use) (id : Int) (l : List api_Certificate) (hf : ∀ c ∈ l, FitW c) : g_ref05_Right key id l = some (showsS key id l) := by
  unfold g_ref05_Right showsS keyB
  rw [ref_Signature, Option.bind_some]
  have h1 : g_ref05_Right.j1 key id l true = some false := rfl
  have h0 : ¬ (8 < (l.length : Int)) → g_ref05_Right.j1 key id l false = some (!l.any (fun c => !certS c) && headS key id l) := fun h8 => by
    unfold g_ref05_Right.j1
    rw [cond_false]
    refine (loop_has l (fun c => !certS c) false (headS key id l) (lo_small (by omega)) (fun i c hc => ?_) ?_).trans ?_
    · show g_ref05_Right.l2 key id l (i : Int) = _
      unfold g_ref05_Right.l2
      rw [for_in hc, ref_CheckW c (hf c (at_mem hc)), Option.bind_some]
      cases certS c <;> rfl
    · show g_ref05_Right.l2 key id l (l.length : Int) = _
      unfold g_ref05_Right.l2
      rw [for_out, head_end]
      rfl
    · cases l.any (fun c => !certS c) <;> rfl
  cases useS key 2 with
  | false => rw [Bool.not_false, cond_true, h1]; rfl
  | true =>
    rw [Bool.not_true, cond_false]
    cases decide (id < 0) with
    | true => rw [cond_true, h1]; rfl
    | false =>
      rw [cond_false]
      cases decide (2147483648 < id) with
      | true => rw [cond_true, h1]; rfl
      | false =>
        rw [cond_false]
        by_cases h8 : 8 < (l.length : Int)
        · rw [decide_eq_true h8, h1]; rfl
        · rw [decide_eq_false h8, h0 h8]; rfl
structure FitE (e : api_Entry) : Prop where
  alias : e.Alias.size ≤ 9223372036854775807
  chain : ∀ c ∈ e.Chain, FitW c
def zE : api_Entry := api_Entry.mk ⟨#[]⟩ (api_Use.mk 0 0) 0 false []
def ltE (x y : api_Entry) : Bool := ltT (toB x.Alias) (toB y.Alias)
def okE (e : api_Entry) : Bool := nameS e.Alias && showsS e.Key e.KeyId e.Chain
def badE (l : List api_Entry) (i : Nat) : Bool := !nameS (l.getD i zE).Alias || ((decide (0 < i) && !ltE (l.getD (i - 1) zE) (l.getD i zE)) || !showsS (l.getD i zE).Key (l.getD i zE).KeyId (l.getD i zE).Chain)
def storeS (l : List api_Entry) : Int := bif (List.range l.length).any (badE l) || decide (64 < (l.length : Int)) then 16 else 0
theorem ks_Check (l : List api_Entry) (hl : l.length ≤ 1000000) (hf : ∀ e ∈ l, FitE e) : g_keystore_Check l = some (storeS l) := by
  unfold g_keystore_Check
  refine (loop_hasN (body := fun q' => g_keystore_Check.l1 l q') l.length (badE l) (16 : Int) (bif decide (64 < (l.length : Int)) then 16 else 0) (by omega) (fun i hi => ?_) ?_).trans ?_
  · obtain ⟨e, he⟩ : ∃ e, l[i]? = some e := ⟨_, List.getElem?_eq_getElem hi⟩
    have hfe := hf e (at_mem he)
    show g_keystore_Check.l1 l (i : Int) = _
    unfold g_keystore_Check.l1 badE
    rw [for_in he, cat_Named _ hfe.alias, Option.bind_some, getD_at he, cat_Shows _ _ _ hfe.chain]
    cases nameS e.Alias with
    | false => rfl
    | true =>
      rw [Bool.not_true, cond_false, Bool.false_or]
      cases i with
      | zero =>
        show cond false _ ((some (showsS e.Key e.KeyId e.Chain)).bind _) = _
        cases showsS e.Key e.KeyId e.Chain <;> rfl
      | succ i =>
        obtain ⟨p, hp⟩ : ∃ p, l[i]? = some p := ⟨_, List.getElem?_eq_getElem (by omega)⟩
        rw [decide_eq_true (by omega), cond_true, W_id (by omega), show ((i + 1 : Nat) : Int) - 1 = (i : Int) by omega, getI_nat, hp, Option.bind_some, show i + 1 - 1 = i from rfl, getD_at hp, decide_eq_true (by omega), Bool.true_and, Option.bind_some]
        show cond (!ltE p e) _ _ = _
        cases ltE p e with
        | false => rfl
        | true => cases showsS e.Key e.KeyId e.Chain <;> rfl
  · show g_keystore_Check.l1 l (l.length : Int) = _
    unfold g_keystore_Check.l1
    rw [for_out]
    cases decide (64 < (l.length : Int)) <;> rfl
  · unfold storeS
    cases (List.range l.length).any (badE l) <;> cases decide (64 < (l.length : Int)) <;> rfl
theorem ref_Check5 (l : List api_Entry) (hf : ∀ e ∈ l, FitE e) : g_ref05_Check l = some (storeS l) := by
  unfold g_ref05_Check storeS
  by_cases h64 : 64 < (l.length : Int)
  · rw [decide_eq_true h64, cond_true, Bool.or_true]; rfl
  rw [decide_eq_false h64, cond_false, Bool.or_false]
  refine (loop_hasN (body := fun q' => g_ref05_Check.l1 l q') l.length (badE l) (16 : Int) 0 (by omega) (fun i hi => ?_) ?_)
  · obtain ⟨e, he⟩ : ∃ e, l[i]? = some e := ⟨_, List.getElem?_eq_getElem hi⟩
    have hfe := hf e (at_mem he)
    show g_ref05_Check.l1 l (i : Int) = _
    unfold g_ref05_Check.l1 badE
    rw [for_in he, ref_Name _ hfe.alias, Option.bind_some, getD_at he, ref_Right _ _ _ hfe.chain]
    cases nameS e.Alias with
    | false => rfl
    | true =>
      rw [Bool.not_true, cond_false, Bool.false_or]
      cases i with
      | zero =>
        show cond false _ ((some (showsS e.Key e.KeyId e.Chain)).bind _) = _
        cases showsS e.Key e.KeyId e.Chain <;> rfl
      | succ i =>
        obtain ⟨p, hp⟩ : ∃ p, l[i]? = some p := ⟨_, List.getElem?_eq_getElem (by omega)⟩
        rw [decide_eq_true (by omega), cond_true, W_id (by omega), show ((i + 1 : Nat) : Int) - 1 = (i : Int) by omega, getI_nat, hp, Option.bind_some, show i + 1 - 1 = i from rfl, getD_at hp, decide_eq_true (by omega), Bool.true_and, Option.bind_some]
        show cond (!ltE p e) _ _ = _
        cases ltE p e with
        | false => rfl
        | true => cases showsS e.Key e.KeyId e.Chain <;> rfl
  · show g_ref05_Check.l1 l (l.length : Int) = _
    unfold g_ref05_Check.l1
    rw [for_out]
    rfl
def FewN (l : List api_Certificate) : Prop := l.length ≤ 20 ∧ ∀ c ∈ l, c.Names.length ≤ 1000
theorem copyC {l : List api_Certificate} (h : FewN l) : g_certificate_Copy l = some l := by
  have hlo := h.1
  unfold g_certificate_Copy
  refine loop_path (body := fun q' => g_certificate_Copy.l1 l q'.1 q'.2) l.length (fun i => ((i : Int), l.take i)) l (fun i hi => ?_) ?_
  · obtain ⟨c, hc⟩ : ∃ c, l[i]? = some c := ⟨_, List.getElem?_eq_getElem hi⟩
    have hf := h.2 c (List.mem_of_getElem? hc)
    show g_certificate_Copy.l1 l (i : Int) (l.take i) = _
    unfold g_certificate_Copy.l1
    rw [for_in hc, sl_Clone_string _ (by omega), Option.bind_some, appI_ok (by simp; omega), Option.bind_some, W_succ (by omega), take_succ' hc]
  · show g_certificate_Copy.l1 l (l.length : Int) (l.take l.length) = _
    unfold g_certificate_Copy.l1
    rw [for_out, List.take_length]; rfl
theorem ownE {e : api_Entry} (h : FewN e.Chain) : g_keystore_own e = some e := by
  unfold g_keystore_own
  rw [copyC h]
  rfl
theorem copyR {l : List api_Certificate} (h : FewN l) : g_ref03_CopyChain l = some l := by
  have hlo := h.1
  unfold g_ref03_CopyChain
  refine loop_path (body := fun q' => g_ref03_CopyChain.l1 l q'.1 q'.2) l.length (fun i => ((i : Int), l.take i)) l (fun i hi => ?_) ?_
  · obtain ⟨c, hc⟩ : ∃ c, l[i]? = some c := ⟨_, List.getElem?_eq_getElem hi⟩
    have hf := h.2 c (List.mem_of_getElem? hc)
    show g_ref03_CopyChain.l1 l (i : Int) (l.take i) = _
    unfold g_ref03_CopyChain.l1 g_ref03_Copy
    rw [for_in hc, appI_ok (by simp; omega), Option.bind_some, Option.bind_some, appI_ok (by simp; omega), Option.bind_some, W_succ (by omega), take_succ' hc]
    rfl
  · show g_ref03_CopyChain.l1 l (l.length : Int) (l.take l.length) = _
    unfold g_ref03_CopyChain.l1
    rw [for_out, List.take_length]; rfl
theorem copiedE {e : api_Entry} (h : FewN e.Chain) : g_ref05_copied e = some e := by
  unfold g_ref05_copied
  rw [copyR h]
  rfl
theorem sameCh {l : List api_Certificate} (h : FewN l) : g_ref03_SameChain l l = some true := by
  have hlo := h.1
  unfold g_ref03_SameChain
  rw [decide_eq_true rfl, Bool.not_true, cond_false]
  refine loop_path (body := fun q' => g_ref03_SameChain.l1 l l q') l.length (fun i => (i : Int)) true (fun i hi => ?_) ?_
  · obtain ⟨c, hc⟩ : ∃ c, l[i]? = some c := ⟨_, List.getElem?_eq_getElem hi⟩
    have hf := h.2 c (List.mem_of_getElem? hc)
    show g_ref03_SameChain.l1 l l (i : Int) = _
    unfold g_ref03_SameChain.l1
    rw [for_in hc, getI_nat, hc, Option.bind_some, ref_Same c c (lo_small (by omega)), decide_eq_true rfl, W_succ (by omega)]
    rfl
  · show g_ref03_SameChain.l1 l l (l.length : Int) = _
    unfold g_ref03_SameChain.l1
    rw [for_out]; rfl
theorem sameE {l : List api_Entry} (hl : l.length ≤ 1000000) (h : ∀ e ∈ l, FewN e.Chain) : g_ref05_Same l l = some true := by
  unfold g_ref05_Same
  rw [decide_eq_true rfl, Bool.not_true, cond_false]
  refine loop_path (body := fun q' => g_ref05_Same.l1 l l q') l.length (fun i => (i : Int)) true (fun i hi => ?_) ?_
  · obtain ⟨e, he⟩ : ∃ e, l[i]? = some e := ⟨_, List.getElem?_eq_getElem hi⟩
    show g_ref05_Same.l1 l l (i : Int) = _
    unfold g_ref05_Same.l1
    rw [for_in he, getI_nat, he, Option.bind_some, decide_eq_true rfl, decide_eq_true rfl, decide_eq_true rfl, decide_eq_true rfl, sameCh (h e (List.mem_of_getElem? he)), Bool.not_true, cond_false, cond_false, cond_false, cond_false, Option.bind_some]
    unfold g_ref05_Same.j2
    rw [W_succ (by omega)]
    rfl
  · show g_ref05_Same.l1 l l (l.length : Int) = _
    unfold g_ref05_Same.l1
    rw [for_out]; rfl
end Go.Proofs.Ytbeageaekgccgaa
