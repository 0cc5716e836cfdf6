/- Key stores: the reference's merge; raw stores. No program is in sight here. -/
import Derived.Test.YtbeageaekgccgaaE2
set_option linter.unusedVariables false
set_option linter.unusedSimpArgs false
namespace Go.Proofs.Ytbeageaekgccgaa
open Go
theorem drop_at {α : Type} {l : List α} {i : Nat} {x : α} (h : l[i]? = some x) : l.drop i = x :: l.drop (i + 1) := by
  obtain ⟨hi, rfl⟩ := List.getElem?_eq_some_iff.1 h
  exact List.drop_eq_getElem_cons hi
theorem ref_mloop {a b : List api_Entry} (ha : a.length ≤ 64) (hb : b.length ≤ 64) (fa : ∀ e ∈ a, FewN e.Chain) (fb : ∀ e ∈ b, FewN e.Chain) : ∀ (n i k : Nat) (out : List api_Entry), (a.length - i) + (b.length - k) = n → i ≤ a.length → k ≤ b.length → out.length ≤ i + k →
    loop (fun q' => g_ref05_Merge.l2 a b q'.1 q'.2.1 q'.2.2) ((i : Int), (k : Int), out) = some (finS (out ++ mergeS (a.drop i) (b.drop k))) := by
  intro n
  induction n using Nat.strongRecOn with
  | _ n ih =>
    intro i k out hn hi hk ho
    -- what a round does
    have takeA : ∀ x, a[i]? = some x → g_ref05_Merge.j4 a b (i : Int) (k : Int) out true = some (.next (((i + 1 : Nat) : Int), (k : Int), out ++ [x])) := fun x hx => by
      have := at_lt hx
      unfold g_ref05_Merge.j4
      rw [cond_true, getI_nat, hx, Option.bind_some, copiedE (fa x (at_mem hx)), Option.bind_some, appI_ok (by rw [List.length_singleton]; omega), Option.bind_some, W_succ (by omega)]
    have takeB : ∀ (i' : Nat) y, b[k]? = some y → g_ref05_Merge.j6 b (k : Int) out (i' : Int) = some (.next ((i' : Int), ((k + 1 : Nat) : Int), out ++ [y])) := fun i' y hy => by
      have := at_lt hy
      unfold g_ref05_Merge.j6
      rw [getI_nat, hy, Option.bind_some, copiedE (fb y (at_mem hy)), Option.bind_some, appI_ok (by rw [List.length_singleton]; omega), Option.bind_some, W_succ (by omega)]
    by_cases h1 : i < a.length
    · obtain ⟨x, hx⟩ : ∃ x, a[i]? = some x := ⟨_, List.getElem?_eq_getElem h1⟩
      have hb0 : g_ref05_Merge.l2 a b (i : Int) (k : Int) out = g_ref05_Merge.j3 a b (i : Int) (k : Int) out true := by
        unfold g_ref05_Merge.l2
        rw [decide_eq_true (by omega), cond_true]
      by_cases h2 : k < b.length
      · obtain ⟨y, hy⟩ : ∃ y, b[k]? = some y := ⟨_, List.getElem?_eq_getElem h2⟩
        have hb1 : g_ref05_Merge.j3 a b (i : Int) (k : Int) out true = g_ref05_Merge.j4 a b (i : Int) (k : Int) out (ltE x y) := by
          unfold g_ref05_Merge.j3
          rw [cond_true, decide_eq_false (by omega), cond_false, decide_eq_true (by omega), cond_true, getI_nat, hx, Option.bind_some, getI_nat, hy, Option.bind_some]
          rfl
        rw [drop_at hx, drop_at hy, mergeS]
        by_cases hl : ltE x y = true
        · rw [if_pos hl]
          rw [hl] at hb1
          rw [loop_next (show (fun q' : Int × Int × List api_Entry => g_ref05_Merge.l2 a b q'.1 q'.2.1 q'.2.2) ((i : Int), (k : Int), out) = _ from (hb0.trans hb1).trans (takeA x hx)), ih (n - 1) (by omega) (i + 1) k (out ++ [x]) (by omega) (by omega) hk (by rw [List.length_append, List.length_singleton]; omega), ← drop_at hy, List.append_assoc]
          rfl
        · rw [if_neg hl]
          have hl' : ltE x y = false := by cases h : ltE x y with | false => rfl | true => exact absurd h hl
          rw [hl'] at hb1
          have hb2 : g_ref05_Merge.j4 a b (i : Int) (k : Int) out false = g_ref05_Merge.j5 b (i : Int) (k : Int) out (decide (x.Alias = y.Alias)) := by
            unfold g_ref05_Merge.j4
            rw [cond_false, decide_eq_true (by omega), cond_true, getI_nat, hx, Option.bind_some, getI_nat, hy, Option.bind_some]
          unfold g_ref05_Merge.j5 at hb2
          by_cases he : x.Alias = y.Alias
          · rw [if_pos he]
            rw [decide_eq_true he, cond_true, W_succ (by omega)] at hb2
            rw [loop_next (show (fun q' : Int × Int × List api_Entry => g_ref05_Merge.l2 a b q'.1 q'.2.1 q'.2.2) ((i : Int), (k : Int), out) = _ from ((hb0.trans hb1).trans hb2).trans (takeB (i + 1) y hy)), ih (n - 2) (by omega) (i + 1) (k + 1) (out ++ [y]) (by omega) (by omega) (by omega) (by rw [List.length_append, List.length_singleton]; omega), List.append_assoc]
            rfl
          · rw [if_neg he]
            rw [decide_eq_false he, cond_false] at hb2
            rw [loop_next (show (fun q' : Int × Int × List api_Entry => g_ref05_Merge.l2 a b q'.1 q'.2.1 q'.2.2) ((i : Int), (k : Int), out) = _ from ((hb0.trans hb1).trans hb2).trans (takeB i y hy)), ih (n - 1) (by omega) i (k + 1) (out ++ [y]) (by omega) hi (by omega) (by rw [List.length_append, List.length_singleton]; omega), ← drop_at hx, List.append_assoc]
            rfl
      · have hkl : k = b.length := by omega
        have hb1 : g_ref05_Merge.j3 a b (i : Int) (k : Int) out true = g_ref05_Merge.j4 a b (i : Int) (k : Int) out true := by
          unfold g_ref05_Merge.j3
          rw [cond_true, decide_eq_true (by omega), cond_true]
        rw [loop_next (show (fun q' : Int × Int × List api_Entry => g_ref05_Merge.l2 a b q'.1 q'.2.1 q'.2.2) ((i : Int), (k : Int), out) = _ from (hb0.trans hb1).trans (takeA x hx)), ih (n - 1) (by omega) (i + 1) k (out ++ [x]) (by omega) (by omega) hk (by rw [List.length_append, List.length_singleton]; omega), hkl, List.drop_length, mergeS_nil, mergeS_nil, drop_at hx, List.append_assoc]
        rfl
    · have hil : i = a.length := by omega
      have hb0 : g_ref05_Merge.l2 a b (i : Int) (k : Int) out = g_ref05_Merge.j3 a b (i : Int) (k : Int) out (decide ((k : Int) < (b.length : Int))) := by
        unfold g_ref05_Merge.l2
        rw [decide_eq_false (show ¬ (i : Int) < (a.length : Int) by omega), cond_false]
      by_cases h2 : k < b.length
      · obtain ⟨y, hy⟩ : ∃ y, b[k]? = some y := ⟨_, List.getElem?_eq_getElem h2⟩
        rw [decide_eq_true (by omega)] at hb0
        have hb1 : g_ref05_Merge.j3 a b (i : Int) (k : Int) out true = g_ref05_Merge.j6 b (k : Int) out (i : Int) := by
          unfold g_ref05_Merge.j3 g_ref05_Merge.j4 g_ref05_Merge.j5
          rw [cond_true, decide_eq_false (by omega), cond_false, decide_eq_false (by omega), cond_false, cond_false, cond_false, cond_false]
        rw [loop_next (show (fun q' : Int × Int × List api_Entry => g_ref05_Merge.l2 a b q'.1 q'.2.1 q'.2.2) ((i : Int), (k : Int), out) = _ from (hb0.trans hb1).trans (takeB i y hy)), ih (n - 1) (by omega) i (k + 1) (out ++ [y]) (by omega) hi (by omega) (by rw [List.length_append, List.length_singleton]; omega), hil, List.drop_length, mergeS, mergeS, drop_at hy, List.append_assoc]
        rfl
      · have hkl : k = b.length := by omega
        rw [decide_eq_false (by omega)] at hb0
        refine loop_up ?_
        show g_ref05_Merge.l2 a b (i : Int) (k : Int) out = _
        rw [hb0]
        unfold g_ref05_Merge.j3
        rw [cond_false, hil, hkl, List.drop_length, List.drop_length, mergeS, List.append_nil]
        refine congrArg up ?_
        unfold finS
        cases decide (64 < (out.length : Int)) <;> rfl
theorem ref_Merge5 (a b : List api_Entry) (fa : ∀ e ∈ a, FitE e) (fb : ∀ e ∈ b, FitE e) : g_ref05_Merge a b = some (mergeR a b) := by
  have hj1 : g_ref05_Merge.j1 a b true = some ([], 16) := rfl
  unfold g_ref05_Merge mergeR
  rw [ref_Check5 a fa, Option.bind_some, ref_Check5 b fb, Option.bind_some]
  by_cases h1 : storeS a = 0
  · rw [decide_eq_true h1, Bool.not_true, cond_false, Bool.false_or]
    by_cases h2 : storeS b = 0
    · rw [decide_eq_true h2, Bool.not_true, cond_false]
      obtain ⟨la, oa, sa⟩ := store_zero.1 h1
      obtain ⟨lb, ob, sb⟩ := store_zero.1 h2
      unfold g_ref05_Merge.j1
      rw [cond_false]
      exact ref_mloop la lb (fun e he => few_of (oa e he)) (fun e he => few_of (ob e he)) _ 0 0 [] rfl (Nat.zero_le _) (Nat.zero_le _) (Nat.le_refl _)
    · rw [decide_eq_false h2, Bool.not_false, hj1]; rfl
  · rw [decide_eq_false h1, Bool.not_false, cond_true, hj1]; rfl
theorem mergeR_ok (a b : List api_Entry) : (mergeR a b).1.length ≤ 128 ∧ (∀ e ∈ (mergeR a b).1, okE e = true) := by
  unfold mergeR
  by_cases h1 : storeS a = 0
  · rw [decide_eq_true h1, Bool.not_true, Bool.false_or]
    by_cases h2 : storeS b = 0
    · rw [decide_eq_true h2, Bool.not_true, cond_false]
      obtain ⟨la, oa, sa⟩ := store_zero.1 h1
      obtain ⟨lb, ob, sb⟩ := store_zero.1 h2
      obtain ⟨m1, m2⟩ := mergeS_ok _ a b (Nat.le_refl _) sa sb
      unfold finS
      cases hd : decide (64 < ((mergeS a b).length : Int)) with
      | true => exact ⟨Nat.zero_le _, fun e he => by cases he⟩
      | false =>
        have := of_decide_eq_false hd
        refine ⟨by show (mergeS a b).length ≤ 128; omega, fun e he => ?_⟩
        rcases List.mem_append.1 (m1.mem_iff.1 he) with h | h
        · exact ob e h
        · exact oa e (List.mem_filter.1 h).1
    · rw [decide_eq_false h2]
      exact ⟨Nat.zero_le _, fun e he => by cases he⟩
  · rw [decide_eq_false h1]
    exact ⟨Nat.zero_le _, fun e he => by cases he⟩
theorem fitE_plain {e : api_Entry} (h1 : e.Alias.size ≤ 100) (h2 : e.Chain = []) : FitE e := ⟨by omega, fun c hc => by rw [h2] at hc; cases hc⟩
def awA : List api_Entry := [(api_Entry.mk (⟨#[97]⟩ : ByteArray) (api_Use.mk 5 2048) 0 false ([] : (List api_Certificate))), (api_Entry.mk (⟨#[98]⟩ : ByteArray) (api_Use.mk 5 2048) 1 false ([] : (List api_Certificate)))]
def awB : List api_Entry := [(api_Entry.mk (⟨#[98]⟩ : ByteArray) (api_Use.mk 5 2048) 2 false ([] : (List api_Certificate))), (api_Entry.mk (⟨#[99]⟩ : ByteArray) (api_Use.mk 5 2048) 0 false ([] : (List api_Certificate)))]
def awM : List api_Entry := [(api_Entry.mk (⟨#[97]⟩ : ByteArray) (api_Use.mk 5 2048) 0 false ([] : (List api_Certificate))), (api_Entry.mk (⟨#[98]⟩ : ByteArray) (api_Use.mk 5 2048) 2 false ([] : (List api_Certificate))), (api_Entry.mk (⟨#[99]⟩ : ByteArray) (api_Use.mk 5 2048) 0 false ([] : (List api_Certificate)))]
theorem fit_plain {l : List api_Entry} (h : l.all (fun e => decide (e.Alias.size ≤ 100) && decide (e.Chain = [])) = true) : ∀ e ∈ l, FitE e := fun e he => by
  have := List.all_eq_true.1 h e he
  rw [Bool.and_eq_true] at this
  exact fitE_plain (of_decide_eq_true this.1) (of_decide_eq_true this.2)
theorem awake_law05 : g_law05_awake = some true := by
  have e1 : mergeS awA awB = awM := by
    unfold awA awB
    rw [mergeS, if_pos (by decide +kernel), mergeS, if_neg (by decide +kernel), if_pos (by rfl), mergeS]
    rfl
  have a0 : storeS awA = 0 := by decide +kernel
  have b0 : storeS awB = 0 := by decide +kernel
  have m0 : storeS awM = 0 := by decide +kernel
  have fa : ∀ e ∈ awA, FitE e := fit_plain (by decide +kernel)
  have fb : ∀ e ∈ awB, FitE e := fit_plain (by decide +kernel)
  have fm : ∀ e ∈ awM, FitE e := fit_plain (by decide +kernel)
  have hm : g_keystore_Merge awA awB = some (awM, 0) := by
    rw [ks_Merge awA awB (by decide) (by decide) fa fb]
    unfold mergeR
    rw [a0, b0, e1]
    rfl
  unfold g_law05_awake
  show (g_keystore_Merge awA awB).bind _ = _
  rw [hm, Option.bind_some]
  have hf : g_keystore_Find awM ⟨#[98]⟩ = some (findE awM ⟨#[98]⟩) := ks_Find awM _ (lo_small (by decide)) (fun e he => few_of ((store_zero.1 m0).2.1 e he))
  simp only []
  rw [hf, Option.bind_some, ks_Check awM (by decide) fm, m0]
  rfl
theorem fitE_of {e : api_Entry} (h : okCs (api_Entry.enc e)) : FitE e := by
  simp only [api_Entry.enc, okCs] at h
  have hm : maxLen = 9223372036854775807 := rfl
  rw [hm] at h
  exact ⟨h.1, fun c hc => fitW_of (okCs_encL h.2.2.2.2.2.1 c hc)⟩
theorem law_KeystoreRaw (x0 : (List api_Entry)) (x1 : (List api_Entry)) (hok : okVs [.sl 6 (encL api_Entry.enc x0), .sl 6 (encL api_Entry.enc x1)]) : g_law05_KeystoreRaw x0 x1 = some true := by
  have h1 : g_law05_KeystoreRaw.j1 x0 x1 true = some true := by unfold g_law05_KeystoreRaw.j1; rw [awake_law05]; rfl
  simp only [okVs, okV] at hok
  have f0 : ∀ e ∈ x0, FitE e := fun e he => fitE_of (okCs_encL hok.1.2 e he)
  have f1 : ∀ e ∈ x1, FitE e := fun e he => fitE_of (okCs_encL hok.2.1.2 e he)
  unfold g_law05_KeystoreRaw
  by_cases a : 20 < (x0.length : Int)
  · rw [decide_eq_true a]; exact h1
  rw [decide_eq_false a, cond_false]
  by_cases b : 20 < (x1.length : Int)
  · rw [decide_eq_true b]; exact h1
  rw [decide_eq_false b]
  unfold g_law05_KeystoreRaw.j1
  rw [cond_false]
  refine (loop_has x0 (fun e => decide (10 < (e.Chain.length : Int))) true true (lo_small (by omega)) (fun i e he => ?_) ?_).trans ?_
  · show g_law05_KeystoreRaw.l2 x0 x1 (i : Int) = _
    unfold g_law05_KeystoreRaw.l2
    rw [for_in he, awake_law05]
    cases decide (10 < (e.Chain.length : Int)) <;> rfl
  · show g_law05_KeystoreRaw.l2 x0 x1 (x0.length : Int) = _
    unfold g_law05_KeystoreRaw.l2
    obtain ⟨m1, m2⟩ := mergeR_ok x0 x1
    rw [for_out, ks_Merge x0 x1 (by omega) (by omega) f0 f1, Option.bind_some, ref_Merge5 x0 x1 f0 f1, Option.bind_some, ks_Check x0 (by omega) f0, Option.bind_some, ref_Check5 x0 f0, Option.bind_some, decide_eq_true rfl, cond_true, decide_eq_true rfl, cond_true, sameE (by omega) (fun e he => few_of (m2 e he)), awake_law05]
    rfl
  · cases x0.any _ <;> rfl
end Go.Proofs.Ytbeageaekgccgaa
