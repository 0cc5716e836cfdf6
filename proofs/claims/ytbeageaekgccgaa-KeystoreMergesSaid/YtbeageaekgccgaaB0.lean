/- Certificates are the same; their names are copied. No program is in sight here. -/
import Derived.Test.YtbeageaekgccgaaM1
set_option linter.unusedVariables false
set_option linter.unusedSimpArgs false
namespace Go.Proofs.Ytbeageaekgccgaa
open Go
theorem loop_same {α : Type} [DecidableEq α] {body : Int → Option (Lp Int Bool)} (a b : List α) (hl : a.length = b.length) (h : Lo a) (h1 : ∀ (i : Nat) x y, a[i]? = some x → b[i]? = some y → body (i : Int) = some (bif decide (x = y) then .next (W ((i : Int) + 1)) else .done false)) (h2 : body (a.length : Int) = some (.done true)) : loop body 0 = some (decide (a = b)) := by
  unfold Lo at h
  have key : ∀ k i, i + k = a.length → loop body (i : Int) = some (decide (a.drop i = b.drop i)) := by
    intro k
    induction k with
    | zero =>
      intro i hi
      have : i = a.length := by omega
      subst this
      rw [loop_done h2, List.drop_length, hl, List.drop_length, decide_eq_true rfl]
    | succ k ih =>
      intro i hi
      have hia : i < a.length := by omega
      have hib : i < b.length := by omega
      have e := h1 i _ _ (List.getElem?_eq_getElem hia) (List.getElem?_eq_getElem hib)
      rw [List.drop_eq_getElem_cons hia, List.drop_eq_getElem_cons hib]
      by_cases hx : a[i] = b[i]
      · rw [decide_eq_true hx, cond_true, W_succ (by omega)] at e
        rw [loop_next e, ih (i + 1) (by omega), hx]
        simp only [List.cons.injEq, true_and]
      · rw [decide_eq_false hx, cond_false] at e
        rw [loop_done e, decide_eq_false]
        intro h
        injection h with h _
        exact hx h
  exact key a.length 0 (by omega)
theorem ref_SameTexts (a b : List ByteArray) (h : Lo a) : g_ref02_SameTexts a b = some (decide (a = b)) := by
  unfold g_ref02_SameTexts
  by_cases hl : a.length = b.length
  · rw [decide_eq_true (by omega), Bool.not_true, cond_false]
    refine loop_same a b hl h (fun i x y hx hy => ?_) ?_
    · unfold g_ref02_SameTexts.l1
      rw [for_in hx, getI_nat, hy, Option.bind_some]
      cases decide (x = y) <;> rfl
    · unfold g_ref02_SameTexts.l1
      rw [for_out]; rfl
  · rw [decide_eq_false (by omega), decide_eq_false (fun e => hl (by rw [e]))]; rfl
theorem decide_cert (a b : api_Certificate) : decide (a = b) = (decide (a.Serial = b.Serial) && (decide (a.Issuer = b.Issuer) && (decide (a.Subject = b.Subject) && (decide (a.Key = b.Key) && (decide (a.KeyId = b.KeyId) && (decide (a.Hash = b.Hash) && (decide (a.From = b.From) && (decide (a.To = b.To) && (decide (a.Authority = b.Authority) && (decide (a.Path = b.Path) && (decide (a.Names = b.Names) && decide (a.Seal = b.Seal)))))))))))) := by
  cases a; cases b
  simp
theorem ref_Same (a b : api_Certificate) (h : Lo a.Names) : g_ref03_Same a b = some (decide (a = b)) := by
  unfold g_ref03_Same
  rw [ref_SameTexts _ _ h, decide_cert]
  simp only [Option.bind_some]
  cases decide (a.Serial = b.Serial) <;> cases decide (a.Issuer = b.Issuer) <;> try rfl
  cases decide (a.Subject = b.Subject) <;> cases decide (a.Key = b.Key) <;> try rfl
  cases decide (a.KeyId = b.KeyId) <;> cases decide (a.Hash = b.Hash) <;> try rfl
  cases decide (a.From = b.From) <;> cases decide (a.To = b.To) <;> try rfl
  cases decide (a.Authority = b.Authority) <;> cases decide (a.Path = b.Path) <;> try rfl
  cases decide (a.Names = b.Names) <;> rfl
theorem sl_Clone_string (s : List ByteArray) (h : s.length < 1000000000) : g_slices_Clone_string s = some s := by
  unfold g_slices_Clone_string g_slices_Clone_string.j1
  have e : appI 16 ([] : List ByteArray) s = some s := by rw [appI_ok (by simp; omega)]; rfl
  rw [e]
  unfold nilC
  split
  · rename_i h0; subst h0; simp
  · rfl
end Go.Proofs.Ytbeageaekgccgaa
