/- Certificates: the program's answers are the reference's. No program is in sight here. -/
import Derived.Test.YtbeageaekgccgaaGreatQ0
set_option linter.unusedVariables false
set_option linter.unusedSimpArgs false
set_option maxRecDepth 100000
namespace Go.Proofs.YtbeageaekgccgaaGreat
open Go
theorem loop_same {α : Type} [DecidableEq α] {body : Int → Option (Lp Int Bool)} (a b : List α) (hl : a.length = b.length) (h : Lo a) (h1 : ∀ (i : Nat) x y, a[i]? = some x → b[i]? = some y → body (i : Int) = some (bif decide (x = y) then .next (W ((i : Int) + 1)) else .done false)) (h2 : body (a.length : Int) = some (.done true)) : loop body 0 = some (decide (a = b)) := by
  unfold Lo at h
  have key : ∀ k i, i + k = a.length → loop body (i : Int) = some (decide (a.drop i = b.drop i)) := by
    intro k
    induction k with
    | zero =>
      intro i hi
      have : i = a.length := by omega
      subst this
      rw [loop_done h2, List.drop_length, hl, List.drop_length, decide_eq_true rfl]
    | succ k ih =>
      intro i hi
      have hia : i < a.length := by omega
      have hib : i < b.length := by omega
      have e := h1 i _ _ (List.getElem?_eq_getElem hia) (List.getElem?_eq_getElem hib)
      rw [List.drop_eq_getElem_cons hia, List.drop_eq_getElem_cons hib]
      by_cases hx : a[i] = b[i]
      · rw [decide_eq_true hx, cond_true, W_succ (by omega)] at e
        rw [loop_next e, ih (i + 1) (by omega), hx]
        simp only [List.cons.injEq, true_and]
      · rw [decide_eq_false hx, cond_false] at e
        rw [loop_done e, decide_eq_false]
        intro h
        injection h with h _
        exact hx h
  exact key a.length 0 (by omega)
theorem sl_Equal_string (a b : List ByteArray) (h : Lo a) : g_slices_Equal_string a b = some (decide (a = b)) := by
  unfold g_slices_Equal_string
  by_cases hl : a.length = b.length
  · rw [decide_eq_true (by omega), Bool.not_true, cond_false]
    refine loop_same a b hl h (fun i x y hx hy => ?_) ?_
    · unfold g_slices_Equal_string.l1
      rw [for_in hx, getI_nat, hy, Option.bind_some]
      cases decide (x = y) <;> rfl
    · unfold g_slices_Equal_string.l1
      rw [for_out]; rfl
  · rw [decide_eq_false (by omega), decide_eq_false (fun e => hl (by rw [e]))]; rfl
theorem ref_SameTexts (a b : List ByteArray) (h : Lo a) : g_ref02_SameTexts a b = some (decide (a = b)) := by
  unfold g_ref02_SameTexts
  by_cases hl : a.length = b.length
  · rw [decide_eq_true (by omega), Bool.not_true, cond_false]
    refine loop_same a b hl h (fun i x y hx hy => ?_) ?_
    · unfold g_ref02_SameTexts.l1
      rw [for_in hx, getI_nat, hy, Option.bind_some]
      cases decide (x = y) <;> rfl
    · unfold g_ref02_SameTexts.l1
      rw [for_out]; rfl
  · rw [decide_eq_false (by omega), decide_eq_false (fun e => hl (by rw [e]))]; rfl
theorem decide_cert (a b : api_Certificate) : decide (a = b) = (decide (a.Serial = b.Serial) && (decide (a.Issuer = b.Issuer) && (decide (a.Subject = b.Subject) && (decide (a.Key = b.Key) && (decide (a.KeyId = b.KeyId) && (decide (a.Hash = b.Hash) && (decide (a.From = b.From) && (decide (a.To = b.To) && (decide (a.Authority = b.Authority) && (decide (a.Path = b.Path) && (decide (a.Names = b.Names) && decide (a.Seal = b.Seal)))))))))))) := by
  cases a; cases b
  simp
theorem ref_Same (a b : api_Certificate) (h : Lo a.Names) : g_ref03_Same a b = some (decide (a = b)) := by
  unfold g_ref03_Same
  rw [ref_SameTexts _ _ h, decide_cert]
  simp only [Option.bind_some]
  cases decide (a.Serial = b.Serial) <;> cases decide (a.Issuer = b.Issuer) <;> try rfl
  cases decide (a.Subject = b.Subject) <;> cases decide (a.Key = b.Key) <;> try rfl
  cases decide (a.KeyId = b.KeyId) <;> cases decide (a.Hash = b.Hash) <;> try rfl
  cases decide (a.From = b.From) <;> cases decide (a.To = b.To) <;> try rfl
  cases decide (a.Authority = b.Authority) <;> cases decide (a.Path = b.Path) <;> try rfl
  cases decide (a.Names = b.Names) <;> rfl
theorem cat_Same (a b : api_Certificate) (h : Lo a.Names) : g_certificate_Same a b = some (decide (a = b)) := by
  unfold g_certificate_Same g_certificate_Same.j1 g_certificate_Same.j2
  rw [sl_Equal_string _ _ h, decide_cert]
  simp only [Option.bind_some]
  generalize decide (a.Serial = b.Serial) = b1
  generalize decide (a.Issuer = b.Issuer) = b2
  generalize decide (a.Subject = b.Subject) = b3
  generalize decide (a.Key = b.Key) = b4
  generalize decide (a.KeyId = b.KeyId) = b5
  generalize decide (a.Hash = b.Hash) = b6
  generalize decide (a.From = b.From) = b7
  generalize decide (a.To = b.To) = b8
  generalize decide (a.Authority = b.Authority) = b9
  generalize decide (a.Path = b.Path) = b10
  generalize decide (a.Names = b.Names) = b11
  generalize decide (a.Seal = b.Seal) = b12
  cases b1 <;> cases b2 <;> cases b3 <;> cases b4 <;> cases b5 <;> cases b6 <;> (try simp) <;> cases b11 <;> (try simp) <;> cases b12 <;> (try simp) <;> cases b7 <;> (try simp) <;> cases b8 <;> (try simp) <;> cases b9 <;> simp
def sealV (s : api_Seal) : api_Value := listV [intV s.Key, intV s.Sum]
def elemV (c : api_Certificate) : api_Value := listV [bodyV c, sealV c.Seal]
theorem seal_sz (s : api_Seal) : (sealV s).sz ≤ 19 := by
  unfold sealV
  have h1 := intV_sz s.Key
  have h2 := intV_sz s.Sum
  rw [list_sz]
  simp only [szs]; omega
theorem elem_szs {c : api_Certificate} (h : szs (bodyL c) ≤ 1000000) : szs [bodyV c, sealV c.Seal] ≤ 1000100 := by
  have := seal_sz c.Seal
  have : (bodyV c).sz = szs (bodyL c) + 1 := list_sz _
  simp only [szs]; omega
theorem sl_Clone_string (s : List ByteArray) (h : s.length < 1000000000) : g_slices_Clone_string s = some s := by
  unfold g_slices_Clone_string g_slices_Clone_string.j1
  have e : appI 16 ([] : List ByteArray) s = some s := by rw [appI_ok (by simp; omega)]; rfl
  rw [e]
  unfold nilC
  split
  · rename_i h0; subst h0; simp
  · rfl
end Go.Proofs.YtbeageaekgccgaaGreat
