/- Chapter 11, plain: First of both. -/
import Derived.Test.YtfkgbfhpibiheaaZ6
set_option linter.unusedVariables false
set_option linter.unusedSimpArgs false
set_option maxRecDepth 100000
namespace Go.Proofs.Ytfkgbfhpibiheaa
open Go
def Fst (q b : Bts) (x : Int) : Prop := (x = -1 ∧ ∀ j, At q b j = false) ∨ ∃ j : Nat, x = (j : Int) ∧ At q b j = true ∧ ∀ i, i < j → At q b i = false
theorem Fst.uniq {q b : Bts} {x y : Int} (h : Fst q b x) (k : Fst q b y) : x = y := by
  rcases h with ⟨rfl, h⟩ | ⟨i, rfl, h1, h2⟩
  · rcases k with ⟨rfl, -⟩ | ⟨j, rfl, k1, -⟩
    · rfl
    · rw [h j] at k1; cases k1
  · rcases k with ⟨rfl, k⟩ | ⟨j, rfl, k1, k2⟩
    · rw [k i] at h1; cases h1
    · rcases Nat.lt_trichotomy i j with h | h | h
      · rw [k2 i h] at h1; cases h1
      · rw [h]
      · rw [h2 j h] at k1; cases k1
def FstL (p : List api_Pattern) (b : Bts) (r : List Int) : Prop := r.length = p.length ∧ ∀ (k : Nat) q, p[k]? = some q → ∃ x, r[k]? = some x ∧ Fst q.Bytes b x
theorem FstL.uniq {p : List api_Pattern} {b : Bts} {r s : List Int} (h : FstL p b r) (k : FstL p b s) : r = s := by
  refine List.ext_getElem? fun i => ?_
  rcases Nat.lt_or_ge i p.length with hi | hi
  · obtain ⟨x, h1, h2⟩ := h.2 i _ (List.getElem?_eq_getElem hi)
    obtain ⟨y, k1, k2⟩ := k.2 i _ (List.getElem?_eq_getElem hi)
    rw [h1, k1, h2.uniq k2]
  · rw [List.getElem?_eq_none (by rw [h.1]; exact hi), List.getElem?_eq_none (by rw [k.1]; exact hi)]
def firstOf (l : List api_Hit) (k : Nat) : Int := match l.find? (fun h => decide (h.Pattern = (k : Int))) with | some h => h.At | none => -1
section
variable {p : List api_Pattern} {b : Bts}
theorem firstOf_app {l m : List api_Hit} {k : Nat} : firstOf (l ++ m) k = (match l.find? (fun h => decide (h.Pattern = (k : Int))) with | some h => h.At | none => firstOf m k) := by
  unfold firstOf
  rw [List.find?_append]
  cases l.find? (fun h => decide (h.Pattern = (k : Int))) <;> rfl
theorem firstOf_neg {l : List api_Hit} {k : Nat} (hl : ∀ h ∈ l, IsHit p b h) : firstOf l k < 0 ↔ l.find? (fun h => decide (h.Pattern = (k : Int))) = none := by
  unfold firstOf
  cases hf : l.find? (fun h => decide (h.Pattern = (k : Int))) with
  | none => simp
  | some h =>
    obtain ⟨k', q, i, -, rfl, -⟩ := hl h (List.mem_of_find?_eq_some hf)
    simp
theorem first_HS {ws : List Bts} {ss : List pattern_state} {k : Nat} {q : api_Pattern} (hD : Done p ws ss) (hp : Pok p) (hq : p[k]? = some q) : ∀ n, n ≤ b.length →
    ((HS p ss ws b n).find? (fun h => decide (h.Pattern = (k : Int))) = none ∧ firstOf (HS p ss ws b n) k = -1 ∧ ∀ j, At q.Bytes b j = true → ¬ q.Bytes.length + j ≤ n) ∨
    ∃ j : Nat, (HS p ss ws b n).find? (fun h => decide (h.Pattern = (k : Int))) = some ⟨(k : Int), (j : Int)⟩ ∧ firstOf (HS p ss ws b n) k = (j : Int) ∧ At q.Bytes b j = true ∧ q.Bytes.length + j ≤ n ∧ ∀ i, i < j → At q.Bytes b i = false
  | 0, _ => by
    refine .inl ⟨by simp [HS], by simp [HS, firstOf], fun j hj h => ?_⟩
    have := (hp.2 q (List.mem_of_getElem? hq)).1
    omega
  | n + 1, hn => by
    rw [HS_succ]
    rcases first_HS hD hp hq n (by omega) with ⟨h0, h1, h2⟩ | ⟨j, h0, h1, h2, h3, h4⟩
    · have e1 : firstOf (HS p ss ws b n ++ HSi p ss ws b n) k = firstOf (HSi p ss ws b n) k := by rw [firstOf_app, h0]
      have e2 : (HS p ss ws b n ++ HSi p ss ws b n).find? (fun h => decide (h.Pattern = (k : Int))) = (HSi p ss ws b n).find? (fun h => decide (h.Pattern = (k : Int))) := by rw [List.find?_append, h0]; rfl
      rw [e1, e2]
      cases hf : (HSi p ss ws b n).find? (fun h => decide (h.Pattern = (k : Int))) with
      | none =>
        refine .inl ⟨rfl, by unfold firstOf; rw [hf], fun j hj hle => ?_⟩
        rcases Nat.lt_or_ge (q.Bytes.length + j) (n + 1) with h5 | h5
        · exact h2 j hj (by omega)
        · have hm : (⟨(k : Int), (j : Int)⟩ : api_Hit) ∈ HSi p ss ws b n := (HSi_mem hD (by omega)).2 ⟨k, q, j, hq, rfl, hj, by omega⟩
          have := List.find?_eq_none.1 hf _ hm
          simp at this
      | some h =>
        have hm := List.mem_of_find?_eq_some hf
        have hk := List.find?_some hf
        obtain ⟨k', q', j, a1, rfl, a3, a4⟩ := (HSi_mem hD (by omega)).1 hm
        have hk : k' = k := by simp at hk; omega
        subst hk
        rw [hq] at a1
        injection a1 with a1
        subst a1
        refine .inr ⟨j, rfl, by unfold firstOf; rw [hf], a3, by omega, fun i hi => ?_⟩
        cases hc : At q.Bytes b i with
        | false => rfl
        | true => exact (h2 i hc (by omega)).elim
    · refine .inr ⟨j, by rw [List.find?_append, h0]; rfl, by rw [firstOf_app, h0], h2, by omega, h4⟩
theorem first_fst {ws : List Bts} {ss : List pattern_state} {k : Nat} {q : api_Pattern} (hD : Done p ws ss) (hp : Pok p) (hq : p[k]? = some q) : Fst q.Bytes b (firstOf (HS p ss ws b b.length) k) := by
  rcases first_HS (b := b) hD hp hq b.length (Nat.le_refl _) with ⟨-, h1, h2⟩ | ⟨j, -, h1, h2, -, h4⟩
  · refine .inl ⟨h1, fun j => ?_⟩
    cases hc : At q.Bytes b j with
    | false => rfl
    | true => exact (h2 j hc (At_le hc)).elim
  · exact .inr ⟨j, h1, h2, h4⟩
theorem first_ok (hp : Pok p) (hb : b.length ≤ 4096) : Ok (g_pattern_first p b) (FstL p b) := by
  have hpl := hp.1
  unfold g_pattern_first
  refine Ok.bindE (a := List.replicate p.length (0 : Int)) (by
    unfold makI
    rw [if_pos (by omega), Int.toNat_natCast]) ?_
  refine Ok.loop (fun t => ∃ i : Nat, t.1 = (i : Int) ∧ i ≤ p.length ∧ t.2 = List.replicate i (-1) ++ List.replicate (p.length - i) (0 : Int)) (fun t => p.length - t.1.toNat) ?_ ⟨0, rfl, Nat.zero_le _, by simp⟩
  rintro ⟨x, l⟩ ⟨i, h1, h2, h3⟩
  simp only at h1 h3 ⊢
  subst h1 h3
  unfold g_pattern_first.l1
  refine Ok.cond (fun hlt => ?_) fun hge => ?_
  · have hi : i < p.length := by simp at hlt; exact hlt
    refine Ok.bindE (a := 0) (by rw [getI_nat, List.getElem?_append_right (by simp), List.length_replicate, Nat.sub_self, List.getElem?_replicate, if_pos (by omega)]) ?_
    refine Ok.ret ⟨⟨i + 1, W_succ (by omega), hi, ?_⟩, ?_⟩
    · unfold setI
      rw [Int.toNat_natCast, List.set_append_right _ _ (by simp), List.length_replicate, Nat.sub_self, show p.length - i = (p.length - (i + 1)) + 1 by omega, List.replicate_succ, List.set_cons_zero, List.replicate_succ', List.append_assoc]
      rfl
    · show p.length - (W ((i : Int) + 1)).toNat < _
      rw [W_succ (by omega)]
      omega
  · have hi : i = p.length := by simp at hge; omega
    subst hi
    refine Ok.up ?_
    rw [Nat.sub_self, List.replicate_zero, List.append_nil]
    refine Ok.bind (hits_ok_List_Int (p := p) (b := b) (Inv := fun l s => s.length = p.length ∧ (∀ h ∈ l, IsHit p b h) ∧ ∀ k, k < p.length → s[k]? = some (firstOf l k)) (Stop := fun _ _ => False) (yield := fun x0 b0 => g_pattern_first_c1 x0 b0) hp hb (fun l h s ⟨h1, h2, h3⟩ hh => ?_) ⟨by simp, fun h hh => by simp at hh, fun k hk => by rw [List.getElem?_replicate, if_pos hk]; rfl⟩) ?_
    · obtain ⟨k, q, i, hq, rfl, hat⟩ := hh
      have hk := (List.getElem?_eq_some_iff.1 hq).1
      have hmem : ∀ h ∈ l ++ [(⟨(k : Int), (i : Int)⟩ : api_Hit)], IsHit p b h := fun h hm => by
        rcases List.mem_append.1 hm with hm | hm
        · exact h2 h hm
        · rw [List.mem_singleton.1 hm]; exact ⟨k, q, i, hq, rfl, hat⟩
      unfold g_pattern_first_c1
      refine Ok.bindE (by rw [getI_nat]; exact h3 k hk) ?_
      refine Ok.cond (fun hneg => Ok.ret ⟨fun _ => ⟨?_, hmem, fun k' hk' => ?_⟩, fun h => by cases h⟩) fun hpos => Ok.ret ⟨fun _ => ⟨h1, hmem, fun k' hk' => ?_⟩, fun h => by cases h⟩
      · simp [setI, h1]
      · have hneg := (firstOf_neg h2).1 (of_decide_eq_true hneg)
        show (setI s ((k : Int)).toNat (i : Int))[k']? = _
        unfold setI
        rw [Int.toNat_natCast, List.getElem?_set]
        by_cases hkk : k = k'
        · subst hkk
          rw [if_pos rfl, if_pos (by omega), firstOf_app, hneg]
          simp [firstOf]
        · rw [if_neg hkk, h3 k' hk', firstOf_app]
          unfold firstOf
          cases l.find? (fun h => decide (h.Pattern = (k' : Int))) with
          | some h => rfl
          | none =>
            rw [List.find?_cons, show decide ((k : Int) = (k' : Int)) = false by simp; omega]
            rfl
      · rw [h3 k' hk', firstOf_app]
        by_cases hkk : k = k'
        · subst hkk
          unfold firstOf at hpos ⊢
          cases hf : l.find? (fun h => decide (h.Pattern = (k : Int))) with
          | some h => rfl
          | none => rw [hf] at hpos; simp at hpos
        · unfold firstOf
          cases l.find? (fun h => decide (h.Pattern = (k' : Int))) with
          | some h => rfl
          | none =>
            rw [List.find?_cons, show decide ((k : Int) = (k' : Int)) = false by simp; omega]
            rfl
    · rintro s ⟨ws, ss, hD, ⟨h1, h2, h3⟩ | ⟨l, -, h⟩⟩
      · refine Ok.ret ⟨h1, fun k q hq => ⟨_, h3 k (List.getElem?_eq_some_iff.1 hq).1, first_fst hD hp hq⟩⟩
      · exact h.elim
def Fr (q b : Bts) (i : Nat) (x : Int) : Prop := (x = -1 ∧ ∀ j, i ≤ j → At q b j = false) ∨ ∃ j : Nat, x = (j : Int) ∧ i ≤ j ∧ At q b j = true ∧ ∀ m, i ≤ m → m < j → At q b m = false
theorem ref_First_ok (hl : Lo p) (hc : chk p = 0) (hb : b.length ≤ 4096) : Ok (g_ref11_First p b) (fun r => r.2 = 0 ∧ FstL p b r.1) := by
  have hp := chk_ok hc
  have hpl := hp.1
  unfold g_ref11_First
  rw [ref_Check p hl, Option.bind_some, hc]
  rw [show (!decide ((0 : Int) = 0)) = false by decide, cond_false, decide_eq_false (by omega), cond_false]
  refine Ok.loop (fun t => ∃ k : Nat, t.1 = (k : Int) ∧ k ≤ p.length ∧ t.2.length = k ∧ ∀ (j : Nat) q, j < k → p[j]? = some q → ∃ x, t.2[j]? = some x ∧ Fst q.Bytes b x) (fun t => p.length - t.1.toNat) ?_ ⟨0, rfl, Nat.zero_le _, rfl, fun j q hj => absurd hj (by omega)⟩
  rintro ⟨x, out⟩ ⟨k, h1, h2, h3, h4⟩
  simp only at h1 h3 h4 ⊢
  subst h1
  unfold g_ref11_First.l1
  refine Ok.cond (fun hlt => ?_) fun hge => ?_
  · have hk : k < p.length := by simp at hlt; exact hlt
    have hq : p[k]? = some p[k] := List.getElem?_eq_getElem hk
    generalize p[k] = q at hq
    have hql := hp.2 q (List.mem_of_getElem? hq)
    refine Ok.loop (fun t => ∃ i : Nat, t.2 = (i : Int) - 1 ∧ i ≤ b.length ∧ Fr q.Bytes b i t.1) (fun t => (t.2 + 1).toNat) ?_ ⟨b.length, W_id (by omega), Nat.le_refl _, .inl ⟨rfl, fun j hj => ?_⟩⟩
    · rintro ⟨y, z⟩ ⟨i, c1, c2, c3⟩
      simp only at c1 c3 ⊢
      subst c1
      unfold g_ref11_First.l2
      refine Ok.cond (fun hlt2 => ?_) fun hge2 => ?_
      · have hi : 1 ≤ i := by have := of_decide_eq_true hlt2; omega
        refine Ok.bindE (by rw [getI_nat]; exact hq) ?_
        refine Ok.bindE (a := At q.Bytes b (i - 1)) (by
          rw [show (i : Int) - 1 = ((i - 1 : Nat) : Int) by omega]
          exact ref_at hb hql.2 (by omega)) ?_
        unfold g_ref11_First.j3
        have hm : (W ((i : Int) - 1 - 1) + 1).toNat < ((i : Int) - 1 + 1).toNat := by
          rw [W_id (by omega)]
          omega
        refine Ok.cond (fun ht => Ok.ret ⟨⟨i - 1, ?_, by omega, .inr ⟨i - 1, by show (i : Int) - 1 = _; omega, Nat.le_refl _, ht, fun m h5 h6 => by omega⟩⟩, hm⟩) fun hf => Ok.ret ⟨⟨i - 1, ?_, by omega, ?_⟩, hm⟩
        · show W ((i : Int) - 1 - 1) = _
          rw [W_id (by omega)]
          omega
        · show W ((i : Int) - 1 - 1) = _
          rw [W_id (by omega)]
          omega
        · have hst : ∀ m, i - 1 ≤ m → i ≤ m ∨ m = i - 1 := fun m hm => by omega
          rcases c3 with ⟨e1, e2⟩ | ⟨j, e1, e2, e3, e4⟩
          · refine .inl ⟨e1, fun j hj => ?_⟩
            rcases hst j hj with h | h
            · exact e2 j h
            · rw [h]; exact hf
          · refine .inr ⟨j, e1, by omega, e3, fun m h5 h6 => ?_⟩
            rcases hst m h5 with h | h
            · exact e4 m h h6
            · rw [h]; exact hf
      · have hi : i = 0 := by have := of_decide_eq_false hge2; omega
        subst hi
        refine Ok.up ?_
        refine Ok.bindE (appI_ok (by rw [List.length_singleton]; omega)) ?_
        refine Ok.ret ⟨⟨k + 1, W_succ (by omega), hk, by simp [h3], fun j q' hj hq' => ?_⟩, ?_⟩
        · rcases Nat.lt_or_ge j k with hj' | hj'
          · obtain ⟨x, a1, a2⟩ := h4 j q' hj' hq'
            exact ⟨x, by show (out ++ [y])[j]? = _; rw [List.getElem?_append_left (by omega)]; exact a1, a2⟩
          · have : j = k := by omega
            subst this
            rw [hq] at hq'
            injection hq' with hq'
            subst hq'
            refine ⟨y, by show (out ++ [y])[j]? = _; rw [List.getElem?_append_right (by omega), h3, Nat.sub_self]; rfl, ?_⟩
            rcases c3 with ⟨e1, e2⟩ | ⟨m, e1, e2, e3, e4⟩
            · exact .inl ⟨e1, fun j => e2 j (Nat.zero_le _)⟩
            · exact .inr ⟨m, e1, e3, fun i hi => e4 i (Nat.zero_le _) hi⟩
        · show p.length - (W ((k : Int) + 1)).toNat < _
          rw [W_succ (by omega)]
          omega
    · cases hc' : At q.Bytes b j with
      | false => rfl
      | true => have := At_le hc'; omega
  · have hk : k = p.length := by simp at hge; omega
    subst hk
    exact Ok.up (Ok.ret ⟨rfl, h3, fun k q hq => h4 k q (List.getElem?_eq_some_iff.1 hq).1 hq⟩)
theorem First_both (hl : Lo p) (hc : chk p = 0) (hb : b.length ≤ 4096) : ∃ r, g_pattern_First p b = some (r, 0) ∧ g_ref11_First p b = some (r, 0) ∧ FstL p b r := by
  obtain ⟨⟨r, e⟩, h1, h2, h3⟩ := ref_First_ok (b := b) hl hc hb
  obtain ⟨s, h4, h5⟩ := first_ok (b := b) (chk_ok hc) hb
  simp only at h2 h3
  subst h2
  refine ⟨r, ?_, h1, h3⟩
  unfold g_pattern_First
  rw [early_ok hl, Option.bind_some, hc]
  rw [show (bif !decide ((0 : Int) = 0) then 0 else bif decide (4096 < (b.length : Int)) then 3 else 0 : Int) = 0 by
    rw [show (!decide ((0 : Int) = 0)) = false by decide, cond_false, decide_eq_false (by omega)]; rfl]
  rw [show (!decide ((0 : Int) = 0)) = false by decide, cond_false, h4, Option.bind_some, h5.uniq h3]
end
end Go.Proofs.Ytfkgbfhpibiheaa
