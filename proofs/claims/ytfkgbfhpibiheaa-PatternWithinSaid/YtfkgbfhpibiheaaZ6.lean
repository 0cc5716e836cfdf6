/- Chapter 11, plain: Find of both. -/
import Derived.Test.YtfkgbfhpibiheaaZ5
import Derived.Test.YtfkgbfhpibiheaaK1
import Derived.Test.YtfkgbfhpibiheaaCO
import Derived.Test.YtfkgbfhpibiheaaSEapi_Hit
set_option linter.unusedVariables false
set_option linter.unusedSimpArgs false
set_option maxRecDepth 100000
namespace Go.Proofs.Ytfkgbfhpibiheaa
open Go
def badP (q : api_Pattern) : Bool := decide ((q.Bytes.length : Int) < 1) || (decide (64 < (q.Bytes.length : Int)) || !decide (0 < strS q.Use))
def chk (p : List api_Pattern) : Int := bif p.any badP then 21 else bif decide (32 < (p.length : Int)) then 21 else 0
theorem patt_Check (p : List api_Pattern) (hl : Lo p) : g_pattern_Check p = some (chk p) := by
  unfold g_pattern_Check chk
  refine loop_has p badP _ _ hl (fun i x hx => ?_) ?_
  · unfold g_pattern_Check.l1
    rw [for_in hx]
    unfold badP g_pattern_Check.j2
    cases decide ((x.Bytes.length : Int) < 1) <;> cases decide (64 < (x.Bytes.length : Int)) <;> simp [cat_Valid, up_some]
    cases decide (0 < strS x.Use) <;> simp [up_some]
  · unfold g_pattern_Check.l1
    rw [for_out]
    cases decide (32 < (p.length : Int)) <;> rfl
theorem ref_Check (p : List api_Pattern) (hl : Lo p) : g_ref11_Check p = some (chk p) := by
  unfold g_ref11_Check chk
  cases h : decide (32 < (p.length : Int)) with
  | true => cases p.any badP <;> rfl
  | false =>
    rw [cond_false]
    refine loop_has p badP _ _ hl (fun i x hx => ?_) ?_
    · unfold g_ref11_Check.l1
      rw [for_in hx]
      unfold badP g_ref11_Check.j2
      cases decide ((x.Bytes.length : Int) < 1) <;> cases decide (64 < (x.Bytes.length : Int)) <;> simp [ref_Valid, up_some]
      cases decide (0 < strS x.Use) <;> simp [up_some]
    · unfold g_ref11_Check.l1
      rw [for_out]
      rfl
theorem chk_ok {p : List api_Pattern} (h : chk p = 0) : Pok p := by
  unfold chk at h
  cases h1 : p.any badP with
  | true => rw [h1] at h; simp at h
  | false =>
    rw [h1, cond_false] at h
    cases h2 : decide (32 < (p.length : Int)) with
    | true => rw [h2] at h; simp at h
    | false =>
      refine ⟨by have := of_decide_eq_false h2; omega, fun q hq => ?_⟩
      have := List.any_eq_false.1 h1 q hq
      unfold badP at this
      simp at this
      omega
theorem early_ok {p : List api_Pattern} {b : Bts} (hl : Lo p) : g_pattern_early p b = some (bif !decide (chk p = 0) then chk p else bif decide (4096 < (b.length : Int)) then 3 else 0) := by
  unfold g_pattern_early
  rw [patt_Check p hl, Option.bind_some]
  cases !decide (chk p = 0) <;> cases decide (4096 < (b.length : Int)) <;> rfl
theorem ofB_inj {a b : List UInt8} : (ofB a = ofB b) ↔ a = b := by
  constructor
  · intro h
    unfold ofB at h
    injection h with h
    have := congrArg Array.toList h
    simpa using this
  · rintro rfl; rfl
theorem ref_at {q b : Bts} {i : Nat} (hb : b.length ≤ 4096) (hq : q.length ≤ 64) (hi : i ≤ b.length) : g_ref11_at q b (i : Int) = some (At q b i) := by
  unfold g_ref11_at At
  rw [W_id (by omega)]
  by_cases h : q.length + i ≤ b.length
  · rw [decide_eq_true (by omega), cond_true, W_id (by omega)]
    unfold slI
    rw [if_pos (by omega), Option.bind_some]
    congr 1
    have e : ((i : Int) + (q.length : Int)).toNat - (i : Int).toNat = q.length := by omega
    rw [e, Int.toNat_natCast]
    simp only [ofB_inj]
    simp [h]
  · rw [decide_eq_false (by omega), cond_false]
    congr 1
    symm
    exact decide_eq_false fun e => h e.1
def RSk (p : List api_Pattern) (b : Bts) (i k : Nat) : List api_Hit := ((List.range k).filter fun k => At (p.getD k default).Bytes b i).map fun k : Nat => (⟨(k : Int), (i : Int)⟩ : api_Hit)
def RSn (p : List api_Pattern) (b : Bts) (n : Nat) : List api_Hit := (List.range n).flatMap fun i => RSk p b i p.length
section
variable {p : List api_Pattern} {b : Bts}
theorem RSk_succ {i k : Nat} {q : api_Pattern} (hq : p[k]? = some q) : RSk p b i (k + 1) = RSk p b i k ++ (bif At q.Bytes b i then [⟨(k : Int), (i : Int)⟩] else []) := by
  unfold RSk
  rw [List.range_succ, List.filter_append, List.map_append]
  congr 1
  rw [List.filter_cons, List.filter_nil, List.getD_eq_getElem?_getD, hq]
  cases h : At q.Bytes b i <;> simp [h]
theorem RSn_succ {n : Nat} : RSn p b (n + 1) = RSn p b n ++ RSk p b n p.length := by
  unfold RSn
  rw [List.range_succ, List.flatMap_append]
  simp
theorem RSn_len : ∀ {m n : Nat}, m ≤ n → (RSn p b m).length ≤ (RSn p b n).length
  | m, 0, h => by rw [show m = 0 by omega]; exact Nat.le_refl _
  | m, n + 1, h => by
    rcases Nat.lt_or_ge m (n + 1) with h' | h'
    · rw [RSn_succ, List.length_append]
      exact Nat.le_trans (RSn_len (m := m) (n := n) (by omega)) (Nat.le_add_right _ _)
    · rw [show m = n + 1 by omega]; exact Nat.le_refl _
theorem RSk_mem {i k : Nat} (hk : k ≤ p.length) {h : api_Hit} : h ∈ RSk p b i k ↔ ∃ (j : Nat) (q : api_Pattern), j < k ∧ p[j]? = some q ∧ h = ⟨(j : Int), (i : Int)⟩ ∧ At q.Bytes b i = true := by
  unfold RSk
  simp only [List.mem_map, List.mem_filter, List.mem_range]
  constructor
  · rintro ⟨j, ⟨h1, h2⟩, rfl⟩
    have hj : p[j]? = some p[j] := List.getElem?_eq_getElem (by omega)
    rw [List.getD_eq_getElem?_getD, hj] at h2
    exact ⟨j, _, h1, hj, rfl, h2⟩
  · rintro ⟨j, q, h1, h2, rfl, h3⟩
    exact ⟨j, ⟨h1, by rw [List.getD_eq_getElem?_getD, h2]; exact h3⟩, rfl⟩
theorem RSn_mem {n : Nat} {h : api_Hit} : h ∈ RSn p b n ↔ ∃ (k : Nat) (q : api_Pattern) (i : Nat), i < n ∧ p[k]? = some q ∧ h = ⟨(k : Int), (i : Int)⟩ ∧ At q.Bytes b i = true := by
  unfold RSn
  rw [List.mem_flatMap]
  constructor
  · rintro ⟨i, h1, h2⟩
    obtain ⟨j, q, -, a1, a2, a3⟩ := (RSk_mem (Nat.le_refl _)).1 h2
    exact ⟨j, q, i, List.mem_range.1 h1, a1, a2, a3⟩
  · rintro ⟨k, q, i, h1, h2, h3, h4⟩
    exact ⟨i, List.mem_range.2 h1, (RSk_mem (Nat.le_refl _)).2 ⟨k, q, (List.getElem?_eq_some_iff.1 h2).1, h2, h3, h4⟩⟩
theorem RS_all (hp : Pok p) {h : api_Hit} : h ∈ RSn p b b.length ↔ IsHit p b h := by
  rw [RSn_mem]
  constructor
  · rintro ⟨k, q, i, -, h2, h3, h4⟩
    exact ⟨k, q, i, h2, h3, h4⟩
  · rintro ⟨k, q, i, h2, h3, h4⟩
    have := (hp.2 q (List.mem_of_getElem? h2)).1
    have := At_le h4
    exact ⟨k, q, i, by omega, h2, h3, h4⟩
def cmpH : api_Hit → api_Hit → Int := lexC (fun a b => cmpI a.At b.At) (fun a b => cmpI a.Pattern b.Pattern)
def ltH (a b : api_Hit) : Bool := decide (cmpH a b < 0)
theorem cmpH_pre : Pre cmpH := (cmpI_pre.by_ (fun h : api_Hit => h.At)).lex (cmpI_pre.by_ (fun h : api_Hit => h.Pattern))
theorem linH : LinO ltH := cmpH_pre.lin fun a b h => by
  obtain ⟨h1, h2⟩ := lexC_eq h
  have h1 := cmpI_eq h1
  have h2 := cmpI_eq h2
  cases a; cases b
  simp at h1 h2
  rw [h1, h2]
theorem LinO.swo {α : Type} {lt : α → α → Bool} (h : LinO lt) : Sort.SWO lt where
  irrefl a := h.irrefl a
  trans a b c h1 h2 := h.trans _ _ _ h1 h2
  ntrans a b c h1 h2 := by
    cases h0 : lt a c with
    | false => rfl
    | true =>
      cases h3 : lt b a with
      | true => have := h.trans _ _ _ h3 h0; rw [h2] at this; cases this
      | false =>
        rw [h.tot _ _ h1 h3] at h0
        rw [h2] at h0; cases h0
theorem compare_ok (x y : Int) : g_cmp_Compare_int x y = some (cmpI x y) := by
  unfold g_cmp_Compare_int g_cmp_isNaN_int cmpI
  simp only [Option.bind_some, decide_true, Bool.not_true, cond_false]
  cases decide (x < y) <;> cases decide (y < x) <;> rfl
theorem or_ok (x y : Int) : g_cmp_Or_int [x, y] = some (bif decide (x = 0) then y else x) := by
  have h0 : g_cmp_Or_int.l1 [x, y] 0 = (cond (!decide (x = 0)) (some (.done x)) (some (.next 1))) := by
    unfold g_cmp_Or_int.l1
    rw [show decide ((0 : Int) < (([x, y] : List Int).length : Int)) = true by simp, cond_true, getI_z]
    rfl
  have h1 : g_cmp_Or_int.l1 [x, y] 1 = (cond (!decide (y = 0)) (some (.done y)) (some (.next 2))) := by
    unfold g_cmp_Or_int.l1
    rw [show decide ((1 : Int) < (([x, y] : List Int).length : Int)) = true by simp, cond_true, show (1 : Int) = ((1 : Nat) : Int) from rfl, getI_nat]
    rfl
  have h2 : g_cmp_Or_int.l1 [x, y] 2 = some (.done 0) := by
    unfold g_cmp_Or_int.l1
    rw [show decide ((2 : Int) < (([x, y] : List Int).length : Int)) = false by simp, cond_false]
    rfl
  unfold g_cmp_Or_int
  by_cases hx : x = 0
  · subst hx
    rw [loop_next (body := fun q' => g_cmp_Or_int.l1 [0, y] q') (s' := 1) h0]
    by_cases hy : y = 0
    · subst hy
      rw [loop_next (body := fun q' => g_cmp_Or_int.l1 [0, 0] q') (s' := 2) h1, loop_done (body := fun q' => g_cmp_Or_int.l1 [0, 0] q') h2]
      rfl
    · rw [loop_done (body := fun q' => g_cmp_Or_int.l1 [0, y] q') (r := y) (by rw [h1]; simp [hy])]
      rfl
  · rw [loop_done (body := fun q' => g_cmp_Or_int.l1 [x, y] q') (r := x) (by rw [h0]; simp [hx])]
    simp [hx]
theorem cmpOkH : CmpOk_api_Hit (fun x0 x1 => g_pattern_Find_c2 x0 x1) ltH (fun _ => True) := fun x y _ _ => by
  refine ⟨cmpH x y, ?_, rfl⟩
  unfold g_pattern_Find_c2
  simp only [compare_ok, Option.bind_some, or_ok]
  rfl
theorem ltH_of {a b : api_Hit} (h : a.At < b.At ∨ a.At = b.At ∧ a.Pattern < b.Pattern) : ltH a b = true := by
  unfold ltH cmpH
  rw [decide_eq_true_eq]
  rcases h with h | ⟨h1, h2⟩
  · rw [lexC_n]
    · unfold cmpI; rw [decide_eq_true h, cond_true]; omega
    · unfold cmpI; rw [decide_eq_true h, cond_true]; omega
  · rw [lexC_z]
    · unfold cmpI; rw [decide_eq_true h2, cond_true]; omega
    · unfold cmpI; rw [decide_eq_false (by omega), decide_eq_false (by omega)]; rfl
theorem RSk_asc {i : Nat} : ∀ {k : Nat}, k ≤ p.length → Asc ltH (RSk p b i k)
  | 0, _ => by simp [RSk, Asc]
  | k + 1, hk => by
    have hq : p[k]? = some p[k] := List.getElem?_eq_getElem (by omega)
    rw [RSk_succ hq]
    refine List.pairwise_append.2 ⟨RSk_asc (by omega), by cases At (p[k]).Bytes b i <;> simp, fun x hx y hy => ?_⟩
    obtain ⟨j, q, h1, -, rfl, -⟩ := (RSk_mem (by omega)).1 hx
    cases hc : At (p[k]).Bytes b i with
    | false => rw [hc] at hy; simp at hy
    | true =>
      rw [hc] at hy
      simp at hy
      subst hy
      exact ltH_of (.inr ⟨rfl, by show (j : Int) < (k : Int); omega⟩)
theorem RSn_asc : ∀ {n : Nat}, Asc ltH (RSn p b n)
  | 0 => by simp [RSn, Asc]
  | n + 1 => by
    rw [RSn_succ]
    refine List.pairwise_append.2 ⟨RSn_asc, RSk_asc (Nat.le_refl _), fun x hx y hy => ?_⟩
    obtain ⟨k, q, i, h1, -, rfl, -⟩ := RSn_mem.1 hx
    obtain ⟨j, q', -, -, rfl, -⟩ := (RSk_mem (Nat.le_refl _)).1 hy
    exact ltH_of (.inl (by show (i : Int) < (n : Int); omega))
def findS (p : List api_Pattern) (b : Bts) : List api_Hit × Int := bif decide (1000 < (RSn p b b.length).length) then ([], 3) else (RSn p b b.length, 0)
theorem ref_Find_ok (hl : Lo p) (hc : chk p = 0) (hb : b.length ≤ 4096) : g_ref11_Find p b = some (findS p b) := by
  have hp := chk_ok hc
  unfold g_ref11_Find
  rw [ref_Check p hl, Option.bind_some, hc]
  rw [show (!decide ((0 : Int) = 0)) = false by decide, cond_false, decide_eq_false (by omega), cond_false]
  suffices h : Ok (loop (fun q' => g_ref11_Find.l1 p b q'.1 q'.2) ((0 : Int), ([] : List api_Hit))) (fun r => r = findS p b) by
    obtain ⟨r, h1, h2⟩ := h
    rw [h1, h2]
  have hpl := hp.1
  refine Ok.loop (fun t => ∃ i : Nat, t.1 = (i : Int) ∧ i ≤ b.length ∧ t.2 = RSn p b i ∧ (RSn p b i).length ≤ 1000) (fun t => b.length - t.1.toNat) ?_ ⟨0, rfl, Nat.zero_le _, rfl, by simp [RSn]⟩
  rintro ⟨x, out⟩ ⟨i, h1, h2, h3, h4⟩
  simp only at h1 h3 ⊢
  subst h1 h3
  unfold g_ref11_Find.l1
  refine Ok.cond (fun hlt => ?_) fun hge => ?_
  · have hi : i < b.length := by simp at hlt; exact hlt
    have hkl : ∀ k, (RSk p b i k).length ≤ k := fun k => by
      unfold RSk
      rw [List.length_map]
      exact Nat.le_trans (List.length_filter_le _ _) (by simp)
    refine Ok.loop (fun t => ∃ k : Nat, t.1 = (k : Int) ∧ k ≤ p.length ∧ t.2 = RSn p b i ++ RSk p b i k) (fun t => p.length - t.1.toNat) ?_ ⟨0, rfl, Nat.zero_le _, by simp [RSk]⟩
    rintro ⟨y, out'⟩ ⟨k, c1, c2, c3⟩
    simp only at c1 c3 ⊢
    subst c1 c3
    unfold g_ref11_Find.l2
    refine Ok.cond (fun hlt2 => ?_) fun hge2 => ?_
    · have hk : k < p.length := by simp at hlt2; exact hlt2
      have hq : p[k]? = some p[k] := List.getElem?_eq_getElem hk
      generalize p[k] = q at hq
      refine Ok.bindE (by rw [getI_nat]; exact hq) ?_
      refine Ok.bindE (ref_at hb (hp.2 q (List.mem_of_getElem? hq)).2 (by omega)) ?_
      have hm : p.length - (W ((k : Int) + 1)).toNat < p.length - (k : Int).toNat := by
        rw [W_succ (by omega)]
        omega
      unfold g_ref11_Find.j3
      refine Ok.cond (fun ht => ?_) fun hf => ?_
      · refine Ok.bindE (appI_ok (by have := hkl k; rw [List.length_append, List.length_singleton]; omega)) ?_
        refine Ok.ret ⟨⟨k + 1, W_succ (by omega), hk, ?_⟩, hm⟩
        rw [RSk_succ hq, ht, cond_true, List.append_assoc]
      · refine Ok.ret ⟨⟨k + 1, W_succ (by omega), hk, ?_⟩, hm⟩
        rw [RSk_succ hq, hf, cond_false, List.append_nil]
    · have hk : k = p.length := by simp at hge2; omega
      subst hk
      refine Ok.up ?_
      rw [← RSn_succ]
      refine Ok.cond (fun hbig => Ok.up (Ok.ret ?_)) fun hsm => Ok.ret ⟨⟨i + 1, W_succ (by omega), hi, rfl, by have hsm := of_decide_eq_false hsm; omega⟩, ?_⟩
      · have hbig := of_decide_eq_true hbig
        have := RSn_len (p := p) (b := b) (m := i + 1) (n := b.length) hi
        unfold findS
        rw [decide_eq_true (by omega), cond_true]
      · show b.length - (W ((i : Int) + 1)).toNat < _
        rw [W_succ (by omega)]
        omega
  · have hi : i = b.length := by simp at hge; omega
    subst hi
    refine Ok.up (Ok.ret ?_)
    unfold findS
    rw [decide_eq_false (by omega), cond_false]
theorem Find_ok (hl : Lo p) (hc : chk p = 0) (hb : b.length ≤ 4096) : g_pattern_Find p b = some (findS p b) := by
  have hp := chk_ok hc
  unfold g_pattern_Find
  rw [early_ok hl, Option.bind_some, hc]
  rw [show (bif !decide ((0 : Int) = 0) then 0 else bif decide (4096 < (b.length : Int)) then 3 else 0 : Int) = 0 by
    rw [show (!decide ((0 : Int) = 0)) = false by decide, cond_false, decide_eq_false (by omega)]; rfl]
  rw [show (!decide ((0 : Int) = 0)) = false by decide, cond_false]
  have hh := hits_ok_List_api_Hit (p := p) (b := b) (Inv := fun l s => s = l ∧ l.length ≤ 1000) (Stop := fun l s => s = l ∧ 1000 < l.length) (yield := fun x0 b0 => g_pattern_Find_c1 x0 b0) (s0 := []) hp hb (fun l h s ⟨h1, h2⟩ _ => by
    subst h1
    unfold g_pattern_Find_c1
    refine Ok.bindE (appI_ok (by rw [List.length_singleton]; omega)) (Ok.ret ⟨fun h => ⟨rfl, ?_⟩, fun h => ⟨rfl, ?_⟩⟩)
    · have h := of_decide_eq_true h
      omega
    · have h := of_decide_eq_false h
      omega) ⟨rfl, by simp⟩
  suffices h : Ok ((g_pattern_hits_List_api_Hit p b (fun x0 b0 => g_pattern_Find_c1 x0 b0) ([] : List api_Hit)).bind fun y_2 =>
      cond (decide (1000 < (y_2.length : Int)))
        (some (([] : (List api_Hit)), (3 : Int)))
        ((g_slices_SortFunc_api_Hit y_2 (fun x0 x1 => g_pattern_Find_c2 x0 x1)).bind fun y_3 =>
        some (y_3, 0))) (fun r => r = findS p b) by
    obtain ⟨r, h1, h2⟩ := h
    rw [h1, h2]
  refine Ok.bind hh ?_
  rintro s ⟨ws, ss, hD, hs⟩
  have hmem : ∀ h, h ∈ HS p ss ws b b.length ↔ h ∈ RSn p b b.length := fun h => (HS_all hD hp).trans (RS_all hp).symm
  have hn1 := HS_nodup (b := b) hD (Nat.le_refl _)
  have hn2 := (RSn_asc (p := p) (b := b) (n := b.length)).nodup linH
  have hlen : (HS p ss ws b b.length).length = (RSn p b b.length).length := Nat.le_antisymm (List.Nodup.length_le_of_subset hn1 fun h hh => (hmem h).1 hh) (List.Nodup.length_le_of_subset hn2 fun h hh => (hmem h).2 hh)
  rcases hs with ⟨rfl, h2⟩ | ⟨l, h1, rfl, h2⟩
  · refine Ok.cond (fun hbig => by have := of_decide_eq_true hbig; omega) fun _ => ?_
    refine Ok.bind (sortF_api_Hit linH.swo cmpOkH _ (by omega) (fun _ _ => trivial)) ?_
    rintro r ⟨h3, h4⟩
    refine Ok.ret ?_
    have : r = RSn p b b.length := by
      refine asc_ext linH ?_ RSn_asc fun x => h3.mem_iff.trans (hmem x)
      have hnr : r.Nodup := h3.nodup_iff.2 hn1
      exact (List.pairwise_and_iff.2 ⟨h4, hnr⟩).imp fun {x y} hxy => by
        cases hlt : ltH x y with
        | true => rfl
        | false => exact absurd (linH.tot x y hlt hxy.1) hxy.2
    rw [this]
    unfold findS
    rw [decide_eq_false (by omega), cond_false]
  · refine Ok.cond (fun _ => Ok.ret ?_) fun hsm => by have := of_decide_eq_false hsm; omega
    have := h1.length_le
    unfold findS
    rw [decide_eq_true (by omega), cond_true]
end
end Go.Proofs.Ytfkgbfhpibiheaa
