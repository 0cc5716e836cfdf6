/- Chapter 11, plain: the tree of the beginnings of patterns. -/
import Derived.Test.YtfkgbfhpibiheaaZ1
import Derived.Test.YtfkgbfhpibiheaaP1
import Derived.IntWalk
set_option linter.unusedVariables false
set_option linter.unusedSimpArgs false
set_option maxRecDepth 100000
namespace Go.Proofs.Ytfkgbfhpibiheaa
open Go
def b8 (c : Nat) : UInt8 := UInt8.ofNat c
theorem b8_of (c : UInt8) : b8 c.toNat = c := by unfold b8; simp
theorem of_b8 {c : Nat} (h : c < 256) : (b8 c).toNat = c := by unfold b8; simp; omega
theorem b8_inj {c d : Nat} (hc : c < 256) (hd : d < 256) (h : b8 c = b8 d) : c = d := by rw [← of_b8 hc, h, of_b8 hd]
theorem arrL_id {n : Nat} {l : List Int} (h : l.length = n) : arrL n l = l := by
  subst h
  refine List.ext_getElem (by simp [arrL]) fun i h1 h2 => ?_
  simp [arrL, h2]
theorem snoc_eq {w w' : Bts} {c c' : UInt8} : w ++ [c] = w' ++ [c'] ↔ w = w' ∧ c = c' := by
  constructor
  · intro h
    have := List.append_inj' h rfl
    exact ⟨this.1, by simpa using this.2⟩
  · rintro ⟨rfl, rfl⟩; rfl
theorem Lk_app {ws : List Bts} {x y : Bts} (hn : ws.Nodup) (hx : x ∉ ws) : Lk (ws ++ [x]) y = if y = x then (ws.length : Int) else Lk ws y := by
  have hn' : (ws ++ [x]).Nodup := by
    rw [List.nodup_append]
    exact ⟨hn, by simp, fun a ha b hb => by simp at hb; subst hb; rintro rfl; exact hx ha⟩
  split
  · rename_i h
    subst h
    exact Lk_at hn' (by simp)
  · rename_i h
    by_cases hy : y ∈ ws
    · obtain ⟨i, h1, h2⟩ := Lk_mem hn hy
      rw [h2]
      exact Lk_at hn' (by rw [List.getElem?_append_left (List.getElem?_eq_some_iff.1 h1).1]; exact h1)
    · rw [Lk_no hy]
      exact Lk_no (by simp [hy, h])
def En (p : List api_Pattern) (K : Nat) (w : Bts) : List Int := ((List.range K).filter fun k => decide ((p[k]?.map (·.Bytes)) = some w)).map fun (k : Nat) => (k : Int)
theorem En_succ {p : List api_Pattern} {K : Nat} {q : api_Pattern} {w : Bts} (h : p[K]? = some q) : En p (K + 1) w = if q.Bytes = w then En p K w ++ [(K : Int)] else En p K w := by
  unfold En
  rw [List.range_succ, List.filter_append, List.map_append]
  by_cases hw : q.Bytes = w
  · rw [if_pos hw]
    simp [h, hw]
  · rw [if_neg hw]
    simp [h, hw]
theorem En_nil {p : List api_Pattern} {K : Nat} {w : Bts} (h : ∀ k q, k < K → p[k]? = some q → q.Bytes ≠ w) : En p K w = [] := by
  unfold En
  rw [List.map_eq_nil_iff, List.filter_eq_nil_iff]
  intro k hk
  have hk := List.mem_range.1 hk
  cases hp : p[k]? with
  | none => simp
  | some q => simp; exact h k q hk hp
theorem En_mem {p : List api_Pattern} {K : Nat} {w : Bts} {x : Int} : x ∈ En p K w ↔ ∃ k q, x = ((k : Nat) : Int) ∧ k < K ∧ p[k]? = some q ∧ q.Bytes = w := by
  unfold En
  simp only [List.mem_map, List.mem_filter, List.mem_range, decide_eq_true_eq]
  constructor
  · rintro ⟨k, ⟨h1, h2⟩, rfl⟩
    cases hp : p[k]? with
    | none => rw [hp] at h2; simp at h2
    | some q => rw [hp] at h2; simp at h2; exact ⟨k, q, rfl, h1, hp, h2⟩
  · rintro ⟨k, q, rfl, h1, h2, h3⟩
    exact ⟨k, ⟨h1, by rw [h2]; simp [h3]⟩, rfl⟩
theorem En_nodup {p : List api_Pattern} {K : Nat} {w : Bts} : (En p K w).Nodup := by
  unfold En
  have h : ((List.range K).filter fun k => decide ((p[k]?.map (·.Bytes)) = some w)).Nodup := List.nodup_range.sublist List.filter_sublist
  rw [List.Nodup, List.pairwise_map]
  exact h.imp fun h e => h (Int.ofNat.inj e)
structure Tr (p : List api_Pattern) (K : Nat) (ws : List Bts) (ss : List pattern_state) : Prop where
  hn : ws.Nodup
  hc : Clo ws
  h0 : ws[0]? = some []
  len : ss.length = ws.length
  st : ∀ (i : Nat) s w, ss[i]? = some s → ws[i]? = some w → s.next.length = 256 ∧ (∀ c : Nat, c < 256 → s.next[c]? = some (Lk ws (w ++ [b8 c]))) ∧ s.back = 0 ∧ s.ends = En p K w
  pats : ∀ k q, k < K → p[k]? = some q → q.Bytes ∈ ws
theorem empty_eq : g_pattern_tree_c1 = some ⟨List.replicate 256 (-1), 0, []⟩ := by
  unfold g_pattern_tree_c1
  have h := loop_path (body := fun q' => g_pattern_tree_c1.l1 q'.1 q'.2) 256 (fun i => ((i : Int), List.replicate i (-1) ++ List.replicate (256 - i) (0 : Int))) (⟨List.replicate 256 (-1), 0, []⟩ : pattern_state) (fun i hi => by
    show g_pattern_tree_c1.l1 _ _ = _
    unfold g_pattern_tree_c1.l1
    simp only []
    rw [show decide ((i : Int) < 256) = true by simp; omega, cond_true, arrL_id (by simp; omega), getI_nat, List.getElem?_append_right (by simp), List.length_replicate, Nat.sub_self, List.getElem?_replicate, if_pos (by omega)]
    simp only [Option.bind_some]
    rw [W_id (by omega)]
    congr 3
    unfold setI
    rw [Int.toNat_natCast, List.set_append_right _ _ (by simp), List.length_replicate, Nat.sub_self, show 256 - i = (256 - (i + 1)) + 1 by omega, List.replicate_succ, List.set_cons_zero, List.replicate_succ', List.append_assoc]
    rfl) (by
    show g_pattern_tree_c1.l1 _ _ = _
    unfold g_pattern_tree_c1.l1
    simp
    rfl)
  exact h
theorem Tr.root : ∀ p, Tr p 0 [[]] [⟨List.replicate 256 (-1), 0, []⟩] := fun p => by
  refine ⟨by simp, ⟨by simp, fun w c h => by simp at h⟩, rfl, rfl, fun i s w h1 h2 => ?_, fun k q h => absurd h (by omega)⟩
  have hi : i = 0 := by
    have := (List.getElem?_eq_some_iff.1 h1).1
    simp at this
    exact this
  subst hi
  injection h1 with h1
  injection h2 with h2
  subst h1 h2
  refine ⟨List.length_replicate, fun c hc => ?_, rfl, ?_⟩
  · rw [Lk_no (by simp), List.getElem?_replicate, if_pos hc]
  · rfl
theorem Tr.add {p : List api_Pattern} {K i : Nat} {ws : List Bts} {ss : List pattern_state} {w : Bts} {c : UInt8} {s : pattern_state} (h : Tr p K ws ss) (hi : ws[i]? = some w) (hs : ss[i]? = some s) (hx : w ++ [c] ∉ ws) :
    Tr p K (ws ++ [w ++ [c]]) (ss.set i ⟨s.next.set c.toNat (ws.length : Int), s.back, s.ends⟩ ++ [⟨List.replicate 256 (-1), 0, []⟩]) := by
  have hlt := (List.getElem?_eq_some_iff.1 hi).1
  refine ⟨?_, ⟨List.mem_append_left _ h.hc.1, fun v d hv => ?_⟩, ?_, ?_, fun j t v ht hv => ?_, fun k q hk hq => List.mem_append_left _ (h.pats k q hk hq)⟩
  · rw [List.nodup_append]
    exact ⟨h.hn, by simp, fun a ha b hb => by simp at hb; subst hb; rintro rfl; exact hx ha⟩
  · rcases List.mem_append.1 hv with hv | hv
    · exact List.mem_append_left _ (h.hc.2 v d hv)
    · rw [List.mem_singleton, snoc_eq] at hv
      rw [hv.1]
      exact List.mem_append_left _ (List.mem_of_getElem? hi)
  · rw [List.getElem?_append_left (by omega)]; exact h.h0
  · simp [h.len]
  · rcases Nat.lt_or_ge j ws.length with hj | hj
    · rw [List.getElem?_append_left hj] at hv
      rw [List.getElem?_append_left (by simp [h.len]; exact hj)] at ht
      by_cases hij : i = j
      · subst hij
        rw [hi] at hv
        injection hv with hv
        subst hv
        rw [List.getElem?_set_self (by rw [h.len]; exact hj)] at ht
        injection ht with ht
        subst ht
        obtain ⟨h1, h2, h3, h4⟩ := h.st i s w hs hi
        refine ⟨by simp [h1], fun d hd => ?_, h3, h4⟩
        rw [Lk_app h.hn hx, List.getElem?_set]
        by_cases hcd : c.toNat = d
        · rw [if_pos hcd, if_pos (by rw [h1, hcd]; exact hd), if_pos]
          rw [← hcd, b8_of]
        · rw [if_neg hcd, if_neg]
          · exact h2 d hd
          · intro e
            rw [snoc_eq] at e
            apply hcd
            rw [← e.2, of_b8 hd]
      · rw [List.getElem?_set_ne hij] at ht
        obtain ⟨h1, h2, h3, h4⟩ := h.st j t v ht hv
        refine ⟨h1, fun d hd => ?_, h3, h4⟩
        rw [Lk_app h.hn hx, if_neg]
        · exact h2 d hd
        · intro e
          rw [snoc_eq] at e
          rw [e.1] at hv
          exact hij (nodup_at h.hn hi hv)
    · have hj' : j = ws.length := by
        have := (List.getElem?_eq_some_iff.1 hv).1
        simp at this
        omega
      subst hj'
      rw [List.getElem?_append_right (Nat.le_refl _)] at hv
      rw [List.getElem?_append_right (by simp [h.len])] at ht
      rw [Nat.sub_self] at hv
      rw [show ws.length - (ss.set i ⟨s.next.set c.toNat (ws.length : Int), s.back, s.ends⟩).length = 0 by simp [h.len]] at ht
      injection hv with hv
      injection ht with ht
      subst hv ht
      refine ⟨List.length_replicate, fun d hd => ?_, rfl, ?_⟩
      · rw [Lk_no, List.getElem?_replicate, if_pos hd]
        intro hm
        rcases List.mem_append.1 hm with hm | hm
        · exact hx (h.hc.2 _ _ hm)
        · have := congrArg List.length (List.mem_singleton.1 hm)
          simp at this
      · exact (En_nil fun k q hk hq e => hx (by rw [← e]; exact h.pats k q hk hq)).symm
theorem Tr.done {p : List api_Pattern} {K i : Nat} {ws : List Bts} {ss : List pattern_state} {q : api_Pattern} {s : pattern_state} (h : Tr p K ws ss) (hq : p[K]? = some q) (hi : ws[i]? = some q.Bytes) (hs : ss[i]? = some s) :
    Tr p (K + 1) ws (ss.set i ⟨s.next, s.back, s.ends ++ [(K : Int)]⟩) := by
  refine ⟨h.hn, h.hc, h.h0, by simp [h.len], fun j t v ht hv => ?_, fun k q' hk hq' => ?_⟩
  · by_cases hij : i = j
    · subst hij
      rw [hi] at hv
      injection hv with hv
      subst hv
      rw [List.getElem?_set_self (List.getElem?_eq_some_iff.1 hs).1] at ht
      injection ht with ht
      subst ht
      obtain ⟨h1, h2, h3, h4⟩ := h.st i s _ hs hi
      refine ⟨h1, h2, h3, ?_⟩
      rw [En_succ hq, if_pos rfl, h4]
    · rw [List.getElem?_set_ne hij] at ht
      obtain ⟨h1, h2, h3, h4⟩ := h.st j t v ht hv
      refine ⟨h1, h2, h3, ?_⟩
      rw [En_succ hq, if_neg, h4]
      intro e
      rw [← e] at hv
      exact hij (nodup_at h.hn hi hv)
  · rcases Nat.lt_or_ge k K with hk' | hk'
    · exact h.pats k q' hk' hq'
    · have : k = K := by omega
      subst this
      rw [hq] at hq'
      injection hq' with hq'
      rw [← hq']
      exact List.mem_of_getElem? hi
def Pok (p : List api_Pattern) : Prop := p.length ≤ 32 ∧ ∀ q ∈ p, 1 ≤ q.Bytes.length ∧ q.Bytes.length ≤ 64
theorem tree_ok {p : List api_Pattern} (hp : Pok p) : Ok (g_pattern_tree p) (fun ss => ∃ ws, Tr p p.length ws ss ∧ ws.length ≤ 1 + 64 * p.length) := by
  unfold g_pattern_tree
  refine Ok.bindE empty_eq ?_
  refine Ok.loop (fun q => ∃ (K : Nat) (ws : List Bts), q.1 = (K : Int) ∧ K ≤ p.length ∧ Tr p K ws q.2 ∧ ws.length ≤ 1 + 64 * K) (fun q => p.length - q.1.toNat) ?_ ⟨0, [[]], rfl, Nat.zero_le _, Tr.root p, by simp⟩
  rintro ⟨x, ss⟩ ⟨K, ws, hx, hK, ht, hl⟩
  simp only at hx ht ⊢
  subst hx
  unfold g_pattern_tree.l1
  refine Ok.cond (fun hlt => ?_) fun hge => ?_
  · simp at hlt
    have hq : p[K]? = some p[K] := List.getElem?_eq_getElem hlt
    refine Ok.bindE (by rw [getI_nat]; exact hq) ?_
    generalize p[K] = q at hq ⊢
    have hql := (hp.2 q (List.mem_of_getElem? hq)).2
    refine Ok.loop (fun t => ∃ (i j : Nat) (ws' : List Bts), t.1 = (i : Int) ∧ t.2.1 = (j : Int) ∧ j ≤ q.Bytes.length ∧ ws'[i]? = some (q.Bytes.take j) ∧ Tr p K ws' t.2.2 ∧ ws'.length ≤ 1 + 64 * K + j) (fun t => q.Bytes.length - t.2.1.toNat) ?_ ⟨0, 0, ws, rfl, rfl, Nat.zero_le _, by rw [List.take_zero]; exact ht.h0, ht, by omega⟩
    rintro ⟨at', y, ss'⟩ ⟨i, j, ws', h1, h2, h3, h4, h5, h6⟩
    simp only at h1 h2 h5 ⊢
    subst h1 h2
    have hil := (List.getElem?_eq_some_iff.1 h4).1
    have hs : ss'[i]? = some (ss'[i]'(by rw [h5.len]; exact hil)) := List.getElem?_eq_getElem _
    generalize (ss'[i]'(by rw [h5.len]; exact hil)) = s at hs
    obtain ⟨n1, n2, n3, n4⟩ := h5.st i s _ hs h4
    unfold g_pattern_tree.l2
    refine Ok.cond (fun hlt2 => ?_) fun hge2 => ?_
    · simp at hlt2
      have hb : q.Bytes[j]? = some q.Bytes[j] := List.getElem?_eq_getElem hlt2
      refine Ok.bindE (by rw [getI_nat]; exact hb) ?_
      generalize q.Bytes[j] = c at hb ⊢
      have hc := c.toNat_lt
      have htake : q.Bytes.take (j + 1) = q.Bytes.take j ++ [c] := take_succ' hb
      refine Ok.bindE (by rw [getI_nat]; exact hs) ?_
      have hnx := n2 c.toNat hc
      rw [b8_of] at hnx
      refine Ok.bindE (by rw [arrL_id n1, getI_nat]; exact hnx) ?_
      refine Ok.cond (fun hneg => ?_) fun hpos => ?_
      · simp at hneg
        have hno := (Lk_neg h5.hn).1 hneg
        refine Ok.bindE empty_eq ?_
        have hw : IntKind.i16.wrap (ss'.length : Int) = (ws'.length : Int) := by
          rw [h5.len]
          have := hp.1
          exact IntWalk.i16_in _ (by omega)
        have hadd := h5.add h4 hs hno
        rw [hw, arrL_id n1, Int.toNat_natCast, Int.toNat_natCast]
        have hlen := h5.len
        refine Ok.bindE (appI_ok (by have := hp.1; simp [setI]; omega)) ?_
        unfold g_pattern_tree.j3
        refine Ok.bindE (a := ⟨s.next.set c.toNat (ws'.length : Int), s.back, s.ends⟩) (by
          rw [getI_nat, List.getElem?_append_left (by simp [setI]; omega)]
          unfold setI
          rw [List.getElem?_set_self (by omega)]) ?_
        refine Ok.bindE (a := (ws'.length : Int)) (by rw [arrL_id (by simp [n1]), getI_nat, List.getElem?_set_self (by rw [n1]; exact hc)]) ?_
        refine Ok.ret ⟨⟨ws'.length, j + 1, ws' ++ [q.Bytes.take j ++ [c]], rfl, W_succ (by omega), hlt2, by rw [htake]; simp, hadd, by simp; omega⟩, ?_⟩
        show q.Bytes.length - (W ((j : Int) + 1)).toNat < _
        rw [W_succ (by omega)]
        omega
      · simp at hpos
        unfold g_pattern_tree.j3
        refine Ok.bindE (by rw [getI_nat]; exact hs) ?_
        refine Ok.bindE (by rw [arrL_id n1, getI_nat]; exact hnx) ?_
        have hm : q.Bytes.take j ++ [c] ∈ ws' := Classical.byContradiction fun h => by rw [Lk_no h] at hpos; omega
        obtain ⟨t, ht1, ht2⟩ := Lk_mem h5.hn hm
        refine Ok.ret ⟨⟨t, j + 1, ws', ht2, W_succ (by omega), hlt2, by rw [htake]; exact ht1, h5, by omega⟩, ?_⟩
        show q.Bytes.length - (W ((j : Int) + 1)).toNat < _
        rw [W_succ (by omega)]
        omega
    · simp at hge2
      have hj : j = q.Bytes.length := by omega
      subst hj
      rw [List.take_length] at h4
      refine Ok.up ?_
      refine Ok.bindE (by rw [getI_nat]; exact hs) ?_
      have hel : s.ends.length ≤ K := by
        rw [n4]
        unfold En
        rw [List.length_map]
        exact Nat.le_trans (List.length_filter_le _ _) (by simp)
      refine Ok.bindE (appI_ok (by have := hp.1; simp; omega)) ?_
      refine Ok.ret ⟨⟨K + 1, ws', W_succ (by have := hp.1; omega), hlt, ?_, by omega⟩, ?_⟩
      · rw [Int.toNat_natCast]
        exact h5.done hq h4 hs
      · show p.length - (W ((K : Int) + 1)).toNat < _
        rw [W_succ (by have := hp.1; omega)]
        omega
  · simp at hge
    have : K = p.length := by omega
    subst this
    exact Ok.up (Ok.ret ⟨ws, ht, hl⟩)
end Go.Proofs.Ytfkgbfhpibiheaa
