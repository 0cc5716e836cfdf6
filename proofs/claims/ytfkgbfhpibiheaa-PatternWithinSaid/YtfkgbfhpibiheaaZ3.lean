/- Chapter 11, plain: the machine of the search. -/
import Derived.Test.YtfkgbfhpibiheaaZ2
set_option linter.unusedVariables false
set_option linter.unusedSimpArgs false
set_option maxRecDepth 100000
namespace Go.Proofs.Ytfkgbfhpibiheaa
open Go
def EndsOk (p : List api_Pattern) (w : Bts) (l : List Int) : Prop := l.Nodup ∧ ∀ x, x ∈ l ↔ ∃ k q, x = ((k : Nat) : Int) ∧ p[k]? = some q ∧ q.Bytes <:+ w
structure Wk (p : List api_Pattern) (ws : List Bts) : Prop where
  hn : ws.Nodup
  hc : Clo ws
  h0 : ws[0]? = some []
  pats : ∀ (k : Nat) q, p[k]? = some q → q.Bytes ∈ ws
def nx (ws : List Bts) (w : Bts) (m c : Nat) : Int := if c < m then Lk ws (lg ws (w ++ [b8 c])) else Lk ws (w ++ [b8 c])
structure Mc (p : List api_Pattern) (ws : List Bts) (ss : List pattern_state) (m : Nat → Nat) (fin inD : Nat → Prop) : Prop where
  len : ss.length = ws.length
  st : ∀ (i : Nat) s w, ss[i]? = some s → ws[i]? = some w → s.next.length = 256 ∧ (∀ c : Nat, c < 256 → s.next[c]? = some (nx ws w (m i) c)) ∧ (inD i → s.back = Lk ws (lg ws w.tail)) ∧ (fin i → EndsOk p w s.ends) ∧ (¬ fin i → s.ends = En p p.length w)
def wl (ws : List Bts) (i : Nat) : Nat := (ws.getD i []).length
theorem wl_at {ws : List Bts} {i : Nat} {w : Bts} (h : ws[i]? = some w) : wl ws i = w.length := by unfold wl; rw [List.getD_eq_getElem?_getD, h]; rfl
structure Od (ws : List Bts) (dn qu : List Nat) : Prop where
  lt : ∀ i ∈ dn ++ qu, i < ws.length
  nd : (dn ++ qu).Nodup
  so : (dn ++ qu).Pairwise fun i j => wl ws i ≤ wl ws j
  z : 0 ∈ dn ++ qu
  ch : ∀ (i j : Nat) w c, j ∈ dn → ws[j]? = some w → ws[i]? = some (w ++ [c]) → i ∈ dn ++ qu
  pa : ∀ (i : Nat) w c, i ∈ dn ++ qu → ws[i]? = some (w ++ [c]) → ∃ j ∈ dn, ws[j]? = some w
def kids (ws : List Bts) (w : Bts) (c : Nat) : List Nat := (List.range c).filterMap fun d => ws.findIdx? fun x => decide (x = w ++ [b8 d])
theorem find_at {ws : List Bts} (hn : ws.Nodup) {x : Bts} {i : Nat} : (ws.findIdx? fun y => decide (y = x)) = some i ↔ ws[i]? = some x := by
  constructor
  · intro h
    rw [List.findIdx?_eq_some_iff_getElem] at h
    obtain ⟨h1, h2, -⟩ := h
    rw [List.getElem?_eq_getElem h1]
    simpa using h2
  · intro h
    have := Lk_at hn h
    unfold Lk at this
    cases hf : ws.findIdx? fun y => decide (y = x) with
    | none => rw [hf] at this; simp at this
    | some j => rw [hf] at this; have := Int.ofNat.inj this; rw [this]
theorem kids_succ {ws : List Bts} {w : Bts} {c : Nat} : kids ws w (c + 1) = kids ws w c ++ (match ws.findIdx? (fun x => decide (x = w ++ [b8 c])) with | some t => [t] | none => []) := by
  unfold kids
  rw [List.range_succ, List.filterMap_append]
  congr 1
  simp only [List.filterMap_cons, List.filterMap_nil]
  cases ws.findIdx? fun x => decide (x = w ++ [b8 c]) <;> rfl
theorem kids_mem {ws : List Bts} (hn : ws.Nodup) {w : Bts} {c i : Nat} : i ∈ kids ws w c ↔ ∃ d, d < c ∧ ws[i]? = some (w ++ [b8 d]) := by
  unfold kids
  simp only [List.mem_filterMap, List.mem_range, find_at hn]
theorem kids_nodup {ws : List Bts} (hn : ws.Nodup) {w : Bts} : ∀ {c : Nat}, c ≤ 256 → (kids ws w c).Nodup
  | 0, _ => by simp [kids]
  | c + 1, hc => by
    rw [kids_succ]
    cases hf : ws.findIdx? fun x => decide (x = w ++ [b8 c]) with
    | none => simpa using kids_nodup hn (by omega)
    | some t =>
      rw [List.nodup_append]
      refine ⟨kids_nodup hn (by omega), by simp, fun a ha b hb => ?_⟩
      simp at hb
      subst hb
      rintro rfl
      obtain ⟨d, h1, h2⟩ := (kids_mem hn).1 ha
      have h3 := (find_at hn).1 hf
      rw [h2] at h3
      injection h3 with h3
      rw [snoc_eq] at h3
      have := b8_inj (by omega) (by omega) h3.2
      omega
theorem Od.less {ws : List Bts} {dn qu : List Nat} {a : Nat} (h : Od ws dn (a :: qu)) (hc : Clo ws) (hn : ws.Nodup) (h0 : ws[0]? = some []) : ∀ (n i : Nat) w, w.length = n → ws[i]? = some w → w.length < wl ws a → i ∈ dn := by
  intro n
  induction n using Nat.strongRecOn with
  | _ n ih =>
    intro i w hw hi hlt
    have key : i ∈ dn ++ a :: qu → i ∈ dn := fun hm => by
      rcases List.mem_append.1 hm with hm | hm
      · exact hm
      · exfalso
        have hs := (List.pairwise_append.1 h.so).2.1
        have : wl ws a ≤ wl ws i := by
          rcases List.mem_cons.1 hm with rfl | hm
          · exact Nat.le_refl _
          · exact (List.pairwise_cons.1 hs).1 i hm
        rw [wl_at hi] at this
        omega
    apply key
    rcases List.eq_nil_or_concat w with rfl | ⟨v, c, rfl⟩
    · have : i = 0 := nodup_at hn hi h0
      subst this
      exact h.z
    · rw [List.concat_eq_append] at *
      have hv := hc.2 v c (List.mem_of_getElem? hi)
      obtain ⟨j, hj⟩ := List.getElem?_of_mem hv
      have hl : (v ++ [c]).length = v.length + 1 := by simp
      exact h.ch i j v c (ih v.length (by omega) j v rfl hj (by omega)) hj hi
theorem Od.next {ws : List Bts} {dn qu : List Nat} {a : Nat} {w : Bts} (h : Od ws dn (a :: qu)) (hn : ws.Nodup) (ha : ws[a]? = some w) : Od ws (dn ++ [a]) (qu ++ kids ws w 256) := by
  have e : dn ++ [a] ++ (qu ++ kids ws w 256) = (dn ++ a :: qu) ++ kids ws w 256 := by simp
  have hand : a ∉ dn := fun hm => by
    have := (List.nodup_append.1 h.nd).2.2 a hm a (by simp)
    exact this rfl
  have hkD : ∀ i, i ∈ kids ws w 256 → i ∉ dn ++ a :: qu := fun i hi hm => by
    obtain ⟨d, -, h2⟩ := (kids_mem hn).1 hi
    obtain ⟨j, hj, hj'⟩ := h.pa i w (b8 d) hm h2
    rw [nodup_at hn hj' ha] at hj
    exact hand hj
  have hup : ∀ i ∈ dn ++ a :: qu, wl ws i ≤ w.length + 1 := fun i hi => by
    have hilt := h.lt i hi
    have hi' : ws[i]? = some ws[i] := List.getElem?_eq_getElem hilt
    rw [wl_at hi']
    rcases List.eq_nil_or_concat ws[i] with e | ⟨v, c, e⟩
    · rw [e]; simp
    · rw [List.concat_eq_append] at e
      rw [e] at hi'
      obtain ⟨j, hj, hj'⟩ := h.pa i v c hi hi'
      have := (List.pairwise_append.1 h.so).2.2 j hj a (by simp)
      rw [wl_at hj', wl_at ha] at this
      rw [e]
      simp
      omega
  have hkl : ∀ i ∈ kids ws w 256, wl ws i = w.length + 1 := fun i hi => by
    obtain ⟨d, -, h2⟩ := (kids_mem hn).1 hi
    rw [wl_at h2]
    simp
  refine ⟨?_, ?_, ?_, ?_, fun i j v c hj hjv hi => ?_, fun i v c hi hiv => ?_⟩
  · rw [e]
    intro i hi
    rcases List.mem_append.1 hi with hi | hi
    · exact h.lt i hi
    · obtain ⟨d, -, h2⟩ := (kids_mem hn).1 hi
      exact (List.getElem?_eq_some_iff.1 h2).1
  · rw [e, List.nodup_append]
    exact ⟨h.nd, kids_nodup hn (Nat.le_refl _), fun i hi j hj he => hkD j hj (by rw [← he]; exact hi)⟩
  · rw [e, List.pairwise_append]
    refine ⟨h.so, ?_, fun i hi j hj => by rw [hkl j hj]; exact hup i hi⟩
    exact List.Pairwise.imp_of_mem (R := fun _ _ => True) (fun {i j} hi hj _ => by rw [hkl i hi, hkl j hj]; exact Nat.le_refl _) (List.pairwise_of_forall fun _ _ => trivial)
  · rw [e]; exact List.mem_append_left _ h.z
  · rw [e]
    rcases List.mem_append.1 hj with hj | hj
    · exact List.mem_append_left _ (h.ch i j v c hj hjv hi)
    · rw [List.mem_singleton.1 hj, ha] at hjv
      injection hjv with hjv
      subst hjv
      refine List.mem_append_right _ ((kids_mem hn).2 ⟨c.toNat, c.toNat_lt, ?_⟩)
      rw [b8_of]; exact hi
  · rw [e] at hi
    rcases List.mem_append.1 hi with hi | hi
    · obtain ⟨j, h1, h2⟩ := h.pa i v c hi hiv
      exact ⟨j, List.mem_append_left _ h1, h2⟩
    · obtain ⟨d, -, h2⟩ := (kids_mem hn).1 hi
      rw [hiv] at h2
      injection h2 with h2
      rw [snoc_eq] at h2
      rw [h2.1]
      exact ⟨a, List.mem_append_right _ (by simp), ha⟩
def InM (p : List api_Pattern) (ws : List Bts) (dn qu : List Nat) (a : Nat) (w : Bts) (c : Nat) (ss : List pattern_state) : Prop :=
  Mc p ws ss (fun i => if i ∈ dn then 256 else if i = a then c else 0) (fun i => i ∈ dn ∨ i = a) (fun i => i ∈ dn ++ a :: qu ∨ i ∈ kids ws w c)
theorem nx_lt {ws : List Bts} {w : Bts} {c d : Nat} (h : d ≠ c) : nx ws w (c + 1) d = nx ws w c d := by
  unfold nx
  by_cases h1 : d < c
  · rw [if_pos h1, if_pos (by omega)]
  · rw [if_neg h1, if_neg (by omega)]
section
variable {p : List api_Pattern} {ws : List Bts} {dn qu : List Nat} {a c : Nat} {w : Bts} {ss : List pattern_state} {s : pattern_state}
theorem InM.miss (h : InM p ws dn qu a w c ss) (hW : Wk p ws) (hc : c < 256) (hd : a ∉ dn) (ha : ws[a]? = some w) (hs : ss[a]? = some s) (hx : w ++ [b8 c] ∉ ws) :
    InM p ws dn qu a w (c + 1) (ss.set a ⟨s.next.set c (Lk ws (lg ws (w ++ [b8 c]).tail)), s.back, s.ends⟩) := by
  have hk : kids ws w (c + 1) = kids ws w c := by
    rw [kids_succ]
    have : ws.findIdx? (fun x => decide (x = w ++ [b8 c])) = none := by
      cases hf : ws.findIdx? fun x => decide (x = w ++ [b8 c]) with
      | none => rfl
      | some t => exact (hx (List.mem_of_getElem? ((find_at hW.hn).1 hf))).elim
    rw [this, List.append_nil]
  refine ⟨by simp [h.len], fun i t v ht hv => ?_⟩
  rw [hk]
  by_cases hia : a = i
  · subst hia
    rw [ha] at hv
    injection hv with hv
    subst hv
    rw [List.getElem?_set_self (List.getElem?_eq_some_iff.1 hs).1] at ht
    injection ht with ht
    subst ht
    obtain ⟨h1, h2, h3, h4, h5⟩ := h.st a s w hs ha
    refine ⟨by simp [h1], fun d hd' => ?_, h3, h4, h5⟩
    simp only [if_neg hd, if_true] at h2 ⊢
    rw [List.getElem?_set]
    by_cases hcd : c = d
    · subst hcd
      rw [if_pos rfl, if_pos (by rw [h1]; exact hc)]
      unfold nx
      rw [if_pos (Nat.lt_succ_self _), ← lg_not hx hW.hc.1]
    · rw [if_neg hcd, h2 d hd', nx_lt fun e => hcd e.symm]
  · rw [List.getElem?_set_ne hia] at ht
    have := h.st i t v ht hv
    simp only [if_neg (fun e => hia (Eq.symm e) : ¬ i = a)] at this ⊢
    exact this
theorem InM.hit {t : Nat} {st : pattern_state} (h : InM p ws dn qu a w c ss) (hW : Wk p ws) (hc : c < 256) (hd : a ∉ dn) (ha : ws[a]? = some w) (ht : ws[t]? = some (w ++ [b8 c])) (hst : ss[t]? = some st) (htD : t ∉ dn) :
    InM p ws dn qu a w (c + 1) (ss.set t ⟨st.next, Lk ws (lg ws (w ++ [b8 c]).tail), st.ends⟩) := by
  have hta : t ≠ a := by
    rintro rfl
    rw [ha] at ht
    injection ht with ht
    have := congrArg List.length ht
    simp at this
  have hk : kids ws w (c + 1) = kids ws w c ++ [t] := by rw [kids_succ, (find_at hW.hn).2 ht]
  have hnx : ∀ i v d, ws[i]? = some v → nx ws v (if i ∈ dn then 256 else if i = a then c + 1 else 0) d = nx ws v (if i ∈ dn then 256 else if i = a then c else 0) d := fun i v d hv => by
    by_cases hi : i ∈ dn
    · simp only [if_pos hi]
    · simp only [if_neg hi]
      by_cases hia : i = a
      · subst hia
        rw [ha] at hv
        injection hv with hv
        subst hv
        rw [if_pos rfl, if_pos rfl]
        by_cases hcd : d = c
        · subst hcd
          unfold nx
          rw [if_pos (Nat.lt_succ_self _), if_neg (Nat.lt_irrefl _), lg_self (List.mem_of_getElem? ht)]
        · exact nx_lt hcd
      · rw [if_neg hia, if_neg hia]
  refine ⟨by simp [h.len], fun i u v hu hv => ?_⟩
  simp only [hk, List.mem_append, List.mem_singleton]
  by_cases hit : t = i
  · subst hit
    rw [ht] at hv
    injection hv with hv
    subst hv
    rw [List.getElem?_set_self (List.getElem?_eq_some_iff.1 hst).1] at hu
    injection hu with hu
    subst hu
    obtain ⟨h1, h2, h3, h4, h5⟩ := h.st t st _ hst ht
    exact ⟨h1, fun d hd' => by rw [hnx t _ d ht]; exact h2 d hd', fun _ => rfl, h4, h5⟩
  · rw [List.getElem?_set_ne hit] at hu
    obtain ⟨h1, h2, h3, h4, h5⟩ := h.st i u v hu hv
    refine ⟨h1, fun d hd' => by rw [hnx i v d hv]; exact h2 d hd', fun hi => h3 ?_, h4, h5⟩
    rcases hi with hi | hi | hi
    · exact .inl (List.mem_append.2 hi)
    · exact .inr hi
    · exact (hit hi.symm).elim
theorem ends_root (hW : Wk p ws) : EndsOk p [] (En p p.length []) := by
  refine ⟨En_nodup, fun x => ?_⟩
  rw [En_mem]
  constructor
  · rintro ⟨k, q, h1, -, h3, h4⟩
    exact ⟨k, q, h1, h3, by rw [h4]; exact List.suffix_refl _⟩
  · rintro ⟨k, q, h1, h3, h4⟩
    exact ⟨k, q, h1, (List.getElem?_eq_some_iff.1 h3).1, h3, List.suffix_nil.1 h4⟩
theorem ends_add {l : List Int} (hW : Wk p ws) (hw : w ≠ []) (hl : EndsOk p (lg ws w.tail) l) : EndsOk p w (En p p.length w ++ l) := by
  have hlt : (lg ws w.tail).length < w.length := by
    have := (lg_suf (ws := ws) w.tail).length_le
    have h2 : 0 < w.length := List.length_pos_iff.2 hw
    rw [List.length_tail] at this
    omega
  refine ⟨?_, fun x => ?_⟩
  · rw [List.nodup_append]
    refine ⟨En_nodup, hl.1, fun x hx y hy => ?_⟩
    rintro rfl
    obtain ⟨k, q, h1, -, h3, h4⟩ := En_mem.1 hx
    obtain ⟨k', q', h1', h3', h4'⟩ := (hl.2 x).1 hy
    rw [h1] at h1'
    have := Int.ofNat.inj h1'
    subst this
    rw [h3] at h3'
    injection h3' with h3'
    subst h3'
    have := h4'.length_le
    rw [h4] at this
    omega
  · rw [List.mem_append, En_mem, hl.2]
    constructor
    · rintro (⟨k, q, h1, -, h3, h4⟩ | ⟨k, q, h1, h3, h4⟩)
      · exact ⟨k, q, h1, h3, by rw [h4]; exact List.suffix_refl _⟩
      · exact ⟨k, q, h1, h3, (h4.trans (lg_suf _)).trans (List.tail_suffix w)⟩
    · rintro ⟨k, q, h1, h3, h4⟩
      by_cases he : q.Bytes = w
      · exact .inl ⟨k, q, h1, (List.getElem?_eq_some_iff.1 h3).1, h3, he⟩
      · refine .inr ⟨k, q, h1, h3, ?_⟩
        rw [suf_lg (hW.pats k q h3)]
        cases w with
        | nil => exact (hw rfl).elim
        | cons d s =>
          rcases List.suffix_cons_iff.1 h4 with h | h
          · exact (he h).elim
          · exact h
end
end Go.Proofs.Ytfkgbfhpibiheaa
