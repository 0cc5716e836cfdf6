/- Chapter 11, plain: the machine of the search, built. -/
import Derived.Test.YtfkgbfhpibiheaaZ3
set_option linter.unusedVariables false
set_option linter.unusedSimpArgs false
set_option maxRecDepth 100000
namespace Go.Proofs.Ytfkgbfhpibiheaa
open Go
structure Done (p : List api_Pattern) (ws : List Bts) (ss : List pattern_state) : Prop where
  wk : Wk p ws
  len : ss.length = ws.length
  st : ∀ (i : Nat) s w, ss[i]? = some s → ws[i]? = some w → s.next.length = 256 ∧ (∀ c : UInt8, s.next[c.toNat]? = some (Lk ws (lg ws (w ++ [c])))) ∧ EndsOk p w s.ends
section
variable {p : List api_Pattern} {ws : List Bts} {dn qu : List Nat} {a : Nat} {w : Bts}
def OutM (p : List api_Pattern) (ws : List Bts) (dn qu : List Nat) (ss : List pattern_state) : Prop :=
  Mc p ws ss (fun i => if i ∈ dn then 256 else 0) (fun i => i ∈ dn) (fun i => i ∈ dn ++ qu)
theorem inner_ok {e_2 : pattern_state} {ss0 : List pattern_state} (hW : Wk p ws) (hsz : ws.length ≤ 32768) (hO : Od ws dn (a :: qu)) (ha : ws[a]? = some w) (hb : e_2.back = Lk ws (lg ws w.tail)) (h0 : InM p ws dn qu a w 0 ss0) :
    Ok (g_pattern_machine.j2 (a : Int) (qu.map fun i : Nat => (i : Int)) e_2 ss0) (Rd' (fun s => ∃ ss', s = (ss', (qu ++ kids ws w 256).map fun i : Nat => (i : Int)) ∧ InM p ws dn qu a w 256 ss') fun _ => False) := by
  unfold g_pattern_machine.j2
  have hd : a ∉ dn := fun hm => (List.nodup_append.1 hO.nd).2.2 a hm a (by simp) rfl
  have halt := (List.getElem?_eq_some_iff.1 ha).1
  refine Ok.loop (fun t => ∃ c : Nat, t.1 = (c : Int) ∧ c ≤ 256 ∧ t.2.2 = (qu ++ kids ws w c).map (fun i : Nat => (i : Int)) ∧ InM p ws dn qu a w c t.2.1) (fun t => 256 - t.1.toNat) ?_ ⟨0, rfl, by omega, by simp [kids], h0⟩
  rintro ⟨x, ss, q⟩ ⟨c, h1, h2, h3, h4⟩
  simp only at h1 h3 h4 ⊢
  subst h1 h3
  unfold g_pattern_machine.l3
  refine Ok.cond (fun hlt => ?_) fun hge => ?_
  · have hc : c < 256 := by simp at hlt; omega
    have hs : ss[a]? = some (ss[a]'(by rw [h4.len]; exact halt)) := List.getElem?_eq_getElem _
    generalize (ss[a]'(by rw [h4.len]; exact halt)) = s at hs
    refine Ok.bindE (by rw [getI_nat]; exact hs) ?_
    obtain ⟨n1, n2, n3, n4, -⟩ := h4.st a s w hs ha
    have n5 := n2 c hc
    simp only [if_neg hd, if_true] at n5
    unfold nx at n5
    rw [if_neg (Nat.lt_irrefl _)] at n5
    refine Ok.bindE (by rw [arrL_id n1, getI_nat]; exact n5) ?_
    have step : ∀ other, other = Lk ws (lg ws (w ++ [b8 c]).tail) → Ok (g_pattern_machine.j4 (a : Int) (c : Int) ss ((qu ++ kids ws w c).map fun i : Nat => (i : Int)) s (Lk ws (w ++ [b8 c])) other)
        (Rd' (fun t => (∃ c : Nat, t.1 = (c : Int) ∧ c ≤ 256 ∧ t.2.2 = (qu ++ kids ws w c).map (fun i : Nat => (i : Int)) ∧ InM p ws dn qu a w c t.2.1) ∧ 256 - t.1.toNat < 256 - (c : Int).toNat) (Rd' (fun s => ∃ ss', s = (ss', (qu ++ kids ws w 256).map fun i : Nat => (i : Int)) ∧ InM p ws dn qu a w 256 ss') fun _ => False)) := fun other hother => by
      unfold g_pattern_machine.j4
      have hm : 256 - (W ((c : Int) + 1)).toNat < 256 - (c : Int).toNat := by
        rw [W_succ (by omega)]
        omega
      refine Ok.cond (fun hneg => ?_) fun hpos => ?_
      · have hx := (Lk_neg hW.hn).1 (by simpa using hneg)
        unfold g_pattern_machine.j5
        refine Ok.ret ⟨⟨c + 1, W_succ (by omega), hc, ?_, ?_⟩, hm⟩
        · rw [kids_succ]
          have : ws.findIdx? (fun x => decide (x = w ++ [b8 c])) = none := by
            cases hf : ws.findIdx? fun x => decide (x = w ++ [b8 c]) with
            | none => rfl
            | some t => exact (hx (List.mem_of_getElem? ((find_at hW.hn).1 hf))).elim
          rw [this, List.append_nil]
        · show InM p ws dn qu a w (c + 1) (setI ss ((a : Int)).toNat _)
          rw [arrL_id n1, Int.toNat_natCast, Int.toNat_natCast, hother]
          exact h4.miss hW hc hd ha hs hx
      · have hx : w ++ [b8 c] ∈ ws := Classical.byContradiction fun h => by
          rw [Lk_no h] at hpos
          simp at hpos
        obtain ⟨t, ht, hlk⟩ := Lk_mem hW.hn hx
        rw [hlk]
        have htl := (List.getElem?_eq_some_iff.1 ht).1
        have hst : ss[t]? = some (ss[t]'(by rw [h4.len]; exact htl)) := List.getElem?_eq_getElem _
        generalize (ss[t]'(by rw [h4.len]; exact htl)) = st at hst
        refine Ok.bindE (by rw [getI_nat]; exact hst) ?_
        have htD : t ∉ dn := fun hm' => by
          obtain ⟨j, hj, hj'⟩ := hO.pa t w (b8 c) (List.mem_append_left _ hm') ht
          rw [nodup_at hW.hn hj' ha] at hj
          exact hd hj
        have hql : ((qu ++ kids ws w c).map fun i : Nat => (i : Int)).length ≤ 2 * 32768 + 1000 := by
          have h5 : qu.length ≤ ws.length := by
            have := List.Nodup.length_le_of_subset (l₂ := List.range ws.length) ((List.nodup_cons.1 (List.nodup_append.1 hO.nd).2.1).2) (fun i hi => List.mem_range.2 (hO.lt i (by simp [hi])))
            simpa using this
          have h6 : (kids ws w c).length ≤ c := by
            unfold kids
            exact Nat.le_trans (List.length_filterMap_le _ _) (by simp)
          rw [List.length_map, List.length_append]
          omega
        refine Ok.bindE (appI_ok (by rw [List.length_singleton]; omega)) ?_
        unfold g_pattern_machine.j5
        refine Ok.ret ⟨⟨c + 1, W_succ (by omega), hc, ?_, ?_⟩, hm⟩
        · rw [kids_succ, (find_at hW.hn).2 ht]
          simp
        · show InM p ws dn qu a w (c + 1) (setI ss ((t : Int)).toNat _)
          rw [Int.toNat_natCast, hother]
          exact h4.hit hW hc hd ha ht hst htD
    refine Ok.cond (fun hne => ?_) fun heq => ?_
    · have hw : w ≠ [] := by
        rintro rfl
        have := nodup_at hW.hn ha hW.h0
        subst this
        simp at hne
      obtain ⟨b, hb1, hb2⟩ := Lk_mem hW.hn (lg_mem hW.hc.1 w.tail)
      rw [hb, hb2]
      have hbl := (List.getElem?_eq_some_iff.1 hb1).1
      have hsb : ss[b]? = some (ss[b]'(by rw [h4.len]; exact hbl)) := List.getElem?_eq_getElem _
      generalize (ss[b]'(by rw [h4.len]; exact hbl)) = sb at hsb
      refine Ok.bindE (by rw [getI_nat]; exact hsb) ?_
      have hbd : b ∈ dn := by
        refine hO.less hW.hc hW.hn hW.h0 _ b _ rfl hb1 ?_
        rw [wl_at ha]
        have := (lg_suf (ws := ws) w.tail).length_le
        have h2 : 0 < w.length := List.length_pos_iff.2 hw
        rw [List.length_tail] at this
        omega
      obtain ⟨m1, m2, -⟩ := h4.st b sb _ hsb hb1
      have m3 := m2 c hc
      simp only [if_pos hbd] at m3
      unfold nx at m3
      rw [if_pos hc] at m3
      refine Ok.bindE (by rw [arrL_id m1, getI_nat]; exact m3) ?_
      exact step _ (by rw [lg_tail hW.hc (b8 c) hw])
    · have ha0 : a = 0 := by simp at heq; omega
      subst ha0
      rw [hW.h0] at ha
      injection ha with ha
      subst ha
      refine step 0 ?_
      rw [lg_tail0]
      show (0 : Int) = Lk ws (lg ws [])
      rw [show lg ws [] = [] from rfl, Lk_at hW.hn hW.h0]
      rfl
  · have hc : c = 256 := by simp at hge; omega
    subst hc
    exact Ok.up (Ok.ret ⟨ss, rfl, h4⟩)
theorem OutM.enter {ss : List pattern_state} {s : pattern_state} {l : List Int} (h : OutM p ws dn (a :: qu) ss) (hW : Wk p ws) (hd : a ∉ dn) (ha : ws[a]? = some w) (hs : ss[a]? = some s) (hl : EndsOk p w l) (hss : ∀ ss', ss' = ss.set a ⟨s.next, s.back, l⟩ ∨ (ss' = ss ∧ s.ends = l) → True) :
    ∀ ss', ss' = ss.set a ⟨s.next, s.back, l⟩ ∨ (ss' = ss ∧ s.ends = l) → InM p ws dn qu a w 0 ss' := by
  intro ss' hss'
  have hlen : ss'.length = ws.length := by
    rcases hss' with rfl | ⟨rfl, -⟩
    · simp [h.len]
    · exact h.len
  refine ⟨hlen, fun i t v ht hv => ?_⟩
  have hm : (if i ∈ dn then 256 else if i = a then 0 else 0) = (if i ∈ dn then 256 else 0) := by split <;> simp
  simp only [hm]
  have hk : i ∈ kids ws w 0 ↔ False := by simp [kids]
  simp only [hk, or_false]
  by_cases hia : i = a
  · subst hia
    rw [ha] at hv
    injection hv with hv
    subst hv
    obtain ⟨h1, h2, h3, h4, h5⟩ := h.st i s w hs ha
    have ht' : t.next = s.next ∧ t.back = s.back ∧ t.ends = l := by
      rcases hss' with rfl | ⟨rfl, he⟩
      · rw [List.getElem?_set_self (List.getElem?_eq_some_iff.1 hs).1] at ht
        injection ht with ht
        subst ht
        exact ⟨rfl, rfl, rfl⟩
      · rw [hs] at ht
        injection ht with ht
        subst ht
        exact ⟨rfl, rfl, he⟩
    rw [ht'.1, ht'.2.1, ht'.2.2]
    exact ⟨h1, h2, h3, fun _ => hl, fun hn => (hn (.inr rfl)).elim⟩
  · have ht' : ss[i]? = some t := by
      rcases hss' with rfl | ⟨rfl, -⟩
      · rwa [List.getElem?_set_ne (fun e => hia e.symm)] at ht
      · exact ht
    obtain ⟨h1, h2, h3, h4, h5⟩ := h.st i t v ht' hv
    exact ⟨h1, h2, h3, fun hi => h4 (hi.resolve_right hia), fun hi => h5 fun h => hi (.inl h)⟩
theorem InM.leave {ss : List pattern_state} (h : InM p ws dn qu a w 256 ss) : OutM p ws (dn ++ [a]) (qu ++ kids ws w 256) ss := by
  refine ⟨h.len, fun i t v ht hv => ?_⟩
  obtain ⟨h1, h2, h3, h4, h5⟩ := h.st i t v ht hv
  have hm : (if i ∈ dn then 256 else if i = a then 256 else 0) = (if i ∈ dn ++ [a] then 256 else 0) := by
    simp only [List.mem_append, List.mem_singleton]
    by_cases h1 : i ∈ dn
    · simp [h1]
    · by_cases h2 : i = a
      · simp [h1, h2]
      · simp [h1, h2]
  simp only [hm] at h2
  refine ⟨h1, h2, fun hi => h3 ?_, fun hi => h4 ?_, fun hi => h5 fun h => hi ?_⟩
  · simp only [List.mem_append, List.mem_cons, List.not_mem_nil, or_false] at hi ⊢
    rcases hi with (hi | hi) | hi | hi
    · exact .inl (.inl hi)
    · exact .inl (.inr (.inl hi))
    · exact .inl (.inr (.inr hi))
    · exact .inr hi
  · simpa using hi
  · simpa using h
theorem ends_len {l : List Int} (h : EndsOk p w l) (hp : p.length ≤ 32) : l.length ≤ 32 := by
  have := List.Nodup.length_le_of_subset (l₂ := (List.range p.length).map fun k : Nat => (k : Int)) h.1 (fun x hx => by
    obtain ⟨k, q, rfl, h2, -⟩ := (h.2 x).1 hx
    exact List.mem_map.2 ⟨k, List.mem_range.2 (List.getElem?_eq_some_iff.1 h2).1, rfl⟩)
  simp at this
  omega
theorem ok_loopM {ι S R : Type} {body : S → Option (Lp S R)} (Inv : ι → S → Prop) (μ : ι → Nat) {Q : R → Prop} (h : ∀ i s, Inv i s → Ok (body s) (Rd' (fun s' => ∃ i', Inv i' s' ∧ μ i' < μ i) Q)) : ∀ (n : Nat) (i : ι) (s : S), μ i = n → Inv i s → Ok (loop body s) Q := by
  intro n
  induction n using Nat.strongRecOn with
  | _ n ih =>
    intro i s hm hs
    obtain ⟨o, h1, h2⟩ := h i s hs
    rw [loop_eq, h1]
    cases o with
    | done r => exact ⟨r, rfl, h2⟩
    | next s' =>
      obtain ⟨i', h3, h4⟩ := h2
      exact ih (μ i') (by omega) i' s' rfl h3
theorem machine_ok (hp : Pok p) : Ok (g_pattern_machine p) (fun ss => ∃ ws, Done p ws ss) := by
  unfold g_pattern_machine
  refine Ok.bind (tree_ok hp) ?_
  rintro y ⟨ws, hT, hsz⟩
  have hsz : ws.length ≤ 2049 := by have := hp.1; omega
  have hW : Wk p ws := ⟨hT.hn, hT.hc, hT.h0, fun k q hq => hT.pats k q (List.getElem?_eq_some_iff.1 hq).1 hq⟩
  have h0lt := (List.getElem?_eq_some_iff.1 hT.h0).1
  refine ok_loopM (fun (i : List Nat × List Nat) (t : List pattern_state × List Int) => t.2 = i.2.map (fun i : Nat => (i : Int)) ∧ Od ws i.1 i.2 ∧ OutM p ws i.1 i.2 t.1) (fun i => ws.length - i.1.length) ?_ _ ([], [0]) _ rfl ⟨rfl, ?_, ?_⟩
  · rintro ⟨dn, qu⟩ ⟨ss, q⟩ ⟨h1, h2, h3⟩
    simp only at h1 h2 h3 ⊢
    subst h1
    unfold g_pattern_machine.l1
    cases qu with
    | nil =>
      refine Ok.cond (fun hlt => by simp at hlt) fun hge => ?_
      refine Ok.up (Ok.ret ⟨ws, hW, h3.len, fun i s w hs hw => ?_⟩)
      have hall : ∀ (n i : Nat) w, w.length = n → ws[i]? = some w → i ∈ dn := by
        intro n
        induction n with
        | zero =>
          intro i w hl hi
          have : w = [] := List.eq_nil_of_length_eq_zero hl
          subst this
          have := nodup_at hT.hn hi hT.h0
          subst this
          simpa using h2.z
        | succ n ih =>
          intro i w hl hi
          rcases List.eq_nil_or_concat w with rfl | ⟨v, c, rfl⟩
          · simp at hl
          · rw [List.concat_eq_append] at *
            obtain ⟨j, hj⟩ := List.getElem?_of_mem (hT.hc.2 v c (List.mem_of_getElem? hi))
            have := h2.ch i j v c (ih j v (by simpa using hl) hj) hj hi
            simpa using this
      have hi := hall _ i w rfl hw
      obtain ⟨n1, n2, n3, n4, -⟩ := h3.st i s w hs hw
      refine ⟨n1, fun c => ?_, n4 hi⟩
      have := n2 c.toNat c.toNat_lt
      simp only [if_pos hi] at this
      rw [this]
      unfold nx
      rw [if_pos c.toNat_lt, b8_of]
    | cons a qu =>
      refine Ok.cond (fun hlt => ?_) fun hge => by simp at hge
      have hal : a < ws.length := h2.lt a (by simp)
      have ha : ws[a]? = some ws[a] := List.getElem?_eq_getElem hal
      generalize ws[a] = w at ha
      have hd : a ∉ dn := fun hm => (List.nodup_append.1 h2.nd).2.2 a hm a (by simp) rfl
      have hs : ss[a]? = some (ss[a]'(by rw [h3.len]; exact hal)) := List.getElem?_eq_getElem _
      generalize (ss[a]'(by rw [h3.len]; exact hal)) = s at hs
      refine Ok.bindE (a := (a : Int)) (by rw [getI_z]; rfl) ?_
      refine Ok.bindE (a := qu.map fun i : Nat => (i : Int)) (by
        unfold slI
        rw [if_pos (by simp; omega)]
        simp
        exact List.take_of_length_le (by simp)) ?_
      refine Ok.bindE (by rw [getI_nat]; exact hs) ?_
      obtain ⟨n1, n2, n3, n4, n5⟩ := h3.st a s w hs ha
      have n7 := n3 (by simp)
      have n6 := n5 hd
      have fin : ∀ ss', InM p ws dn qu a w 0 ss' → Ok (g_pattern_machine.j2 (a : Int) (qu.map fun i : Nat => (i : Int)) s ss') (Rd' (fun s' => ∃ i' : List Nat × List Nat, (s'.2 = i'.2.map (fun i : Nat => (i : Int)) ∧ Od ws i'.1 i'.2 ∧ OutM p ws i'.1 i'.2 s'.1) ∧ ws.length - i'.1.length < ws.length - dn.length) fun ss => ∃ ws, Done p ws ss) := fun ss' h => by
        refine (inner_ok hW (by omega) h2 ha n7 h).mono fun o ho => ?_
        cases o with
        | done r => exact ho.elim
        | next s' =>
          obtain ⟨s2, rfl, h5⟩ := ho
          refine ⟨(dn ++ [a], qu ++ kids ws w 256), ⟨rfl, h2.next hT.hn ha, h5.leave⟩, ?_⟩
          have hlen := List.Nodup.length_le_of_subset (l₂ := List.range ws.length) h2.nd (fun i hi => List.mem_range.2 (h2.lt i hi))
          simp at hlen ⊢
          omega
      refine Ok.cond (fun hne => ?_) fun heq => ?_
      · have hw : w ≠ [] := by
          rintro rfl
          have := nodup_at hT.hn ha hT.h0
          subst this
          simp at hne
        obtain ⟨b, hb1, hb2⟩ := Lk_mem hT.hn (lg_mem hT.hc.1 w.tail)
        rw [n7, hb2]
        have hbl := (List.getElem?_eq_some_iff.1 hb1).1
        have hsb : ss[b]? = some (ss[b]'(by rw [h3.len]; exact hbl)) := List.getElem?_eq_getElem _
        generalize (ss[b]'(by rw [h3.len]; exact hbl)) = sb at hsb
        refine Ok.bindE (by rw [getI_nat]; exact hsb) ?_
        have hbd : b ∈ dn := by
          refine h2.less hT.hc hT.hn hT.h0 _ b _ rfl hb1 ?_
          rw [wl_at ha]
          have := (lg_suf (ws := ws) w.tail).length_le
          have h2 : 0 < w.length := List.length_pos_iff.2 hw
          rw [List.length_tail] at this
          omega
        have m4 := (h3.st b sb _ hsb hb1).2.2.2.1 hbd
        have hl := ends_add hW hw m4
        rw [← n6] at hl
        have hl1 := ends_len hl hp.1
        rw [List.length_append] at hl1
        refine Ok.bindE (appI_ok (by omega)) ?_
        rw [Int.toNat_natCast, ← hb2, ← n7]
        exact fin _ (h3.enter hW hd ha hs hl (fun _ _ => trivial) _ (.inl rfl))
      · have ha0 : a = 0 := by simp at heq; omega
        subst ha0
        have hw : w = [] := by
          rw [hT.h0] at ha
          injection ha with ha
          exact ha.symm
        subst hw
        have hl := ends_root hW
        rw [← n6] at hl
        exact fin _ (h3.enter hW hd ha hs hl (fun _ _ => trivial) _ (.inr ⟨rfl, rfl⟩))
  · refine ⟨fun i hi => ?_, by simp, by simp, by simp, fun i j w c hj => by simp at hj, fun i w c hi hiw => ?_⟩
    · simp at hi
      subst hi
      exact h0lt
    · simp at hi
      subst hi
      rw [hT.h0] at hiw
      simp at hiw
  · refine ⟨hT.len, fun i s w hs hw => ?_⟩
    obtain ⟨n1, n2, n3, n4⟩ := hT.st i s w hs hw
    refine ⟨n1, fun c hc => ?_, fun hi => ?_, fun h => by simp at h, fun _ => n4⟩
    · rw [n2 c hc]
      simp [nx]
    · have hi : i = 0 := by simpa using hi
      subst hi
      rw [hT.h0] at hw
      injection hw with hw
      subst hw
      rw [n3]
      show (0 : Int) = Lk ws (lg ws [])
      rw [show lg ws [] = [] from rfl, Lk_at hT.hn hT.h0]
      rfl
end
end Go.Proofs.Ytfkgbfhpibiheaa
