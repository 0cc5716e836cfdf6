/- The law of what a watch finds. No program is in sight here. -/
import Derived.Test.YtoekocjflclojaaGreatW4
import Derived.Test.YtoekocjflclojaaGreatOW
set_option linter.unusedVariables false
set_option linter.unusedSimpArgs false
namespace Go.Proofs.YtoekocjflclojaaGreat
open Go
def LookQ (n : Nat) (l : List api_Finding) : Prop := l.length ≤ n ∧ AllF l
theorem look_add {n : Nat} {l : List api_Finding} (h : LookQ n l) {f : api_Finding} (hf : FitF f) : LookQ (n + 1) (l ++ [f]) := by
  refine ⟨by rw [List.length_append, List.length_singleton]; have := h.1; omega, fun x hx => ?_⟩
  rcases List.mem_append.1 hx with hx | hx
  · exact h.2 x hx
  · rw [List.mem_singleton.1 hx]; exact hf
theorem ep_parts {i : Nat} {e : api_Endpoint} (h : EpOK i e) : e.Suites.length ≤ 5 ∧ e.Identities.length = 1 ∧ e.Anchors.length = 1 ∧ e.Hashes.length = 2 := by
  obtain ⟨c, hc, own, fall, rfl⟩ := h
  refine ⟨?_, rfl, rfl, rfl⟩
  unfold combos at hc
  simp only [List.mem_cons, List.not_mem_nil, or_false] at hc
  rcases hc with rfl | rfl | rfl | rfl | rfl | rfl <;> simp [epS]
theorem e0F : (⟨#[]⟩ : ByteArray).size ≤ 1000 := by decide
theorem base_ok {f : api_Finding} (h : FitF f) : Ok (g_ref14_base f) (fun y => FitF y.1) := by
  unfold g_ref14_base
  refine Ok.bind (chk_ok ⟨h.host, h.subj, e0F⟩) fun y _ => ?_
  exact Ok.cond (fun _ => Ok.ret ⟨e0F, e0F, e0F⟩) fun _ => Ok.ret ⟨h.host, h.subj, e0F⟩
theorem from_ok {at' : api_Finding} {i : Nat} {e : api_Endpoint} (ha : FitF at') (hi : i < 3) (he : EpOK i e) : Ok (g_ref14_FromEndpoint at' e) (fun y => LookQ 20 y.1) := by
  obtain ⟨p1, p2, p3, p4⟩ := ep_parts he
  unfold g_ref14_FromEndpoint
  refine Ok.bind (base_ok ha) fun y hy => ?_
  refine Ok.cond (fun _ => Ok.ret ⟨Nat.zero_le _, fun x hx => by cases hx⟩) fun _ => ?_
  refine Ok.bindE (ep_check9 hi he) ?_
  refine Ok.cond (fun h => by cases h) fun _ => ?_
  have FN : ∀ k n, FitF (api_Finding.mk y.1.Source y.1.Host y.1.Machine y.1.Day y.1.Confidence k y.1.Subject y.1.Use n y.1.Text) := fun k n => ⟨hy.host, hy.subj, hy.text⟩
  have FU : ∀ k u n, FitF (api_Finding.mk y.1.Source y.1.Host y.1.Machine y.1.Day y.1.Confidence k y.1.Subject u n y.1.Text) := fun k u n => ⟨hy.host, hy.subj, hy.text⟩
  have L4 : ∀ l, LookQ 10 l → Ok (loop (fun q' => g_ref14_FromEndpoint.l4 e y q'.1 q'.2) (0, l)) (fun y => LookQ 20 y.1) := fun l hl => by
    refine Ok.loop (fun s : Int × List api_Finding => (0 ≤ s.1 ∧ s.1 ≤ 2) ∧ LookQ (10 + s.1.toNat) s.2) (fun s => (2 - s.1).toNat) (fun s hs => ?_) ⟨⟨Int.le_refl _, by show (0 : Int) ≤ 2; omega⟩, hl⟩
    obtain ⟨k, m⟩ := s
    obtain ⟨hk, hm⟩ := hs
    dsimp only at hk hm
    have hm1 := hm.1
    show Ok (g_ref14_FromEndpoint.l4 e y k m) _
    unfold g_ref14_FromEndpoint.l4
    refine Ok.cond (fun hb => ?_) fun _ => Ok.up ?_
    · have hb := of_decide_eq_true hb
      refine Ok.bind (getI_mem hk.1 hb) fun x _ => ?_
      unfold g_ref14_use
      rw [Option.bind_some]
      refine Ok.bind (appI_ok' (by rw [List.length_singleton]; omega)) fun l' hl' => ?_
      subst hl'
      rw [W_id (by omega)]
      refine Ok.ret ⟨⟨⟨by show 0 ≤ k + 1; omega, by show k + 1 ≤ 2; omega⟩, ?_⟩, by show (2 - (k + 1)).toNat < (2 - k).toNat; omega⟩
      show LookQ (10 + (k + 1).toNat) _
      rw [show 10 + (k + 1).toNat = 10 + k.toNat + 1 by omega]
      exact look_add hm (FU _ _ _)
    · refine Ok.bind (norm_ok (by omega) hm.2) fun z hz => ?_
      exact Ok.ret ⟨by have := hz.1; show z.1.length ≤ 20; omega, hz.2⟩
  have L3 : ∀ l, LookQ 9 l → Ok (loop (fun q' => g_ref14_FromEndpoint.l3 e y q'.1 q'.2) (0, l)) (fun y => LookQ 20 y.1) := fun l hl => by
    refine Ok.loop (fun s : Int × List api_Finding => (0 ≤ s.1 ∧ s.1 ≤ 1) ∧ LookQ (9 + s.1.toNat) s.2) (fun s => (1 - s.1).toNat) (fun s hs => ?_) ⟨⟨Int.le_refl _, by show (0 : Int) ≤ 1; omega⟩, hl⟩
    obtain ⟨k, m⟩ := s
    obtain ⟨hk, hm⟩ := hs
    dsimp only at hk hm
    have hm1 := hm.1
    show Ok (g_ref14_FromEndpoint.l3 e y k m) _
    unfold g_ref14_FromEndpoint.l3
    refine Ok.cond (fun hb => ?_) fun _ => Ok.up (L4 m ⟨by omega, hm.2⟩)
    have hb := of_decide_eq_true hb
    refine Ok.bind (getI_mem hk.1 hb) fun x _ => ?_
    unfold g_ref14_number
    rw [Option.bind_some]
    refine Ok.bind (appI_ok' (by rw [List.length_singleton]; omega)) fun l' hl' => ?_
    subst hl'
    rw [W_id (by omega)]
    refine Ok.ret ⟨⟨⟨by show 0 ≤ k + 1; omega, by show k + 1 ≤ 1; omega⟩, ?_⟩, by show (1 - (k + 1)).toNat < (1 - k).toNat; omega⟩
    show LookQ (9 + (k + 1).toNat) _
    rw [show 9 + (k + 1).toNat = 9 + k.toNat + 1 by omega]
    exact look_add hm (FN _ _)
  have L2 : ∀ l, LookQ 8 l → Ok (loop (fun q' => g_ref14_FromEndpoint.l2 e y q'.1 q'.2) (0, l)) (fun y => LookQ 20 y.1) := fun l hl => by
    refine Ok.loop (fun s : Int × List api_Finding => (0 ≤ s.1 ∧ s.1 ≤ 1) ∧ LookQ (8 + s.1.toNat) s.2) (fun s => (1 - s.1).toNat) (fun s hs => ?_) ⟨⟨Int.le_refl _, by show (0 : Int) ≤ 1; omega⟩, hl⟩
    obtain ⟨k, m⟩ := s
    obtain ⟨hk, hm⟩ := hs
    dsimp only at hk hm
    have hm1 := hm.1
    show Ok (g_ref14_FromEndpoint.l2 e y k m) _
    unfold g_ref14_FromEndpoint.l2
    refine Ok.cond (fun hb => ?_) fun _ => Ok.up (L3 m ⟨by omega, hm.2⟩)
    have hb := of_decide_eq_true hb
    refine Ok.bind (getI_mem hk.1 hb) fun x _ => ?_
    unfold g_ref14_use
    rw [Option.bind_some]
    refine Ok.bind (appI_ok' (by rw [List.length_singleton]; omega)) fun l' hl' => ?_
    subst hl'
    rw [W_id (by omega)]
    refine Ok.ret ⟨⟨⟨by show 0 ≤ k + 1; omega, by show k + 1 ≤ 1; omega⟩, ?_⟩, by show (1 - (k + 1)).toNat < (1 - k).toNat; omega⟩
    show LookQ (8 + (k + 1).toNat) _
    rw [show 8 + (k + 1).toNat = 8 + k.toNat + 1 by omega]
    exact look_add hm (FU _ _ _)
  unfold g_ref14_number
  rw [Option.bind_some, Option.bind_some]
  refine Ok.loop (fun s : Int × List api_Finding => (0 ≤ s.1 ∧ s.1 ≤ e.Suites.length) ∧ LookQ (2 + s.1.toNat) s.2) (fun s => ((e.Suites.length : Int) - s.1).toNat) (fun s hs => ?_) ⟨⟨Int.le_refl _, by show (0 : Int) ≤ (e.Suites.length : Int); omega⟩, ⟨by show 2 ≤ 2 + 0; omega, fun x hx => ?_⟩⟩
  · obtain ⟨k, m⟩ := s
    obtain ⟨hk, hm⟩ := hs
    dsimp only at hk hm
    have hm1 := hm.1
    show Ok (g_ref14_FromEndpoint.l1 e y k m) _
    unfold g_ref14_FromEndpoint.l1
    refine Ok.cond (fun hb => ?_) fun _ => Ok.up (L2 m ⟨by omega, hm.2⟩)
    have hb := of_decide_eq_true hb
    refine Ok.bind (getI_mem hk.1 hb) fun x _ => ?_
    unfold g_ref14_number
    rw [Option.bind_some]
    refine Ok.bind (appI_ok' (by rw [List.length_singleton]; omega)) fun l' hl' => ?_
    subst hl'
    rw [W_id (by omega)]
    refine Ok.ret ⟨⟨⟨by show 0 ≤ k + 1; omega, by show k + 1 ≤ (e.Suites.length : Int); omega⟩, ?_⟩, by show ((e.Suites.length : Int) - (k + 1)).toNat < ((e.Suites.length : Int) - k).toNat; omega⟩
    show LookQ (2 + (k + 1).toNat) _
    rw [show 2 + (k + 1).toNat = 2 + k.toNat + 1 by omega]
    exact look_add hm (FN _ _)
  · have hx : x ∈ [api_Finding.mk y.1.Source y.1.Host y.1.Machine y.1.Day y.1.Confidence 5 y.1.Subject y.1.Use e.Least y.1.Text, api_Finding.mk y.1.Source y.1.Host y.1.Machine y.1.Day y.1.Confidence 4 y.1.Subject y.1.Use e.Most y.1.Text] := hx
    simp only [List.mem_cons, List.not_mem_nil, or_false] at hx
    rcases hx with rfl | rfl
    · exact FN _ _
    · exact FN _ _
theorem looks_ok {d : cipherplanmake_Dice} (h : DOK d) {i : Nat} {e : api_Endpoint} (hi : i < 3) (he : EpOK i e) (n : Int) : Ok (g_law38_looks d e n) (fun y => LookQ 100 y.1) := by
  unfold g_law38_looks g_move_At
  rw [Option.bind_some]
  have hn : e.Name.size ≤ 1000 := by
    rw [ep_name he]
    rcases i with _ | _ | _ | i
    · decide
    · decide
    · decide
    · omega
  refine Ok.bind (from_ok (i := i) ⟨hn, (by decide : (⟨#[116, 108, 115]⟩ : ByteArray).size ≤ 1000), e0F⟩ hi he) fun y2 h2 => ?_
  have l2 := h2.1
  refine Ok.loop (fun s : Int × cipherplanmake_Dice × List api_Finding => (0 ≤ s.1 ∧ s.1 ≤ y2.1.length) ∧ DOK s.2.1 ∧ LookQ s.1.toNat s.2.2) (fun s => ((y2.1.length : Int) - s.1).toNat) (fun s hs => ?_) ⟨⟨Int.le_refl _, by show (0 : Int) ≤ (y2.1.length : Int); omega⟩, h, ⟨Nat.le_refl _, fun x hx => by cases hx⟩⟩
  obtain ⟨k, d1, out⟩ := s
  obtain ⟨hk, hd, hq⟩ := hs
  dsimp only at hk hd hq
  have hq1 := hq.1
  show Ok (g_law38_looks.l1 n y2 k d1 out) _
  unfold g_law38_looks.l1
  refine Ok.cond (fun hb => ?_) fun _ => Ok.up ?_
  · have hb := of_decide_eq_true hb
    have hw : W (k + 1) = k + 1 := W_id (by omega)
    have hs1 : (k + 1).toNat = k.toNat + 1 := by omega
    have J2 : ∀ (d' : cipherplanmake_Dice) (f : api_Finding), DOK d' → FitF f → Ok (g_law38_looks.j2 k out d' f) (Rd' (fun s : Int × cipherplanmake_Dice × List api_Finding => ((0 ≤ s.1 ∧ s.1 ≤ y2.1.length) ∧ DOK s.2.1 ∧ LookQ s.1.toNat s.2.2) ∧ ((y2.1.length : Int) - s.1).toNat < ((y2.1.length : Int) - k).toNat) (fun y => LookQ 100 y.1)) := fun d' f hd' hf => by
      unfold g_law38_looks.j2 g_law38_looks.j3
      refine Ok.bind (appI_ok' (by rw [List.length_singleton]; omega)) fun l' hl' => ?_
      subst hl'
      rw [hw]
      clear hw
      refine Ok.ret ⟨⟨⟨by show 0 ≤ k + 1; omega, by show k + 1 ≤ (y2.1.length : Int); omega⟩, hd', ?_⟩, by show ((y2.1.length : Int) - (k + 1)).toNat < ((y2.1.length : Int) - k).toNat; omega⟩
      show LookQ (k + 1).toNat _
      rw [hs1]
      exact look_add hq hf
    refine Ok.bind (getI_mem hk.1 hb) fun x hx => ?_
    have fx := h2.2 x hx
    refine Ok.bind (next_ok hd 8 (by omega) (by omega)) fun y3 h3 => ?_
    refine Ok.cond (fun _ => ?_) fun _ => Ok.cond (fun _ => ?_) fun _ => Ok.cond (fun _ => J2 _ _ h3.2 ⟨fx.host, fx.subj, fx.text⟩) fun _ => Ok.cond (fun _ => J2 _ _ h3.2 ⟨fx.host, fx.subj, fx.text⟩) fun _ => J2 _ _ h3.2 fx
    · unfold g_law38_looks.j3
      rw [hw]
      clear hw
      exact Ok.ret ⟨⟨⟨by show 0 ≤ k + 1; omega, by show k + 1 ≤ (y2.1.length : Int); omega⟩, h3.2, ⟨by show out.length ≤ (k + 1).toNat; omega, hq.2⟩⟩, by show ((y2.1.length : Int) - (k + 1)).toNat < ((y2.1.length : Int) - k).toNat; omega⟩
    · exact Ok.bind (of_ok h3.2 _ (by decide) (by decide)) fun y4 h4 => J2 _ _ h4.2 ⟨fx.host, fx.subj, fx.text⟩
  · refine Ok.bind (findings_ok hd) fun y5 h5 => ?_
    have b5 := h5.1.1
    refine Ok.bind (appI_ok' (by omega)) fun l' hl' => ?_
    have hl6 : l'.length ≤ 100 := by rw [hl', List.length_append]; omega
    have ha6 : AllF l' := fun x hx => by
      rw [hl'] at hx
      rcases List.mem_append.1 hx with hx | hx
      · exact hq.2 x hx
      · exact h5.1.2 x hx
    unfold g_move_Norm
    rw [Option.bind_assoc]
    refine Ok.bind (norm_ok (by omega) ha6) fun y6 h6 => ?_
    exact Ok.ret ⟨by have := h6.1; show y6.1.length ≤ 100; omega, h6.2⟩
def conS (e : api_Endpoint) (f : api_Finding) : Bool :=
  bif !decide (f.Host = e.Name) then false else bif decide (f.Kind = 2) then !e.Suites.any (fun n => decide (f.Number = n)) else
    bif decide (f.Kind = 3) then !e.Identities.any (fun x => decide (x.Key = f.Use) && decide (x.KeyId = f.Number)) else
      bif decide (f.Kind = 4) then !decide (f.Number = e.Most) else bif decide (f.Kind = 5) then !decide (f.Number = e.Least) else
        bif decide (f.Kind = 6) then !e.Anchors.any (fun n => decide (f.Number = n)) else false
theorem con_ok {i : Nat} {e : api_Endpoint} (he : EpOK i e) (f : api_Finding) : g_watch_Contradicts e f = some (conS e f) := by
  obtain ⟨p1, p2, p3, p4⟩ := ep_parts he
  unfold g_watch_Contradicts conS
  have hs := sl_Contains_int e.Suites f.Number (by unfold Lo; omega)
  have ha := sl_Contains_int e.Anchors f.Number (by unfold Lo; omega)
  have hi := sl_Contains_id e.Identities (fun x0 => g_watch_Contradicts_c1 x0 f) (fun x => decide (x.Key = f.Use) && decide (x.KeyId = f.Number)) (by unfold Lo; omega) (fun x _ => by
    unfold g_watch_Contradicts_c1
    cases decide (x.Key = f.Use) <;> rfl)
  rw [hs, ha, hi]
  cases !decide (f.Host = e.Name) with
  | true => rfl
  | false =>
    cases decide (f.Kind = 2) with
    | true => rfl
    | false =>
      cases decide (f.Kind = 3) with
      | true => rfl
      | false =>
        cases decide (f.Kind = 4) with
        | true => rfl
        | false =>
          cases decide (f.Kind = 5) with
          | true => rfl
          | false => cases decide (f.Kind = 6) <;> rfl
theorem con_says {e : api_Endpoint} {f : api_Finding} (h : conS e f = true) : f.Host = e.Name ∧ f.Kind ≠ 1 ∧ f.Kind ≠ 8 ∧ f.Kind ≠ 7 := by
  unfold conS at h
  by_cases h0 : f.Host = e.Name
  · refine ⟨h0, ?_⟩
    rw [decide_eq_true h0, Bool.not_true, cond_false] at h
    by_cases h2 : f.Kind = 2
    · omega
    by_cases h3 : f.Kind = 3
    · omega
    by_cases h4 : f.Kind = 4
    · omega
    by_cases h5 : f.Kind = 5
    · omega
    by_cases h6 : f.Kind = 6
    · omega
    rw [decide_eq_false h2, decide_eq_false h3, decide_eq_false h4, decide_eq_false h5, decide_eq_false h6] at h
    cases h
  · rw [decide_eq_false h0] at h; cases h
def hitS (s : api_Estate) (n : Int) (f : api_Finding) : Bool := decide (f.Day = n) && s.Endpoints.any (fun e => conS e f)
def hitAt (s : api_Estate) (n : Int) (l : List api_Finding) (i : Nat) : Bool := match l[i]? with
  | some f => hitS s n f
  | none => false
theorem hitAt_at {s : api_Estate} {n : Int} {l : List api_Finding} {i : Nat} {f : api_Finding} (h : l[i]? = some f) : hitAt s n l i = hitS s n f := by unfold hitAt; rw [h]
def allS (s : api_Estate) (n : Int) (l : List api_Finding) (m : Nat) : List Int := ((List.range m).filter (hitAt s n l)).map (fun i : Nat => (i : Int))
theorem all_ok {s : api_Estate} (h : SoundE s) {n : Int} (hn : 0 ≤ n ∧ n ≤ 1000) {l : List api_Finding} (hl : l.length ≤ 1000) : g_watch_All s l n = some (allS s n l l.length, 0) := by
  unfold g_watch_All
  rw [sound_check h, Option.bind_some, decide_eq_true rfl, Bool.not_true, cond_false, decide_eq_false (by omega), cond_false, decide_eq_false (by omega)]
  unfold g_watch_All.j1
  rw [cond_false]
  have hsz : ∀ m, (allS s n l m).length ≤ m := fun m => by
    unfold allS
    rw [List.length_map]
    have := List.length_filter_le (hitAt s n l) (List.range m)
    rw [List.length_range] at this
    exact this
  refine loop_path (body := fun q' => g_watch_All.l2 s l n q'.1 q'.2) l.length (fun i => ((i : Int), allS s n l i)) (allS s n l l.length, 0) (fun i hi => ?_) ?_
  · obtain ⟨f, hf⟩ : ∃ f, l[i]? = some f := ⟨_, List.getElem?_eq_getElem hi⟩
    show g_watch_All.l2 s l n (i : Int) (allS s n l i) = _
    have hz := hsz i
    have step : allS s n l (i + 1) = allS s n l i ++ (bif hitS s n f then [(i : Int)] else []) := by
      unfold allS
      rw [List.range_succ, List.filter_append, List.map_append]
      congr 1
      rw [List.filter_cons, hitAt_at hf]
      cases hitS s n f <;> rfl
    have J : ∀ b, b = hitS s n f → g_watch_All.j4 (i : Int) (allS s n l i) b = some (.next (((i + 1 : Nat) : Int), allS s n l (i + 1))) := fun b hb => by
      unfold g_watch_All.j4 g_watch_All.j5
      rw [step, ← hb, W_succ (by omega)]
      cases b with
      | true => rw [cond_true, appI_ok (by rw [List.length_singleton]; omega), Option.bind_some]; rfl
      | false => rw [cond_false, cond_false, List.append_nil]
    unfold g_watch_All.l2
    rw [for_in hf]
    have hc := sl_Contains_ep s.Endpoints (fun x0 => g_watch_All_c1 x0 f) (fun e => conS e f) (by unfold Lo; have := h.n2; omega) (fun e he => by
      obtain ⟨j, hj⟩ := List.mem_iff_getElem?.1 he
      unfold g_watch_All_c1
      rw [con_ok (h.eps j e hj) f]
      rfl)
    rw [hc, Option.bind_some]
    unfold hitS at J
    cases hd : decide (f.Day = n) with
    | true => rw [cond_true]; exact J _ (by rw [hd, Bool.true_and])
    | false => rw [cond_false]; exact J _ (by rw [hd, Bool.false_and])
  · show g_watch_All.l2 s l n (l.length : Int) (allS s n l l.length) = _
    unfold g_watch_All.l2
    rw [for_out]
    rfl
theorem has_ok (l : List Int) (n : Int) (h : Lo l) : g_move_Has l n = some (decide (n ∈ l)) := by
  unfold g_move_Has
  refine (loop_has l (fun e => decide (e = n)) true false h (fun i e he => ?_) ?_).trans ?_
  · show g_move_Has.l1 l n (i : Int) = _
    unfold g_move_Has.l1
    rw [for_in he]
    cases decide (e = n) <;> rfl
  · show g_move_Has.l1 l n (l.length : Int) = _
    unfold g_move_Has.l1
    rw [for_out]; rfl
  · have : l.any (fun e => decide (e = n)) = decide (n ∈ l) := by
      rw [Bool.eq_iff_iff, List.any_eq_true, decide_eq_true_eq]
      constructor
      · rintro ⟨x, h1, h2⟩
        rw [← of_decide_eq_true h2]; exact h1
      · intro h1; exact ⟨n, h1, decide_eq_true rfl⟩
    rw [this]
    cases decide (n ∈ l) <;> rfl
theorem law_WatchFinds (x0 : (List Int)) (x1 : UInt8) (hok : okVs [.sl 1 (encL eI x0), .val (.int .u8 (x1.toNat : Int))]) : g_law38_WatchFinds x0 x1 = some true := by
  refine Ok.true_ ?_
  unfold g_law38_WatchFinds g_make_Light
  rw [Option.bind_some]
  refine Ok.cond (fun _ => A38) fun hb => ?_
  have hl : x0.length ≤ 400 := by
    have := of_decide_eq_true (by simpa using hb)
    omega
  refine Ok.bind (Q := DOK) (Ok.ret ⟨by show Lo x0; unfold Lo; omega, Int.le_refl _, by show (0 : Int) ≤ (x0.length : Int); omega⟩) fun d hd => ?_
  refine Ok.bind (sound_ok hd) fun y4 h4 => ?_
  obtain ⟨hs, hd4⟩ := h4
  have hn2 := hs.n2
  obtain ⟨q, hq, hq9⟩ : ∃ q : UInt8, rem8 x1 9 = some q ∧ q.toNat < 9 := by
    unfold rem8
    rw [if_neg (by decide)]
    refine ⟨_, rfl, ?_⟩
    rw [UInt8.toNat_mod]
    exact Nat.mod_lt _ (by decide)
  refine Ok.bindE hq ?_
  obtain ⟨e0, he0⟩ : ∃ e, y4.1.Endpoints[0]? = some e := ⟨_, List.getElem?_eq_getElem (by omega)⟩
  refine Ok.bindE (a := e0) (by rw [getI_z]; exact he0) ?_
  refine Ok.bind (looks_ok hd4 (i := 0) (by omega) (hs.eps 0 e0 he0) _) fun y5 h5 => ?_
  have hl5 := h5.1
  refine Ok.bindE (all_ok hs ⟨by omega, by omega⟩ (by omega)) ?_
  refine Ok.cond (fun h => by cases h) fun _ => ?_
  generalize hn : (q.toNat : Int) = n
  refine Ok.of ?_ rfl
  refine (loop_has y5.1 (fun _ => false) false true (by unfold Lo; omega) (fun i f hf => ?_) ?_).trans ?_
  · show g_law38_WatchFinds.l1 y4 q y5 _ (i : Int) = _
    have hi := at_lt hf
    unfold g_law38_WatchFinds.l1
    rw [for_in hf]
    have key : ∀ k (m : Nat) (b : Bool), m + k = y4.1.Endpoints.length → b = (y4.1.Endpoints.take m).any (fun e => conS e f) → loop (fun q' => g_law38_WatchFinds.l2 y4 q (allS y4.1 n y5.1 y5.1.length, 0) (i : Int) f q'.1 q'.2) (b, (m : Int)) = some (.next (W ((i : Int) + 1))) := by
      intro k
      induction k with
      | zero =>
        intro m b hm hbm
        refine loop_up ?_
        show g_law38_WatchFinds.l2 y4 q (allS y4.1 n y5.1 y5.1.length, 0) (i : Int) f b (m : Int) = _
        have hm' : m = y4.1.Endpoints.length := by omega
        subst hm'
        rw [List.take_length] at hbm
        have hin : decide (((i : Nat) : Int) ∈ allS y4.1 n y5.1 y5.1.length) = hitS y4.1 n f := by
          rw [Bool.eq_iff_iff, decide_eq_true_eq]
          unfold allS
          rw [List.mem_map]
          constructor
          · rintro ⟨j, h1, h2⟩
            obtain rfl : j = i := by omega
            have := (List.mem_filter.1 h1).2
            rw [hitAt_at hf] at this
            exact this
          · intro h1
            refine ⟨i, List.mem_filter.2 ⟨List.mem_range.2 hi, ?_⟩, rfl⟩
            rw [hitAt_at hf]; exact h1
        have hal : Lo (allS y4.1 n y5.1 y5.1.length) := by
          unfold Lo allS
          rw [List.length_map]
          have := List.length_filter_le (hitAt y4.1 n y5.1) (List.range y5.1.length)
          rw [List.length_range] at this
          omega
        unfold g_law38_WatchFinds.l2
        rw [for_out]
        refine congrArg up ?_
        show ((g_move_Has (allS y4.1 n y5.1 y5.1.length) (i : Int)).bind _) = _
        rw [has_ok _ _ hal, Option.bind_some, hin, hn]
        unfold hitS
        rw [← hbm]
        cases b with
        | true =>
          rw [cond_true, Bool.and_true]
          cases hd : decide (f.Day = n) <;> rfl
        | false =>
          rw [cond_false, Bool.and_false]
          rfl
      | succ k ih =>
        intro m b hm hbm
        obtain ⟨e, he⟩ : ∃ e, y4.1.Endpoints[m]? = some e := ⟨_, List.getElem?_eq_getElem (by omega)⟩
        have hb : g_law38_WatchFinds.l2 y4 q (allS y4.1 n y5.1 y5.1.length, 0) (i : Int) f b (m : Int) = some (.next (b || conS e f, ((m + 1 : Nat) : Int))) := by
          unfold g_law38_WatchFinds.l2
          rw [for_in he, con_ok (hs.eps m e he) f, Option.bind_some]
          unfold g_law38_WatchFinds.j3 g_law38_WatchFinds.j4
          rw [W_succ (by omega)]
          cases hc : conS e f with
          | true =>
            obtain ⟨c1, c2, c3, c4⟩ := con_says hc
            rw [cond_true, decide_eq_true c1.symm, Bool.not_true, cond_false, decide_eq_false c2, cond_false, decide_eq_false c3, cond_false, decide_eq_false c4, cond_false, Bool.or_true]
          | false => rw [cond_false, Bool.or_false]
        rw [loop_next (show (fun q' : Bool × Int => g_law38_WatchFinds.l2 y4 q (allS y4.1 n y5.1 y5.1.length, 0) (i : Int) f q'.1 q'.2) (b, (m : Int)) = _ from hb)]
        refine ih (m + 1) _ (by omega) ?_
        rw [take_succ' he, List.any_append, ← hbm]
        simp
    exact key y4.1.Endpoints.length 0 false (by omega) rfl
  · show g_law38_WatchFinds.l1 y4 q y5 _ (y5.1.length : Int) = _
    unfold g_law38_WatchFinds.l1
    rw [for_out, awake38]
    rfl
  · have : y5.1.any (fun _ => false) = false := by simp
    rw [this]; rfl
end Go.Proofs.YtoekocjflclojaaGreat
