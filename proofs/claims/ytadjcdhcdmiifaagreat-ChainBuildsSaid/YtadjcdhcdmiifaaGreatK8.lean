/- Chains: the laws of chains that were made. No program is in sight here. -/
import Derived.Test.YtadjcdhcdmiifaaGreatK7
set_option linter.unusedVariables false
set_option linter.unusedSimpArgs false
namespace Go.Proofs.YtadjcdhcdmiifaaGreat
open Go

/-- Certificates that may be looked at. -/
def AllC (l : List api_Certificate) : Prop := ∀ c ∈ l, FitC c
theorem AllC.set {l : List api_Certificate} (h : AllC l) (j : Nat) {x : api_Certificate} (hx : FitC x) : AllC (setI l j x) := by
  intro c hc
  rcases List.mem_or_eq_of_mem_set hc with hc | rfl
  · exact h c hc
  · exact hx
theorem AllC.part {l : List api_Certificate} (h : AllC l) (a n : Nat) : AllC ((l.drop a).take n) := fun c hc => h c (List.mem_of_mem_drop (List.mem_of_mem_take hc))
theorem setI_len {α : Type} (l : List α) (j : Nat) (x : α) : (setI l j x).length = l.length := by unfold setI; rw [List.length_set]
def MadeQ (y : List api_Certificate × cipherplanmake_Dice) : Prop := (y.1.length ≤ 4 ∧ AllC y.1) ∧ DOK y.2
theorem made_j4 {l : List api_Certificate} {d : cipherplanmake_Dice} (hl : l.length ≤ 4) (ha : AllC l) (hd : DOK d) (b : Bool) (hb : b = true → 0 < l.length) : Ok (g_law04_made.j4 l b d) MadeQ := by
  unfold g_law04_made.j4
  refine Ok.cond (fun h => ?_) fun _ => Ok.ret ⟨⟨hl, ha⟩, hd⟩
  have := hb h
  refine Ok.bind (next_ok hd _ (by omega) (by omega)) fun y hy => ?_
  refine Ok.bind (getI_mem (by omega) (by omega)) fun e he => ?_
  have hf := ha e he
  refine Ok.bindE (ref_Sign e hf _) ?_
  exact Ok.ret ⟨⟨by rw [setI_len]; exact hl, ha.set _ (signS_fit hf hf.is.b1)⟩, hy.2⟩
theorem made_j3 {l : List api_Certificate} {d : cipherplanmake_Dice} (hl : l.length ≤ 4) (ha : AllC l) (hd : DOK d) : Ok (g_law04_made.j3 d l) MadeQ := by
  unfold g_law04_made.j3
  refine Ok.bind (one_ok hd 3 (by omega) (by omega)) fun y hy => ?_
  exact Ok.cond (fun _ => made_j4 hl ha hy _ (fun h => by have := of_decide_eq_true h; omega)) fun _ => made_j4 hl ha hy _ (fun h => by cases h)
theorem i64_55 : I64 55 := ⟨by decide, by decide⟩
theorem made_ok {d : cipherplanmake_Dice} (h : DOK d) : Ok (g_law04_made d) MadeQ := by
  unfold g_law04_made
  refine Ok.bind (key_ok h) fun y1 h1 => ?_
  refine Ok.bind (chain_ok h1.2 (by decide) h1.1 ⟨by decide, by decide⟩) fun y2 h2 => ?_
  obtain ⟨⟨l1, l2, ha⟩, hd2⟩ := h2
  have ha : AllC y2.1 := ha
  refine Ok.bind (next_ok hd2 _ (by omega) (by omega)) fun y3 h3 => ?_
  refine Ok.bind (getI_mem (by omega) (by omega)) fun e he => ?_
  have hf := ha e he
  have i := hf.is
  refine Ok.bind (next_ok h3.2 14 (by omega) (by omega)) fun y4 h4 => ?_
  have S : ∀ (x : api_Certificate) (d' : cipherplanmake_Dice), FitC x → DOK d' → Ok (g_law04_made.j3 d' (setI y2.1 ((y3.1).toNat) x)) MadeQ := fun x d' hx hd' => made_j3 (by rw [setI_len]; omega) (ha.set _ hx) hd'
  have hx1 : (⟨#[120]⟩ : ByteArray).size ≤ 9223372036854775807 := by decide
  refine Ok.cond (fun _ => S _ _ (fit_mk hf.names hf.name hf.issuer hf.subject (W_i64 _) i.a2 i.a3 i.a4 i.a5 i.a6 i.a7 i.a8 i.a9 i.b1 i.b2) h4.2) fun _ => ?_
  refine Ok.cond (fun _ => S _ _ (fit_mk hf.names hf.name hx1 hf.subject i.a1 i.a2 i.a3 i.a4 i.a5 i.a6 i.a7 i.a8 i.a9 i.b1 i.b2) h4.2) fun _ => ?_
  refine Ok.cond (fun _ => S _ _ (fit_mk hf.names hf.name hf.issuer hx1 i.a1 i.a2 i.a3 i.a4 i.a5 i.a6 i.a7 i.a8 i.a9 i.b1 i.b2) h4.2) fun _ => ?_
  refine Ok.cond (fun _ => S _ _ (fit_mk hf.names hf.name hf.issuer hf.subject i.a1 i.a2 i.a3 i64_55 i.a5 i.a6 i.a7 i.a8 i.a9 i.b1 i.b2) h4.2) fun _ => ?_
  refine Ok.cond (fun _ => made_j3 (by rw [setI_len, setI_len]; omega) (by
    refine AllC.set (AllC.set ha _ ?_) _ ?_
    · exact fit_mk hf.names hf.name hf.issuer hf.subject i.a1 i.a2 i.a3 i.a4 i.a5 i.a6 i.a7 i.a8 i.a9 i.b1 i.b2
    · exact fit_mk hf.names hf.name hf.issuer hf.subject i.a1 i.a2 i.a3 i.a4 i.a5 i.a6 i.a7 i.a8 i64_0 i.b1 i.b2) h4.2) fun _ => ?_
  refine Ok.cond (fun _ => Ok.bind (of_ok h4.2 _ (by decide) (by decide)) fun y5 h5 => S _ _ (fit_mk hf.names hf.name hf.issuer hf.subject i.a1 i.a2 i.a3 i.a4 i.a5 i.a6 i.a7 i.a8 (sm_of (by decide) h5.1).i64 i.b1 i.b2) h5.2) fun _ => ?_
  refine Ok.cond (fun _ => S _ _ (fit_mk (by show (0 : Nat) < 1000000000; omega) (by intro s hs; cases hs) hf.issuer hf.subject i.a1 i.a2 i.a3 i.a4 i.a5 i.a6 i.a7 i.a8 i.a9 i.b1 i.b2) h4.2) fun _ => ?_
  refine Ok.cond (fun _ => ?_) fun _ => ?_
  · refine Ok.bind (getI_mem (by omega) (by omega)) fun e2 he2 => ?_
    refine Ok.bind (appI_ok' (by simp; omega)) fun l hl => ?_
    subst hl
    refine made_j3 (by simp; omega) ?_ h4.2
    intro c hc
    rcases List.mem_append.1 hc with hc | hc
    · exact ha c hc
    · rw [List.mem_singleton.1 hc]; exact ha e2 he2
  refine Ok.cond (fun _ => ?_) fun _ => ?_
  · refine Ok.bind (slI_ok (by omega)) fun l hl => ?_
    clear hl
    refine Ok.bind (one_ok h4.2 3 (by omega) (by omega)) fun y7 h7 => ?_
    have hp := ha.part (1 : Int).toNat ((y2.1.length : Int).toNat - (1 : Int).toNat)
    have hlen : ((y2.1.drop (1 : Int).toNat).take ((y2.1.length : Int).toNat - (1 : Int).toNat)).length = (y2.1.length : Int).toNat - (1 : Int).toNat := by
      rw [List.length_take, List.length_drop]; omega
    have J : ∀ b : Bool, (b = true → 0 < (y2.1.length : Int).toNat - (1 : Int).toNat) → Ok (g_law04_made.j2 y2 b y7.2) MadeQ := by
      intro b hb
      unfold g_law04_made.j2
      refine Ok.cond (fun h => ?_) fun _ => Ok.ret ⟨⟨by show (List.take _ _).length ≤ 4; rw [hlen]; omega, hp⟩, h7⟩
      have := hb h
      refine Ok.bind (next_ok h7 _ (by omega) (by omega)) fun y8 h8 => ?_
      refine Ok.bind (getI_mem (by omega) (by rw [hlen]; omega)) fun e6 he6 => ?_
      have hf6 := hp e6 he6
      refine Ok.bindE (ref_Sign e6 hf6 _) ?_
      refine Ok.ret ⟨⟨?_, (ha.set _ (signS_fit hf6 hf6.is.b1)).part _ _⟩, h8.2⟩
      show (List.take _ _).length ≤ 4
      rw [List.length_take]; omega
    exact Ok.cond (fun _ => J _ (fun h => by have := of_decide_eq_true h; omega)) fun _ => J _ (fun h => by cases h)
  refine Ok.cond (fun _ => ?_) fun _ => ?_
  · rw [W_id (by omega)]
    have hl0 : ((y2.1.drop 0).take y2.1.length) = y2.1 := by rw [List.drop_zero, List.take_length]
    rw [hl0]
    refine Ok.bind (getI_mem (by omega) (by omega)) fun e3 he3 => ?_
    refine Ok.bind (getI_mem (by omega) (by omega)) fun e4 he4 => ?_
    have hs1 := ha.set (0 + ((0 : Int).toNat)) (ha e3 he3)
    refine Ok.bind (getI_mem (by omega) (by rw [List.drop_zero, List.length_take, setI_len]; omega)) fun e5 he5 => ?_
    exact made_j3 (by rw [setI_len, setI_len]; omega) (hs1.set _ (ha e4 he4)) h4.2
  refine Ok.cond (fun _ => Ok.bind (of_ok h4.2 _ (by decide) (by decide)) fun y6 h6 => S _ _ (fit_mk hf.names hf.name hf.issuer hf.subject i.a1 i.a2 i.a3 i.a4 i.a5 i.a6 i.a7 i.a8 i.a9 (sm_of (by decide) h6.1).i64 i.b2) h6.2) fun _ => ?_
  refine Ok.cond (fun _ => S _ _ (fit_mk hf.names hf.name hf.issuer hf.subject i.a1 i.a2 i.a3 i.a4 i.a5 i.a6 (W_i64 _) i.a8 i.a9 i.b1 i.b2) h4.2) fun _ => ?_
  exact made_j3 (by omega) ha h4.2

theorem roll_ok {l : List Int} (h : l.length ≤ 400) : Ok (g_make_Roll l) DOK := Ok.ret ⟨lo_small (by show l.length ≤ _; omega), Int.le_refl _, by show (0 : Int) ≤ (l.length : Int); omega⟩
theorem path_same (l : List api_Certificate) (i : Int) : g_ref04_Path l i = g_chain_Path l i := rfl
theorem path_ok (l : List api_Certificate) (i : Int) (h : i < 4611686018427387904) : Ok (g_chain_Path l i) (fun _ => True) := by
  by_cases h0 : i < 0
  · unfold g_chain_Path
    rw [decide_eq_true h0]
    exact ⟨_, rfl, trivial⟩
  · have e : i = ((i.toNat : Nat) : Int) := by omega
    rw [e]
    exact ⟨_, chain_Path l i.toNat (by omega), trivial⟩
theorem awakeOk : Ok (g_law04_awake.bind fun y => some y) (fun r => r = true) := Ok.bindE awake_law04 (Ok.ret rfl)

/-! more anchors, more hashes, days between -/
theorem checkS_zero {l : List api_Certificate} {anchors hashes : List Int} {day : Int} {name : ByteArray} : checkS l anchors hashes day name = 0 ↔
    (¬ l.length = 0 ∧ ¬ 8 < l.length ∧ l.any (fun c => !certS c) = false ∧ namedB l name = true ∧ l.any (dayB day) = false ∧ l.any (hashB hashes) = false ∧ failS 11 l = false ∧ failS 15 l = false ∧ failS 10 l = false ∧ lastB l anchors = true) := by
  unfold checkS
  by_cases h0 : l.length = 0
  · simp [h0]
  by_cases h8 : 8 < l.length
  · simp [h0, h8]
  simp only [decide_eq_false h0, decide_eq_false h8, cond_false, h0, h8, not_false_iff, true_and]
  cases l.any (fun c => !certS c) <;> cases namedB l name <;> cases l.any (dayB day) <;> cases l.any (hashB hashes) <;> cases failS 11 l <;> cases failS 15 l <;> cases failS 10 l <;> cases lastB l anchors <;> decide
theorem untilS_lt {l : List api_Certificate} {t : Int} (h0 : ¬ l.length = 0) (h : ∀ c ∈ l, t < c.To) : t < untilS l := by
  cases l with
  | nil => exact absurd rfl h0
  | cons c m =>
    unfold untilS
    have key : ∀ (m : List api_Certificate) (n : Int), t < n → (∀ c ∈ m, t < c.To) → t < m.foldl (fun n x => min n x.To) n := by
      intro m
      induction m with
      | nil => intro n hn _; exact hn
      | cons x m ih =>
        intro n hn hm
        rw [List.foldl_cons]
        refine ih _ ?_ fun c hc => hm c (List.mem_cons_of_mem _ hc)
        have := hm x (List.mem_cons_self ..)
        omega
    exact key m c.To (h c (List.mem_cons_self ..)) fun x hx => h x (List.mem_cons_of_mem _ hx)
theorem hasB_mono {a b : List Int} (h : ∀ x ∈ a, x ∈ b) {n : Int} (hn : hasB a n = true) : hasB b n = true := by
  unfold hasB at *
  rw [List.any_eq_true] at *
  obtain ⟨x, h1, h2⟩ := hn
  exact ⟨x, h x h1, h2⟩
theorem dayB_false {day : Int} {c : api_Certificate} : dayB day c = false ↔ c.From ≤ day ∧ day < c.To := by
  unfold dayB
  simp only [Bool.or_eq_false_iff, decide_eq_false_iff_not]
  omega
end Go.Proofs.YtadjcdhcdmiifaaGreat
