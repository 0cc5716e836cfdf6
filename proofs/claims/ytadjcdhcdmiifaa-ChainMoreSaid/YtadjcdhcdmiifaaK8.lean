/- Chains: the laws of chains that were made. No program is in sight here. -/
import Derived.Test.YtadjcdhcdmiifaaK7
set_option linter.unusedVariables false
set_option linter.unusedSimpArgs false
namespace Go.Proofs.Ytadjcdhcdmiifaa
open Go
def AllC (l : List api_Certificate) : Prop := ∀ c ∈ l, FitC c
theorem AllC.set {l : List api_Certificate} (h : AllC l) (j : Nat) {x : api_Certificate} (hx : FitC x) : AllC (setI l j x) := by
  intro c hc
  rcases List.mem_or_eq_of_mem_set hc with hc | rfl
  · exact h c hc
  · exact hx
theorem AllC.part {l : List api_Certificate} (h : AllC l) (a n : Nat) : AllC ((l.drop a).take n) := fun c hc => h c (List.mem_of_mem_drop (List.mem_of_mem_take hc))
theorem setI_len {α : Type} (l : List α) (j : Nat) (x : α) : (setI l j x).length = l.length := by unfold setI; rw [List.length_set]
def MadeQ (y : List api_Certificate × cipherplanmake_Dice) : Prop := (y.1.length ≤ 4 ∧ AllC y.1) ∧ DOK y.2
theorem made_j4 {l : List api_Certificate} {d : cipherplanmake_Dice} (hl : l.length ≤ 4) (ha : AllC l) (hd : DOK d) (b : Bool) (hb : b = true → 0 < l.length) : Ok (g_law04_made.j4 l b d) MadeQ := by
  unfold g_law04_made.j4
  refine Ok.cond (fun h => ?_) fun _ => Ok.ret ⟨⟨hl, ha⟩, hd⟩
  have := hb h
  refine Ok.bind (next_ok hd _ (by omega) (by omega)) fun y hy => ?_
  refine Ok.bind (getI_mem (by omega) (by omega)) fun e he => ?_
  have hf := ha e he
  refine Ok.bindE (ref_Sign e hf _) ?_
  exact Ok.ret ⟨⟨by rw [setI_len]; exact hl, ha.set _ (signS_fit hf hf.is.b1)⟩, hy.2⟩
theorem made_j3 {l : List api_Certificate} {d : cipherplanmake_Dice} (hl : l.length ≤ 4) (ha : AllC l) (hd : DOK d) : Ok (g_law04_made.j3 d l) MadeQ := by
  unfold g_law04_made.j3
  refine Ok.bind (one_ok hd 3 (by omega) (by omega)) fun y hy => ?_
  exact Ok.cond (fun _ => made_j4 hl ha hy _ (fun h => by have := of_decide_eq_true h; omega)) fun _ => made_j4 hl ha hy _ (fun h => by cases h)
theorem i64_55 : I64 55 := ⟨by decide, by decide⟩
theorem made_ok {d : cipherplanmake_Dice} (h : DOK d) : Ok (g_law04_made d) MadeQ := by
  unfold g_law04_made
  refine Ok.bind (key_ok h) fun y1 h1 => ?_
  refine Ok.bind (chain_ok h1.2 (by decide) h1.1 ⟨by decide, by decide⟩) fun y2 h2 => ?_
  obtain ⟨⟨l1, l2, ha⟩, hd2⟩ := h2
  have ha : AllC y2.1 := ha
  refine Ok.bind (next_ok hd2 _ (by omega) (by omega)) fun y3 h3 => ?_
  refine Ok.bind (getI_mem (by omega) (by omega)) fun e he => ?_
  have hf := ha e he
  have i := hf.is
  refine Ok.bind (next_ok h3.2 14 (by omega) (by omega)) fun y4 h4 => ?_
  have S : ∀ (x : api_Certificate) (d' : cipherplanmake_Dice), FitC x → DOK d' → Ok (g_law04_made.j3 d' (setI y2.1 ((y3.1).toNat) x)) MadeQ := fun x d' hx hd' => made_j3 (by rw [setI_len]; omega) (ha.set _ hx) hd'
  have hx1 : (⟨#[120]⟩ : ByteArray).size ≤ 9223372036854775807 := by decide
  refine Ok.cond (fun _ => S _ _ (fit_mk hf.names hf.name hf.issuer hf.subject (W_i64 _) i.a2 i.a3 i.a4 i.a5 i.a6 i.a7 i.a8 i.a9 i.b1 i.b2) h4.2) fun _ => ?_
  refine Ok.cond (fun _ => S _ _ (fit_mk hf.names hf.name hx1 hf.subject i.a1 i.a2 i.a3 i.a4 i.a5 i.a6 i.a7 i.a8 i.a9 i.b1 i.b2) h4.2) fun _ => ?_
  refine Ok.cond (fun _ => S _ _ (fit_mk hf.names hf.name hf.issuer hx1 i.a1 i.a2 i.a3 i.a4 i.a5 i.a6 i.a7 i.a8 i.a9 i.b1 i.b2) h4.2) fun _ => ?_
  refine Ok.cond (fun _ => S _ _ (fit_mk hf.names hf.name hf.issuer hf.subject i.a1 i.a2 i.a3 i64_55 i.a5 i.a6 i.a7 i.a8 i.a9 i.b1 i.b2) h4.2) fun _ => ?_
  refine Ok.cond (fun _ => made_j3 (by rw [setI_len, setI_len]; omega) (by
    refine AllC.set (AllC.set ha _ ?_) _ ?_
    · exact fit_mk hf.names hf.name hf.issuer hf.subject i.a1 i.a2 i.a3 i.a4 i.a5 i.a6 i.a7 i.a8 i.a9 i.b1 i.b2
    · exact fit_mk hf.names hf.name hf.issuer hf.subject i.a1 i.a2 i.a3 i.a4 i.a5 i.a6 i.a7 i.a8 i64_0 i.b1 i.b2) h4.2) fun _ => ?_
  refine Ok.cond (fun _ => Ok.bind (of_ok h4.2 _ (by decide) (by decide)) fun y5 h5 => S _ _ (fit_mk hf.names hf.name hf.issuer hf.subject i.a1 i.a2 i.a3 i.a4 i.a5 i.a6 i.a7 i.a8 (sm_of (by decide) h5.1).i64 i.b1 i.b2) h5.2) fun _ => ?_
  refine Ok.cond (fun _ => S _ _ (fit_mk (by show (0 : Nat) < 1000000000; omega) (by intro s hs; cases hs) hf.issuer hf.subject i.a1 i.a2 i.a3 i.a4 i.a5 i.a6 i.a7 i.a8 i.a9 i.b1 i.b2) h4.2) fun _ => ?_
  refine Ok.cond (fun _ => ?_) fun _ => ?_
  · refine Ok.bind (getI_mem (by omega) (by omega)) fun e2 he2 => ?_
    refine Ok.bind (appI_ok' (by simp; omega)) fun l hl => ?_
    subst hl
    refine made_j3 (by simp; omega) ?_ h4.2
    intro c hc
    rcases List.mem_append.1 hc with hc | hc
    · exact ha c hc
    · rw [List.mem_singleton.1 hc]; exact ha e2 he2
  refine Ok.cond (fun _ => ?_) fun _ => ?_
  · refine Ok.bind (slI_ok (by omega)) fun l hl => ?_
    clear hl
    refine Ok.bind (one_ok h4.2 3 (by omega) (by omega)) fun y7 h7 => ?_
    have hp := ha.part (1 : Int).toNat ((y2.1.length : Int).toNat - (1 : Int).toNat)
    have hlen : ((y2.1.drop (1 : Int).toNat).take ((y2.1.length : Int).toNat - (1 : Int).toNat)).length = (y2.1.length : Int).toNat - (1 : Int).toNat := by
      rw [List.length_take, List.length_drop]; omega
    have J : ∀ b : Bool, (b = true → 0 < (y2.1.length : Int).toNat - (1 : Int).toNat) → Ok (g_law04_made.j2 y2 b y7.2) MadeQ := by
      intro b hb
      unfold g_law04_made.j2
      refine Ok.cond (fun h => ?_) fun _ => Ok.ret ⟨⟨by show (List.take _ _).length ≤ 4; rw [hlen]; omega, hp⟩, h7⟩
      have := hb h
      refine Ok.bind (next_ok h7 _ (by omega) (by omega)) fun y8 h8 => ?_
      refine Ok.bind (getI_mem (by omega) (by rw [hlen]; omega)) fun e6 he6 => ?_
      have hf6 := hp e6 he6
      refine Ok.bindE (ref_Sign e6 hf6 _) ?_
      refine Ok.ret ⟨⟨?_, (ha.set _ (signS_fit hf6 hf6.is.b1)).part _ _⟩, h8.2⟩
      show (List.take _ _).length ≤ 4
      rw [List.length_take]; omega
    exact Ok.cond (fun _ => J _ (fun h => by have := of_decide_eq_true h; omega)) fun _ => J _ (fun h => by cases h)
  refine Ok.cond (fun _ => ?_) fun _ => ?_
  · rw [W_id (by omega)]
    have hl0 : ((y2.1.drop 0).take y2.1.length) = y2.1 := by rw [List.drop_zero, List.take_length]
    rw [hl0]
    refine Ok.bind (getI_mem (by omega) (by omega)) fun e3 he3 => ?_
    refine Ok.bind (getI_mem (by omega) (by omega)) fun e4 he4 => ?_
    have hs1 := ha.set (0 + ((0 : Int).toNat)) (ha e3 he3)
    refine Ok.bind (getI_mem (by omega) (by rw [List.drop_zero, List.length_take, setI_len]; omega)) fun e5 he5 => ?_
    exact made_j3 (by rw [setI_len, setI_len]; omega) (hs1.set _ (ha e4 he4)) h4.2
  refine Ok.cond (fun _ => Ok.bind (of_ok h4.2 _ (by decide) (by decide)) fun y6 h6 => S _ _ (fit_mk hf.names hf.name hf.issuer hf.subject i.a1 i.a2 i.a3 i.a4 i.a5 i.a6 i.a7 i.a8 i.a9 (sm_of (by decide) h6.1).i64 i.b2) h6.2) fun _ => ?_
  refine Ok.cond (fun _ => S _ _ (fit_mk hf.names hf.name hf.issuer hf.subject i.a1 i.a2 i.a3 i.a4 i.a5 i.a6 (W_i64 _) i.a8 i.a9 i.b1 i.b2) h4.2) fun _ => ?_
  exact made_j3 (by omega) ha h4.2
theorem roll_ok {l : List Int} (h : l.length ≤ 400) : Ok (g_make_Roll l) DOK := Ok.ret ⟨lo_small (by show l.length ≤ _; omega), Int.le_refl _, by show (0 : Int) ≤ (l.length : Int); omega⟩
theorem path_same (l : List api_Certificate) (i : Int) : g_ref04_Path l i = g_chain_Path l i := rfl
theorem path_ok (l : List api_Certificate) (i : Int) (h : i < 4611686018427387904) : Ok (g_chain_Path l i) (fun _ => True) := by
  by_cases h0 : i < 0
  · unfold g_chain_Path
    rw [decide_eq_true h0]
    exact ⟨_, rfl, trivial⟩
  · have e : i = ((i.toNat : Nat) : Int) := by omega
    rw [e]
    exact ⟨_, chain_Path l i.toNat (by omega), trivial⟩
theorem awakeOk : Ok (g_law04_awake.bind fun y => some y) (fun r => r = true) := Ok.bindE awake_law04 (Ok.ret rfl)
theorem law_ChainMade (x0 : (List Int)) (x1 : Int) (x2 : ByteArray) (hok : okDs [.sl 1 (encL eI x0), .val (.int .i64 x1), .val (.string x2)]) : g_law04_ChainMade x0 x1 x2 = some true := by
  refine Ok.true_ ?_
  unfold g_law04_ChainMade g_make_Light
  rw [Option.bind_some]
  have T : Ok (g_law04_ChainMade.j1 x0 x1 x2 true) (fun r => r = true) := awakeOk
  refine Ok.cond (fun _ => T) fun hb => ?_
  have hl : x0.length ≤ 400 := by
    have := of_decide_eq_true (by simpa using hb)
    omega
  refine (?_ : ∀ b, Ok (g_law04_ChainMade.j1 x0 x1 x2 b) (fun r => r = true)) _
  intro b
  unfold g_law04_ChainMade.j1
  refine Ok.cond (fun _ => awakeOk) fun _ => ?_
  refine Ok.bind (roll_ok hl) fun d hd => ?_
  refine Ok.bind (made_ok hd) fun y hy => ?_
  obtain ⟨⟨hlen, hall⟩, hd⟩ := hy
  refine Ok.bind (next_ok hd 4 (by omega) (by omega)) fun y5 h5 => ?_
  refine Ok.bind (getI_mem (by omega) (by show y5.1 < (4 : Int); omega)) fun e he => ?_
  have hea : Lo e := by
    simp only [List.mem_cons, List.not_mem_nil, or_false] at he
    rcases he with rfl | rfl | rfl | rfl <;> exact lo_small (by decide)
  unfold g_law04_hashes
  rw [Option.bind_some]
  refine Ok.bind (next_ok h5.2 3 (by omega) (by omega)) fun y7 h7 => ?_
  refine Ok.bind (getI_mem (by omega) (by show y7.1 < (3 : Int); omega)) fun e2 he2 => ?_
  have hh : Lo e2 := by
    simp only [List.mem_cons, List.not_mem_nil, or_false] at he2
    rcases he2 with rfl | rfl | rfl <;> exact lo_small (by decide)
  refine Ok.loop (fun s => -1 ≤ s ∧ s ≤ (y.1.length : Int) + 1) (fun s => ((y.1.length : Int) + 1 - s).toNat) (fun s hs => ?_) ⟨Int.le_refl _, by omega⟩
  show Ok (g_law04_ChainMade.l2 x1 x2 y e y7 e2 s) _
  unfold g_law04_ChainMade.l2
  refine Ok.cond (fun hb => ?_) fun hb => ?_
  · have hb := of_decide_eq_true hb
    rw [path_same]
    obtain ⟨p, hp, -⟩ := path_ok y.1 s (by omega)
    refine Ok.bindE hp (Ok.bindE hp ?_)
    rw [decide_eq_true rfl, Bool.not_true, cond_false, W_id (by omega)]
    refine Ok.ret ⟨⟨?_, ?_⟩, ?_⟩
    · show -1 ≤ s + 1; omega
    · show s + 1 ≤ (y.1.length : Int) + 1; omega
    · show ((y.1.length : Int) + 1 - (s + 1)).toNat < ((y.1.length : Int) + 1 - s).toNat; omega
  · refine Ok.up ?_
    refine Ok.bind (of_ok h7.2 _ (by decide) (by decide)) fun y10 h10 => ?_
    refine Ok.bind (word_ok h10.2 _ (by decide) (by decide)) fun y11 h11 => ?_
    refine Ok.bindE (chain_Check y.1 e e2 _ _ hea hh hall) (Ok.bindE (ref04_Check y.1 e e2 _ _ hea hh hall) ?_)
    rw [decide_eq_true rfl, cond_true]
    unfold g_law04_hashes
    rw [Option.bind_some]
    have h4 : Lo ([1, 2, 3, 4] : List Int) := lo_small (by decide)
    have ly : Lo y.1 := lo_small (by omega)
    refine Ok.bindE (chain_Check y.1 e _ _ _ hea h4 hall) ?_
    rw [Option.bind_some]
    refine Ok.bindE (ref04_Check y.1 e _ _ _ hea h4 hall) ?_
    rw [decide_eq_true rfl, cond_true]
    refine Ok.bindE (chain_Until y.1 ly) (Ok.bindE (ref04_Until y.1 ly) ?_)
    rw [decide_eq_true rfl, cond_true]
    exact awakeOk
theorem checkS_zero {l : List api_Certificate} {anchors hashes : List Int} {day : Int} {name : ByteArray} : checkS l anchors hashes day name = 0 ↔
    (¬ l.length = 0 ∧ ¬ 8 < l.length ∧ l.any (fun c => !certS c) = false ∧ namedB l name = true ∧ l.any (dayB day) = false ∧ l.any (hashB hashes) = false ∧ failS 11 l = false ∧ failS 15 l = false ∧ failS 10 l = false ∧ lastB l anchors = true) := by
  unfold checkS
  by_cases h0 : l.length = 0
  · simp [h0]
  by_cases h8 : 8 < l.length
  · simp [h0, h8]
  simp only [decide_eq_false h0, decide_eq_false h8, cond_false, h0, h8, not_false_iff, true_and]
  cases l.any (fun c => !certS c) <;> cases namedB l name <;> cases l.any (dayB day) <;> cases l.any (hashB hashes) <;> cases failS 11 l <;> cases failS 15 l <;> cases failS 10 l <;> cases lastB l anchors <;> decide
theorem untilS_lt {l : List api_Certificate} {t : Int} (h0 : ¬ l.length = 0) (h : ∀ c ∈ l, t < c.To) : t < untilS l := by
  cases l with
  | nil => exact absurd rfl h0
  | cons c m =>
    unfold untilS
    have key : ∀ (m : List api_Certificate) (n : Int), t < n → (∀ c ∈ m, t < c.To) → t < m.foldl (fun n x => min n x.To) n := by
      intro m
      induction m with
      | nil => intro n hn _; exact hn
      | cons x m ih =>
        intro n hn hm
        rw [List.foldl_cons]
        refine ih _ ?_ fun c hc => hm c (List.mem_cons_of_mem _ hc)
        have := hm x (List.mem_cons_self ..)
        omega
    exact key m c.To (h c (List.mem_cons_self ..)) fun x hx => h x (List.mem_cons_of_mem _ hx)
theorem hasB_mono {a b : List Int} (h : ∀ x ∈ a, x ∈ b) {n : Int} (hn : hasB a n = true) : hasB b n = true := by
  unfold hasB at *
  rw [List.any_eq_true] at *
  obtain ⟨x, h1, h2⟩ := hn
  exact ⟨x, h x h1, h2⟩
theorem dayB_false {day : Int} {c : api_Certificate} : dayB day c = false ↔ c.From ≤ day ∧ day < c.To := by
  unfold dayB
  simp only [Bool.or_eq_false_iff, decide_eq_false_iff_not]
  omega
theorem law_ChainMore (x0 : (List Int)) (x1 : UInt8) (x2 : UInt8) (x3 : UInt8) (hok : okDs [.sl 1 (encL eI x0), .val (.int .u8 (x1.toNat : Int)), .val (.int .u8 (x2.toNat : Int)), .val (.int .u8 (x3.toNat : Int))]) : g_law04_ChainMore x0 x1 x2 x3 = some true := by
  refine Ok.true_ ?_
  unfold g_law04_ChainMore g_make_Light
  rw [Option.bind_some]
  refine Ok.cond (fun _ => awakeOk) fun hb => ?_
  have hl : x0.length ≤ 400 := by
    have := of_decide_eq_true (by simpa using hb)
    omega
  refine Ok.bind (roll_ok hl) fun d hd => ?_
  refine Ok.bind (made_ok hd) fun y hy => ?_
  obtain ⟨⟨hlen, hall⟩, hd⟩ := hy
  refine Ok.bind (some_ok hd 1 4 (by omega) (by omega) (by omega)) fun y5 h5 => ?_
  refine Ok.bind (some_ok h5.2 1 2 (by omega) (by omega) (by omega)) fun y6 h6 => ?_
  have b1 := x1.toNat_lt
  have b2 := x2.toNat_lt
  have b3 := x3.toNat_lt
  generalize x1.toNat = a at *
  generalize x2.toNat = b at *
  generalize x3.toNat = c at *
  rw [W_id (x := (a : Int) + (b : Int)) (by omega), W_id (x := (a : Int) + (b : Int) - (a : Int)) (by omega), W_id (x := (a : Int) + (b : Int) - (a : Int) + 1) (by omega)]
  have hq1 := Int.tmod_lt_of_pos (c : Int) (show (0 : Int) < (a : Int) + (b : Int) - (a : Int) + 1 by omega)
  have hq0 := Int.tmod_nonneg ((a : Int) + (b : Int) - (a : Int) + 1) (show (0 : Int) ≤ (c : Int) by omega)
  refine Ok.bindE (a := (c : Int).tmod ((a : Int) + (b : Int) - (a : Int) + 1)) (by unfold remI; rw [if_neg (by omega)]) ?_
  generalize (c : Int).tmod ((a : Int) + (b : Int) - (a : Int) + 1) = q at *
  have la : Lo y6.1 := lo_small (by have := h6.1.1; omega)
  have lh : Lo y5.1 := lo_small (by have := h5.1.1; omega)
  have h4 : Lo ([1, 2, 3, 4] : List Int) := lo_small (by decide)
  have h3 : Lo ([1, 2, 77] : List Int) := lo_small (by decide)
  have ly : Lo y.1 := lo_small (by omega)
  refine Ok.bindE (chain_Check y.1 y6.1 y5.1 _ _ la lh hall) (Ok.bindE (chain_Check y.1 y6.1 y5.1 _ _ la lh hall) ?_)
  have F : Ok (g_law04_ChainMore.j1 false) (fun r => r = true) := by
    unfold g_law04_ChainMore.j1 g_law04_hashes
    rw [cond_false, Option.bind_some]
    refine Ok.bindE (ref_Has _ _ h4) ?_
    exact awakeOk
  refine Ok.cond (fun hz => ?_) fun _ => F
  have hz := checkS_zero.1 (of_decide_eq_true hz)
  obtain ⟨z1, z2, z3, z4, z5, z6, z7, z8, z9, z10⟩ := hz
  rw [List.any_eq_false] at z5 z6
  have z5' : ∀ c ∈ y.1, c.From ≤ (a : Int) ∧ (a : Int) < c.To := fun c hc => dayB_false.1 (by simpa using z5 c hc)
  unfold g_law04_hashes
  rw [Option.bind_some]
  refine Ok.bindE (chain_Check y.1 _ _ _ _ h3 h4 hall) ?_
  have e1 : checkS y.1 [1, 2, 77] [1, 2, 3, 4] (a : Int) ⟨#[119, 101, 98]⟩ = 0 := by
    refine checkS_zero.2 ⟨z1, z2, z3, z4, ?_, ?_, z7, z8, z9, ?_⟩
    · rw [List.any_eq_false]; exact z5
    · rw [List.any_eq_false]
      intro c hc
      have := z6 c hc
      unfold hashB at *
      have : hasB y5.1 c.Hash.Alg = true := by simpa using this
      have := hasB_mono (b := [1, 2, 3, 4]) (fun x hx => by
        have := h5.1.2 x hx
        simp only [List.mem_cons, List.not_mem_nil, or_false]; omega) this
      simp [this]
    · unfold lastB at *
      cases hz : y.1[y.1.length - 1]? with
      | none => rw [hz] at z10; cases z10
      | some c =>
        rw [hz] at z10
        exact hasB_mono (fun x hx => by
          have := h6.1.2 x hx
          simp only [List.mem_cons, List.not_mem_nil, or_false]; omega) z10
  rw [e1, decide_eq_true rfl, Bool.not_true, cond_false]
  refine Ok.bindE (chain_Until y.1 ly) ?_
  have hu := untilS_lt z1 fun c hc => (z5' c hc).2
  rw [decide_eq_false (by omega), cond_false]
  refine Ok.cond (fun hf => ?_) fun _ => F
  have hf := checkS_zero.1 (of_decide_eq_true hf)
  have f5 := hf.2.2.2.2.1
  rw [List.any_eq_false] at f5
  rw [W_id (by omega)]
  refine Ok.bindE (chain_Check y.1 _ _ _ _ la lh hall) ?_
  have e2 : checkS y.1 y6.1 y5.1 ((a : Int) + q) ⟨#[119, 101, 98]⟩ = 0 := by
    refine checkS_zero.2 ⟨z1, z2, z3, z4, ?_, by rw [List.any_eq_false]; exact z6, z7, z8, z9, z10⟩
    rw [List.any_eq_false]
    intro c hc
    have g1 := z5' c hc
    have g2 := dayB_false.1 (by simpa using f5 c hc : dayB _ c = false)
    have : dayB ((a : Int) + q) c = false := dayB_false.2 (by omega)
    simp [this]
  rw [e2, decide_eq_true rfl, Bool.not_true]
  exact F
end Go.Proofs.Ytadjcdhcdmiifaa
