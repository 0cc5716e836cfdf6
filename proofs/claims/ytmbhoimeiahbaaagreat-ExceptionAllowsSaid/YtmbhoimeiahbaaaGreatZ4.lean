/- Plain texts, joined. No program is in sight here. -/
import Derived.Test.YtmbhoimeiahbaaaGreatX10
import Derived.Test.YtmbhoimeiahbaaaGreatK6
import Derived.Test.YtmbhoimeiahbaaaGreatL3
import Derived.Test.YtmbhoimeiahbaaaGreatM0
import Derived.Test.YtmbhoimeiahbaaaGreatX4
set_option linter.unusedVariables false
set_option linter.unusedSimpArgs false
set_option maxRecDepth 100000
namespace Go.Proofs.YtmbhoimeiahbaaaGreat
section
open Go
theorem size_spec {d : cipherplanmake_Dice} (hd : DOK d) {a : Int} (ha : 1 ≤ a ∧ a ≤ 22) : Ok (g_make_size d a) (fun y => decide (0 < strS ⟨a, y.1⟩) = true ∧ DOK y.2) := by
  rcases alg_cases ha with rfl | rfl | rfl | rfl | rfl | rfl | rfl | rfl | rfl | rfl | rfl | rfl | rfl | rfl | rfl | rfl | rfl | rfl | rfl | rfl | rfl | rfl
  · show Ok (some ((0 : Int), d)) _
    exact Ok.ret ⟨show decide (0 < strS ⟨1, 0⟩) = true by decide +kernel, hd⟩
  · show Ok (some ((0 : Int), d)) _
    exact Ok.ret ⟨show decide (0 < strS ⟨2, 0⟩) = true by decide +kernel, hd⟩
  · show Ok (some ((0 : Int), d)) _
    exact Ok.ret ⟨show decide (0 < strS ⟨3, 0⟩) = true by decide +kernel, hd⟩
  · show Ok (some ((0 : Int), d)) _
    exact Ok.ret ⟨show decide (0 < strS ⟨4, 0⟩) = true by decide +kernel, hd⟩
  · show Ok ((g_make_Dice_Of d ([2048, 1024, 512, 3072, 1023, 4096, 16384] : List Int)).bind fun y => some (y.1, y.2)) _
    refine Ok.bind (of_ok hd _ (by decide) (by decide)) fun y hy => Ok.ret ⟨?_, hy.2⟩
    have h := hy.1
    simp only [List.mem_cons, List.not_mem_nil, or_false] at h
    show decide (0 < strS ⟨5, y.1⟩) = true
    rcases h with e | e | e | e | e | e | e <;> rw [e] <;> decide +kernel
  · show Ok ((g_make_Dice_Of d ([2048, 1024, 512, 3072, 1023, 4096, 16384] : List Int)).bind fun y => some (y.1, y.2)) _
    refine Ok.bind (of_ok hd _ (by decide) (by decide)) fun y hy => Ok.ret ⟨?_, hy.2⟩
    have h := hy.1
    simp only [List.mem_cons, List.not_mem_nil, or_false] at h
    show decide (0 < strS ⟨6, y.1⟩) = true
    rcases h with e | e | e | e | e | e | e <;> rw [e] <;> decide +kernel
  · show Ok ((g_make_Dice_Of d ([256, 160, 224, 384, 521] : List Int)).bind fun y => some (y.1, y.2)) _
    refine Ok.bind (of_ok hd _ (by decide) (by decide)) fun y hy => Ok.ret ⟨?_, hy.2⟩
    have h := hy.1
    simp only [List.mem_cons, List.not_mem_nil, or_false] at h
    show decide (0 < strS ⟨7, y.1⟩) = true
    rcases h with e | e | e | e | e <;> rw [e] <;> decide +kernel
  · show Ok (some ((0 : Int), d)) _
    exact Ok.ret ⟨show decide (0 < strS ⟨8, 0⟩) = true by decide +kernel, hd⟩
  · show Ok ((g_make_Dice_Of d ([65, 44, 87] : List Int)).bind fun y => some (y.1, y.2)) _
    refine Ok.bind (of_ok hd _ (by decide) (by decide)) fun y hy => Ok.ret ⟨?_, hy.2⟩
    have h := hy.1
    simp only [List.mem_cons, List.not_mem_nil, or_false] at h
    show decide (0 < strS ⟨9, y.1⟩) = true
    rcases h with e | e | e <;> rw [e] <;> decide +kernel
  · show Ok ((g_make_Dice_Of d ([2048, 1024, 512, 3072, 1023, 4096, 16384] : List Int)).bind fun y => some (y.1, y.2)) _
    refine Ok.bind (of_ok hd _ (by decide) (by decide)) fun y hy => Ok.ret ⟨?_, hy.2⟩
    have h := hy.1
    simp only [List.mem_cons, List.not_mem_nil, or_false] at h
    show decide (0 < strS ⟨10, y.1⟩) = true
    rcases h with e | e | e | e | e | e | e <;> rw [e] <;> decide +kernel
  · show Ok ((g_make_Dice_Of d ([2048, 1024, 512, 3072, 1023, 4096, 16384] : List Int)).bind fun y => some (y.1, y.2)) _
    refine Ok.bind (of_ok hd _ (by decide) (by decide)) fun y hy => Ok.ret ⟨?_, hy.2⟩
    have h := hy.1
    simp only [List.mem_cons, List.not_mem_nil, or_false] at h
    show decide (0 < strS ⟨11, y.1⟩) = true
    rcases h with e | e | e | e | e | e | e <;> rw [e] <;> decide +kernel
  · show Ok ((g_make_Dice_Of d ([256, 160, 224, 384, 521] : List Int)).bind fun y => some (y.1, y.2)) _
    refine Ok.bind (of_ok hd _ (by decide) (by decide)) fun y hy => Ok.ret ⟨?_, hy.2⟩
    have h := hy.1
    simp only [List.mem_cons, List.not_mem_nil, or_false] at h
    show decide (0 < strS ⟨12, y.1⟩) = true
    rcases h with e | e | e | e | e <;> rw [e] <;> decide +kernel
  · show Ok ((g_make_Dice_Of d ([768, 512, 1024] : List Int)).bind fun y => some (y.1, y.2)) _
    refine Ok.bind (of_ok hd _ (by decide) (by decide)) fun y hy => Ok.ret ⟨?_, hy.2⟩
    have h := hy.1
    simp only [List.mem_cons, List.not_mem_nil, or_false] at h
    show decide (0 < strS ⟨13, y.1⟩) = true
    rcases h with e | e | e <;> rw [e] <;> decide +kernel
  · show Ok ((g_make_Dice_Of d ([128, 40] : List Int)).bind fun y => some (y.1, y.2)) _
    refine Ok.bind (of_ok hd _ (by decide) (by decide)) fun y hy => Ok.ret ⟨?_, hy.2⟩
    have h := hy.1
    simp only [List.mem_cons, List.not_mem_nil, or_false] at h
    show decide (0 < strS ⟨14, y.1⟩) = true
    rcases h with e | e <;> rw [e] <;> decide +kernel
  · show Ok ((g_make_Dice_Of d ([168, 112] : List Int)).bind fun y => some (y.1, y.2)) _
    refine Ok.bind (of_ok hd _ (by decide) (by decide)) fun y hy => Ok.ret ⟨?_, hy.2⟩
    have h := hy.1
    simp only [List.mem_cons, List.not_mem_nil, or_false] at h
    show decide (0 < strS ⟨15, y.1⟩) = true
    rcases h with e | e <;> rw [e] <;> decide +kernel
  · show Ok ((g_make_Dice_Of d ([128, 256] : List Int)).bind fun y => some (y.1, y.2)) _
    refine Ok.bind (of_ok hd _ (by decide) (by decide)) fun y hy => Ok.ret ⟨?_, hy.2⟩
    have h := hy.1
    simp only [List.mem_cons, List.not_mem_nil, or_false] at h
    show decide (0 < strS ⟨16, y.1⟩) = true
    rcases h with e | e <;> rw [e] <;> decide +kernel
  · show Ok ((g_make_Dice_Of d ([128, 256] : List Int)).bind fun y => some (y.1, y.2)) _
    refine Ok.bind (of_ok hd _ (by decide) (by decide)) fun y hy => Ok.ret ⟨?_, hy.2⟩
    have h := hy.1
    simp only [List.mem_cons, List.not_mem_nil, or_false] at h
    show decide (0 < strS ⟨17, y.1⟩) = true
    rcases h with e | e <;> rw [e] <;> decide +kernel
  · show Ok (some ((0 : Int), d)) _
    exact Ok.ret ⟨show decide (0 < strS ⟨18, 0⟩) = true by decide +kernel, hd⟩
  · show Ok (some ((0 : Int), d)) _
    exact Ok.ret ⟨show decide (0 < strS ⟨19, 0⟩) = true by decide +kernel, hd⟩
  · show Ok (some ((0 : Int), d)) _
    exact Ok.ret ⟨show decide (0 < strS ⟨20, 0⟩) = true by decide +kernel, hd⟩
  · show Ok (some ((0 : Int), d)) _
    exact Ok.ret ⟨show decide (0 < strS ⟨21, 0⟩) = true by decide +kernel, hd⟩
  · show Ok (some ((0 : Int), d)) _
    exact Ok.ret ⟨show decide (0 < strS ⟨22, 0⟩) = true by decide +kernel, hd⟩
theorem use_ok {d : cipherplanmake_Dice} (hd : DOK d) : Ok (g_make_Use d) (fun y => decide (0 < strS y.1) = true ∧ DOK y.2) := by
  unfold g_make_Use
  refine Ok.bind (next_ok hd 22 (by omega) (by omega)) fun y hy => ?_
  have := hy.1
  rw [W_id (by omega)]
  refine Ok.bind (size_spec hy.2 (by omega)) fun z hz => ?_
  exact Ok.ret ⟨hz.1, hz.2⟩
end
section
open Go
def ruledS (r : api_Rule) : Bool := decide (0 ≤ r.Alg) && (decide (r.Alg ≤ 22) && (decide (0 ≤ r.Below) && (decide (r.Below ≤ 16384) && (decide (0 ≤ r.Purpose) && (decide (r.Purpose ≤ 4) && (decide (0 ≤ r.From) && (decide (r.From < r.To) && decide (r.To ≤ 40001))))))))
def keptS (k : api_Keep) : Bool := decide (1 ≤ k.Purpose) && (decide (k.Purpose ≤ 4) && (decide (0 ≤ k.Days) && decide (k.Days ≤ 40000)))
theorem c_an (b x : Bool) : cond b (some x) (some false) = some (b && x) := by cases b <;> rfl
theorem ruledP (r : api_Rule) : g_rule_ruled r = some (ruledS r) := by
  unfold g_rule_ruled ruledS
  simp only [c_an]
theorem ruledR (r : api_Rule) : g_ref17_Ruled r = some (ruledS r) := ruledP r
theorem keptP (k : api_Keep) : g_rule_kept k = some (keptS k) := by
  unfold g_rule_kept keptS
  simp only [c_an]
theorem keptR (k : api_Keep) : g_ref17_kept k = some (keptS k) := keptP k
structure PolF (p : api_Policy) : Prop where
  rules : p.Rules.length ≤ 100000
  keeps : p.Keeps.length ≤ 100000
def chkP (p : api_Policy) : Int := bif (decide (60 < (p.Rules.length : Int)) || decide (60 < (p.Keeps.length : Int))) || (p.Rules.any (fun r => !ruledS r) || p.Keeps.any (fun k => !keptS k)) then 25 else 0
theorem polP {p : api_Policy} (h : PolF p) : g_rule_Check p = some (chkP p) := by
  have h1 := h.rules
  have h2 := h.keeps
  have e1 : g_slices_ContainsFunc_api_Rule p.Rules (fun x0 => g_rule_Check_c1 x0) = some (p.Rules.any fun r => !ruledS r) := by
    have ei : g_slices_IndexFunc_api_Rule p.Rules (fun x0 => g_rule_Check_c1 x0) = some (firstS p.Rules fun r => !ruledS r) := by
      unfold g_slices_IndexFunc_api_Rule
      refine loop_first p.Rules (fun r => !ruledS r) (lo_small (by omega)) (fun i x hx => ?_) ?_
      · unfold g_slices_IndexFunc_api_Rule.l1
        rw [for_in hx]
        show ((g_rule_Check_c1 x).bind _) = _
        unfold g_rule_Check_c1
        rw [ruledP, Option.bind_some, Option.bind_some]
        cases ruledS x <;> rfl
      · unfold g_slices_IndexFunc_api_Rule.l1
        rw [for_out]; rfl
    unfold g_slices_ContainsFunc_api_Rule
    rw [ei, Option.bind_some, firstS_any]
  have e2 : g_slices_ContainsFunc_api_Keep p.Keeps (fun x0 => g_rule_Check_c2 x0) = some (p.Keeps.any fun r => !keptS r) := by
    have ei : g_slices_IndexFunc_api_Keep p.Keeps (fun x0 => g_rule_Check_c2 x0) = some (firstS p.Keeps fun r => !keptS r) := by
      unfold g_slices_IndexFunc_api_Keep
      refine loop_first p.Keeps (fun r => !keptS r) (lo_small (by omega)) (fun i x hx => ?_) ?_
      · unfold g_slices_IndexFunc_api_Keep.l1
        rw [for_in hx]
        show ((g_rule_Check_c2 x).bind _) = _
        unfold g_rule_Check_c2
        rw [keptP, Option.bind_some, Option.bind_some]
        cases keptS x <;> rfl
      · unfold g_slices_IndexFunc_api_Keep.l1
        rw [for_out]; rfl
    unfold g_slices_ContainsFunc_api_Keep
    rw [ei, Option.bind_some, firstS_any]
  unfold g_rule_Check g_rule_Check.j1 g_rule_Check.j2 chkP
  rw [e1, Option.bind_some, e2, Option.bind_some]
  generalize (p.Rules.any fun r => !ruledS r) = b1
  generalize (p.Keeps.any fun r => !keptS r) = b2
  generalize decide (60 < (p.Rules.length : Int)) = b3
  generalize decide (60 < (p.Keeps.length : Int)) = b4
  revert b1 b2 b3 b4
  decide
theorem polR {p : api_Policy} (h : PolF p) : g_ref17_Check p = some (chkP p) := by
  have h1 := h.rules
  have h2 := h.keeps
  have e3 : loop (fun q' => g_ref17_Check.l3 p q') 0 = some (bif p.Keeps.any (fun k => !keptS k) then 25 else 0) := by
    refine loop_has p.Keeps (fun k => !keptS k) 25 0 (lo_small (by omega)) (fun i x hx => ?_) ?_
    · unfold g_ref17_Check.l3
      rw [for_in hx, keptR, Option.bind_some]
      cases keptS x <;> rfl
    · unfold g_ref17_Check.l3
      rw [for_out]; rfl
  have e2 : loop (fun q' => g_ref17_Check.l2 p q') 0 = some (bif p.Rules.any (fun k => !ruledS k) then 25 else bif p.Keeps.any (fun k => !keptS k) then 25 else 0) := by
    refine loop_has p.Rules (fun k => !ruledS k) 25 _ (lo_small (by omega)) (fun i x hx => ?_) ?_
    · unfold g_ref17_Check.l2
      rw [for_in hx, ruledR, Option.bind_some]
      cases ruledS x <;> rfl
    · unfold g_ref17_Check.l2
      rw [for_out, e3]; rfl
  unfold g_ref17_Check g_ref17_Check.j1 chkP
  rw [e2]
  generalize (p.Rules.any fun r => !ruledS r) = b1
  generalize (p.Keeps.any fun r => !keptS r) = b2
  generalize decide (60 < (p.Rules.length : Int)) = b3
  generalize decide (60 < (p.Keeps.length : Int)) = b4
  revert b1 b2 b3 b4
  decide
def concS (r : api_Rule) (u : api_Use) (pu : Int) : Bool := (decide (r.Alg = 0) || decide (r.Alg = u.Alg)) && ((decide (r.Below = 0) || (decide (0 < u.Bits) && decide (u.Bits < r.Below))) && (decide (r.Purpose = 0) || decide (r.Purpose = pu)))
def matS (r : api_Rule) (u : api_Use) (pu day : Int) : Bool := concS r u pu && (decide (r.From ≤ day) && decide (day < r.To))
theorem concP (r : api_Rule) (u : api_Use) (pu : Int) : g_verdict_concerns r u pu = some (concS r u pu) := by
  unfold g_verdict_concerns g_verdict_concerns.j1 concS
  generalize decide (r.Alg = 0) = b1
  generalize decide (r.Alg = u.Alg) = b2
  generalize decide (r.Below = 0) = b3
  generalize decide (0 < u.Bits) = b4
  generalize decide (u.Bits < r.Below) = b5
  generalize decide (r.Purpose = 0) = b6
  generalize decide (r.Purpose = pu) = b7
  revert b1 b2 b3 b4 b5 b6 b7
  decide +kernel
theorem matR (r : api_Rule) (u : api_Use) (pu day : Int) : g_ref18_matches r u pu day = some (matS r u pu day) := by
  unfold g_ref18_matches matS concS
  generalize decide (r.Alg = 0) = b1
  generalize decide (r.Alg = u.Alg) = b2
  generalize decide (r.Below = 0) = b3
  generalize decide (0 < u.Bits) = b4
  generalize decide (u.Bits < r.Below) = b5
  generalize decide (r.Purpose = 0) = b6
  generalize decide (r.Purpose = pu) = b7
  generalize decide (r.From ≤ day) = b8
  generalize decide (day < r.To) = b9
  revert b1 b2 b3 b4 b5 b6 b7 b8 b9
  decide +kernel
def lastN (l : List api_Rule) (p : api_Rule → Bool) : Nat → Int
  | 0 => -1
  | n + 1 => match l[n]? with
    | some x => bif p x then (n : Int) else lastN l p n
    | none => -1
theorem lastN_range {l : List api_Rule} {p : api_Rule → Bool} : ∀ {n : Nat}, n ≤ l.length → -1 ≤ lastN l p n ∧ lastN l p n < n
  | 0, _ => ⟨Int.le_refl _, by show (-1 : Int) < 0; decide⟩
  | n + 1, h => by
    have ih := lastN_range (l := l) (p := p) (n := n) (by omega)
    have hn : l[n]? = some l[n] := List.getElem?_eq_getElem (by omega)
    unfold lastN
    rw [hn]
    dsimp only
    cases p l[n] with
    | true => exact ⟨by show (-1 : Int) ≤ n; omega, by show (n : Int) < (n + 1 : Nat); omega⟩
    | false => exact ⟨ih.1, by show lastN l p n < _; omega⟩
theorem getI_at' {α : Type} {l : List α} {n : Nat} {x : α} (h : l[n]? = some x) : getI l (n : Int) = some x := by
  rw [getI_nat]; exact h
theorem decR {p : api_Policy} (h : PolF p) (u : api_Use) (pu day : Int) : g_ref18_decides p u pu day = some (lastN p.Rules (fun r => matS r u pu day) p.Rules.length) := by
  have hr := h.rules
  have key : ∀ n : Nat, n ≤ p.Rules.length → loop (fun q' => g_ref18_decides.l1 p u pu day q') ((n : Int) - 1) = some (lastN p.Rules (fun r => matS r u pu day) n) := by
    intro n
    induction n with
    | zero =>
      intro _
      refine loop_up (x := some (-1)) ?_
      unfold g_ref18_decides.l1
      rfl
    | succ n ih =>
      intro hn
      have hx : p.Rules[n]? = some p.Rules[n] := List.getElem?_eq_getElem (by omega)
      have e : (((n + 1 : Nat) : Int) - 1) = (n : Int) := by omega
      rw [e]
      unfold lastN
      rw [hx]
      dsimp only
      have e0 : g_ref18_decides.l1 p u pu day (n : Int) = cond (matS p.Rules[n] u pu day) (up (some (n : Int))) (some (.next ((n : Int) - 1))) := by
        unfold g_ref18_decides.l1
        rw [decide_eq_true (Int.natCast_nonneg n), cond_true, getI_at' hx, Option.bind_some, matR, Option.bind_some, W_id (by omega)]
      cases hm : matS p.Rules[n] u pu day with
      | true =>
        rw [hm] at e0
        exact loop_up e0
      | false =>
        rw [hm] at e0
        rw [loop_next e0]
        exact ih (by omega)
  unfold g_ref18_decides
  rw [W_id (by omega)]
  exact key _ (Nat.le_refl _)
theorem decP {p : api_Policy} (h : PolF p) (u : api_Use) (pu day : Int) : g_verdict_decides p u pu day = some (lastN p.Rules (fun r => matS r u pu day) p.Rules.length) := by
  have hr := h.rules
  have key : ∀ n : Nat, n ≤ p.Rules.length → ∃ c b, loop (fun q' => g_slices_Backward_api_Rule_api_Rule_c1.l1 (fun a0' a1' q' => yld (fun s' => g_verdict_decides.r1 u pu day a0' a1' s') q') p.Rules q'.1 q'.2) ((n : Int) - 1, ((0, 0) : Nat × Int)) = some (c, b) ∧ ((c = 0 ∧ lastN p.Rules (fun r => matS r u pu day) n = -1) ∨ (c = 1 ∧ lastN p.Rules (fun r => matS r u pu day) n = b)) := by
    intro n
    induction n with
    | zero =>
      intro _
      refine ⟨0, 0, loop_up (x := some (0, 0)) ?_, .inl ⟨rfl, rfl⟩⟩
      unfold g_slices_Backward_api_Rule_api_Rule_c1.l1
      rfl
    | succ n ih =>
      intro hn
      have hx : p.Rules[n]? = some p.Rules[n] := List.getElem?_eq_getElem (by omega)
      have e : (((n + 1 : Nat) : Int) - 1) = (n : Int) := by omega
      rw [e]
      unfold lastN
      rw [hx]
      dsimp only
      have er : g_verdict_decides.r1 u pu day (n : Int) p.Rules[n] 0 = some (bif matS p.Rules[n] u pu day then (1, (n : Int)) else (0, 0)) := by
        unfold g_verdict_decides.r1 g_verdict_decides.j2 matS
        rw [concP, Option.bind_some]
        cases concS p.Rules[n] u pu <;> cases decide (p.Rules[n].From ≤ day) <;> cases decide (day < p.Rules[n].To) <;> rfl
      have e0 : g_slices_Backward_api_Rule_api_Rule_c1.l1 (fun a0' a1' q' => yld (fun s' => g_verdict_decides.r1 u pu day a0' a1' s') q') p.Rules (n : Int) ((0, 0) : Nat × Int) = cond (matS p.Rules[n] u pu day) (up (some (1, (n : Int)))) (some (.next ((n : Int) - 1, (0, 0)))) := by
        unfold g_slices_Backward_api_Rule_api_Rule_c1.l1
        rw [decide_eq_true (Int.natCast_nonneg n), cond_true, getI_at' hx, Option.bind_some]
        show (((g_verdict_decides.r1 u pu day (n : Int) p.Rules[n] 0).map fun y => (Nat.beq y.1 0, y))).bind _ = _
        rw [er, W_id (by omega)]
        cases matS p.Rules[n] u pu day <;> rfl
      cases hm : matS p.Rules[n] u pu day with
      | true =>
        rw [hm] at e0
        exact ⟨1, _, loop_up e0, .inr ⟨rfl, rfl⟩⟩
      | false =>
        rw [hm] at e0
        rw [loop_next e0]
        exact ih (by omega)
  unfold g_verdict_decides g_slices_Backward_api_Rule g_slices_Backward_api_Rule_api_Rule_c1
  rw [Option.bind_some, W_id (by omega)]
  obtain ⟨c, b, h1, h2⟩ := key _ (Nat.le_refl _)
  rw [h1, Option.bind_some]
  rcases h2 with ⟨rfl, h2⟩ | ⟨rfl, h2⟩
  · rw [h2]; rfl
  · rw [h2]; rfl
def allowS (p : api_Policy) (u : api_Use) (pu day : Int) : Bool := match p.Rules[(lastN p.Rules (fun r => matS r u pu day) p.Rules.length).toNat]? with
  | some r => bif decide (lastN p.Rules (fun r => matS r u pu day) p.Rules.length < 0) then true else r.Allow
  | none => true
theorem allP_of {p : api_Policy} (h : PolF p) (u : api_Use) (pu day : Int) : (cond (decide (lastN p.Rules (fun r => matS r u pu day) p.Rules.length < 0)) (some true) ((getI p.Rules (lastN p.Rules (fun r => matS r u pu day) p.Rules.length)).bind fun e => some e.Allow)) = some (allowS p u pu day) := by
  obtain ⟨h1, h2⟩ := lastN_range (l := p.Rules) (p := fun r => matS r u pu day) (Nat.le_refl _)
  unfold allowS
  generalize lastN p.Rules (fun r => matS r u pu day) p.Rules.length = n at *
  by_cases hn : n < 0
  · rw [decide_eq_true hn]
    cases p.Rules[n.toNat]? <;> rfl
  · obtain ⟨m, rfl⟩ : ∃ m : Nat, n = (m : Int) := ⟨n.toNat, by omega⟩
    have hx : p.Rules[m]? = some p.Rules[m] := List.getElem?_eq_getElem (by omega)
    rw [decide_eq_false hn, Int.toNat_natCast, hx, cond_false, getI_at' hx]
    rfl
theorem allowedP {p : api_Policy} (h : PolF p) (u : api_Use) (pu day : Int) : g_verdict_allowed p u pu day = some (allowS p u pu day) := by
  unfold g_verdict_allowed
  rw [decP h, Option.bind_some]
  exact allP_of h u pu day
theorem allowedR {p : api_Policy} (h : PolF p) (u : api_Use) (pu day : Int) : g_ref18_allowed p u pu day = some (allowS p u pu day) := by
  unfold g_ref18_allowed
  rw [decR h, Option.bind_some]
  exact allP_of h u pu day
def erS (p : api_Policy) (u : api_Use) (pu day : Int) : Int := bif !decide (chkP p = 0) then chkP p else bif !decide (0 < strS u) then 7 else bif (decide (pu < 1) || decide (4 < pu)) || (decide (day < 0) || decide (40000 < day)) then 2 else 0
def verS (p : api_Policy) (u : api_Use) (pu day : Int) : Bool × Int × Int := bif !decide (erS p u pu day = 0) then (false, 0, erS p u pu day) else (allowS p u pu day, lastN p.Rules (fun r => matS r u pu day) p.Rules.length, 0)
theorem verP {p : api_Policy} (h : PolF p) (u : api_Use) (pu day : Int) : g_verdict_Allowed p u pu day = some (verS p u pu day) := by
  have e : g_verdict_early p u pu day = some (erS p u pu day) := by
    unfold g_verdict_early g_verdict_early.j1 erS
    rw [polP h, Option.bind_some, cat_Valid, Option.bind_some]
    cases (!decide (chkP p = 0)) <;> cases (!decide (0 < strS u)) <;> cases decide (pu < 1) <;> cases decide (4 < pu) <;> cases decide (day < 0) <;> cases decide (40000 < day) <;> rfl
  unfold g_verdict_Allowed verS
  rw [e, Option.bind_some, allowedP h, Option.bind_some, decP h, Option.bind_some]
  cases (!decide (erS p u pu day = 0)) <;> rfl
theorem verR {p : api_Policy} (h : PolF p) (u : api_Use) (pu day : Int) : g_ref18_Allowed p u pu day = some (verS p u pu day) := by
  unfold g_ref18_Allowed g_ref18_Allowed.j1 g_ref18_check g_ref18_check.j1 verS erS
  rw [polR h, Option.bind_some, ref_Valid, Option.bind_some, allowedR h, Option.bind_some, decR h, Option.bind_some]
  by_cases h0 : chkP p = 0
  · rw [h0]
    cases (!decide (0 < strS u)) <;> cases decide (pu < 1) <;> cases decide (4 < pu) <;> cases decide (day < 0) <;> cases decide (40000 < day) <;> rfl
  · have e1 : (!decide (chkP p = 0)) = true := by rw [decide_eq_false h0]; rfl
    rw [e1]
    show (some (chkP p)).bind _ = _
    rw [Option.bind_some, e1]
    show _ = some (bif !decide (chkP p = 0) then _ else _)
    rw [e1]
    rfl
end
section
open Go
theorem chk_of {x : api_Exception} (h1 : preX x = true) (h2 : ∀ s ∈ x.Seals, (0 ≤ s.Key ∧ s.Key ≤ 2147483648) ∧ 0 ≤ s.Sum ∧ s.Sum < 4294967296) (h3 : AscK x.Seals) : chkX x = 0 := by
  unfold chkX
  have e : (List.range x.Seals.length).any (badS x.Seals) = false := by
    refine List.any_eq_false.2 fun i hi => ?_
    have hi := List.mem_range.1 hi
    have hx : x.Seals[i]? = some x.Seals[i] := List.getElem?_eq_getElem hi
    have hb : badS x.Seals i = false := by
      unfold badS
      rw [getD_of hx]
      have q := h2 _ (List.getElem_mem hi)
      have e1 : badE x.Seals[i] = false := by
        unfold badE
        rw [decide_eq_true q.1.1, decide_eq_true q.1.2, decide_eq_true q.2.1, decide_eq_false (by omega)]
        rfl
      rw [e1, Bool.false_or]
      by_cases h0 : 0 < i
      · have hy : x.Seals[i - 1]? = some x.Seals[i - 1] := List.getElem?_eq_getElem (by omega)
        have := List.pairwise_iff_getElem.1 h3 (i - 1) i (by omega) hi (by omega)
        rw [getD_of hy, decide_eq_false (p := x.Seals[i].Key ≤ x.Seals[i - 1].Key) (by omega), Bool.and_false]
      · rw [decide_eq_false h0, Bool.false_and]
    rw [hb]
    exact Bool.false_ne_true
  rw [h1, e]
  rfl
structure MdX (x : api_Exception) : Prop where
  pre : preX x = true
  asc : AscK x.Seals
  sls : ∀ s ∈ x.Seals, (50 ≤ s.Key ∧ s.Key ≤ 54) ∧ 0 ≤ s.Sum ∧ s.Sum < 4294967296
theorem MdX.chk {x : api_Exception} (h : MdX x) : chkX x = 0 := chk_of h.pre (fun s hs => by have := h.sls s hs; omega) h.asc
theorem MdX.len {x : api_Exception} (h : MdX x) : x.Seals.length ≤ 5 := by
  have := asc_len x.Seals 50 54 (fun s hs => (h.sls s hs).1) h.asc
  omega
theorem pre_seals {x : api_Exception} (h : preX x = true) {S : List api_Seal} (hS : S.length ≤ 8) : preX ⟨x.Use, x.Purpose, x.Endpoint, x.Days, S⟩ = true := by
  unfold preX at h ⊢
  simp only [Bool.and_eq_true] at h ⊢
  exact ⟨h.1, h.2.1, h.2.2.1, h.2.2.2.1, h.2.2.2.2.1, h.2.2.2.2.2.1, h.2.2.2.2.2.2.1, decide_eq_true (by omega)⟩
theorem MdX.sign {x : api_Exception} (h : MdX x) {k : Int} (hk : 50 ≤ k ∧ k ≤ 54) : MdX (signS x k).1 := by
  have hl := h.len
  have hf := List.length_filter_le (kp k) x.Seals
  have e : signS x k = (⟨x.Use, x.Purpose, x.Endpoint, x.Days, insK x.Seals k (sumS (excB x))⟩, 0) := by
    unfold signS
    rw [if_pos h.chk, if_pos (by omega), if_neg (by omega)]
  rw [e]
  have hs : ∀ s ∈ insK x.Seals k (sumS (excB x)), (50 ≤ s.Key ∧ s.Key ≤ 54) ∧ 0 ≤ s.Sum ∧ s.Sum < 4294967296 := fun s hs => by
    rcases ins_mem.1 hs with rfl | hs
    · exact ⟨hk, sumS_range _⟩
    · exact h.sls s (List.mem_filter.1 hs).1
  have ha : AscK (insK x.Seals k (sumS (excB x))) := ins_asc h.asc k _
  refine ⟨pre_seals h.pre ?_, ha, hs⟩
  have := asc_len _ 50 54 (fun s hm => (hs s hm).1) ha
  omega
theorem ref_sign {x : api_Exception} (h : FitX x) (k : Int) : g_ref19_Sign x k = some (signS x k) := signR h k
theorem make_Exception_good {d : cipherplanmake_Dice} (hd : DOK d) {u : api_Use} (hs : decide (0 < strS u) = true) (hu : (0 ≤ u.Alg ∧ u.Alg ≤ 100000) ∧ 0 ≤ u.Bits ∧ u.Bits ≤ 100000) {e : ByteArray} (he : e.size ≤ 32) (hn : nameS e = true) : Ok (g_make_Exception d u e) (fun y => (FitX y.1 ∧ chkX y.1 = 0) ∧ DOK y.2) := by
  unfold g_make_Exception
  refine Ok.bind (of_ok hd _ (by decide) (by decide)) fun y1 h1 => ?_
  refine Ok.bind (of_ok h1.2 _ (by decide) (by decide)) fun y2 h2 => ?_
  refine Ok.bind (of_ok h2.2 _ (by decide) (by decide)) fun y3 h3 => ?_
  refine Ok.bind (next_ok h3.2 4 (by omega) (by omega)) fun y4 h4 => ?_
  have b1 : 1 ≤ y1.1 ∧ y1.1 ≤ 3 := by
    have := h1.1
    simp only [List.mem_cons, List.not_mem_nil, or_false] at this
    omega
  have b2 : 0 ≤ y2.1 ∧ y2.1 ≤ 30 := by
    have := h2.1
    simp only [List.mem_cons, List.not_mem_nil, or_false] at this
    omega
  have b3 : 5 ≤ y3.1 ∧ y3.1 ≤ 200 := by
    have := h3.1
    simp only [List.mem_cons, List.not_mem_nil, or_false] at this
    omega
  have b4 := h4.1
  rw [W_id (by omega)]
  have hp : preX ⟨⟨u.Alg, u.Bits⟩, y1.1, e, ⟨y2.1, y2.1 + y3.1⟩, []⟩ = true := by
    unfold preX
    simp only [Bool.and_eq_true]
    refine ⟨hs, decide_eq_true b1.1, decide_eq_true (by omega), hn, decide_eq_true b2.1, ?_, decide_eq_true (by omega), rfl⟩
    rw [decide_eq_false (by omega)]; rfl
  refine Ok.loop (fun s : Int × Int × Int × Int × ByteArray × Int × Int × List api_Seal => (0 ≤ s.1 ∧ s.1 ≤ 4) ∧ FitX ⟨⟨s.2.1, s.2.2.1⟩, s.2.2.2.1, s.2.2.2.2.1, ⟨s.2.2.2.2.2.1, s.2.2.2.2.2.2.1⟩, s.2.2.2.2.2.2.2⟩ ∧ MdX ⟨⟨s.2.1, s.2.2.1⟩, s.2.2.2.1, s.2.2.2.2.1, ⟨s.2.2.2.2.2.1, s.2.2.2.2.2.2.1⟩, s.2.2.2.2.2.2.2⟩) (fun s => s.1.toNat) ?_
    ⟨⟨b4.1, by show y4.1 ≤ 4; omega⟩, ⟨by show e.size ≤ 200; omega, Nat.zero_le _, by show _ ≤ u.Alg ∧ u.Alg ≤ _; omega, by show _ ≤ u.Bits ∧ u.Bits ≤ _; omega, by show _ ≤ y1.1 ∧ y1.1 ≤ _; omega, by show _ ≤ y2.1 ∧ y2.1 ≤ _; omega, by show _ ≤ y2.1 + y3.1 ∧ y2.1 + y3.1 ≤ _; omega⟩, ⟨hp, .nil, fun s hs => by cases hs⟩⟩
  rintro ⟨i, a1, a2, a3, a4, a5, a6, S⟩ ⟨⟨hi0, hi4⟩, hF, hM⟩
  dsimp only at hi0 hi4 hF hM
  show Ok (g_make_Exception.l1 y4 i a1 a2 a3 a4 a5 a6 S) _
  unfold g_make_Exception.l1
  refine Ok.cond (fun hb => ?_) (fun hb => ?_)
  · have hb := of_decide_eq_true hb
    rw [W_id (x := 50 + i) (by omega), W_id (x := i - 1) (by omega)]
    refine Ok.bindE (ref_sign hF _) ?_
    exact Ok.ret ⟨⟨⟨by show 0 ≤ i - 1; omega, by show i - 1 ≤ 4; omega⟩, sign_fit hF _, hM.sign (by omega)⟩, by show (i - 1).toNat < i.toNat; omega⟩
  · refine Ok.up ?_
    have fin : ∀ (S' : List api_Seal) (d' : cipherplanmake_Dice), S'.length = S.length → AscK S' → (∀ s ∈ S', (50 ≤ s.Key ∧ s.Key ≤ 54) ∧ 0 ≤ s.Sum ∧ s.Sum < 4294967296) → DOK d' → Ok (g_make_Exception.j4 a1 a2 a3 a4 a5 a6 d'.L d'.At S') (fun y => (FitX y.1 ∧ chkX y.1 = 0) ∧ DOK y.2) := fun S' d' k1 k2 k3 k4 => by
      unfold g_make_Exception.j4
      have hl := hM.len
      have hl : S.length ≤ 5 := hl
      refine Ok.ret ⟨⟨⟨hF.nam, by show S'.length ≤ 60; omega, hF.alg, hF.bits, hF.pur, hF.frm, hF.to⟩, ?_⟩, k4⟩
      exact (MdX.mk (pre_seals hM.pre (by omega)) k2 k3).chk
    have J3 : ∀ (b : Bool) (d' : cipherplanmake_Dice), (b = true → 0 < S.length) → DOK d' → Ok (g_make_Exception.j3 a1 a2 a3 a4 a5 a6 S b d'.L d'.At) (fun y => (FitX y.1 ∧ chkX y.1 = 0) ∧ DOK y.2) := fun b d' hb hd' => by
      unfold g_make_Exception.j3
      refine Ok.cond (fun h1 => ?_) (fun _ => fin _ _ rfl hM.asc hM.sls hd')
      have := hb h1
      have hA : AscK S := hM.asc
      have hS : ∀ s ∈ S, (50 ≤ s.Key ∧ s.Key ≤ 54) ∧ 0 ≤ s.Sum ∧ s.Sum < 4294967296 := hM.sls
      cases S with
      | nil => simp at this
      | cons s T =>
        refine Ok.bind (getI_ok (by omega) (by simp)) fun q hq => ?_
        have hq : s = q := by simpa using hq
        subst hq
        have es : setI (s :: T) ((0 : Int).toNat) (api_Seal.mk s.Key 7) = ⟨s.Key, 7⟩ :: T := rfl
        rw [es]
        have hc := List.pairwise_cons.1 hA
        refine fin _ _ rfl (List.pairwise_cons.2 ⟨fun b hb => hc.1 b hb, hc.2⟩) (fun x hx => ?_) hd'
        rcases List.mem_cons.1 hx with rfl | hx
        · exact ⟨(hS s (.head _)).1, by show (0 : Int) ≤ 7; decide, by show (7 : Int) < 4294967296; decide⟩
        · exact hS x (.tail _ hx)
    refine Ok.cond (fun h1 => ?_) (fun _ => J3 _ _ (fun h => by cases h) h4.2)
    have h1 := of_decide_eq_true h1
    exact Ok.bind (one_ok h4.2 6 (by omega) (by omega)) fun y6 h6 => J3 _ _ (fun _ => by omega) h6
theorem list_good {d : cipherplanmake_Dice} (hd : DOK d) {u : api_Use} (hs : decide (0 < strS u) = true) (hu : (0 ≤ u.Alg ∧ u.Alg ≤ 100000) ∧ 0 ≤ u.Bits ∧ u.Bits ≤ 100000) (odd : Bool) : Ok (g_law19_list d u odd) (fun y => (y.1.length ≤ 10 ∧ (∀ x ∈ y.1, FitX x) ∧ (odd = false → ∀ x ∈ y.1, chkX x = 0)) ∧ DOK y.2) := by
  unfold g_law19_list
  refine Ok.bind (next_ok hd 5 (by omega) (by omega)) fun y hy => ?_
  have by1 := hy.1
  refine Ok.loop (fun s : Int × cipherplanmake_Dice × List api_Exception => (0 ≤ s.1 ∧ s.1 + (s.2.2.length : Int) ≤ 5) ∧ DOK s.2.1 ∧ (∀ x ∈ s.2.2, FitX x) ∧ (odd = false → ∀ x ∈ s.2.2, chkX x = 0)) (fun s => s.1.toNat) ?_ ⟨⟨by1.1, by show y.1 + ((([] : List api_Exception).length : Nat) : Int) ≤ 5; simp; omega⟩, hy.2, (fun x hx => by cases hx), fun _ x hx => by cases hx⟩
  rintro ⟨i, d1, l⟩ ⟨⟨h1, h2⟩, h3, h4, h5⟩
  dsimp only at h1 h2 h3 h4 h5
  show Ok (g_law19_list.l1 u odd i d1 l) _
  unfold g_law19_list.l1
  refine Ok.cond (fun hb => ?_) (fun hb => ?_)
  · have hb := of_decide_eq_true hb
    refine Ok.bind (word_ok h3 _ (by decide) (by decide)) fun y2 k2 => ?_
    have hw : y2.1.size ≤ 32 ∧ nameS y2.1 = true := by
      have := k2.1
      simp only [List.mem_cons, List.not_mem_nil, or_false] at this
      rcases this with e | e | e <;> rw [e] <;> exact ⟨by decide, by decide +kernel⟩
    refine Ok.bind (make_Exception_good k2.2 hs hu hw.1 hw.2) fun y3 k3 => ?_
    have J3 : ∀ (x : api_Exception) (d' : cipherplanmake_Dice), FitX x → (odd = false → chkX x = 0) → DOK d' → Ok (g_law19_list.j3 i l d' x.Use.Alg x.Use.Bits x.Purpose x.Endpoint x.Days.From x.Days.To x.Seals) (Rd' (fun s' : Int × cipherplanmake_Dice × List api_Exception => ((0 ≤ s'.1 ∧ s'.1 + (s'.2.2.length : Int) ≤ 5) ∧ DOK s'.2.1 ∧ (∀ x ∈ s'.2.2, FitX x) ∧ (odd = false → ∀ x ∈ s'.2.2, chkX x = 0)) ∧ s'.1.toNat < i.toNat) (fun y : List api_Exception × cipherplanmake_Dice => (y.1.length ≤ 10 ∧ (∀ x ∈ y.1, FitX x) ∧ (odd = false → ∀ x ∈ y.1, chkX x = 0)) ∧ DOK y.2)) := fun x d' q1 q2 q3 => by
      unfold g_law19_list.j3
      refine Ok.bind (appI_ok' (by rw [List.length_singleton]; omega)) fun l' hl' => ?_
      subst hl'
      rw [W_id (by omega)]
      refine Ok.ret ⟨⟨⟨by show 0 ≤ i - 1; omega, ?_⟩, q3, fun z hz => ?_, fun ho z hz => ?_⟩, by show (i - 1).toNat < i.toNat; omega⟩
      · show i - 1 + ((l ++ [_]).length : Int) ≤ 5
        rw [List.length_append, List.length_singleton]; omega
      · rcases List.mem_append.1 hz with hz | hz
        · exact h4 z hz
        · rw [List.mem_singleton.1 hz]; exact q1
      · rcases List.mem_append.1 hz with hz | hz
        · exact h5 ho z hz
        · rw [List.mem_singleton.1 hz]; exact q2 ho
    refine Ok.cond (fun ho => ?_) (fun ho => ?_)
    · refine Ok.bind (one_ok k3.2 8 (by omega) (by omega)) fun y4 k4 => ?_
      unfold g_law19_list.j2
      refine Ok.cond (fun _ => ?_) (fun _ => J3 _ _ k3.1.1 (fun h => by rw [h] at ho; cases ho) k4)
      exact Ok.bind (made_ok k4) fun y5 k5 => J3 _ _ k5.1 (fun h => by rw [h] at ho; cases ho) k5.2
    · unfold g_law19_list.j2
      rw [cond_false]
      exact J3 _ _ k3.1.1 (fun _ => k3.1.2) k3.2
  · exact Ok.up (Ok.ret ⟨⟨by show l.length ≤ 10; omega, h4, h5⟩, h3⟩)
theorem policy_ok {d : cipherplanmake_Dice} (hd : DOK d) : Ok (g_make_Policy d) (fun y => (y.1.Rules.length ≤ 10 ∧ y.1.Keeps.length ≤ 10 ∧ chkP y.1 = 0) ∧ DOK y.2) := by
  unfold g_make_Policy
  refine Ok.bind (next_ok hd 7 (by omega) (by omega)) fun y hy => ?_
  have by1 := hy.1
  refine Ok.loop (fun s : Int × cipherplanmake_Dice × List api_Rule => (0 ≤ s.1 ∧ s.1 + (s.2.2.length : Int) ≤ 7) ∧ DOK s.2.1 ∧ ∀ x ∈ s.2.2, ruledS x = true) (fun s => s.1.toNat) ?_ ⟨⟨by1.1, by show y.1 + ((([] : List api_Rule).length : Nat) : Int) ≤ 7; simp; omega⟩, hy.2, fun x hx => by cases hx⟩
  rintro ⟨i, d1, l⟩ ⟨⟨h1, h2⟩, h3, h4⟩
  dsimp only at h1 h2 h3 h4
  show Ok (g_make_Policy.l1 i d1 l) _
  unfold g_make_Policy.l1
  refine Ok.cond (fun hb => ?_) (fun hb => Ok.up ?_)
  · have hb := of_decide_eq_true hb
    refine Ok.bind (one_ok h3 3 (by omega) (by omega)) fun y2 k2 => ?_
    refine Ok.bind (of_ok k2 _ (by decide) (by decide)) fun y3 k3 => ?_
    have a1 : 0 ≤ y3.1 ∧ y3.1 ≤ 22 := by
      have := k3.1
      simp only [List.mem_cons, List.not_mem_nil, or_false] at this
      omega
    refine Ok.bind (one_ok k3.2 2 (by omega) (by omega)) fun y4 k4 => ?_
    have J5 : ∀ (b p f t : Int) (d' : cipherplanmake_Dice), (0 ≤ b ∧ b ≤ 16384) → (0 ≤ p ∧ p ≤ 4) → 0 ≤ f → f < t → t ≤ 40001 → DOK d' → Ok (g_make_Policy.j5 i l y2 y3 b p f d' t) (Rd' (fun s' : Int × cipherplanmake_Dice × List api_Rule => ((0 ≤ s'.1 ∧ s'.1 + (s'.2.2.length : Int) ≤ 7) ∧ DOK s'.2.1 ∧ ∀ x ∈ s'.2.2, ruledS x = true) ∧ s'.1.toNat < i.toNat) (fun y : api_Policy × cipherplanmake_Dice => (y.1.Rules.length ≤ 10 ∧ y.1.Keeps.length ≤ 10 ∧ chkP y.1 = 0) ∧ DOK y.2)) := fun b p f t d' q1 q2 q3 q4 q5 q6 => by
      unfold g_make_Policy.j5
      refine Ok.bind (appI_ok' (by rw [List.length_singleton]; omega)) fun l' hl' => ?_
      subst hl'
      rw [W_id (by omega)]
      refine Ok.ret ⟨⟨⟨by show 0 ≤ i - 1; omega, ?_⟩, q6, fun z hz => ?_⟩, by show (i - 1).toNat < i.toNat; omega⟩
      · show i - 1 + ((l ++ [_]).length : Int) ≤ 7
        rw [List.length_append, List.length_singleton]; omega
      · rcases List.mem_append.1 hz with hz | hz
        · exact h4 z hz
        · rw [List.mem_singleton.1 hz]
          unfold ruledS
          dsimp only
          rw [decide_eq_true a1.1, decide_eq_true a1.2, decide_eq_true q1.1, decide_eq_true q1.2, decide_eq_true q2.1, decide_eq_true q2.2, decide_eq_true q3, decide_eq_true q4, decide_eq_true q5]
          rfl
    have J4 : ∀ (b p f : Int) (d' : cipherplanmake_Dice), (0 ≤ b ∧ b ≤ 16384) → (0 ≤ p ∧ p ≤ 4) → (0 ≤ f ∧ f ≤ 100) → DOK d' → Ok (g_make_Policy.j4 i l y2 y3 b p d' f) _ := fun b p f d' q1 q2 q3 q4 => by
      unfold g_make_Policy.j4
      refine Ok.bind (one_ok q4 3 (by omega) (by omega)) fun z hz => ?_
      refine Ok.cond (fun _ => ?_) (fun _ => J5 b p f 40001 _ q1 q2 q3.1 (by omega) (by omega) hz)
      refine Ok.bind (of_ok hz _ (by decide) (by decide)) fun z2 hz2 => ?_
      have := hz2.1
      simp only [List.mem_cons, List.not_mem_nil, or_false] at this
      rw [W_id (by omega)]
      exact J5 b p f _ _ q1 q2 q3.1 (by omega) (by omega) hz2.2
    have J3 : ∀ (b p : Int) (d' : cipherplanmake_Dice), (0 ≤ b ∧ b ≤ 16384) → (0 ≤ p ∧ p ≤ 4) → DOK d' → Ok (g_make_Policy.j3 i l y2 y3 b d' p) _ := fun b p d' q1 q2 q4 => by
      unfold g_make_Policy.j3
      refine Ok.bind (one_ok q4 2 (by omega) (by omega)) fun z hz => ?_
      refine Ok.cond (fun _ => ?_) (fun _ => J4 b p 0 _ q1 q2 (by omega) hz)
      refine Ok.bind (of_ok hz _ (by decide) (by decide)) fun z2 hz2 => ?_
      have := hz2.1
      simp only [List.mem_cons, List.not_mem_nil, or_false] at this
      exact J4 b p _ _ q1 q2 (by omega) hz2.2
    have J2 : ∀ (b : Int) (d' : cipherplanmake_Dice), (0 ≤ b ∧ b ≤ 16384) → DOK d' → Ok (g_make_Policy.j2 i l y2 y3 d' b) _ := fun b d' q1 q4 => by
      unfold g_make_Policy.j2
      refine Ok.bind (one_ok q4 3 (by omega) (by omega)) fun z hz => ?_
      refine Ok.cond (fun _ => ?_) (fun _ => J3 b 0 _ q1 (by omega) hz)
      refine Ok.bind (next_ok hz 4 (by omega) (by omega)) fun z2 hz2 => ?_
      have := hz2.1
      rw [W_id (by omega)]
      exact J3 b _ _ q1 (by omega) hz2.2
    refine Ok.cond (fun _ => ?_) (fun _ => J2 0 _ (by omega) k4)
    refine Ok.bind (of_ok k4 _ (by decide) (by decide)) fun z2 hz2 => ?_
    have := hz2.1
    simp only [List.mem_cons, List.not_mem_nil, or_false] at this
    exact J2 _ _ (by omega) hz2.2
  · refine Ok.bind (next_ok h3 3 (by omega) (by omega)) fun z hz => ?_
    have bz := hz.1
    refine Ok.loop (fun s : Int × cipherplanmake_Dice × List api_Keep => (0 ≤ s.1 ∧ s.1 + (s.2.2.length : Int) ≤ 3) ∧ DOK s.2.1 ∧ ∀ x ∈ s.2.2, keptS x = true) (fun s => s.1.toNat) ?_ ⟨⟨bz.1, by show z.1 + ((([] : List api_Keep).length : Nat) : Int) ≤ 3; simp; omega⟩, hz.2, fun x hx => by cases hx⟩
    rintro ⟨j, d2, m⟩ ⟨⟨g1, g2⟩, g3, g4⟩
    dsimp only at g1 g2 g3 g4
    show Ok (g_make_Policy.l6 l j d2 m) _
    unfold g_make_Policy.l6
    refine Ok.cond (fun hb => ?_) (fun hb => Ok.up ?_)
    · have hb := of_decide_eq_true hb
      refine Ok.bind (next_ok g3 4 (by omega) (by omega)) fun z1 e1 => ?_
      refine Ok.bind (of_ok e1.2 _ (by decide) (by decide)) fun z2 e2 => ?_
      refine Ok.bind (appI_ok' (by rw [List.length_singleton]; omega)) fun l' hl' => ?_
      subst hl'
      have r1 := e1.1
      have r2 := e2.1
      simp only [List.mem_cons, List.not_mem_nil, or_false] at r2
      rw [W_id (x := j - 1) (by omega), W_id (x := 1 + z1.1) (by omega)]
      refine Ok.ret ⟨⟨⟨by show 0 ≤ j - 1; omega, ?_⟩, e2.2, fun q hq => ?_⟩, by show (j - 1).toNat < j.toNat; omega⟩
      · show j - 1 + ((m ++ [_]).length : Int) ≤ 3
        rw [List.length_append, List.length_singleton]; omega
      · rcases List.mem_append.1 hq with hq | hq
        · exact g4 q hq
        · rw [List.mem_singleton.1 hq]
          unfold keptS
          dsimp only
          rw [decide_eq_true (by omega), decide_eq_true (by omega), decide_eq_true (by omega), decide_eq_true (by omega)]
          rfl
    · refine Ok.ret ⟨⟨by show l.length ≤ 10; omega, by show m.length ≤ 10; omega, ?_⟩, g3⟩
      have e1 : l.any (fun r => !ruledS r) = false := List.any_eq_false.2 fun x hx => by rw [h4 x hx]; decide
      have e2 : m.any (fun r => !keptS r) = false := List.any_eq_false.2 fun x hx => by rw [g4 x hx]; decide
      unfold chkP
      dsimp only
      rw [e1, e2, decide_eq_false (by omega), decide_eq_false (by omega)]
      rfl
end
section
open Go
def actF (o : api_Owners) (u : api_Use) (p : Int) (e : ByteArray) (day : Int) (x : api_Exception) : Bool := covS u p e x day && vaS x o
theorem act_days {o : api_Owners} {u : api_Use} {p : Int} {e : ByteArray} {day : Int} {x : api_Exception} (h : actF o u p e day x = true) : 0 ≤ day ∧ day < x.Days.To := by
  unfold actF at h
  rw [Bool.and_eq_true] at h
  obtain ⟨h1, h2⟩ := h
  obtain ⟨-, c1, c2⟩ := cov_iff.1 h1
  unfold vaS at h2
  rw [Bool.and_eq_true] at h2
  have h3 := of_decide_eq_true h2.1
  unfold chkX at h3
  cases hp : preX x && !(List.range x.Seals.length).any (badS x.Seals) with
  | false => rw [hp] at h3; cases h3
  | true =>
    rw [Bool.and_eq_true] at hp
    have h1 := hp.1
    unfold preX at h1
    simp only [Bool.and_eq_true] at h1
    have := of_decide_eq_true h1.2.2.2.2.1
    omega
def foldM (q : api_Exception → Bool) (m : Int) (l : List api_Exception) : Int := l.foldl (fun m x => bif q x then max m x.Days.To else m) m
theorem foldM_le {q : api_Exception → Bool} : ∀ (l : List api_Exception) (m : Int), m ≤ foldM q m l
  | [], m => Int.le_refl _
  | x :: l, m => by
    have := foldM_le (q := q) l (bif q x then max m x.Days.To else m)
    show m ≤ foldM q (bif q x then max m x.Days.To else m) l
    cases hq : q x with
    | true => rw [hq] at this; rw [cond_true] at *; omega
    | false => rw [hq] at this; exact this
theorem foldM_eq {q : api_Exception → Bool} {day : Int} : ∀ (l : List api_Exception) (m1 m2 : Int), (∀ x ∈ l, q x = true → day < x.Days.To) → m1 ≤ day → m2 ≤ day → l.any q = true → foldM q m1 l = foldM q m2 l ∧ day < foldM q m1 l
  | [], _, _, _, _, _, h => by cases h
  | x :: l, m1, m2, hl, h1, h2, ha => by
    show foldM q (bif q x then max m1 x.Days.To else m1) l = foldM q (bif q x then max m2 x.Days.To else m2) l ∧ day < foldM q (bif q x then max m1 x.Days.To else m1) l
    cases hq : q x with
    | true =>
      have := hl x (.head _) hq
      rw [cond_true, cond_true, Int.max_eq_right (by omega), Int.max_eq_right (by omega)]
      exact ⟨rfl, by have := foldM_le (q := q) l x.Days.To; omega⟩
    | false =>
      rw [List.any_cons, hq, Bool.false_or] at ha
      exact foldM_eq l m1 m2 (fun y hy => hl y (.tail _ hy)) h1 h2 ha
section
variable {l : List api_Exception} {o : api_Owners} {u : api_Use} {p : Int} {e : ByteArray}
theorem endsF (hl : ∀ x ∈ l, FitX x) (hn : l.length ≤ 1000) (ho : o.Keys.length ≤ 1000) (day : Int) : g_exception_ends l o u p e day = some (foldM (actF o u p e day) 0 l, l.any (actF o u p e day)) := by
  unfold g_exception_ends
  refine (loop_path l.length (fun i => ((foldM (actF o u p e day) 0 (l.take i), (l.take i).any (actF o u p e day), (i : Int)) : Int × Bool × Int)) (foldM (actF o u p e day) 0 (l.take l.length), (l.take l.length).any (actF o u p e day)) (fun i hi => ?_) ?_).trans (by rw [List.take_length])
  · have hx : l[i]? = some l[i] := List.getElem?_eq_getElem hi
    show g_exception_ends.l1 l o u p e day _ _ (i : Int) = _
    unfold g_exception_ends.l1
    rw [for_in hx, covers_ok, Option.bind_some]
    have hv := validP (hl _ (at_mem hx)) ho
    rw [hv, Option.bind_some, take_succ' hx, List.any_append]
    have ef : foldM (actF o u p e day) 0 (l.take i ++ [l[i]]) = bif actF o u p e day l[i] then max (foldM (actF o u p e day) 0 (l.take i)) l[i].Days.To else foldM (actF o u p e day) 0 (l.take i) := by
      unfold foldM
      rw [List.foldl_append]
      rfl
    rw [ef]
    have ea : [l[i]].any (actF o u p e day) = actF o u p e day l[i] := by simp
    rw [ea]
    unfold g_exception_ends.j2 g_exception_ends.j3 actF
    rw [W_succ (by omega)]
    cases covS u p e l[i] day with
    | false => simp
    | true =>
      cases vaS l[i] o with
      | false => simp
      | true => simp
  · show g_exception_ends.l1 l o u p e day _ _ (l.length : Int) = _
    unfold g_exception_ends.l1
    rw [for_out]
    rfl
theorem coverF (hl : ∀ x ∈ l, FitX x) (hn : l.length ≤ 1000) (ho : o.Keys.length ≤ 1000) (day : Int) : g_ref19_covered l o u p e day = some (l.any (actF o u p e day)) := by
  unfold g_ref19_covered
  refine (loop_has l (actF o u p e day) true false (lo_small (by omega)) (fun i x hx => ?_) ?_).trans (by cases l.any (actF o u p e day) <;> rfl)
  · unfold g_ref19_covered.l1
    rw [for_in hx, validR (hl _ (at_mem hx)) ho, Option.bind_some, coversR, Option.bind_some]
    unfold g_ref19_covered.j2 actF
    cases covS u p e x day <;> cases vaS x o <;> rfl
  · unfold g_ref19_covered.l1
    rw [for_out]; rfl
theorem ends_eq (hl : ∀ x ∈ l, FitX x) (hn : l.length ≤ 1000) (ho : o.Keys.length ≤ 1000) (day : Int) : ∃ r, g_exception_Ends l o u p e day = some r ∧ g_ref19_Ends l o u p e day = some r := by
  have hstep : ∀ d, g_ref19_Ends.l1 l o u p e d = bif l.any (actF o u p e d) then some (.next (foldM (actF o u p e d) d l)) else some (.done (d, true)) := fun d => by
    unfold g_ref19_Ends.l1
    rw [coverF hl hn ho, Option.bind_some]
    cases l.any (actF o u p e d) with
    | false => rfl
    | true =>
      rw [cond_true, cond_true]
      refine loop_fold l (fun m x => bif actF o u p e d x then max m x.Days.To else m) d (fun m => (.next m : Lp Int (Int × Bool))) (lo_small (by omega)) (fun i x s hx => ?_) (fun s => ?_)
      · show g_ref19_Ends.l2 l o u p e d s (i : Int) = _
        unfold g_ref19_Ends.l2
        rw [for_in hx, validR (hl _ (at_mem hx)) ho, Option.bind_some, coversR, Option.bind_some]
        unfold g_ref19_Ends.j3 g_ref19_Ends.j4 actF
        rw [getI_at' hx, Option.bind_some]
        cases covS u p e x d <;> cases vaS x o <;> rfl
      · show g_ref19_Ends.l2 l o u p e d s (l.length : Int) = _
        unfold g_ref19_Ends.l2
        rw [for_out]; rfl
  have key : ∀ n : Nat, ∀ d : Int, (9223372036854775807 - d).toNat ≤ n → ∃ r, loop (fun q' : Int × Int × Bool => g_exception_Ends.l1 l o u p e q'.1 q'.2.1 q'.2.2) (d, foldM (actF o u p e d) 0 l, l.any (actF o u p e d)) = some r ∧ loop (fun q' => g_ref19_Ends.l1 l o u p e q') d = some r := by
    intro n
    induction n with
    | zero =>
      intro d hd
      have hno : l.any (actF o u p e d) = false := by
        cases hb : l.any (actF o u p e d) with
        | false => rfl
        | true =>
          obtain ⟨x, hx, h1⟩ := List.any_eq_true.1 hb
          have := (act_days h1).2
          have := (hl x hx).to
          omega
      refine ⟨(d, true), ?_, ?_⟩
      · rw [hno]
        refine loop_up (x := some (d, true)) ?_
        show g_exception_Ends.l1 l o u p e d _ false = _
        unfold g_exception_Ends.l1
        rfl
      · refine loop_done ?_
        show g_ref19_Ends.l1 l o u p e d = _
        rw [hstep, hno]
        rfl
    | succ n ih =>
      intro d hd
      cases hb : l.any (actF o u p e d) with
      | false =>
        refine ⟨(d, true), ?_, ?_⟩
        · refine loop_up (x := some (d, true)) ?_
          show g_exception_Ends.l1 l o u p e d _ false = _
          unfold g_exception_Ends.l1
          rfl
        · refine loop_done ?_
          show g_ref19_Ends.l1 l o u p e d = _
          rw [hstep, hb]
          rfl
      | true =>
        obtain ⟨x, hx, h1⟩ := List.any_eq_true.1 hb
        have h2 := act_days h1
        have h3 := (hl x hx).to
        obtain ⟨f1, f2⟩ := foldM_eq l 0 d (fun y _ hq => (act_days hq).2) h2.1 (Int.le_refl _) hb
        have f2 : d < foldM (actF o u p e d) 0 l := f2
        obtain ⟨r, r1, r2⟩ := ih (foldM (actF o u p e d) 0 l) (by omega)
        refine ⟨r, ?_, ?_⟩
        · rw [loop_next (s' := (foldM (actF o u p e d) 0 l, foldM (actF o u p e (foldM (actF o u p e d) 0 l)) 0 l, l.any (actF o u p e (foldM (actF o u p e d) 0 l))))]
          · exact r1
          · show g_exception_Ends.l1 l o u p e d _ true = _
            unfold g_exception_Ends.l1
            rw [cond_true, endsF hl hn ho, Option.bind_some]
        · rw [loop_next (s' := foldM (actF o u p e d) 0 l)]
          · exact r2
          · show g_ref19_Ends.l1 l o u p e d = _
            rw [hstep, hb, f1]
            rfl
  unfold g_exception_Ends g_ref19_Ends
  rw [endsF hl hn ho, Option.bind_some, coverF hl hn ho, Option.bind_some]
  cases hb : l.any (actF o u p e day) with
  | false => exact ⟨(0, false), rfl, rfl⟩
  | true =>
    obtain ⟨r, r1, r2⟩ := key _ day (Nat.le_refl _)
    rw [hb] at r1
    exact ⟨r, r1, r2⟩
def allS (q : api_Policy) (l : List api_Exception) (o : api_Owners) (u : api_Use) (p : Int) (e : ByteArray) (day : Int) : Bool × Int :=
  bif !decide ((verS q u p day).2.2 = 0) then (false, (verS q u p day).2.2) else bif l.any (fun x => !decide (chkX x = 0)) then (false, 26) else ((verS q u p day).1 || l.any (actF o u p e day), 0)
theorem allEF {q : api_Policy} (hq : PolF q) (hl : ∀ x ∈ l, FitX x) (hn : l.length ≤ 1000) (ho : o.Keys.length ≤ 1000) (day : Int) : g_exception_Allowed q l o u p e day = some (allS q l o u p e day) := by
  have ec : g_slices_ContainsFunc_api_Exception l (fun x0 => g_exception_Allowed_c1 x0) = some (l.any fun x => !decide (chkX x = 0)) := by
    have ei : g_slices_IndexFunc_api_Exception l (fun x0 => g_exception_Allowed_c1 x0) = some (firstS l fun x => !decide (chkX x = 0)) := by
      unfold g_slices_IndexFunc_api_Exception
      refine loop_first l (fun x => !decide (chkX x = 0)) (lo_small (by omega)) (fun i x hx => ?_) ?_
      · unfold g_slices_IndexFunc_api_Exception.l1
        rw [for_in hx]
        show ((g_exception_Allowed_c1 x).bind _) = _
        unfold g_exception_Allowed_c1
        rw [checkP (hl _ (at_mem hx)), Option.bind_some, Option.bind_some]
        cases (!decide (chkX x = 0)) <;> rfl
      · unfold g_slices_IndexFunc_api_Exception.l1
        rw [for_out]; rfl
    unfold g_slices_ContainsFunc_api_Exception
    rw [ei, Option.bind_some, firstS_any]
  unfold g_exception_Allowed allS
  rw [verP hq, Option.bind_some, ec, Option.bind_some, endsF hl hn ho, Option.bind_some]
  cases (!decide ((verS q u p day).2.2 = 0)) <;> cases (l.any fun x => !decide (chkX x = 0)) <;> cases (verS q u p day).1 <;> rfl
theorem allER {q : api_Policy} (hq : PolF q) (hl : ∀ x ∈ l, FitX x) (hn : l.length ≤ 1000) (ho : o.Keys.length ≤ 1000) (day : Int) : g_ref19_Allowed q l o u p e day = some (allS q l o u p e day) := by
  have ec : g_ref19_All l = some (bif l.any (fun x => !decide (chkX x = 0)) then 26 else 0) := by
    unfold g_ref19_All
    refine loop_has l (fun x => !decide (chkX x = 0)) 26 0 (lo_small (by omega)) (fun i x hx => ?_) ?_
    · unfold g_ref19_All.l1
      rw [for_in hx, checkR (hl _ (at_mem hx)), Option.bind_some]
      rcases chk_two x with h | h <;> rw [h] <;> rfl
    · unfold g_ref19_All.l1
      rw [for_out]; rfl
  unfold g_ref19_Allowed allS
  rw [verR hq, Option.bind_some, ec, Option.bind_some, coverF hl hn ho, Option.bind_some]
  cases (!decide ((verS q u p day).2.2 = 0)) <;> cases (l.any fun x => !decide (chkX x = 0)) <;> cases (verS q u p day).1 <;> rfl
end
end
section
open Go
theorem owners_ok {d : cipherplanmake_Dice} (hd : DOK d) : Ok (g_make_Owners d) (fun y => y.1.Keys.length ≤ 1000 ∧ DOK y.2) := by
  unfold g_make_Owners
  refine Ok.bind (next_ok hd 3 (by omega) (by omega)) fun y hy => ?_
  exact Ok.ret ⟨by show (3 : Nat) ≤ 1000; decide, hy.2⟩
theorem use_both {d : cipherplanmake_Dice} (hd : DOK d) : Ok (g_make_Use d) (fun y => (decide (0 < strS y.1) = true ∧ (0 ≤ y.1.Alg ∧ y.1.Alg ≤ 100000) ∧ 0 ≤ y.1.Bits ∧ y.1.Bits ≤ 100000) ∧ DOK y.2) :=
  (Ok.and (use_ok hd) (use_rng hd)).mono fun _ h => ⟨⟨h.1.1, h.2.1⟩, h.2.2⟩
theorem law_ExceptionAllows (t : List Int) (day : Int) : g_law19_ExceptionAllows t day = some true := by
  unfold g_law19_ExceptionAllows g_make_Light
  rw [Option.bind_some]
  by_cases hl : (t.length : Int) ≤ 400
  · rw [decide_eq_true hl, Bool.not_true, cond_false]
    refine Ok.true_ ?_
    refine Ok.bind (roll19 (by omega)) fun d hd => ?_
    refine Ok.bind (policy_ok hd) fun y4 h4 => ?_
    refine Ok.bind (owners_ok h4.2) fun y5 h5 => ?_
    refine Ok.bind (next_ok h5.2 3 (by omega) (by omega)) fun y6 h6 => ?_
    have b6 := h6.1
    refine Ok.bind (getI_mem b6.1 (by show y6.1 < ((3 : Nat) : Int); omega)) fun e he => ?_
    have hu : decide (0 < strS e) = true ∧ (0 ≤ e.Alg ∧ e.Alg ≤ 100000) ∧ 0 ≤ e.Bits ∧ e.Bits ≤ 100000 := by
      simp only [List.mem_cons, List.not_mem_nil, or_false] at he
      rcases he with rfl | rfl | rfl <;> exact ⟨by decide +kernel, by decide⟩
    refine Ok.bind (list_good h6.2 hu.1 hu.2 true) fun y7 h7 => ?_
    refine Ok.bind (of_ok h7.2 _ (by decide) (by decide)) fun y8 h8 => ?_
    refine Ok.bind (of_ok h8.2 _ (by decide) (by decide)) fun y9 h9 => ?_
    refine Ok.bind (word_ok h9.2 _ (by decide) (by decide)) fun y10 h10 => ?_
    refine Ok.bind (next_ok h10.2 9 (by omega) (by omega)) fun y11 h11 => ?_
    have J : ∀ (a b : Int) (R : List api_Rule), R.length ≤ 1000 → Ok (g_law19_ExceptionAllows.j1 y4 y5 e y7 y10 a b R) (fun r => r = true) := fun a b R hR => by
      have hP : PolF ⟨R, y4.1.Keeps⟩ := ⟨by show R.length ≤ 100000; omega, by have := h4.1.2.1; show y4.1.Keeps.length ≤ 100000; omega⟩
      have hn : y7.1.length ≤ 1000 := by have := h7.1.1; omega
      obtain ⟨r, r1, r2⟩ := ends_eq (u := e) (p := b) (e := y10.1) h7.1.2.1 hn h5.1 a
      unfold g_law19_ExceptionAllows.j1
      rw [allEF hP h7.1.2.1 hn h5.1, Option.bind_some, allER hP h7.1.2.1 hn h5.1, Option.bind_some, r1, Option.bind_some, r2, Option.bind_some]
      rw [decide_eq_true rfl, decide_eq_true rfl, decide_eq_true rfl, decide_eq_true rfl, awake19]
      exact ⟨true, rfl, rfl⟩
    have hr := h4.1.1
    refine Ok.cond (fun _ => J _ _ _ (by omega)) (fun _ => ?_)
    refine Ok.cond (fun _ => J _ _ _ (by omega)) (fun _ => ?_)
    refine Ok.cond (fun _ => ?_) (fun _ => J _ _ _ (by omega))
    refine Ok.bind (appI_ok' (by rw [List.length_singleton]; omega)) fun l2 hl2 => ?_
    exact J _ _ _ (by rw [hl2, List.length_append, List.length_singleton]; omega)
  · rw [decide_eq_false hl, awake19]; rfl
theorem foldl_any {α : Type} (c : α → Bool) : ∀ (l : List α) (b : Bool), l.foldl (fun b x => b || c x) b = (b || l.any c)
  | [], b => by simp
  | x :: l, b => by
    rw [List.foldl_cons, foldl_any c l, List.any_cons, Bool.or_assoc]
theorem ver_good {p : api_Policy} {u : api_Use} {pu day : Int} (h1 : chkP p = 0) (h2 : decide (0 < strS u) = true) (h3 : 1 ≤ pu ∧ pu ≤ 4) (h4 : 0 ≤ day ∧ day ≤ 40000) : (verS p u pu day).2.2 = 0 ∧ (verS p u pu day).1 = allowS p u pu day := by
  have e : erS p u pu day = 0 := by
    unfold erS
    rw [h1, h2, decide_eq_false (p := pu < 1) (by omega), decide_eq_false (p := 4 < pu) (by omega), decide_eq_false (p := day < 0) (by omega), decide_eq_false (p := 40000 < day) (by omega)]
    rfl
  unfold verS
  rw [e]
  exact ⟨rfl, rfl⟩
theorem law_ExceptionOnly (t : List Int) (day : UInt8) : g_law19_ExceptionOnly t day = some true := by
  unfold g_law19_ExceptionOnly g_make_Light
  rw [Option.bind_some]
  by_cases hl : (t.length : Int) ≤ 400
  · rw [decide_eq_true hl, Bool.not_true, cond_false]
    refine Ok.true_ ?_
    refine Ok.bind (roll19 (by omega)) fun d hd => ?_
    refine Ok.bind (policy_ok hd) fun y4 h4 => ?_
    refine Ok.bind (owners_ok h4.2) fun y5 h5 => ?_
    refine Ok.bind (use_both h5.2) fun y6 h6 => ?_
    refine Ok.bind (list_good h6.2 h6.1.1 h6.1.2 false) fun y7 h7 => ?_
    refine Ok.bind (use_both h7.2) fun y8 h8 => ?_
    refine Ok.bind (next_ok h8.2 4 (by omega) (by omega)) fun y9 h9 => ?_
    have b9 := h9.1
    have hday : 0 ≤ (day.toNat : Int) ∧ (day.toNat : Int) ≤ 40000 := by have := day.toNat_lt; omega
    have hP : PolF y4.1 := ⟨by have := h4.1.1; omega, by have := h4.1.2.1; omega⟩
    have hn : y7.1.length ≤ 1000 := by have := h7.1.1; omega
    have hok : y7.1.any (fun x => !decide (chkX x = 0)) = false := List.any_eq_false.2 fun x hx => by rw [h7.1.2.2 rfl x hx]; decide
    refine Ok.loop (fun i : Int => 0 ≤ i ∧ i ≤ 2) (fun i => (2 - i).toNat) ?_ (by omega)
    intro i hi
    show Ok (g_law19_ExceptionOnly.l1 day y4 y5 y6 y7 y8 y9 i) _
    unfold g_law19_ExceptionOnly.l1
    refine Ok.cond (fun hb => ?_) (fun _ => Ok.up (by rw [awake19]; exact ⟨true, rfl, rfl⟩))
    have hb : i < 2 := of_decide_eq_true hb
    refine Ok.loop (fun k : Int => 0 ≤ k ∧ k ≤ 3) (fun k => (3 - k).toNat) ?_ (by omega)
    intro k hk
    show Ok (g_law19_ExceptionOnly.l2 day y4 y5 y6 y7 y8 y9 i k) _
    unfold g_law19_ExceptionOnly.l2
    refine Ok.cond (fun hb2 => ?_) (fun _ => Ok.up ?_)
    · have hb2 : k < 3 := of_decide_eq_true hb2
      refine Ok.bind (getI_mem hi.1 (by show i < ((2 : Nat) : Int); omega)) fun e he => ?_
      have hu : decide (0 < strS e) = true := by
        simp only [List.mem_cons, List.not_mem_nil, or_false] at he
        rcases he with rfl | rfl
        · exact h6.1.1
        · exact h8.1.1
      rw [W_id (x := 1 + y9.1) (by omega)]
      refine Ok.bindE (verR hP e _ _) ?_
      refine Ok.bind (getI_mem hk.1 (by show k < ((3 : Nat) : Int); omega)) fun nm hnm => ?_
      refine Ok.bindE (allEF hP h7.1.2.1 hn h5.1 _) ?_
      obtain ⟨v1, v2⟩ := ver_good (u := e) (pu := 1 + y9.1) (day := (day.toNat : Int)) h4.1.2.2 hu (by omega) hday
      have ha : allS y4.1 y7.1 y5.1 e (1 + y9.1) nm (day.toNat : Int) = (allowS y4.1 e (1 + y9.1) (day.toNat : Int) || y7.1.any (actF y5.1 e (1 + y9.1) nm (day.toNat : Int)), 0) := by
        unfold allS
        rw [v1, hok, v2]
        rfl
      rw [ha]
      have e0 := loop_foldU (body := fun q' : Bool × Int => g_law19_ExceptionOnly.l3 day y7 y9 k e (verS y4.1 e (1 + y9.1) (day.toNat : Int)) nm (allowS y4.1 e (1 + y9.1) (day.toNat : Int) || y7.1.any (actF y5.1 e (1 + y9.1) nm (day.toNat : Int)), 0) q'.1 q'.2) y7.1 (fun b x => b || covS e (1 + y9.1) nm x (day.toNat : Int)) false
        (fun m => bif allowS y4.1 e (1 + y9.1) (day.toNat : Int) then g_law19_ExceptionOnly.j5 k (!(allowS y4.1 e (1 + y9.1) (day.toNat : Int) || y7.1.any (actF y5.1 e (1 + y9.1) nm (day.toNat : Int)))) else bif (allowS y4.1 e (1 + y9.1) (day.toNat : Int) || y7.1.any (actF y5.1 e (1 + y9.1) nm (day.toNat : Int))) then g_law19_ExceptionOnly.j5 k (!m) else g_law19_ExceptionOnly.j5 k false) (lo_small (by omega)) (fun j x b hx => ?_) (fun b => ?_)
      · show Ok (loop (fun q' : Bool × Int => g_law19_ExceptionOnly.l3 day y7 y9 k e (verS y4.1 e (1 + y9.1) (day.toNat : Int)) nm (allowS y4.1 e (1 + y9.1) (day.toNat : Int) || y7.1.any (actF y5.1 e (1 + y9.1) nm (day.toNat : Int)), 0) q'.1 q'.2) (false, 0)) _
        rw [e0, foldl_any, Bool.false_or]
        have hno : Ok (g_law19_ExceptionOnly.j5 k false) (Rd' (fun s' : Int => (0 ≤ s' ∧ s' ≤ 3) ∧ (3 - s').toNat < (3 - k).toNat) (Rd' (fun s' : Int => (0 ≤ s' ∧ s' ≤ 2) ∧ (2 - s').toNat < (2 - i).toNat) fun r => r = true)) := by
          unfold g_law19_ExceptionOnly.j5
          rw [W_id (by omega)]
          exact Ok.ret (by show (0 ≤ k + 1 ∧ k + 1 ≤ 3) ∧ (3 - (k + 1)).toNat < (3 - k).toNat; omega)
        cases h0 : allowS y4.1 e (1 + y9.1) (day.toNat : Int) with
        | true => exact hno
        | false =>
          cases h1 : y7.1.any (actF y5.1 e (1 + y9.1) nm (day.toNat : Int)) with
          | false => exact hno
          | true =>
            have h2 : y7.1.any (fun x => covS e (1 + y9.1) nm x (day.toNat : Int)) = true := by
              obtain ⟨x, hx, q⟩ := List.any_eq_true.1 h1
              unfold actF at q
              rw [Bool.and_eq_true] at q
              exact List.any_eq_true.2 ⟨x, hx, q.1⟩
            rw [h2]
            exact hno
      · show g_law19_ExceptionOnly.l3 day y7 y9 k e _ nm _ b (j : Int) = _
        unfold g_law19_ExceptionOnly.l3
        rw [decide_eq_true (by have := at_lt hx; omega), cond_true]
        unfold g_law19_ExceptionOnly.j4
        rw [W_succ (by have := at_lt hx; omega)]
        cases b with
        | true => rfl
        | false =>
          rw [cond_false, getI_at' hx, Option.bind_some, W_id (x := 1 + y9.1) (by omega), Bool.false_or]
          unfold covS aboutS
          cases decide (x.Use = e) <;> cases decide (x.Purpose = 1 + y9.1) <;> cases decide (x.Endpoint = nm) <;> cases decide (x.Days.From ≤ (day.toNat : Int)) <;> rfl
      · show g_law19_ExceptionOnly.l3 day y7 y9 k e _ nm _ b (y7.1.length : Int) = _
        unfold g_law19_ExceptionOnly.l3
        rw [for_out, v1, v2]
        cases allowS y4.1 e (1 + y9.1) (day.toNat : Int) <;> cases y7.1.any (actF y5.1 e (1 + y9.1) nm (day.toNat : Int)) <;> cases b <;> rfl
    · rw [W_id (by omega)]
      exact Ok.ret (by show (0 ≤ i + 1 ∧ i + 1 ≤ 2) ∧ (2 - (i + 1)).toNat < (2 - i).toNat; omega)
  · rw [decide_eq_false hl, awake19]; rfl
end
end Go.Proofs.YtmbhoimeiahbaaaGreat
