/- Exceptions: how long they last. No program is in sight here. -/
import Derived.Test.YtmihjbejflcgkaaX6
set_option linter.unusedVariables false
set_option linter.unusedSimpArgs false
namespace Go.Proofs.Ytmihjbejflcgkaa
open Go
noncomputable def actS (o : api_Owners) (u : api_Use) (p : Int) (e : ByteArray) (x : api_Exception) (day : Int) : Bool := covS u p e x day && vaX o x
theorem cov_iff {u : api_Use} {p : Int} {e : ByteArray} {x : api_Exception} {day : Int} : covS u p e x day = true ↔ aboutS u p e x = true ∧ x.Days.From ≤ day ∧ day < x.Days.To := by
  unfold covS
  simp [Bool.and_eq_true]
section
variable {l : List api_Exception} {o : api_Owners} {u : api_Use} {p : Int} {e : ByteArray}
theorem ends_ok (hl : ∀ x ∈ l, SmX 50 x) (hlen : l.length ≤ 100) (ho : o.Keys.length ≤ 1000) {day : Int} (hd : 0 ≤ day) : Ok (g_exception_ends l o u p e day) (fun y => (y.2 = false ∧ ∀ x ∈ l, actS o u p e x day = false) ∨ (y.2 = true ∧ ∃ x ∈ l, actS o u p e x day = true ∧ x.Days.To = y.1)) := by
  unfold g_exception_ends
  refine Ok.loop (fun s : Int × Bool × Int => ∃ i : Nat, s.2.2 = (i : Int) ∧ i ≤ l.length ∧ ((s.2.1 = false ∧ s.1 = 0 ∧ ∀ x ∈ l.take i, actS o u p e x day = false) ∨ (s.2.1 = true ∧ ∃ x ∈ l, actS o u p e x day = true ∧ x.Days.To = s.1))) (fun s => l.length - s.2.2.toNat) ?_ ⟨0, rfl, Nat.zero_le _, .inl ⟨rfl, rfl, fun x hx => by cases hx⟩⟩
  rintro ⟨most, some_, _⟩ ⟨i, rfl, hi, hinv⟩
  dsimp only at hinv
  show Ok (g_exception_ends.l1 l o u p e day most some_ (i : Int)) _
  unfold g_exception_ends.l1
  refine Ok.cond (fun hb => ?_) (fun hb => ?_)
  · have hil : i < l.length := by have := of_decide_eq_true hb; omega
    obtain ⟨x, hx⟩ : ∃ x, l[i]? = some x := ⟨_, List.getElem?_eq_getElem hil⟩
    have hs := hl x (at_mem hx)
    have J2 : ∀ b, b = actS o u p e x day → Ok (g_exception_ends.j2 most some_ (i : Int) x b) (Rd' (fun s' : Int × Bool × Int => (∃ i : Nat, s'.2.2 = (i : Int) ∧ i ≤ l.length ∧ ((s'.2.1 = false ∧ s'.1 = 0 ∧ ∀ x ∈ l.take i, actS o u p e x day = false) ∨ (s'.2.1 = true ∧ ∃ x ∈ l, actS o u p e x day = true ∧ x.Days.To = s'.1))) ∧ l.length - s'.2.2.toNat < l.length - ((i : Int)).toNat) (fun y => (y.2 = false ∧ ∀ x ∈ l, actS o u p e x day = false) ∨ (y.2 = true ∧ ∃ x ∈ l, actS o u p e x day = true ∧ x.Days.To = y.1))) := by
      intro b hb
      unfold g_exception_ends.j2 g_exception_ends.j3
      rw [W_id (by omega)]
      refine Ok.cond (fun h1 => ?_) (fun h1 => ?_)
      · rw [h1] at hb
        refine Ok.ret ⟨⟨i + 1, by show (i : Int) + 1 = _; omega, hil, .inr ⟨rfl, ?_⟩⟩, by show l.length - ((i : Int) + 1).toNat < l.length - ((i : Int)).toNat; omega⟩
        show ∃ x' ∈ l, actS o u p e x' day = true ∧ x'.Days.To = max most x.Days.To
        by_cases hm : most ≤ x.Days.To
        · exact ⟨x, at_mem hx, hb.symm, by omega⟩
        · rcases hinv with ⟨-, h0, -⟩ | ⟨-, z, hz, h2, h3⟩
          · have := hs.to; omega
          · exact ⟨z, hz, h2, by omega⟩
      · rw [h1] at hb
        refine Ok.ret ⟨⟨i + 1, by show (i : Int) + 1 = _; omega, hil, ?_⟩, by show l.length - ((i : Int) + 1).toNat < l.length - ((i : Int)).toNat; omega⟩
        rcases hinv with ⟨h0, h2, h3⟩ | h0
        · refine .inl ⟨h0, h2, fun z hz => ?_⟩
          rw [take_succ' hx] at hz
          rcases List.mem_append.1 hz with hz | hz
          · exact h3 z hz
          · rw [List.mem_singleton.1 hz]; exact hb.symm
        · exact .inr h0
    rw [getI_nat, hx, Option.bind_some, covers_ok, Option.bind_some]
    refine Ok.cond (fun hc => ?_) (fun hc => ?_)
    · rw [valid_vS hs (by omega) ho, Option.bind_some]
      exact J2 _ (by unfold actS; rw [hc]; rfl)
    · exact J2 _ (by unfold actS; rw [hc]; rfl)
  · have hil : i = l.length := by have := of_decide_eq_false hb; omega
    subst hil
    rw [List.take_length] at hinv
    refine Ok.up (Ok.ret ?_)
    rcases hinv with ⟨h0, -, h3⟩ | h0
    · exact .inl ⟨h0, h3⟩
    · exact .inr h0
theorem Ends_ok (hl : ∀ x ∈ l, SmX 50 x) (hlen : l.length ≤ 100) (ho : o.Keys.length ≤ 1000) {day : Int} (hd : 0 ≤ day) (hd2 : day ≤ 100000) : Ok (g_exception_Ends l o u p e day) (fun y => (y.2 = false ∧ ∀ x ∈ l, actS o u p e x day = false) ∨ (y.2 = true ∧ day < y.1 ∧ y.1 ≤ 100000 ∧ (∀ n, day ≤ n → n < y.1 → ∃ x ∈ l, actS o u p e x n = true) ∧ ∀ x ∈ l, actS o u p e x y.1 = false)) := by
  unfold g_exception_Ends
  refine Ok.bind (ends_ok hl hlen ho hd) fun y hy => ?_
  refine Ok.cond (fun h1 => ?_) (fun h1 => ?_)
  · rcases hy with ⟨h2, h3⟩ | ⟨h2, -⟩
    · exact Ok.ret (.inl ⟨rfl, h3⟩)
    · rw [h2] at h1; cases h1
  · have hy2 : y.2 = true := by
      cases h : y.2 with
      | true => rfl
      | false => rw [h] at h1; cases h1
    have hy3 : ∃ x ∈ l, actS o u p e x day = true ∧ x.Days.To = y.1 := by
      rcases hy with ⟨h2, -⟩ | ⟨-, h3⟩
      · rw [h2] at hy2; cases hy2
      · exact h3
    refine Ok.loop (fun s : Int × Int × Bool => (day ≤ s.1 ∧ s.1 ≤ 100000) ∧ (s.1 = day → s.2.2 = true) ∧ (∀ n, day ≤ n → n < s.1 → ∃ x ∈ l, actS o u p e x n = true) ∧ ((s.2.2 = false ∧ ∀ x ∈ l, actS o u p e x s.1 = false) ∨ (s.2.2 = true ∧ ∃ x ∈ l, actS o u p e x s.1 = true ∧ x.Days.To = s.2.1))) (fun s => (100000 - s.1).toNat) ?_ ⟨⟨Int.le_refl _, hd2⟩, fun _ => hy2, fun n h3 h4 => by (have h4 : n < day := h4); omega, .inr ⟨hy2, hy3⟩⟩
    rintro ⟨d1, most, some_⟩ ⟨⟨a1, a2⟩, a3, a4, a5⟩
    dsimp only at a1 a2 a3 a4 a5
    show Ok (g_exception_Ends.l1 l o u p e d1 most some_) _
    unfold g_exception_Ends.l1
    refine Ok.cond (fun hs => ?_) (fun hs => ?_)
    · rcases a5 with ⟨h2, -⟩ | ⟨-, x, hx, h2, h3⟩
      · rw [h2] at hs; cases hs
      · unfold actS at h2
        rw [Bool.and_eq_true] at h2
        obtain ⟨c1, c2, c3⟩ := cov_iff.1 h2.1
        have hto := (hl x hx).to
        refine Ok.bind (ends_ok hl hlen ho (day := most) (by omega)) fun y2 h5 => ?_
        refine Ok.ret ⟨⟨⟨by show day ≤ most; omega, by show most ≤ 100000; omega⟩, fun h6 => by (have h6 : most = day := h6); omega, fun n h6 h7 => ?_, h5⟩, by show (100000 - most).toNat < (100000 - d1).toNat; omega⟩
        have h7 : n < most := h7
        by_cases h8 : n < d1
        · exact a4 n h6 h8
        · refine ⟨x, hx, ?_⟩
          unfold actS
          rw [Bool.and_eq_true]
          exact ⟨cov_iff.2 ⟨c1, by omega, by omega⟩, h2.2⟩
    · subst hs
      refine Ok.up (Ok.ret (.inr ⟨rfl, ?_, a2, a4, ?_⟩))
      · show day < d1
        by_cases h6 : d1 = day
        · have := a3 h6; cases this
        · omega
      · rcases a5 with ⟨-, h2⟩ | ⟨h2, -⟩
        · exact h2
        · cases h2
end
theorem make_Exception_ok {d : cipherplanmake_Dice} (hd : DOK d) {u : api_Use} (hu : (0 ≤ u.Alg ∧ u.Alg ≤ 100000) ∧ 0 ≤ u.Bits ∧ u.Bits ≤ 100000) {e : ByteArray} (he : e.size ≤ 32) : Ok (g_make_Exception d u e) (fun y => SmX 50 y.1 ∧ DOK y.2) := by
  unfold g_make_Exception
  refine Ok.bind (of_ok hd _ (by decide) (by decide)) fun y1 h1 => ?_
  refine Ok.bind (of_ok h1.2 _ (by decide) (by decide)) fun y2 h2 => ?_
  refine Ok.bind (of_ok h2.2 _ (by decide) (by decide)) fun y3 h3 => ?_
  refine Ok.bind (next_ok h3.2 4 (by omega) (by omega)) fun y4 h4 => ?_
  have b1 : 0 ≤ y1.1 ∧ y1.1 ≤ 3 := by
    have := h1.1
    simp only [List.mem_cons, List.not_mem_nil, or_false] at this
    omega
  have b2 : 0 ≤ y2.1 ∧ y2.1 ≤ 30 := by
    have := h2.1
    simp only [List.mem_cons, List.not_mem_nil, or_false] at this
    omega
  have b3 : 0 ≤ y3.1 ∧ y3.1 ≤ 200 := by
    have := h3.1
    simp only [List.mem_cons, List.not_mem_nil, or_false] at this
    omega
  have b4 := h4.1
  rw [W_id (by omega)]
  refine Ok.loop (fun s : Int × Int × Int × Int × ByteArray × Int × Int × List api_Seal => (0 ≤ s.1 ∧ s.1 ≤ 4) ∧ ∃ n : Nat, (n : Int) + s.1 ≤ 10 ∧ SmX n ⟨⟨s.2.1, s.2.2.1⟩, s.2.2.2.1, s.2.2.2.2.1, ⟨s.2.2.2.2.2.1, s.2.2.2.2.2.2.1⟩, s.2.2.2.2.2.2.2⟩) (fun s => s.1.toNat) ?_ ⟨⟨b4.1, by show y4.1 ≤ 4; omega⟩, 0, by show ((0 : Nat) : Int) + y4.1 ≤ 10; omega, ⟨he, Nat.zero_le _, hu.1, hu.2, ⟨b1.1, by show y1.1 ≤ 100000; omega⟩, ⟨b2.1, by show y2.1 ≤ 100000; omega⟩, ⟨by show 0 ≤ y2.1 + y3.1; omega, by show y2.1 + y3.1 ≤ 100000; omega⟩⟩⟩
  rintro ⟨i, a1, a2, a3, a4, a5, a6, S⟩ ⟨⟨hi0, hi4⟩, n, hn, hS⟩
  dsimp only at hi0 hi4 hn hS
  show Ok (g_make_Exception.l1 y4 i a1 a2 a3 a4 a5 a6 S) _
  unfold g_make_Exception.l1
  refine Ok.cond (fun hb => ?_) (fun hb => ?_)
  · have hb := of_decide_eq_true hb
    refine Ok.bind (rsign_tot hS (by omega) _) fun y5 h5 => ?_
    rw [W_id (x := i - 1) (by omega)]
    refine Ok.ret ⟨⟨⟨by show 0 ≤ i - 1; omega, by show i - 1 ≤ 4; omega⟩, n + 1, by show ((n + 1 : Nat) : Int) + (i - 1) ≤ 10; omega, h5⟩, by show (i - 1).toNat < i.toNat; omega⟩
  · refine Ok.up ?_
    have hl := hS.len
    have fin : ∀ (S' : List api_Seal) (d' : cipherplanmake_Dice), S'.length = S.length → DOK d' → Ok (g_make_Exception.j4 a1 a2 a3 a4 a5 a6 d'.L d'.At S') (fun y => SmX 50 y.1 ∧ DOK y.2) := fun S' d' h1 h2 => by
      unfold g_make_Exception.j4
      exact Ok.ret ⟨⟨hS.nam, by show S'.length ≤ 50; rw [h1]; have : S.length ≤ n := hl; omega, hS.alg, hS.bits, hS.pur, hS.frm, hS.to⟩, h2⟩
    have J3 : ∀ (b : Bool) (d' : cipherplanmake_Dice), (b = true → 0 < S.length) → DOK d' → Ok (g_make_Exception.j3 a1 a2 a3 a4 a5 a6 S b d'.L d'.At) (fun y => SmX 50 y.1 ∧ DOK y.2) := fun b d' hb hd' => by
      unfold g_make_Exception.j3
      refine Ok.cond (fun h1 => ?_) (fun _ => fin _ _ rfl hd')
      have := hb h1
      refine Ok.bind (getI_ok (by omega) (by omega)) fun q _ => fin _ _ ?_ hd'
      unfold setI
      rw [List.length_set]
    refine Ok.cond (fun h1 => ?_) (fun _ => J3 _ _ (fun h => by cases h) h4.2)
    have h1 := of_decide_eq_true h1
    exact Ok.bind (one_ok h4.2 6 (by omega) (by omega)) fun y6 h6 => J3 _ _ (fun _ => by omega) h6
theorem list_ok {d : cipherplanmake_Dice} (hd : DOK d) {u : api_Use} (hu : (0 ≤ u.Alg ∧ u.Alg ≤ 100000) ∧ 0 ≤ u.Bits ∧ u.Bits ≤ 100000) : Ok (g_law19_list d u false) (fun y => (y.1.length ≤ 10 ∧ ∀ x ∈ y.1, SmX 50 x) ∧ DOK y.2) := by
  unfold g_law19_list
  refine Ok.bind (next_ok hd 5 (by omega) (by omega)) fun y hy => ?_
  have by1 := hy.1
  refine Ok.loop (fun s : Int × cipherplanmake_Dice × List api_Exception => (0 ≤ s.1 ∧ s.1 + (s.2.2.length : Int) ≤ 5) ∧ DOK s.2.1 ∧ ∀ x ∈ s.2.2, SmX 50 x) (fun s => s.1.toNat) ?_ ⟨⟨by1.1, by show y.1 + ((([] : List api_Exception).length : Nat) : Int) ≤ 5; simp; omega⟩, hy.2, fun x hx => by cases hx⟩
  rintro ⟨i, d1, l⟩ ⟨⟨h1, h2⟩, h3, h4⟩
  dsimp only at h1 h2 h3 h4
  show Ok (g_law19_list.l1 u false i d1 l) _
  unfold g_law19_list.l1
  refine Ok.cond (fun hb => ?_) (fun hb => ?_)
  · have hb := of_decide_eq_true hb
    refine Ok.bind (word_ok h3 _ (by decide) (by decide)) fun y2 k2 => ?_
    have hsz : y2.1.size ≤ 32 := by
      have := k2.1
      simp only [List.mem_cons, List.not_mem_nil, or_false] at this
      rcases this with e | e | e <;> rw [e] <;> decide
    refine Ok.bind (make_Exception_ok k2.2 hu hsz) fun y3 k3 => ?_
    rw [cond_false]
    unfold g_law19_list.j2
    rw [cond_false]
    unfold g_law19_list.j3
    refine Ok.bind (appI_ok' (by rw [List.length_singleton]; omega)) fun l' hl' => ?_
    subst hl'
    rw [W_id (by omega)]
    refine Ok.ret ⟨⟨⟨by show 0 ≤ i - 1; omega, ?_⟩, k3.2, fun x hx => ?_⟩, by show (i - 1).toNat < i.toNat; omega⟩
    · show i - 1 + ((l ++ [_]).length : Int) ≤ 5
      rw [List.length_append, List.length_singleton]; omega
    · rcases List.mem_append.1 hx with hx | hx
      · exact h4 x hx
      · rw [List.mem_singleton.1 hx]; exact k3.1
  · exact Ok.up (Ok.ret ⟨⟨by show l.length ≤ 10; omega, h4⟩, h3⟩)
theorem law_ExceptionEnds (t : List Int) (day : UInt8) : g_law19_ExceptionEnds t day = some true := by
  unfold g_law19_ExceptionEnds g_make_Light
  rw [Option.bind_some]
  by_cases hl : (t.length : Int) ≤ 400
  · rw [decide_eq_true hl, Bool.not_true, cond_false]
    refine Ok.true_ ?_
    refine Ok.bind (roll19 (by omega)) fun d hd => ?_
    refine Ok.bind (list_ok hd (u := ⟨1, 0⟩) (by decide)) fun y4 h4 => ?_
    obtain ⟨l, d4⟩ := y4
    obtain ⟨⟨hlen, hsm⟩, -⟩ := h4
    dsimp only at hlen hsm
    have hq : remI (day.toNat : Int) 60 = some ((day.toNat % 60 : Nat) : Int) := by
      unfold remI
      rw [if_neg (by omega)]
      rfl
    have hq5 : day.toNat % 60 < 60 := Nat.mod_lt _ (by omega)
    generalize day.toNat % 60 = q at hq hq5
    rw [hq, Option.bind_some]
    have hk : (⟨seK, 1⟩ : api_Owners).Keys.length ≤ 1000 := by show 3 ≤ 1000; omega
    refine Ok.bind (Ends_ok (u := ⟨1, 0⟩) (p := 1) (e := web) (o := ⟨seK, 1⟩) hsm (by show l.length ≤ 100; omega) hk (day := (q : Int)) (by omega) (by omega)) fun y5 h5 => ?_
    -- the days up to an end
    have J1 : ∀ E : Int, (q : Int) ≤ E → E ≤ 100000 → (∀ n, (q : Int) ≤ n → n ≤ E → ((l.any fun x => actS ⟨seK, 1⟩ ⟨1, 0⟩ 1 web x n) = decide (n < E))) → Ok (g_law19_ExceptionEnds.j1 (l, d4) (q : Int) E) (fun r => r = true) := by
      intro E hE hE2 hcov
      unfold g_law19_ExceptionEnds.j1
      refine Ok.loop (fun s : Int => (q : Int) ≤ s ∧ s ≤ E + 1) (fun s => (E + 1 - s).toNat) ?_ ⟨Int.le_refl _, by omega⟩
      rintro n ⟨n1, n2⟩
      show Ok (g_law19_ExceptionEnds.l2 (l, d4) E n) _
      unfold g_law19_ExceptionEnds.l2
      refine Ok.cond (fun hb => ?_) (fun hb => ?_)
      · have hb := of_decide_eq_true hb
        refine Ok.loop (fun s : Bool × Int => ∃ i : Nat, s.2 = (i : Int) ∧ i ≤ l.length ∧ s.1 = (l.take i).any fun x => actS ⟨seK, 1⟩ ⟨1, 0⟩ 1 web x n) (fun s => l.length - s.2.toNat) ?_ ⟨0, rfl, Nat.zero_le _, rfl⟩
        rintro ⟨cv, _⟩ ⟨i, rfl, hi, hcv⟩
        have hcv : cv = (l.take i).any fun x => actS ⟨seK, 1⟩ ⟨1, 0⟩ 1 web x n := hcv
        subst hcv
        show Ok (g_law19_ExceptionEnds.l3 (l, d4) E n ((l.take i).any fun x => actS ⟨seK, 1⟩ ⟨1, 0⟩ 1 web x n) (i : Int)) _
        unfold g_law19_ExceptionEnds.l3
        show Ok (cond (decide ((i : Int) < (l.length : Int))) _ _) _
        refine Ok.cond (fun hb2 => ?_) (fun hb2 => ?_)
        · have hil : i < l.length := by have := of_decide_eq_true hb2; omega
          obtain ⟨x, hx⟩ : ∃ x, l[i]? = some x := ⟨_, List.getElem?_eq_getElem hil⟩
          have hs := hsm x (at_mem hx)
          have J4 : ∀ b, b = ((l.take (i + 1)).any fun x => actS ⟨seK, 1⟩ ⟨1, 0⟩ 1 web x n) → Ok (g_law19_ExceptionEnds.j4 (i : Int) b) (Rd' (fun s' : Bool × Int => (∃ i : Nat, s'.2 = (i : Int) ∧ i ≤ l.length ∧ s'.1 = (l.take i).any fun x => actS ⟨seK, 1⟩ ⟨1, 0⟩ 1 web x n) ∧ l.length - s'.2.toNat < l.length - ((i : Int)).toNat) (Rd' (fun s' : Int => ((q : Int) ≤ s' ∧ s' ≤ E + 1) ∧ (E + 1 - s').toNat < (E + 1 - n).toNat) (fun r => r = true))) := by
            intro b hb
            unfold g_law19_ExceptionEnds.j4
            rw [W_id (by omega)]
            exact Ok.ret ⟨⟨i + 1, by show (i : Int) + 1 = _; omega, hil, hb⟩, by show l.length - ((i : Int) + 1).toNat < l.length - ((i : Int)).toNat; omega⟩
          refine Ok.cond (fun h1 => J4 _ ?_) (fun h1 => ?_)
          · rw [take_succ' hx, List.any_append, h1]; rfl
          · show Ok ((getI l (i : Int)).bind _) _
            rw [getI_nat, hx, Option.bind_some]
            show Ok ((g_exception_Valid x ⟨seK, 1⟩).bind _) _
            rw [valid_vS hs (by omega) hk, Option.bind_some]
            refine Ok.cond (fun h2 => ?_) (fun h2 => J4 _ ?_)
            · show Ok ((g_exception_Covers x ⟨1, 0⟩ 1 web n).bind _) _
              rw [covers_ok, Option.bind_some]
              refine J4 _ ?_
              rw [take_succ' hx, List.any_append, h1]
              simp [actS, h2]
            · rw [take_succ' hx, List.any_append, h1]
              simp [actS, h2]
        · have hil : i = l.length := by have := of_decide_eq_false hb2; omega
          subst hil
          rw [List.take_length, hcov n n1 hb, decide_eq_true rfl, Bool.not_true, cond_false, W_id (by omega)]
          exact Ok.up (Ok.ret ⟨⟨by omega, by omega⟩, by omega⟩)
      · rw [awake19]
        exact Ok.up (Ok.ret rfl)
    have none_ : ∀ n, (∀ x ∈ l, actS ⟨seK, 1⟩ ⟨1, 0⟩ 1 web x n = false) → (l.any fun x => actS ⟨seK, 1⟩ ⟨1, 0⟩ 1 web x n) = false := fun n h => by
      rw [List.any_eq_false]
      intro x hx
      rw [h x hx]; decide
    rcases h5 with ⟨k1, k2⟩ | ⟨k1, k2, k3, k4, k5⟩
    · rw [k1, Bool.not_false, cond_true]
      refine J1 _ (Int.le_refl _) (by omega) fun n h6 h7 => ?_
      have : n = (q : Int) := by omega
      subst this
      rw [none_ _ k2, decide_eq_false (by omega)]
    · rw [k1, Bool.not_true, cond_false, decide_eq_false (by omega), cond_false]
      refine J1 _ (by omega) k3 fun n h6 h7 => ?_
      by_cases h8 : n < y5.1
      · rw [decide_eq_true h8, List.any_eq_true]
        exact k4 n h6 h8
      · have : n = y5.1 := by omega
        subst this
        rw [none_ _ k5, decide_eq_false (by omega)]
  · rw [decide_eq_false hl, Bool.not_false, cond_true, awake19]
    rfl
end Go.Proofs.Ytmihjbejflcgkaa
