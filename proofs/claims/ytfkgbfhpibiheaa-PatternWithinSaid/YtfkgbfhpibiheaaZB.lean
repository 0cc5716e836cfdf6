/- Chapter 11, plain: PatternWithin. -/
import Derived.Test.YtfkgbfhpibiheaaZ9
set_option linter.unusedVariables false
set_option linter.unusedSimpArgs false
set_option maxRecDepth 100000
namespace Go.Proofs.Ytfkgbfhpibiheaa
open Go
theorem At_take {q x : Bts} {c j : Nat} (hc : c ≤ x.length) : At q (x.take c) j = true ↔ At q x j = true ∧ q.length + j ≤ c := by
  unfold At
  simp only [decide_eq_true_eq, List.length_take, Nat.min_eq_left hc]
  constructor
  · rintro ⟨h1, h2⟩
    rw [List.drop_take, List.take_take, Nat.min_eq_left (by omega)] at h2
    exact ⟨⟨by omega, h2⟩, h1⟩
  · rintro ⟨⟨h1, h2⟩, h3⟩
    refine ⟨h3, ?_⟩
    rw [List.drop_take, List.take_take, Nat.min_eq_left (by omega)]
    exact h2
theorem At_mid {u q v x : Bts} {j : Nat} (h : At (u ++ q ++ v) x j = true) : At q x (j + u.length) = true := by
  unfold At at *
  simp only [decide_eq_true_eq, List.length_append] at *
  obtain ⟨h1, h2⟩ := h
  refine ⟨by omega, ?_⟩
  have h3 : ((x.drop j).take (u.length + q.length + v.length)).drop u.length = q ++ v := by rw [h2, List.append_assoc, List.drop_left]
  rw [List.drop_take, List.drop_drop] at h3
  have h4 : ((x.drop (j + u.length)).take (u.length + q.length + v.length - u.length)).take q.length = q := by rw [h3, List.take_left]
  rw [List.take_take, Nat.min_eq_left (by omega)] at h4
  exact h4
theorem law_PatternWithin (l : List Int) : g_law11_PatternWithin l = some true := by
  refine Ok.true_ ?_
  unfold g_law11_PatternWithin
  refine Ok.bindE (a := decide ((l.length : Int) ≤ 400)) rfl ?_
  refine Ok.cond (fun _ => Ok.bindE awake11 (Ok.ret rfl)) fun hlt => ?_
  have hlt : l.length ≤ 400 := by simp at hlt; omega
  refine Ok.bind (roll_ok hlt) fun d hd => ?_
  refine Ok.bind (pats_ok hd) ?_
  rintro ⟨p, d1⟩ ⟨p1, p2, p3, hd1⟩
  simp only at p1 p2 p3 hd1
  have h0 : p[0]? = some (p[0]'(by omega)) := List.getElem?_eq_getElem _
  generalize (p[0]'(by omega)) = q0 at h0
  obtain ⟨a1, a2, a3⟩ := p3 q0 (List.mem_of_getElem? h0)
  refine Ok.bindE (a := q0) (by rw [getI_z]; exact h0) ?_
  refine Ok.bind (text_ok hd1 3 (by omega)) ?_
  rintro ⟨u, d2⟩ ⟨hu, hd2⟩
  simp only at hu hd2
  refine Ok.bindE (a := u ++ q0.Bytes) (appI_ok (by simp only; omega)) ?_
  refine Ok.bind (text_ok hd2 3 (by omega)) ?_
  rintro ⟨v, d3⟩ ⟨hv, hd3⟩
  simp only at hv hd3
  refine Ok.bindE (a := u ++ q0.Bytes ++ v) (appI_ok (by simp only [List.length_append]; omega)) ?_
  generalize hlg : (⟨q0.Use, u ++ q0.Bytes ++ v⟩ : api_Pattern) = lq
  have hlb : lq.Bytes = u ++ q0.Bytes ++ v := by rw [← hlg]
  have hll : lq.Bytes.length = u.length + q0.Bytes.length + v.length := by rw [hlb]; simp; omega
  have hlu : lq.Use = q0.Use := by rw [← hlg]
  refine Ok.bindE (a := p ++ [lq]) (appI_ok (by simp only [List.length_singleton]; omega)) ?_
  refine Ok.bind (text_ok hd3 40 (by omega)) ?_
  rintro ⟨t1, d4⟩ ⟨ht1, hd4⟩
  simp only at ht1 hd4
  refine Ok.bindE (a := t1 ++ (u ++ q0.Bytes ++ v)) (appI_ok (by simp only [List.length_append]; omega)) ?_
  refine Ok.bind (text_ok hd4 20 (by omega)) ?_
  rintro ⟨t2, d5⟩ ⟨ht2, hd5⟩
  simp only at ht2 hd5
  refine Ok.bindE (a := t1 ++ (u ++ q0.Bytes ++ v) ++ t2) (appI_ok (by simp only [List.length_append]; omega)) ?_
  refine Ok.bind (one_ok hd5 2 (by omega) (by omega)) fun y hy => ?_
  have hl : Lo (p ++ [lq]) := by unfold Lo; simp; omega
  have hc : chk (p ++ [lq]) = 0 := chk_zero (by simp; omega) fun q hq => by
    rcases List.mem_append.1 hq with hq | hq
    · obtain ⟨a, b, c⟩ := p3 q hq; exact ⟨a, by omega, c⟩
    · rw [List.mem_singleton.1 hq, hll, hlu]
      exact ⟨by omega, by omega, a3⟩
  have main : ∀ (d : cipherplanmake_Dice) (x : Bts), DOK d → x.length ≤ 1000 → Ok (g_law11_PatternWithin.j2 (p ++ [lq]) d x) (fun r => r = true) := fun d x hd hx => by
    unfold g_law11_PatternWithin.j2
    rw [W_succ (by omega)]
    refine Ok.bind (next_ok hd _ (by omega) (by omega)) ?_
    rintro ⟨c, d'⟩ ⟨⟨c1, c2⟩, -⟩
    simp only at c1 c2
    obtain ⟨a, e1, -, e2⟩ := First_both (b := x) hl hc (by omega)
    have hcl : (x.take c.toNat).length = c.toNat := by rw [List.length_take]; omega
    obtain ⟨b, f1, -, f2⟩ := First_both (b := x.take c.toNat) hl hc (by omega)
    refine Ok.bindE e1 ?_
    refine Ok.bindE (a := x.take c.toNat) (by
      unfold slI
      rw [if_pos (by simp only; omega)]
      simp) ?_
    refine Ok.bindE f1 ?_
    have hal := e2.1
    have hbl := f2.1
    have hpl : (p ++ [lq]).length = p.length + 1 := by simp
    refine Ok.cond (fun h => by simp at h) fun _ => ?_
    refine Ok.cond (fun h => by simp at h) fun _ => ?_
    refine Ok.cond (fun h => by simp [hal] at h) fun _ => ?_
    refine Ok.cond (fun h => by simp [hbl] at h) fun _ => ?_
    have hlast : (p ++ [lq])[p.length]? = some lq := by simp
    have hfirst : (p ++ [lq])[0]? = some q0 := by rw [List.getElem?_append_left (by omega)]; exact h0
    obtain ⟨xl, g1, g2⟩ := e2.2 _ _ hlast
    obtain ⟨x0, g3, g4⟩ := e2.2 _ _ hfirst
    have rest : Ok (g_law11_PatternWithin.j5 (p ++ [lq]) (a, 0) (b, 0) false) (fun r => r = true) := by
      unfold g_law11_PatternWithin.j5
      rw [cond_false]
      refine Ok.loop (fun x => ∃ k : Nat, x = (k : Int) ∧ k ≤ p.length + 1) (fun x => p.length + 1 - x.toNat) ?_ ⟨0, rfl, Nat.zero_le _⟩
      rintro z ⟨k, rfl, hk⟩
      show Ok (g_law11_PatternWithin.l6 (p ++ [lq]) (a, 0) (b, 0) (k : Int)) _
      unfold g_law11_PatternWithin.l6
      refine Ok.cond (fun hlt => ?_) fun _ => Ok.up (Ok.bindE awake11 (Ok.ret rfl))
      have hlt : k < p.length + 1 := by have := of_decide_eq_true hlt; rw [hpl] at this; omega
      have hq : (p ++ [lq])[k]? = some ((p ++ [lq])[k]'(by omega)) := List.getElem?_eq_getElem _
      generalize ((p ++ [lq])[k]'(by omega)) = q at hq
      obtain ⟨xa, i1, i2⟩ := e2.2 _ _ hq
      obtain ⟨xb, i3, i4⟩ := f2.2 _ _ hq
      have ok : Ok (g_law11_PatternWithin.j7 (k : Int) false) (Rd' (fun x => (∃ k : Nat, x = (k : Int) ∧ k ≤ p.length + 1) ∧ p.length + 1 - x.toNat < p.length + 1 - (k : Int).toNat) fun r => r = true) := by
        unfold g_law11_PatternWithin.j7
        rw [cond_false]
        refine Ok.ret ⟨⟨k + 1, W_succ (by omega), hlt⟩, ?_⟩
        show p.length + 1 - (W ((k : Int) + 1)).toNat < _
        rw [W_succ (by omega)]
        omega
      refine Ok.bindE (by rw [getI_nat]; exact i3) ?_
      refine Ok.cond (fun hpos => ?_) fun _ => ok
      have hpos := of_decide_eq_true hpos
      refine Ok.bindE (by rw [getI_nat]; exact i1) ?_
      have heq : xa = xb := by
        rcases i4 with ⟨rfl, -⟩ | ⟨j, rfl, j1, j2⟩
        · omega
        · have j3 := (At_take (by omega)).1 j1
          refine i2.uniq (.inr ⟨j, rfl, j3.1, fun i hi => ?_⟩)
          cases hat : At q.Bytes x i with
          | false => rfl
          | true =>
            have := (At_take (c := c.toNat) (by omega)).2 ⟨hat, by omega⟩
            rw [j2 i hi] at this
            cases this
      rw [heq, show (!decide (xb = xb)) = false by simp]
      exact ok
    refine Ok.bindE (a := xl) (by
      rw [hpl, W_id (by omega), show ((p.length + 1 : Nat) : Int) - 1 = ((p.length : Nat) : Int) by omega, getI_nat]
      exact g1) ?_
    refine Ok.cond (fun hpos => ?_) fun _ => rest
    have hpos := of_decide_eq_true hpos
    refine Ok.bindE (a := x0) (by rw [getI_z]; exact g3) ?_
    rcases g2 with ⟨rfl, -⟩ | ⟨j, rfl, j1, -⟩
    · omega
    · rw [hlb] at j1
      have j2 := At_mid j1
      have jle := At_le j1
      rcases g4 with ⟨rfl, g4⟩ | ⟨m, rfl, m1, m2⟩
      · rw [g4 _] at j2; cases j2
      · have hm : m ≤ j + u.length := Nat.le_of_not_lt fun h => by rw [m2 _ h] at j2; cases j2
        refine Ok.cond (fun h => by have := of_decide_eq_true h; omega) fun _ => ?_
        rw [W_id (by omega), show decide ((j : Int) + 3 < (m : Int)) = false from decide_eq_false (by omega)]
        exact rest
  refine Ok.cond (fun _ => ?_) fun _ => main _ _ hy (by simp only [List.length_append]; omega)
  refine Ok.bind (text_ok hy 80 (by omega)) ?_
  rintro ⟨t3, d6⟩ ⟨ht3, hd6⟩
  exact main _ _ hd6 (by simp only at ht3; simp only; omega)
end Go.Proofs.Ytfkgbfhpibiheaa
