/- Sound estates are made. No program is in sight here. -/
import Derived.Test.YtkpcbnnlefcebaaGreatW2
set_option linter.unusedVariables false
set_option linter.unusedSimpArgs false
namespace Go.Proofs.YtkpcbnnlefcebaaGreat
open Go
theorem edge_add {n : Nat} {l : List api_Edge} {i k : Int} (h : EdgesOK n l) (ha : Ahead i k l) (h3 : l.length < 3) (hi : 0 ≤ i ∧ i < (n : Int)) (hk : 0 ≤ k ∧ k < (n : Int)) (hne : i ≠ k) : EdgesOK n (l ++ [api_Edge.mk i k]) ∧ Ahead i (k + 1) (l ++ [api_Edge.mk i k]) := by
  refine ⟨⟨by rw [List.length_append, List.length_singleton]; omega, fun e he => ?_, fun j x y hx hy => ?_⟩, fun e he => ?_⟩
  · rcases List.mem_append.1 he with he | he
    · exact h.rng e he
    · rw [List.mem_singleton.1 he]; exact ⟨hi, hk, hne⟩
  · have hj := at_lt hy
    rw [List.length_append, List.length_singleton] at hj
    rw [List.getElem?_append_left (by omega)] at hx
    by_cases hj2 : j + 1 < l.length
    · rw [List.getElem?_append_left hj2] at hy
      exact h.asc j x y hx hy
    · rw [List.getElem?_append_right (by omega), show j + 1 - l.length = 0 by omega] at hy
      injection hy with hy
      subst hy
      exact ha x (at_mem hx)
  · rcases List.mem_append.1 he with he | he
    · rcases ha e he with h1 | ⟨h1, h2⟩
      · exact .inl h1
      · exact .inr ⟨h1, by omega⟩
    · rw [List.mem_singleton.1 he]
      exact .inr ⟨rfl, by show k < k + 1; omega⟩
theorem ahead_next {l : List api_Edge} {i k : Int} (h : Ahead i k l) : Ahead i (k + 1) l := fun e he => by
  rcases h e he with h1 | ⟨h1, h2⟩
  · exact .inl h1
  · exact .inr ⟨h1, by omega⟩
theorem ahead_row {l : List api_Edge} {i k : Int} (h : Ahead i k l) : Ahead (i + 1) 0 l := fun e he => by
  rcases h e he with h1 | ⟨h1, h2⟩
  · exact .inl (by omega)
  · exact .inl (by omega)
theorem taken {y : Int × cipherplanmake_Dice} {n : Nat} (hn : 2 + y.1 = (n : Int)) (h : n ≤ 3) : ((((W (2 + y.1) : Int).toNat - (0 : Int).toNat) : Nat) : Int) = (n : Int) := by
  rw [hn, W_id (by omega), Int.toNat_natCast]
  show ((n - 0 : Nat) : Int) = _
  rw [Nat.sub_zero]
def EQ (n : Nat) (i k : Int) (d : cipherplanmake_Dice) (l : List api_Edge) : Prop := DOK d ∧ EdgesOK n l ∧ Ahead i k l
theorem sound_l7 {y : Int × cipherplanmake_Dice} {n : Nat} (hn : 2 + y.1 = (n : Int)) (h3 : n ≤ 3) {i : Int} (hi : 0 ≤ i ∧ i < (n : Int)) {d : cipherplanmake_Dice} {l : List api_Edge} (h : EQ n i 0 d l) :
    Ok (loop (fun q' => g_move_Sound.l7 y i q'.1 q'.2.1 q'.2.2) (0, d, l)) (fun o => ∃ d' l', o = .next (i + 1, d', l') ∧ EQ n (i + 1) 0 d' l') := by
  refine Ok.loop (fun s : Int × cipherplanmake_Dice × List api_Edge => (0 ≤ s.1 ∧ s.1 ≤ (n : Int)) ∧ EQ n i s.1 s.2.1 s.2.2) (fun s => ((n : Int) - s.1).toNat) (fun s hs => ?_) ⟨⟨Int.le_refl _, by show (0 : Int) ≤ (n : Int); omega⟩, h⟩
  obtain ⟨k, d1, l1⟩ := s
  obtain ⟨hk, hd, he, ha⟩ := hs
  dsimp only at hk hd he ha
  have hl3 := he.len
  show Ok (g_move_Sound.l7 y i k d1 l1) _
  unfold g_move_Sound.l7
  rw [taken hn h3]
  refine Ok.cond (fun hb => ?_) fun hb => ?_
  · have hb := of_decide_eq_true hb
    have hw : W (k + 1) = k + 1 := W_id (by omega)
    have J8 : ∀ (d' : cipherplanmake_Dice) (b : Bool), DOK d' → (b = true → l1.length < 3 ∧ i ≠ k) → Ok (g_move_Sound.j8 i k l1 b d') (Rd' (fun s : Int × cipherplanmake_Dice × List api_Edge => ((0 ≤ s.1 ∧ s.1 ≤ (n : Int)) ∧ EQ n i s.1 s.2.1 s.2.2) ∧ ((n : Int) - s.1).toNat < ((n : Int) - k).toNat) (fun o => ∃ d' l', o = .next (i + 1, d', l') ∧ EQ n (i + 1) 0 d' l')) := fun d' b hd' hb' => by
      unfold g_move_Sound.j8 g_move_Sound.j9
      rw [hw]
      refine Ok.cond (fun hbt => ?_) fun _ => ?_
      · obtain ⟨c1, c2⟩ := hb' hbt
        refine Ok.bind (appI_ok' (by rw [List.length_singleton]; omega)) fun l' hl' => ?_
        subst hl'
        obtain ⟨e1, e2⟩ := edge_add he ha c1 hi ⟨hk.1, hb⟩ c2
        exact Ok.ret ⟨⟨⟨by show 0 ≤ k + 1; omega, by show k + 1 ≤ (n : Int); omega⟩, hd', e1, e2⟩, by show ((n : Int) - (k + 1)).toNat < ((n : Int) - k).toNat; omega⟩
      · exact Ok.ret ⟨⟨⟨by show 0 ≤ k + 1; omega, by show k + 1 ≤ (n : Int); omega⟩, hd', he, ahead_next ha⟩, by show ((n : Int) - (k + 1)).toNat < ((n : Int) - k).toNat; omega⟩
    clear hw
    refine Ok.cond (fun hne => ?_) fun _ => J8 d1 false hd (fun h => by cases h)
    have hne' : i ≠ k := fun e => by rw [decide_eq_true e] at hne; cases hne
    refine Ok.bind (next_ok hd 3 (by omega) (by omega)) fun y8 h8 => ?_
    refine Ok.cond (fun _ => J8 y8.2 _ h8.2 fun h => ⟨by have := of_decide_eq_true h; omega, hne'⟩) fun _ => J8 y8.2 false h8.2 (fun h => by cases h)
  · refine Ok.up ?_
    rw [W_id (by omega)]
    exact Ok.ret ⟨d1, l1, rfl, hd, he, ahead_row ha⟩
def SoundN (s : api_Estate) : Prop := SoundE s ∧ s.Edges ≠ []
theorem sound_l11 {E : List api_Endpoint} {L : List api_Edge} {n : Nat} (h2 : 2 ≤ n ∧ n ≤ 3) (hE : E.length = n) (hep : ∀ (j : Nat) e, E[j]? = some e → EpOK j e) (hL : EdgesOK n L) (hne : L ≠ []) {d : cipherplanmake_Dice} (hd : DOK d) : Ok (g_move_Sound.j10 E d L) (fun y => SoundN y.1 ∧ DOK y.2) := by
  unfold g_move_Sound.j10
  refine Ok.bind (next_ok hd 3 (by omega) (by omega)) fun y9 h9 => ?_
  have b9 := h9.1
  refine Ok.loop (fun s : Int × cipherplanmake_Dice × List api_Item => (0 ≤ s.1 ∧ s.1 + (s.2.2.length : Int) ≤ 2) ∧ DOK s.2.1 ∧ ∀ x ∈ s.2.2, g_lifetime_Check x = some 0) (fun s => s.1.toNat) (fun s hs => ?_) ⟨⟨b9.1, by show y9.1 + ((([] : List api_Item).length : Nat) : Int) ≤ 2; simp; omega⟩, h9.2, fun x hx => (by cases hx)⟩
  obtain ⟨i, d1, l⟩ := s
  obtain ⟨⟨a1, a2⟩, a3, a4⟩ := hs
  dsimp only at a1 a2 a3 a4
  show Ok (g_move_Sound.l11 E L i d1 l) _
  unfold g_move_Sound.l11
  refine Ok.cond (fun hb => ?_) fun hb => ?_
  · have hb := of_decide_eq_true hb
    refine Ok.bind (word_ok a3 _ (by decide) (by decide)) fun y10 h10 => ?_
    have hnm : nameS y10.1 = true := by
      have := h10.1
      simp only [List.mem_cons, List.not_mem_nil, or_false] at this
      rcases this with h | h <;> rw [h] <;> decide +kernel
    refine Ok.bind (item_ok h10.2 hnm) fun y11 h11 => ?_
    refine Ok.bind (appI_ok' (by rw [List.length_singleton]; omega)) fun l' hl' => ?_
    subst hl'
    rw [W_id (by omega)]
    refine Ok.ret ⟨⟨⟨by show 0 ≤ i - 1; omega, ?_⟩, h11.2, fun x hx => ?_⟩, by show (i - 1).toNat < i.toNat; omega⟩
    · show i - 1 + ((l ++ [y11.1]).length : Int) ≤ 2
      rw [List.length_append, List.length_singleton]; omega
    · rcases List.mem_append.1 hx with hx | hx
      · exact a4 x hx
      · rw [List.mem_singleton.1 hx]; exact h11.1
  · exact Ok.up (Ok.ret ⟨⟨⟨by show 2 ≤ E.length ∧ E.length ≤ 3; omega, hep, by show EdgesOK E.length L; rw [hE]; exact hL, by show l.length ≤ 2; omega, a4⟩, hne⟩, a3⟩)
theorem sound_l6 {y : Int × cipherplanmake_Dice} {n : Nat} (hn : 2 + y.1 = (n : Int)) (h2 : 2 ≤ n ∧ n ≤ 3) {E : List api_Endpoint} (hE : E.length = n) (hep : ∀ (j : Nat) e, E[j]? = some e → EpOK j e) {d : cipherplanmake_Dice} (hd : DOK d) :
    Ok (loop (fun q' => g_move_Sound.l6 y E q'.1 q'.2.1 q'.2.2) (0, d, ([] : List api_Edge))) (fun y => SoundN y.1 ∧ DOK y.2) := by
  refine Ok.loop (fun s : Int × cipherplanmake_Dice × List api_Edge => (0 ≤ s.1 ∧ s.1 ≤ (n : Int)) ∧ EQ n s.1 0 s.2.1 s.2.2) (fun s => ((n : Int) - s.1).toNat) (fun s hs => ?_) ⟨⟨Int.le_refl _, by show (0 : Int) ≤ (n : Int); omega⟩, hd, ⟨Nat.zero_le _, fun x hx => (by cases hx), fun j x y hx => (by cases hx)⟩, fun x hx => (by cases hx)⟩
  obtain ⟨i, d1, l1⟩ := s
  obtain ⟨hk, hq⟩ := hs
  dsimp only at hk hq
  show Ok (g_move_Sound.l6 y E i d1 l1) _
  unfold g_move_Sound.l6
  rw [taken hn h2.2]
  refine Ok.cond (fun hb => ?_) fun hb => ?_
  · have hb := of_decide_eq_true hb
    refine (sound_l7 hn h2.2 ⟨hk.1, hb⟩ hq).mono fun o ho => ?_
    obtain ⟨d', l', rfl, ho⟩ := ho
    exact ⟨⟨⟨by show 0 ≤ i + 1; omega, by show i + 1 ≤ (n : Int); omega⟩, ho⟩, by show ((n : Int) - (i + 1)).toNat < ((n : Int) - i).toNat; omega⟩
  · refine Ok.up (Ok.cond (fun _ => ?_) fun hl0 => sound_l11 h2 hE hep hq.2.1 (fun e0 => by rw [e0] at hl0; exact absurd rfl (of_decide_eq_false hl0)) hq.1)
    refine sound_l11 h2 hE hep ⟨by decide, fun e he => ?_, fun j x y hx hy => ?_⟩ (by simp) hq.1
    · rw [List.mem_singleton.1 he]
      exact ⟨⟨by show (0 : Int) ≤ 0; omega, by show (0 : Int) < (n : Int); omega⟩, ⟨by show (0 : Int) ≤ 1; omega, by show (1 : Int) < (n : Int); omega⟩, by show (0 : Int) ≠ 1; omega⟩
    · have := at_lt hy
      rw [List.length_singleton] at this
      omega
theorem sound_okN {d : cipherplanmake_Dice} (h : DOK d) : Ok (g_move_Sound d) (fun y => SoundN y.1 ∧ DOK y.2) := by
  unfold g_move_Sound
  refine Ok.bind (next_ok h 2 (by omega) (by omega)) fun y hy => ?_
  have by1 := hy.1
  obtain ⟨n, hn⟩ : ∃ n : Nat, 2 + y.1 = (n : Int) := ⟨(2 + y.1).toNat, by omega⟩
  have h2 : 2 ≤ n ∧ n ≤ 3 := by omega
  have hw : W (2 + y.1) = (n : Int) := by rw [hn, W_id (by omega)]
  refine Ok.bind (slI_ok ⟨by omega, by rw [hw]; omega, by rw [hw]; show (n : Int) ≤ 3; omega⟩) fun l hl => ?_
  clear hl
  refine Ok.loop (fun s : Int × cipherplanmake_Dice × List api_Endpoint => (0 ≤ s.1 ∧ s.1 ≤ (n : Int)) ∧ DOK s.2.1 ∧ (s.2.2.length : Int) = s.1 ∧ ∀ (j : Nat) e, s.2.2[j]? = some e → EpOK j e) (fun s => ((n : Int) - s.1).toNat) (fun s hs => ?_) ⟨⟨Int.le_refl _, by show (0 : Int) ≤ (n : Int); omega⟩, hy.2, rfl, fun j e he => (by cases he)⟩
  obtain ⟨i, d1, E⟩ := s
  obtain ⟨hk, hd, hlen, hep⟩ := hs
  dsimp only at hk hd hlen hep
  show Ok (g_move_Sound.l1 y i d1 E) _
  unfold g_move_Sound.l1
  rw [taken hn h2.2]
  refine Ok.cond (fun hb => ?_) fun hb => ?_
  · have hb := of_decide_eq_true hb
    have hnm : getI ((([(⟨#[97, 112, 112]⟩ : ByteArray), (⟨#[100, 98]⟩ : ByteArray), (⟨#[119, 101, 98]⟩ : ByteArray)] : List ByteArray).drop ((0 : Int).toNat)).take ((W (2 + y.1) : Int).toNat - (0 : Int).toNat)) i = some (nmS E.length) := by
      rw [hw, Int.toNat_natCast, ← hlen, getI_nat]
      show ((nmL.drop 0).take (n - 0))[E.length]? = _
      rw [List.drop_zero, Nat.sub_zero, List.getElem?_take, if_pos (by omega)]
      unfold nmS
      rw [List.getD_eq_getElem?_getD, List.getElem?_eq_getElem (show E.length < nmL.length by show E.length < 3; omega)]
      rfl
    refine Ok.bindE hnm ?_
    refine Ok.bind (of_ok hd _ (by decide) (by decide)) fun y2 k2 => ?_
    refine Ok.bind (next_ok k2.2 3 (by omega) (by omega)) fun y3 k3 => ?_
    have b3 := k3.1
    refine Ok.bind (getI_mem (by omega) (by show y3.1 < (3 : Int); omega)) fun S hS => ?_
    refine Ok.bind (one_ok k3.2 2 (by omega) (by omega)) fun y4 k4 => ?_
    refine Ok.bind (one_ok k4 3 (by omega) (by omega)) fun y5 k5 => ?_
    have hm : y2.1 = 3 ∨ y2.1 = 4 := by
      have := k2.1
      simp only [List.mem_cons, List.not_mem_nil, or_false] at this
      omega
    simp only [List.mem_cons, List.not_mem_nil, or_false] at hS
    have J : ∀ x, (y2.1, x) ∈ combos → Ok (g_move_Sound.j2 i E (nmS E.length) y2 y4 y5 x) (Rd' (fun s : Int × cipherplanmake_Dice × List api_Endpoint => ((0 ≤ s.1 ∧ s.1 ≤ (n : Int)) ∧ DOK s.2.1 ∧ (s.2.2.length : Int) = s.1 ∧ ∀ (j : Nat) e, s.2.2[j]? = some e → EpOK j e) ∧ ((n : Int) - s.1).toNat < ((n : Int) - i).toNat) (fun y => SoundN y.1 ∧ DOK y.2)) := fun x hx => by
      unfold g_move_Sound.j2 g_move_RSA
      rw [Option.bind_some, ← hlen]
      refine Ok.bindE (leaf_ok (i := E.length) (by omega)) ?_
      refine Ok.bind (appI_ok' (by rw [List.length_singleton]; omega)) fun l' hl' => ?_
      subst hl'
      rw [W_id (by omega)]
      refine Ok.ret ⟨⟨⟨by show 0 ≤ (E.length : Int) + 1; omega, by show (E.length : Int) + 1 ≤ (n : Int); omega⟩, k5, ?_, fun j e he => ?_⟩, by show ((n : Int) - ((E.length : Int) + 1)).toNat < ((n : Int) - (E.length : Int)).toNat; omega⟩
      · show ((E ++ [_]).length : Int) = (E.length : Int) + 1
        rw [List.length_append, List.length_singleton]; omega
      · have he : (E ++ [_])[j]? = some e := he
        rw [List.getElem?_append] at he
        split at he
        · exact hep j e he
        · have hj0 : j - E.length = 0 := by
            have := at_lt he
            rw [List.length_singleton] at this
            omega
          rw [hj0] at he
          injection he with he
          subst he
          rw [show j = E.length by omega]
          exact ⟨(y2.1, x), hx, _, _, rfl⟩
    rcases hm with hm | hm
    · rw [hm, decide_eq_false (by omega), cond_false]
      refine J S ?_
      rw [hm]
      unfold combos
      rcases hS with rfl | rfl | rfl <;> simp
    · rw [hm, decide_eq_true rfl, cond_true]
      refine Ok.bind (appI_ok' (by rcases hS with rfl | rfl | rfl <;> decide)) fun l' hl' => ?_
      subst hl'
      refine J _ ?_
      rw [hm]
      unfold combos
      rcases hS with rfl | rfl | rfl <;> simp
  · have hb := of_decide_eq_false hb
    exact Ok.up (sound_l6 hn h2 (by omega) hep hd)
end Go.Proofs.YtkpcbnnlefcebaaGreat
