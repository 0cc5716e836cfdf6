/- The program's search for a chain finds what the reference's finds. No program is in sight here. -/
import Derived.Test.YtggimglopfdhiaaB2
set_option linter.unusedVariables false
set_option linter.unusedSimpArgs false
namespace Go.Proofs.Ytggimglopfdhiaa
open Go
def resF (b : List api_Certificate × Bool × List Bool) : Option (List api_Certificate) := bif b.2.1 then some b.1 else none
abbrev usedB (used : List Bool) (j : Nat) : Bool := (used[j]?).getD false
section
variable {s : chain_search}
abbrev accF (s : chain_search) : List api_Certificate → Bool := accS s.anchors s.hashes s.day s.name
def PreF (s : chain_search) (a : chain_search × (List api_Certificate) × List Bool × Int) : Prop :=
  a.1 = s ∧ a.2.2.1.length = s.pool.length ∧ ∃ n : Nat, a.2.2.2 = ((a.2.1.length + n : Nat) : Int) ∧ a.2.1.length + n ≤ 8 ∧ 1 ≤ a.2.1.length ∧ AllC a.2.1
def PostF (s : chain_search) (a : chain_search × (List api_Certificate) × List Bool × Int) (b : List api_Certificate × Bool × List Bool) : Prop :=
  resF b = extS (accF s) s.pool (a.2.2.2.toNat - a.2.1.length) a.2.1 (usedB a.2.2.1) ∧ b.2.2 = a.2.2.1
theorem upTo_ok {S R : Type} {body : S → Option (Lp S R)} {q : S} {x : Option R} {Q : R → Prop} (h : body q = up x) (k : Ok x Q) : Ok (loop body q) Q := by
  rw [loop_up h]; exact k
theorem set_back {used : List Bool} {i : Nat} (h : used[i]? = some false) : setI (setI used i true) i false = used := by
  unfold setI
  rw [List.set_set]
  obtain ⟨h1, h2⟩ := List.getElem?_eq_some_iff.1 h
  rw [← h2]
  exact List.set_getElem_self h1
theorem used_set {used : List Bool} {i j : Nat} (hj : j < used.length) : usedB (setI used i true) j = (decide (j = i) || usedB used j) := by
  unfold usedB setI
  by_cases h : j = i
  · subst h
    rw [List.getElem?_set_self hj]
    simp
  · rw [List.getElem?_set_ne (fun e => h e.symm), decide_eq_false h, Bool.false_or]
theorem link_of {l : List api_Certificate} {c e : api_Certificate} (hel : l[l.length - 1]? = some e) (h1 : 1 ≤ l.length) (h11 : failS 11 (l ++ [c]) = false) (hs : sealS e c.KeyId = true) : linkS l c = true := by
  unfold linkS
  rw [hel]
  have h2 : e.Seal.Key = c.KeyId := by
    unfold sealS at hs
    simp only [Bool.and_eq_true] at hs
    exact of_decide_eq_true hs.2.1
  have h3 : e.Issuer = c.Subject := by
    refine Decidable.byContradiction fun hne => ?_
    have : failS 11 (l ++ [c]) = true := by
      unfold failS
      refine any_range.2 ⟨l.length - 1, by simp; omega, ?_⟩
      unfold placeB
      rw [if_pos rfl]
      unfold issB
      rw [app_at (by omega), hel, show l.length - 1 + 1 = l.length by omega, List.getElem?_append_right (Nat.le_refl _), Nat.sub_self]
      simp [hne]
    rw [this] at h11
    cases h11
  dsimp only
  rw [decide_eq_true h2, decide_eq_true h3]; rfl
theorem seals_of {l : List api_Certificate} {c e : api_Certificate} (hel : l[l.length - 1]? = some e) (h1 : 1 ≤ l.length) (hs : sealS e c.KeyId = false) : sealsB (l ++ [c]) = true := by
  unfold sealsB
  refine any_range.2 ⟨l.length - 1, by simp; omega, ?_⟩
  unfold sealB keyS
  rw [app_at (by omega), hel, show l.length - 1 + 1 = l.length by omega, List.getElem?_append_right (Nat.le_refl _), Nat.sub_self]
  simp [hs]
theorem chain_find (hp : AllC s.pool) (hpl : s.pool.length ≤ 8) (ha : Lo s.anchors) (hh : Lo s.hashes) {n : Nat} {l : List api_Certificate} {used : List Bool} (hu : used.length = s.pool.length) (hn : l.length + n ≤ 8) (h1 : 1 ≤ l.length) (hl : AllC l) :
    Ok (g_chain_search_find s l used ((l.length + n : Nat) : Int)) (fun b => resF b = extS (accF s) s.pool n l (usedB used) ∧ b.2.2 = used) := by
  unfold g_chain_search_find
  refine (fixT_ok mono_chain_search_find (fun a => a.2.2.2.toNat - a.2.1.length) (PreF s) (PostF s) (fun rec a hPre ih => ?_) (s, l, used, ((l.length + n : Nat) : Int)) ⟨rfl, hu, n, rfl, hn, h1, hl⟩).mono fun b hb => by
    unfold PostF at hb
    have e : (((l.length + n : Nat) : Int)).toNat - l.length = n := by omega
    dsimp only at hb
    rw [e] at hb
    exact hb
  clear hu hn h1 hl l used n
  obtain ⟨s', l, used, len⟩ := a
  obtain ⟨rfl, hu, n, hlen, hn, h1, hl⟩ := hPre
  dsimp only at hu hlen hn h1 hl hp hpl ha hh ih ⊢
  subst hlen
  show Ok (g_chain_search_find.F _ s' l used ((l.length + n : Nat) : Int)) _
  unfold g_chain_search_find.F
  have hPost : ∀ b, PostF s' (s', l, used, ((l.length + n : Nat) : Int)) b ↔ (resF b = extS (accF s') s'.pool n l (usedB used) ∧ b.2.2 = used) := fun b => by
    unfold PostF
    dsimp only
    rw [show (((l.length + n : Nat) : Int)).toNat - l.length = n by omega]
  refine Ok.mono (Q := fun b => resF b = extS (accF s') s'.pool n l (usedB used) ∧ b.2.2 = used) ?_ fun b hb => (hPost b).2 hb
  refine Ok.cond (fun h0 => ?_) (fun h0 => ?_)
  · have h0 := of_decide_eq_true h0
    have : n = 0 := by omega
    subst this
    refine Ok.bindE (chain_Check l s'.anchors s'.hashes s'.day s'.name ha hh hl) (Ok.ret ⟨rfl, rfl⟩)
  have h0 := of_decide_eq_false h0
  obtain ⟨m, rfl⟩ : ∃ m, n = m + 1 := ⟨n - 1, by omega⟩
  refine Ok.loop (fun q => ∃ i : Nat, q = ((i : Int), used) ∧ i ≤ s'.pool.length ∧ extS (accF s') s'.pool (m + 1) l (usedB used) = firstO (fun i => match s'.pool[i]? with
    | some c => bif usedB used i || !linkS l c then none else extS (accF s') s'.pool m (l ++ [c]) (fun j => decide (j = i) || usedB used j)
    | none => none) i (s'.pool.length - i)) (fun q => s'.pool.length - q.1.toNat) ?_ ⟨0, rfl, Nat.zero_le _, rfl⟩
  rintro q ⟨i, rfl, hi, he⟩
  show Ok (g_chain_search_find.l1 _ s' l ((l.length + (m + 1) : Nat) : Int) (i : Int) used) _
  unfold g_chain_search_find.l1
  refine Ok.cond (fun hlt => ?_) (fun hlt => Ok.up (Ok.ret ?_))
  · have hlt : i < s'.pool.length := by have := of_decide_eq_true hlt; omega
    obtain ⟨c, hc⟩ : ∃ c, s'.pool[i]? = some c := ⟨_, List.getElem?_eq_getElem hlt⟩
    have hfc := hp c (List.mem_of_getElem? hc)
    have hgc : getI s'.pool (i : Int) = some c := getI_nat.trans hc
    rw [firstO_step hlt] at he
    rw [hc] at he
    dsimp only at he
    obtain ⟨e, hel⟩ : ∃ e, l[l.length - 1]? = some e := ⟨_, List.getElem?_eq_getElem (by omega)⟩
    have hge : getI l (W ((l.length : Int) - 1)) = some e := by
      rw [W_id (by omega), show ((l.length : Int) - 1) = ((l.length - 1 : Nat) : Int) by omega]
      exact getI_nat.trans hel
    have hfe : FitC e := hl e (List.mem_of_getElem? hel)
    obtain ⟨ub, hub⟩ : ∃ ub, used[i]? = some ub := ⟨_, List.getElem?_eq_getElem (by omega)⟩
    have hgu : getI used (i : Int) = some ub := getI_nat.trans hub
    have hui : usedB used i = ub := by unfold usedB; rw [hub]; rfl
    have hl' : AllC (l ++ [c]) := hl.app hfc
    have hlo : Lo (l ++ [c]) := lo8 (by simp; omega)
    rw [hui] at he
    have J4 : (bif ub || !linkS l c then none else extS (accF s') s'.pool m (l ++ [c]) (fun j => decide (j = i) || usedB used j)) = none → Ok (g_chain_search_find.j4 (i : Int) used) (Rd' (fun q => (∃ i : Nat, q = ((i : Int), used) ∧ i ≤ s'.pool.length ∧ extS (accF s') s'.pool (m + 1) l (usedB used) = firstO (fun i => match s'.pool[i]? with
    | some c => bif usedB used i || !linkS l c then none else extS (accF s') s'.pool m (l ++ [c]) (fun j => decide (j = i) || usedB used j)
    | none => none) i (s'.pool.length - i)) ∧ s'.pool.length - q.1.toNat < s'.pool.length - (i : Int).toNat) (fun b => resF b = extS (accF s') s'.pool (m + 1) l (usedB used) ∧ b.2.2 = used)) := fun hnone => by
      unfold g_chain_search_find.j4
      refine Ok.ret ⟨⟨i + 1, by rw [W_succ (by omega)], hlt, ?_⟩, ?_⟩
      · rw [hnone] at he; exact he
      · dsimp only; rw [W_succ (by omega)]; omega
    have bad : (failS 11 (l ++ [c]) || (failS 15 (l ++ [c]) || sealsB (l ++ [c]))) = true → (bif ub || !linkS l c then none else extS (accF s') s'.pool m (l ++ [c]) (fun j => decide (j = i) || usedB used j)) = none := fun hb => by
      rw [extS_bad bad_all m (l ++ [c]) _ hb]
      cases (ub || !linkS l c) <;> rfl
    refine Ok.bindE hgc (Ok.bindE hgu ?_)
    refine Ok.cond (fun hb => J4 (by rw [hb]; rfl)) (fun hb => ?_)
    subst hb
    refine Ok.bind (appI_ok' (by simp; omega)) fun l2 hl2 => ?_
    subst hl2
    -- the two errors
    have B0 : g_chain_search_find.l2 (fun s l used length => rec (s, l, used, length)) s' l ((l.length + (m + 1) : Nat) : Int) (i : Int) used c (l ++ [c]) 0 = cond (failS 11 (l ++ [c])) (up (g_chain_search_find.j4 (i : Int) used)) (some (.next 1)) := by
      unfold g_chain_search_find.l2
      rw [decide_eq_true (by decide), cond_true, show getI ([11, 15] : List Int) 0 = some 11 from rfl, Option.bind_some, chain_fails _ _ hlo hl', Option.bind_some]
      rfl
    have B1 : g_chain_search_find.l2 (fun s l used length => rec (s, l, used, length)) s' l ((l.length + (m + 1) : Nat) : Int) (i : Int) used c (l ++ [c]) 1 = cond (failS 15 (l ++ [c])) (up (g_chain_search_find.j4 (i : Int) used)) (some (.next 2)) := by
      unfold g_chain_search_find.l2
      rw [decide_eq_true (by decide), cond_true, show getI ([11, 15] : List Int) 1 = some 15 from rfl, Option.bind_some, chain_fails _ _ hlo hl', Option.bind_some]
      rfl
    cases h11 : failS 11 (l ++ [c]) with
    | true =>
      rw [h11, cond_true] at B0
      rw [loop_up B0]
      exact J4 (bad (by rw [h11]; rfl))
    | false =>
      rw [h11, cond_false] at B0
      rw [loop_next B0]
      cases h15 : failS 15 (l ++ [c]) with
      | true =>
        rw [h15, cond_true] at B1
        rw [loop_up B1]
        exact J4 (bad (by rw [h15]; simp))
      | false =>
        rw [h15, cond_false] at B1
        rw [loop_next B1]
        refine upTo_ok (x := (getI l (W ((l.length : Int) - 1))).bind fun e_4 => (g_certificate_Sealed e_4 c.KeyId).bind fun y_3 => cond (!y_3) (g_chain_search_find.j4 (i : Int) used) ((rec (s', l ++ [c], setI used i true, ((l.length + (m + 1) : Nat) : Int))).bind fun y_4 => (getI y_4.2.2 (i : Int)).bind fun e_5 => cond (y_4.2.1) (up (some (y_4.1, true, setI y_4.2.2 i false))) (g_chain_search_find.j4 (i : Int) (setI y_4.2.2 i false)))) (by
          show g_chain_search_find.l2 _ _ _ _ _ _ _ _ 2 = _
          unfold g_chain_search_find.l2
          rw [decide_eq_false (by decide), cond_false]
          rfl) ?_
        refine Ok.bindE hge (Ok.bindE (cat_Sealed e hfe _) ?_)
        cases hs : sealS e c.KeyId with
        | false => exact J4 (bad (by rw [seals_of hel h1 hs]; simp))
        | true =>
          rw [Bool.not_true, cond_false]
          have hlk := link_of hel h1 h11 hs
          rw [hlk] at he J4
          simp only [Bool.not_true, Bool.or_false, cond_false] at he J4
          obtain ⟨y, hy, hy1⟩ := ih (s', l ++ [c], setI used i true, ((l.length + (m + 1) : Nat) : Int)) ⟨rfl, by rw [← hu]; unfold setI; rw [List.length_set], m, by simp; omega, by simp; omega, by simp, hl'⟩ (by simp; omega)
          unfold PostF at hy1
          dsimp only at hy1
          rw [show (((l.length + (m + 1) : Nat) : Int)).toNat - (l ++ [c]).length = m by simp; omega, extS_u (v := fun j => decide (j = i) || usedB used j) m (l ++ [c]) (fun j hj => used_set (by omega))] at hy1
          refine Ok.bindE hy (Ok.bindE (a := true) ?_ ?_)
          · rw [hy1.2, getI_nat]
            unfold setI; rw [List.getElem?_set_self (by omega)]
          rw [hy1.2, set_back hub]
          have h2 := hy1.1
          unfold resF at h2
          refine Ok.cond (fun hy2 => Ok.up (Ok.ret ?_)) (fun hy2 => ?_)
          · rw [hy2, cond_true] at h2
            rw [← h2] at he
            rw [he]
            exact ⟨rfl, rfl⟩
          · rw [hy2, cond_false] at h2
            exact J4 h2.symm
  · have hlt : ¬ i < s'.pool.length := by have := of_decide_eq_false hlt; omega
    rw [show s'.pool.length - i = 0 by omega] at he
    rw [he]; exact ⟨rfl, rfl⟩
end
end Go.Proofs.Ytggimglopfdhiaa
