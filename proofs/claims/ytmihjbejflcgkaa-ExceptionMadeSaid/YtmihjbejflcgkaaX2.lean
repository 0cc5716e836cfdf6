/- Exceptions: signing, validity. No program is in sight here. -/
import Derived.Test.YtmihjbejflcgkaaX1
import Derived.Test.YtmihjbejflcgkaaSEapi_Seal
import Derived.Test.YtmihjbejflcgkaaK2
set_option linter.unusedVariables false
set_option linter.unusedSimpArgs false
namespace Go.Proofs.Ytmihjbejflcgkaa
open Go
theorem slI_v {α : Type} {l : List α} {a b : Int} (h : 0 ≤ a ∧ a ≤ b ∧ b ≤ l.length) : slI l a b = some ((l.drop a.toNat).take (b.toNat - a.toNat)) := if_pos h
theorem index_seal (s : List api_Seal) (k : Int) (h : Lo s) : g_slices_IndexFunc_api_Seal s (fun x0 => g_exception_Sign_c1 x0 k) = some (firstS s fun e => decide (e.Key = k)) := by
  unfold g_slices_IndexFunc_api_Seal
  refine loop_first s _ h (fun i x hx => ?_) ?_
  · show g_slices_IndexFunc_api_Seal.l1 s _ (i : Int) = _
    unfold g_slices_IndexFunc_api_Seal.l1
    rw [for_in hx]
    unfold g_exception_Sign_c1
    rw [Option.bind_some]
    cases decide (x.Key = k) <;> rfl
  · show g_slices_IndexFunc_api_Seal.l1 s _ (s.length : Int) = _
    unfold g_slices_IndexFunc_api_Seal.l1
    rw [for_out]; rfl
def kp (k : Int) (e : api_Seal) : Bool := !decide (e.Key = k)
theorem del_ok (s : List api_Seal) (k : Int) (h : s.length < 100000) : Ok (g_slices_DeleteFunc_api_Seal s (fun x0 => g_exception_Sign_c1 x0 k)) (fun r => r = s.filter (kp k)) := by
  unfold g_slices_DeleteFunc_api_Seal
  rw [index_seal s k (by unfold Lo; omega), Option.bind_some]
  unfold firstS
  cases hf : s.findIdx? (fun e => decide (e.Key = k)) with
  | none =>
    have hn := List.findIdx?_eq_none_iff.1 hf
    refine ⟨s, rfl, ?_⟩
    rw [List.filter_eq_self.2]
    intro a ha
    unfold kp
    rw [hn a ha]; rfl
  | some i0 =>
    obtain ⟨hi0, hp0, hlt0⟩ := List.findIdx?_eq_some_iff_getElem.1 hf
    show Ok (cond (decide ((i0 : Int) = -1)) _ _) _
    rw [decide_eq_false (by omega), cond_false, W_id (x := (i0 : Int) + 1) (by omega)]
    have h0 : s.take i0 = (s.take (i0 + 1)).filter (kp k) := by
      rw [List.take_succ_eq_append_getElem hi0, List.filter_append, List.filter_eq_self.2 (fun a ha => ?_)]
      · have : kp k s[i0] = false := by unfold kp; rw [hp0]; rfl
        rw [List.filter_cons_of_neg (by rw [this]; decide)]
        simp
      · obtain ⟨q, hq, rfl⟩ := List.getElem_of_mem ha
        rw [List.length_take] at hq
        rw [List.getElem_take]
        have := hlt0 q (by omega)
        unfold kp
        simp only [Bool.not_eq_true] at this
        rw [this]; rfl
    refine Ok.loop (fun st : Int × Int × List api_Seal => ∃ i j : Nat, st.1 = (i : Int) ∧ st.2.1 = (j : Int) ∧ i < j ∧ j ≤ s.length ∧ st.2.2.length = s.length ∧ st.2.2.take i = (s.take j).filter (kp k) ∧ st.2.2.drop j = s.drop j) (fun st => s.length - st.2.1.toNat) ?_ ⟨i0, i0 + 1, rfl, by show (i0 : Int) + 1 = _; omega, by omega, hi0, rfl, h0, rfl⟩
    rintro ⟨_, _, t⟩ ⟨i, j, rfl, rfl, hij, hj, hlen, htk, hdr⟩
    dsimp only at hlen htk hdr
    show Ok (g_slices_DeleteFunc_api_Seal.l1 _ (i : Int) (j : Int) t) _
    unfold g_slices_DeleteFunc_api_Seal.l1
    refine Ok.cond (fun hb => ?_) (fun hb => ?_)
    · have hjl : j < s.length := by have := of_decide_eq_true hb; omega
      obtain ⟨e, he⟩ : ∃ e, s[j]? = some e := ⟨_, List.getElem?_eq_getElem hjl⟩
      have hte : t[j]? = some e := by
        have := congrArg (fun l => l[0]?) hdr
        simpa [he] using this
      have hdr1 : t.drop (j + 1) = s.drop (j + 1) := by
        have := congrArg (List.drop 1) hdr
        rwa [List.drop_drop, List.drop_drop] at this
      obtain ⟨q, hq⟩ : ∃ q, t[i]? = some q := ⟨_, List.getElem?_eq_getElem (by omega)⟩
      rw [getI_nat, hte, Option.bind_some]
      unfold g_exception_Sign_c1 g_slices_DeleteFunc_api_Seal.j2
      rw [Option.bind_some, W_id (x := (j : Int) + 1) (by omega)]
      cases hd : decide (e.Key = k) with
      | false =>
        rw [Bool.not_false, cond_true, getI_nat, hq, Option.bind_some, W_id (x := (i : Int) + 1) (by omega)]
        refine Ok.ret ⟨⟨i + 1, j + 1, by show (i : Int) + 1 = _; omega, by show (j : Int) + 1 = _; omega, by omega, hjl, ?_, ?_, ?_⟩, by show s.length - ((j : Int) + 1).toNat < s.length - ((j : Int)).toNat; omega⟩
        · show (setI t _ e).length = _
          unfold setI
          rw [List.length_set]; exact hlen
        · show (setI t (i : Int).toNat e).take (i + 1) = _
          unfold setI
          rw [Int.toNat_natCast, List.set_eq_take_append_cons_drop, if_pos (by omega), take_succ' he, List.filter_append, ← htk]
          have hl : (t.take i).length = i := by rw [List.length_take]; omega
          have : kp k e = true := by unfold kp; rw [hd]; rfl
          rw [List.filter_cons_of_pos this, List.filter_nil]
          have e2 : (t.take i ++ e :: t.drop (i + 1)).take (i + 1) = t.take i ++ (e :: t.drop (i + 1)).take 1 := by
            have := List.take_length_add_append (l₁ := t.take i) (l₂ := e :: t.drop (i + 1)) 1
            rwa [hl] at this
          rw [e2]; rfl
        · show (setI t (i : Int).toNat e).drop (j + 1) = _
          unfold setI
          rw [Int.toNat_natCast, List.drop_set_of_lt (by omega)]; exact hdr1
      | true =>
        rw [Bool.not_true, cond_false]
        refine Ok.ret ⟨⟨i, j + 1, rfl, by show (j : Int) + 1 = _; omega, by omega, hjl, hlen, ?_, hdr1⟩, by show s.length - ((j : Int) + 1).toNat < s.length - ((j : Int)).toNat; omega⟩
        show t.take i = _
        have : kp k e = false := by unfold kp; rw [hd]; rfl
        rw [take_succ' he, List.filter_append, List.filter_cons_of_neg (by rw [this]; decide), List.filter_nil, List.append_nil]
        exact htk
    · have hjl : j = s.length := by have := of_decide_eq_false hb; omega
      subst hjl
      rw [List.take_length] at htk
      refine Ok.up ?_
      rw [slI_v (by omega), Option.bind_some]
      unfold clrI
      rw [if_pos (by omega), Option.bind_some, slI_v (by simp; omega), Option.bind_some]
      refine Ok.ret ?_
      show ((t.take i ++ _) ++ _).take (i - 0) = _
      have hl : (t.take i).length = i := by rw [List.length_take]; omega
      rw [Nat.sub_zero, List.append_assoc, List.take_append_of_le_length (by omega), List.take_of_length_le (by omega)]
      exact htk
theorem clone_seal (s : List api_Seal) (h : s.length < 1000000) : g_slices_Clone_api_Seal s = some s := by
  have e : ∀ b, g_slices_Clone_api_Seal.j1 s b = some (bif b then [] else s) := fun b => by
    unfold g_slices_Clone_api_Seal.j1
    cases b with
    | true => rfl
    | false => rw [cond_false, appI_ok (by simp; omega)]; rfl
  unfold g_slices_Clone_api_Seal
  rw [e, e]
  unfold nilC
  cases s with
  | nil => rw [if_pos rfl]; exact if_pos rfl
  | cons x s => rw [if_neg (by simp)]; rfl
def web : ByteArray := ⟨#[119, 101, 98]⟩
structure BaseX (x : api_Exception) : Prop where
  use : decide (0 < strS x.Use) = true
  pur : x.Purpose = 1
  nam : x.Endpoint = web
  day : x.Days.From = 3 ∧ 3 < x.Days.To ∧ x.Days.To ≤ 1000
def AscK (S : List api_Seal) : Prop := S.Pairwise fun a b => a.Key < b.Key
theorem check_exc {x : api_Exception} (h : BaseX x) (hl : x.Seals.length ≤ 8) (hs : ∀ s ∈ x.Seals, (0 ≤ s.Key ∧ s.Key ≤ 1000) ∧ 0 ≤ s.Sum ∧ s.Sum < 4294967296) (ha : AscK x.Seals) : g_exception_Check x = some 0 := by
  obtain ⟨d1, d2, d3⟩ := h.day
  unfold g_exception_Check
  rw [cat_Valid, h.use, Option.bind_some, Bool.not_true, cond_false, decide_eq_false (by rw [h.pur]; omega), cond_false, decide_eq_false (by rw [h.pur]; omega), cond_false, h.nam, cat_Named _ (by decide), Option.bind_some, show nameS web = true by decide +kernel, Bool.not_true]
  unfold g_exception_Check.j1
  rw [cond_false, decide_eq_false (by omega), cond_false, decide_eq_false (by omega), cond_false, decide_eq_false (by omega), cond_false, decide_eq_false (by omega)]
  unfold g_exception_Check.j2
  rw [cond_false]
  refine (loop_has x.Seals (fun _ => false) (26 : Int) (0 : Int) (by unfold Lo; omega) (fun i s hx => ?_) ?_).trans ?_
  · show g_exception_Check.l3 x (i : Int) = _
    obtain ⟨⟨k1, k2⟩, s1, s2⟩ := hs s (at_mem hx)
    have hi := at_lt hx
    unfold g_exception_Check.l3
    have hk : g_certificate_Key s.Key = some true := by
      unfold g_certificate_Key
      rw [decide_eq_true k1, cond_true, decide_eq_true (by omega)]
    rw [for_in hx, hk, Option.bind_some, Bool.not_true, cond_false, decide_eq_false (by omega), cond_false, decide_eq_false (by omega), cond_false]
    cases i with
    | zero => rfl
    | succ i =>
      obtain ⟨q, hq⟩ : ∃ q, x.Seals[i]? = some q := ⟨_, List.getElem?_eq_getElem (by omega)⟩
      have hlt : q.Key < s.Key := by
        have h1 := List.pairwise_iff_getElem.1 ha i (i + 1) (by omega) hi (by omega)
        rw [List.getElem?_eq_getElem (by omega)] at hq hx
        injection hq with hq
        injection hx with hx
        rw [hq, hx] at h1
        exact h1
      rw [decide_eq_true (by omega), cond_true, W_id (by omega), show ((i + 1 : Nat) : Int) - 1 = (i : Int) by omega, getI_nat, hq, Option.bind_some, decide_eq_false (by omega)]
      rfl
  · show g_exception_Check.l3 x (x.Seals.length : Int) = _
    unfold g_exception_Check.l3
    rw [for_out]; rfl
  · have : x.Seals.any (fun _ => false) = false := by simp
    rw [this]; rfl
structure SealsOK (sg : Int) (S : List api_Seal) : Prop where
  all : ∀ s ∈ S, s.Sum = sg ∧ 50 ≤ s.Key ∧ s.Key ≤ 54
  asc : AscK S
theorem asc_len : ∀ (S : List api_Seal) (a b : Int), (∀ s ∈ S, a ≤ s.Key ∧ s.Key ≤ b) → AscK S → (S.length : Int) ≤ max 0 (b - a + 1)
  | [], a, b, _, _ => by simp; omega
  | s :: S, a, b, h, hp => by
    have h1 := h s (List.mem_cons_self ..)
    obtain ⟨p1, p2⟩ := List.pairwise_cons.1 hp
    have := asc_len S (s.Key + 1) b (fun q hq => ⟨by have := p1 q hq; omega, (h q (List.mem_cons_of_mem _ hq)).2⟩) p2
    rw [List.length_cons]
    omega
theorem SealsOK.len {sg : Int} {S : List api_Seal} (h : SealsOK sg S) : S.length ≤ 5 := by
  have := asc_len S 50 54 (fun s hs => (h.all s hs).2) h.asc
  omega
theorem SealsOK.check {x : api_Exception} {b : List UInt8} (hx : BaseX x) (h : SealsOK (sumS b) x.Seals) : g_exception_Check x = some 0 := by
  have := h.len
  have hr := sumS_range b
  refine check_exc hx (by omega) (fun s hs => ?_) h.asc
  obtain ⟨q1, q2, q3⟩ := h.all s hs
  rw [q1]
  exact ⟨by omega, hr⟩
def ltK (a b : api_Seal) : Bool := decide (a.Key < b.Key)
theorem swoK : Sort.SWO ltK where
  irrefl a := decide_eq_false (by omega)
  trans a b c h1 h2 := decide_eq_true (by have := of_decide_eq_true h1; have := of_decide_eq_true h2; omega)
  ntrans a b c h1 h2 := decide_eq_false (by have := of_decide_eq_false h1; have := of_decide_eq_false h2; omega)
theorem cmpK : CmpOk_api_Seal (fun x0 x1 => g_exception_Sign_c2 x0 x1) ltK (fun s => 0 ≤ s.Key ∧ s.Key ≤ 1000) := fun x y hx hy => by
  refine ⟨x.Key - y.Key, ?_, ?_⟩
  · show some (W (x.Key - y.Key)) = _
    rw [W_id (by omega)]
  · unfold ltK
    by_cases h : x.Key < y.Key
    · rw [decide_eq_true h, decide_eq_true (by omega)]
    · rw [decide_eq_false h, decide_eq_false (by omega)]
theorem sign_ok {x : api_Exception} (hx : BaseX x) (h : SealsOK (sumS (excB x)) x.Seals) {k : Int} (hk : 50 ≤ k ∧ k ≤ 54) : Ok (g_exception_Sign x k) (fun y => y.2 = 0 ∧ ∃ S, y.1 = ⟨x.Use, x.Purpose, x.Endpoint, x.Days, S⟩ ∧ SealsOK (sumS (excB x)) S ∧ ∀ q, (∃ s ∈ S, s.Key = q) ↔ q = k ∨ ∃ s ∈ x.Seals, s.Key = q) := by
  have hlen := h.len
  have hsz : x.Endpoint.size ≤ 32 := by rw [hx.nam]; decide
  have hkey : g_certificate_Key k = some true := by
    unfold g_certificate_Key
    rw [decide_eq_true (by omega), cond_true, decide_eq_true (by omega)]
  unfold g_exception_Sign
  rw [exc_bytes (h.check hx) hsz, Option.bind_some, decide_eq_true rfl, Bool.not_true, cond_false, hkey, Option.bind_some, Bool.not_true, cond_false, clone_seal _ (by omega), Option.bind_some]
  refine Ok.bind (del_ok x.Seals k (by omega)) fun D hD => ?_
  have hDl : D.length ≤ x.Seals.length := by rw [hD]; exact List.length_filter_le _ _
  have hDm : ∀ s, s ∈ D ↔ s ∈ x.Seals ∧ s.Key ≠ k := fun s => by
    rw [hD, List.mem_filter]
    unfold kp
    simp
  have hDa : AscK D := by rw [hD]; exact h.asc.sublist List.filter_sublist
  have hblen := exc_len hsz
  rw [decide_eq_false (by omega), cond_false, cat_Sum (excB x) (by unfold Lo; omega), Option.bind_some]
  refine Ok.bind (appI_ok' (by rw [List.length_singleton]; omega)) fun L hL => ?_
  have hLm : ∀ s, s ∈ L ↔ s ∈ D ∨ s = ⟨k, sumS (excB x)⟩ := fun s => by rw [hL, List.mem_append, List.mem_singleton]
  have hLk : ∀ s ∈ L, s.Sum = sumS (excB x) ∧ 50 ≤ s.Key ∧ s.Key ≤ 54 := fun s hs => by
    rcases (hLm s).1 hs with h1 | rfl
    · exact h.all s ((hDm s).1 h1).1
    · exact ⟨rfl, hk⟩
  refine Ok.bind (sortC_api_Seal swoK cmpK L (by rw [hL, List.length_append, List.length_singleton]; unfold cap_api_Seal; omega) (fun s hs => by have := (hLk s hs).2; omega)) fun R hR => ?_
  obtain ⟨hp, hr⟩ := hR
  have hmem : ∀ s, s ∈ R ↔ s ∈ L := fun s => hp.mem_iff
  have hLne : L.Pairwise fun a b => a.Key ≠ b.Key := by
    rw [hL]
    refine List.pairwise_append.2 ⟨hDa.imp fun hab => by omega, List.pairwise_singleton _ _, fun a ha b hb => ?_⟩
    rw [List.mem_singleton.1 hb]
    exact ((hDm a).1 ha).2
  have hRne : R.Pairwise fun a b => a.Key ≠ b.Key := (hp.symm.pairwise_iff (fun hab => fun e => hab e.symm)).1 hLne
  refine Ok.ret ⟨rfl, R, rfl, ⟨fun s hs => hLk s ((hmem s).1 hs), ?_⟩, fun q => ?_⟩
  · refine (hr.and hRne).imp fun {a b} hab => ?_
    have := of_decide_eq_false hab.1
    have := hab.2
    omega
  · constructor
    · rintro ⟨s, hs, rfl⟩
      rcases (hLm s).1 ((hmem s).1 hs) with h1 | rfl
      · exact .inr ⟨s, ((hDm s).1 h1).1, rfl⟩
      · exact .inl rfl
    · rintro (rfl | ⟨s, hs, rfl⟩)
      · exact ⟨_, (hmem _).2 ((hLm _).2 (.inr rfl)), rfl⟩
      · by_cases e : s.Key = k
        · exact ⟨_, (hmem _).2 ((hLm _).2 (.inr rfl)), e.symm⟩
        · exact ⟨s, (hmem _).2 ((hLm _).2 (.inl ((hDm s).2 ⟨hs, e⟩))), rfl⟩
end Go.Proofs.Ytmihjbejflcgkaa
