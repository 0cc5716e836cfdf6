/- Plain texts, joined. No program is in sight here. -/
import Derived.Test.YtmbhoimeiahbaaaGreatS0
import Derived.Test.YtmbhoimeiahbaaaGreatD7
import Derived.Test.YtmbhoimeiahbaaaGreatM0
import Derived.Test.YtmbhoimeiahbaaaGreatSEapi_Seal
import Derived.Test.YtmbhoimeiahbaaaGreatK6
set_option linter.unusedVariables false
set_option linter.unusedSimpArgs false
set_option maxRecDepth 100000
namespace Go.Proofs.YtmbhoimeiahbaaaGreat
section
open Go
theorem lenB_3le {n : Nat} (h : n < 65536) : (lenB n).length ≤ 3 := by
  by_cases h1 : n < 128
  · rw [lenB_1 h1]; simp
  · by_cases h2 : n < 256
    · rw [lenB_2 (by omega) h2]; simp
    · rw [lenB_3 (by omega) h]; simp
mutual
theorem put_le4 : ∀ v : api_Value, v.sz < 16000 → v.put.length ≤ 4 * v.sz
  | .mk t b n es, h => by
    rw [api_Value.sz] at h ⊢
    have h1 := putAll_le4 es (by omega)
    rw [api_Value.put]
    cases n
    · have h2 := lenB_3le (n := b.length) (by omega)
      simp; omega
    · have h2 := lenB_3le (n := (putAll es).length) (by omega)
      simp; omega
theorem putAll_le4 : ∀ es : List api_Value, szs es < 16000 → (putAll es).length ≤ 4 * szs es
  | [], _ => by simp [putAll]
  | v :: vs, h => by
    rw [szs] at h ⊢
    have h1 := put_le4 v (by omega)
    have h2 := putAll_le4 vs (by omega)
    rw [putAll, List.length_append]; omega
end
theorem int_formed (n : Int) : (intV n).formed = true := by rw [formed_eq]; rfl
theorem text_formed (s : ByteArray) : (textV s).formed = true := by rw [formed_eq]; rfl
theorem list_formed (l : List api_Value) : (listV l).formed = formedAll l := by rw [formed_eq]; rfl
theorem int_depth (n : Int) : (intV n).depth = 1 := by rw [depth_eq]; rfl
theorem text_depth (s : ByteArray) : (textV s).depth = 1 := by rw [depth_eq]; rfl
theorem list_depth (l : List api_Value) : (listV l).depth = depthAll l + 1 := by rw [depth_eq]; rfl
theorem encS_fit {v : api_Value} (h1 : v.formed = true) (h2 : v.depth ≤ 16) (h3 : v.sz ≤ 1024) : encS v = (v.put, 0) := by
  have := put_le4 v (by omega)
  unfold encS
  rw [if_pos h1, if_neg (by omega), if_neg (by omega)]
def excL (x : api_Exception) : List api_Value := [intV x.Use.Alg, intV x.Use.Bits, intV x.Purpose, textV x.Endpoint, intV x.Days.From, intV x.Days.To]
def excB (x : api_Exception) : List UInt8 := (listV (excL x)).put
theorem exc_szs {x : api_Exception} (h : x.Endpoint.size ≤ 32) : szs (excL x) ≤ 100 := by
  have h1 := intV_sz x.Use.Alg
  have h2 := intV_sz x.Use.Bits
  have h3 := intV_sz x.Purpose
  have h4 := text_sz x.Endpoint
  have h5 := intV_sz x.Days.From
  have h6 := intV_sz x.Days.To
  unfold excL
  simp only [szs]
  omega
theorem exc_enc {x : api_Exception} (h : x.Endpoint.size ≤ 32) : g_der_Encode (listV (excL x)) = some (excB x, 0) := by
  have hs := exc_szs h
  have hz := list_sz (excL x)
  rw [der_Encode _ (by omega), encS_fit ?_ ?_ (by omega)]
  · rfl
  · rw [list_formed]
    unfold excL
    simp only [formedAll, int_formed, text_formed, Bool.and_self]
  · rw [list_depth]
    unfold excL
    simp only [depthAll, int_depth, text_depth]
    omega
theorem exc_bytes {x : api_Exception} (hc : g_exception_Check x = some 0) (h : x.Endpoint.size ≤ 32) : g_exception_Bytes x = some (excB x, 0) := by
  have hs := exc_szs h
  unfold g_exception_Bytes
  rw [hc, Option.bind_some, decide_eq_true rfl, Bool.not_true, cond_false, der_Int, Option.bind_some, der_Int, Option.bind_some, der_Int, Option.bind_some, show g_der_Text x.Endpoint = some (textV x.Endpoint) from rfl, Option.bind_some, der_Int, Option.bind_some, der_Int, Option.bind_some]
  show ((g_der_Of (excL x)).bind _) = _
  rw [der_Of _ (by omega), Option.bind_some]
  show (g_der_Encode (listV (excL x))).bind _ = _
  rw [exc_enc h]
  rfl
theorem exc_len {x : api_Exception} (h : x.Endpoint.size ≤ 32) : (excB x).length ≤ 1000 := by
  have hs := exc_szs h
  have hz := list_sz (excL x)
  have := put_le4 (listV (excL x)) (by omega)
  unfold excB
  omega
end
section
open Go
theorem slI_v {α : Type} {l : List α} {a b : Int} (h : 0 ≤ a ∧ a ≤ b ∧ b ≤ l.length) : slI l a b = some ((l.drop a.toNat).take (b.toNat - a.toNat)) := if_pos h
theorem index_seal (s : List api_Seal) (k : Int) (h : Lo s) : g_slices_IndexFunc_api_Seal s (fun x0 => g_exception_Sign_c1 x0 k) = some (firstS s fun e => decide (e.Key = k)) := by
  unfold g_slices_IndexFunc_api_Seal
  refine loop_first s _ h (fun i x hx => ?_) ?_
  · show g_slices_IndexFunc_api_Seal.l1 s _ (i : Int) = _
    unfold g_slices_IndexFunc_api_Seal.l1
    rw [for_in hx]
    unfold g_exception_Sign_c1
    rw [Option.bind_some]
    cases decide (x.Key = k) <;> rfl
  · show g_slices_IndexFunc_api_Seal.l1 s _ (s.length : Int) = _
    unfold g_slices_IndexFunc_api_Seal.l1
    rw [for_out]; rfl
def kp (k : Int) (e : api_Seal) : Bool := !decide (e.Key = k)
theorem del_ok (s : List api_Seal) (k : Int) (h : s.length < 100000) : Ok (g_slices_DeleteFunc_api_Seal s (fun x0 => g_exception_Sign_c1 x0 k)) (fun r => r = s.filter (kp k)) := by
  unfold g_slices_DeleteFunc_api_Seal
  rw [index_seal s k (by unfold Lo; omega), Option.bind_some]
  unfold firstS
  cases hf : s.findIdx? (fun e => decide (e.Key = k)) with
  | none =>
    have hn := List.findIdx?_eq_none_iff.1 hf
    refine ⟨s, rfl, ?_⟩
    rw [List.filter_eq_self.2]
    intro a ha
    unfold kp
    rw [hn a ha]; rfl
  | some i0 =>
    obtain ⟨hi0, hp0, hlt0⟩ := List.findIdx?_eq_some_iff_getElem.1 hf
    show Ok (cond (decide ((i0 : Int) = -1)) _ _) _
    rw [decide_eq_false (by omega), cond_false, W_id (x := (i0 : Int) + 1) (by omega)]
    have h0 : s.take i0 = (s.take (i0 + 1)).filter (kp k) := by
      rw [List.take_succ_eq_append_getElem hi0, List.filter_append, List.filter_eq_self.2 (fun a ha => ?_)]
      · have : kp k s[i0] = false := by unfold kp; rw [hp0]; rfl
        rw [List.filter_cons_of_neg (by rw [this]; decide)]
        simp
      · obtain ⟨q, hq, rfl⟩ := List.getElem_of_mem ha
        rw [List.length_take] at hq
        rw [List.getElem_take]
        have := hlt0 q (by omega)
        unfold kp
        simp only [Bool.not_eq_true] at this
        rw [this]; rfl
    refine Ok.loop (fun st : Int × Int × List api_Seal => ∃ i j : Nat, st.1 = (i : Int) ∧ st.2.1 = (j : Int) ∧ i < j ∧ j ≤ s.length ∧ st.2.2.length = s.length ∧ st.2.2.take i = (s.take j).filter (kp k) ∧ st.2.2.drop j = s.drop j) (fun st => s.length - st.2.1.toNat) ?_ ⟨i0, i0 + 1, rfl, by show (i0 : Int) + 1 = _; omega, by omega, hi0, rfl, h0, rfl⟩
    rintro ⟨_, _, t⟩ ⟨i, j, rfl, rfl, hij, hj, hlen, htk, hdr⟩
    dsimp only at hlen htk hdr
    show Ok (g_slices_DeleteFunc_api_Seal.l1 _ (i : Int) (j : Int) t) _
    unfold g_slices_DeleteFunc_api_Seal.l1
    refine Ok.cond (fun hb => ?_) (fun hb => ?_)
    · have hjl : j < s.length := by have := of_decide_eq_true hb; omega
      obtain ⟨e, he⟩ : ∃ e, s[j]? = some e := ⟨_, List.getElem?_eq_getElem hjl⟩
      have hte : t[j]? = some e := by
        have := congrArg (fun l => l[0]?) hdr
        simpa [he] using this
      have hdr1 : t.drop (j + 1) = s.drop (j + 1) := by
        have := congrArg (List.drop 1) hdr
        rwa [List.drop_drop, List.drop_drop] at this
      obtain ⟨q, hq⟩ : ∃ q, t[i]? = some q := ⟨_, List.getElem?_eq_getElem (by omega)⟩
      rw [getI_nat, hte, Option.bind_some]
      unfold g_exception_Sign_c1 g_slices_DeleteFunc_api_Seal.j2
      rw [Option.bind_some, W_id (x := (j : Int) + 1) (by omega)]
      cases hd : decide (e.Key = k) with
      | false =>
        rw [Bool.not_false, cond_true, getI_nat, hq, Option.bind_some, W_id (x := (i : Int) + 1) (by omega)]
        refine Ok.ret ⟨⟨i + 1, j + 1, by show (i : Int) + 1 = _; omega, by show (j : Int) + 1 = _; omega, by omega, hjl, ?_, ?_, ?_⟩, by show s.length - ((j : Int) + 1).toNat < s.length - ((j : Int)).toNat; omega⟩
        · show (setI t _ e).length = _
          unfold setI
          rw [List.length_set]; exact hlen
        · show (setI t (i : Int).toNat e).take (i + 1) = _
          unfold setI
          rw [Int.toNat_natCast, List.set_eq_take_append_cons_drop, if_pos (by omega), take_succ' he, List.filter_append, ← htk]
          have hl : (t.take i).length = i := by rw [List.length_take]; omega
          have : kp k e = true := by unfold kp; rw [hd]; rfl
          rw [List.filter_cons_of_pos this, List.filter_nil]
          have e2 : (t.take i ++ e :: t.drop (i + 1)).take (i + 1) = t.take i ++ (e :: t.drop (i + 1)).take 1 := by
            have := List.take_length_add_append (l₁ := t.take i) (l₂ := e :: t.drop (i + 1)) 1
            rwa [hl] at this
          rw [e2]; rfl
        · show (setI t (i : Int).toNat e).drop (j + 1) = _
          unfold setI
          rw [Int.toNat_natCast, List.drop_set_of_lt (by omega)]; exact hdr1
      | true =>
        rw [Bool.not_true, cond_false]
        refine Ok.ret ⟨⟨i, j + 1, rfl, by show (j : Int) + 1 = _; omega, by omega, hjl, hlen, ?_, hdr1⟩, by show s.length - ((j : Int) + 1).toNat < s.length - ((j : Int)).toNat; omega⟩
        show t.take i = _
        have : kp k e = false := by unfold kp; rw [hd]; rfl
        rw [take_succ' he, List.filter_append, List.filter_cons_of_neg (by rw [this]; decide), List.filter_nil, List.append_nil]
        exact htk
    · have hjl : j = s.length := by have := of_decide_eq_false hb; omega
      subst hjl
      rw [List.take_length] at htk
      refine Ok.up ?_
      rw [slI_v (by omega), Option.bind_some]
      unfold clrI
      rw [if_pos (by omega), Option.bind_some, slI_v (by simp; omega), Option.bind_some]
      refine Ok.ret ?_
      show ((t.take i ++ _) ++ _).take (i - 0) = _
      have hl : (t.take i).length = i := by rw [List.length_take]; omega
      rw [Nat.sub_zero, List.append_assoc, List.take_append_of_le_length (by omega), List.take_of_length_le (by omega)]
      exact htk
theorem clone_seal (s : List api_Seal) (h : s.length < 1000000) : g_slices_Clone_api_Seal s = some s := by
  have e : ∀ b, g_slices_Clone_api_Seal.j1 s b = some (bif b then [] else s) := fun b => by
    unfold g_slices_Clone_api_Seal.j1
    cases b with
    | true => rfl
    | false => rw [cond_false, appI_ok (by simp; omega)]; rfl
  unfold g_slices_Clone_api_Seal
  rw [e, e]
  unfold nilC
  cases s with
  | nil => rw [if_pos rfl]; exact if_pos rfl
  | cons x s => rw [if_neg (by simp)]; rfl
def web : ByteArray := ⟨#[119, 101, 98]⟩
structure BaseX (x : api_Exception) : Prop where
  use : decide (0 < strS x.Use) = true
  pur : x.Purpose = 1
  nam : x.Endpoint = web
  day : x.Days.From = 3 ∧ 3 < x.Days.To ∧ x.Days.To ≤ 1000
def AscK (S : List api_Seal) : Prop := S.Pairwise fun a b => a.Key < b.Key
theorem check_exc {x : api_Exception} (h : BaseX x) (hl : x.Seals.length ≤ 8) (hs : ∀ s ∈ x.Seals, (0 ≤ s.Key ∧ s.Key ≤ 1000) ∧ 0 ≤ s.Sum ∧ s.Sum < 4294967296) (ha : AscK x.Seals) : g_exception_Check x = some 0 := by
  obtain ⟨d1, d2, d3⟩ := h.day
  unfold g_exception_Check
  rw [cat_Valid, h.use, Option.bind_some, Bool.not_true, cond_false, decide_eq_false (by rw [h.pur]; omega), cond_false, decide_eq_false (by rw [h.pur]; omega), cond_false, h.nam, cat_Named _ (by decide), Option.bind_some, show nameS web = true by decide +kernel, Bool.not_true]
  unfold g_exception_Check.j1
  rw [cond_false, decide_eq_false (by omega), cond_false, decide_eq_false (by omega), cond_false, decide_eq_false (by omega), cond_false, decide_eq_false (by omega)]
  unfold g_exception_Check.j2
  rw [cond_false]
  refine (loop_has x.Seals (fun _ => false) (26 : Int) (0 : Int) (by unfold Lo; omega) (fun i s hx => ?_) ?_).trans ?_
  · show g_exception_Check.l3 x (i : Int) = _
    obtain ⟨⟨k1, k2⟩, s1, s2⟩ := hs s (at_mem hx)
    have hi := at_lt hx
    unfold g_exception_Check.l3
    have hk : g_certificate_Key s.Key = some true := by
      unfold g_certificate_Key
      rw [decide_eq_true k1, cond_true, decide_eq_true (by omega)]
    rw [for_in hx, hk, Option.bind_some, Bool.not_true, cond_false, decide_eq_false (by omega), cond_false, decide_eq_false (by omega), cond_false]
    cases i with
    | zero => rfl
    | succ i =>
      obtain ⟨q, hq⟩ : ∃ q, x.Seals[i]? = some q := ⟨_, List.getElem?_eq_getElem (by omega)⟩
      have hlt : q.Key < s.Key := by
        have h1 := List.pairwise_iff_getElem.1 ha i (i + 1) (by omega) hi (by omega)
        rw [List.getElem?_eq_getElem (by omega)] at hq hx
        injection hq with hq
        injection hx with hx
        rw [hq, hx] at h1
        exact h1
      rw [decide_eq_true (by omega), cond_true, W_id (by omega), show ((i + 1 : Nat) : Int) - 1 = (i : Int) by omega, getI_nat, hq, Option.bind_some, decide_eq_false (by omega)]
      rfl
  · show g_exception_Check.l3 x (x.Seals.length : Int) = _
    unfold g_exception_Check.l3
    rw [for_out]; rfl
  · have : x.Seals.any (fun _ => false) = false := by simp
    rw [this]; rfl
structure SealsOK (sg : Int) (S : List api_Seal) : Prop where
  all : ∀ s ∈ S, s.Sum = sg ∧ 50 ≤ s.Key ∧ s.Key ≤ 54
  asc : AscK S
theorem asc_len : ∀ (S : List api_Seal) (a b : Int), (∀ s ∈ S, a ≤ s.Key ∧ s.Key ≤ b) → AscK S → (S.length : Int) ≤ max 0 (b - a + 1)
  | [], a, b, _, _ => by simp; omega
  | s :: S, a, b, h, hp => by
    have h1 := h s (List.mem_cons_self ..)
    obtain ⟨p1, p2⟩ := List.pairwise_cons.1 hp
    have := asc_len S (s.Key + 1) b (fun q hq => ⟨by have := p1 q hq; omega, (h q (List.mem_cons_of_mem _ hq)).2⟩) p2
    rw [List.length_cons]
    omega
theorem SealsOK.len {sg : Int} {S : List api_Seal} (h : SealsOK sg S) : S.length ≤ 5 := by
  have := asc_len S 50 54 (fun s hs => (h.all s hs).2) h.asc
  omega
theorem SealsOK.check {x : api_Exception} {b : List UInt8} (hx : BaseX x) (h : SealsOK (sumS b) x.Seals) : g_exception_Check x = some 0 := by
  have := h.len
  have hr := sumS_range b
  refine check_exc hx (by omega) (fun s hs => ?_) h.asc
  obtain ⟨q1, q2, q3⟩ := h.all s hs
  rw [q1]
  exact ⟨by omega, hr⟩
def ltK (a b : api_Seal) : Bool := decide (a.Key < b.Key)
theorem swoK : Sort.SWO ltK where
  irrefl a := decide_eq_false (by omega)
  trans a b c h1 h2 := decide_eq_true (by have := of_decide_eq_true h1; have := of_decide_eq_true h2; omega)
  ntrans a b c h1 h2 := decide_eq_false (by have := of_decide_eq_false h1; have := of_decide_eq_false h2; omega)
theorem cmpK : CmpOk_api_Seal (fun x0 x1 => g_exception_Sign_c2 x0 x1) ltK (fun s => 0 ≤ s.Key ∧ s.Key ≤ 1000) := fun x y hx hy => by
  refine ⟨x.Key - y.Key, ?_, ?_⟩
  · show some (W (x.Key - y.Key)) = _
    rw [W_id (by omega)]
  · unfold ltK
    by_cases h : x.Key < y.Key
    · rw [decide_eq_true h, decide_eq_true (by omega)]
    · rw [decide_eq_false h, decide_eq_false (by omega)]
theorem sign_ok {x : api_Exception} (hx : BaseX x) (h : SealsOK (sumS (excB x)) x.Seals) {k : Int} (hk : 50 ≤ k ∧ k ≤ 54) : Ok (g_exception_Sign x k) (fun y => y.2 = 0 ∧ ∃ S, y.1 = ⟨x.Use, x.Purpose, x.Endpoint, x.Days, S⟩ ∧ SealsOK (sumS (excB x)) S ∧ ∀ q, (∃ s ∈ S, s.Key = q) ↔ q = k ∨ ∃ s ∈ x.Seals, s.Key = q) := by
  have hlen := h.len
  have hsz : x.Endpoint.size ≤ 32 := by rw [hx.nam]; decide
  have hkey : g_certificate_Key k = some true := by
    unfold g_certificate_Key
    rw [decide_eq_true (by omega), cond_true, decide_eq_true (by omega)]
  unfold g_exception_Sign
  rw [exc_bytes (h.check hx) hsz, Option.bind_some, decide_eq_true rfl, Bool.not_true, cond_false, hkey, Option.bind_some, Bool.not_true, cond_false, clone_seal _ (by omega), Option.bind_some]
  refine Ok.bind (del_ok x.Seals k (by omega)) fun D hD => ?_
  have hDl : D.length ≤ x.Seals.length := by rw [hD]; exact List.length_filter_le _ _
  have hDm : ∀ s, s ∈ D ↔ s ∈ x.Seals ∧ s.Key ≠ k := fun s => by
    rw [hD, List.mem_filter]
    unfold kp
    simp
  have hDa : AscK D := by rw [hD]; exact h.asc.sublist List.filter_sublist
  have hblen := exc_len hsz
  rw [decide_eq_false (by omega), cond_false, cat_Sum (excB x) (by unfold Lo; omega), Option.bind_some]
  refine Ok.bind (appI_ok' (by rw [List.length_singleton]; omega)) fun L hL => ?_
  have hLm : ∀ s, s ∈ L ↔ s ∈ D ∨ s = ⟨k, sumS (excB x)⟩ := fun s => by rw [hL, List.mem_append, List.mem_singleton]
  have hLk : ∀ s ∈ L, s.Sum = sumS (excB x) ∧ 50 ≤ s.Key ∧ s.Key ≤ 54 := fun s hs => by
    rcases (hLm s).1 hs with h1 | rfl
    · exact h.all s ((hDm s).1 h1).1
    · exact ⟨rfl, hk⟩
  refine Ok.bind (sortC_api_Seal swoK cmpK L (by rw [hL, List.length_append, List.length_singleton]; unfold cap_api_Seal; omega) (fun s hs => by have := (hLk s hs).2; omega)) fun R hR => ?_
  obtain ⟨hp, hr⟩ := hR
  have hmem : ∀ s, s ∈ R ↔ s ∈ L := fun s => hp.mem_iff
  have hLne : L.Pairwise fun a b => a.Key ≠ b.Key := by
    rw [hL]
    refine List.pairwise_append.2 ⟨hDa.imp fun hab => by omega, List.pairwise_singleton _ _, fun a ha b hb => ?_⟩
    rw [List.mem_singleton.1 hb]
    exact ((hDm a).1 ha).2
  have hRne : R.Pairwise fun a b => a.Key ≠ b.Key := (hp.symm.pairwise_iff (fun hab => fun e => hab e.symm)).1 hLne
  refine Ok.ret ⟨rfl, R, rfl, ⟨fun s hs => hLk s ((hmem s).1 hs), ?_⟩, fun q => ?_⟩
  · refine (hr.and hRne).imp fun {a b} hab => ?_
    have := of_decide_eq_false hab.1
    have := hab.2
    omega
  · constructor
    · rintro ⟨s, hs, rfl⟩
      rcases (hLm s).1 ((hmem s).1 hs) with h1 | rfl
      · exact .inr ⟨s, ((hDm s).1 h1).1, rfl⟩
      · exact .inl rfl
    · rintro (rfl | ⟨s, hs, rfl⟩)
      · exact ⟨_, (hmem _).2 ((hLm _).2 (.inr rfl)), rfl⟩
      · by_cases e : s.Key = k
        · exact ⟨_, (hmem _).2 ((hLm _).2 (.inr rfl)), e.symm⟩
        · exact ⟨s, (hmem _).2 ((hLm _).2 (.inl ((hDm s).2 ⟨hs, e⟩))), rfl⟩
end
section
open Go
theorem mapPut_new {κ ν : Type} [DecidableEq κ] {l : List (κ × ν)} {x : κ} {v : ν} (h : ∀ p ∈ l, p.1 ≠ x) : mapPut l x v = l ++ [(x, v)] := by
  unfold mapPut
  have : l.findIdx? (fun p => decide (p.1 = x)) = none := List.findIdx?_eq_none_iff.2 fun p hp => decide_eq_false (h p hp)
  rw [this]
def okP (o : api_Owners) (sg : Int) (p : Int × Int) : Bool := decide (p.2 = sg) && decide (p.1 ∈ o.Keys)
def okS (o : api_Owners) (sg : Int) (s : api_Seal) : Bool := decide (s.Sum = sg) && decide (s.Key ∈ o.Keys)
theorem run_seals (o : api_Owners) (b : List UInt8) (e : Int) (hb : b.length ≤ 1000) (ho : o.Keys.length ≤ 1000) : ∀ (l : List (Int × Int)) (c : Nat), c + l.length ≤ 1000 → runL (fun p' q' => g_exception_Valid.l3 o (b, e) p' q') (fun q' => g_exception_Valid.e3 o q') l (c : Int) = some (decide (o.Need ≤ ((c + (l.filter (okP o (sumS b))).length : Nat) : Int)))
  | [], c, _ => rfl
  | p :: l, c, h => by
    rw [List.length_cons] at h
    have ih := run_seals o b e hb ho l
    show ((g_exception_Valid.l3 o (b, e) p (c : Int)).bind (lstep (runL _ _ l))) = _
    have step : g_exception_Valid.l3 o (b, e) p (c : Int) = some (.next ((c + (bif okP o (sumS b) p then 1 else 0) : Nat) : Int)) := by
      unfold g_exception_Valid.l3
      show ((g_certificate_Sum b).bind _) = _
      rw [cat_Sum b (by unfold Lo; omega), Option.bind_some, contains_int _ _ (by omega), Option.bind_some]
      unfold okP g_exception_Valid.j4
      cases decide (p.2 = sumS b) with
      | false => rfl
      | true =>
        cases decide (p.1 ∈ o.Keys) with
        | false => rfl
        | true =>
          show (some (Lp.next (W ((c : Int) + 1))) : Option (Lp Int Bool)) = _
          rw [W_id (by omega)]
          rfl
    rw [step, Option.bind_some]
    show runL _ _ l ((c + (bif okP o (sumS b) p then 1 else 0) : Nat) : Int) = _
    rw [ih _ (by cases okP o (sumS b) p <;> simp <;> omega)]
    cases hp : okP o (sumS b) p with
    | true =>
      rw [List.filter_cons_of_pos hp, List.length_cons]
      show some (decide (o.Need ≤ ((c + 1 + _ : Nat) : Int))) = _
      rw [Nat.add_assoc, Nat.add_comm 1]
    | false => rw [List.filter_cons_of_neg (by rw [hp]; decide)]; rfl
theorem valid_ok {x : api_Exception} {o : api_Owners} (hc : g_exception_Check x = some 0) (hsz : x.Endpoint.size ≤ 32) (hn : 1 ≤ o.Need) (hk : o.Keys.length ≤ 1000) (hl : x.Seals.length ≤ 100) (ha : AscK x.Seals) : g_exception_Valid x o = some (decide (o.Need ≤ ((x.Seals.filter (okS o (sumS (excB x)))).length : Int))) := by
  unfold g_exception_Valid
  have hblen := exc_len hsz
  rw [exc_bytes hc hsz, Option.bind_some, decide_eq_true rfl, Bool.not_true, cond_false, decide_eq_false (by omega)]
  unfold g_exception_Valid.j1
  rw [cond_false]
  have key : ∀ (m p : List api_Seal), p ++ m = x.Seals → loop (fun q' => g_exception_Valid.l2 x o (excB x, 0) q'.1 q'.2) ((p.length : Int), p.map fun s => (s.Key, s.Sum)) = some (decide (o.Need ≤ ((x.Seals.filter (okS o (sumS (excB x)))).length : Int))) := by
    intro m
    induction m with
    | nil =>
      intro p hp
      rw [List.append_nil] at hp
      subst hp
      refine loop_up ?_
      show g_exception_Valid.l2 x o (excB x, 0) (x.Seals.length : Int) _ = _
      unfold g_exception_Valid.l2
      rw [decide_eq_false (by omega), cond_false]
      refine congrArg up (mloop_of fun l' hp' => ?_)
      have := run_seals o (excB x) 0 hblen hk l' 0 (by rw [hp'.length_eq, List.length_map]; omega)
      have e : (l'.filter (okP o (sumS (excB x)))).length = (x.Seals.filter (okS o (sumS (excB x)))).length := by
        rw [(hp'.filter _).length_eq, List.filter_map, List.length_map]
        rfl
      rw [Nat.zero_add, e] at this
      exact this
    | cons s m ih =>
      intro p hp
      have hs : x.Seals[p.length]? = some s := by rw [← hp]; simp
      have hlt := at_lt hs
      have hnew : mapPut (p.map fun s => (s.Key, s.Sum)) s.Key s.Sum = (p ++ [s]).map fun s => (s.Key, s.Sum) := by
        rw [mapPut_new, List.map_append]
        · rfl
        · intro q hq
          obtain ⟨z, hz, rfl⟩ := List.mem_map.1 hq
          have ha' := ha
          unfold AscK at ha'
          rw [← hp] at ha'
          have := (List.pairwise_append.1 ha').2.2 z hz s (List.mem_cons_self ..)
          show z.Key ≠ s.Key
          omega
      have e1 : g_exception_Valid.l2 x o (excB x, 0) (p.length : Int) (p.map fun s => (s.Key, s.Sum)) = some (.next ((((p ++ [s]).length : Nat) : Int), (p ++ [s]).map fun s => (s.Key, s.Sum))) := by
        unfold g_exception_Valid.l2
        rw [decide_eq_true (by omega), cond_true, getI_nat, hs, Option.bind_some, hnew, W_id (by omega)]
        simp
      rw [loop_next (body := fun q' => g_exception_Valid.l2 x o (excB x, 0) q'.1 q'.2) e1, ih (p ++ [s]) (by simp [hp])]
  exact key x.Seals [] rfl
def seK : List Int := [51, 52, 53]
def Signed (S : List api_Seal) (g : List Int) : Prop := g.Nodup ∧ ∀ q, q ∈ g ↔ (51 ≤ q ∧ q ≤ 53) ∧ ∃ s ∈ S, s.Key = q
theorem signed_count {sg : Int} {S : List api_Seal} {g : List Int} {n : Int} (h : SealsOK sg S) (hg : Signed S g) : (S.filter (okS ⟨seK, n⟩ sg)).length = g.length := by
  have e : (S.filter (okS ⟨seK, n⟩ sg)).length = ((S.filter (okS ⟨seK, n⟩ sg)).map (·.Key)).length := by rw [List.length_map]
  rw [e]
  have hnd : ((S.filter (okS ⟨seK, n⟩ sg)).map (·.Key)).Nodup := by
    refine List.pairwise_map.2 ((h.asc.sublist List.filter_sublist).imp fun hab => by omega)
  refine ((List.perm_ext_iff_of_nodup hnd hg.1).2 fun q => ?_).length_eq
  rw [hg.2 q, List.mem_map]
  have hk : ∀ q : Int, q ∈ seK ↔ 51 ≤ q ∧ q ≤ 53 := fun q => by unfold seK; simp; omega
  constructor
  · rintro ⟨s, hs, rfl⟩
    obtain ⟨h1, h2⟩ := List.mem_filter.1 hs
    unfold okS at h2
    rw [Bool.and_eq_true] at h2
    exact ⟨(hk _).1 (of_decide_eq_true h2.2), s, h1, rfl⟩
  · rintro ⟨h1, s, hs, rfl⟩
    refine ⟨s, List.mem_filter.2 ⟨hs, ?_⟩, rfl⟩
    unfold okS
    rw [Bool.and_eq_true]
    exact ⟨decide_eq_true (h.all s hs).1, decide_eq_true ((hk _).2 h1)⟩
theorem signed_valid {x : api_Exception} {g : List Int} {n : Int} (hx : BaseX x) (h : SealsOK (sumS (excB x)) x.Seals) (hg : Signed x.Seals g) (hn : 1 ≤ n) : g_exception_Valid x ⟨seK, n⟩ = some (decide (n ≤ (g.length : Int))) := by
  have hl := h.len
  rw [valid_ok (h.check hx) (by rw [hx.nam]; decide) hn (by show 3 ≤ 1000; omega) (by omega) h.asc, signed_count h hg]
def addG (g : List Int) (k : Int) : List Int := bif decide (51 ≤ k) && decide (k ≤ 53) && !g.any (fun q => decide (q = k)) then g ++ [k] else g
theorem signed_add {S S' : List api_Seal} {g : List Int} {k : Int} (hg : Signed S g) (hS : ∀ q, (∃ s ∈ S', s.Key = q) ↔ q = k ∨ ∃ s ∈ S, s.Key = q) : Signed S' (addG g k) := by
  unfold addG
  by_cases h1 : 51 ≤ k ∧ k ≤ 53
  · rw [decide_eq_true h1.1, decide_eq_true h1.2, Bool.true_and, Bool.true_and]
    cases ha : g.any (fun q => decide (q = k)) with
    | true =>
      obtain ⟨q, hq, hqk⟩ := List.any_eq_true.1 ha
      have hqk := of_decide_eq_true hqk
      subst hqk
      refine ⟨hg.1, fun z => ?_⟩
      show z ∈ g ↔ _
      rw [hS z, hg.2 z]
      constructor
      · rintro ⟨a, b⟩
        exact ⟨a, .inr b⟩
      · rintro ⟨a, rfl | b⟩
        · exact (hg.2 z).1 hq
        · exact ⟨a, b⟩
    | false =>
      have hn : k ∉ g := fun hk => by
        have : g.any (fun q => decide (q = k)) = true := List.any_eq_true.2 ⟨k, hk, decide_eq_true rfl⟩
        rw [ha] at this; cases this
      refine ⟨?_, fun z => ?_⟩
      · show (g ++ [k]).Nodup
        refine List.nodup_append.2 ⟨hg.1, by simp, fun a ha' b hb e => ?_⟩
        rw [List.mem_singleton.1 hb] at e
        exact hn (e ▸ ha')
      · show z ∈ g ++ [k] ↔ _
        rw [List.mem_append, List.mem_singleton, hS z, hg.2 z]
        constructor
        · rintro (⟨a, b⟩ | rfl)
          · exact ⟨a, .inr b⟩
          · exact ⟨h1, .inl rfl⟩
        · rintro ⟨a, rfl | b⟩
          · exact .inr rfl
          · exact .inl ⟨a, b⟩
  · have e : (decide (51 ≤ k) && decide (k ≤ 53)) = false := by
      by_cases h2 : 51 ≤ k
      · rw [decide_eq_true h2, decide_eq_false (by omega)]; rfl
      · rw [decide_eq_false h2]; rfl
    rw [e, Bool.false_and]
    refine ⟨hg.1, fun z => ?_⟩
    show z ∈ g ↔ _
    rw [hS z, hg.2 z]
    constructor
    · rintro ⟨a, b⟩
      exact ⟨a, .inr b⟩
    · rintro ⟨a, rfl | b⟩
      · exact absurd a h1
      · exact ⟨a, b⟩
theorem signed_nil : Signed [] [] := ⟨.nil, fun q => by simp⟩
theorem seals_nil {sg : Int} : SealsOK sg [] := ⟨fun s h => (by cases h), .nil⟩
end
section
open Go
def exX : api_Exception := ⟨⟨1, 0⟩, 1, web, ⟨3, 9⟩, []⟩
theorem exX_base (S : List api_Seal) : BaseX ⟨⟨1, 0⟩, 1, web, ⟨3, 9⟩, S⟩ := ⟨show decide (0 < strS ⟨1, 0⟩) = true by decide +kernel, rfl, rfl, ⟨rfl, by show (3 : Int) < 9; omega, by show (9 : Int) ≤ 1000; omega⟩⟩
theorem awake19 : g_law19_awake = some true := by
  unfold g_law19_awake
  have h0 : SealsOK (sumS (excB exX)) exX.Seals := seals_nil
  obtain ⟨⟨a, ea⟩, hs1, h1, S1, h2, h3, h4⟩ := sign_ok (x := exX) (exX_base []) h0 (k := 51) (by omega)
  dsimp only at h1 h2
  subst h1
  subst h2
  have h3' : SealsOK (sumS (excB ⟨exX.Use, exX.Purpose, exX.Endpoint, exX.Days, S1⟩)) S1 := h3
  obtain ⟨⟨b, eb⟩, hs2, k1, S2, k2, k3, k4⟩ := sign_ok (x := ⟨exX.Use, exX.Purpose, exX.Endpoint, exX.Days, S1⟩) (exX_base S1) h3' (k := 53) (by omega)
  dsimp only at k1 k2
  subst k1
  subst k2
  have g1 : Signed S1 (addG [] 51) := signed_add signed_nil h4
  have g2 : Signed S2 (addG (addG [] 51) 53) := signed_add g1 k4
  have v1 := signed_valid (x := ⟨exX.Use, exX.Purpose, exX.Endpoint, exX.Days, S1⟩) (n := 2) (exX_base S1) h3' g1 (by omega)
  have v2 := signed_valid (x := ⟨exX.Use, exX.Purpose, exX.Endpoint, exX.Days, S2⟩) (n := 2) (exX_base S2) k3 g2 (by omega)
  show (g_exception_Sign exX 51).bind _ = _
  rw [hs1, Option.bind_some]
  show (g_exception_Sign ⟨exX.Use, exX.Purpose, exX.Endpoint, exX.Days, S1⟩ 53).bind _ = _
  rw [hs2, Option.bind_some]
  show (g_exception_Valid ⟨exX.Use, exX.Purpose, exX.Endpoint, exX.Days, S1⟩ ⟨seK, 2⟩).bind _ = _
  rw [v1, Option.bind_some]
  show (g_exception_Valid ⟨exX.Use, exX.Purpose, exX.Endpoint, exX.Days, S2⟩ ⟨seK, 2⟩).bind _ = _
  rw [v2, Option.bind_some]
  rfl
theorem roll19 {t : List Int} (h : t.length ≤ 400) : Ok (g_make_Roll t) DOK := Ok.ret ⟨by unfold Lo; show t.length < _; omega, Int.le_refl _, by show (0 : Int) ≤ (t.length : Int); omega⟩
end
end Go.Proofs.YtmbhoimeiahbaaaGreat
