/- Certificates: the program's answers are the reference's. No program is in sight here. -/
import Derived.Test.YtlcfdnjokgbccaaGreatQ0
set_option linter.unusedVariables false
set_option linter.unusedSimpArgs false
set_option maxRecDepth 100000
namespace Go.Proofs.YtlcfdnjokgbccaaGreat
open Go
theorem loop_same {α : Type} [DecidableEq α] {body : Int → Option (Lp Int Bool)} (a b : List α) (hl : a.length = b.length) (h : Lo a) (h1 : ∀ (i : Nat) x y, a[i]? = some x → b[i]? = some y → body (i : Int) = some (bif decide (x = y) then .next (W ((i : Int) + 1)) else .done false)) (h2 : body (a.length : Int) = some (.done true)) : loop body 0 = some (decide (a = b)) := by
  unfold Lo at h
  have key : ∀ k i, i + k = a.length → loop body (i : Int) = some (decide (a.drop i = b.drop i)) := by
    intro k
    induction k with
    | zero =>
      intro i hi
      have : i = a.length := by omega
      subst this
      rw [loop_done h2, List.drop_length, hl, List.drop_length, decide_eq_true rfl]
    | succ k ih =>
      intro i hi
      have hia : i < a.length := by omega
      have hib : i < b.length := by omega
      have e := h1 i _ _ (List.getElem?_eq_getElem hia) (List.getElem?_eq_getElem hib)
      rw [List.drop_eq_getElem_cons hia, List.drop_eq_getElem_cons hib]
      by_cases hx : a[i] = b[i]
      · rw [decide_eq_true hx, cond_true, W_succ (by omega)] at e
        rw [loop_next e, ih (i + 1) (by omega), hx]
        simp only [List.cons.injEq, true_and]
      · rw [decide_eq_false hx, cond_false] at e
        rw [loop_done e, decide_eq_false]
        intro h
        injection h with h _
        exact hx h
  exact key a.length 0 (by omega)
theorem sl_Equal_string (a b : List ByteArray) (h : Lo a) : g_slices_Equal_string a b = some (decide (a = b)) := by
  unfold g_slices_Equal_string
  by_cases hl : a.length = b.length
  · rw [decide_eq_true (by omega), Bool.not_true, cond_false]
    refine loop_same a b hl h (fun i x y hx hy => ?_) ?_
    · unfold g_slices_Equal_string.l1
      rw [for_in hx, getI_nat, hy, Option.bind_some]
      cases decide (x = y) <;> rfl
    · unfold g_slices_Equal_string.l1
      rw [for_out]; rfl
  · rw [decide_eq_false (by omega), decide_eq_false (fun e => hl (by rw [e]))]; rfl
theorem ref_SameTexts (a b : List ByteArray) (h : Lo a) : g_ref02_SameTexts a b = some (decide (a = b)) := by
  unfold g_ref02_SameTexts
  by_cases hl : a.length = b.length
  · rw [decide_eq_true (by omega), Bool.not_true, cond_false]
    refine loop_same a b hl h (fun i x y hx hy => ?_) ?_
    · unfold g_ref02_SameTexts.l1
      rw [for_in hx, getI_nat, hy, Option.bind_some]
      cases decide (x = y) <;> rfl
    · unfold g_ref02_SameTexts.l1
      rw [for_out]; rfl
  · rw [decide_eq_false (by omega), decide_eq_false (fun e => hl (by rw [e]))]; rfl
theorem decide_cert (a b : api_Certificate) : decide (a = b) = (decide (a.Serial = b.Serial) && (decide (a.Issuer = b.Issuer) && (decide (a.Subject = b.Subject) && (decide (a.Key = b.Key) && (decide (a.KeyId = b.KeyId) && (decide (a.Hash = b.Hash) && (decide (a.From = b.From) && (decide (a.To = b.To) && (decide (a.Authority = b.Authority) && (decide (a.Path = b.Path) && (decide (a.Names = b.Names) && decide (a.Seal = b.Seal)))))))))))) := by
  cases a; cases b
  simp
theorem ref_Same (a b : api_Certificate) (h : Lo a.Names) : g_ref03_Same a b = some (decide (a = b)) := by
  unfold g_ref03_Same
  rw [ref_SameTexts _ _ h, decide_cert]
  simp only [Option.bind_some]
  cases decide (a.Serial = b.Serial) <;> cases decide (a.Issuer = b.Issuer) <;> try rfl
  cases decide (a.Subject = b.Subject) <;> cases decide (a.Key = b.Key) <;> try rfl
  cases decide (a.KeyId = b.KeyId) <;> cases decide (a.Hash = b.Hash) <;> try rfl
  cases decide (a.From = b.From) <;> cases decide (a.To = b.To) <;> try rfl
  cases decide (a.Authority = b.Authority) <;> cases decide (a.Path = b.Path) <;> try rfl
  cases decide (a.Names = b.Names) <;> rfl
theorem cat_Same (a b : api_Certificate) (h : Lo a.Names) : g_certificate_Same a b = some (decide (a = b)) := by
  unfold g_certificate_Same g_certificate_Same.j1 g_certificate_Same.j2
  rw [sl_Equal_string _ _ h, decide_cert]
  simp only [Option.bind_some]
  generalize decide (a.Serial = b.Serial) = b1
  generalize decide (a.Issuer = b.Issuer) = b2
  generalize decide (a.Subject = b.Subject) = b3
  generalize decide (a.Key = b.Key) = b4
  generalize decide (a.KeyId = b.KeyId) = b5
  generalize decide (a.Hash = b.Hash) = b6
  generalize decide (a.From = b.From) = b7
  generalize decide (a.To = b.To) = b8
  generalize decide (a.Authority = b.Authority) = b9
  generalize decide (a.Path = b.Path) = b10
  generalize decide (a.Names = b.Names) = b11
  generalize decide (a.Seal = b.Seal) = b12
  cases b1 <;> cases b2 <;> cases b3 <;> cases b4 <;> cases b5 <;> cases b6 <;> (try simp) <;> cases b11 <;> (try simp) <;> cases b12 <;> (try simp) <;> cases b7 <;> (try simp) <;> cases b8 <;> (try simp) <;> cases b9 <;> simp
def sealV (s : api_Seal) : api_Value := listV [intV s.Key, intV s.Sum]
def elemV (c : api_Certificate) : api_Value := listV [bodyV c, sealV c.Seal]
def encCS (c : api_Certificate) : List UInt8 × Int := bif certS c then encS (elemV c) else ([], 9)
theorem seal_sz (s : api_Seal) : (sealV s).sz ≤ 19 := by
  unfold sealV
  have h1 := intV_sz s.Key
  have h2 := intV_sz s.Sum
  rw [list_sz]
  simp only [szs]; omega
theorem elem_szs {c : api_Certificate} (h : szs (bodyL c) ≤ 1000000) : szs [bodyV c, sealV c.Seal] ≤ 1000100 := by
  have := seal_sz c.Seal
  have : (bodyV c).sz = szs (bodyL c) + 1 := list_sz _
  simp only [szs]; omega
theorem cat_Encode (c : api_Certificate) (hf : FitC c) : g_certificate_Encode c = some (encCS c) := by
  unfold g_certificate_Encode encCS
  rw [cat_valid c hf, Option.bind_some]
  cases hc : certS c with
  | false => rfl
  | true =>
    have hb := body_sz hc
    have he := elem_szs (c := c) (by omega)
    have hs := seal_sz c.Seal
    unfold sealV at hs
    rw [list_sz] at hs
    unfold g_certificate_Element
    rw [Bool.not_true, cond_false, cat_body c hc, Option.bind_some, der_Int, Option.bind_some, der_Int, Option.bind_some, der_Of _ (by omega), Option.bind_some]
    have e : g_der_Of [bodyV c, api_Value.mk 48 [] true [intV c.Seal.Key, intV c.Seal.Sum]] = some (elemV c) := der_Of [bodyV c, sealV c.Seal] (by omega)
    rw [e, Option.bind_some, Option.bind_some, cond_true, der_Encode (elemV c) (by unfold elemV; rw [list_sz]; omega)]
    rfl
theorem texts_len (l : List ByteArray) : l.length ≤ szs (l.map textV) := by
  have := szs_len (l.map textV)
  rwa [List.length_map] at this
theorem ref_body' (c : api_Certificate) (hf : FitC c) (hb : szs (bodyL c) ≤ 1000000) : g_ref03_body c = some (bodyV c) := by
  have ht : szs (c.Names.map textV) ≤ 1000000 := by
    unfold bodyL at hb
    simp only [szs, list_sz] at hb
    omega
  have hn := texts_len c.Names
  have hi := hf.ints
  simp only [List.mem_cons, List.not_mem_nil, or_false, forall_eq_or_imp, forall_eq] at hi
  obtain ⟨i1, i2, i3, i4, i5, i6, i7, i8, i9, -⟩ := hi
  unfold g_ref03_body
  refine loop_path (body := fun q' => g_ref03_body.l1 c q'.1 q'.2) c.Names.length (fun i => ((i : Int), (c.Names.take i).map textV)) (bodyV c) ?_ ?_
  · intro i hi
    obtain ⟨s, hx⟩ : ∃ s, c.Names[i]? = some s := ⟨_, List.getElem?_eq_getElem hi⟩
    show g_ref03_body.l1 c (i : Int) ((c.Names.take i).map textV) = _
    unfold g_ref03_body.l1
    rw [for_in hx, show g_ref01_Text s = some (textV s) from rfl, Option.bind_some, appI_ok (by simp; omega), Option.bind_some, W_succ (by omega), take_succ' hx, List.map_append]
    rfl
  · show g_ref03_body.l1 c (c.Names.length : Int) ((c.Names.take c.Names.length).map textV) = _
    unfold g_ref03_body.l1
    have hT : ∀ s, g_ref01_Text s = some (textV s) := fun _ => rfl
    rw [for_out, List.take_length, ref01_Int _ i1.1 i1.2, ref01_Int _ i4.1 i4.2, ref01_Int _ i7.1 i7.2, ref01_Int _ i8.1 i8.2, ref01_Int _ i9.1 i9.2, ref_use _ i2 i3, ref_use _ i5 i6]
    simp only [hT, ref01_Bool, Option.bind_some]
    rw [ref01_List _ (by omega)]
    simp only [Option.bind_some]
    show up ((g_ref01_List (bodyL c)).bind fun y => some y) = _
    rw [ref01_List _ (show szs (bodyL c) < 1073741824 by omega)]
    rfl
theorem ref_Elem (c : api_Certificate) (hf : FitC c) (hb : szs (bodyL c) ≤ 1000000) : g_ref03_Element c = some (elemV c) := by
  have i := hf.is
  have he := elem_szs hb
  have hs := seal_sz c.Seal
  unfold sealV at hs
  rw [list_sz] at hs
  unfold g_ref03_Element
  rw [ref01_Int _ i.b1.1 i.b1.2, Option.bind_some, ref01_Int _ i.b2.1 i.b2.2, Option.bind_some, ref01_List _ (by omega), Option.bind_some, ref_body' c hf hb, Option.bind_some]
  have e : g_ref01_List [bodyV c, api_Value.mk 48 [] true [intV c.Seal.Key, intV c.Seal.Sum]] = some (elemV c) := ref01_List [bodyV c, sealV c.Seal] (by omega)
  rw [e]; rfl
theorem ref_Encode' (c : api_Certificate) (hf : FitC c) : g_ref03_Encode c = some (encCS c) := by
  unfold g_ref03_Encode encCS
  rw [ref_Check c hf, Option.bind_some]
  cases hc : certS c with
  | false => rfl
  | true =>
    have hb := body_sz hc
    have he := elem_szs (c := c) (by omega)
    rw [cond_true, decide_eq_true rfl, Bool.not_true, cond_false, ref_Elem c hf (by omega), Option.bind_some, ref01_Encode (elemV c) (by unfold elemV; rw [list_sz]; omega)]
    rfl
theorem encCS_len (c : api_Certificate) : (encCS c).1.length ≤ 4096 := by
  unfold encCS
  cases certS c with
  | false => exact Nat.zero_le _
  | true => exact encS_len _
theorem sl_Clone_string (s : List ByteArray) (h : s.length < 1000000000) : g_slices_Clone_string s = some s := by
  unfold g_slices_Clone_string g_slices_Clone_string.j1
  have e : appI 16 ([] : List ByteArray) s = some s := by rw [appI_ok (by simp; omega)]; rfl
  rw [e]
  unfold nilC
  split
  · rename_i h0; subst h0; simp
  · rfl
theorem cat_Sign (c : api_Certificate) (h : FitC c) (key : Int) : g_certificate_Sign c key = some (signS c key) := by
  have hu : FitC (unsl c) := reseal_fit h i64_0 i64_0
  unfold g_certificate_Sign
  rw [sl_Clone_string _ h.names, Option.bind_some]
  have e : g_certificate_Bytes (api_Certificate.mk c.Serial c.Issuer c.Subject c.Key c.KeyId c.Hash c.From c.To c.Authority c.Path c.Names (api_Seal.mk 0 0)) = some (bytesS (unsl c)) := cat_Bytes (unsl c) hu
  rw [e, Option.bind_some, cat_Key, Option.bind_some]
  have j : ∀ b, g_certificate_Sign.j1 c key c.Names (bytesS (unsl c)) b = some (bif b then (zeroC, 9) else (reseal c ⟨key, sumS (bytesS (unsl c)).1⟩, 0)) := by
    intro b
    unfold g_certificate_Sign.j1
    cases b with
    | true => rfl
    | false =>
      rw [cond_false, cat_Sum _ (bytesS_lo _)]
      rfl
  simp only [j]
  unfold signS
  cases hc : certS (unsl c) with
  | false => rw [bytesS_no hc]; rfl
  | true =>
    rw [bytesS_ok hc]
    by_cases a : key < 0
    · rw [decide_eq_true a, decide_eq_false (show ¬ 0 ≤ key by omega)]; rfl
    · rw [decide_eq_false a, decide_eq_true (show 0 ≤ key by omega)]
      by_cases b : key ≤ 2147483648
      · rw [decide_eq_true b, decide_eq_false (show ¬ 2147483648 < key by omega)]; rfl
      · rw [decide_eq_false b, decide_eq_true (show 2147483648 < key by omega)]; rfl
def decCS (b : List UInt8) : api_Certificate × Int := if (decS b).2 = 0 then (match parseS (decS b).1 with
    | some c => bif certS c then (c, 0) else (zeroC', 9)
    | none => (zeroC', 1)) else (zeroC', (decS b).2)
theorem asInt_i64 {v : api_Value} {n : Int} (h : asIntS v = some n) : I64 n := by
  unfold asIntS at h
  split at h
  · injection h with h
    subst h
    exact numOf_range _
  · cases h
theorem asText_size {v : api_Value} {s : ByteArray} (h : asTextS v = some s) : s.size ≤ v.sz := by
  unfold asTextS at h
  split at h
  · injection h with h
    subst h
    have := sz_eq v
    show (v.Bytes.toArray).size ≤ _
    rw [List.size_toArray]; omega
  · cases h
theorem pair_i64 {v : api_Value} {a b : Int} (h : pairS v = some (a, b)) : I64 a ∧ I64 b := by
  unfold pairS at h
  split at h
  · rename_i u x y hm
    injection h with h
    injection h with h1 h2
    subst h1 h2
    obtain ⟨l, -, h2⟩ := Option.bind_eq_some_iff.1 hm
    obtain ⟨x2, h3, h4⟩ := seqP_some h2
    obtain ⟨x1, -, h6⟩ := seqP_some h3
    exact ⟨asInt_i64 h6, asInt_i64 h4⟩
  · cases h
theorem use_i64 {v : api_Value} {u : api_Use} (h : useQ v = some u) : I64 u.Alg ∧ I64 u.Bits := by
  unfold useQ at h
  obtain ⟨p, h1, h2⟩ := Option.map_eq_some_iff.1 h
  subst h2
  exact pair_i64 h1
theorem names_fit {v : api_Value} {l : List ByteArray} (h : namesQ v = some l) : l.length ≤ v.sz ∧ ∀ s ∈ l, s.size ≤ v.sz := by
  unfold namesQ at h
  obtain ⟨es, h1, h2⟩ := Option.bind_eq_some_iff.1 h
  have hs := asList_szs h1
  have hn := szs_len es
  unfold textsS at h2
  split at h2
  · rename_i hall
    injection h2 with h2
    subst h2
    refine ⟨by rw [List.length_map]; omega, fun s hm => ?_⟩
    obtain ⟨e, he, rfl⟩ := List.mem_map.1 hm
    have h3 := List.all_eq_true.1 hall e he
    have h4 := szs_mem he
    cases hx : asTextS e with
    | none => rw [hx] at h3; cases h3
    | some s =>
      have := asText_size hx
      unfold txt
      rw [hx]
      show s.size ≤ _
      omega
  · cases h2
theorem parse_fit {v : api_Value} {c : api_Certificate} (hv : v.sz < 1000000) (h : parseS v = some c) : FitC c := by
  unfold parseS at h
  split at h
  · rename_i x y hl
    have hs := asList_szs hl
    simp only [szs] at hs
    obtain ⟨b, hb, h2⟩ := Option.bind_eq_some_iff.1 h
    obtain ⟨s, hp, h3⟩ := Option.map_eq_some_iff.1 h2
    subst h3
    obtain ⟨s1, s2⟩ := s
    have ⟨p1, p2⟩ := pair_i64 hp
    unfold bodyS at hb
    split at hb
    · rename_i b' hm
      injection hb with hb
      subst hb
      obtain ⟨l, hlx, hq⟩ := Option.bind_eq_some_iff.1 hm
      have hs2 := asList_szs hlx
      unfold bodyQ body10 at hq
      obtain ⟨x11, h11, f11⟩ := seqP_some hq
      obtain ⟨x10, h10, f10⟩ := seqP_some h11
      obtain ⟨x9, h9, f9⟩ := seqP_some h10
      obtain ⟨x8, h8, f8⟩ := seqP_some h9
      obtain ⟨x7, h7, f7⟩ := seqP_some h8
      obtain ⟨x6, h6, f6⟩ := seqP_some h7
      obtain ⟨x5, h5, f5⟩ := seqP_some h6
      obtain ⟨x4, h4, f4⟩ := seqP_some h5
      obtain ⟨x3, h3, f3⟩ := seqP_some h4
      obtain ⟨x2, h2, f2⟩ := seqP_some h3
      obtain ⟨x1, h1, f1⟩ := seqP_some h2
      injection h1 with h1
      injection h1 with _ h1
      subst h1
      simp only [szs] at hs2
      have n11 := names_fit f11
      have t2 := asText_size f2
      have t3 := asText_size f3
      refine fit_mk (show b'.2.length < _ by omega) (fun s hs' => ?_) (show b'.1.1.1.1.1.1.1.1.1.2.size ≤ _ by omega) (show b'.1.1.1.1.1.1.1.1.2.size ≤ _ by omega) (asInt_i64 f1) (use_i64 f4).1 (use_i64 f4).2 (asInt_i64 f5) (use_i64 f6).1 (use_i64 f6).2 (asInt_i64 f7) (asInt_i64 f8) (asInt_i64 f10) p1 p2
      have := n11.2 s hs'
      omega
    · cases hb
  · cases h
theorem cat_Decode (b : List UInt8) : g_certificate_Decode b = some (decCS b) := by
  unfold g_certificate_Decode decCS
  rw [der_Decode, Option.bind_some]
  by_cases h : (decS b).2 = 0
  · have hs := decS_sz h
    rw [decide_eq_true h, if_pos h, Bool.not_true, cond_false, cert_Parse _ (by omega), Option.bind_some]
    cases hp : parseS (decS b).1 with
    | none => rfl
    | some c =>
      dsimp only
      rw [Bool.not_true, cond_false, cat_valid c (parse_fit (by omega) hp), Option.bind_some]
      cases certS c <;> rfl
  · rw [decide_eq_false h, if_neg h]; rfl
theorem ref_Decode (b : List UInt8) : g_ref03_Decode b = some (decCS b) := by
  unfold g_ref03_Decode decCS
  rw [ref01_Decode, Option.bind_some]
  by_cases h : (decS b).2 = 0
  · have hs := decS_sz h
    rw [decide_eq_true h, if_pos h, Bool.not_true, cond_false]
    obtain ⟨z, hz, hp⟩ := ref_From (decS b).1 (by omega)
    rw [hz, Option.bind_some]
    cases hq : parseS (decS b).1 with
    | none =>
      rw [hq] at hp
      dsimp only at hp
      rw [hp]; rfl
    | some c =>
      rw [hq] at hp
      dsimp only at hp
      subst hp
      dsimp only
      rw [Bool.not_true, cond_false, ref_Check c (parse_fit (by omega) hq), Option.bind_some]
      cases certS c <;> rfl
  · rw [decide_eq_false h, if_neg h]; rfl
theorem decCS_names (b : List UInt8) : Lo (decCS b).1.Names := by
  have hz : Lo zeroC'.Names := by unfold Lo zeroC'; decide
  unfold decCS
  split
  · rename_i h
    have hs := decS_sz h
    split
    · rename_i c hp
      cases certS c with
      | true =>
        have := (parse_fit (by omega) hp).names
        show c.Names.length < _
        omega
      | false => exact hz
    · exact hz
  · exact hz
end Go.Proofs.YtlcfdnjokgbccaaGreat
