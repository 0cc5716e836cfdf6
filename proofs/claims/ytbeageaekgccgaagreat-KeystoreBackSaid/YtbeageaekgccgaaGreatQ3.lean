/- Certificates: what was encoded is read again; seals. No program is in sight here. -/
import Derived.Test.YtbeageaekgccgaaGreatQ2
import Derived.Test.YtbeageaekgccgaaGreatM2
set_option linter.unusedVariables false
set_option linter.unusedSimpArgs false
set_option maxRecDepth 100000
namespace Go.Proofs.YtbeageaekgccgaaGreat
open Go
theorem plain_int (n : Int) : plainV (intV n) 2 = true := rfl
theorem asInt_int {n : Int} (h : I64 n) : asIntS (intV n) = some n := by
  have hl := intB_len n
  have hn := numOf_intB n h.1 h.2
  unfold asIntS
  have e : (intV n).Bytes = intB n := rfl
  rw [e, hn, if_pos ⟨plain_int n, hl.1, hl.2, rfl⟩]
theorem name_chars {s : ByteArray} (h : nameS s = true) : (toB s).any badC = false := by
  unfold nameS at h
  simp only [Bool.and_eq_true, Bool.not_eq_true'] at h
  rw [List.any_eq_false]
  intro c hc
  have := h.2
  rw [List.any_eq_false] at this
  have := this c hc
  unfold chS at this
  unfold badC
  simp only [Bool.not_eq_true', Bool.not_eq_false', Bool.and_eq_true, decide_eq_true_eq, Bool.or_eq_true, Bool.not_eq_false] at this ⊢
  omega
theorem asText_text {s : ByteArray} (h : (toB s).any badC = false) : asTextS (textV s) = some s := by
  unfold asTextS
  have e : (textV s).Bytes = toB s := rfl
  rw [e, if_pos ⟨rfl, h⟩, ofB_toB]
theorem asBool_bool (b : Bool) : asBoolS (boolV b) = some b := by cases b <;> rfl
theorem asList_list {l : List api_Value} (h : formedAll l = true) : asListS (listV l) = some l := by
  unfold asListS
  rw [if_pos ⟨rfl, by rw [list_formed, h]⟩]; rfl
theorem pair_pair {a b : Int} (ha : I64 a) (hb : I64 b) : pairS (listV [intV a, intV b]) = some (a, b) := by
  rw [pairS_of (asList_list (by simp only [formedAll, int_formed, Bool.and_self]))]
  unfold pairQ
  rw [seqP_cons, asInt_int ha]
  show (match seqP (some (((), a), [intV b])) asIntS with | some (((_, a), b), []) => some (a, b) | _ => none) = _
  rw [seqP_cons, asInt_int hb]; rfl
theorem use_use {u : api_Use} (h1 : I64 u.Alg) (h2 : I64 u.Bits) : useQ (useV u) = some u := by
  unfold useQ useV
  rw [pair_pair h1 h2]; rfl
theorem txt_text {s : ByteArray} (h : (toB s).any badC = false) : txt (textV s) = s := by
  unfold txt
  rw [asText_text h]; rfl
theorem names_names {l : List ByteArray} (h : ∀ s ∈ l, (toB s).any badC = false) : namesQ (listV (l.map textV)) = some l := by
  unfold namesQ
  rw [asList_list (texts_formed l), Option.bind_some]
  unfold textsS
  rw [if_pos, List.map_map]
  · congr 1
    conv => rhs; rw [← List.map_id l]
    exact List.map_congr_left fun s hs => txt_text (h s hs)
  · rw [List.all_eq_true]
    intro v hv
    obtain ⟨s, hs, rfl⟩ := List.mem_map.1 hv
    rw [asText_text (h s hs)]; rfl
theorem namesS_all {l : List ByteArray} (h : namesS l = true) : ∀ s ∈ l, nameS s = true := by
  intro s hs
  obtain ⟨i, hi, e⟩ := List.getElem_of_mem hs
  unfold namesS at h
  have h1 : (List.range l.length).any (badN l) = false := by simpa using h
  rw [List.any_eq_false] at h1
  have h2 := h1 i (List.mem_range.2 hi)
  unfold badN at h2
  rw [getD_at (List.getElem?_eq_getElem hi), e] at h2
  cases hn : nameS s with
  | true => rfl
  | false => rw [hn] at h2; simp at h2
theorem parse_elem {c : api_Certificate} (hf : FitC c) (hc : certS c = true) : parseS (elemV c) = some c := by
  have i := hf.is
  obtain ⟨-, n1, n2, n3, -⟩ := certS_iff.1 hc
  unfold parseS
  have h1 : asListS (elemV c) = some [bodyV c, sealV c.Seal] := asList_list (by
    have : (sealV c.Seal).formed = true := by
      unfold sealV
      rw [list_formed]
      simp only [formedAll, int_formed, Bool.and_self]
    simp only [formedAll, body_formed, this, Bool.and_self])
  rw [h1]
  dsimp only
  have h2 : pairS (sealV c.Seal) = some (c.Seal.Key, c.Seal.Sum) := pair_pair i.b1 i.b2
  have h3 : bodyS (bodyV c) = some ((((((((((((), c.Serial), c.Issuer), c.Subject), c.Key), c.KeyId), c.Hash), c.From), c.To), c.Authority), c.Path), c.Names) := by
    unfold bodyS
    have : asListS (bodyV c) = some (bodyL c) := by
      have hb := body_formed c
      unfold bodyV at hb ⊢
      rw [list_formed] at hb
      exact asList_list hb
    rw [this, Option.bind_some]
    have e : bodyQ (some ((), bodyL c)) = some (((((((((((((), c.Serial), c.Issuer), c.Subject), c.Key), c.KeyId), c.Hash), c.From), c.To), c.Authority), c.Path), c.Names), []) := by
      unfold bodyQ body10 bodyL
      rw [seqP_cons, asInt_int i.a1, Option.map_some, seqP_cons, asText_text (name_chars n1), Option.map_some, seqP_cons, asText_text (name_chars n2), Option.map_some, seqP_cons, use_use i.a2 i.a3, Option.map_some, seqP_cons, asInt_int i.a4, Option.map_some, seqP_cons, use_use i.a5 i.a6, Option.map_some, seqP_cons, asInt_int i.a7, Option.map_some, seqP_cons, asInt_int i.a8, Option.map_some, seqP_cons, asBool_bool, Option.map_some, seqP_cons, asInt_int i.a9, Option.map_some, seqP_cons, names_names (fun s hs => name_chars (namesS_all n3 s hs)), Option.map_some]
    rw [e]
  rw [h3, h2]; rfl
theorem chk (c : api_Certificate) (hf : FitC c) : g_certificate_Check c = some (bif certS c then 0 else 9) := by
  unfold g_certificate_Check
  rw [cat_valid c hf, Option.bind_some]
  cases certS c <;> rfl
end Go.Proofs.YtbeageaekgccgaaGreat
