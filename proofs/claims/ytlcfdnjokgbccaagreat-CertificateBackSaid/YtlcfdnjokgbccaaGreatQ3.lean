/- Certificates: what was encoded is read again; seals. No program is in sight here. -/
import Derived.Test.YtlcfdnjokgbccaaGreatQ2
import Derived.Test.YtlcfdnjokgbccaaGreatM2
set_option linter.unusedVariables false
set_option linter.unusedSimpArgs false
set_option maxRecDepth 100000
namespace Go.Proofs.YtlcfdnjokgbccaaGreat
open Go
theorem plain_int (n : Int) : plainV (intV n) 2 = true := rfl
theorem asInt_int {n : Int} (h : I64 n) : asIntS (intV n) = some n := by
  have hl := intB_len n
  have hn := numOf_intB n h.1 h.2
  unfold asIntS
  have e : (intV n).Bytes = intB n := rfl
  rw [e, hn, if_pos ⟨plain_int n, hl.1, hl.2, rfl⟩]
theorem name_chars {s : ByteArray} (h : nameS s = true) : (toB s).any badC = false := by
  unfold nameS at h
  simp only [Bool.and_eq_true, Bool.not_eq_true'] at h
  rw [List.any_eq_false]
  intro c hc
  have := h.2
  rw [List.any_eq_false] at this
  have := this c hc
  unfold chS at this
  unfold badC
  simp only [Bool.not_eq_true', Bool.not_eq_false', Bool.and_eq_true, decide_eq_true_eq, Bool.or_eq_true, Bool.not_eq_false] at this ⊢
  omega
theorem asText_text {s : ByteArray} (h : (toB s).any badC = false) : asTextS (textV s) = some s := by
  unfold asTextS
  have e : (textV s).Bytes = toB s := rfl
  rw [e, if_pos ⟨rfl, h⟩, ofB_toB]
theorem asBool_bool (b : Bool) : asBoolS (boolV b) = some b := by cases b <;> rfl
theorem asList_list {l : List api_Value} (h : formedAll l = true) : asListS (listV l) = some l := by
  unfold asListS
  rw [if_pos ⟨rfl, by rw [list_formed, h]⟩]; rfl
theorem pair_pair {a b : Int} (ha : I64 a) (hb : I64 b) : pairS (listV [intV a, intV b]) = some (a, b) := by
  rw [pairS_of (asList_list (by simp only [formedAll, int_formed, Bool.and_self]))]
  unfold pairQ
  rw [seqP_cons, asInt_int ha]
  show (match seqP (some (((), a), [intV b])) asIntS with | some (((_, a), b), []) => some (a, b) | _ => none) = _
  rw [seqP_cons, asInt_int hb]; rfl
theorem use_use {u : api_Use} (h1 : I64 u.Alg) (h2 : I64 u.Bits) : useQ (useV u) = some u := by
  unfold useQ useV
  rw [pair_pair h1 h2]; rfl
theorem txt_text {s : ByteArray} (h : (toB s).any badC = false) : txt (textV s) = s := by
  unfold txt
  rw [asText_text h]; rfl
theorem names_names {l : List ByteArray} (h : ∀ s ∈ l, (toB s).any badC = false) : namesQ (listV (l.map textV)) = some l := by
  unfold namesQ
  rw [asList_list (texts_formed l), Option.bind_some]
  unfold textsS
  rw [if_pos, List.map_map]
  · congr 1
    conv => rhs; rw [← List.map_id l]
    exact List.map_congr_left fun s hs => txt_text (h s hs)
  · rw [List.all_eq_true]
    intro v hv
    obtain ⟨s, hs, rfl⟩ := List.mem_map.1 hv
    rw [asText_text (h s hs)]; rfl
theorem namesS_all {l : List ByteArray} (h : namesS l = true) : ∀ s ∈ l, nameS s = true := by
  intro s hs
  obtain ⟨i, hi, e⟩ := List.getElem_of_mem hs
  unfold namesS at h
  have h1 : (List.range l.length).any (badN l) = false := by simpa using h
  rw [List.any_eq_false] at h1
  have h2 := h1 i (List.mem_range.2 hi)
  unfold badN at h2
  rw [getD_at (List.getElem?_eq_getElem hi), e] at h2
  cases hn : nameS s with
  | true => rfl
  | false => rw [hn] at h2; simp at h2
theorem parse_elem {c : api_Certificate} (hf : FitC c) (hc : certS c = true) : parseS (elemV c) = some c := by
  have i := hf.is
  obtain ⟨-, n1, n2, n3, -⟩ := certS_iff.1 hc
  unfold parseS
  have h1 : asListS (elemV c) = some [bodyV c, sealV c.Seal] := asList_list (by
    have : (sealV c.Seal).formed = true := by
      unfold sealV
      rw [list_formed]
      simp only [formedAll, int_formed, Bool.and_self]
    simp only [formedAll, body_formed, this, Bool.and_self])
  rw [h1]
  dsimp only
  have h2 : pairS (sealV c.Seal) = some (c.Seal.Key, c.Seal.Sum) := pair_pair i.b1 i.b2
  have h3 : bodyS (bodyV c) = some ((((((((((((), c.Serial), c.Issuer), c.Subject), c.Key), c.KeyId), c.Hash), c.From), c.To), c.Authority), c.Path), c.Names) := by
    unfold bodyS
    have : asListS (bodyV c) = some (bodyL c) := by
      have hb := body_formed c
      unfold bodyV at hb ⊢
      rw [list_formed] at hb
      exact asList_list hb
    rw [this, Option.bind_some]
    have e : bodyQ (some ((), bodyL c)) = some (((((((((((((), c.Serial), c.Issuer), c.Subject), c.Key), c.KeyId), c.Hash), c.From), c.To), c.Authority), c.Path), c.Names), []) := by
      unfold bodyQ body10 bodyL
      rw [seqP_cons, asInt_int i.a1, Option.map_some, seqP_cons, asText_text (name_chars n1), Option.map_some, seqP_cons, asText_text (name_chars n2), Option.map_some, seqP_cons, use_use i.a2 i.a3, Option.map_some, seqP_cons, asInt_int i.a4, Option.map_some, seqP_cons, use_use i.a5 i.a6, Option.map_some, seqP_cons, asInt_int i.a7, Option.map_some, seqP_cons, asInt_int i.a8, Option.map_some, seqP_cons, asBool_bool, Option.map_some, seqP_cons, asInt_int i.a9, Option.map_some, seqP_cons, names_names (fun s hs => name_chars (namesS_all n3 s hs)), Option.map_some]
    rw [e]
  rw [h3, h2]; rfl
theorem elem_enc {c : api_Certificate} (hc : certS c = true) : encCS c = ((elemV c).put, 0) ∧ (elemV c).formed = true ∧ (elemV c).depth ≤ 16 ∧ (elemV c).put.length ≤ 4096 := by
  have hb := body_sz hc
  have hs := seal_sz c.Seal
  have hB : (bodyV c).sz = szs (bodyL c) + 1 := list_sz _
  have h0 : (sealV c.Seal).formed = true := by
    unfold sealV
    rw [list_formed]
    simp only [formedAll, int_formed, Bool.and_self]
  have h1 : (elemV c).formed = true := by
    unfold elemV
    rw [list_formed]
    simp only [formedAll, body_formed, h0, Bool.and_self]
  have hd0 : (sealV c.Seal).depth = 2 := by
    unfold sealV
    rw [list_depth]
    simp only [depthAll, int_depth]; rfl
  have hd := body_depth c
  have h2 : (elemV c).depth ≤ 16 := by
    unfold elemV
    rw [list_depth]
    simp only [depthAll, hd0]
    omega
  have h3 : (elemV c).sz ≤ 1024 := by
    unfold elemV
    rw [list_sz]
    simp only [szs]; omega
  have h4 := put_le4 (elemV c) (by omega)
  refine ⟨?_, h1, h2, by omega⟩
  unfold encCS
  rw [hc, cond_true, encS_fit h1 h2 h3]
theorem dec_enc {c : api_Certificate} (hf : FitC c) (hc : certS c = true) : decCS (encCS c).1 = (c, 0) := by
  obtain ⟨h1, h2, h3, h4⟩ := elem_enc hc
  rw [h1]
  unfold decCS
  rw [decS_put h2 h4 h3]
  dsimp only
  rw [if_pos rfl, parse_elem hf hc]
  dsimp only
  rw [hc]; rfl
theorem serial_fin : ∀ m : _root_.Fin 1000, (intB ((m.val / 128 * 128 + (m.val + 1) % 128 : Nat) : Int)).dropLast = (intB (m.val : Int)).dropLast ∧ (intB ((m.val / 128 * 128 + (m.val + 1) % 128 : Nat) : Int)).getLast? ≠ (intB (m.val : Int)).getLast? := by decide +kernel
theorem last_split {l : List UInt8} (h : 1 ≤ l.length) : ∃ x, l.getLast? = some x ∧ l = l.dropLast ++ [x] := by
  cases hl : l.getLast? with
  | none =>
    have := List.getLast?_eq_none_iff.1 hl
    subst this
    simp at h
  | some x =>
    refine ⟨x, rfl, ?_⟩
    have hne : l ≠ [] := by rintro rfl; simp at h
    rw [List.getLast?_eq_some_getLast hne] at hl
    injection hl with hl
    rw [← hl]
    exact (List.dropLast_concat_getLast hne).symm
theorem serial_one (n : Nat) (h : n < 1000) : ∃ (p : List UInt8) (x y : UInt8), x ≠ y ∧ intB (n : Int) = p ++ [x] ∧ intB ((n / 128 * 128 + (n + 1) % 128 : Nat) : Int) = p ++ [y] := by
  obtain ⟨h1, h2⟩ := serial_fin ⟨n, h⟩
  dsimp only at h1 h2
  obtain ⟨x, hx, ex⟩ := last_split (intB_len (n : Int)).1
  obtain ⟨y, hy, ey⟩ := last_split (intB_len ((n / 128 * 128 + (n + 1) % 128 : Nat) : Int)).1
  refine ⟨(intB (n : Int)).dropLast, x, y, ?_, ex, by rw [← h1]; exact ey⟩
  rintro rfl
  rw [hx, hy] at h2
  exact h2 rfl
theorem put_one {p r : List UInt8} {x y : UInt8} {a b : Int} {l : List api_Value} (ha : intB a = p ++ [x]) (hb : intB b = p ++ [y]) : ∃ (A B : List UInt8), (listV (intV a :: l)).put = A ++ x :: B ∧ (listV (intV b :: l)).put = A ++ y :: B := by
  have P : ∀ (n : Int) (z : UInt8), intB n = p ++ [z] → (listV (intV n :: l)).put = (UInt8.ofNat 48 :: (lenB ((2 + (lenB (p.length + 1)).length + p.length) + (putAll l).length) ++ (2 :: (lenB (p.length + 1) ++ p)))) ++ z :: putAll l := by
    intro n z hz
    have e1 : (intV n).put = 2 :: (lenB (p.length + 1) ++ (p ++ [z])) := by
      unfold intV
      rw [put_eq]
      show UInt8.ofNat _ :: (lenB (intB n).length ++ intB n) = _
      rw [hz, List.length_append, List.length_singleton]; rfl
    unfold listV
    rw [put_eq]
    show UInt8.ofNat _ :: (lenB (putAll (intV n :: l)).length ++ putAll (intV n :: l)) = _
    rw [putAll, e1]
    have e2 : (2 :: (lenB (p.length + 1) ++ (p ++ [z])) ++ putAll l).length = (2 + (lenB (p.length + 1)).length + p.length) + (putAll l).length := by
      simp only [List.length_append, List.length_cons, List.length_nil]; omega
    rw [e2]
    simp [List.append_assoc]
  exact ⟨_, _, P a x ha, P b y hb⟩
def withSerial (c : api_Certificate) (n : Int) : api_Certificate := api_Certificate.mk n c.Issuer c.Subject c.Key c.KeyId c.Hash c.From c.To c.Authority c.Path c.Names c.Seal
theorem unsealed {c : api_Certificate} (hc : certS c = true) (h0 : 0 ≤ c.Serial ∧ c.Serial < 1000) (hs : c.Seal.Sum = sumS (bytesS c).1) (key : Int) : sealS (withSerial c (c.Serial / 128 * 128 + (c.Serial + 1) % 128)) key = false := by
  obtain ⟨n, hn⟩ : ∃ n : Nat, c.Serial = (n : Int) := ⟨c.Serial.toNat, by omega⟩
  have hn1 : n < 1000 := by omega
  rw [hn, show ((n : Int) / 128 * 128 + ((n : Int) + 1) % 128) = ((n / 128 * 128 + (n + 1) % 128 : Nat) : Int) by omega]
  obtain ⟨p, x, y, hxy, ex, ey⟩ := serial_one n hn1
  unfold sealS
  cases hv : certS (withSerial c ((n / 128 * 128 + (n + 1) % 128 : Nat) : Int)) with
  | false => rw [bytesS_no hv]; rfl
  | true =>
    rw [bytesS_ok hv]
    have hb : (bodyV c).put = (listV (intV (n : Int) :: (bodyL c).tail)).put := by
      unfold bodyV bodyL
      rw [hn]; rfl
    obtain ⟨A, B, eA, eB⟩ := put_one (r := []) (l := (bodyL c).tail) ex ey
    have e1 : (bodyV (withSerial c ((n / 128 * 128 + (n + 1) % 128 : Nat) : Int))).put = A ++ y :: B := eB
    have : decide ((withSerial c ((n / 128 * 128 + (n + 1) % 128 : Nat) : Int)).Seal.Sum = sumS (bodyV (withSerial c ((n / 128 * 128 + (n + 1) % 128 : Nat) : Int))).put) = false := by
      refine decide_eq_false fun h => hxy ?_
      have h : c.Seal.Sum = sumS (bodyV (withSerial c ((n / 128 * 128 + (n + 1) % 128 : Nat) : Int))).put := h
      rw [hs, bytesS_ok hc, e1] at h
      dsimp only at h
      rw [hb, eA] at h
      exact sum_one h
    rw [this]
    simp
theorem certS_key {c : api_Certificate} (h : useS c.Key 2 = false) : certS c = false := by
  cases hc : certS c with
  | false => rfl
  | true =>
    have := (certS_iff.1 hc).2.2.2.2.2.1
    rw [h] at this; cases this
theorem chk (c : api_Certificate) (hf : FitC c) : g_certificate_Check c = some (bif certS c then 0 else 9) := by
  unfold g_certificate_Check
  rw [cat_valid c hf, Option.bind_some]
  cases certS c <;> rfl
end Go.Proofs.YtlcfdnjokgbccaaGreat
