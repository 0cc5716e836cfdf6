/- What bytes are elements; decode and encode. No program is in sight here. -/
import Derived.Test.YtbeageaekgccgaaGreatD1
set_option linter.unusedVariables false
set_option linter.unusedSimpArgs false
namespace Go.Proofs.YtbeageaekgccgaaGreat
open Go
def sizeS : List UInt8 → Option (Nat × Nat)
  | [] => none
  | x :: r => if x.toNat < 128 then some (x.toNat, 1)
    else if x.toNat = 129 then match r with | y :: _ => if y.toNat < 128 then none else some (y.toNat, 2) | [] => none
    else if x.toNat = 130 then match r with | y :: z :: _ => if y.toNat = 0 then none else some (y.toNat * 256 + z.toNat, 3) | _ => none
    else none
def hdr : List UInt8 → Option (Nat × Nat × Nat)
  | [] => none
  | t :: r => if tagB t.toNat = false then none else match sizeS r with
    | none => none
    | some (n, c) => if r.length - c < n then none else some (t.toNat, 1 + c, n)
theorem sizeS_le {r : List UInt8} {n c : Nat} (h : sizeS r = some (n, c)) : 1 ≤ c ∧ c ≤ r.length ∧ c ≤ 3 ∧ n ≤ 65535 := by
  unfold sizeS at h
  match r, h with
  | x :: r, h =>
    dsimp only at h
    have hx := x.toNat_lt
    split at h
    · simp at h; simp; omega
    · split at h
      · match r, h with
        | y :: r', h =>
          have hy := y.toNat_lt
          dsimp only at h
          split at h
          · cases h
          · simp at h; simp; omega
      · split at h
        · match r, h with
          | [y], h => cases h
          | y :: z :: r', h =>
            have hy := y.toNat_lt
            have hz := z.toNat_lt
            dsimp only at h
            split at h
            · cases h
            · simp at h; simp; omega
        · cases h
theorem hdr_le {l : List UInt8} {t o n : Nat} (h : hdr l = some (t, o, n)) : 2 ≤ o ∧ o + n ≤ l.length ∧ tagB t = true ∧ t ≤ 255 ∧ n ≤ 65535 ∧ o ≤ 4 := by
  unfold hdr at h
  match l, h with
  | x :: r, h =>
    dsimp only at h
    have hx := x.toNat_lt
    split at h
    · cases h
    · rename_i ht
      cases hs : sizeS r with
      | none => rw [hs] at h; cases h
      | some p =>
        obtain ⟨m, c⟩ := p
        rw [hs] at h
        have hb := sizeS_le hs
        dsimp only at h
        split at h
        · cases h
        · simp at h
          obtain ⟨rfl, rfl, rfl⟩ := h
          simp only [List.length_cons]
          refine ⟨by omega, by omega, by simpa using ht, by omega, by omega, by omega⟩
def decAll (l : List UInt8) : Option (List api_Value) :=
  if l = [] then some [] else
  match h : hdr l with
  | none => none
  | some (t, o, n) =>
    match (if nestB t then (decAll ((l.drop o).take n)).map fun es => api_Value.mk t [] true es else some (api_Value.mk t ((l.drop o).take n) false [])) with
    | none => none
    | some v => (decAll (l.drop (o + n))).map (v :: ·)
termination_by l.length
decreasing_by
  · have := hdr_le h
    rw [List.length_take, List.length_drop]; omega
  · have := hdr_le h
    rw [List.length_drop]; omega
def decOne (l : List UInt8) : Option (api_Value × Nat) :=
  match hdr l with
  | none => none
  | some (t, o, n) => (if nestB t then (decAll ((l.drop o).take n)).map fun es => api_Value.mk t [] true es else some (api_Value.mk t ((l.drop o).take n) false [])).map fun v => (v, o + n)
theorem decAll_nil : decAll [] = some [] := by rw [decAll]; rfl
theorem decAll_eq {l : List UInt8} (h : l ≠ []) : decAll l = match decOne l with | none => none | some (v, m) => (decAll (l.drop m)).map (v :: ·) := by
  rw [decAll, if_neg h]
  unfold decOne
  split
  · rename_i h1; rw [h1]
  · rename_i t o n h1
    rw [h1]
    dsimp only
    cases (if nestB t then (decAll ((l.drop o).take n)).map fun es => api_Value.mk t [] true es else some (api_Value.mk t ((l.drop o).take n) false [])) with
    | none => rfl
    | some v => rfl
theorem decOne_hdr {l : List UInt8} {t o n : Nat} (h : hdr l = some (t, o, n)) : decOne l = (if nestB t then (decAll ((l.drop o).take n)).map fun es => api_Value.mk t [] true es else some (api_Value.mk t ((l.drop o).take n) false [])).map fun v => (v, o + n) := by
  unfold decOne; rw [h]
theorem decOne_none {l : List UInt8} (h : hdr l = none) : decOne l = none := by unfold decOne; rw [h]
theorem decOne_le {l : List UInt8} {v : api_Value} {m : Nat} (h : decOne l = some (v, m)) : 2 ≤ m ∧ m ≤ l.length := by
  cases hh : hdr l with
  | none => rw [decOne_none hh] at h; cases h
  | some p =>
    obtain ⟨t, o, n⟩ := p
    rw [decOne_hdr hh] at h
    have := hdr_le hh
    simp only [Option.map_eq_some_iff] at h
    obtain ⟨a, _, h⟩ := h
    injection h with _ h
    omega
theorem lenB_1 {n : Nat} (h : n < 128) : lenB n = [UInt8.ofNat n] := by unfold lenB; rw [if_pos h]
theorem lenB_2 {n : Nat} (h : 128 ≤ n) (h2 : n < 256) : lenB n = [129, UInt8.ofNat n] := by
  have e : be n = [UInt8.ofNat n] := by rw [be_pos (by omega), show n / 256 = 0 by omega, be_0, show n % 256 = n by omega]; rfl
  unfold lenB cnt
  rw [if_neg (by omega), e]
  rfl
theorem lenB_3 {n : Nat} (h : 256 ≤ n) (h2 : n < 65536) : lenB n = [130, UInt8.ofNat (n / 256), UInt8.ofNat (n % 256)] := by
  have e : be n = [UInt8.ofNat (n / 256), UInt8.ofNat (n % 256)] := by
    rw [be_pos (by omega), be_pos (n := n / 256) (by omega), show n / 256 / 256 = 0 by omega, be_0, show n / 256 % 256 = n / 256 by omega]; rfl
  unfold lenB cnt
  rw [if_neg (by omega), e]
  rfl
theorem nat8 {n : Nat} (h : n < 256) : (UInt8.ofNat n).toNat = n := by rw [UInt8.toNat_ofNat', Nat.mod_eq_of_lt h]
theorem of_nat8 (x : UInt8) : UInt8.ofNat x.toNat = x := by simp
theorem sizeS_lenB (n : Nat) (h : n ≤ 65535) (r : List UInt8) : sizeS (lenB n ++ r) = some (n, (lenB n).length) := by
  by_cases h1 : n < 128
  · rw [lenB_1 h1]
    simp [sizeS, nat8 (show n < 256 by omega), h1]
  · by_cases h2 : n < 256
    · rw [lenB_2 (by omega) h2]
      have e : (129 : UInt8).toNat = 129 := rfl
      simp [sizeS, nat8 h2, h1]
    · rw [lenB_3 (by omega) (by omega)]
      simp [sizeS, nat8 (show n / 256 < 256 by omega), nat8 (show n % 256 < 256 by omega)]
      omega
theorem sizeS_back {r : List UInt8} {n c : Nat} (h : sizeS r = some (n, c)) : r.take c = lenB n ∧ (lenB n).length = c := by
  unfold sizeS at h
  match r, h with
  | x :: r, h =>
    dsimp only at h
    have hx := x.toNat_lt
    split at h
    · rename_i h1
      simp at h
      obtain ⟨rfl, rfl⟩ := h
      rw [lenB_1 h1]
      simp
    · split at h
      · rename_i h1 h2
        match r, h with
        | y :: r', h =>
          have hy := y.toNat_lt
          dsimp only at h
          split at h
          · cases h
          · simp at h
            obtain ⟨rfl, rfl⟩ := h
            rw [lenB_2 (by omega) (by omega), of_nat8]
            have e : x = 129 := by apply UInt8.toNat_inj.1; rw [h2]; rfl
            subst e
            simp
      · split at h
        · rename_i h1 h0 h2
          match r, h with
          | [y], h => cases h
          | y :: z :: r', h =>
            have hy := y.toNat_lt
            have hz := z.toNat_lt
            dsimp only at h
            split at h
            · cases h
            · simp at h
              obtain ⟨rfl, rfl⟩ := h
              rw [lenB_3 (by omega) (by omega), show (y.toNat * 256 + z.toNat) / 256 = y.toNat by omega, show (y.toNat * 256 + z.toNat) % 256 = z.toNat by omega, of_nat8, of_nat8]
              have e : x = 130 := by apply UInt8.toNat_inj.1; rw [h2]; rfl
              subst e
              simp
        · cases h
theorem tag_range {t : Int} (h : tagB t = true) : 1 ≤ t ∧ t ≤ 255 := by
  unfold tagB at h
  simp at h
  omega
theorem hdr_put {t : Int} (ht : tagB t = true) (B r : List UInt8) (hB : B.length ≤ 65535) : hdr (UInt8.ofNat (t.toNat % 256) :: (lenB B.length ++ B) ++ r) = some (t.toNat, 1 + (lenB B.length).length, B.length) := by
  have hr := tag_range ht
  have e : (UInt8.ofNat (t.toNat % 256)).toNat = t.toNat := by rw [nat8 (by omega)]; omega
  have e2 : ((t.toNat : Nat) : Int) = t := by omega
  rw [List.cons_append, hdr, e, e2, ht, List.append_assoc, sizeS_lenB _ hB]
  simp
theorem drop_put {x : UInt8} (L B r : List UInt8) : ((x :: (L ++ B) ++ r).drop (1 + L.length)).take B.length = B := by
  rw [Nat.add_comm 1, List.cons_append, List.drop_succ_cons, List.append_assoc, List.drop_left, List.take_left]
mutual
theorem decOne_put : ∀ (d : api_Value), d.formed = true → d.put.length ≤ 65535 → ∀ r, decOne (d.put ++ r) = some (d, d.put.length)
  | .mk t b n es, hf, hl, r => by
    rw [api_Value.formed] at hf
    simp only [Bool.and_eq_true, Bool.not_eq_true', beq_iff_eq] at hf
    obtain ⟨⟨⟨⟨ht, hn⟩, h1⟩, h2⟩, h3⟩ := hf
    rw [put_eq] at hl ⊢
    have hB : (api_Value.mk t b n es).body.length ≤ 65535 := by simp at hl; omega
    have hr := tag_range ht
    have e2 : ((t.toNat : Nat) : Int) = t := by omega
    rw [decOne_hdr (hdr_put ht _ r hB), drop_put, e2]
    have hlen : (UInt8.ofNat (t.toNat % 256) :: (lenB (api_Value.mk t b n es).body.length ++ (api_Value.mk t b n es).body)).length = 1 + (lenB (api_Value.mk t b n es).body.length).length + (api_Value.mk t b n es).body.length := by simp; omega
    cases n with
    | true =>
      have hb : b = [] := by simpa using h1
      subst hb
      have hbody : (api_Value.mk t [] true es).body = putAll es := by simp [api_Value.body]
      rw [if_pos hn.symm, hbody, decAll_put es h3 (by rw [hbody] at hB; exact hB), ← hbody, hlen]
      rfl
    | false =>
      have he : es = [] := by simpa using h2
      subst he
      have hbody : (api_Value.mk t b false []).body = b := by simp [api_Value.body]
      rw [if_neg (by rw [← hn]; decide), hlen, hbody]
      rfl
theorem decAll_put : ∀ (es : List api_Value), formedAll es = true → (putAll es).length ≤ 65535 → decAll (putAll es) = some es
  | [], _, _ => by rw [putAll, decAll_nil]
  | d :: ds, hf, hl => by
    rw [formedAll, Bool.and_eq_true] at hf
    rw [putAll] at hl ⊢
    rw [List.length_append] at hl
    have h1 := decOne_put d hf.1 (by omega) (putAll ds)
    have hne : d.put ++ putAll ds ≠ [] := by
      intro e
      have h2 := (decOne_le h1).1
      have h3 : (d.put ++ putAll ds).length = 0 := by rw [e]; rfl
      rw [List.length_append] at h3
      omega
    rw [decAll_eq hne, h1]
    dsimp only
    rw [List.drop_left, decAll_put ds hf.2 (by omega)]
    rfl
end
theorem decAll_back : ∀ (N : Nat) (l : List UInt8), l.length ≤ N → ∀ es, decAll l = some es → putAll es = l ∧ formedAll es = true := by
  intro N
  induction N with
  | zero =>
    intro l hl es h
    have : l = [] := List.eq_nil_of_length_eq_zero (by omega)
    subst this
    rw [decAll_nil] at h
    injection h with h
    subst h
    exact ⟨by rw [putAll], by rw [formedAll]⟩
  | succ N ih =>
    intro l hl es h
    by_cases hn : l = []
    · subst hn
      rw [decAll_nil] at h
      injection h with h
      subst h
      exact ⟨by rw [putAll], by rw [formedAll]⟩
    rw [decAll_eq hn] at h
    cases ho : decOne l with
    | none => rw [ho] at h; cases h
    | some p =>
      obtain ⟨d, m⟩ := p
      rw [ho] at h
      dsimp only at h
      obtain ⟨es', h1, rfl⟩ := Option.map_eq_some_iff.1 h
      have hm := decOne_le ho
      have h2 := ih (l.drop m) (by rw [List.length_drop]; omega) es' h1
      have h3 : d.put = l.take m ∧ d.formed = true := by
        cases hh : hdr l with
        | none => rw [decOne_none hh] at ho; cases ho
        | some q =>
          obtain ⟨t, o, n⟩ := q
          rw [decOne_hdr hh] at ho
          have hb := hdr_le hh
          obtain ⟨a, ha, hq⟩ := Option.map_eq_some_iff.1 ho
          injection hq with hq hq2
          subst hq
          match l, hh with
          | x :: r, hh =>
            unfold hdr at hh
            dsimp only at hh
            split at hh
            · cases hh
            · cases hs : sizeS r with
              | none => rw [hs] at hh; cases hh
              | some p =>
                obtain ⟨m2, c⟩ := p
                rw [hs] at hh
                dsimp only at hh
                have hsb := sizeS_back hs
                split at hh
                · cases hh
                · simp at hh
                  obtain ⟨rfl, rfl, rfl⟩ := hh
                  have hxl := x.toNat_lt
                  have hB : ∀ B : List UInt8, (List.drop (1 + c) (x :: r)).take m2 = B → B.length = m2 → UInt8.ofNat (((x.toNat : Nat) : Int).toNat % 256) :: (lenB B.length ++ B) = (x :: r).take m := by
                    intro B e1 e2
                    rw [e2, ← hsb.1, ← hq2, Nat.add_comm 1 c, Nat.add_assoc, Nat.add_comm 1 m2, ← Nat.add_assoc, List.take_succ_cons, List.take_add, Int.toNat_natCast, Nat.mod_eq_of_lt (by omega), of_nat8]
                    rw [Nat.add_comm 1 c, List.drop_succ_cons] at e1
                    rw [e1]
                  have hBl : ((List.drop (1 + c) (x :: r)).take m2).length = m2 := by rw [List.length_take, List.length_drop]; omega
                  split at ha
                  · rename_i hnest
                    obtain ⟨es2, h4, rfl⟩ := Option.map_eq_some_iff.1 ha
                    have h5 := ih (((x :: r).drop (1 + c)).take m2) (by omega) es2 h4
                    refine ⟨?_, ?_⟩
                    · rw [put_eq]
                      have hbody : (api_Value.mk (x.toNat : Nat) [] true es2).body = putAll es2 := by simp [api_Value.body]
                      rw [hbody]
                      exact hB _ h5.1.symm (by rw [h5.1]; exact hBl)
                    · rw [api_Value.formed, hb.2.2.1, hnest, h5.2]; simp
                  · rename_i hnest
                    injection ha with ha
                    subst ha
                    refine ⟨?_, ?_⟩
                    · rw [put_eq]
                      have hbody : (api_Value.mk (x.toNat : Nat) (((x :: r).drop (1 + c)).take m2) false []).body = ((x :: r).drop (1 + c)).take m2 := by simp [api_Value.body]
                      rw [hbody]
                      exact hB _ rfl hBl
                    · rw [api_Value.formed, hb.2.2.1, formedAll]; simp at hnest; simp [hnest]
      exact ⟨by rw [putAll, h3.1, h2.1, List.take_append_drop], by rw [formedAll, h3.2, h2.2]; rfl⟩
theorem decOne_back {l : List UInt8} {d : api_Value} {m : Nat} (h : decOne l = some (d, m)) (hm : m = l.length) : d.put = l ∧ d.formed = true := by
  have hne : l ≠ [] := by rintro rfl; cases h
  have h1 : decAll l = some [d] := by
    rw [decAll_eq hne, h]
    dsimp only
    rw [hm, List.drop_length, decAll_nil]
    rfl
  obtain ⟨h2, h3⟩ := decAll_back _ l (Nat.le_refl _) [d] h1
  rw [putAll, putAll, List.append_nil] at h2
  rw [formedAll, Bool.and_eq_true] at h3
  exact ⟨h2, h3.1⟩
end Go.Proofs.YtbeageaekgccgaaGreat
