/- What bytes are elements. No program is in sight here. -/
import Derived.Test.YthohienbmhohjaaSpec5
namespace Go.Proofs.Ythohienbmhohjaa
open Go.RowKit

/-- The length with which bytes begin, and how many bytes it takes. -/
def sizeS : List UInt8 → Option (Nat × Nat)
  | [] => none
  | x :: r => if x.toNat < 128 then some (x.toNat, 1)
    else if x.toNat = 129 then match r with | y :: _ => if y.toNat < 128 then none else some (y.toNat, 2) | [] => none
    else if x.toNat = 130 then match r with | y :: z :: _ => if y.toNat = 0 then none else some (y.toNat * 256 + z.toNat, 3) | _ => none
    else none
/-- The tag with which bytes begin, where the contents begin, and how long they are. -/
def hdr : List UInt8 → Option (Nat × Nat × Nat)
  | [] => none
  | t :: r => if tagB t.toNat = false then none else match sizeS r with
    | none => none
    | some (n, c) => if r.length - c < n then none else some (t.toNat, 1 + c, n)
theorem sizeS_le {r : List UInt8} {n c : Nat} (h : sizeS r = some (n, c)) : 1 ≤ c ∧ c ≤ r.length ∧ c ≤ 3 ∧ n ≤ 65535 := by
  unfold sizeS at h
  match r, h with
  | x :: r, h =>
    dsimp only at h
    have hx := x.toNat_lt
    split at h
    · simp at h; simp; omega
    · split at h
      · match r, h with
        | y :: r', h =>
          have hy := y.toNat_lt
          dsimp only at h
          split at h
          · cases h
          · simp at h; simp; omega
      · split at h
        · match r, h with
          | [y], h => cases h
          | y :: z :: r', h =>
            have hy := y.toNat_lt
            have hz := z.toNat_lt
            dsimp only at h
            split at h
            · cases h
            · simp at h; simp; omega
        · cases h
theorem hdr_le {l : List UInt8} {t o n : Nat} (h : hdr l = some (t, o, n)) : 2 ≤ o ∧ o + n ≤ l.length ∧ tagB t = true ∧ t ≤ 255 ∧ n ≤ 65535 ∧ o ≤ 4 := by
  unfold hdr at h
  match l, h with
  | x :: r, h =>
    dsimp only at h
    have hx := x.toNat_lt
    split at h
    · cases h
    · rename_i ht
      cases hs : sizeS r with
      | none => rw [hs] at h; cases h
      | some p =>
        obtain ⟨m, c⟩ := p
        rw [hs] at h
        have hb := sizeS_le hs
        dsimp only at h
        split at h
        · cases h
        · simp at h
          obtain ⟨rfl, rfl, rfl⟩ := h
          simp only [List.length_cons]
          refine ⟨by omega, by omega, by simpa using ht, by omega, by omega, by omega⟩

/-- The elements whose bytes these are. -/
def decAll (l : List UInt8) : Option (List V) :=
  if l = [] then some [] else
  match h : hdr l with
  | none => none
  | some (t, o, n) =>
    match (if nestB t then (decAll ((l.drop o).take n)).map fun es => V.mk t [] true es else some (V.mk t ((l.drop o).take n) false [])) with
    | none => none
    | some v => (decAll (l.drop (o + n))).map (v :: ·)
termination_by l.length
decreasing_by
  · have := hdr_le h
    rw [List.length_take, List.length_drop]; omega
  · have := hdr_le h
    rw [List.length_drop]; omega
/-- The element with which bytes begin, and how many bytes it has. -/
def decOne (l : List UInt8) : Option (V × Nat) :=
  match hdr l with
  | none => none
  | some (t, o, n) => (if nestB t then (decAll ((l.drop o).take n)).map fun es => V.mk t [] true es else some (V.mk t ((l.drop o).take n) false [])).map fun v => (v, o + n)
theorem decAll_nil : decAll [] = some [] := by rw [decAll]; rfl
theorem decAll_eq {l : List UInt8} (h : l ≠ []) : decAll l = match decOne l with | none => none | some (v, m) => (decAll (l.drop m)).map (v :: ·) := by
  rw [decAll, if_neg h]
  unfold decOne
  split
  · rename_i h1; rw [h1]
  · rename_i t o n h1
    rw [h1]
    dsimp only
    cases (if nestB t then (decAll ((l.drop o).take n)).map fun es => V.mk t [] true es else some (V.mk t ((l.drop o).take n) false [])) with
    | none => rfl
    | some v => rfl
theorem decOne_hdr {l : List UInt8} {t o n : Nat} (h : hdr l = some (t, o, n)) : decOne l = (if nestB t then (decAll ((l.drop o).take n)).map fun es => V.mk t [] true es else some (V.mk t ((l.drop o).take n) false [])).map fun v => (v, o + n) := by
  unfold decOne; rw [h]
theorem decOne_none {l : List UInt8} (h : hdr l = none) : decOne l = none := by unfold decOne; rw [h]
theorem decOne_le {l : List UInt8} {v : V} {m : Nat} (h : decOne l = some (v, m)) : 2 ≤ m ∧ m ≤ l.length := by
  cases hh : hdr l with
  | none => rw [decOne_none hh] at h; cases h
  | some p =>
    obtain ⟨t, o, n⟩ := p
    rw [decOne_hdr hh] at h
    have := hdr_le hh
    simp only [Option.map_eq_some_iff] at h
    obtain ⟨a, _, h⟩ := h
    injection h with _ h
    omega
end Go.Proofs.Ythohienbmhohjaa
