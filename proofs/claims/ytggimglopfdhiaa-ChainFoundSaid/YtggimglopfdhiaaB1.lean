/- Chains that are found in a pool: both searches find the same. No program is in sight here. -/
import Derived.Test.YtggimglopfdhiaaK8
import Derived.Test.YtggimglopfdhiaaC1
set_option linter.unusedVariables false
set_option linter.unusedSimpArgs false
namespace Go.Proofs.Ytggimglopfdhiaa
open Go
def firstO {β : Type} (f : Nat → Option β) : Nat → Nat → Option β
  | _, 0 => none
  | i, n + 1 => match f i with
    | some x => some x
    | none => firstO f (i + 1) n
theorem firstO_congr {β : Type} {f g : Nat → Option β} : ∀ (n i : Nat), (∀ j, i ≤ j → j < i + n → f j = g j) → firstO f i n = firstO g i n
  | 0, i, h => rfl
  | n + 1, i, h => by
    unfold firstO
    rw [h i (Nat.le_refl _) (by omega), firstO_congr n (i + 1) fun j h1 h2 => h j (by omega) (by omega)]
theorem firstO_none {β : Type} {f : Nat → Option β} : ∀ (n i : Nat), (∀ j, i ≤ j → j < i + n → f j = none) → firstO f i n = none
  | 0, i, h => rfl
  | n + 1, i, h => by
    unfold firstO
    rw [h i (Nat.le_refl _) (by omega)]
    exact firstO_none n (i + 1) fun j h1 h2 => h j (by omega) (by omega)
theorem firstO_some {β : Type} {f : Nat → Option β} : ∀ (n i : Nat) {x : β}, firstO f i n = some x → ∃ j, i ≤ j ∧ j < i + n ∧ f j = some x
  | 0, i, x, h => by cases h
  | n + 1, i, x, h => by
    unfold firstO at h
    cases hf : f i with
    | some y =>
      rw [hf] at h
      exact ⟨i, Nat.le_refl _, by omega, by rw [hf]; exact h⟩
    | none =>
      rw [hf] at h
      obtain ⟨j, h1, h2, h3⟩ := firstO_some n (i + 1) h
      exact ⟨j, by omega, by omega, h3⟩
theorem firstO_step {β : Type} {f : Nat → Option β} {i n : Nat} (h : i < n) : firstO f i (n - i) = match f i with | some x => some x | none => firstO f (i + 1) (n - (i + 1)) := by
  obtain ⟨k, hk⟩ : ∃ k, n - i = k + 1 := ⟨n - i - 1, by omega⟩
  rw [hk, show n - (i + 1) = k by omega]
  rfl
def linkS (l : List api_Certificate) (c : api_Certificate) : Bool := match l[l.length - 1]? with
  | some e => decide (e.Issuer = c.Subject) && decide (e.Seal.Key = c.KeyId)
  | none => false
section
variable (acc : List api_Certificate → Bool) (pool : List api_Certificate)
def extS : Nat → List api_Certificate → (Nat → Bool) → Option (List api_Certificate)
  | 0, l, _ => bif acc l then some l else none
  | n + 1, l, u => firstO (fun i => match pool[i]? with
    | some c => bif u i || !linkS l c then none else extS n (l ++ [c]) (fun j => decide (j = i) || u j)
    | none => none) 0 pool.length
end
section
variable {acc : List api_Certificate → Bool} {pool : List api_Certificate}
theorem extS_fit (hp : AllC pool) : ∀ (n : Nat) {l x : List api_Certificate} {u : Nat → Bool}, AllC l → extS acc pool n l u = some x → AllC x ∧ x.length = l.length + n ∧ acc x = true
  | 0, l, x, u, hl, h => by
    unfold extS at h
    cases ha : acc l with
    | true =>
      rw [ha] at h
      injection h with h
      subst h
      exact ⟨hl, rfl, ha⟩
    | false => rw [ha] at h; cases h
  | n + 1, l, x, u, hl, h => by
    unfold extS at h
    obtain ⟨i, -, -, h⟩ := firstO_some _ _ h
    cases hc : pool[i]? with
    | none => rw [hc] at h; cases h
    | some c =>
      rw [hc] at h
      dsimp only at h
      cases hb : (u i || !linkS l c) with
      | true => rw [hb] at h; cases h
      | false =>
        rw [hb] at h
        have hl' : AllC (l ++ [c]) := fun q hq => by
          rcases List.mem_append.1 hq with hq | hq
          · exact hl q hq
          · rw [List.mem_singleton.1 hq]; exact hp c (List.mem_of_getElem? hc)
        obtain ⟨h1, h2, h3⟩ := extS_fit hp n hl' h
        exact ⟨h1, by rw [h2, List.length_append, List.length_singleton]; omega, h3⟩
structure Bad (acc : List api_Certificate → Bool) (B : List api_Certificate → Bool) : Prop where
  acc : ∀ l, B l = true → acc l = false
  grow : ∀ l c, B l = true → B (l ++ [c]) = true
theorem extS_bad {B : List api_Certificate → Bool} (hB : Bad acc B) : ∀ (n : Nat) (l : List api_Certificate) (u : Nat → Bool), B l = true → extS acc pool n l u = none
  | 0, l, u, h => by
    unfold extS
    rw [hB.acc l h]; rfl
  | n + 1, l, u, h => by
    unfold extS
    refine firstO_none _ _ fun j _ _ => ?_
    cases pool[j]? with
    | none => rfl
    | some c =>
      dsimp only
      rw [extS_bad hB n (l ++ [c]) _ (hB.grow l c h)]
      cases (u j || !linkS l c) <;> rfl
theorem extS_u : ∀ (n : Nat) (l : List api_Certificate) {u v : Nat → Bool}, (∀ i, i < pool.length → u i = v i) → extS acc pool n l u = extS acc pool n l v
  | 0, l, u, v, h => rfl
  | n + 1, l, u, v, h => by
    unfold extS
    refine firstO_congr _ _ fun j _ hj => ?_
    rw [h j (by omega)]
    cases pool[j]? with
    | none => rfl
    | some c =>
      dsimp only
      rw [extS_u n (l ++ [c]) fun i hi => by rw [h i hi]]
end
theorem app_at {α : Type} {l : List α} {c : α} {i : Nat} (h : i < l.length) : (l ++ [c])[i]? = l[i]? := List.getElem?_append_left h
theorem iss_grow {l : List api_Certificate} {c : api_Certificate} {i : Nat} (h : issB l i = true) : issB (l ++ [c]) i = true := by
  unfold issB at h ⊢
  cases h1 : l[i]? with
  | none => rw [h1] at h; cases h
  | some a =>
    cases h2 : l[i + 1]? with
    | none => rw [h1, h2] at h; cases h
    | some b =>
      rw [app_at (at_lt h1), app_at (at_lt h2), h1, h2]
      rw [h1, h2] at h
      exact h
theorem path_grow {l : List api_Certificate} {c : api_Certificate} {i : Nat} (hi : i < l.length) : pathS (l ++ [c]) i = pathS l i := by
  unfold pathS
  rw [app_at hi]
theorem seal_grow {l : List api_Certificate} {c : api_Certificate} {i : Nat} (hi : i + 1 < l.length) : sealB (l ++ [c]) i = sealB l i := by
  unfold sealB keyS
  rw [app_at (by omega), app_at hi]
theorem any_range {n : Nat} {p : Nat → Bool} : (List.range n).any p = true ↔ ∃ i, i < n ∧ p i = true := by
  rw [List.any_eq_true]
  constructor
  · rintro ⟨i, h1, h2⟩; exact ⟨i, List.mem_range.1 h1, h2⟩
  · rintro ⟨i, h1, h2⟩; exact ⟨i, List.mem_range.2 h1, h2⟩
theorem fail11_grow {l : List api_Certificate} (c : api_Certificate) (h : failS 11 l = true) : failS 11 (l ++ [c]) = true := by
  unfold failS at h ⊢
  obtain ⟨i, h1, h2⟩ := any_range.1 h
  exact any_range.2 ⟨i, by simp; omega, by unfold placeB at h2 ⊢; rw [if_pos rfl] at h2 ⊢; exact iss_grow h2⟩
theorem fail15_grow {l : List api_Certificate} (c : api_Certificate) (h : failS 15 l = true) : failS 15 (l ++ [c]) = true := by
  unfold failS at h ⊢
  obtain ⟨i, h1, h2⟩ := any_range.1 h
  refine any_range.2 ⟨i, by simp; omega, ?_⟩
  unfold placeB at h2 ⊢
  rw [if_neg (by decide), if_pos rfl] at h2 ⊢
  rw [path_grow h1]; exact h2
def sealsB (l : List api_Certificate) : Bool := (List.range (l.length - 1)).any (sealB l)
theorem seals_grow {l : List api_Certificate} (c : api_Certificate) (h : sealsB l = true) : sealsB (l ++ [c]) = true := by
  unfold sealsB at h ⊢
  obtain ⟨i, h1, h2⟩ := any_range.1 h
  exact any_range.2 ⟨i, by simp; omega, by rw [seal_grow (by omega)]; exact h2⟩
theorem seals_fail {l : List api_Certificate} (h : sealsB l = true) : failS 10 l = true := by
  unfold sealsB at h
  unfold failS
  obtain ⟨i, h1, h2⟩ := any_range.1 h
  refine any_range.2 ⟨i, by omega, ?_⟩
  unfold placeB
  rw [if_neg (by decide), if_neg (by decide)]; exact h2
section
variable {anchors hashes : List Int} {day : Int} {name : ByteArray}
abbrev accS (anchors hashes : List Int) (day : Int) (name : ByteArray) (l : List api_Certificate) : Bool := decide (checkS l anchors hashes day name = 0)
theorem check_bad {l : List api_Certificate} (h : (failS 11 l || (failS 15 l || failS 10 l)) = true) : checkS l anchors hashes day name ≠ 0 := by
  unfold checkS
  cases decide (l.length = 0) <;> cases decide (8 < l.length) <;> cases l.any (fun c => !certS c) <;> cases namedB l name <;> cases l.any (dayB day) <;> cases l.any (hashB hashes) <;> cases h1 : failS 11 l <;> cases h2 : failS 15 l <;> cases h3 : failS 10 l <;> first | (rw [h1, h2, h3] at h; cases h; done) | (cases lastB l anchors <;> simp)
theorem bad_all : Bad (accS anchors hashes day name) (fun l => failS 11 l || (failS 15 l || sealsB l)) := by
  refine ⟨fun l h => decide_eq_false (check_bad ?_), fun l c h => ?_⟩
  · rw [Bool.or_eq_true, Bool.or_eq_true] at h ⊢
    rcases h with h | h | h
    · exact .inl h
    · exact .inr (.inl h)
    · exact .inr (.inr (seals_fail h))
  · rw [Bool.or_eq_true, Bool.or_eq_true] at h ⊢
    rcases h with h | h | h
    · exact .inl (fail11_grow c h)
    · exact .inr (.inl (fail15_grow c h))
    · exact .inr (.inr (seals_grow c h))
end
end Go.Proofs.Ytggimglopfdhiaa
