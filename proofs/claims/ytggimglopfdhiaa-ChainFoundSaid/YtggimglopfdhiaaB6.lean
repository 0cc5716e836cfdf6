/- What a search finds, and when it finds something. No program is in sight here. -/
import Derived.Test.YtggimglopfdhiaaB4
set_option linter.unusedVariables false
set_option linter.unusedSimpArgs false
namespace Go.Proofs.Ytggimglopfdhiaa
open Go
theorem firstO_isSome {β : Type} {f : Nat → Option β} : ∀ (n i : Nat) {j : Nat} {x : β}, i ≤ j → j < i + n → f j = some x → ∃ k y, i ≤ k ∧ k ≤ j ∧ f k = some y ∧ firstO f i n = some y
  | 0, i, j, x, h1, h2, h => by omega
  | n + 1, i, j, x, h1, h2, h => by
    unfold firstO
    cases hf : f i with
    | some y => exact ⟨i, y, Nat.le_refl _, h1, hf, rfl⟩
    | none =>
      have hne : i ≠ j := fun e => by subst e; rw [hf] at h; cases h
      obtain ⟨k, y, k1, k2, k3, k4⟩ := firstO_isSome n (i + 1) (j := j) (by omega) (by omega) h
      exact ⟨k, y, by omega, k2, k3, k4⟩
section
variable {acc : List api_Certificate → Bool} {pool : List api_Certificate}
theorem extS_mem : ∀ (n : Nat) {l x : List api_Certificate} {u : Nat → Bool}, extS acc pool n l u = some x → acc x = true ∧ ∃ t, x = l ++ t ∧ t.length = n ∧ ∀ c ∈ t, c ∈ pool
  | 0, l, x, u, h => by
    unfold extS at h
    cases ha : acc l with
    | true =>
      rw [ha] at h
      injection h with h
      subst h
      exact ⟨ha, [], (List.append_nil _).symm, rfl, fun c hc => by cases hc⟩
    | false => rw [ha] at h; cases h
  | n + 1, l, x, u, h => by
    unfold extS at h
    obtain ⟨i, -, -, h⟩ := firstO_some _ _ h
    cases hc : pool[i]? with
    | none => rw [hc] at h; cases h
    | some c =>
      rw [hc] at h
      dsimp only at h
      cases hb : (u i || !linkS l c) with
      | true => rw [hb] at h; cases h
      | false =>
        rw [hb] at h
        obtain ⟨h1, t, h2, h3, h4⟩ := extS_mem n h
        refine ⟨h1, c :: t, by rw [h2, List.append_assoc]; rfl, by simp [h3], fun q hq => ?_⟩
        rcases List.mem_cons.1 hq with rfl | hq
        · exact List.mem_of_getElem? hc
        · exact h4 q hq
theorem extS_some : ∀ (t : List api_Certificate) (p : Nat) {l : List api_Certificate} {u : Nat → Bool}, (∀ j c, t[j]? = some c → pool[p + j]? = some c ∧ u (p + j) = false) → (∀ j c, t[j]? = some c → linkS (l ++ t.take j) c = true) → acc (l ++ t) = true → ∃ x, extS acc pool t.length l u = some x
  | [], p, l, u, h1, h2, h3 => by
    rw [List.append_nil] at h3
    refine ⟨l, ?_⟩
    show (bif acc l then some l else none) = some l
    rw [h3]; rfl
  | c :: t, p, l, u, h1, h2, h3 => by
    obtain ⟨q1, q2⟩ := h1 0 c rfl
    have q3 := h2 0 c rfl
    obtain ⟨x, hx⟩ := extS_some t (p + 1) (l := l ++ [c]) (u := fun j => decide (j = p) || u j) (fun j c' hj => by
      obtain ⟨a, b⟩ := h1 (j + 1) c' hj
      refine ⟨by rw [show p + 1 + j = p + (j + 1) by omega]; exact a, ?_⟩
      rw [show p + 1 + j = p + (j + 1) by omega, b, decide_eq_false (by omega)]; rfl) (fun j c' hj => by
      have := h2 (j + 1) c' hj
      rw [List.take_succ_cons] at this
      rw [List.append_assoc]
      exact this) (by rw [List.append_assoc]; exact h3)
    show ∃ x, extS acc pool (t.length + 1) l u = some x
    unfold extS
    have hp : p < pool.length := (List.getElem?_eq_some_iff.1 q1).1
    obtain ⟨k, y, -, -, -, k4⟩ := firstO_isSome (f := fun i => match pool[i]? with
      | some c => bif u i || !linkS l c then none else extS acc pool t.length (l ++ [c]) (fun j => decide (j = i) || u j)
      | none => none) pool.length 0 (j := p) (x := x) (Nat.zero_le _) (by omega) (by
      have q1' : pool[p]? = some c := q1
      rw [q1']
      dsimp only
      have q2' : u p = false := q2
      rw [List.take_zero, List.append_nil] at q3
      rw [q2', q3]
      exact hx)
    exact ⟨y, k4⟩
end
section
variable {anchors hashes : List Int} {day : Int} {name : ByteArray}
theorem check0 {l : List api_Certificate} (h : checkS l anchors hashes day name = 0) : failS 11 l = false ∧ failS 10 l = false := by
  refine ⟨?_, ?_⟩
  · cases h1 : failS 11 l with
    | false => rfl
    | true => exact absurd h (check_bad (by rw [h1]; rfl))
  · cases h1 : failS 10 l with
    | false => rfl
    | true => exact absurd h (check_bad (by rw [h1]; simp))
theorem links {l : List api_Certificate} (h : checkS l anchors hashes day name = 0) {j : Nat} {a c : api_Certificate} (h1 : l[j]? = some a) (h2 : l[j + 1]? = some c) : decide (a.Issuer = c.Subject) = true ∧ decide (a.Seal.Key = c.KeyId) = true := by
  obtain ⟨f11, f10⟩ := check0 h
  have hj : j < l.length := (List.getElem?_eq_some_iff.1 h1).1
  constructor
  · refine Decidable.byContradiction fun hne => ?_
    have : failS 11 l = true := any_range.2 ⟨j, hj, by
      unfold placeB
      rw [if_pos rfl]
      unfold issB
      rw [h1, h2]
      simpa using hne⟩
    rw [this] at f11; cases f11
  · refine Decidable.byContradiction fun hne => ?_
    have : failS 10 l = true := any_range.2 ⟨j, hj, by
      unfold placeB
      rw [if_neg (by decide), if_neg (by decide)]
      unfold sealB keyS
      rw [h1, h2]
      dsimp only
      unfold sealS
      cases hd : decide (a.Seal.Key = c.KeyId) with
      | true => exact absurd hd hne
      | false => simp⟩
    rw [this] at f10; cases f10
theorem build_some {leaf : api_Certificate} {pool t : List api_Certificate} {p : Nat} (hp : ∀ j c, t[j]? = some c → pool[p + j]? = some c) (hlen : t.length ≤ pool.length) (h7 : t.length ≤ 7) (hc : checkS (leaf :: t) anchors hashes day name = 0) :
    ∃ x, buildS (accS anchors hashes day name) pool leaf = some x ∧ x.length ≤ t.length + 1 := by
  obtain ⟨x, hx⟩ := extS_some (acc := accS anchors hashes day name) (pool := pool) t p (l := [leaf]) (u := fun _ => false) (fun j c hj => ⟨hp j c hj, rfl⟩) (fun j c hj => by
    have hjl : j < t.length := (List.getElem?_eq_some_iff.1 hj).1
    obtain ⟨a, ha⟩ : ∃ a, (leaf :: t)[j]? = some a := ⟨_, List.getElem?_eq_getElem (by simp; omega)⟩
    have hl := links hc ha (by rw [List.getElem?_cons_succ]; exact hj)
    unfold linkS
    have e : ([leaf] ++ t.take j)[([leaf] ++ t.take j).length - 1]? = some a := by
      have e1 : ([leaf] ++ t.take j).length - 1 = j := by simp; omega
      rw [e1, show [leaf] ++ t.take j = (leaf :: t).take (j + 1) from rfl, List.getElem?_take, if_pos (by omega)]
      exact ha
    rw [e]
    dsimp only
    rw [hl.1, hl.2]; rfl) (decide_eq_true hc)
  unfold buildS
  obtain ⟨k, y, -, k2, k3, k4⟩ := firstO_isSome (f := fun k => extS (accS anchors hashes day name) pool k [leaf] (fun _ => false)) (min (pool.length + 1) 8) 0 (j := t.length) (x := x) (Nat.zero_le _) (by omega) hx
  refine ⟨y, k4, ?_⟩
  obtain ⟨-, t', h1, h2, -⟩ := extS_mem k k3
  rw [h1]
  simp
  omega
end
end Go.Proofs.Ytggimglopfdhiaa
