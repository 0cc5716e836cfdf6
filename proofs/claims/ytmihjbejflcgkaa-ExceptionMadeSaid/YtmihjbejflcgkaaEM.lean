/- A walk's loop over a map's entries. -/
import Derived.Test.YtmihjbejflcgkaaEF
import Derived.Test.YtmihjbejflcgkaaEH
import Derived.Test.YtmihjbejflcgkaaPM
set_option linter.unusedVariables false
set_option linter.unusedSimpArgs false
namespace Go.Proofs.Ytmihjbejflcgkaa
open Go.RowKit
theorem mlp_ {P : Program} {cx : Cx} {σ : St} {Q : Exit → St → Prop} {x : Code} {α S R : Type} {body : α → S → Option (Lp S R)} {ed : S → Option (Lp S R)} {l : List α} {s0 : S} {r : R} (st : List Nat → S → St) (hg : mloop body ed l s0 = some r) (h0 : Sub cx σ (st [] s0))
    (round : ∀ (s : S) (sn : List Nat), MH body ed l r sn s → awp P cx x (thn (fun σ' => ∃ j : List Nat × S, (rest l.length j.1).length < (rest l.length sn).length ∧ MH body ed l r j.1 j.2 ∧ Sub cx σ' (st j.1 j.2)) Q) (st sn s)) : awp P cx (.loop x) Q σ :=
  awp_loop (ι := List Nat × S) (fun q => st q.1 q.2) (fun q => MH body ed l r q.1 q.2) (fun q => (rest l.length q.1).length) ([], s0) h0 (MH.init hg) fun q hq => round q.2 q.1 hq
theorem kvs_get {κ ν : Type} {f : κ → Value} {g : ν → Value} {l : List (κ × ν)} {i : Nat} {p : Value × Value} (h : (kvs f g l)[i]? = some p) : ∃ x, l[i]? = some x ∧ p = (f x.1, g x.2) := by
  unfold kvs at h
  rw [List.getElem?_map] at h
  cases hx : l[i]? with
  | none => rw [hx] at h; cases h
  | some x => rw [hx] at h; injection h with h; exact ⟨x, rfl, h.symm⟩
theorem kvs_it {κ ν : Type} {f : κ → Value} {g : ν → Value} {l : List (κ × ν)} {i : Nat} {x : κ × ν} (h : l[i]? = some x) : (kvs f g l)[i]? = some (f x.1, g x.2) := by
  unfold kvs
  rw [List.getElem?_map, h]
  rfl
theorem kvs_len {κ ν : Type} {f : κ → Value} {g : ν → Value} {l : List (κ × ν)} : (kvs f g l).length = l.length := by simp [kvs]
theorem next_all {κ ν : Type} {f : κ → Value} {g : ν → Value} {l : List (κ × ν)} {seen : List Nat} (h : ∀ i, i < (kvs f g l).length → i ∈ seen) : ∀ i, i < l.length → i ∈ seen := by
  rw [kvs_len] at h
  exact h
theorem next_ex {j k : Nat} {l : List (Value × Value)} {n : Nat} {seen : List Nat} (hn : n = l.length) : ∃ e : Eff, ((∀ i, i < n → i ∈ seen) ∧ e = wrtD j (.mit k n seen) (some (.tup [.val (.bool false)]))) ∨ ∃ i p, l[i]? = some p ∧ i ∉ seen ∧ e = wrtD j (.mit k n (seen ++ [i])) (some (.tup [.val (.bool true), .val p.1, .val p.2])) := by
  subst hn
  by_cases h : ∀ i, i < l.length → i ∈ seen
  · exact ⟨_, .inl ⟨h, rfl⟩⟩
  · have : ∃ i, ¬ (i < l.length → i ∈ seen) := Classical.not_forall.1 h
    obtain ⟨i, hi⟩ := this
    rw [Classical.not_imp] at hi
    exact ⟨_, .inr ⟨i, l[i]'hi.1, List.getElem?_eq_getElem hi.1, hi.2, rfl⟩⟩
end Go.Proofs.Ytmihjbejflcgkaa
