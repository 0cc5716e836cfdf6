/- What plain functions come to: a small logic. No program is in sight here. -/
import Derived.Test.YtfkgbfhpibiheaaL2
set_option linter.unusedVariables false
set_option linter.unusedSimpArgs false
namespace Go.Proofs.Ytfkgbfhpibiheaa
open Go
def Ok {α : Type} (x : Option α) (Q : α → Prop) : Prop := ∃ a, x = some a ∧ Q a
section
variable {α β S R : Type} {x y : Option α} {f : α → Option β} {Q : α → Prop} {T : β → Prop}
theorem Ok.bind (h : Ok x Q) (k : ∀ a, Q a → Ok (f a) T) : Ok (x.bind f) T := by
  obtain ⟨a, rfl, h⟩ := h
  exact k a h
theorem Ok.bindE {a : α} (h : x = some a) (k : Ok (f a) T) : Ok (x.bind f) T := by subst h; exact k
theorem Ok.cond {b : Bool} (h : b = true → Ok x Q) (k : b = false → Ok y Q) : Ok (cond b x y) Q := by
  cases b with
  | true => exact h rfl
  | false => exact k rfl
theorem Ok.ret {a : α} (h : Q a) : Ok (some a) Q := ⟨a, rfl, h⟩
theorem Ok.of {a : α} (h : x = some a) (k : Q a) : Ok x Q := ⟨a, h, k⟩
theorem Ok.mono {Q' : α → Prop} (h : Ok x Q) (k : ∀ a, Q a → Q' a) : Ok x Q' := by
  obtain ⟨a, h, q⟩ := h
  exact ⟨a, h, k a q⟩
def Rd' (Inv : S → Prop) (Q : R → Prop) : Lp S R → Prop
  | .next s => Inv s
  | .done r => Q r
theorem Ok.up {Q : R → Prop} {x : Option R} {I : S → Prop} (h : Ok x Q) : Ok (up x : Option (Lp S R)) (Rd' I Q) := by
  obtain ⟨r, rfl, h⟩ := h
  exact ⟨_, rfl, h⟩
theorem Ok.loop {body : S → Option (Lp S R)} (Inv : S → Prop) (μ : S → Nat) {Q : R → Prop} {s : S} (h : ∀ s, Inv s → Ok (body s) (Rd' (fun s' => Inv s' ∧ μ s' < μ s) Q)) (hs : Inv s) : Ok (loop body s) Q :=
  loop_inv Inv μ Q (fun s hs => by
    obtain ⟨o, h1, h2⟩ := h s hs
    refine ⟨o, h1, ?_⟩
    cases o <;> exact h2) s hs
theorem Ok.and {T' : α → Prop} (h : Ok x Q) (k : Ok x T') : Ok x (fun a => Q a ∧ T' a) := by
  obtain ⟨a, h1, h2⟩ := h
  obtain ⟨b, h3, h4⟩ := k
  rw [h1] at h3
  injection h3 with h3
  subst h3
  exact ⟨a, h1, h2, h4⟩
theorem fixT_ok {A B : Type} {F : (A → Option B) → A → Option B} (hm : MonoF F) (μ : A → Nat) (Pre : A → Prop) (Post : A → B → Prop) (h : ∀ rec a, Pre a → (∀ b, Pre b → μ b < μ a → Ok (rec b) (Post b)) → Ok (F rec a) (Post a)) (a : A) (ha : Pre a) : Ok (fixT F a) (Post a) := by
  have key : ∀ n a, Pre a → μ a < n → Ok (fixN F n a) (Post a) := by
    intro n
    induction n with
    | zero => intro a _ h0; exact absurd h0 (Nat.not_lt_zero _)
    | succ n ih => intro a ha hn; exact h _ a ha fun b hb hl => ih b hb (by omega)
  obtain ⟨r, h1, h2⟩ := key (μ a + 1) a ha (Nat.lt_succ_self _)
  exact ⟨r, fixT_of hm h1, h2⟩
theorem Ok.true_ {x : Option Bool} (h : Ok x (fun r => r = true)) : x = some true := by
  obtain ⟨a, h1, rfl⟩ := h
  exact h1
end
theorem getI_ok {α : Type} {l : List α} {i : Int} (h0 : 0 ≤ i) (h1 : i < l.length) : Ok (getI l i) (fun x => l[i.toNat]? = some x) := by
  have h2 : i.toNat < l.length := by omega
  refine ⟨l[i.toNat], ?_, List.getElem?_eq_getElem h2⟩
  rw [getI_eq h0]
  exact List.getElem?_eq_getElem h2
theorem getI_mem {α : Type} {l : List α} {i : Int} (h0 : 0 ≤ i) (h1 : i < l.length) : Ok (getI l i) (fun x => x ∈ l) := (getI_ok h0 h1).mono fun _ h => List.mem_of_getElem? h
theorem lo_small {α : Type} {l : List α} (h : l.length ≤ 1000000) : Lo l := by unfold Lo; omega
end Go.Proofs.Ytfkgbfhpibiheaa
