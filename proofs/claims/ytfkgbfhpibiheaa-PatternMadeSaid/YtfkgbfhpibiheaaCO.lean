/- Plain texts, joined. No program is in sight here. -/
import Derived.Test.YtfkgbfhpibiheaaPU
set_option linter.unusedVariables false
set_option linter.unusedSimpArgs false
namespace Go.Proofs.Ytfkgbfhpibiheaa
section
structure Mv {α : Type} (lt : α -> α -> Bool) : Prop where
 irrefl : ∀ a, lt a a = false
 trans : ∀ a b c, lt a b = true -> lt b c = true -> lt a c = true
 tot : ∀ a b, lt a b = false -> lt b a = false -> a = b
section
variable {α : Type} {lt : α -> α -> Bool}
theorem Mv.asymm (h : Mv lt) {a b : α} (hab : lt a b = true) : lt b a = false := by
 cases hb : lt b a with
 | false => rfl
 | true => have := h.trans _ _ _ hab hb; rw [h.irrefl] at this; cases this
theorem Mv.ne (h : Mv lt) {a b : α} (hab : lt a b = true) : a ≠ b := fun e => by
 rw [e, h.irrefl] at hab
 cases hab
abbrev Z7 (lt : α -> α -> Bool) (l : List α) : Prop := l.Pairwise fun x y => lt x y = true
theorem Z7.nodup (h : Mv lt) {l : List α} (hl : Z7 lt l) : l.Nodup := hl.imp fun hab => h.ne hab
theorem Xt (h : Mv lt) : ∀ {l m : List α}, Z7 lt l -> Z7 lt m -> (∀ x, x ∈ l ↔ x ∈ m) -> l = m
 | [], [], _, _, _ => rfl
 | [], y :: m, _, _, he => by have := (he y).2 (.head _); cases this
 | x :: l, [], _, _, he => by have := (he x).1 (.head _); cases this
 | x :: l, y :: m, hl, hm, he => by
  obtain ⟨l1, l2⟩ := zO.1 hl
  obtain ⟨m1, m2⟩ := zO.1 hm
  have hxy : x = y := by
   rcases yI.1 ((he x).1 (.head _)) with h1 | h1
   ·exact h1
   ·rcases yI.1 ((he y).2 (.head _)) with h2 | h2
    ·exact h2.symm
    ·have a1 := m1 x h1
     have a2 := l1 y h2
     rw [h.asymm a1] at a2
     cases a2
  subst hxy
  rw [Xt h l2 m2 fun z => ⟨fun hz => ?_, fun hz => ?_⟩]
  ·rcases yI.1 ((he z).1 (.tail _ hz)) with rfl | h1
   ·have := l1 z hz
    rw [h.irrefl] at this; cases this
   ·exact h1
  ·rcases yI.1 ((he z).2 (.tail _ hz)) with rfl | h1
   ·have := m1 z hz
    rw [h.irrefl] at this; cases this
   ·exact h1
def Kl (lt : α -> α -> Bool) : List α -> α -> List α
 | [], x => [x]
 | y :: l, x => bif lt y x then y :: Kl lt l x else bif lt x y then x :: y :: l else y :: l
theorem T1 (h : Mv lt) {x z : α} : ∀ {l : List α}, z ∈ Kl lt l x ↔ z = x \/ z ∈ l
 | [] => by simp [Kl]
 | y :: l => by
  unfold Kl
  cases h1 : lt y x with
  | true => rw [xT, yI, T1 h (l := l), yI]; exact ⟨fun h => h.elim (fun h => .inr (.inl h)) fun h => h.elim .inl fun h => .inr (.inr h), fun h => h.elim (fun h => .inr (.inl h)) fun h => h.elim .inl fun h => .inr (.inr h)⟩
  | false =>
   cases h2 : lt x y with
   | true => rw [xP, xT, yI]
   | false =>
    rw [xP, xP, h.tot y x h1 h2]
    exact ⟨.inr, fun hh => hh.elim (fun e => by rw [e]; exact .head _) id⟩
theorem Z3 (h : Mv lt) {x : α} : ∀ {l : List α}, Z7 lt l -> Z7 lt (Kl lt l x)
 | [], _ => by simp [Kl]
 | y :: l, hl => by
  obtain ⟨l1, l2⟩ := zO.1 hl
  unfold Kl
  cases h1 : lt y x with
  | true =>
   rw [xT]
   refine zO.2 ⟨fun z hz => ?_, Z3 h l2⟩
   rcases (T1 h).1 hz with rfl | hz
   ·exact h1
   ·exact l1 z hz
  | false =>
   cases h2 : lt x y with
   | true =>
    rw [xP, xT]
    refine zO.2 ⟨fun z hz => ?_, hl⟩
    rcases yI.1 hz with rfl | hz
    ·exact h2
    ·exact h.trans _ _ _ h2 (l1 z hz)
   | false => exact hl
def I4 (lt : α -> α -> Bool) (l : List α) : List α := l.foldl (Kl lt) []
theorem Uo (h : Mv lt) : ∀ (l a : List α), Z7 lt a -> Z7 lt (l.foldl (Kl lt) a) /\ ∀ z, z ∈ l.foldl (Kl lt) a ↔ z ∈ a \/ z ∈ l
 | [], a, ha => ⟨ha, fun z => by simp⟩
 | x :: l, a, ha => by
  obtain ⟨h1, h2⟩ := Uo h l (Kl lt a x) (Z3 h ha)
  refine ⟨h1, fun z => ?_⟩
  rw [List.foldl_cons, h2 z, T1 h, yI]
  exact ⟨fun h => h.elim (fun h => h.elim (fun h => .inr (.inl h)) .inl) fun h => .inr (.inr h), fun h => h.elim (fun h => .inl (.inr h)) fun h => h.elim (fun h => .inl (.inl h)) .inr⟩
theorem Wn (h : Mv lt) (l : List α) : Z7 lt (I4 lt l) := (Uo h l [] .nil).1
theorem fA (h : Mv lt) {l : List α} {z : α} : z ∈ I4 lt l ↔ z ∈ l := by
 have := (Uo h l [] .nil).2 z
 simpa [I4] using this
theorem lG (h : Mv lt) {l m : List α} (hm : Z7 lt m) (he : ∀ z, z ∈ m ↔ z ∈ l) : m = I4 lt l := Xt h hm (Wn h l) fun z => (he z).trans (fA h).symm
theorem Zb (lt : α -> α -> Bool) (x : α) : ∀ l : List α, (Kl lt l x).length <= l.length + 1
 | [] => by simp [Kl]
 | y :: l => by
  unfold Kl
  cases lt y x with
  | true => have := Zb lt x l; simp only [xT, aAp]; omega
  | false => cases lt x y <;> simp
theorem Zp (lt : α -> α -> Bool) : ∀ l a : List α, (l.foldl (Kl lt) a).length <= a.length + l.length
 | [], a => by simp
 | x :: l, a => by
  have h1 := Zp lt l (Kl lt a x)
  have h2 := Zb lt x a
  rw [List.foldl_cons, aAp]
  omega
theorem V5 (lt : α -> α -> Bool) (l : List α) : (I4 lt l).length <= l.length := by
 have := Zp lt l []
 simpa [I4] using this
def Jk [DecidableEq α] : List α -> List α
 | [] => []
 | [x] => [x]
 | x :: y :: l => if x = y then Jk (y :: l) else x :: Jk (y :: l)
theorem Vh [DecidableEq α] {z : α} : ∀ {l : List α}, z ∈ Jk l ↔ z ∈ l
 | [] => by simp [Jk]
 | [x] => by simp [Jk]
 | x :: y :: l => by
  unfold Jk
  have ih := Vh (z := z) (l := y :: l)
  split
  ·rename_i e
   rw [ih, e]
   simp
  ·simp only [yI] at ih ⊢
   rw [ih]
theorem Yw [DecidableEq α] (h : Mv lt) : ∀ {l : List α}, (l.Pairwise fun x y => lt y x = false) -> Z7 lt (Jk l)
 | [], _ => .nil
 | [x], _ => by simp [Jk]
 | x :: y :: l, hl => by
  obtain ⟨l1, l2⟩ := zO.1 hl
  have ih := Yw h l2
  unfold Jk
  split
  ·exact ih
  ·rename_i hne
   refine zO.2 ⟨fun z hz => ?_, ih⟩
   have hz := Vh.1 hz
   have hxy : lt x y = true := by
    cases hh : lt x y with
    | true => rfl
    | false => exact absurd (h.tot x y hh (l1 y (.head _))) hne
   rcases yI.1 hz with rfl | hz
   ·exact hxy
   ·have h3 := (zO.1 l2).1 z hz
    cases hh : lt y z with
    | true => exact h.trans _ _ _ hxy hh
    | false => rw [<- h.tot y z hh h3]; exact hxy
theorem iN [DecidableEq α] (h : Mv lt) {l r : List α} (hp : r.Perm l) (hr : r.Pairwise fun x y => lt y x = false) : Jk r = I4 lt l := lG h (Yw h hr) fun z => Vh.trans hp.mem_iff
end
end
section
structure Pre {α : Type} (c : α -> α -> Int) : Prop where
 anti : ∀ a b, c b a = - c a b
 tr : ∀ a b d, c a b <= 0 -> c b d <= 0 -> c a d <= 0
section
variable {α β : Type} {c c' : α -> α -> Int}
theorem Pre.self (h : Pre c) (a : α) : c a a = 0 := by have := h.anti a a; omega
theorem Pre.lt_le (h : Pre c) {a b d : α} (h1 : c a b < 0) (h2 : c b d <= 0) : c a d < 0 := by
 have h3 := h.tr a b d (by omega) h2
 by_cases h4 : c a d = 0
 ·have h5 := h.tr b d a h2 (by have := h.anti a d; omega)
  have := h.anti a b
  omega
 ·omega
theorem Pre.le_lt (h : Pre c) {a b d : α} (h1 : c a b <= 0) (h2 : c b d < 0) : c a d < 0 := by
 have h3 := h.tr a b d h1 (by omega)
 by_cases h4 : c a d = 0
 ·have h5 := h.tr d a b (by have := h.anti a d; omega) h1
  have := h.anti b d
  omega
 ·omega
def bR (c c' : α -> α -> Int) (a b : α) : Int := bif decide (c a b = 0) then c' a b else c a b
theorem Pp {a b : α} (h : c a b = 0) : bR c c' a b = c' a b := by unfold bR; rw [xN h]; rfl
theorem Mm {a b : α} (h : c a b ≠ 0) : bR c c' a b = c a b := by unfold bR; rw [xL h]; rfl
theorem Pre.lex (h : Pre c) (h' : Pre c') : Pre (bR c c') where
 anti a b := by
  have h1 := h.anti a b
  by_cases hz : c a b = 0
  ·rw [Pp hz, Pp (by omega)]; exact h'.anti a b
  ·rw [Mm hz, Mm (by omega)]; exact h1
 tr a b d h1 h2 := by
  by_cases z1 : c a b = 0
  ·rw [Pp z1] at h1
   by_cases z2 : c b d = 0
   ·rw [Pp z2] at h2
    have z3 : c a d = 0 := by
     have e1 := h.tr a b d (by omega) (by omega)
     have e2 := h.tr d b a (by have := h.anti b d; omega) (by have := h.anti a b; omega)
     have := h.anti a d
     omega
    rw [Pp z3]
    exact h'.tr a b d h1 h2
   ·rw [Mm z2] at h2
    have := h.le_lt (a := a) (b := b) (d := d) (by omega) (by omega)
    rw [Mm (by omega)]
    omega
  ·rw [Mm z1] at h1
   have h2' : c b d <= 0 := by
    by_cases z2 : c b d = 0
    ·omega
    ·rw [Mm z2] at h2; exact h2
   have := h.lt_le (a := a) (b := b) (d := d) (by omega) h2'
   rw [Mm (by omega)]
   omega
theorem mR {a b : α} (h : bR c c' a b = 0) : c a b = 0 /\ c' a b = 0 := by
 by_cases hz : c a b = 0
 ·rw [Pp hz] at h; exact ⟨hz, h⟩
 ·rw [Mm hz] at h; exact absurd h hz
theorem Pre.by_ (f : α -> β) {d : β -> β -> Int} (h : Pre d) : Pre fun a b => d (f a) (f b) := ⟨fun a b => h.anti _ _, fun a b d' h1 h2 => h.tr _ _ _ h1 h2⟩
theorem Pre.lin (h : Pre c) (h0 : ∀ a b, c a b = 0 -> a = b) : Mv fun a b => decide (c a b < 0) where
 irrefl a := xL (by rw [h.self]; omega)
 trans a b d h1 h2 := xN (h.lt_le (xU h1) (by have := xU h2; omega))
 tot a b h1 h2 := by
  have h1 := yB h1
  have h2 := yB h2
  have := h.anti a b
  exact h0 a b (by omega)
end
def Qq (x y : Int) : Int := bif decide (x < y) then -1 else bif decide (y < x) then 1 else 0
theorem Z2 : Pre Qq where
 anti a b := by
  unfold Qq
  by_cases h1 : a < b
  ·rw [xN h1, xL (by omega)]; rfl
  ·by_cases h2 : b < a
   ·rw [xN h2, xL h1]; rfl
   ·rw [xL h2, xL h1]; rfl
 tr a b d h1 h2 := by
  have key : ∀ x y, Qq x y <= 0 ↔ x <= y := fun x y => by
   unfold Qq
   by_cases h1 : x < y
   ·rw [xN h1]; simp; omega
   ·by_cases h2 : y < x
    ·rw [xN h2, xL h1]; simp; omega
    ·rw [xL h2, xL h1]; simp; omega
  rw [key] at *
  omega
theorem dK {x y : Int} (h : Qq x y = 0) : x = y := by
 unfold Qq at h
 by_cases h1 : x < y
 ·rw [xN h1] at h; cases h
 ·by_cases h2 : y < x
  ·rw [xN h2, xL h1] at h; cases h
  ·omega
end
end Go.Proofs.Ytfkgbfhpibiheaa
