/- Plain texts, joined. No program is in sight here. -/
import Derived.Test.YtkpcbnnlefcebaaGreatPU
import Derived.Test.YtkpcbnnlefcebaaGreatL3
import Derived.Test.YtkpcbnnlefcebaaGreatC1
import Derived.Test.YtkpcbnnlefcebaaGreatW3
import Derived.Test.YtkpcbnnlefcebaaGreatSO5need_required
import Derived.KernelRfl
set_option linter.unusedVariables false
set_option linter.unusedSimpArgs false
set_option autoImplicit false
namespace Go.Proofs.YtkpcbnnlefcebaaGreat
section
structure Tv {α : Type} (lt : α -> α -> Bool) : Prop where
 irrefl : ∀ a, lt a a = false
 trans : ∀ a b c, lt a b = true -> lt b c = true -> lt a c = true
 tot : ∀ a b, lt a b = false -> lt b a = false -> a = b
section
variable {α : Type} {lt : α -> α -> Bool}
theorem Tv.asymm (h : Tv lt) {a b : α} (hab : lt a b = true) : lt b a = false := by
 cases hb : lt b a with
 | false => rfl
 | true => have := h.trans _ _ _ hab hb; rw [h.irrefl] at this; cases this
abbrev kV (lt : α -> α -> Bool) (l : List α) : Prop := l.Pairwise fun x y => lt x y = true
theorem eM (h : Tv lt) : ∀ {l m : List α}, kV lt l -> kV lt m -> (∀ x, x ∈ l ↔ x ∈ m) -> l = m
 | [], [], _, _, _ => rfl
 | [], y :: m, _, _, he => by have := (he y).2 (.head _); cases this
 | x :: l, [], _, _, he => by have := (he x).1 (.head _); cases this
 | x :: l, y :: m, hl, hm, he => by
  obtain ⟨l1, l2⟩ := List.pairwise_cons.1 hl
  obtain ⟨m1, m2⟩ := List.pairwise_cons.1 hm
  have hxy : x = y := by
   rcases List.mem_cons.1 ((he x).1 (.head _)) with h1 | h1
   ·exact h1
   ·rcases List.mem_cons.1 ((he y).2 (.head _)) with h2 | h2
    ·exact h2.symm
    ·have a1 := m1 x h1
     have a2 := l1 y h2
     rw [h.asymm a1] at a2
     cases a2
  subst hxy
  rw [eM h l2 m2 fun z => ⟨fun hz => ?_, fun hz => ?_⟩]
  ·rcases List.mem_cons.1 ((he z).1 (.tail _ hz)) with rfl | h1
   ·have := l1 z hz
    rw [h.irrefl] at this; cases this
   ·exact h1
  ·rcases List.mem_cons.1 ((he z).2 (.tail _ hz)) with rfl | h1
   ·have := m1 z hz
    rw [h.irrefl] at this; cases this
   ·exact h1
def R8 (lt : α -> α -> Bool) : List α -> α -> List α
 | [], x => [x]
 | y :: l, x => bif lt y x then y :: R8 lt l x else bif lt x y then x :: y :: l else y :: l
theorem W1 (h : Tv lt) {x z : α} : ∀ {l : List α}, z ∈ R8 lt l x ↔ z = x \/ z ∈ l
 | [] => by simp [R8]
 | y :: l => by
  unfold R8
  cases h1 : lt y x with
  | true => rw [cond_true, List.mem_cons, W1 h (l := l), List.mem_cons]; exact ⟨fun h => h.elim (fun h => .inr (.inl h)) fun h => h.elim .inl fun h => .inr (.inr h), fun h => h.elim (fun h => .inr (.inl h)) fun h => h.elim .inl fun h => .inr (.inr h)⟩
  | false =>
   cases h2 : lt x y with
   | true => rw [cond_false, cond_true, List.mem_cons]
   | false =>
    rw [cond_false, cond_false, h.tot y x h1 h2]
    exact ⟨.inr, fun hh => hh.elim (fun e => by rw [e]; exact .head _) id⟩
theorem bR (h : Tv lt) {x : α} : ∀ {l : List α}, kV lt l -> kV lt (R8 lt l x)
 | [], _ => by simp [R8]
 | y :: l, hl => by
  obtain ⟨l1, l2⟩ := List.pairwise_cons.1 hl
  unfold R8
  cases h1 : lt y x with
  | true =>
   rw [cond_true]
   refine List.pairwise_cons.2 ⟨fun z hz => ?_, bR h l2⟩
   rcases (W1 h).1 hz with rfl | hz
   ·exact h1
   ·exact l1 z hz
  | false =>
   cases h2 : lt x y with
   | true =>
    rw [cond_false, cond_true]
    refine List.pairwise_cons.2 ⟨fun z hz => ?_, hl⟩
    rcases List.mem_cons.1 hz with rfl | hz
    ·exact h2
    ·exact h.trans _ _ _ h2 (l1 z hz)
   | false => exact hl
def H9 (lt : α -> α -> Bool) (l : List α) : List α := l.foldl (R8 lt) []
theorem W9 (h : Tv lt) : ∀ (l a : List α), kV lt a -> kV lt (l.foldl (R8 lt) a) /\ ∀ z, z ∈ l.foldl (R8 lt) a ↔ z ∈ a \/ z ∈ l
 | [], a, ha => ⟨ha, fun z => by simp⟩
 | x :: l, a, ha => by
  obtain ⟨h1, h2⟩ := W9 h l (R8 lt a x) (bR h ha)
  refine ⟨h1, fun z => ?_⟩
  rw [List.foldl_cons, h2 z, W1 h, List.mem_cons]
  exact ⟨fun h => h.elim (fun h => h.elim (fun h => .inr (.inl h)) .inl) fun h => .inr (.inr h), fun h => h.elim (fun h => .inl (.inr h)) fun h => h.elim (fun h => .inl (.inl h)) .inr⟩
theorem U4 (h : Tv lt) (l : List α) : kV lt (H9 lt l) := (W9 h l [] .nil).1
theorem Mz (h : Tv lt) {l : List α} {z : α} : z ∈ H9 lt l ↔ z ∈ l := by
 have := (W9 h l [] .nil).2 z
 simpa [H9] using this
theorem Xw (h : Tv lt) {l m : List α} (hm : kV lt m) (he : ∀ z, z ∈ m ↔ z ∈ l) : m = H9 lt l := eM h hm (U4 h l) fun z => (he z).trans (Mz h).symm
theorem cX (h : Tv lt) {l : List α} (hl : kV lt l) : H9 lt l = l := (Xw h hl fun _ => Iff.rfl).symm
theorem bA (lt : α -> α -> Bool) (x : α) : ∀ l : List α, (R8 lt l x).length <= l.length + 1
 | [] => by simp [R8]
 | y :: l => by
  unfold R8
  cases lt y x with
  | true => have := bA lt x l; simp only [cond_true, List.length_cons]; omega
  | false => cases lt x y <;> simp
theorem bJ (lt : α -> α -> Bool) : ∀ l a : List α, (l.foldl (R8 lt) a).length <= a.length + l.length
 | [], a => by simp
 | x :: l, a => by
  have h1 := bJ lt l (R8 lt a x)
  have h2 := bA lt x a
  rw [List.foldl_cons, List.length_cons]
  omega
theorem Yx (lt : α -> α -> Bool) (l : List α) : (H9 lt l).length <= l.length := by
 have := bJ lt l []
 simpa [H9] using this
def Ll [DecidableEq α] : List α -> List α
 | [] => []
 | [x] => [x]
 | x :: y :: l => if x = y then Ll (y :: l) else x :: Ll (y :: l)
theorem Xf [DecidableEq α] {z : α} : ∀ {l : List α}, z ∈ Ll l ↔ z ∈ l
 | [] => by simp [Ll]
 | [x] => by simp [Ll]
 | x :: y :: l => by
  unfold Ll
  have ih := Xf (z := z) (l := y :: l)
  split
  ·rename_i e
   rw [ih, e]
   simp
  ·simp only [List.mem_cons] at ih ⊢
   rw [ih]
theorem cC [DecidableEq α] (h : Tv lt) : ∀ {l : List α}, (l.Pairwise fun x y => lt y x = false) -> kV lt (Ll l)
 | [], _ => .nil
 | [x], _ => by simp [Ll]
 | x :: y :: l, hl => by
  obtain ⟨l1, l2⟩ := List.pairwise_cons.1 hl
  have ih := cC h l2
  unfold Ll
  split
  ·exact ih
  ·rename_i hne
   refine List.pairwise_cons.2 ⟨fun z hz => ?_, ih⟩
   have hz := Xf.1 hz
   have hxy : lt x y = true := by
    cases hh : lt x y with
    | true => rfl
    | false => exact absurd (h.tot x y hh (l1 y (.head _))) hne
   rcases List.mem_cons.1 hz with rfl | hz
   ·exact hxy
   ·have h3 := (List.pairwise_cons.1 l2).1 z hz
    cases hh : lt y z with
    | true => exact h.trans _ _ _ hxy hh
    | false => rw [<- h.tot y z hh h3]; exact hxy
theorem kZ [DecidableEq α] (h : Tv lt) {l r : List α} (hp : r.Perm l) (hr : r.Pairwise fun x y => lt y x = false) : Ll r = H9 lt l := Xw h (cC h hr) fun z => Xf.trans hp.mem_iff
end
end
section
open Go
theorem Kr (x : Aa) : ∀ l : List Aa, Ll (l ++ [x]) = if l.getLast? = some x then Ll l else Ll l ++ [x]
 | [] => by simp [Ll]
 | [y] => by
  show (if y = x then Ll [x] else y :: Ll [x]) = _
  by_cases h : y = x
  ·rw [if_pos h, if_pos (by simp [h]), h]
  ·rw [if_neg h, if_neg (by simpa using h)]
   rfl
 | y :: z :: l => by
  have ih := Kr x (z :: l)
  show (if y = z then Ll (z :: (l ++ [x])) else y :: Ll (z :: (l ++ [x]))) = _
  rw [List.getLast?_cons_cons]
  have e : Ll (y :: z :: l) = if y = z then Ll (z :: l) else y :: Ll (z :: l) := rfl
  rw [e, show z :: (l ++ [x]) = z :: l ++ [x] from rfl, ih]
  by_cases h : y = z
  ·rw [if_pos h, if_pos h]
  ·rw [if_neg h, if_neg h]
   split <;> rfl
theorem Kx {s : List Aa} {i : Nat} {x y : Aa} (hx : s[i + 1]? = some x) (hy : s[i]? = some y) : Ll (s.take (i + 2)) = if y = x then Ll (s.take (i + 1)) else Ll (s.take (i + 1)) ++ [x] := by
 rw [Kn hx, Kr]
 rw [show (s.take (i + 1)).getLast? = some y by rw [Kn hy]; simp]
 by_cases h : y = x
 ·rw [if_pos (by rw [h]), if_pos h]
 ·rw [if_neg (fun e => h (by injection e)), if_neg h]
theorem Qh (s : List Aa) (hs : s.length < 4611686018427387904) : Ok (Bf s) (fun r => r = Ll s) := by
 unfold Bf
 refine Ok.cond (fun h => Ok.ret ?_) (fun h => ?_)
 ·have h := of_decide_eq_true h
  match s, h with
  | [], _ => rfl
  | [x], _ => rfl
  | _ :: _ :: _, h => simp only [List.length_cons] at h; omega
 ·have h := of_decide_eq_false h
  refine Ok.loop (fun k : Int => ∃ i : Nat, k = ((i + 1 : Nat) : Int) /\ i + 1 <= s.length /\ Ll (s.take (i + 1)) = s.take (i + 1)) (fun k => s.length - k.toNat) ?_ ⟨0, rfl, by omega, ?_⟩
  ·rintro k ⟨i, rfl, hi, hc⟩
   show Ok (Bf.l1 s ((i + 1 : Nat) : Int)) _
   unfold Bf.l1
   refine Ok.cond (fun h1 => ?_) (fun h1 => ?_)
   ·have h1 := of_decide_eq_true h1
    obtain ⟨x, hx⟩ : ∃ x, s[i + 1]? = some x := ⟨_, List.getElem?_eq_getElem (by omega)⟩
    obtain ⟨y, hy⟩ : ∃ y, s[i]? = some y := ⟨_, List.getElem?_eq_getElem (by omega)⟩
    refine Ok.bindE (D8.trans hx) ?_
    rw [Es (show -9223372036854775808 <= ((i + 1 : Nat) : Int) - 1 /\ ((i + 1 : Nat) : Int) - 1 <= 9223372036854775807 by omega), show ((i + 1 : Nat) : Int) - 1 = (i : Int) by omega]
    refine Ok.bindE (D8.trans hy) ?_
    have hst := Kx hx hy
    refine Ok.cond (fun h2 => ?_) (fun h2 => Ok.ret ⟨⟨i + 1, ?_, by omega, ?_⟩, ?_⟩)
    ·have h2 := of_decide_eq_true h2
     rw [if_pos h2.symm, hc] at hst
     refine Ok.bind (Wr (a := ((i + 1 : Nat) : Int)) (b := (s.length : Int)) (by omega)) fun l _ => ?_
     refine Ok.loop (fun q : Int × Int × List Aa => ∃ a b : Nat, q.1 = (a : Int) /\ q.2.1 = ((b + 1 : Nat) : Int) /\ a <= i + 1 + b /\ i + 1 + b + 1 <= s.length /\ q.2.2.length = s.length /\ q.2.2.take a = Ll (s.take (i + 1 + b + 1)) /\ ∀ m, i + 1 + b <= m -> q.2.2[m]? = s[m]?) (fun q => s.length - q.2.1.toNat) ?_ ⟨i + 1, 0, rfl, rfl, by omega, by omega, rfl, hst.symm, fun _ _ => rfl⟩
     rintro ⟨k', k2, s'⟩ ⟨a, b, e1, e2, h3, h4, h5, h6, h7⟩
     simp only at e1 e2 h5 h6 h7
     subst e1 e2
     show Ok (Bf.l2 s ((i + 1 : Nat) : Int) (a : Int) ((b + 1 : Nat) : Int) s') _
     unfold Bf.l2
     have ed : (((i + 1 : Nat) : Int)).toNat = i + 1 := by omega
     have en : (((s.length : Int) : Int)).toNat = s.length := by omega
     have hget : ∀ m : Nat, m < s.length - (i + 1) -> Cb ((s'.drop (((i + 1 : Nat) : Int)).toNat).take ((((s.length : Int) : Int)).toNat - (((i + 1 : Nat) : Int)).toNat)) (m : Int) = s'[i + 1 + m]? := fun m hm => by
      rw [D8, ed, en, List.getElem?_take, if_pos hm, List.getElem?_drop]
     refine Ok.cond (fun g1 => ?_) (fun g1 => ?_)
     ·have g1 := of_decide_eq_true g1
      rw [ed, en] at g1
      obtain ⟨x2, hx2⟩ : ∃ x2, s[i + 1 + b + 1]? = some x2 := ⟨_, List.getElem?_eq_getElem (by omega)⟩
      obtain ⟨y2, hy2⟩ : ∃ y2, s[i + 1 + b]? = some y2 := ⟨_, List.getElem?_eq_getElem (by omega)⟩
      refine Ok.bindE ((hget (b + 1) (by omega)).trans ((h7 _ (by omega)).trans hx2)) ?_
      rw [Es (show -9223372036854775808 <= ((b + 1 : Nat) : Int) - 1 /\ ((b + 1 : Nat) : Int) - 1 <= 9223372036854775807 by omega), show ((b + 1 : Nat) : Int) - 1 = (b : Int) by omega]
      refine Ok.bindE ((hget b (by omega)).trans ((h7 _ (by omega)).trans hy2)) ?_
      have hs2 := Kx hx2 hy2
      have eb : W (((b + 1 : Nat) : Int) + 1) = ((b + 1 + 1 : Nat) : Int) := by rw [Es (by omega)]; omega
      refine Ok.cond (fun g2 => ?_) (fun g2 => ?_)
      ·have g2 : ¬ x2 = y2 := by simpa using g2
       rw [if_neg (fun e => g2 e.symm)] at hs2
       obtain ⟨z, hz⟩ : ∃ z, s'[a]? = some z := ⟨_, List.getElem?_eq_getElem (by omega)⟩
       refine Ok.bindE (D8.trans hz) ?_
       unfold Bf.j3
       rw [eb, Es (show -9223372036854775808 <= (a : Int) + 1 /\ (a : Int) + 1 <= 9223372036854775807 by omega)]
       have ea : ((a : Int)).toNat = a := by omega
       refine Ok.ret ⟨⟨a + 1, b + 1, by omega, rfl, by omega, by omega, ?_, ?_, fun m hm => ?_⟩, ?_⟩
       ·show (De s' (a : Int).toNat x2).length = _
        unfold De
        rw [List.length_set]; exact h5
       ·show (De s' (a : Int).toNat x2).take (a + 1) = _
        unfold De
        have : (s'.set (a : Int).toNat x2)[a]? = some x2 := by rw [ea, List.getElem?_set_self (by omega)]
        rw [Kn this, ea, List.take_set_of_le (Nat.le_refl a), h6]
        exact hs2.symm
       ·show (De s' (a : Int).toNat x2)[m]? = _
        unfold De
        rw [List.getElem?_set_ne (by omega)]
        exact h7 m (by omega)
       ·show s.length - (((b + 1 + 1 : Nat) : Int)).toNat < s.length - (((b + 1 : Nat) : Int)).toNat
        omega
      ·have g2 : x2 = y2 := by simpa using g2
       rw [if_pos g2.symm] at hs2
       unfold Bf.j3
       rw [eb]
       refine Ok.ret ⟨⟨a, b + 1, rfl, rfl, by omega, by omega, h5, h6.trans hs2.symm, fun m hm => h7 m (by omega)⟩, ?_⟩
       show s.length - (((b + 1 + 1 : Nat) : Int)).toNat < s.length - (((b + 1 : Nat) : Int)).toNat
       omega
     ·have g1 := of_decide_eq_false g1
      rw [ed, en] at g1
      have hb : i + 1 + b + 1 = s.length := by omega
      rw [hb, List.take_length] at h6
      have ea : ((a : Int)).toNat = a := by omega
      refine Ok.up (Ok.bind (Wr (a := (a : Int)) (b := (s'.length : Int)) (by omega)) fun l2 _ => ?_)
      refine Ok.bind (Q := fun r => r.length = s'.length /\ r.take a = s'.take a) ?_ fun l3 h3' => ?_
      ·unfold iI
       rw [ea, show (((s'.length : Int) : Int)).toNat = s'.length by omega, if_pos (by omega)]
       refine ⟨_, rfl, by simp; omega, ?_⟩
       rw [List.append_assoc, List.take_append, List.take_of_length_le (by simp; omega)]
       have : a - (s'.take a).length = 0 := by rw [List.length_take]; omega
       rw [this]
       simp
      ·refine Ok.bind (Wr (a := 0) (b := (a : Int)) (by omega)) fun l4 _ => Ok.up (Ok.ret ?_)
       show l3.take ((a : Int).toNat - (0 : Int).toNat) = _
       rw [ea, show a - (0 : Int).toNat = a from rfl, h3'.2, h6]
    ·rw [Es (by omega)]
     omega
    ·have h2 : ¬ x = y := of_decide_eq_false h2
     rw [if_neg (fun e => h2 e.symm), hc, <- Kn hx] at hst
     exact hst
    ·rw [Es (by omega)]
     omega
   ·have h1 := of_decide_eq_false h1
    refine Ok.up (Ok.ret ?_)
    have hl : i + 1 = s.length := by omega
    rw [hl, List.take_length] at hc
    exact hc.symm
  ·match s, h with
   | [], _ => rfl
   | x :: _, _ => rfl
end
section
structure lZ {α : Type} (c : α -> α -> Int) : Prop where
 anti : ∀ a b, c b a = - c a b
 tr : ∀ a b d, c a b <= 0 -> c b d <= 0 -> c a d <= 0
section
variable {α β : Type} {c c' : α -> α -> Int}
theorem lZ.self (h : lZ c) (a : α) : c a a = 0 := by have := h.anti a a; omega
theorem lZ.by_ (f : α -> β) {d : β -> β -> Int} (h : lZ d) : lZ fun a b => d (f a) (f b) := ⟨fun a b => h.anti _ _, fun a b d' h1 h2 => h.tr _ _ _ h1 h2⟩
end
def rB (x y : Int) : Int := bif decide (x < y) then -1 else bif decide (y < x) then 1 else 0
end
section
open Go
def aQ (a b : Ae) : Bool := bif !decide (a.First = b.First) then decide (a.First < b.First) else decide (a.Then < b.Then)
theorem dY {a b : Ae} : aQ a b = true ↔ a.First < b.First \/ (a.First = b.First /\ a.Then < b.Then) := by
 unfold aQ
 by_cases h : a.First = b.First
 ·rw [decide_eq_true h]; simp [h]
 ·rw [decide_eq_false h]; simp [h]
theorem pC {a b : Ae} : aQ a b = false ↔ ¬ (a.First < b.First \/ (a.First = b.First /\ a.Then < b.Then)) := by
 rw [<- dY]; simp
theorem Y8 : Tv aQ where
 irrefl a := pC.2 (by omega)
 trans a b c h1 h2 := by rw [dY] at *; omega
 tot a b h1 h2 := by
  rw [pC] at h1 h2
  cases a; cases b
  simp only at h1 h2
  congr 1 <;> omega
abbrev SA (l : List Ae) : Prop := kV aQ l
def rq (x : Ae) : Aa := ⟨x.First, x.Then⟩
def ur (x : Aa) : Ae := ⟨x.First, x.Then⟩
def Zw (a b : Aa) : Bool := aQ (ur a) (ur b)
theorem bN : Tv Zw where
 irrefl a := Y8.irrefl _
 trans a b c h1 h2 := Y8.trans _ _ _ h1 h2
 tot a b h1 h2 := by
  have := Y8.tot _ _ h1 h2
  have := congrArg rq this
  exact this
theorem xM : Sort.SWO Zw where
 irrefl a := bN.irrefl a
 trans a b c h1 h2 := bN.trans _ _ _ h1 h2
 ntrans a b c h1 h2 := by
  cases h : Zw a c with
  | false => rfl
  | true =>
   cases h3 : Zw b a with
   | true => have := bN.trans _ _ _ h3 h; rw [h2] at this; cases this
   | false =>
    rw [bN.tot _ _ h1 h3] at h
    rw [h2] at h; cases h
theorem eE (x y : Int) : G2 x y = some (rB x y) := by
 unfold G2 Iw rB
 by_cases h1 : x < y
 ·simp [h1]
 ·by_cases h2 : y < x <;> simp [h1, h2]
theorem oQ (x y : Int) : Ez [x, y] = some (bif !decide (x = 0) then x else y) := by
 unfold Ez
 by_cases hx : x = 0
 ·subst hx
  have e1 : Ez.l1 [0, y] 0 = some (.next 1) := rfl
  rw [Fv (body := fun q' => Ez.l1 [0, y] q') e1]
  by_cases hy : y = 0
  ·subst hy
   have e2 : Ez.l1 [0, 0] 1 = some (.next 2) := rfl
   have e3 : Ez.l1 [0, 0] 2 = up (some 0) := rfl
   rw [Fv (body := fun q' => Ez.l1 [0, 0] q') e2, Ey e3]
   rfl
  ·have e2 : Ez.l1 [0, y] 1 = up (some y) := by
    show cond _ (Option.bind (some y) _) _ = _
    show cond (!decide (y = 0)) _ _ = _
    rw [decide_eq_false hy]; rfl
   rw [Ey e2]
   rfl
 ·have e1 : Ez.l1 [x, y] 0 = up (some x) := by
   show cond (!decide (x = 0)) _ _ = _
   rw [decide_eq_false hx]; rfl
  rw [Ey e1, decide_eq_false hx]
  rfl
theorem zH : Bn (fun x0 x1 => E1 x0 x1) Zw (fun _ => True) := fun x y _ _ => by
 show ∃ n, E1 x y = some n /\ decide (n < 0) = Zw x y
 unfold E1
 rw [eE, Option.bind_some, eE, Option.bind_some, oQ, Option.bind_some]
 refine ⟨_, rfl, ?_⟩
 unfold Zw aQ ur rB
 by_cases h1 : x.First < y.First
 ·have : ¬ x.First = y.First := by omega
  simp [h1, this]
 ·by_cases h2 : y.First < x.First
  ·have : ¬ x.First = y.First := by omega
   simp [h1, h2, this]
  ·have : x.First = y.First := by omega
   simp only [this, Int.lt_irrefl, decide_false, cond_false, decide_true, Bool.not_true]
   by_cases h3 : x.Then < y.Then
   ·simp [h3]
   ·by_cases h4 : y.Then < x.Then <;> simp [h3, h4]
theorem hG (l : List Ae) : (H9 Zw (l.map rq)).map ur = H9 aQ l := by
 refine Xw Y8 ?_ fun z => ?_
 ·exact List.Pairwise.map ur (fun a b h => h) (U4 bN _)
 ·constructor
  ·intro h
   obtain ⟨q, h1, rfl⟩ := List.mem_map.1 h
   obtain ⟨x, h2, rfl⟩ := List.mem_map.1 ((Mz bN).1 h1)
   exact h2
  ·intro h
   exact List.mem_map.2 ⟨rq z, (Mz bN).2 (List.mem_map.2 ⟨z, h, rfl⟩), rfl⟩
theorem qP : Em <= 65535 := by unfold Em; omega
theorem Ns (l : List Ae) (hl : l.length <= Em) : C4 l = some (H9 aQ l) := by
 have hcap := qP
 obtain ⟨r, hr1, hr2, hr3⟩ := R7 xM zH (l.map rq) (by simpa using hl) (fun _ _ => trivial)
 have hrl : r.length = l.length := by rw [hr2.length_eq]; simp
 obtain ⟨c, hc1, rfl⟩ := Qh r (by omega)
 have hcs : Ll r = H9 Zw (l.map rq) := kZ bN hr2 hr3
 rw [hcs] at hc1
 have hsl : (H9 Zw (l.map rq)).length <= l.length := by have := Yx Zw (l.map rq); simpa using this
 have l2 : ∀ (m p : List Aa), p ++ m = H9 Zw (l.map rq) -> C2 (fun q' => C4.l2 (H9 Zw (l.map rq)) q'.1 q'.2) ((p.length : Int), p.map ur) = some ((p ++ m).map ur) := by
  intro m
  induction m with
  | nil =>
   intro p hp
   have : (H9 Zw (l.map rq)).length = p.length := by rw [<- hp]; simp
   refine Ey (x := some _) ?_
   show C4.l2 _ (p.length : Int) (p.map ur) = _
   unfold C4.l2
   rw [decide_eq_false (by omega), cond_false, List.append_nil]
  | cons y m ih =>
   intro p hp
   have hy : (H9 Zw (l.map rq))[p.length]? = some y := by rw [<- hp]; simp
   have hlen : p.length < (H9 Zw (l.map rq)).length := (List.getElem?_eq_some_iff.1 hy).1
   have e1 : C4.l2 (H9 Zw (l.map rq)) (p.length : Int) (p.map ur) = some (.next ((((p ++ [y]).length : Nat) : Int), (p ++ [y]).map ur)) := by
    unfold C4.l2
    rw [decide_eq_true (by omega), cond_true, D8, hy, Option.bind_some, Td (by simp; omega), Option.bind_some, Es (by omega)]
    simp [ur]
   rw [Fv (body := fun q' => C4.l2 (H9 Zw (l.map rq)) q'.1 q'.2) e1, ih (p ++ [y]) (by simp [hp])]
   simp
 have l1 : ∀ (m p : List Ae), p ++ m = l -> C2 (fun q' => C4.l1 l q'.1 q'.2) ((p.length : Int), p.map rq) = some (H9 aQ l) := by
  intro m
  induction m with
  | nil =>
   intro p hp
   rw [List.append_nil] at hp
   subst hp
   refine Ey (x := some _) ?_
   show C4.l1 _ (p.length : Int) (p.map rq) = _
   unfold C4.l1
   rw [decide_eq_false (by omega), cond_false, hr1, Option.bind_some, hc1, Option.bind_some]
   have := l2 (H9 Zw (p.map rq)) [] rfl
   rw [List.nil_append] at this
   rw [hG] at this
   exact congrArg up this
  | cons y m ih =>
   intro p hp
   have hy : l[p.length]? = some y := by rw [<- hp]; simp
   have hlen : p.length < l.length := (List.getElem?_eq_some_iff.1 hy).1
   have e1 : C4.l1 l (p.length : Int) (p.map rq) = some (.next ((((p ++ [y]).length : Nat) : Int), (p ++ [y]).map rq)) := by
    unfold C4.l1
    rw [decide_eq_true (by omega), cond_true, D8, hy, Option.bind_some, Td (by simp; omega), Option.bind_some, Es (by omega)]
    simp [rq]
   rw [Fv (body := fun q' => C4.l1 l q'.1 q'.2) e1, ih (p ++ [y]) (by simp [hp])]
 exact l1 l [] rfl
end
section
inductive TC (R : Nat -> Nat -> Prop) : Nat -> Nat -> Prop
 | one {a b} (h : R a b) : TC R a b
 | step {a b c} (h : R a b) (hs : TC R b c) : TC R a c
theorem TC.trans {R : Nat -> Nat -> Prop} {a b c : Nat} (h : TC R a b) (h' : TC R b c) : TC R a c := by
 induction h with
 | one h => exact .step h h'
 | step h _ ih => exact .step h (ih h')
theorem TC.mono {R S : Nat -> Nat -> Prop} (hRS : ∀ a b, R a b -> S a b) {a b : Nat} (h : TC R a b) : TC S a b := by
 induction h with
 | one h => exact .one (hRS _ _ h)
 | step h _ ih => exact .step (hRS _ _ h) ih
theorem TC.lt {R : Nat -> Nat -> Prop} {n : Nat} (hR : ∀ a b, R a b -> a < n /\ b < n) {a b : Nat} (h : TC R a b) : a < n /\ b < n := by
 induction h with
 | one h => exact hR _ _ h
 | step h _ ih => exact ⟨(hR _ _ h).1, ih.2⟩
theorem TC.up {R : Nat -> Nat -> Prop} (hR : ∀ a b, R a b -> a < b) {a b : Nat} (h : TC R a b) : a < b := by
 induction h with
 | one h => exact hR _ _ h
 | step h _ ih => exact Nat.lt_trans (hR _ _ h) ih
def mA (k : Nat) (w : Nat -> Nat -> Bool) : Nat -> Nat -> Bool := fun i j => w i j || (w i k && w k j)
def Fw (w : Nat -> Nat -> Bool) : Nat -> Nat -> Nat -> Bool
 | 0 => w
 | k + 1 => mA k (Fw w k)
theorem N9 {w : Nat -> Nat -> Bool} : ∀ {k i j : Nat}, Fw w k i j = true -> TC (fun a b => w a b = true) i j
 | 0, _, _, h => .one h
 | k + 1, i, j, h => by
  have h : (Fw w k i j || (Fw w k i k && Fw w k k j)) = true := h
  rw [Bool.or_eq_true, Bool.and_eq_true] at h
  rcases h with h | ⟨h1, h2⟩
  ·exact N9 h
  ·exact (N9 h1).trans (N9 h2)
theorem Uw {w : Nat -> Nat -> Bool} : ∀ {k i j : Nat}, w i j = true -> Fw w k i j = true
 | 0, _, _, h => h
 | k + 1, i, j, h => by
  show (Fw w k i j || (Fw w k i k && Fw w k k j)) = true
  rw [Uw h]
  rfl
theorem S7 {w : Nat -> Nat -> Bool} : ∀ {k i j m : Nat}, m < k -> Fw w k i m = true -> Fw w k m j = true -> Fw w k i j = true
 | 0, _, _, _, h, _, _ => by omega
 | k + 1, i, j, m, hm, h1, h2 => by
  have P : ∀ i j m, m < k -> Fw w k i m = true -> Fw w k m j = true -> Fw w k i j = true := fun i j m => S7
  have h1 : (Fw w k i m || (Fw w k i k && Fw w k k m)) = true := h1
  have h2 : (Fw w k m j || (Fw w k m k && Fw w k k j)) = true := h2
  show (Fw w k i j || (Fw w k i k && Fw w k k j)) = true
  simp only [Bool.or_eq_true, Bool.and_eq_true] at h1 h2 ⊢
  rcases Nat.lt_or_ge m k with hk | hk
  ·rcases h1 with h1 | ⟨h1, h3⟩ <;> rcases h2 with h2 | ⟨h2, h4⟩
   ·exact .inl (P i j m hk h1 h2)
   ·exact .inr ⟨P i k m hk h1 h2, h4⟩
   ·exact .inr ⟨h1, P k j m hk h3 h2⟩
   ·exact .inr ⟨h1, h4⟩
  ·have : m = k := by omega
   subst this
   have h1 : Fw w m i m = true := h1.elim id And.left
   have h2 : Fw w m m j = true := h2.elim id And.right
   exact .inr ⟨h1, h2⟩
theorem Ys {w : Nat -> Nat -> Bool} {n : Nat} (hw : ∀ a b, w a b = true -> a < n /\ b < n) {i j : Nat} : Fw w n i j = true ↔ TC (fun a b => w a b = true) i j := by
 refine ⟨N9, fun h => ?_⟩
 induction h with
 | one h => exact Uw h
 | step h hs ih => exact S7 (hw _ _ h).2 (Uw h) ih
end
section
open Go
structure Mx (n : Nat) (M : List (List Bool)) (w : Nat -> Nat -> Bool) : Prop where
 len : M.length = n
 row : ∀ i, i < n -> ∃ r, M[i]? = some r /\ r.length = n /\ ∀ j, j < n -> r[j]? = some (w i j)
theorem Mx.congr {n : Nat} {M : List (List Bool)} {w w' : Nat -> Nat -> Bool} (h : Mx n M w) (e : ∀ i j, i < n -> j < n -> w i j = w' i j) : Mx n M w' :=
 ⟨h.len, fun i hi => by obtain ⟨r, h1, h2, h3⟩ := h.row i hi; exact ⟨r, h1, h2, fun j hj => by rw [h3 j hj, e i j hi hj]⟩⟩
theorem Mx.get {n : Nat} {M : List (List Bool)} {w : Nat -> Nat -> Bool} (h : Mx n M w) {i : Nat} (hi : i < n) : ∃ r, Cb M (i : Int) = some r /\ r.length = n /\ M[i]? = some r /\ ∀ j, j < n -> Cb r (j : Int) = some (w i j) := by
 obtain ⟨r, h1, h2, h3⟩ := h.row i hi
 exact ⟨r, D8.trans h1, h2, h1, fun j hj => D8.trans (h3 j hj)⟩
def dM (w : Nat -> Nat -> Bool) (i j : Nat) : Nat -> Nat -> Bool := fun a b => decide (a = i /\ b = j) || w a b
theorem Mx.set {n : Nat} {M : List (List Bool)} {w : Nat -> Nat -> Bool} (h : Mx n M w) {i j : Nat} (hi : i < n) (hj : j < n) {r : List Bool} (hr : M[i]? = some r) : Mx n (De M i (De r j true)) (dM w i j) := by
 refine ⟨by unfold De; rw [List.length_set]; exact h.len, fun a ha => ?_⟩
 unfold De
 by_cases e : a = i
 ·subst e
  obtain ⟨r', h1, h2, h3⟩ := h.row a ha
  rw [hr] at h1
  injection h1 with h1
  subst h1
  refine ⟨r.set j true, List.getElem?_set_self (by rw [h.len]; exact ha), by rw [List.length_set]; exact h2, fun b hb => ?_⟩
  unfold dM
  by_cases e2 : b = j
  ·subst e2
   rw [List.getElem?_set_self (by omega), decide_eq_true ⟨rfl, rfl⟩]
   rfl
  ·rw [List.getElem?_set_ne (fun e => e2 e.symm), h3 b hb, decide_eq_false (fun e => e2 e.2)]
   rfl
 ·obtain ⟨r', h1, h2, h3⟩ := h.row a ha
  refine ⟨r', by rw [List.getElem?_set_ne (fun x => e x.symm)]; exact h1, h2, fun b hb => ?_⟩
  unfold dM
  rw [h3 b hb, decide_eq_false (fun x => e x.1)]
  rfl
def Jt (l : List Ae) : Nat -> Nat -> Bool := fun a b => l.any fun r => decide (r = ⟨(a : Int), (b : Int)⟩)
def xH (n : Nat) (l : List Ae) : Prop := ∀ r ∈ l, 0 <= r.First /\ r.First < n /\ 0 <= r.Then /\ r.Then < n
theorem Tu {l : List Ae} {a b : Nat} : Jt l a b = true ↔ (⟨(a : Int), (b : Int)⟩ : Ae) ∈ l := by
 unfold Jt
 rw [List.any_eq_true]
 constructor
 ·rintro ⟨r, h1, h2⟩
  rw [of_decide_eq_true h2] at h1; exact h1
 ·intro h
  exact ⟨_, h, decide_eq_true rfl⟩
theorem Zi {n : Nat} {l : List Ae} (h : xH n l) {a b : Nat} (hab : Jt l a b = true) : a < n /\ b < n := by
 obtain ⟨h1, h2, h3, h4⟩ := h _ (Tu.1 hab)
 simp only at h1 h2 h3 h4
 omega
def I1 (k : Nat) (w : Nat -> Nat -> Bool) (i j : Nat) : Nat -> Nat -> Bool := fun a b => if a < i \/ (a = i /\ b < j) then mA k w a b else w a b
theorem nI {k : Nat} {w : Nat -> Nat -> Bool} {i : Nat} : mA k w i k = w i k := by unfold mA; cases w i k <;> simp
theorem nJ {k : Nat} {w : Nat -> Nat -> Bool} {j : Nat} : mA k w k j = w k j := by unfold mA; cases w k j <;> simp
theorem mZ {k : Nat} {w : Nat -> Nat -> Bool} {i j a : Nat} : I1 k w i j a k = w a k := by unfold I1; split; exact nI; rfl
theorem mF {k : Nat} {w : Nat -> Nat -> Bool} {i j b : Nat} : I1 k w i j k b = w k b := by unfold I1; split; exact nJ; rfl
theorem lC {k : Nat} {w : Nat -> Nat -> Bool} {i j : Nat} : I1 k w i j i j = w i j := by unfold I1; rw [if_neg (by omega)]
theorem bW {k : Nat} {w : Nat -> Nat -> Bool} {i j a b : Nat} : I1 k w i (j + 1) a b = if a = i /\ b = j then mA k w i j else I1 k w i j a b := by
 unfold I1
 by_cases e : a = i /\ b = j
 ·rw [if_pos e, e.1, e.2, if_pos (by omega)]
 ·rw [if_neg e]
  by_cases h : a < i \/ (a = i /\ b < j)
  ·rw [if_pos h, if_pos (by omega)]
  ·rw [if_neg h, if_neg (by omega)]
theorem Yf (l : List Int) (hl : l.length <= 1000) (hc : l.length <= Em) : Ok (Gc l) (fun r => r = H9 aQ ((List.range (l.length - 1)).map fun i => ⟨l.getD i 0, l.getD (i + 1) 0⟩)) := by
 unfold Gc
 refine Ok.loop (fun s : Int × List Ae => ∃ i : Nat, s.1 = ((i + 1 : Nat) : Int) /\ (i = 0 \/ i + 1 <= l.length) /\ s.2 = (List.range i).map fun i => ⟨l.getD i 0, l.getD (i + 1) 0⟩) (fun s => l.length - s.1.toNat) ?_ ⟨0, rfl, .inl rfl, rfl⟩
 rintro ⟨_, _⟩ ⟨i, rfl, hi, rfl⟩
 show Ok (Gc.l1 l ((i + 1 : Nat) : Int) _) _
 unfold Gc.l1
 refine Ok.cond (fun h => ?_) (fun h => ?_)
 ·have hil : i + 1 < l.length := by have := of_decide_eq_true h; omega
  have e1 : l[i]? = some (l.getD i 0) := by rw [List.getD_eq_getElem?_getD, List.getElem?_eq_getElem (by omega)]; rfl
  have e2 : l[i + 1]? = some (l.getD (i + 1) 0) := by rw [List.getD_eq_getElem?_getD, List.getElem?_eq_getElem (by omega)]; rfl
  rw [Es (by omega), show ((i + 1 : Nat) : Int) - 1 = (i : Int) by omega, D8, e1, Option.bind_some, D8, e2, Option.bind_some, Td (by simp; omega), Option.bind_some]
  refine Ok.ret ⟨⟨i + 1, by rw [Es (by omega)]; omega, .inr (by omega), by rw [List.range_succ]; simp⟩, by show l.length - (W (((i + 1 : Nat) : Int) + 1)).toNat < l.length - (((i + 1 : Nat) : Int)).toNat; rw [Es (by omega)]; omega⟩
 ·have hil : l.length - 1 = i := by have := of_decide_eq_false h; omega
  rw [Ns _ (by simp; omega), Option.bind_some]
  exact Ok.up (Ok.ret (by rw [hil]))
structure cF (n : Nat) (l : List Ae) : Prop where
 asc : SA l
 len : l.length <= 200
 fwd : ∀ r ∈ l, 0 <= r.First /\ r.First < r.Then /\ r.Then < n
theorem cF.inr {n : Nat} {l : List Ae} (h : cF n l) : xH n l := fun r hr => by have := h.fwd r hr; omega
theorem eW : I3 = some true := by
 obtain ⟨c, hc, rfl⟩ := Yf [2, 0, 1] (by decide) (by decide)
 unfold I3
 have e1 : Cp (Aw.mk (⟨#[]⟩ : ByteArray) 0 0 ([] : (List Int)) false ([] : (List Bq)) ([] : (List Int)) ([] : (List Int)) false) (An.mk 0 5 0 0 (Bq.mk (Az.mk 0 0) 0 ([] : List Am))) = some 1 := rfl
 have e2 : Cp (Aw.mk (⟨#[]⟩ : ByteArray) 0 0 ([] : (List Int)) false ([] : (List Bq)) ([] : (List Int)) ([] : (List Int)) false) (An.mk 0 2 0 0 (Bq.mk (Az.mk 0 0) 0 ([] : List Am))) = some 3 := rfl
 rw [e1, Option.bind_some, decide_eq_true rfl, cond_true, e2, Option.bind_some, decide_eq_true rfl, cond_true, hc, Option.bind_some]
 rfl
theorem sT {t : List Int} (h : t.length <= 400) : Ok (N4 t) Oh := Ok.ret ⟨by unfold Lo; show t.length < _; omega, Int.le_refl _, by show (0 : Int) <= (t.length : Int); omega⟩
end
section
open Go
section
variable {κ ν : Type} [DecidableEq κ]
theorem Mc (p : κ × ν) (l : List (κ × ν)) (x : κ) (z : ν) : F0 (p :: l) x z = if p.1 = x then p.2 else F0 l x z := by
 unfold F0
 by_cases h : p.1 = x <;> simp [h]
theorem cA (p : κ × ν) (l : List (κ × ν)) (x : κ) (v : ν) : Ir (p :: l) x v = if p.1 = x then (x, v) :: l else p :: Ir l x v := by
 unfold Ir
 by_cases h : p.1 = x
 ·rw [List.findIdx?_cons, decide_eq_true h, if_pos h]; rfl
 ·rw [List.findIdx?_cons, decide_eq_false h, if_neg h]
  cases hf : l.findIdx? (fun p => decide (p.1 = x)) <;> simp
theorem Xm (x : κ) (v : ν) (y : κ) (z : ν) : ∀ l : List (κ × ν), F0 (Ir l x v) y z = if x = y then v else F0 l y z
 | [] => by
  show F0 [(x, v)] y z = _
  rw [Mc]
 | p :: l => by
  rw [cA]
  by_cases h : p.1 = x
  ·rw [if_pos h, Mc, Mc]
   by_cases e : x = y
   ·rw [if_pos e, if_pos e]
   ·rw [if_neg e, if_neg e, if_neg (by rw [h]; exact e)]
  ·rw [if_neg h, Mc, Xm x v y z l, Mc]
   by_cases e : x = y
   ·rw [if_pos e, if_pos e, if_neg (by rw [<- e]; exact h)]
   ·rw [if_neg e, if_neg e]
end
def MW (n : Nat) (m : List (Ae × Bool)) (w : Nat -> Nat -> Bool) : Prop := ∀ a b : Nat, a < n -> b < n -> F0 m ⟨(a : Int), (b : Int)⟩ false = w a b
theorem MW.congr {n : Nat} {m : List (Ae × Bool)} {w w' : Nat -> Nat -> Bool} (h : MW n m w) (e : ∀ i j, i < n -> j < n -> w i j = w' i j) : MW n m w' := fun a b ha hb => (h a b ha hb).trans (e a b ha hb)
theorem MW.put {n : Nat} {m : List (Ae × Bool)} {w : Nat -> Nat -> Bool} (h : MW n m w) (i j : Nat) : MW n (Ir m ⟨(i : Int), (j : Int)⟩ true) (dM w i j) := fun a b ha hb => by
 rw [Xm, h a b ha hb]
 unfold dM
 by_cases e : a = i /\ b = j
 ·rw [decide_eq_true e, if_pos (by rw [e.1, e.2])]; rfl
 ·rw [decide_eq_false e, if_neg (fun x => by injection x with x1 x2; exact e ⟨by omega, by omega⟩)]; rfl
theorem kT {n : Nat} (hn : n <= 1000) {l : List Ae} (hl : xH n l) (hlen : l.length <= 1000000) : Ok (B6 (n : Int) l) (fun M => MW n M (Fw (Jt l) n)) := by
 have l6 : ∀ (k i : Nat) (w : Nat -> Nat -> Bool), k < n -> i < n -> ∀ (s : Int × List (Ae × Bool)), (∃ j : Nat, s.1 = (j : Int) /\ j <= n /\ MW n s.2 (I1 k w i j)) ->
   Ok (C2 (fun q' => B6.l4 (n : Int) (k : Int) (i : Int) q'.1 q'.2) s) (dI (fun s' : Int × List (Ae × Bool) => (s'.1 = ((i + 1 : Nat) : Int) /\ MW n s'.2 (I1 k w (i + 1) 0)) /\ True) (fun _ => False)) := by
  intro k i w hk hi s hs
  refine Ok.loop (fun s : Int × List (Ae × Bool) => ∃ j : Nat, s.1 = (j : Int) /\ j <= n /\ MW n s.2 (I1 k w i j)) (fun s => n - s.1.toNat) ?_ hs
  rintro ⟨_, M⟩ ⟨j, rfl, hj, hM⟩
  have hM : MW n M (I1 k w i j) := hM
  show Ok (B6.l4 (n : Int) (k : Int) (i : Int) (j : Int) M) _
  unfold B6.l4
  refine Ok.cond (fun h => ?_) (fun h => ?_)
  ·have hjn : j < n := by have := of_decide_eq_true h; omega
   have e1 : W ((j : Int) + 1) = ((j + 1 : Nat) : Int) := by rw [Es (by omega)]; omega
   rw [hM i k hi hk, hM k j hk hjn, mZ, mF]
   have fin : ∀ b : Bool, (b = true -> w i k = true /\ w k j = true) -> (b = false -> ¬ (w i k = true /\ w k j = true)) -> Ok (B6.j5 (i : Int) (j : Int) M b) (dI (fun s' : Int × List (Ae × Bool) => (∃ j : Nat, s'.1 = (j : Int) /\ j <= n /\ MW n s'.2 (I1 k w i j)) /\ n - s'.1.toNat < n - ((j : Int)).toNat) (dI (fun s' : Int × List (Ae × Bool) => (s'.1 = ((i + 1 : Nat) : Int) /\ MW n s'.2 (I1 k w (i + 1) 0)) /\ True) (fun _ => False))) := by
    intro b hb1 hb2
    unfold B6.j5
    refine Ok.cond (fun h => ?_) (fun h => ?_)
    ·obtain ⟨q1, q2⟩ := hb1 h
     unfold B6.j6
     rw [e1]
     refine Ok.ret ⟨⟨j + 1, rfl, by omega, (hM.put i j).congr fun a b _ _ => ?_⟩, by show n - ((j + 1 : Nat) : Int).toNat < _; omega⟩
     rw [bW]
     unfold dM
     by_cases e : a = i /\ b = j
     ·rw [decide_eq_true e, if_pos e]
      unfold mA
      rw [q1, q2]; simp
     ·rw [decide_eq_false e, if_neg e]; rfl
    ·have q := hb2 h
     unfold B6.j6
     rw [e1]
     refine Ok.ret ⟨⟨j + 1, rfl, by omega, hM.congr fun a b _ _ => ?_⟩, by show n - ((j + 1 : Nat) : Int).toNat < _; omega⟩
     rw [bW]
     by_cases e : a = i /\ b = j
     ·rw [if_pos e, e.1, e.2, lC]
      unfold mA
      cases h1 : w i k with
      | false => simp
      | true =>
       cases h2 : w k j with
       | false => simp
       | true => exact absurd ⟨h1, h2⟩ q
     ·rw [if_neg e]
   refine Ok.cond (fun h1 => ?_) (fun h1 => ?_)
   ·exact fin _ (fun h2 => ⟨h1, h2⟩) (fun h2 h3 => by rw [h3.2] at h2; cases h2)
   ·exact fin _ (fun h2 => by cases h2) (fun _ h3 => by rw [h3.1] at h1; cases h1)
  ·have hjn : j = n := by have := of_decide_eq_false h; omega
   subst hjn
   refine Ok.up (Ok.ret ⟨⟨?_, hM.congr fun a b ha hb => ?_⟩, trivial⟩)
   ·rw [Es (by omega)]; omega
   ·unfold I1
    by_cases h : a < i \/ (a = i /\ b < j)
    ·rw [if_pos h, if_pos (by omega)]
    ·rw [if_neg h, if_neg (by omega)]
 have l5 : ∀ (k : Nat) (w : Nat -> Nat -> Bool), k < n -> ∀ M, MW n M w -> Ok (C2 (fun q' => B6.l3 (n : Int) (k : Int) q'.1 q'.2) (0, M)) (dI (fun s' : Int × List (Ae × Bool) => s'.1 = ((k + 1 : Nat) : Int) /\ MW n s'.2 (mA k w)) (fun _ => False)) := by
  intro k w hk M hM
  refine Ok.loop (fun s : Int × List (Ae × Bool) => ∃ i : Nat, s.1 = (i : Int) /\ i <= n /\ MW n s.2 (I1 k w i 0)) (fun s => n - s.1.toNat) ?_ ⟨0, rfl, Nat.zero_le _, hM.congr fun a b _ _ => by unfold I1; rw [if_neg (by omega)]⟩
  rintro ⟨_, M⟩ ⟨i, rfl, hi, hM⟩
  have hM : MW n M (I1 k w i 0) := hM
  show Ok (B6.l3 (n : Int) (k : Int) (i : Int) M) _
  unfold B6.l3
  refine Ok.cond (fun h => ?_) (fun h => ?_)
  ·have hin : i < n := by have := of_decide_eq_true h; omega
   refine (l6 k i w hk hin (0, M) ⟨0, rfl, Nat.zero_le _, hM⟩).mono fun o ho => ?_
   cases o with
   | done r => exact ho.elim
   | next s =>
    obtain ⟨⟨h1, h2⟩, -⟩ := ho
    exact ⟨⟨i + 1, h1, hin, h2⟩, by show n - s.1.toNat < n - ((i : Int)).toNat; rw [h1]; omega⟩
  ·have hin : i = n := by have := of_decide_eq_false h; omega
   subst hin
   refine Ok.up (Ok.ret ⟨?_, hM.congr fun a b ha hb => ?_⟩)
   ·rw [Es (by omega)]; omega
   ·unfold I1; rw [if_pos (.inl ha)]
 have l4 : ∀ M, MW n M (Jt l) -> Ok (C2 (fun q' => B6.l2 (n : Int) q'.1 q'.2) (0, M)) (fun M => MW n M (Fw (Jt l) n)) := by
  intro M hM
  refine Ok.loop (fun s : Int × List (Ae × Bool) => ∃ k : Nat, s.1 = (k : Int) /\ k <= n /\ MW n s.2 (Fw (Jt l) k)) (fun s => n - s.1.toNat) ?_ ⟨0, rfl, Nat.zero_le _, hM⟩
  rintro ⟨_, M⟩ ⟨k, rfl, hk, hM⟩
  have hM : MW n M (Fw (Jt l) k) := hM
  show Ok (B6.l2 (n : Int) (k : Int) M) _
  unfold B6.l2
  refine Ok.cond (fun h => ?_) (fun h => ?_)
  ·have hkn : k < n := by have := of_decide_eq_true h; omega
   refine (l5 k _ hkn M hM).mono fun o ho => ?_
   cases o with
   | done r => exact ho.elim
   | next s =>
    obtain ⟨h1, h2⟩ := ho
    exact ⟨⟨k + 1, h1, hkn, h2⟩, by show n - s.1.toNat < n - ((k : Int)).toNat; rw [h1]; omega⟩
  ·have hkn : k = n := by have := of_decide_eq_false h; omega
   subst hkn
   exact Ok.up (Ok.ret hM)
 unfold B6
 refine Ok.loop (fun s : Int × List (Ae × Bool) => ∃ i : Nat, s.1 = (i : Int) /\ i <= l.length /\ MW n s.2 (Jt (l.take i))) (fun s => l.length - s.1.toNat) ?_ ⟨0, rfl, Nat.zero_le _, fun a b _ _ => rfl⟩
 rintro ⟨_, M⟩ ⟨i, rfl, hi, hM⟩
 have hM : MW n M (Jt (l.take i)) := hM
 show Ok (B6.l1 (n : Int) l (i : Int) M) _
 unfold B6.l1
 refine Ok.cond (fun h => ?_) (fun h => ?_)
 ·have hil : i < l.length := by have := of_decide_eq_true h; omega
  obtain ⟨r, hr⟩ : ∃ r, l[i]? = some r := ⟨_, List.getElem?_eq_getElem hil⟩
  obtain ⟨q1, q2, q3, q4⟩ := hl r (List.mem_of_getElem? hr)
  obtain ⟨a, ha⟩ : ∃ a : Nat, r.First = (a : Int) := ⟨r.First.toNat, by omega⟩
  obtain ⟨b, hb⟩ : ∃ b : Nat, r.Then = (b : Int) := ⟨r.Then.toNat, by omega⟩
  have hrab : r = ⟨(a : Int), (b : Int)⟩ := by rw [<- ha, <- hb]
  rw [D8, hr, Option.bind_some]
  refine Ok.ret ⟨⟨i + 1, by rw [Es (by omega)]; omega, hil, ?_⟩, by show l.length - (W ((i : Int) + 1)).toNat < l.length - ((i : Int)).toNat; rw [Es (by omega)]; omega⟩
  show MW n (Ir M r true) _
  rw [hrab]
  refine (hM.put a b).congr fun x y _ _ => ?_
  unfold dM Jt
  rw [Kn hr, List.any_append, Bool.or_comm]
  congr 1
  simp only [List.any_cons, List.any_nil, Bool.or_false]
  rw [hrab]
  by_cases e : x = a /\ y = b
  ·rw [decide_eq_true e, e.1, e.2, decide_eq_true rfl]
  ·rw [decide_eq_false e, decide_eq_false]
   intro e2
   injection e2 with e3 e4
   exact e ⟨by omega, by omega⟩
 ·have hil : i = l.length := by have := of_decide_eq_false h; omega
  subst hil
  rw [List.take_length] at hM
  exact Ok.up (l4 M hM)
def Z8 (n : Nat) (l : List Ae) (r : Ae) : Bool := !(List.range n).any fun k => Fw (Jt l) n r.First.toNat k && Fw (Jt l) n k r.Then.toNat
def yV (n : Nat) (l : List Ae) : List Ae := l.filter (Z8 n l)
theorem cF.eup {n : Nat} {l : List Ae} (h : cF n l) {a b : Nat} (e : Jt l a b = true) : a < b := by
 have := h.fwd _ (Tu.1 e)
 simp only at this
 omega
theorem cF.acy {n : Nat} {l : List Ae} (h : cF n l) (a : Nat) : ¬ TC (fun a b => Jt l a b = true) a a := fun ht => by
 have := ht.up (fun _ _ => h.eup)
 omega
theorem cF.wr {n : Nat} {l : List Ae} (h : cF n l) {a b : Nat} : Fw (Jt l) n a b = true ↔ TC (fun a b => Jt l a b = true) a b := Ys fun _ _ => Zi h.inr
theorem cF.sub {n : Nat} {l m : List Ae} (h : cF n l) (hs : m.Sublist l) : cF n m := ⟨h.asc.sublist hs, Nat.le_trans hs.length_le h.len, fun r hr => h.fwd r (hs.subset hr)⟩
theorem cF.red {n : Nat} {l : List Ae} (h : cF n l) : cF n (yV n l) := h.sub List.filter_sublist
theorem cF.keep {n : Nat} {l : List Ae} (h : cF n l) {a b : Nat} : Z8 n l ⟨(a : Int), (b : Int)⟩ = true ↔ ¬ ∃ k, TC (fun a b => Jt l a b = true) a k /\ TC (fun a b => Jt l a b = true) k b := by
 unfold Proofs.YtkpcbnnlefcebaaGreat.Z8
 rw [Bool.not_eq_true', <- Bool.not_eq_true, List.any_eq_true]
 refine not_congr ⟨?_, ?_⟩
 ·rintro ⟨k, -, hk⟩
  rw [Bool.and_eq_true] at hk
  exact ⟨k, h.wr.1 hk.1, h.wr.1 hk.2⟩
 ·rintro ⟨k, h1, h2⟩
  refine ⟨k, List.mem_range.2 (h1.lt (fun _ _ => Zi h.inr)).2, ?_⟩
  rw [Bool.and_eq_true]
  exact ⟨h.wr.2 h1, h.wr.2 h2⟩
structure uJ (n : Nat) (l : List Ae) : Prop where
 asc : SA l
 len : l.length <= 1000
 cap : l.length <= Em
 inr : xH n l
 acy : ∀ a, ¬ TC (fun a b => Jt l a b = true) a a
theorem uJ.fwd {n : Nat} {l : List Ae} (h : uJ n l) : ∀ r ∈ l, (0 <= r.First /\ r.First < n /\ 0 <= r.Then /\ r.Then < n) /\ r.First ≠ r.Then := fun r hr => by
 have q := h.inr r hr
 refine ⟨q, fun e => h.acy r.First.toNat (.one (Tu.2 ?_))⟩
 have e1 : ((r.First.toNat : Nat) : Int) = r.First := by omega
 have : (⟨r.First, r.First⟩ : Ae) = r := by
  obtain ⟨x, y⟩ := r
  have e : x = y := e
  subst e; rfl
 rw [e1, this]; exact hr
theorem uJ.wr {n : Nat} {l : List Ae} (h : uJ n l) {a b : Nat} : Fw (Jt l) n a b = true ↔ TC (fun a b => Jt l a b = true) a b := Ys fun _ _ => Zi h.inr
theorem gO {n : Nat} (hn : n <= 24) {l : List Ae} (h : uJ n l) : Ok (B0 (n : Int) l) (fun y => y = (yV n l, 0)) := by
 have hl := h.len
 unfold B0
 rw [decide_eq_false (by omega), cond_false, decide_eq_false (by omega)]
 unfold B0.j2
 rw [cond_false]
 have c1 : Eg l (fun x0 => Fh x0 n) = some false := by
  have : Ok (B2 l (fun x0 => Fh x0 n)) (fun y => y = -1) := by
   unfold B2
   refine Ok.loop (fun s : Int => ∃ i : Nat, s = (i : Int) /\ i <= l.length) (fun s => l.length - s.toNat) ?_ ⟨0, rfl, Nat.zero_le _⟩
   rintro _ ⟨i, rfl, hi⟩
   show Ok (B2.l1 l (fun x0 => Fh x0 n) (i : Int)) _
   unfold B2.l1
   refine Ok.cond (fun hb => ?_) (fun hb => ?_)
   ·have hil : i < l.length := by have := of_decide_eq_true hb; omega
    obtain ⟨r, hr⟩ : ∃ r, l[i]? = some r := ⟨_, List.getElem?_eq_getElem hil⟩
    have q := h.fwd r (List.mem_of_getElem? hr)
    have hc : Fh r (n : Int) = some false := by
     unfold Fh
     rw [decide_eq_false (by omega), cond_false, decide_eq_false (by omega), cond_false, decide_eq_false (by omega), cond_false, decide_eq_false (by omega), cond_false, decide_eq_false (by omega)]
    rw [D8, hr, Option.bind_some]
    show Ok ((Fh r (n : Int)).bind _) _
    rw [hc, Option.bind_some, cond_false, Es (by omega)]
    exact Ok.ret ⟨⟨i + 1, by omega, hil⟩, by show l.length - ((i : Int) + 1).toNat < l.length - ((i : Int)).toNat; omega⟩
   ·exact Ok.up (Ok.ret rfl)
  obtain ⟨y, hy, rfl⟩ := this
  unfold Eg
  rw [hy]; rfl
 have c2 : C4 l = some l := by rw [Ns l h.cap, cX Y8 h.asc]
 have c3 : C7 l l = some true := by
  refine Ok.true_ ?_
  unfold C7
  rw [decide_eq_true rfl, Bool.not_true, cond_false]
  refine Ok.loop (fun s : Int => ∃ i : Nat, s = (i : Int) /\ i <= l.length) (fun s => l.length - s.toNat) ?_ ⟨0, rfl, Nat.zero_le _⟩
  rintro _ ⟨i, rfl, hi⟩
  show Ok (C7.l1 l l (i : Int)) _
  unfold C7.l1
  refine Ok.cond (fun hb => ?_) (fun hb => ?_)
  ·have hil : i < l.length := by have := of_decide_eq_true hb; omega
   obtain ⟨r, hr⟩ : ∃ r, l[i]? = some r := ⟨_, List.getElem?_eq_getElem hil⟩
   rw [D8, hr, Option.bind_some, Option.bind_some, decide_eq_true rfl, Bool.not_true, cond_false, Es (by omega)]
   exact Ok.ret ⟨⟨i + 1, by omega, hil⟩, by show l.length - ((i : Int) + 1).toNat < l.length - ((i : Int)).toNat; omega⟩
  ·exact Ok.up (Ok.ret rfl)
 rw [c1, Option.bind_some, cond_false, c2, Option.bind_some, c3, Option.bind_some, Bool.not_true, cond_false]
 refine Ok.bind (kT (by omega) h.inr (by omega)) fun M hM => ?_
 have l5 : ∀ (i : Nat) (e : Ae), i < l.length -> l[i]? = some e -> ∀ out : List Ae, out.length <= i -> Ok (C2 (fun q' => B0.l5 (n : Int) M (i : Int) out e q'.1 q'.2) (false, 0)) (fun o : Lp (Int × List Ae) ((List Ae) × Int) => o = .next (((i + 1 : Nat) : Int), out ++ [e].filter (Z8 n l))) := by
  intro i e hi he out ho
  have q := h.fwd e (List.mem_of_getElem? he)
  obtain ⟨a, ha⟩ : ∃ a : Nat, e.First = (a : Int) := ⟨e.First.toNat, by omega⟩
  obtain ⟨b, hb⟩ : ∃ b : Nat, e.Then = (b : Int) := ⟨e.Then.toNat, by omega⟩
  refine Ok.loop (fun s : Bool × Int => ∃ k : Nat, s.2 = (k : Int) /\ k <= n /\ s.1 = (List.range k).any fun k => Fw (Jt l) n a k && Fw (Jt l) n k b) (fun s => n - s.2.toNat) ?_ ⟨0, rfl, Nat.zero_le _, rfl⟩
  rintro ⟨_, _⟩ ⟨k, rfl, hk, rfl⟩
  show Ok (B0.l5 (n : Int) M (i : Int) out e ((List.range k).any fun k => Fw (Jt l) n a k && Fw (Jt l) n k b) (k : Int)) _
  unfold B0.l5
  refine Ok.cond (fun hc => ?_) (fun hc => ?_)
  ·have hkn : k < n := by have := of_decide_eq_true hc; omega
   have fin : ∀ x : Bool, x = ((List.range (k + 1)).any fun k => Fw (Jt l) n a k && Fw (Jt l) n k b) -> Ok (B0.j6 (k : Int) x) (dI (fun s' : Bool × Int => (∃ k : Nat, s'.2 = (k : Int) /\ k <= n /\ s'.1 = (List.range k).any fun k => Fw (Jt l) n a k && Fw (Jt l) n k b) /\ n - s'.2.toNat < n - ((k : Int)).toNat) (fun o : Lp (Int × List Ae) ((List Ae) × Int) => o = .next (((i + 1 : Nat) : Int), out ++ [e].filter (Z8 n l)))) := by
    intro x hx
    unfold B0.j6
    rw [Es (by omega)]
    exact Ok.ret ⟨⟨k + 1, by show (k : Int) + 1 = _; omega, hkn, hx⟩, by show n - ((k : Int) + 1).toNat < n - ((k : Int)).toNat; omega⟩
   refine Ok.cond (fun h1 => fin _ ?_) (fun h1 => ?_)
   ·rw [List.range_succ, List.any_append, h1]; rfl
   ·rw [ha, hb, hM a k (by omega) hkn, hM k b hkn (by omega)]
    refine Ok.cond (fun h2 => fin _ ?_) (fun h2 => fin _ ?_)
    ·rw [List.range_succ, List.any_append, h1]; simp [h2]
    ·rw [List.range_succ, List.any_append, h1]; simp [h2]
  ·have hkn : k = n := by have := of_decide_eq_false hc; omega
   subst hkn
   have hke : Z8 k l e = !((List.range k).any fun j => Fw (Jt l) k a j && Fw (Jt l) k j b) := by
    unfold Z8
    rw [ha, hb]; rfl
   unfold B0.j7
   rw [Es (by omega), <- hke]
   refine Ok.up (Ok.cond (fun h1 => ?_) (fun h1 => ?_))
   ·rw [Td (by simp; omega), Option.bind_some]
    refine Ok.ret ?_
    rw [List.filter_cons_of_pos h1]; rfl
   ·refine Ok.ret ?_
    rw [List.filter_cons_of_neg (by rw [h1]; decide)]
    simp
 have l4 : Ok (C2 (fun q' => B0.l4 (n : Int) l M q'.1 q'.2) (0, ([] : List Ae))) (fun y => y = (yV n l, 0)) := by
  refine Ok.loop (fun s : Int × List Ae => ∃ i : Nat, s.1 = (i : Int) /\ i <= l.length /\ s.2 = (l.take i).filter (Z8 n l)) (fun s => l.length - s.1.toNat) ?_ ⟨0, rfl, Nat.zero_le _, rfl⟩
  rintro ⟨_, _⟩ ⟨i, rfl, hi, rfl⟩
  show Ok (B0.l4 (n : Int) l M (i : Int) ((l.take i).filter (Z8 n l))) _
  unfold B0.l4
  refine Ok.cond (fun hb => ?_) (fun hb => ?_)
  ·have hil : i < l.length := by have := of_decide_eq_true hb; omega
   obtain ⟨r, hr⟩ : ∃ r, l[i]? = some r := ⟨_, List.getElem?_eq_getElem hil⟩
   rw [D8, hr, Option.bind_some]
   refine (l5 i r hil hr _ (Nat.le_trans (List.length_filter_le _ _) (by rw [List.length_take]; omega))).mono fun o ho => ?_
   subst ho
   refine ⟨⟨i + 1, rfl, hil, ?_⟩, by show l.length - (((i + 1 : Nat) : Int)).toNat < l.length - ((i : Int)).toNat; omega⟩
   show _ ++ _ = _
   rw [Kn hr, List.filter_append]
  ·have hil : i = l.length := by have := of_decide_eq_false hb; omega
   subst hil
   rw [List.take_length]
   exact Ok.up (Ok.ret rfl)
 refine Ok.loop (fun s : Int => ∃ k : Nat, s = (k : Int) /\ k <= n) (fun s => n - s.toNat) ?_ ⟨0, rfl, Nat.zero_le _⟩
 rintro _ ⟨k, rfl, hk⟩
 show Ok (B0.l3 (n : Int) l M (k : Int)) _
 unfold B0.l3
 refine Ok.cond (fun hb => ?_) (fun hb => ?_)
 ·have hkn : k < n := by have := of_decide_eq_true hb; omega
  rw [hM k k hkn hkn]
  refine Ok.cond (fun h1 => absurd (h.wr.1 h1) (h.acy k)) (fun h1 => ?_)
  rw [Es (by omega)]
  exact Ok.ret ⟨⟨k + 1, by omega, hkn⟩, by show n - ((k : Int) + 1).toNat < n - ((k : Int)).toNat; omega⟩
 ·exact Ok.up l4
end
section
open Go
noncomputable def lY (e : Aw) (c : An) : Int := (Cp e c).getD 0
theorem Mr (e : Aw) (c : An) : Cp e c = some (lY e c) := by
 have : Ok (Cp e c) (fun _ => True) := by
  unfold Cp Cp.j1 Cp.j2 Cp.j3
  repeat' (first | exact Ok.ret trivial | refine Ok.cond (fun _ => ?_) (fun _ => ?_))
 obtain ⟨v, hv, -⟩ := this
 unfold lY
 rw [hv]; rfl
theorem Oq (s : List Ba) (v : Ba) (h : Lo s) : E5 s v = some (s.any fun x => decide (v = x)) := by
 have hi : Dc s v = some (Uu s fun x => decide (v = x)) := by
  unfold Dc
  refine So s _ h (fun i x hx => ?_) ?_
  ·show Dc.l1 s v (i : Int) = _
   unfold Dc.l1
   rw [P2 hx]
   cases decide (v = x) <;> rfl
  ·show Dc.l1 s v (s.length : Int) = _
   unfold Dc.l1
   rw [Mu]; rfl
 unfold E5
 rw [hi, Option.bind_some, Su]
theorem S1 (s : List An) (f : An -> Option Bool) (p : An -> Bool) (h : Lo s) (hf : ∀ x ∈ s, f x = some (p x)) : El s f = some (s.any p) := by
 have hi : Bz s f = some (Uu s p) := by
  unfold Bz
  refine So s p h (fun i x hx => ?_) ?_
  ·show Bz.l1 s f (i : Int) = _
   unfold Bz.l1
   rw [P2 hx, hf x (Li hx), Option.bind_some]
   cases p x <;> rfl
  ·show Bz.l1 s f (s.length : Int) = _
   unfold Bz.l1
   rw [Mu]; rfl
 unfold El
 rw [hi, Option.bind_some, Su]
def uH (e : Bj) (a b : Int) : Bool := decide (a = b) || ((e.Edges.any fun x => decide ((⟨a, b⟩ : Ba) = x)) || (e.Edges.any fun x => decide ((⟨b, a⟩ : Ba) = x)))
theorem Wq (e : Bj) (h : Lo e.Edges) (a b : Int) : Kf e a b = some (uH e a b) := by
 unfold Kf uH
 rw [Oq _ _ h, Oq _ _ h, Option.bind_some, Option.bind_some]
 cases decide (a = b) with
 | true => rfl
 | false => cases e.Edges.any fun x => decide ((⟨a, b⟩ : Ba) = x) <;> rfl
def K7 (p : Nat -> Nat -> Bool) (i k : Nat) : List Ae := ((List.range k).filter (p i)).map fun (k : Nat) => ⟨(i : Int), (k : Int)⟩
def H1 (p : Nat -> Nat -> Bool) (m i : Nat) : List Ae := (List.range i).flatMap fun i => K7 p i m
theorem Vl (p : Nat -> Nat -> Bool) (i k : Nat) : K7 p i (k + 1) = K7 p i k ++ (bif p i k then [⟨(i : Int), (k : Int)⟩] else []) := by
 unfold K7
 rw [List.range_succ, List.filter_append, List.map_append]
 cases h : p i k with
 | true => rw [List.filter_cons_of_pos h]; rfl
 | false => rw [List.filter_cons_of_neg (by rw [h]; decide)]; rfl
theorem Xb (p : Nat -> Nat -> Bool) (i k : Nat) : (K7 p i k).length <= k := by
 unfold K7
 rw [List.length_map]
 have := List.length_filter_le (p i) (List.range k)
 rw [List.length_range] at this
 exact this
theorem Tk (p : Nat -> Nat -> Bool) (m i : Nat) : H1 p m (i + 1) = H1 p m i ++ K7 p i m := by
 unfold H1
 rw [List.range_succ, List.flatMap_append]
 simp
theorem N1 (p : Nat -> Nat -> Bool) (m : Nat) : ∀ i, (H1 p m i).length <= i * m
 | 0 => Nat.zero_le _
 | i + 1 => by
  have := N1 p m i
  have h2 := Xb p i m
  rw [Tk, List.length_append, Nat.succ_mul]
  omega
theorem Rj {p : Nat -> Nat -> Bool} {m n : Nat} {r : Ae} : r ∈ H1 p m n ↔ ∃ i k, i < n /\ k < m /\ p i k = true /\ r = ⟨(i : Int), (k : Int)⟩ := by
 unfold H1 K7
 simp only [List.mem_flatMap, List.mem_range, List.mem_map, List.mem_filter]
 constructor
 ·rintro ⟨i, hi, k, ⟨hk, hp⟩, rfl⟩
  exact ⟨i, k, hi, hk, hp, rfl⟩
 ·rintro ⟨i, k, hi, hk, hp, rfl⟩
  exact ⟨i, hi, k, ⟨hk, hp⟩, rfl⟩
def X7 (e : Bj) (c : An) : Aw := e.Endpoints.getD c.Endpoint.toNat default
def Pq (e : Bj) (c : An) : Prop := 0 <= c.Endpoint /\ c.Endpoint < (e.Endpoints.length : Int)
theorem fA {e : Bj} {c : An} (h : Pq e c) : Cb e.Endpoints c.Endpoint = some (X7 e c) := by
 obtain ⟨h1, h2⟩ := h
 obtain ⟨j, hj⟩ : ∃ j : Nat, c.Endpoint = (j : Int) := ⟨c.Endpoint.toNat, by omega⟩
 unfold X7
 rw [hj, D8, Int.toNat_natCast, List.getD_eq_getElem?_getD, List.getElem?_eq_getElem (by omega)]
 rfl
noncomputable def xD (e : Bj) (a b : An) : Bool := decide (lY (X7 e a) a < lY (X7 e b) b) && uH e a.Endpoint b.Endpoint
noncomputable def Lv (e : Bj) (l : List An) (i k : Nat) : Bool := xD e (l.getD i default) (l.getD k default)
theorem Wh {α : Type} {l : List α} {i : Nat} {x y : α} (h : l[i]? = some x) : l.getD i y = x := by
 rw [List.getD_eq_getElem?_getD, h]; rfl
theorem X1 {e : Bj} {c : An} (h : Pq e c) : Is e c = some true := by
 unfold Is
 rw [decide_eq_true h.1, cond_true, decide_eq_true h.2]
theorem hY {e : Bj} {l : List An} (hc : Ce e = some 0) (hE : Lo e.Edges) (hl : l.length <= 24) (hn : ∀ c ∈ l, Pq e c) (hcap : (H1 (Lv e l) l.length l.length).length <= Em) : Ok (Cm e l) (fun y => y = (H9 aQ (H1 (Lv e l) l.length l.length), 0)) := by
 have hlo : Lo l := by unfold Lo; omega
 unfold Cm
 rw [hc, Option.bind_some, decide_eq_true rfl, Bool.not_true, cond_false, decide_eq_false (by omega), cond_false]
 have c1 := S1 l (fun x0 => Hg x0 e) (fun _ => false) hlo (fun x hx => by
  unfold Hg
  rw [X1 (hn x hx)]; rfl)
 have hf : l.any (fun _ => false) = false := by simp
 rw [c1, Option.bind_some, hf, cond_false]
 have l3 : ∀ (i : Nat) (c : An), l[i]? = some c -> ∀ out : List Ae, out.length <= 600 -> Ok (C2 (fun q' => Cm.l3 e l (i : Int) c q'.1 q'.2) (0, out)) (fun o : Lp (Int × List Ae) ((List Ae) × Int) => o = .next (((i + 1 : Nat) : Int), out ++ K7 (Lv e l) i l.length)) := by
  intro i c hic out ho
  have hil := N0 hic
  refine Ok.loop (fun s : Int × List Ae => ∃ k : Nat, s.1 = (k : Int) /\ k <= l.length /\ s.2 = out ++ K7 (Lv e l) i k) (fun s => l.length - s.1.toNat) ?_ ⟨0, rfl, Nat.zero_le _, by show out = out ++ []; rw [List.append_nil]⟩
  rintro ⟨_, _⟩ ⟨k, rfl, hk, rfl⟩
  show Ok (Cm.l3 e l (i : Int) c (k : Int) (out ++ K7 (Lv e l) i k)) _
  unfold Cm.l3
  refine Ok.cond (fun hb => ?_) (fun hb => ?_)
  ·have hkl : k < l.length := by have := of_decide_eq_true hb; omega
   obtain ⟨b, hkb⟩ : ∃ b, l[k]? = some b := ⟨_, List.getElem?_eq_getElem hkl⟩
   have fin : ∀ x : Bool, x = Lv e l i k -> Ok (Cm.j4 (i : Int) (k : Int) (out ++ K7 (Lv e l) i k) x) (dI (fun s' : Int × List Ae => (∃ k : Nat, s'.1 = (k : Int) /\ k <= l.length /\ s'.2 = out ++ K7 (Lv e l) i k) /\ l.length - s'.1.toNat < l.length - ((k : Int)).toNat) (fun o : Lp (Int × List Ae) ((List Ae) × Int) => o = .next (((i + 1 : Nat) : Int), out ++ K7 (Lv e l) i l.length))) := by
    intro x hx
    have hrl := Xb (Lv e l) i k
    unfold Cm.j4 Cm.j5
    rw [Es (by omega)]
    refine Ok.cond (fun h1 => ?_) (fun h1 => ?_)
    ·refine Ok.bind (Iz (by rw [List.length_append, List.length_singleton]; omega)) fun l' hl' => ?_
     subst hl'
     refine Ok.ret ⟨⟨k + 1, by show (k : Int) + 1 = _; omega, hkl, ?_⟩, by show l.length - ((k : Int) + 1).toNat < l.length - ((k : Int)).toNat; omega⟩
     show _ ++ _ = _
     rw [Vl, <- hx, h1, List.append_assoc]; rfl
    ·refine Ok.ret ⟨⟨k + 1, by show (k : Int) + 1 = _; omega, hkl, ?_⟩, by show l.length - ((k : Int) + 1).toNat < l.length - ((k : Int)).toNat; omega⟩
     show _ ++ _ = _
     rw [Vl, <- hx, h1, cond_false, List.append_nil]
   rw [D8, hkb, Option.bind_some, fA (hn c (Li hic)), Option.bind_some, Mr, Option.bind_some, fA (hn b (Li hkb)), Option.bind_some, Mr, Option.bind_some, Wq e hE, Option.bind_some]
   have hp : Lv e l i k = (decide (lY (X7 e c) c < lY (X7 e b) b) && uH e c.Endpoint b.Endpoint) := by
    unfold Lv xD
    rw [Wh hic, Wh hkb]
   refine Ok.cond (fun h1 => fin _ ?_) (fun h1 => fin _ ?_)
   ·rw [hp, h1]; rfl
   ·rw [hp, h1]; rfl
  ·have hkl : k = l.length := by have := of_decide_eq_false hb; omega
   subst hkl
   rw [Es (by omega)]
   exact Ok.up (Ok.ret rfl)
 refine Ok.loop (fun s : Int × List Ae => ∃ i : Nat, s.1 = (i : Int) /\ i <= l.length /\ s.2 = H1 (Lv e l) l.length i) (fun s => l.length - s.1.toNat) ?_ ⟨0, rfl, Nat.zero_le _, rfl⟩
 rintro ⟨_, _⟩ ⟨i, rfl, hi, rfl⟩
 have hlen := N1 (Lv e l) l.length i
 have hmul : i * l.length <= 24 * 24 := Nat.mul_le_mul (by omega) hl
 show Ok (Cm.l2 e l (i : Int) (H1 (Lv e l) l.length i)) _
 unfold Cm.l2
 refine Ok.cond (fun hb => ?_) (fun hb => ?_)
 ·have hil : i < l.length := by have := of_decide_eq_true hb; omega
  obtain ⟨c, hic⟩ : ∃ c, l[i]? = some c := ⟨_, List.getElem?_eq_getElem hil⟩
  rw [D8, hic, Option.bind_some]
  refine (l3 i c hic _ (by omega)).mono fun o ho => ?_
  subst ho
  refine ⟨⟨i + 1, rfl, hil, ?_⟩, by show l.length - (((i + 1 : Nat) : Int)).toNat < l.length - ((i : Int)).toNat; omega⟩
  show _ ++ _ = _
  rw [Tk]
 ·have hil : i = l.length := by have := of_decide_eq_false hb; omega
  subst hil
  rw [Ns _ hcap, Option.bind_some]
  exact Ok.up (Ok.ret rfl)
theorem mR {e : Bj} {l : List An} (hl : l.length <= 24) (hcap : (H1 (Lv e l) l.length l.length).length <= Em) : uJ l.length (H9 aQ (H1 (Lv e l) l.length l.length)) := by
 have hlen := N1 (Lv e l) l.length l.length
 have hmul : l.length * l.length <= 24 * 24 := Nat.mul_le_mul hl hl
 have hs := Yx aQ (H1 (Lv e l) l.length l.length)
 refine ⟨U4 Y8 _, by omega, Nat.le_trans hs hcap, fun r hr => ?_, fun a ha => ?_⟩
 ·obtain ⟨i, k, hi, hk, -, rfl⟩ := Rj.1 ((Mz Y8).1 hr)
  refine ⟨by show (0 : Int) <= (i : Int); omega, by show (i : Int) < _; omega, by show (0 : Int) <= (k : Int); omega, by show (k : Int) < _; omega⟩
 ·have up : ∀ a b, TC (fun a b => Jt (H9 aQ (H1 (Lv e l) l.length l.length)) a b = true) a b -> lY (X7 e (l.getD a default)) (l.getD a default) < lY (X7 e (l.getD b default)) (l.getD b default) := by
   have one : ∀ a b, Jt (H9 aQ (H1 (Lv e l) l.length l.length)) a b = true -> lY (X7 e (l.getD a default)) (l.getD a default) < lY (X7 e (l.getD b default)) (l.getD b default) := by
    intro a b h
    obtain ⟨i, k, hi, hk, hp, he⟩ := Rj.1 ((Mz Y8).1 (Tu.1 h))
    injection he with e1 e2
    have e1 : a = i := by omega
    have e2 : b = k := by omega
    subst e1 e2
    unfold Lv xD at hp
    rw [Bool.and_eq_true] at hp
    exact of_decide_eq_true hp.1
   intro a b h
   induction h with
   | one h => exact one _ _ h
   | step h _ ih => exact Int.lt_trans (one _ _ h) ih
  have := up a a ha
  omega
theorem qW {e : Bj} {l : List An} (hc : Ce e = some 0) (hE : e.Edges.length <= 100) (hl : l.length <= 24) (hn : ∀ c ∈ l, Pq e c) {i k : Nat} {a b : An} (hi : l[i]? = some a) (hk : l[k]? = some b) : Ok (Cs e l ⟨(i : Int), (k : Int)⟩) (fun y => y.2 = 0 /\ (uH e a.Endpoint b.Endpoint = true -> a.Endpoint ≠ b.Endpoint -> y.1 ≠ [])) := by
 have hil := N0 hi
 have hkl := N0 hk
 unfold Cs
 rw [hc, Option.bind_some, decide_eq_true rfl, Bool.not_true, cond_false, decide_eq_false (by omega), cond_false]
 have w1 : ∀ j : Nat, j < l.length -> I4 (j : Int) l = some true := fun j hj => by
  unfold I4
  rw [decide_eq_true (by omega), cond_true, decide_eq_true (by omega)]
 rw [w1 i hil, Option.bind_some, Bool.not_true, cond_false, w1 k hkl, Option.bind_some, Bool.not_true]
 unfold Cs.j2
 rw [cond_false]
 show Ok ((Cb l (i : Int)).bind _) _
 rw [D8, hi, Option.bind_some, X1 (hn a (Li hi)), Option.bind_some, Bool.not_true, cond_false]
 show Ok ((Cb l (k : Int)).bind _) _
 rw [D8, hk, Option.bind_some, X1 (hn b (Li hk)), Option.bind_some, Bool.not_true]
 unfold Cs.j3
 rw [cond_false]
 show Ok ((Cb l (i : Int)).bind fun e_4 => (Cb l (k : Int)).bind _) _
 rw [D8, D8, hi, Option.bind_some, hk, Option.bind_some]
 refine Ok.loop (fun s : Int × List Int => ∃ j : Nat, s.1 = (j : Int) /\ j <= e.Edges.length /\ s.2.length <= j /\ (∀ x ∈ e.Edges.take j, (x = ⟨a.Endpoint, b.Endpoint⟩ \/ x = ⟨b.Endpoint, a.Endpoint⟩) -> s.2 ≠ [])) (fun s => e.Edges.length - s.1.toNat) ?_ ⟨0, rfl, Nat.zero_le _, Nat.le_refl _, fun x hx => by cases hx⟩
 rintro ⟨_, out⟩ ⟨j, rfl, hj, hlen, hw⟩
 dsimp only at hlen hw
 show Ok (Cs.l4 e a b (j : Int) out) _
 unfold Cs.l4
 refine Ok.cond (fun hb => ?_) (fun hb => ?_)
 ·have hjl : j < e.Edges.length := by have := of_decide_eq_true hb; omega
  obtain ⟨x, hx⟩ : ∃ x, e.Edges[j]? = some x := ⟨_, List.getElem?_eq_getElem hjl⟩
  rw [D8, hx, Option.bind_some]
  have yes : Ok (Cs.j5 (j : Int) out true) (dI (fun s' : Int × List Int => (∃ j : Nat, s'.1 = (j : Int) /\ j <= e.Edges.length /\ s'.2.length <= j /\ (∀ x ∈ e.Edges.take j, (x = ⟨a.Endpoint, b.Endpoint⟩ \/ x = ⟨b.Endpoint, a.Endpoint⟩) -> s'.2 ≠ [])) /\ e.Edges.length - s'.1.toNat < e.Edges.length - ((j : Int)).toNat) (fun y => y.2 = 0 /\ (uH e a.Endpoint b.Endpoint = true -> a.Endpoint ≠ b.Endpoint -> y.1 ≠ []))) := by
   unfold Cs.j5 Cs.j6
   rw [cond_true]
   refine Ok.bind (Iz (by rw [List.length_singleton]; omega)) fun l' hl' => ?_
   subst hl'
   rw [Es (by omega)]
   exact Ok.ret ⟨⟨j + 1, by show (j : Int) + 1 = _; omega, hjl, by show (out ++ [(j : Int)]).length <= j + 1; rw [List.length_append, List.length_singleton]; omega, fun _ _ _ => by simp⟩, by show e.Edges.length - ((j : Int) + 1).toNat < e.Edges.length - ((j : Int)).toNat; omega⟩
  refine Ok.cond (fun h1 => yes) (fun h1 => ?_)
  have h1 := of_decide_eq_false h1
  by_cases h2 : x = ⟨b.Endpoint, a.Endpoint⟩
  ·rw [decide_eq_true h2]; exact yes
  ·rw [decide_eq_false h2]
   unfold Cs.j5 Cs.j6
   rw [cond_false, Es (by omega)]
   refine Ok.ret ⟨⟨j + 1, by show (j : Int) + 1 = _; omega, hjl, by show out.length <= j + 1; omega, fun z hz hz2 => ?_⟩, by show e.Edges.length - ((j : Int) + 1).toNat < e.Edges.length - ((j : Int)).toNat; omega⟩
   rw [Kn hx] at hz
   rcases List.mem_append.1 hz with hz | hz
   ·exact hw z hz hz2
   ·rw [List.mem_singleton.1 hz] at hz2
    rcases hz2 with h | h
    ·exact absurd h h1
    ·exact absurd h h2
 ·have hjl : j = e.Edges.length := by have := of_decide_eq_false hb; omega
  subst hjl
  rw [List.take_length] at hw
  refine Ok.up (Ok.ret ⟨rfl, fun h1 h2 => ?_⟩)
  unfold uH at h1
  rw [decide_eq_false h2, Bool.false_or, Bool.or_eq_true, List.any_eq_true, List.any_eq_true] at h1
  rcases h1 with ⟨x, hx, h3⟩ | ⟨x, hx, h3⟩
  ·exact hw x hx (.inl (of_decide_eq_true h3).symm)
  ·exact hw x hx (.inr (of_decide_eq_true h3).symm)
end
section
open Go
def Vi (e : Bj) (n : Nat) (l : List An) : Prop := l.length <= n /\ ∀ c ∈ l, Pq e c
theorem Vi.add {e : Bj} {n n' : Nat} {l m : List An} (h : Vi e n l) (hn : n + m.length <= n') (hm : ∀ c ∈ m, Pq e c) : Vi e n' (l ++ m) := by
 refine ⟨by rw [List.length_append]; have := h.1; omega, fun c hc => ?_⟩
 rcases List.mem_append.1 hc with hc | hc
 ·exact h.2 c hc
 ·exact hm c hc
theorem Vi.le {e : Bj} {n n' : Nat} {l : List An} (h : Vi e n l) (hn : n <= n') : Vi e n' l := ⟨Nat.le_trans h.1 hn, h.2⟩
theorem Vk (l : List Int) (n : Int) (h : Lo l) : Ok (Gw l n) (fun _ => True) := by
 refine ⟨_, (Tm l (fun x => decide (x = n)) true false h (fun i x hx => ?_) ?_), trivial⟩
 ·show Gw.l1 l n (i : Int) = _
  unfold Gw.l1
  rw [P2 hx]
  cases decide (x = n) <;> rfl
 ·show Gw.l1 l n (l.length : Int) = _
  unfold Gw.l1
  rw [Mu]; rfl
theorem pA {i : Nat} {e : Aw} (h : bE i e) : Lo e.Suites := by
 obtain ⟨c, hc, pN, fall, rfl⟩ := h
 show Lo c.2
 unfold U6 at hc
 simp only [List.mem_cons, List.not_mem_nil, or_false] at hc
 rcases hc with rfl | rfl | rfl | rfl | rfl | rfl <;> simp [Lo]
noncomputable def zL (i : Nat) (id a : Int) : Bq := (N7 3000 (cK i) (Az.mk 7 256) id a 901).getD ⟨⟨0, 0⟩, 0, []⟩
theorem qS {a : Int} (h : a ∈ ([2, 1] : List Int)) : Ok (Gz (cK 1) (Az.mk 7 256) 201 a 901) (fun _ => True) := by
 simp only [List.mem_cons, List.not_mem_nil, or_false] at h
 rcases h with rfl | rfl
 ·exact ⟨zL 1 201 2, Jn (fu := 3000) _ (by kernel_rfl), trivial⟩
 ·exact ⟨zL 1 201 1, Jn (fu := 3000) _ (by kernel_rfl), trivial⟩
def uU (e : Bj) (y : List An × Ac) : Prop := Vi e 7 y.1 /\ Oh y.2
theorem hQ {e : Bj} {k : Int} (hk : 0 <= k /\ k <= 100) {d : Ac} (hd : Oh d) {l : List An} (hl : Vi e 7 l) : Ok (C2 (fun q' => A1.l14 q'.1 q'.2.1 q'.2.2) (k, d, l)) (uU e) := by
 refine Ok.loop (fun s : Int × Ac × List An => (0 <= s.1 /\ s.1 <= 100) /\ Oh s.2.1 /\ Vi e 7 s.2.2) (fun s => s.1.toNat) ?_ ⟨hk, hd, hl⟩
 clear hk hd hl
 rintro ⟨k, d, l⟩ ⟨hk, hd, hl⟩
 dsimp only at hk hd hl
 show Ok (A1.l14 k d l) _
 unfold A1.l14
 have J : ∀ b : Bool, (b = true -> 0 < k /\ 1 < l.length) -> Ok (A1.j15 k d l b) (dI (fun s : Int × Ac × List An => ((0 <= s.1 /\ s.1 <= 100) /\ Oh s.2.1 /\ Vi e 7 s.2.2) /\ s.1.toNat < k.toNat) (uU e)) := by
  intro b hb
  unfold A1.j15
  refine Ok.cond (fun h => ?_) (fun _ => Ok.up (Ok.ret ⟨hl, hd⟩))
  obtain ⟨h1, h2⟩ := hb h
  have hlen := hl.1
  rw [Es (x := (l.length : Int) - 1) (by omega)]
  refine Ok.bind (Hc hd _ (by omega) (by omega)) fun y hy => ?_
  have hy1 := hy.1
  rw [Es (x := y.1 + 1) (by omega)]
  refine Ok.bind (M4 (by omega) (by omega)) fun e3 h3 => ?_
  refine Ok.bind (M4 (by omega) (by omega)) fun e4 h4 => ?_
  refine Ok.bind (M4 (by omega) (by unfold De; rw [List.length_set]; omega)) fun e5 h5 => ?_
  rw [Es (x := k - 1) (by omega)]
  refine Ok.ret ⟨⟨by show 0 <= k - 1 /\ k - 1 <= 100; omega, hy.2, ?_, fun c hc => ?_⟩, by show (k - 1).toNat < k.toNat; omega⟩
  ·show (De (De l _ _) _ _).length <= 7
   unfold De
   rw [List.length_set, List.length_set]; exact hlen
  ·have hc : c ∈ De (De l (y.1).toNat e3) (y.1 + 1).toNat e4 := hc
   unfold De at hc
   rcases List.mem_or_eq_of_mem_set hc with hc | rfl
   ·rcases List.mem_or_eq_of_mem_set hc with hc | rfl
    ·exact hl.2 c hc
    ·exact hl.2 _ h3
   ·exact hl.2 _ h4
 refine Ok.cond (fun hb => J _ fun h => ⟨of_decide_eq_true hb, by have := of_decide_eq_true h; omega⟩) (fun _ => J false fun h => by cases h)
theorem gT {e : Bj} {d : Ac} (hd : Oh d) {l : List An} (hl : Vi e 1000 l) : Ok (C2 (fun q' => A1.l12 d q') l) (uU e) := by
 refine Ok.loop (fun s : List An => Vi e 1000 s) (fun s => s.length) ?_ hl
 clear hl
 intro l hl
 have hlen := hl.1
 show Ok (A1.l12 d l) _
 unfold A1.l12
 refine Ok.cond (fun hb => ?_) (fun hb => ?_)
 ·have hb := of_decide_eq_true hb
  rw [Es (x := (l.length : Int) - 1) (by omega)]
  refine Ok.bind (Wr ⟨Int.le_refl _, by omega, by omega⟩) fun _ _ => ?_
  refine Ok.ret ⟨⟨by show (l.take _).length <= 1000; rw [List.length_take]; omega, fun c hc => hl.2 c (List.mem_of_mem_take hc)⟩, ?_⟩
  show (l.take (((l.length : Int) - 1).toNat - (0 : Int).toNat)).length < l.length
  rw [List.length_take]; omega
 ·have hb := of_decide_eq_false hb
  refine Ok.up (Ok.bind (Hc hd _ (by omega) (by omega)) fun y hy => ?_)
  exact hQ ⟨hy.1.1, by have := hy.1.2; omega⟩ hy.2 ⟨by omega, hl.2⟩
theorem iS {d : Ac} (hd : Oh d) {e : Bj} (h : Ug e) : Ok (A1 d e) (uU e) := by
 have hn2 := h.n2
 unfold A1
 refine Ok.bind (Hc hd _ (by omega) (by omega)) fun y hy => ?_
 refine Ok.bind (Hc hy.2 _ (by omega) (by omega)) fun y2 hy2 => ?_
 refine Ok.bind (Hc hy2.2 _ (by omega) (by omega)) fun y3 hy3 => ?_
 refine Ok.loop (fun s : Int × Ac × List An => ∃ i : Nat, s.1 = (i : Int) /\ i <= e.Endpoints.length /\ Oh s.2.1 /\ Vi e (6 * i) s.2.2) (fun s => e.Endpoints.length - s.1.toNat) ?_ ⟨0, rfl, Nat.zero_le _, hy3.2, Nat.zero_le _, fun c hc => by cases hc⟩
 rintro ⟨_, d1, l⟩ ⟨i, rfl, hi, hd1, hl⟩
 dsimp only at hd1 hl
 show Ok (A1.l1 e y y2 y3 (i : Int) d1 l) _
 unfold A1.l1
 refine Ok.cond (fun hb => ?_) (fun hb => ?_)
 ·have hil : i < e.Endpoints.length := by have := of_decide_eq_true hb; omega
  obtain ⟨x, hx⟩ : ∃ x, e.Endpoints[i]? = some x := ⟨_, List.getElem?_eq_getElem hil⟩
  have hx1 := h.eps i x hx
  have nam : ∀ c : An, c.Endpoint = (i : Int) -> Pq e c := fun c hc => by unfold Pq; omega
  have one : ∀ (n n' : Nat) (l : List An) (c : An), Vi e n l -> n + 1 <= n' -> c.Endpoint = (i : Int) -> Vi e n' (l ++ [c]) := fun n n' l c h1 h2 h3 => h1.add h2 fun c' hc' => by rw [List.mem_singleton.1 hc']; exact nam c h3
  generalize hT : (dI (fun s' : Int × Ac × List An => (∃ i : Nat, s'.1 = (i : Int) /\ i <= e.Endpoints.length /\ Oh s'.2.1 /\ Vi e (6 * i) s'.2.2) /\ e.Endpoints.length - s'.1.toNat < e.Endpoints.length - ((i : Int)).toNat) (uU e)) = T
  have app : ∀ (n : Nat) (l m : List An), Vi e n l -> n <= 100 -> m.length <= 2 -> (l.length + m.length) * 640 <= 140737488355328 := fun n l m h1 h2 h3 => by have := h1.1; omega
  have J11 : ∀ d l, Oh d -> Vi e (6 * i + 6) l -> Ok (A1.j11 (i : Int) d l) T := by
   intro d l hd hl
   unfold A1.j11
   rw [<- hT, Es (by omega)]
   exact Ok.ret ⟨⟨i + 1, by show (i : Int) + 1 = _; omega, hil, hd, hl.le (by omega)⟩, by show e.Endpoints.length - ((i : Int) + 1).toNat < e.Endpoints.length - ((i : Int)).toNat; omega⟩
  have J10 : ∀ d l b, Oh d -> Vi e (6 * i + 4) l -> Ok (A1.j10 (i : Int) d l b) T := by
   intro d l b hd hl
   unfold A1.j10
   refine Ok.cond (fun _ => ?_) (fun _ => J11 _ _ hd (hl.le (by omega)))
   refine Ok.bind (Iz (app _ _ _ hl (by omega) (by simp))) fun l' hl' => ?_
   subst hl'
   refine J11 _ _ hd (hl.add (Nat.le_refl _) fun c hc => nam c ?_)
   simp only [List.mem_cons, List.not_mem_nil, or_false] at hc
   rcases hc with rfl | rfl <;> rfl
  have J9 : ∀ d l, Oh d -> Vi e (6 * i + 4) l -> Ok (A1.j9 y3 (i : Int) x d l) T := by
   intro d l hd hl
   unfold A1.j9
   exact Ok.cond (fun _ => J10 _ _ _ hd hl) (fun _ => J10 _ _ _ hd hl)
  have J8 : ∀ d l b, Oh d -> Vi e (6 * i + 3) l -> Ok (A1.j8 y3 (i : Int) x l b d) T := by
   intro d l b hd hl
   unfold A1.j8
   refine Ok.cond (fun _ => ?_) (fun _ => J9 _ _ hd (hl.le (by omega)))
   refine Ok.bind (Iz (app _ _ _ hl (by omega) (by simp))) fun l' hl' => ?_
   subst hl'
   exact J9 _ _ hd (one _ _ _ _ hl (by omega) rfl)
  have J7 : ∀ d l, Oh d -> Vi e (6 * i + 3) l -> Ok (A1.j7 y y3 (i : Int) x d l) T := by
   intro d l hd hl
   unfold A1.j7
   refine Ok.cond (fun _ => ?_) (fun _ => J8 _ _ _ hd hl)
   refine Ok.bind (Vk _ _ (pA hx1)) fun b _ => ?_
   refine Ok.cond (fun _ => ?_) (fun _ => J8 _ _ _ hd hl)
   refine Ok.bind (Hc hd _ (by omega) (by omega)) fun z hz => J8 _ _ _ hz.2 hl
  have J6 : ∀ d l b, (b = true -> i = 1) -> Oh d -> Vi e (6 * i + 2) l -> Ok (A1.j6 y y3 (i : Int) x d l b) T := by
   intro d l b hb hd hl
   unfold A1.j6
   refine Ok.cond (fun h1 => ?_) (fun _ => J7 _ _ hd (hl.le (by omega)))
   have hi1 := hb h1
   unfold Rq
   rw [Option.bind_some]
   refine Ok.bind (eF hd _ (by decide) (by decide)) fun z hz => ?_
   have hnm : x.Name = cK 1 := by rw [Zs hx1, hi1]
   rw [hnm]
   refine Ok.bind (qS hz.1) fun w _ => ?_
   refine Ok.bind (Iz (app _ _ _ hl (by omega) (by simp))) fun l' hl' => ?_
   subst hl'
   exact J7 _ _ hz.2 (one _ _ _ _ hl (by omega) rfl)
  have J5 : ∀ d l, Oh d -> Vi e (6 * i + 2) l -> Ok (A1.j5 y y2 y3 (i : Int) x d l) T := by
   intro d l hd hl
   unfold A1.j5
   exact Ok.cond (fun _ => J6 _ _ _ (fun h => by have := of_decide_eq_true h; omega) hd hl) (fun _ => J6 _ _ _ (fun h => by cases h) hd hl)
  have J4 : ∀ d l b, Oh d -> Vi e (6 * i + 1) l -> Ok (A1.j4 y y2 y3 (i : Int) x d l b) T := by
   intro d l b hd hl
   unfold A1.j4
   refine Ok.cond (fun _ => ?_) (fun _ => J5 _ _ hd (hl.le (by omega)))
   refine Ok.bind (Iz (app _ _ _ hl (by omega) (by simp))) fun l' hl' => ?_
   subst hl'
   exact J5 _ _ hd (one _ _ _ _ hl (by omega) rfl)
  have J3 : ∀ d l, Oh d -> Vi e (6 * i + 1) l -> Ok (A1.j3 y y2 y3 (i : Int) x d l) T := by
   intro d l hd hl
   unfold A1.j3
   exact Ok.cond (fun _ => J4 _ _ _ hd hl) (fun _ => J4 _ _ _ hd hl)
  have J2 : ∀ b, Ok (A1.j2 y y2 y3 (i : Int) d1 l x b) T := by
   intro b
   unfold A1.j2
   refine Ok.cond (fun _ => ?_) (fun _ => J3 _ _ hd1 (hl.le (by omega)))
   refine Ok.bind (Hc hd1 _ (by omega) (by omega)) fun z hz => ?_
   refine Ok.bind (Iz (app _ _ _ hl (by omega) (by simp))) fun l' hl' => ?_
   subst hl'
   exact J3 _ _ hz.2 (one _ _ _ _ hl (by omega) rfl)
  rw [D8, hx, Option.bind_some]
  refine Ok.cond (fun _ => ?_) (fun _ => J2 _)
  refine Ok.bind (Vk _ _ (pA hx1)) fun b _ => J2 _
 ·exact Ok.up (gT hd1 (hl.le (by omega)))
theorem jL {e : Bj} (h : Ug e) : Lo e.Edges := by have := h.edges.len; unfold Lo; omega
theorem Yd (t : List Int) : Bx t = some true := by
 unfold Bx Ms
 rw [Option.bind_some]
 by_cases hl : (t.length : Int) <= 400
 ·rw [decide_eq_true hl, Bool.not_true, cond_false]
  refine Ok.true_ ?_
  refine Ok.bind (sT (by omega)) fun d hd => ?_
  refine Ok.bind (lK hd) fun y4 h4 => ?_
  obtain ⟨e, d4⟩ := y4
  obtain ⟨hS, hd4⟩ := h4
  have hS : Ug e := hS
  refine Ok.bind (iS hd4 hS) fun y5 h5 => ?_
  obtain ⟨l, d5⟩ := y5
  obtain ⟨⟨hl7, hnm⟩, -⟩ := h5
  have hl7 : l.length <= 7 := hl7
  have hnm : ∀ c ∈ l, Pq e c := hnm
  have hedges := hS.edges.len
  have hcap : (H1 (Lv e l) l.length l.length).length <= Em := by
   have h1 := N1 (Lv e l) l.length l.length
   have h2 : l.length * l.length <= 7 * 7 := Nat.mul_le_mul hl7 hl7
   unfold Em
   omega
  refine Ok.bind (hY (Vj hS) (jL hS) (show l.length <= 24 by omega) hnm hcap) fun y6 h6 => ?_
  subst h6
  have hreq := mR (e := e) (l := l) (by omega) hcap
  refine Ok.bind (gO (n := l.length) (by omega) hreq) fun y7 h7 => ?_
  subst h7
  rw [decide_eq_true rfl, Bool.not_true, cond_false]
  unfold Bx.j2
  rw [cond_false]
  generalize hR : H9 aQ (H1 (Lv e l) l.length l.length) = R at hreq
  have hmem : ∀ r ∈ R, ∃ i k, i < l.length /\ k < l.length /\ Lv e l i k = true /\ r = ⟨(i : Int), (k : Int)⟩ := fun r hr => by
   rw [<- hR] at hr
   exact Rj.1 ((Mz Y8).1 hr)
  have hlen := hreq.len
  refine Ok.loop (fun s : Int => ∃ j : Nat, s = (j : Int) /\ j <= R.length) (fun s => R.length - s.toNat) ?_ ⟨0, rfl, Nat.zero_le _⟩
  rintro _ ⟨j, rfl, hj⟩
  show Ok (Bx.l3 (e, d4) (l, d5) (R, 0) (j : Int)) _
  unfold Bx.l3
  show Ok (cond (decide ((j : Int) < (R.length : Int))) _ _) _
  refine Ok.cond (fun hb => ?_) (fun hb => ?_)
  ·have hjl : j < R.length := by have := of_decide_eq_true hb; omega
   obtain ⟨r, hr⟩ : ∃ r, R[j]? = some r := ⟨_, List.getElem?_eq_getElem hjl⟩
   obtain ⟨i, k, hi, hk, hp, rfl⟩ := hmem r (Li hr)
   obtain ⟨a, ha⟩ : ∃ a, l[i]? = some a := ⟨_, List.getElem?_eq_getElem hi⟩
   obtain ⟨b, hb2⟩ : ∃ b, l[k]? = some b := ⟨_, List.getElem?_eq_getElem hk⟩
   unfold Lv xD at hp
   rw [Wh ha, Wh hb2, Bool.and_eq_true] at hp
   obtain ⟨hp1, hp2⟩ := hp
   have hp1 := of_decide_eq_true hp1
   show Ok ((Cb R (j : Int)).bind _) _
   rw [D8, hr, Option.bind_some]
   show Ok (cond (decide ((l.length : Int) <= (i : Int))) _ (Bx.j4 (e, d4) (l, d5) (j : Int) ⟨(i : Int), (k : Int)⟩ (decide ((l.length : Int) <= (k : Int))))) _
   rw [decide_eq_false (by omega), cond_false, decide_eq_false (by omega)]
   unfold Bx.j4
   rw [cond_false]
   show Ok ((Cb l (i : Int)).bind fun e_2 => (Cb l (k : Int)).bind _) _
   rw [D8, D8, ha, Option.bind_some, hb2, Option.bind_some]
   refine Ok.bind (qW (Vj hS) (by omega) (by omega) hnm ha hb2) fun y8 h8 => ?_
   rw [h8.1, decide_eq_true rfl, Bool.not_true, cond_false]
   show Ok ((Cb e.Endpoints a.Endpoint).bind _) _
   rw [fA (hnm a (Li ha)), Option.bind_some, Mr, Option.bind_some]
   show Ok ((Cb e.Endpoints b.Endpoint).bind _) _
   rw [fA (hnm b (Li hb2)), Option.bind_some, Mr, Option.bind_some, decide_eq_false (by omega), cond_false]
   have go : Ok (Bx.j5 (j : Int) false) (dI (fun s' : Int => (∃ j : Nat, s' = (j : Int) /\ j <= R.length) /\ R.length - s'.toNat < R.length - ((j : Int)).toNat) (fun r => r = true)) := by
    unfold Bx.j5
    rw [cond_false, Es (by omega)]
    exact Ok.ret ⟨⟨j + 1, by omega, hjl⟩, by show R.length - ((j : Int) + 1).toNat < R.length - ((j : Int)).toNat; omega⟩
   refine Ok.cond (fun h1 => ?_) (fun _ => go)
   have hne : a.Endpoint ≠ b.Endpoint := fun e0 => by rw [decide_eq_true e0] at h1; cases h1
   have h9 := h8.2 hp2 hne
   have : 0 < y8.1.length := List.length_pos_iff.2 h9
   rw [decide_eq_false (by omega)]
   exact go
  ·refine Ok.up ?_
   rw [eW, Option.bind_some]
   exact Ok.ret rfl
 ·rw [decide_eq_false hl, Bool.not_false, cond_true, eW]
  rfl
end
end Go.Proofs.YtkpcbnnlefcebaaGreat
