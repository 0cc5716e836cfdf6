import GoSem.Core.View
namespace Go.Proofs.YtkoflhimdenjaaaGreat
theorem oi_ {α : Type} {a b : α} (h : some a = some b) : a = b := Option.some.inj h
open Go
inductive Lp (S R : Type) where
 | next (s : S)
 | done (r : R)
def Xd {S R : Type} (it : S -> Option R) : Lp S R -> Option R
 | .next s => it s
 | .done r => some r
def M1 {S R : Type} (body : S -> Option (Lp S R)) : Nat -> S -> Option R
 | 0, _ => none
 | n + 1, s => (body s).bind (Xd (M1 body n))
theorem Zm {S R : Type} {body : S -> Option (Lp S R)} {r : R} : ∀ {n : Nat} {s : S}, M1 body n s = some r -> M1 body (n + 1) s = some r
 | 0, _, h => by cases h
 | n + 1, s, h => by
  unfold M1 at h ⊢
  cases hb : body s with
  | none => rw [hb] at h; cases h
  | some o =>
   rw [hb] at h
   cases o with
   | next s' => exact Zm (n := n) h
   | done r' => exact h
theorem iX {S R : Type} {body : S -> Option (Lp S R)} {r : R} {s : S} {n m : Nat} (h : M1 body n s = some r) (hm : n <= m) : M1 body m s = some r := by
 induction hm with
 | refl => exact h
 | step _ ih => exact Zm ih
open Classical in
noncomputable def Ch {S R : Type} (body : S -> Option (Lp S R)) (s : S) : Option R := if h : ∃ r, ∃ n, M1 body n s = some r then some (Classical.choose h) else none
theorem Wt {S R : Type} {body : S -> Option (Lp S R)} {s : S} {r : R} {n : Nat} (h : M1 body n s = some r) : Ch body s = some r := by
 have hex : ∃ r, ∃ n, M1 body n s = some r := ⟨r, n, h⟩
 unfold Ch
 rw [dif_pos hex]
 obtain ⟨m, hm⟩ := Classical.choose_spec hex
 have h1 := iX h (Nat.le_max_left n m)
 have h2 := iX hm (Nat.le_max_right n m)
 rw [h1] at h2
 exact h2.symm
theorem Rh {S R : Type} {body : S -> Option (Lp S R)} {s : S} {r : R} (h : Ch body s = some r) : ∃ n, M1 body n s = some r := by
 unfold Ch at h
 split at h
 ·rename_i hex
  injection h with h
  subst h
  exact Classical.choose_spec hex
 ·cases h
theorem Gz {S R : Type} (body : S -> Option (Lp S R)) (s : S) : Ch body s = (body s).bind (Xd (Ch body)) := by
 cases h : (body s).bind (Xd (Ch body)) with
 | some r =>
  cases hb : body s with
  | none => rw [hb] at h; cases h
  | some o =>
   rw [hb] at h
   cases o with
   | next s' =>
    obtain ⟨n, hn⟩ := Rh (show Ch body s' = some r from h)
    exact Wt (n := n + 1) (by unfold M1; rw [hb]; exact hn)
   | done r' => exact Wt (n := 1) (by unfold M1; rw [hb]; exact h)
 | none =>
  cases hl : Ch body s with
  | none => rfl
  | some r =>
   obtain ⟨n, hn⟩ := Rh hl
   cases n with
   | zero => cases hn
   | succ n =>
    unfold M1 at hn
    cases hb : body s with
    | none => rw [hb] at hn; cases hn
    | some o =>
     rw [hb] at hn h
     cases o with
     | next s' => rw [show (some (Lp.next s')).bind (Xd (Ch body)) = Ch body s' from rfl, Wt hn] at h; cases h
     | done r' => cases h
theorem kJ {S R : Type} {body : S -> Option (Lp S R)} {n : Nat} {s : S} {r : R} (h : M1 body n s = some r) : ∃ m o, n = m + 1 /\ body s = some o /\ Xd (M1 body m) o = some r := by
 cases n with
 | zero => cases h
 | succ n =>
  unfold M1 at h
  cases hb : body s with
  | none => rw [hb] at h; cases h
  | some o => rw [hb] at h; exact ⟨n, o, rfl, rfl, h⟩
theorem nP {S R : Type} {body : S -> Option (Lp S R)} (Inv : S -> Prop) (μ : S -> Nat) (Q : R -> Prop) (h : ∀ s, Inv s -> ∃ o, body s = some o /\ (match o with | .next s' => Inv s' /\ μ s' < μ s | .done r => Q r)) (s : S) (hs : Inv s) : ∃ r, Ch body s = some r /\ Q r := by
 generalize hn : μ s = n
 induction n using Nat.strongRecOn generalizing s with
 | _ n ih =>
  obtain ⟨o, h1, h2⟩ := h s hs
  rw [Gz, h1]
  cases o with
  | next s' => exact ih (μ s') (hn ▸ h2.2) s' h2.1 rfl
  | done r => exact ⟨r, rfl, h2⟩
def Wg {A R : Type} (F : (A -> Option R) -> A -> Option R) : Nat -> A -> Option R
 | 0, _ => none
 | n + 1, a => F (Wg F n) a
open Classical in
noncomputable def V6 {A R : Type} (F : (A -> Option R) -> A -> Option R) (a : A) : Option R := if h : ∃ r, ∃ n, Wg F n a = some r then some (Classical.choose h) else none
theorem kC {A R : Type} {F : (A -> Option R) -> A -> Option R} {a : A} {r : R} (h : V6 F a = some r) : ∃ n, Wg F n a = some r := by
 unfold V6 at h
 split at h
 ·rename_i hex
  injection h with h
  subst h
  exact Classical.choose_spec hex
 ·cases h
theorem Rb {A R : Type} {F : (A -> Option R) -> A -> Option R} {motive : A -> R -> Prop} (h : ∀ rec : A -> Option R, (∀ a r, rec a = some r -> motive a r) -> ∀ a r, F rec a = some r -> motive a r) (a : A) (r : R) (G : V6 F a = some r) : motive a r := by
 obtain ⟨n, hn⟩ := kC G
 have key : ∀ n a r, Wg F n a = some r -> motive a r := by
  intro n
  induction n with
  | zero => intro a r h; cases h
  | succ n ih => intro a r h'; exact h _ ih a r h'
 exact key n a r hn
def Eg {R : Type} (x y : Option R) : Prop := ∀ r, x = some r -> y = some r
theorem Eg.refl {R : Type} {x : Option R} : Eg x x := fun _ h => h
theorem Eg.bind_ {R T : Type} {x y : Option R} {f g : R -> Option T} (h : Eg x y) (k : ∀ a, Eg (f a) (g a)) : Eg (x.bind f) (y.bind g) := fun r hr => by
 cases hx : x with
 | none => rw [hx] at hr; cases hr
 | some a =>
  rw [hx] at hr
  rw [h a hx]
  exact k a r hr
theorem Eg.cond_ {R : Type} {b : Bool} {x x' y y' : Option R} (h : Eg x x') (k : Eg y y') : Eg (cond b x y) (cond b x' y') := by cases b <;> assumption
theorem Eg.it {S R : Type} {f g : S -> Option (Lp S R)} (h : ∀ s, Eg (f s) (g s)) : ∀ n s, Eg (M1 f n s) (M1 g n s)
 | 0, _ => fun r h => by cases h
 | n + 1, s => by
  unfold M1
  refine Eg.bind_ (h s) fun o => ?_
  cases o with
  | next s' => exact Eg.it h n s'
  | done r => exact Eg.refl
theorem Eg.lp {S R : Type} {f g : S -> Option (Lp S R)} (h : ∀ s, Eg (f s) (g s)) (s : S) : Eg (Ch f s) (Ch g s) := fun r hr => by
 obtain ⟨n, hn⟩ := Rh hr
 exact Wt (Eg.it h n s r hn)
def Sg {A R : Type} (F : (A -> Option R) -> A -> Option R) : Prop := ∀ p q : A -> Option R, (∀ a, Eg (p a) (q a)) -> ∀ a, Eg (F p a) (F q a)
theorem Yz {A R : Type} {F : (A -> Option R) -> A -> Option R} (hF : Sg F) : ∀ n a, Eg (Wg F n a) (Wg F (n + 1) a)
 | 0, _ => fun r h => by cases h
 | n + 1, a => hF _ _ (fun b => Yz hF n b) a
theorem iQ {A R : Type} {F : (A -> Option R) -> A -> Option R} (hF : Sg F) {n m : Nat} (h : n <= m) (a : A) : Eg (Wg F n a) (Wg F m a) := by
 induction h with
 | refl => exact Eg.refl
 | step _ ih => exact fun r hr => Yz hF _ a r (ih r hr)
theorem jA {A R : Type} {F : (A -> Option R) -> A -> Option R} (hF : Sg F) {n : Nat} {a : A} {r : R} (h : Wg F n a = some r) : V6 F a = some r := by
 have hex : ∃ r, ∃ n, Wg F n a = some r := ⟨r, n, h⟩
 unfold V6
 rw [dif_pos hex]
 obtain ⟨m, hm⟩ := Classical.choose_spec hex
 have h1 := iQ hF (Nat.le_max_left n m) a _ h
 have h2 := iQ hF (Nat.le_max_right n m) a _ hm
 rw [h1] at h2
 exact h2.symm
def up {S R : Type} (x : Option R) : Option (Lp S R) := x.map .done
theorem Cm {S R : Type} {x : Option R} {o : Lp S R} {it : S -> Option R} {r : R} (h : up x = some o) (hn : Xd it o = some r) : x = some r := by
 cases x with
 | none => cases h
 | some y =>
  injection h with h
  subst h
  exact hn
theorem Eg.up_ {S R : Type} {x y : Option R} (h : Eg x y) : Eg (up x : Option (Lp S R)) (up y) := fun r hr => by
 cases hx : x with
 | none => rw [hx] at hr; cases hr
 | some a => rw [hx] at hr; rw [h a hx]; exact hr
theorem Ac {α β : Type} {x : Option α} {f : α -> Option β} {b : β} (h : x.bind f = some b) : ∃ a, x = some a /\ f a = some b := by
 cases x with
 | none => cases h
 | some a => exact ⟨a, rfl, h⟩
theorem xW {α : Type} {b : Bool} {x y : α} {z : α} (hb : b = true) (h : cond b x y = z) : x = z := by subst hb; exact h
theorem wF {α : Type} {b : Bool} {x y : α} {z : α} (hb : b = false) (h : cond b x y = z) : y = z := by subst hb; exact h
def W (x : Int) : Int := (x + 9223372036854775808) % 18446744073709551616 - 9223372036854775808
theorem Eh {x : Int} (h : -9223372036854775808 <= x /\ x <= 9223372036854775807) : W x = x := by unfold W; omega
theorem iB (x : Int) : -9223372036854775808 <= W x /\ W x <= 9223372036854775807 := by unfold W; omega
def u8 (x : Int) : UInt8 := UInt8.ofNat (x % 256).toNat
theorem dK (x : Int) : ((u8 x).toNat : Int) = x % 256 := by
 unfold u8
 have h : (x % 256).toNat < 256 := by omega
 rw [UInt8.toNat_ofNat', Nat.mod_eq_of_lt (by omega)]
 omega
def B3 {α : Type} (l : List α) (i : Int) : Option α := if i < 0 then none else l[i.toNat]?
theorem Pi {α : Type} {l : List α} {i : Int} {x : α} (h : B3 l i = some x) : i = (i.toNat : Int) := by
 unfold B3 at h
 split at h
 ·cases h
 ·omega
theorem Cq {α : Type} {l : List α} {i : Int} {x : α} (h : B3 l i = some x) : l[i.toNat]? = some x := by
 unfold B3 at h
 split at h
 ·cases h
 ·exact h
theorem Fq {α : Type} {l : List α} {j : Nat} : B3 l (j : Int) = l[j]? := by
 unfold B3
 rw [if_neg (by omega), Int.toNat_natCast]
theorem tB {α : Type} {l : List α} {i : Int} (h : 0 <= i) : B3 l i = l[i.toNat]? := by
 unfold B3
 rw [if_neg (by omega)]
def bV {α : Type} (l : List α) (a b : Int) : Option (List α) := if 0 <= a /\ a <= b /\ b <= l.length then some ((l.drop a.toNat).take (b.toNat - a.toNat)) else none
theorem Xf {α : Type} {l m : List α} {a b : Int} (h : bV l a b = some m) : ∃ i j : Nat, a = (i : Int) /\ b = (j : Int) /\ i <= j /\ j <= l.length /\ m = (l.drop i).take (j - i) := by
 unfold bV at h
 split at h
 ·rename_i h0
  injection h with h
  exact ⟨a.toNat, b.toNat, by omega, by omega, by omega, by omega, h.symm⟩
 ·cases h
def Lr {α : Type} (k : Nat) (l m : List α) : Option (List α) := if (l.length + m.length) * k <= 140737488355328 then some (l ++ m) else none
theorem kG {α : Type} {k : Nat} {l m x : List α} (h : Lr k l m = some x) : (l.length + m.length) * k <= 140737488355328 /\ x = l ++ m := by
 unfold Lr at h
 split at h
 ·rename_i h0
  injection h with h
  exact ⟨h0, h.symm⟩
 ·cases h
def Cd {α : Type} (l : List α) (j : Nat) (x : α) : List α := l.set j x
theorem qU {α : Type} {l : List α} {j : Nat} {x x' : α} (h : l[j]? = some x) : (Cd l j x')[j]? = some x' := by
 unfold Cd
 rw [List.getElem?_set_self (List.getElem?_eq_some_iff.1 h).1]
theorem lW {α : Type} {l m : List α} {a b : Int} (h : bV l a b = some m) : a.toNat + (b.toNat - a.toNat) <= l.length := by
 unfold bV at h
 split at h
 ·omega
 ·cases h
theorem gZ {b : Bool} (h : b = true) : (!b) = false := by rw [h]; rfl
theorem iO {b : Bool} (h : b = false) : (!b) = true := by rw [h]; rfl
def aB3 {α : Type} [Inhabited α] (n : Nat) (l : List α) : List α := (List.range n).map fun i => l[i]!
def R4 (x y : Int) : Option Int := if y = 0 then none else some (x.tmod y)
theorem kE {x y z : Int} (h : R4 x y = some z) : y ≠ 0 /\ z = x.tmod y := by
 unfold R4 at h
 split at h
 ·cases h
 ·rename_i h0
  injection h with h
  exact ⟨h0, h.symm⟩
def Lg (x y : Int) : Option Int := if y = 0 then none else some (W (x.tdiv y))
theorem jI {x y z : Int} (h : Lg x y = some z) : y ≠ 0 /\ z = W (x.tdiv y) := by
 unfold Lg at h
 split at h
 ·cases h
 ·rename_i h0
  injection h with h
  exact ⟨h0, h.symm⟩
def bX (s : ByteArray) (i : Int) : Option UInt8 := if i < 0 then none else s.data[i.toNat]?
def Vx (k : IntKind) (x y : Int) : Int := k.wrap (BitVec.ofInt k.bits x &&& BitVec.ofInt k.bits y).toNat
def Ow (k : IntKind) (x y : Int) : Int := k.wrap (BitVec.ofInt k.bits x ^^^ BitVec.ofInt k.bits y).toNat
def Px (k : IntKind) (x y : Int) : Option Int := if y < 0 then none else some (x.fdiv (2 ^ min y.toNat k.bits))
theorem lC {k : IntKind} {x y z : Int} (h : Px k x y = some z) : ¬ y < 0 /\ z = x.fdiv (2 ^ min y.toNat k.bits) := by
 unfold Px at h
 split at h
 ·cases h
 ·rename_i h0
  injection h with h
  exact ⟨h0, h.symm⟩
def Yn (k : IntKind) (x y : Int) : Option Int := if y < 0 then none else some (k.wrap (x * 2 ^ min y.toNat k.bits))
theorem kF {k : IntKind} {x y z : Int} (h : Yn k x y = some z) : ¬ y < 0 /\ z = k.wrap (x * 2 ^ min y.toNat k.bits) := by
 unfold Yn at h
 split at h
 ·cases h
 ·rename_i h0
  injection h with h
  exact ⟨h0, h.symm⟩
open Classical in
noncomputable def dY {α β : Type} (l : List α) (a b : Option β) : Option β := if l = [] then (if a = b then a else none) else b
theorem wA {α β : Type} {l : List α} {a b : Option β} {r : β} (h : dY l a b = some r) : b = some r := by
 unfold dY at h
 split at h
 ·split at h
  ·rename_i e; rw [<- e]; exact h
  ·cases h
 ·exact h
theorem zE {α β : Type} {l : List α} {a b : Option β} {r : β} (hl : l = []) (h : dY l a b = some r) : a = some r := by
 unfold dY at h
 rw [if_pos hl] at h
 split at h
 ·exact h
 ·cases h
def Jc (s : ByteArray) : List UInt8 := s.data.toList
def Lu : List UInt8 -> List UInt8 -> Bool
 | _, [] => false
 | [], _ :: _ => true
 | a :: x, b :: y => a < b || (a == b && Lu x y)
theorem bS : ∀ (a b : List UInt8), (!(Lu a b || decide (a = b))) = Lu b a
 | [], [] => rfl
 | [], y :: b => by simp [Lu]
 | x :: a, [] => by simp [Lu]
 | x :: a, y :: b => by
  have ih := bS a b
  unfold Lu
  rcases Nat.lt_trichotomy x.toNat y.toNat with h | h | h
  ·have h1 : x < y := h
   have h2 : ¬ y < x := fun h' => by have : y.toNat < x.toNat := h'; omega
   have h3 : y ≠ x := fun e => by subst e; omega
   simp [h1, h2, h3]
  ·have h1 : x = y := UInt8.toNat_inj.1 h
   subst h1
   have h2 : ¬ x < x := fun h' => by have : x.toNat < x.toNat := h'; omega
   simp [h2]
   simpa using ih
  ·have h1 : y < x := h
   have h2 : ¬ x < y := fun h' => by have : x.toNat < y.toNat := h'; omega
   have h3 : x ≠ y := fun e => by subst e; omega
   simp [h1, h2, h3]
def fY {α : Type} (l : List α) (a m : Nat) (z : α) : Option (List α) := if a + m <= l.length then some (l.take a ++ List.replicate m z ++ l.drop (a + m)) else none
theorem jJ {α : Type} {l : List α} {a m : Nat} {z : α} {r : List α} (h : fY l a m z = some r) : a + m <= l.length /\ r = l.take a ++ List.replicate m z ++ l.drop (a + m) := by
 unfold fY at h
 split at h
 ·injection h with h; exact ⟨by assumption, h.symm⟩
 ·cases h
def Tu : List UInt8 -> List UInt8 -> Int
 | [], [] => 0
 | [], _ :: _ => -1
 | _ :: _, [] => 1
 | x :: a, y :: b => if x < y then -1 else if y < x then 1 else Tu a b
def kH (a b : ByteArray) : Int := Tu a.data.toList b.data.toList
def bJ (s : ByteArray) (c : UInt8) : Int := match (List.range s.size).find? fun i => s[i]! == c with | some i => (i : Int) | none => -1
section
variable {κ ν : Type} [DecidableEq κ]
def F4 (l : List (κ × ν)) (x : κ) (z : ν) : ν := match l.find? fun p => decide (p.1 = x) with | some p => p.2 | none => z
def Qw (l : List (κ × ν)) (x : κ) : Bool := l.any fun p => decide (p.1 = x)
def Jo (l : List (κ × ν)) (x : κ) (v : ν) : List (κ × ν) := match l.findIdx? fun p => decide (p.1 = x) with | some i => l.set i (x, v) | none => l ++ [(x, v)]
end
end Go.Proofs.YtkoflhimdenjaaaGreat
