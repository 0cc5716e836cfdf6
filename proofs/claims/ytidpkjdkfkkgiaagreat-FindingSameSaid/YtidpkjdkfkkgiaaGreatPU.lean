import GoSem.Core.View
namespace Go.Proofs.YtidpkjdkfkkgiaaGreat
theorem oi_ {α : Type} {a b : α} (h : some a = some b) : a = b := Option.some.inj h
open Go
inductive Lp (S R : Type) where
 | next (s : S)
 | done (r : R)
def Ya {S R : Type} (it : S -> Option R) : Lp S R -> Option R
 | .next s => it s
 | .done r => some r
def N6 {S R : Type} (body : S -> Option (Lp S R)) : Nat -> S -> Option R
 | 0, _ => none
 | n + 1, s => (body s).bind (Ya (N6 body n))
theorem Z1 {S R : Type} {body : S -> Option (Lp S R)} {r : R} : ∀ {n : Nat} {s : S}, N6 body n s = some r -> N6 body (n + 1) s = some r
 | 0, _, h => by cases h
 | n + 1, s, h => by
  unfold N6 at h ⊢
  cases hb : body s with
  | none => rw [hb] at h; cases h
  | some o =>
   rw [hb] at h
   cases o with
   | next s' => exact Z1 (n := n) h
   | done r' => exact h
theorem jY {S R : Type} {body : S -> Option (Lp S R)} {r : R} {s : S} {n m : Nat} (h : N6 body n s = some r) (hm : n <= m) : N6 body m s = some r := by
 induction hm with
 | refl => exact h
 | step _ ih => exact Z1 ih
open Classical in
noncomputable def Cf {S R : Type} (body : S -> Option (Lp S R)) (s : S) : Option R := if h : ∃ r, ∃ n, N6 body n s = some r then some (Classical.choose h) else none
theorem Xa {S R : Type} {body : S -> Option (Lp S R)} {s : S} {r : R} {n : Nat} (h : N6 body n s = some r) : Cf body s = some r := by
 have hex : ∃ r, ∃ n, N6 body n s = some r := ⟨r, n, h⟩
 unfold Cf
 rw [dif_pos hex]
 obtain ⟨m, hm⟩ := Classical.choose_spec hex
 have h1 := jY h (Nat.le_max_left n m)
 have h2 := jY hm (Nat.le_max_right n m)
 rw [h1] at h2
 exact h2.symm
theorem Sq {S R : Type} {body : S -> Option (Lp S R)} {s : S} {r : R} (h : Cf body s = some r) : ∃ n, N6 body n s = some r := by
 unfold Cf at h
 split at h
 ·rename_i hex
  injection h with h
  subst h
  exact Classical.choose_spec hex
 ·cases h
theorem Hn {S R : Type} (body : S -> Option (Lp S R)) (s : S) : Cf body s = (body s).bind (Ya (Cf body)) := by
 cases h : (body s).bind (Ya (Cf body)) with
 | some r =>
  cases hb : body s with
  | none => rw [hb] at h; cases h
  | some o =>
   rw [hb] at h
   cases o with
   | next s' =>
    obtain ⟨n, hn⟩ := Sq (show Cf body s' = some r from h)
    exact Xa (n := n + 1) (by unfold N6; rw [hb]; exact hn)
   | done r' => exact Xa (n := 1) (by unfold N6; rw [hb]; exact h)
 | none =>
  cases hl : Cf body s with
  | none => rfl
  | some r =>
   obtain ⟨n, hn⟩ := Sq hl
   cases n with
   | zero => cases hn
   | succ n =>
    unfold N6 at hn
    cases hb : body s with
    | none => rw [hb] at hn; cases hn
    | some o =>
     rw [hb] at hn h
     cases o with
     | next s' => rw [show (some (Lp.next s')).bind (Ya (Cf body)) = Cf body s' from rfl, Xa hn] at h; cases h
     | done r' => cases h
theorem mL {S R : Type} {body : S -> Option (Lp S R)} {n : Nat} {s : S} {r : R} (h : N6 body n s = some r) : ∃ m o, n = m + 1 /\ body s = some o /\ Ya (N6 body m) o = some r := by
 cases n with
 | zero => cases h
 | succ n =>
  unfold N6 at h
  cases hb : body s with
  | none => rw [hb] at h; cases h
  | some o => rw [hb] at h; exact ⟨n, o, rfl, rfl, h⟩
theorem nY {S R : Type} {body : S -> Option (Lp S R)} (Inv : S -> Prop) (μ : S -> Nat) (Q : R -> Prop) (h : ∀ s, Inv s -> ∃ o, body s = some o /\ (match o with | .next s' => Inv s' /\ μ s' < μ s | .done r => Q r)) (s : S) (hs : Inv s) : ∃ r, Cf body s = some r /\ Q r := by
 generalize hn : μ s = n
 induction n using Nat.strongRecOn generalizing s with
 | _ n ih =>
  obtain ⟨o, h1, h2⟩ := h s hs
  rw [Hn, h1]
  cases o with
  | next s' => exact ih (μ s') (hn ▸ h2.2) s' h2.1 rfl
  | done r => exact ⟨r, rfl, h2⟩
def W5 {A R : Type} (F : (A -> Option R) -> A -> Option R) : Nat -> A -> Option R
 | 0, _ => none
 | n + 1, a => F (W5 F n) a
open Classical in
noncomputable def Wy {A R : Type} (F : (A -> Option R) -> A -> Option R) (a : A) : Option R := if h : ∃ r, ∃ n, W5 F n a = some r then some (Classical.choose h) else none
theorem mI {A R : Type} {F : (A -> Option R) -> A -> Option R} {a : A} {r : R} (h : Wy F a = some r) : ∃ n, W5 F n a = some r := by
 unfold Wy at h
 split at h
 ·rename_i hex
  injection h with h
  subst h
  exact Classical.choose_spec hex
 ·cases h
theorem Rn {A R : Type} {F : (A -> Option R) -> A -> Option R} {motive : A -> R -> Prop} (h : ∀ rec : A -> Option R, (∀ a r, rec a = some r -> motive a r) -> ∀ a r, F rec a = some r -> motive a r) (a : A) (r : R) (G : Wy F a = some r) : motive a r := by
 obtain ⟨n, hn⟩ := mI G
 have key : ∀ n a r, W5 F n a = some r -> motive a r := by
  intro n
  induction n with
  | zero => intro a r h; cases h
  | succ n ih => intro a r h'; exact h _ ih a r h'
 exact key n a r hn
def Gn {R : Type} (x y : Option R) : Prop := ∀ r, x = some r -> y = some r
theorem Gn.refl {R : Type} {x : Option R} : Gn x x := fun _ h => h
theorem Gn.bind_ {R T : Type} {x y : Option R} {f g : R -> Option T} (h : Gn x y) (k : ∀ a, Gn (f a) (g a)) : Gn (x.bind f) (y.bind g) := fun r hr => by
 cases hx : x with
 | none => rw [hx] at hr; cases hr
 | some a =>
  rw [hx] at hr
  rw [h a hx]
  exact k a r hr
theorem Gn.cond_ {R : Type} {b : Bool} {x x' y y' : Option R} (h : Gn x x') (k : Gn y y') : Gn (cond b x y) (cond b x' y') := by cases b <;> assumption
theorem Gn.it {S R : Type} {f g : S -> Option (Lp S R)} (h : ∀ s, Gn (f s) (g s)) : ∀ n s, Gn (N6 f n s) (N6 g n s)
 | 0, _ => fun r h => by cases h
 | n + 1, s => by
  unfold N6
  refine Gn.bind_ (h s) fun o => ?_
  cases o with
  | next s' => exact Gn.it h n s'
  | done r => exact Gn.refl
theorem Gn.lp {S R : Type} {f g : S -> Option (Lp S R)} (h : ∀ s, Gn (f s) (g s)) (s : S) : Gn (Cf f s) (Cf g s) := fun r hr => by
 obtain ⟨n, hn⟩ := Sq hr
 exact Xa (Gn.it h n s r hn)
def Te {A R : Type} (F : (A -> Option R) -> A -> Option R) : Prop := ∀ p q : A -> Option R, (∀ a, Gn (p a) (q a)) -> ∀ a, Gn (F p a) (F q a)
theorem Zz {A R : Type} {F : (A -> Option R) -> A -> Option R} (hF : Te F) : ∀ n a, Gn (W5 F n a) (W5 F (n + 1) a)
 | 0, _ => fun r h => by cases h
 | n + 1, a => hF _ _ (fun b => Zz hF n b) a
theorem jR {A R : Type} {F : (A -> Option R) -> A -> Option R} (hF : Te F) {n m : Nat} (h : n <= m) (a : A) : Gn (W5 F n a) (W5 F m a) := by
 induction h with
 | refl => exact Gn.refl
 | step _ ih => exact fun r hr => Zz hF _ a r (ih r hr)
theorem jF {A R : Type} {F : (A -> Option R) -> A -> Option R} (hF : Te F) {n : Nat} {a : A} {r : R} (h : W5 F n a = some r) : Wy F a = some r := by
 have hex : ∃ r, ∃ n, W5 F n a = some r := ⟨r, n, h⟩
 unfold Wy
 rw [dif_pos hex]
 obtain ⟨m, hm⟩ := Classical.choose_spec hex
 have h1 := jR hF (Nat.le_max_left n m) a _ h
 have h2 := jR hF (Nat.le_max_right n m) a _ hm
 rw [h1] at h2
 exact h2.symm
def up {S R : Type} (x : Option R) : Option (Lp S R) := x.map .done
theorem Cn {S R : Type} {x : Option R} {o : Lp S R} {it : S -> Option R} {r : R} (h : up x = some o) (hn : Ya it o = some r) : x = some r := by
 cases x with
 | none => cases h
 | some y =>
  injection h with h
  subst h
  exact hn
theorem Gn.up_ {S R : Type} {x y : Option R} (h : Gn x y) : Gn (up x : Option (Lp S R)) (up y) := fun r hr => by
 cases hx : x with
 | none => rw [hx] at hr; cases hr
 | some a => rw [hx] at hr; rw [h a hx]; exact hr
theorem Ab {α β : Type} {x : Option α} {f : α -> Option β} {b : β} (h : x.bind f = some b) : ∃ a, x = some a /\ f a = some b := by
 cases x with
 | none => cases h
 | some a => exact ⟨a, rfl, h⟩
theorem yJ {α : Type} {b : Bool} {x y : α} {z : α} (hb : b = true) (h : cond b x y = z) : x = z := by subst hb; exact h
theorem aAw {α : Type} {b : Bool} {x y : α} {z : α} (hb : b = false) (h : cond b x y = z) : y = z := by subst hb; exact h
def W (x : Int) : Int := (x + 9223372036854775808) % 18446744073709551616 - 9223372036854775808
theorem Ee {x : Int} (h : -9223372036854775808 <= x /\ x <= 9223372036854775807) : W x = x := by unfold W; omega
theorem jZ (x : Int) : -9223372036854775808 <= W x /\ W x <= 9223372036854775807 := by unfold W; omega
def u8 (x : Int) : UInt8 := UInt8.ofNat (x % 256).toNat
theorem fL (x : Int) : ((u8 x).toNat : Int) = x % 256 := by
 unfold u8
 have h : (x % 256).toNat < 256 := by omega
 rw [UInt8.toNat_ofNat', Nat.mod_eq_of_lt (by omega)]
 omega
def B1 {α : Type} (l : List α) (i : Int) : Option α := if i < 0 then none else l[i.toNat]?
theorem Sg {α : Type} {l : List α} {i : Int} {x : α} (h : B1 l i = some x) : i = (i.toNat : Int) := by
 unfold B1 at h
 split at h
 ·cases h
 ·omega
theorem Cw {α : Type} {l : List α} {i : Int} {x : α} (h : B1 l i = some x) : l[i.toNat]? = some x := by
 unfold B1 at h
 split at h
 ·cases h
 ·exact h
theorem Eg {α : Type} {l : List α} {j : Nat} : B1 l (j : Int) = l[j]? := by
 unfold B1
 rw [if_neg (by omega), Int.toNat_natCast]
theorem uU {α : Type} {l : List α} {i : Int} (h : 0 <= i) : B1 l i = l[i.toNat]? := by
 unfold B1
 rw [if_neg (by omega)]
def dC {α : Type} (l : List α) (a b : Int) : Option (List α) := if 0 <= a /\ a <= b /\ b <= l.length then some ((l.drop a.toNat).take (b.toNat - a.toNat)) else none
theorem Yw {α : Type} {l m : List α} {a b : Int} (h : dC l a b = some m) : ∃ i j : Nat, a = (i : Int) /\ b = (j : Int) /\ i <= j /\ j <= l.length /\ m = (l.drop i).take (j - i) := by
 unfold dC at h
 split at h
 ·rename_i h0
  injection h with h
  exact ⟨a.toNat, b.toNat, by omega, by omega, by omega, by omega, h.symm⟩
 ·cases h
def Jn {α : Type} (k : Nat) (l m : List α) : Option (List α) := if (l.length + m.length) * k <= 140737488355328 then some (l ++ m) else none
theorem lY {α : Type} {k : Nat} {l m x : List α} (h : Jn k l m = some x) : (l.length + m.length) * k <= 140737488355328 /\ x = l ++ m := by
 unfold Jn at h
 split at h
 ·rename_i h0
  injection h with h
  exact ⟨h0, h.symm⟩
 ·cases h
def Cs {α : Type} (l : List α) (j : Nat) (x : α) : List α := l.set j x
theorem Zb {α : Type} {l m : List α} {a b : Int} (h : dC l a b = some m) : a.toNat + (b.toNat - a.toNat) <= l.length := by
 unfold dC at h
 split at h
 ·omega
 ·cases h
theorem jS {b : Bool} (h : b = true) : (!b) = false := by rw [h]; rfl
theorem kP {b : Bool} (h : b = false) : (!b) = true := by rw [h]; rfl
def aB0 {α : Type} [Inhabited α] (n : Nat) (l : List α) : List α := (List.range n).map fun i => l[i]!
def Vl (x y : Int) : Option Int := if y = 0 then none else some (x.tmod y)
theorem lM {x y z : Int} (h : Vl x y = some z) : y ≠ 0 /\ z = x.tmod y := by
 unfold Vl at h
 split at h
 ·cases h
 ·rename_i h0
  injection h with h
  exact ⟨h0, h.symm⟩
def Ly (x y : Int) : Option Int := if y = 0 then none else some (W (x.tdiv y))
theorem lD {x y z : Int} (h : Ly x y = some z) : y ≠ 0 /\ z = W (x.tdiv y) := by
 unfold Ly at h
 split at h
 ·cases h
 ·rename_i h0
  injection h with h
  exact ⟨h0, h.symm⟩
def nJ (a b : ByteArray) : Option ByteArray := if a.size + b.size <= 9223372036854775807 then some (a ++ b) else none
theorem mQ {a b c : ByteArray} (h : nJ a b = some c) : a.size + b.size <= 9223372036854775807 /\ c = a ++ b := by
 unfold nJ at h
 split at h
 ·rename_i h0
  injection h with h
  exact ⟨h0, h.symm⟩
 ·cases h
def dI (s : ByteArray) (i : Int) : Option UInt8 := if i < 0 then none else s.data[i.toNat]?
def fD (k : IntKind) (x y : Int) : Int := k.wrap (BitVec.ofInt k.bits x &&& BitVec.ofInt k.bits y).toNat
def Pa (k : IntKind) (x y : Int) : Int := k.wrap (BitVec.ofInt k.bits x ^^^ BitVec.ofInt k.bits y).toNat
def Ov (k : IntKind) (x y : Int) : Option Int := if y < 0 then none else some (x.fdiv (2 ^ min y.toNat k.bits))
theorem lT {k : IntKind} {x y z : Int} (h : Ov k x y = some z) : ¬ y < 0 /\ z = x.fdiv (2 ^ min y.toNat k.bits) := by
 unfold Ov at h
 split at h
 ·cases h
 ·rename_i h0
  injection h with h
  exact ⟨h0, h.symm⟩
def Zm (k : IntKind) (x y : Int) : Option Int := if y < 0 then none else some (k.wrap (x * 2 ^ min y.toNat k.bits))
theorem mE {k : IntKind} {x y z : Int} (h : Zm k x y = some z) : ¬ y < 0 /\ z = k.wrap (x * 2 ^ min y.toNat k.bits) := by
 unfold Zm at h
 split at h
 ·cases h
 ·rename_i h0
  injection h with h
  exact ⟨h0, h.symm⟩
open Classical in
noncomputable def eX {α β : Type} (l : List α) (a b : Option β) : Option β := if l = [] then (if a = b then a else none) else b
theorem aAc {α β : Type} {l : List α} {a b : Option β} {r : β} (h : eX l a b = some r) : b = some r := by
 unfold eX at h
 split at h
 ·split at h
  ·rename_i e; rw [<- e]; exact h
  ·cases h
 ·exact h
theorem xA {α β : Type} {l : List α} {a b : Option β} {r : β} (hl : l = []) (h : eX l a b = some r) : a = some r := by
 unfold eX at h
 rw [if_pos hl] at h
 split at h
 ·exact h
 ·cases h
def Im (s : ByteArray) : List UInt8 := s.data.toList
def K1 : List UInt8 -> List UInt8 -> Bool
 | _, [] => false
 | [], _ :: _ => true
 | a :: x, b :: y => a < b || (a == b && K1 x y)
theorem bV : ∀ (a b : List UInt8), (!(K1 a b || decide (a = b))) = K1 b a
 | [], [] => rfl
 | [], y :: b => by simp [K1]
 | x :: a, [] => by simp [K1]
 | x :: a, y :: b => by
  have ih := bV a b
  unfold K1
  rcases Nat.lt_trichotomy x.toNat y.toNat with h | h | h
  ·have h1 : x < y := h
   have h2 : ¬ y < x := fun h' => by have : y.toNat < x.toNat := h'; omega
   have h3 : y ≠ x := fun e => by subst e; omega
   simp [h1, h2, h3]
  ·have h1 : x = y := UInt8.toNat_inj.1 h
   subst h1
   have h2 : ¬ x < x := fun h' => by have : x.toNat < x.toNat := h'; omega
   simp [h2]
   simpa using ih
  ·have h1 : y < x := h
   have h2 : ¬ x < y := fun h' => by have : x.toNat < y.toNat := h'; omega
   have h3 : x ≠ y := fun e => by subst e; omega
   simp [h1, h2, h3]
def qV {α : Type} (l : List α) (a m : Nat) (z : α) : Option (List α) := if a + m <= l.length then some (l.take a ++ List.replicate m z ++ l.drop (a + m)) else none
theorem mH {α : Type} {l : List α} {a m : Nat} {z : α} {r : List α} (h : qV l a m z = some r) : a + m <= l.length /\ r = l.take a ++ List.replicate m z ++ l.drop (a + m) := by
 unfold qV at h
 split at h
 ·injection h with h; exact ⟨by assumption, h.symm⟩
 ·cases h
def Uw : List UInt8 -> List UInt8 -> Int
 | [], [] => 0
 | [], _ :: _ => -1
 | _ :: _, [] => 1
 | x :: a, y :: b => if x < y then -1 else if y < x then 1 else Uw a b
def kU (a b : ByteArray) : Int := Uw a.data.toList b.data.toList
def bD (s : ByteArray) (c : UInt8) : Int := match (List.range s.size).find? fun i => s[i]! == c with | some i => (i : Int) | none => -1
section
variable {κ ν : Type} [DecidableEq κ]
def J8 (l : List (κ × ν)) (x : κ) (z : ν) : ν := match l.find? fun p => decide (p.1 = x) with | some p => p.2 | none => z
def Rb (l : List (κ × ν)) (x : κ) : Bool := l.any fun p => decide (p.1 = x)
def Rv (l : List (κ × ν)) (x : κ) (v : ν) : List (κ × ν) := match l.findIdx? fun p => decide (p.1 = x) with | some i => l.set i (x, v) | none => l ++ [(x, v)]
end
end Go.Proofs.YtidpkjdkfkkgiaaGreat
