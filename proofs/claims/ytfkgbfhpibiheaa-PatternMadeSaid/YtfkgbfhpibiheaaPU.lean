import Derived.Test.YtfkgbfhpibiheaaZz
import GoSem.Core.View
namespace Go.Proofs.Ytfkgbfhpibiheaa
theorem oi_ {α : Type} {a b : α} (h : some a = some b) : a = b := Option.some.inj h
open Go
inductive Lp (S R : Type) where
 | next (s : S)
 | done (r : R)
def U4 {S R : Type} (it : S -> Option R) : Lp S R -> Option R
 | .next s => it s
 | .done r => some r
def Ke {S R : Type} (body : S -> Option (Lp S R)) : Nat -> S -> Option R
 | 0, _ => none
 | n + 1, s => (body s).bind (U4 (Ke body n))
theorem Wb {S R : Type} {body : S -> Option (Lp S R)} {r : R} : ∀ {n : Nat} {s : S}, Ke body n s = some r -> Ke body (n + 1) s = some r
 | 0, _, h => by cases h
 | n + 1, s, h => by
  unfold Ke at h ⊢
  cases hb : body s with
  | none => rw [hb] at h; cases h
  | some o =>
   rw [hb] at h
   cases o with
   | next s' => exact Wb (n := n) h
   | done r' => exact h
theorem dE {S R : Type} {body : S -> Option (Lp S R)} {r : R} {s : S} {n m : Nat} (h : Ke body n s = some r) (hm : n <= m) : Ke body m s = some r := by
 induction hm with
 | refl => exact h
 | step _ ih => exact Wb ih
open Classical in
noncomputable def B6 {S R : Type} (body : S -> Option (Lp S R)) (s : S) : Option R := if h : ∃ r, ∃ n, Ke body n s = some r then some (Classical.choose h) else none
theorem Tb {S R : Type} {body : S -> Option (Lp S R)} {s : S} {r : R} {n : Nat} (h : Ke body n s = some r) : B6 body s = some r := by
 have hex : ∃ r, ∃ n, Ke body n s = some r := ⟨r, n, h⟩
 unfold B6
 rw [aCt hex]
 obtain ⟨m, hm⟩ := aA5 hex
 have h1 := dE h (Nat.le_max_left n m)
 have h2 := dE hm (Nat.le_max_right n m)
 rw [h1] at h2
 exact h2.symm
theorem Ov {S R : Type} {body : S -> Option (Lp S R)} {s : S} {r : R} (h : B6 body s = some r) : ∃ n, Ke body n s = some r := by
 unfold B6 at h
 split at h
 ·rename_i hex
  injection h with h
  subst h
  exact aA5 hex
 ·cases h
theorem Gf {S R : Type} (body : S -> Option (Lp S R)) (s : S) : B6 body s = (body s).bind (U4 (B6 body)) := by
 cases h : (body s).bind (U4 (B6 body)) with
 | some r =>
  cases hb : body s with
  | none => rw [hb] at h; cases h
  | some o =>
   rw [hb] at h
   cases o with
   | next s' =>
    obtain ⟨n, hn⟩ := Ov (show B6 body s' = some r from h)
    exact Tb (n := n + 1) (by unfold Ke; rw [hb]; exact hn)
   | done r' => exact Tb (n := 1) (by unfold Ke; rw [hb]; exact h)
 | none =>
  cases hl : B6 body s with
  | none => rfl
  | some r =>
   obtain ⟨n, hn⟩ := Ov hl
   cases n with
   | zero => cases hn
   | succ n =>
    unfold Ke at hn
    cases hb : body s with
    | none => rw [hb] at hn; cases hn
    | some o =>
     rw [hb] at hn h
     cases o with
     | next s' => rw [show (some (Lp.next s')).bind (U4 (B6 body)) = B6 body s' from rfl, Tb hn] at h; cases h
     | done r' => cases h
theorem eC {S R : Type} {body : S -> Option (Lp S R)} {n : Nat} {s : S} {r : R} (h : Ke body n s = some r) : ∃ m o, n = m + 1 /\ body s = some o /\ U4 (Ke body m) o = some r := by
 cases n with
 | zero => cases h
 | succ n =>
  unfold Ke at h
  cases hb : body s with
  | none => rw [hb] at h; cases h
  | some o => rw [hb] at h; exact ⟨n, o, rfl, rfl, h⟩
theorem kX {S R : Type} {body : S -> Option (Lp S R)} (Inv : S -> Prop) (μ : S -> Nat) (Q : R -> Prop) (h : ∀ s, Inv s -> ∃ o, body s = some o /\ (match o with | .next s' => Inv s' /\ μ s' < μ s | .done r => Q r)) (s : S) (hs : Inv s) : ∃ r, B6 body s = some r /\ Q r := by
 generalize hn : μ s = n
 induction n using Nat.strongRecOn generalizing s with
 | _ n ih =>
  obtain ⟨o, h1, h2⟩ := h s hs
  rw [Gf, h1]
  cases o with
  | next s' => exact ih (μ s') (hn ▸ h2.2) s' h2.1 rfl
  | done r => exact ⟨r, rfl, h2⟩
def Vg {A R : Type} (F : (A -> Option R) -> A -> Option R) : Nat -> A -> Option R
 | 0, _ => none
 | n + 1, a => F (Vg F n) a
open Classical in
noncomputable def Zs {A R : Type} (F : (A -> Option R) -> A -> Option R) (a : A) : Option R := if h : ∃ r, ∃ n, Vg F n a = some r then some (Classical.choose h) else none
theorem eP {A R : Type} {F : (A -> Option R) -> A -> Option R} {a : A} {r : R} (h : Zs F a = some r) : ∃ n, Vg F n a = some r := by
 unfold Zs at h
 split at h
 ·rename_i hex
  injection h with h
  subst h
  exact aA5 hex
 ·cases h
theorem Zc {A R : Type} {F : (A -> Option R) -> A -> Option R} {motive : A -> R -> Prop} (h : ∀ rec : A -> Option R, (∀ a r, rec a = some r -> motive a r) -> ∀ a r, F rec a = some r -> motive a r) (a : A) (r : R) (G : Zs F a = some r) : motive a r := by
 obtain ⟨n, hn⟩ := eP G
 have key : ∀ n a r, Vg F n a = some r -> motive a r := by
  intro n
  induction n with
  | zero => intro a r h; cases h
  | succ n ih => intro a r h'; exact h _ ih a r h'
 exact key n a r hn
def Gz {R : Type} (x y : Option R) : Prop := ∀ r, x = some r -> y = some r
theorem Gz.refl {R : Type} {x : Option R} : Gz x x := fun _ h => h
theorem Gz.bind_ {R T : Type} {x y : Option R} {f g : R -> Option T} (h : Gz x y) (k : ∀ a, Gz (f a) (g a)) : Gz (x.bind f) (y.bind g) := fun r hr => by
 cases hx : x with
 | none => rw [hx] at hr; cases hr
 | some a =>
  rw [hx] at hr
  rw [h a hx]
  exact k a r hr
theorem Gz.cond_ {R : Type} {b : Bool} {x x' y y' : Option R} (h : Gz x x') (k : Gz y y') : Gz (cond b x y) (cond b x' y') := by cases b <;> assumption
theorem Gz.it {S R : Type} {f g : S -> Option (Lp S R)} (h : ∀ s, Gz (f s) (g s)) : ∀ n s, Gz (Ke f n s) (Ke g n s)
 | 0, _ => fun r h => by cases h
 | n + 1, s => by
  unfold Ke
  refine Gz.bind_ (h s) fun o => ?_
  cases o with
  | next s' => exact Gz.it h n s'
  | done r => exact Gz.refl
theorem Gz.lp {S R : Type} {f g : S -> Option (Lp S R)} (h : ∀ s, Gz (f s) (g s)) (s : S) : Gz (B6 f s) (B6 g s) := fun r hr => by
 obtain ⟨n, hn⟩ := Ov hr
 exact Tb (Gz.it h n s r hn)
def Wh {A R : Type} (F : (A -> Option R) -> A -> Option R) : Prop := ∀ p q : A -> Option R, (∀ a, Gz (p a) (q a)) -> ∀ a, Gz (F p a) (F q a)
theorem V4 {A R : Type} {F : (A -> Option R) -> A -> Option R} (hF : Wh F) : ∀ n a, Gz (Vg F n a) (Vg F (n + 1) a)
 | 0, _ => fun r h => by cases h
 | n + 1, a => hF _ _ (fun b => V4 hF n b) a
theorem cQ {A R : Type} {F : (A -> Option R) -> A -> Option R} (hF : Wh F) {n m : Nat} (h : n <= m) (a : A) : Gz (Vg F n a) (Vg F m a) := by
 induction h with
 | refl => exact Gz.refl
 | step _ ih => exact fun r hr => V4 hF _ a r (ih r hr)
theorem mB {A R : Type} {F : (A -> Option R) -> A -> Option R} (hF : Wh F) {n : Nat} {a : A} {r : R} (h : Vg F n a = some r) : Zs F a = some r := by
 have hex : ∃ r, ∃ n, Vg F n a = some r := ⟨r, n, h⟩
 unfold Zs
 rw [aCt hex]
 obtain ⟨m, hm⟩ := aA5 hex
 have h1 := cQ hF (Nat.le_max_left n m) a _ h
 have h2 := cQ hF (Nat.le_max_right n m) a _ hm
 rw [h1] at h2
 exact h2.symm
def up {S R : Type} (x : Option R) : Option (Lp S R) := x.map .done
theorem Te {S R : Type} (r : R) : (up (some r) : Option (Lp S R)) = some (.done r) := rfl
theorem B1 {S R : Type} {x : Option R} {o : Lp S R} {it : S -> Option R} {r : R} (h : up x = some o) (hn : U4 it o = some r) : x = some r := by
 cases x with
 | none => cases h
 | some y =>
  injection h with h
  subst h
  exact hn
theorem Gz.up_ {S R : Type} {x y : Option R} (h : Gz x y) : Gz (up x : Option (Lp S R)) (up y) := fun r hr => by
 cases hx : x with
 | none => rw [hx] at hr; cases hr
 | some a => rw [hx] at hr; rw [h a hx]; exact hr
theorem Ac {α β : Type} {x : Option α} {f : α -> Option β} {b : β} (h : x.bind f = some b) : ∃ a, x = some a /\ f a = some b := by
 cases x with
 | none => cases h
 | some a => exact ⟨a, rfl, h⟩
theorem oW {α : Type} {b : Bool} {x y : α} {z : α} (hb : b = true) (h : cond b x y = z) : x = z := by subst hb; exact h
theorem qX {α : Type} {b : Bool} {x y : α} {z : α} (hb : b = false) (h : cond b x y = z) : y = z := by subst hb; exact h
def W (x : Int) : Int := (x + 9223372036854775808) % 18446744073709551616 - 9223372036854775808
theorem Do {x : Int} (h : -9223372036854775808 <= x /\ x <= 9223372036854775807) : W x = x := by unfold W; omega
theorem mC (x : Int) : -9223372036854775808 <= W x /\ W x <= 9223372036854775807 := by unfold W; omega
def u8 (x : Int) : UInt8 := UInt8.ofNat (x % 256).toNat
theorem kK (x : Int) : ((u8 x).toNat : Int) = x % 256 := by
 unfold u8
 have h : (x % 256).toNat < 256 := by omega
 rw [UInt8.toNat_ofNat', aAe (by omega)]
 omega
def Bo {α : Type} (l : List α) (i : Int) : Option α := if i < 0 then none else l[i.toNat]?
theorem Er {α : Type} {l : List α} {i : Int} {x : α} (h : Bo l i = some x) : i = (i.toNat : Int) := by
 unfold Bo at h
 split at h
 ·cases h
 ·omega
theorem A4 {α : Type} {l : List α} {i : Int} {x : α} (h : Bo l i = some x) : l[i.toNat]? = some x := by
 unfold Bo at h
 split at h
 ·cases h
 ·exact h
theorem Bw {α : Type} {l : List α} {j : Nat} : Bo l (j : Int) = l[j]? := by
 unfold Bo
 rw [if_neg (by omega), yA]
theorem nU {α : Type} {l : List α} {i : Int} (h : 0 <= i) : Bo l i = l[i.toNat]? := by
 unfold Bo
 rw [if_neg (by omega)]
def Si {α : Type} (l : List α) (a b : Int) : Option (List α) := if 0 <= a /\ a <= b /\ b <= l.length then some ((l.drop a.toNat).take (b.toNat - a.toNat)) else none
theorem Ob {α : Type} {l m : List α} {a b : Int} (h : Si l a b = some m) : ∃ i j : Nat, a = (i : Int) /\ b = (j : Int) /\ i <= j /\ j <= l.length /\ m = (l.drop i).take (j - i) := by
 unfold Si at h
 split at h
 ·rename_i h0
  injection h with h
  exact ⟨a.toNat, b.toNat, by omega, by omega, by omega, by omega, h.symm⟩
 ·cases h
def H7 {α : Type} (k : Nat) (l m : List α) : Option (List α) := if (l.length + m.length) * k <= 140737488355328 then some (l ++ m) else none
theorem Lq {α : Type} {k : Nat} {l m x : List α} (h : H7 k l m = some x) : (l.length + m.length) * k <= 140737488355328 /\ x = l ++ m := by
 unfold H7 at h
 split at h
 ·rename_i h0
  injection h with h
  exact ⟨h0, h.symm⟩
 ·cases h
def U8 {α : Type} (k : Nat) (n : Int) (z : α) : Option (List α) := if 0 <= n /\ n.toNat * k <= 140737488355328 /\ n <= 1000000 then some (List.replicate n.toNat z) else none
theorem fK {α : Type} {k : Nat} {n : Int} {z : α} {x : List α} (h : U8 k n z = some x) : ∃ m : Nat, n = (m : Int) /\ m * k <= 140737488355328 /\ m <= 1000000 /\ x = List.replicate m z := by
 unfold U8 at h
 split at h
 ·rename_i h0
  injection h with h
  exact ⟨n.toNat, by omega, h0.2.1, by omega, h.symm⟩
 ·cases h
def Bi {α : Type} (l : List α) (j : Nat) (x : α) : List α := l.set j x
theorem jE {α : Type} {l m : List α} {a b : Int} (h : Si l a b = some m) : a.toNat + (b.toNat - a.toNat) <= l.length := by
 unfold Si at h
 split at h
 ·omega
 ·cases h
theorem cM {b : Bool} (h : b = true) : (!b) = false := by rw [h]; rfl
theorem dL {b : Bool} (h : b = false) : (!b) = true := by rw [h]; rfl
def G0 {α : Type} [Inhabited α] (n : Nat) (l : List α) : List α := (List.range n).map fun i => l[i]!
def Xb (x y : Int) : Option Int := if y = 0 then none else some (x.tmod y)
theorem fY {x y z : Int} (h : Xb x y = some z) : y ≠ 0 /\ z = x.tmod y := by
 unfold Xb at h
 split at h
 ·cases h
 ·rename_i h0
  injection h with h
  exact ⟨h0, h.symm⟩
def Ia (x y : Int) : Option Int := if y = 0 then none else some (W (x.tdiv y))
theorem eR {x y z : Int} (h : Ia x y = some z) : y ≠ 0 /\ z = W (x.tdiv y) := by
 unfold Ia at h
 split at h
 ·cases h
 ·rename_i h0
  injection h with h
  exact ⟨h0, h.symm⟩
def iU (a b : ByteArray) : Option ByteArray := if a.size + b.size <= 9223372036854775807 then some (a ++ b) else none
theorem gC {a b c : ByteArray} (h : iU a b = some c) : a.size + b.size <= 9223372036854775807 /\ c = a ++ b := by
 unfold iU at h
 split at h
 ·rename_i h0
  injection h with h
  exact ⟨h0, h.symm⟩
 ·cases h
def idxT (s : ByteArray) (i : Int) : Option UInt8 := if i < 0 then none else s.data[i.toNat]?
def Rx (k : IntKind) (x y : Int) : Int := k.wrap (BitVec.ofInt k.bits x &&& BitVec.ofInt k.bits y).toNat
def Ql (k : IntKind) (x y : Int) : Int := k.wrap (BitVec.ofInt k.bits x ^^^ BitVec.ofInt k.bits y).toNat
def Rs (k : IntKind) (x y : Int) : Option Int := if y < 0 then none else some (x.fdiv (2 ^ min y.toNat k.bits))
theorem dT {k : IntKind} {x y z : Int} (h : Rs k x y = some z) : ¬ y < 0 /\ z = x.fdiv (2 ^ min y.toNat k.bits) := by
 unfold Rs at h
 split at h
 ·cases h
 ·rename_i h0
  injection h with h
  exact ⟨h0, h.symm⟩
def V1 (k : IntKind) (x y : Int) : Option Int := if y < 0 then none else some (k.wrap (x * 2 ^ min y.toNat k.bits))
theorem eN {k : IntKind} {x y z : Int} (h : V1 k x y = some z) : ¬ y < 0 /\ z = k.wrap (x * 2 ^ min y.toNat k.bits) := by
 unfold V1 at h
 split at h
 ·cases h
 ·rename_i h0
  injection h with h
  exact ⟨h0, h.symm⟩
open Classical in
noncomputable def uL {α β : Type} (l : List α) (a b : Option β) : Option β := if l = [] then (if a = b then a else none) else b
def sT (l : List UInt8) : ByteArray := ⟨l.toArray⟩
def Up (s : ByteArray) : List UInt8 := s.data.toList
def gW {α : Type} (l : List α) (a m : Nat) (z : α) : Option (List α) := if a + m <= l.length then some (l.take a ++ List.replicate m z ++ l.drop (a + m)) else none
theorem dX {α : Type} {l : List α} {a m : Nat} {z : α} {r : List α} (h : gW l a m z = some r) : a + m <= l.length /\ r = l.take a ++ List.replicate m z ++ l.drop (a + m) := by
 unfold gW at h
 split at h
 ·injection h with h; exact ⟨by assumption, h.symm⟩
 ·cases h
def nM (x y : UInt8) : Option UInt8 := if y = 0 then none else some (x % y)
theorem fL {x y z : UInt8} (h : nM x y = some z) : (y.toNat : Int) ≠ 0 /\ (z.toNat : Int) = (x.toNat : Int).tmod (y.toNat : Int) := by
 unfold nM at h
 split at h
 ·cases h
 ·rename_i h0
  injection h with h
  subst h
  refine ⟨fun e => h0 (aCq.1 (by simpa using e)), ?_⟩
  rw [UInt8.toNat_mod]
  exact (Int.ofNat_tmod _ _)
section
variable {κ ν : Type} [DecidableEq κ]
def H5 (l : List (κ × ν)) (x : κ) (z : ν) : ν := match l.find? fun p => decide (p.1 = x) with | some p => p.2 | none => z
def Ns (l : List (κ × ν)) (x : κ) : Bool := l.any fun p => decide (p.1 = x)
def Nm (l : List (κ × ν)) (x : κ) (v : ν) : List (κ × ν) := match l.findIdx? fun p => decide (p.1 = x) with | some i => l.set i (x, v) | none => l ++ [(x, v)]
end
end Go.Proofs.Ytfkgbfhpibiheaa
