import GoSem.Core.View
namespace Go.Proofs.Ytjomajedgbcngaa
theorem oi_ {α : Type} {a b : α} (h : some a = some b) : a = b := Option.some.inj h
open Go
inductive Lp (S R : Type) where
 | next (s : S)
 | done (r : R)
def Tx {S R : Type} (it : S -> Option R) : Lp S R -> Option R
 | .next s => it s
 | .done r => some r
def Km {S R : Type} (body : S -> Option (Lp S R)) : Nat -> S -> Option R
 | 0, _ => none
 | n + 1, s => (body s).bind (Tx (Km body n))
theorem Uy {S R : Type} {body : S -> Option (Lp S R)} {r : R} : ∀ {n : Nat} {s : S}, Km body n s = some r -> Km body (n + 1) s = some r
 | 0, _, h => by cases h
 | n + 1, s, h => by
  unfold Km at h ⊢
  cases hb : body s with
  | none => rw [hb] at h; cases h
  | some o =>
   rw [hb] at h
   cases o with
   | next s' => exact Uy (n := n) h
   | done r' => exact h
theorem Ye {S R : Type} {body : S -> Option (Lp S R)} {r : R} {s : S} {n m : Nat} (h : Km body n s = some r) (hm : n <= m) : Km body m s = some r := by
 induction hm with
 | refl => exact h
 | step _ ih => exact Uy ih
open Classical in
noncomputable def Cy {S R : Type} (body : S -> Option (Lp S R)) (s : S) : Option R := if h : ∃ r, ∃ n, Km body n s = some r then some (Classical.choose h) else none
theorem Sl {S R : Type} {body : S -> Option (Lp S R)} {s : S} {r : R} {n : Nat} (h : Km body n s = some r) : Cy body s = some r := by
 have hex : ∃ r, ∃ n, Km body n s = some r := ⟨r, n, h⟩
 unfold Cy
 rw [dif_pos hex]
 obtain ⟨m, hm⟩ := Classical.choose_spec hex
 have h1 := Ye h (Nat.le_max_left n m)
 have h2 := Ye hm (Nat.le_max_right n m)
 rw [h1] at h2
 exact h2.symm
theorem Ow {S R : Type} {body : S -> Option (Lp S R)} {s : S} {r : R} (h : Cy body s = some r) : ∃ n, Km body n s = some r := by
 unfold Cy at h
 split at h
 ·rename_i hex
  injection h with h
  subst h
  exact Classical.choose_spec hex
 ·cases h
theorem G7 {S R : Type} (body : S -> Option (Lp S R)) (s : S) : Cy body s = (body s).bind (Tx (Cy body)) := by
 cases h : (body s).bind (Tx (Cy body)) with
 | some r =>
  cases hb : body s with
  | none => rw [hb] at h; cases h
  | some o =>
   rw [hb] at h
   cases o with
   | next s' =>
    obtain ⟨n, hn⟩ := Ow (show Cy body s' = some r from h)
    exact Sl (n := n + 1) (by unfold Km; rw [hb]; exact hn)
   | done r' => exact Sl (n := 1) (by unfold Km; rw [hb]; exact h)
 | none =>
  cases hl : Cy body s with
  | none => rfl
  | some r =>
   obtain ⟨n, hn⟩ := Ow hl
   cases n with
   | zero => cases hn
   | succ n =>
    unfold Km at hn
    cases hb : body s with
    | none => rw [hb] at hn; cases hn
    | some o =>
     rw [hb] at hn h
     cases o with
     | next s' => rw [show (some (Lp.next s')).bind (Tx (Cy body)) = Cy body s' from rfl, Sl hn] at h; cases h
     | done r' => cases h
theorem Ze {S R : Type} {body : S -> Option (Lp S R)} {n : Nat} {s : S} {r : R} (h : Km body n s = some r) : ∃ m o, n = m + 1 /\ body s = some o /\ Tx (Km body m) o = some r := by
 cases n with
 | zero => cases h
 | succ n =>
  unfold Km at h
  cases hb : body s with
  | none => rw [hb] at h; cases h
  | some o => rw [hb] at h; exact ⟨n, o, rfl, rfl, h⟩
theorem bD {S R : Type} {body : S -> Option (Lp S R)} (Inv : S -> Prop) (μ : S -> Nat) (Q : R -> Prop) (h : ∀ s, Inv s -> ∃ o, body s = some o /\ (match o with | .next s' => Inv s' /\ μ s' < μ s | .done r => Q r)) (s : S) (hs : Inv s) : ∃ r, Cy body s = some r /\ Q r := by
 generalize hn : μ s = n
 induction n using Nat.strongRecOn generalizing s with
 | _ n ih =>
  obtain ⟨o, h1, h2⟩ := h s hs
  rw [G7, h1]
  cases o with
  | next s' => exact ih (μ s') (hn ▸ h2.2) s' h2.1 rfl
  | done r => exact ⟨r, rfl, h2⟩
def Qh {A R : Type} (F : (A -> Option R) -> A -> Option R) : Nat -> A -> Option R
 | 0, _ => none
 | n + 1, a => F (Qh F n) a
open Classical in
noncomputable def W0 {A R : Type} (F : (A -> Option R) -> A -> Option R) (a : A) : Option R := if h : ∃ r, ∃ n, Qh F n a = some r then some (Classical.choose h) else none
theorem Zk {A R : Type} {F : (A -> Option R) -> A -> Option R} {a : A} {r : R} (h : W0 F a = some r) : ∃ n, Qh F n a = some r := by
 unfold W0 at h
 split at h
 ·rename_i hex
  injection h with h
  subst h
  exact Classical.choose_spec hex
 ·cases h
theorem cU {A R : Type} {F : (A -> Option R) -> A -> Option R} {motive : A -> R -> Prop} (h : ∀ rec : A -> Option R, (∀ a r, rec a = some r -> motive a r) -> ∀ a r, F rec a = some r -> motive a r) (a : A) (r : R) (hg : W0 F a = some r) : motive a r := by
 obtain ⟨n, hn⟩ := Zk hg
 have key : ∀ n a r, Qh F n a = some r -> motive a r := by
  intro n
  induction n with
  | zero => intro a r h; cases h
  | succ n ih => intro a r h'; exact h _ ih a r h'
 exact key n a r hn
def L1 {R : Type} (x y : Option R) : Prop := ∀ r, x = some r -> y = some r
theorem L1.refl {R : Type} {x : Option R} : L1 x x := fun _ h => h
theorem L1.bind_ {R T : Type} {x y : Option R} {f g : R -> Option T} (h : L1 x y) (k : ∀ a, L1 (f a) (g a)) : L1 (x.bind f) (y.bind g) := fun r hr => by
 cases hx : x with
 | none => rw [hx] at hr; cases hr
 | some a =>
  rw [hx] at hr
  rw [h a hx]
  exact k a r hr
theorem L1.cond_ {R : Type} {b : Bool} {x x' y y' : Option R} (h : L1 x x') (k : L1 y y') : L1 (cond b x y) (cond b x' y') := by cases b <;> assumption
theorem L1.it {S R : Type} {f g : S -> Option (Lp S R)} (h : ∀ s, L1 (f s) (g s)) : ∀ n s, L1 (Km f n s) (Km g n s)
 | 0, _ => fun r h => by cases h
 | n + 1, s => by
  unfold Km
  refine L1.bind_ (h s) fun o => ?_
  cases o with
  | next s' => exact L1.it h n s'
  | done r => exact L1.refl
theorem L1.lp {S R : Type} {f g : S -> Option (Lp S R)} (h : ∀ s, L1 (f s) (g s)) (s : S) : L1 (Cy f s) (Cy g s) := fun r hr => by
 obtain ⟨n, hn⟩ := Ow hr
 exact Sl (L1.it h n s r hn)
def Ut {A R : Type} (F : (A -> Option R) -> A -> Option R) : Prop := ∀ p q : A -> Option R, (∀ a, L1 (p a) (q a)) -> ∀ a, L1 (F p a) (F q a)
theorem Ur {A R : Type} {F : (A -> Option R) -> A -> Option R} (hF : Ut F) : ∀ n a, L1 (Qh F n a) (Qh F (n + 1) a)
 | 0, _ => fun r h => by cases h
 | n + 1, a => hF _ _ (fun b => Ur hF n b) a
theorem Ys {A R : Type} {F : (A -> Option R) -> A -> Option R} (hF : Ut F) {n m : Nat} (h : n <= m) (a : A) : L1 (Qh F n a) (Qh F m a) := by
 induction h with
 | refl => exact L1.refl
 | step _ ih => exact fun r hr => Ur hF _ a r (ih r hr)
theorem Ym {A R : Type} {F : (A -> Option R) -> A -> Option R} (hF : Ut F) {n : Nat} {a : A} {r : R} (h : Qh F n a = some r) : W0 F a = some r := by
 have hex : ∃ r, ∃ n, Qh F n a = some r := ⟨r, n, h⟩
 unfold W0
 rw [dif_pos hex]
 obtain ⟨m, hm⟩ := Classical.choose_spec hex
 have h1 := Ys hF (Nat.le_max_left n m) a _ h
 have h2 := Ys hF (Nat.le_max_right n m) a _ hm
 rw [h1] at h2
 exact h2.symm
def up {S R : Type} (x : Option R) : Option (Lp S R) := x.map .done
theorem C3 {S R : Type} {x : Option R} {o : Lp S R} {it : S -> Option R} {r : R} (h : up x = some o) (hn : Tx it o = some r) : x = some r := by
 cases x with
 | none => cases h
 | some y =>
  injection h with h
  subst h
  exact hn
theorem L1.up_ {S R : Type} {x y : Option R} (h : L1 x y) : L1 (up x : Option (Lp S R)) (up y) := fun r hr => by
 cases hx : x with
 | none => rw [hx] at hr; cases hr
 | some a => rw [hx] at hr; rw [h a hx]; exact hr
theorem Ac {α β : Type} {x : Option α} {f : α -> Option β} {b : β} (h : x.bind f = some b) : ∃ a, x = some a /\ f a = some b := by
 cases x with
 | none => cases h
 | some a => exact ⟨a, rfl, h⟩
theorem kT {α : Type} {b : Bool} {x y : α} {z : α} (hb : b = true) (h : cond b x y = z) : x = z := by subst hb; exact h
theorem iQ {α : Type} {b : Bool} {x y : α} {z : α} (hb : b = false) (h : cond b x y = z) : y = z := by subst hb; exact h
def W (x : Int) : Int := (x + 9223372036854775808) % 18446744073709551616 - 9223372036854775808
theorem D0 {x : Int} (h : -9223372036854775808 <= x /\ x <= 9223372036854775807) : W x = x := by unfold W; omega
theorem dX (x : Int) : -9223372036854775808 <= W x /\ W x <= 9223372036854775807 := by unfold W; omega
def u8 (x : Int) : UInt8 := UInt8.ofNat (x % 256).toNat
theorem cL (x : Int) : ((u8 x).toNat : Int) = x % 256 := by
 unfold u8
 have h : (x % 256).toNat < 256 := by omega
 rw [UInt8.toNat_ofNat', Nat.mod_eq_of_lt (by omega)]
 omega
def Cc {α : Type} (l : List α) (i : Int) : Option α := if i < 0 then none else l[i.toNat]?
theorem O2 {α : Type} {l : List α} {i : Int} {x : α} (h : Cc l i = some x) : i = (i.toNat : Int) := by
 unfold Cc at h
 split at h
 ·cases h
 ·omega
theorem Ao {α : Type} {l : List α} {i : Int} {x : α} (h : Cc l i = some x) : l[i.toNat]? = some x := by
 unfold Cc at h
 split at h
 ·cases h
 ·exact h
theorem Dj {α : Type} {l : List α} {j : Nat} : Cc l (j : Int) = l[j]? := by
 unfold Cc
 rw [if_neg (by omega), Int.toNat_natCast]
theorem eR {α : Type} {l : List α} {i : Int} (h : 0 <= i) : Cc l i = l[i.toNat]? := by
 unfold Cc
 rw [if_neg (by omega)]
def X9 {α : Type} (l : List α) (a b : Int) : Option (List α) := if 0 <= a /\ a <= b /\ b <= l.length then some ((l.drop a.toNat).take (b.toNat - a.toNat)) else none
theorem Ws {α : Type} {l m : List α} {a b : Int} (h : X9 l a b = some m) : ∃ i j : Nat, a = (i : Int) /\ b = (j : Int) /\ i <= j /\ j <= l.length /\ m = (l.drop i).take (j - i) := by
 unfold X9 at h
 split at h
 ·rename_i h0
  injection h with h
  exact ⟨a.toNat, b.toNat, by omega, by omega, by omega, by omega, h.symm⟩
 ·cases h
def N4 {α : Type} (k : Nat) (l m : List α) : Option (List α) := if (l.length + m.length) * k <= 140737488355328 then some (l ++ m) else none
theorem Y6 {α : Type} {k : Nat} {l m x : List α} (h : N4 k l m = some x) : (l.length + m.length) * k <= 140737488355328 /\ x = l ++ m := by
 unfold N4 at h
 split at h
 ·rename_i h0
  injection h with h
  exact ⟨h0, h.symm⟩
 ·cases h
def Cq {α : Type} (l : List α) (j : Nat) (x : α) : List α := l.set j x
theorem Q8 {α : Type} {l m : List α} {a b : Int} (h : X9 l a b = some m) : a.toNat + (b.toNat - a.toNat) <= l.length := by
 unfold X9 at h
 split at h
 ·omega
 ·cases h
theorem E0 {b : Bool} (h : b = true) : (!b) = false := by rw [h]; rfl
theorem E2 {b : Bool} (h : b = false) : (!b) = true := by rw [h]; rfl
def mS {α : Type} [Inhabited α] (n : Nat) (l : List α) : List α := (List.range n).map fun i => l[i]!
def Y8 (x y : Int) : Option Int := if y = 0 then none else some (x.tmod y)
theorem Zi {x y z : Int} (h : Y8 x y = some z) : y ≠ 0 /\ z = x.tmod y := by
 unfold Y8 at h
 split at h
 ·cases h
 ·rename_i h0
  injection h with h
  exact ⟨h0, h.symm⟩
def Md (x y : Int) : Option Int := if y = 0 then none else some (W (x.tdiv y))
theorem Zm {x y z : Int} (h : Md x y = some z) : y ≠ 0 /\ z = W (x.tdiv y) := by
 unfold Md at h
 split at h
 ·cases h
 ·rename_i h0
  injection h with h
  exact ⟨h0, h.symm⟩
def Wq (s : ByteArray) (i : Int) : Option UInt8 := if i < 0 then none else s.data[i.toNat]?
def Wa (k : IntKind) (x y : Int) : Int := k.wrap (BitVec.ofInt k.bits x &&& BitVec.ofInt k.bits y).toNat
def Qa (k : IntKind) (x y : Int) : Int := k.wrap (BitVec.ofInt k.bits x ^^^ BitVec.ofInt k.bits y).toNat
def S0 (k : IntKind) (x y : Int) : Option Int := if y < 0 then none else some (x.fdiv (2 ^ min y.toNat k.bits))
theorem Zx {k : IntKind} {x y z : Int} (h : S0 k x y = some z) : ¬ y < 0 /\ z = x.fdiv (2 ^ min y.toNat k.bits) := by
 unfold S0 at h
 split at h
 ·cases h
 ·rename_i h0
  injection h with h
  exact ⟨h0, h.symm⟩
def Ug (k : IntKind) (x y : Int) : Option Int := if y < 0 then none else some (k.wrap (x * 2 ^ min y.toNat k.bits))
theorem Za {k : IntKind} {x y z : Int} (h : Ug k x y = some z) : ¬ y < 0 /\ z = k.wrap (x * 2 ^ min y.toNat k.bits) := by
 unfold Ug at h
 split at h
 ·cases h
 ·rename_i h0
  injection h with h
  exact ⟨h0, h.symm⟩
open Classical in
noncomputable def Wn {α β : Type} (l : List α) (a b : Option β) : Option β := if l = [] then (if a = b then a else none) else b
theorem lZ {α β : Type} {l : List α} {a b : Option β} {r : β} (h : Wn l a b = some r) : b = some r := by
 unfold Wn at h
 split at h
 ·split at h
  ·rename_i e; rw [<- e]; exact h
  ·cases h
 ·exact h
theorem jG {α β : Type} {l : List α} {a b : Option β} {r : β} (hl : l = []) (h : Wn l a b = some r) : a = some r := by
 unfold Wn at h
 rw [if_pos hl] at h
 split at h
 ·exact h
 ·cases h
def Hk (s : ByteArray) : List UInt8 := s.data.toList
def Iz : List UInt8 -> List UInt8 -> Bool
 | _, [] => false
 | [], _ :: _ => true
 | a :: x, b :: y => a < b || (a == b && Iz x y)
theorem Sn : ∀ (a b : List UInt8), (!(Iz a b || decide (a = b))) = Iz b a
 | [], [] => rfl
 | [], y :: b => by simp [Iz]
 | x :: a, [] => by simp [Iz]
 | x :: a, y :: b => by
  have ih := Sn a b
  unfold Iz
  rcases Nat.lt_trichotomy x.toNat y.toNat with h | h | h
  ·have h1 : x < y := h
   have h2 : ¬ y < x := fun h' => by have : y.toNat < x.toNat := h'; omega
   have h3 : y ≠ x := fun e => by subst e; omega
   simp [h1, h2, h3]
  ·have h1 : x = y := UInt8.toNat_inj.1 h
   subst h1
   have h2 : ¬ x < x := fun h' => by have : x.toNat < x.toNat := h'; omega
   simp [h2]
   simpa using ih
  ·have h1 : y < x := h
   have h2 : ¬ x < y := fun h' => by have : x.toNat < y.toNat := h'; omega
   have h3 : x ≠ y := fun e => by subst e; omega
   simp [h1, h2, h3]
def bQ {α : Type} (l : List α) (a m : Nat) (z : α) : Option (List α) := if a + m <= l.length then some (l.take a ++ List.replicate m z ++ l.drop (a + m)) else none
def cM {α : Type} (k : Nat) (n : Int) (z : α) : Option (List α) := if 0 < n /\ n.toNat * k <= 140737488355328 /\ n <= 1000000 then some (List.replicate n.toNat z) else none
theorem Zp {α : Type} {k : Nat} {n : Int} {z : α} {l : List α} (h : cM k n z = some l) : ∃ m : Nat, n = (m : Int) /\ 0 < m /\ m * k <= 140737488355328 /\ m <= 1000000 /\ l = List.replicate m z := by
 unfold cM at h
 split at h
 ·rename_i hc
  injection h with h
  exact ⟨n.toNat, by omega, by omega, hc.2.1, by omega, h.symm⟩
 ·cases h
theorem Z5 {α : Type} {l : List α} {a m : Nat} {z : α} {r : List α} (h : bQ l a m z = some r) : a + m <= l.length /\ r = l.take a ++ List.replicate m z ++ l.drop (a + m) := by
 unfold bQ at h
 split at h
 ·injection h with h; exact ⟨by assumption, h.symm⟩
 ·cases h
def Qb : List UInt8 -> List UInt8 -> Int
 | [], [] => 0
 | [], _ :: _ => -1
 | _ :: _, [] => 1
 | x :: a, y :: b => if x < y then -1 else if y < x then 1 else Qb a b
def Y7 (a b : ByteArray) : Int := Qb a.data.toList b.data.toList
section
variable {κ ν : Type} [DecidableEq κ]
def Hy (l : List (κ × ν)) (x : κ) (z : ν) : ν := match l.find? fun p => decide (p.1 = x) with | some p => p.2 | none => z
def Oh (l : List (κ × ν)) (x : κ) : Bool := l.any fun p => decide (p.1 = x)
def Of (l : List (κ × ν)) (x : κ) (v : ν) : List (κ × ν) := match l.findIdx? fun p => decide (p.1 = x) with | some i => l.set i (x, v) | none => l ++ [(x, v)]
end
end Go.Proofs.Ytjomajedgbcngaa
