import GoSem.Core.View
namespace Go.Proofs.YtkpcbnnlefcebaaGreat
theorem oi_ {α : Type} {a b : α} (h : some a = some b) : a = b := Option.some.inj h
open Go
inductive Lp (S R : Type) where
 | next (s : S)
 | done (r : R)
def Xh {S R : Type} (it : S -> Option R) : Lp S R -> Option R
 | .next s => it s
 | .done r => some r
def Mv {S R : Type} (body : S -> Option (Lp S R)) : Nat -> S -> Option R
 | 0, _ => none
 | n + 1, s => (body s).bind (Xh (Mv body n))
theorem Y6 {S R : Type} {body : S -> Option (Lp S R)} {r : R} : ∀ {n : Nat} {s : S}, Mv body n s = some r -> Mv body (n + 1) s = some r
 | 0, _, h => by cases h
 | n + 1, s, h => by
  unfold Mv at h ⊢
  cases hb : body s with
  | none => rw [hb] at h; cases h
  | some o =>
   rw [hb] at h
   cases o with
   | next s' => exact Y6 (n := n) h
   | done r' => exact h
theorem eJ {S R : Type} {body : S -> Option (Lp S R)} {r : R} {s : S} {n m : Nat} (h : Mv body n s = some r) (hm : n <= m) : Mv body m s = some r := by
 induction hm with
 | refl => exact h
 | step _ ih => exact Y6 ih
open Classical in
noncomputable def C2 {S R : Type} (body : S -> Option (Lp S R)) (s : S) : Option R := if h : ∃ r, ∃ n, Mv body n s = some r then some (Classical.choose h) else none
theorem Tp {S R : Type} {body : S -> Option (Lp S R)} {s : S} {r : R} {n : Nat} (h : Mv body n s = some r) : C2 body s = some r := by
 have hex : ∃ r, ∃ n, Mv body n s = some r := ⟨r, n, h⟩
 unfold C2
 rw [dif_pos hex]
 obtain ⟨m, hm⟩ := Classical.choose_spec hex
 have h1 := eJ h (Nat.le_max_left n m)
 have h2 := eJ hm (Nat.le_max_right n m)
 rw [h1] at h2
 exact h2.symm
theorem Rv {S R : Type} {body : S -> Option (Lp S R)} {s : S} {r : R} (h : C2 body s = some r) : ∃ n, Mv body n s = some r := by
 unfold C2 at h
 split at h
 ·rename_i hex
  injection h with h
  subst h
  exact Classical.choose_spec hex
 ·cases h
theorem Im {S R : Type} (body : S -> Option (Lp S R)) (s : S) : C2 body s = (body s).bind (Xh (C2 body)) := by
 cases h : (body s).bind (Xh (C2 body)) with
 | some r =>
  cases hb : body s with
  | none => rw [hb] at h; cases h
  | some o =>
   rw [hb] at h
   cases o with
   | next s' =>
    obtain ⟨n, hn⟩ := Rv (show C2 body s' = some r from h)
    exact Tp (n := n + 1) (by unfold Mv; rw [hb]; exact hn)
   | done r' => exact Tp (n := 1) (by unfold Mv; rw [hb]; exact h)
 | none =>
  cases hl : C2 body s with
  | none => rfl
  | some r =>
   obtain ⟨n, hn⟩ := Rv hl
   cases n with
   | zero => cases hn
   | succ n =>
    unfold Mv at hn
    cases hb : body s with
    | none => rw [hb] at hn; cases hn
    | some o =>
     rw [hb] at hn h
     cases o with
     | next s' => rw [show (some (Lp.next s')).bind (Xh (C2 body)) = C2 body s' from rfl, Tp hn] at h; cases h
     | done r' => cases h
theorem gQ {S R : Type} {body : S -> Option (Lp S R)} {n : Nat} {s : S} {r : R} (h : Mv body n s = some r) : ∃ m o, n = m + 1 /\ body s = some o /\ Xh (Mv body m) o = some r := by
 cases n with
 | zero => cases h
 | succ n =>
  unfold Mv at h
  cases hb : body s with
  | none => rw [hb] at h; cases h
  | some o => rw [hb] at h; exact ⟨n, o, rfl, rfl, h⟩
theorem kQ {S R : Type} {body : S -> Option (Lp S R)} (Inv : S -> Prop) (μ : S -> Nat) (Q : R -> Prop) (h : ∀ s, Inv s -> ∃ o, body s = some o /\ (match o with | .next s' => Inv s' /\ μ s' < μ s | .done r => Q r)) (s : S) (hs : Inv s) : ∃ r, C2 body s = some r /\ Q r := by
 generalize hn : μ s = n
 induction n using Nat.strongRecOn generalizing s with
 | _ n ih =>
  obtain ⟨o, h1, h2⟩ := h s hs
  rw [Im, h1]
  cases o with
  | next s' => exact ih (μ s') (hn ▸ h2.2) s' h2.1 rfl
  | done r => exact ⟨r, rfl, h2⟩
def T2 {A R : Type} (F : (A -> Option R) -> A -> Option R) : Nat -> A -> Option R
 | 0, _ => none
 | n + 1, a => F (T2 F n) a
open Classical in
noncomputable def Vx {A R : Type} (F : (A -> Option R) -> A -> Option R) (a : A) : Option R := if h : ∃ r, ∃ n, T2 F n a = some r then some (Classical.choose h) else none
theorem iE {A R : Type} {F : (A -> Option R) -> A -> Option R} {a : A} {r : R} (h : Vx F a = some r) : ∃ n, T2 F n a = some r := by
 unfold Vx at h
 split at h
 ·rename_i hex
  injection h with h
  subst h
  exact Classical.choose_spec hex
 ·cases h
theorem Q0 {A R : Type} {F : (A -> Option R) -> A -> Option R} {motive : A -> R -> Prop} (h : ∀ rec : A -> Option R, (∀ a r, rec a = some r -> motive a r) -> ∀ a r, F rec a = some r -> motive a r) (a : A) (r : R) (hg : Vx F a = some r) : motive a r := by
 obtain ⟨n, hn⟩ := iE hg
 have key : ∀ n a r, T2 F n a = some r -> motive a r := by
  intro n
  induction n with
  | zero => intro a r h; cases h
  | succ n ih => intro a r h'; exact h _ ih a r h'
 exact key n a r hn
def Bd {R : Type} (x y : Option R) : Prop := ∀ r, x = some r -> y = some r
theorem Bd.refl {R : Type} {x : Option R} : Bd x x := fun _ h => h
theorem Bd.bind_ {R T : Type} {x y : Option R} {f g : R -> Option T} (h : Bd x y) (k : ∀ a, Bd (f a) (g a)) : Bd (x.bind f) (y.bind g) := fun r hr => by
 cases hx : x with
 | none => rw [hx] at hr; cases hr
 | some a =>
  rw [hx] at hr
  rw [h a hx]
  exact k a r hr
theorem Bd.cond_ {R : Type} {b : Bool} {x x' y y' : Option R} (h : Bd x x') (k : Bd y y') : Bd (cond b x y) (cond b x' y') := by cases b <;> assumption
theorem Bd.it {S R : Type} {f g : S -> Option (Lp S R)} (h : ∀ s, Bd (f s) (g s)) : ∀ n s, Bd (Mv f n s) (Mv g n s)
 | 0, _ => fun r h => by cases h
 | n + 1, s => by
  unfold Mv
  refine Bd.bind_ (h s) fun o => ?_
  cases o with
  | next s' => exact Bd.it h n s'
  | done r => exact Bd.refl
theorem Bd.lp {S R : Type} {f g : S -> Option (Lp S R)} (h : ∀ s, Bd (f s) (g s)) (s : S) : Bd (C2 f s) (C2 g s) := fun r hr => by
 obtain ⟨n, hn⟩ := Rv hr
 exact Tp (Bd.it h n s r hn)
def Sf {A R : Type} (F : (A -> Option R) -> A -> Option R) : Prop := ∀ p q : A -> Option R, (∀ a, Bd (p a) (q a)) -> ∀ a, Bd (F p a) (F q a)
theorem Y2 {A R : Type} {F : (A -> Option R) -> A -> Option R} (hF : Sf F) : ∀ n a, Bd (T2 F n a) (T2 F (n + 1) a)
 | 0, _ => fun r h => by cases h
 | n + 1, a => hF _ _ (fun b => Y2 hF n b) a
theorem fD {A R : Type} {F : (A -> Option R) -> A -> Option R} (hF : Sf F) {n m : Nat} (h : n <= m) (a : A) : Bd (T2 F n a) (T2 F m a) := by
 induction h with
 | refl => exact Bd.refl
 | step _ ih => exact fun r hr => Y2 hF _ a r (ih r hr)
theorem eG {A R : Type} {F : (A -> Option R) -> A -> Option R} (hF : Sf F) {n : Nat} {a : A} {r : R} (h : T2 F n a = some r) : Vx F a = some r := by
 have hex : ∃ r, ∃ n, T2 F n a = some r := ⟨r, n, h⟩
 unfold Vx
 rw [dif_pos hex]
 obtain ⟨m, hm⟩ := Classical.choose_spec hex
 have h1 := fD hF (Nat.le_max_left n m) a _ h
 have h2 := fD hF (Nat.le_max_right n m) a _ hm
 rw [h1] at h2
 exact h2.symm
def up {S R : Type} (x : Option R) : Option (Lp S R) := x.map .done
theorem Cr {S R : Type} {x : Option R} {o : Lp S R} {it : S -> Option R} {r : R} (h : up x = some o) (hn : Xh it o = some r) : x = some r := by
 cases x with
 | none => cases h
 | some y =>
  injection h with h
  subst h
  exact hn
theorem Bd.up_ {S R : Type} {x y : Option R} (h : Bd x y) : Bd (up x : Option (Lp S R)) (up y) := fun r hr => by
 cases hx : x with
 | none => rw [hx] at hr; cases hr
 | some a => rw [hx] at hr; rw [h a hx]; exact hr
theorem Ad {α β : Type} {x : Option α} {f : α -> Option β} {b : β} (h : x.bind f = some b) : ∃ a, x = some a /\ f a = some b := by
 cases x with
 | none => cases h
 | some a => exact ⟨a, rfl, h⟩
theorem rM {α : Type} {b : Bool} {x y : α} {z : α} (hb : b = true) (h : cond b x y = z) : x = z := by subst hb; exact h
theorem tG {α : Type} {b : Bool} {x y : α} {z : α} (hb : b = false) (h : cond b x y = z) : y = z := by subst hb; exact h
def W (x : Int) : Int := (x + 9223372036854775808) % 18446744073709551616 - 9223372036854775808
theorem Es {x : Int} (h : -9223372036854775808 <= x /\ x <= 9223372036854775807) : W x = x := by unfold W; omega
theorem mM (x : Int) : -9223372036854775808 <= W x /\ W x <= 9223372036854775807 := by unfold W; omega
def u8 (x : Int) : UInt8 := UInt8.ofNat (x % 256).toNat
theorem jS (x : Int) : ((u8 x).toNat : Int) = x % 256 := by
 unfold u8
 have h : (x % 256).toNat < 256 := by omega
 rw [UInt8.toNat_ofNat', Nat.mod_eq_of_lt (by omega)]
 omega
def Cb {α : Type} (l : List α) (i : Int) : Option α := if i < 0 then none else l[i.toNat]?
theorem P0 {α : Type} {l : List α} {i : Int} {x : α} (h : Cb l i = some x) : i = (i.toNat : Int) := by
 unfold Cb at h
 split at h
 ·cases h
 ·omega
theorem Aq {α : Type} {l : List α} {i : Int} {x : α} (h : Cb l i = some x) : l[i.toNat]? = some x := by
 unfold Cb at h
 split at h
 ·cases h
 ·exact h
theorem D8 {α : Type} {l : List α} {j : Nat} : Cb l (j : Int) = l[j]? := by
 unfold Cb
 rw [if_neg (by omega), Int.toNat_natCast]
theorem nX {α : Type} {l : List α} {i : Int} (h : 0 <= i) : Cb l i = l[i.toNat]? := by
 unfold Cb
 rw [if_neg (by omega)]
def dF {α : Type} (l : List α) (a b : Int) : Option (List α) := if 0 <= a /\ a <= b /\ b <= l.length then some ((l.drop a.toNat).take (b.toNat - a.toNat)) else none
theorem Xk {α : Type} {l m : List α} {a b : Int} (h : dF l a b = some m) : ∃ i j : Nat, a = (i : Int) /\ b = (j : Int) /\ i <= j /\ j <= l.length /\ m = (l.drop i).take (j - i) := by
 unfold dF at h
 split at h
 ·rename_i h0
  injection h with h
  exact ⟨a.toNat, b.toNat, by omega, by omega, by omega, by omega, h.symm⟩
 ·cases h
def Hz {α : Type} (k : Nat) (l m : List α) : Option (List α) := if (l.length + m.length) * k <= 140737488355328 then some (l ++ m) else none
theorem fY {α : Type} {k : Nat} {l m x : List α} (h : Hz k l m = some x) : (l.length + m.length) * k <= 140737488355328 /\ x = l ++ m := by
 unfold Hz at h
 split at h
 ·rename_i h0
  injection h with h
  exact ⟨h0, h.symm⟩
 ·cases h
def De {α : Type} (l : List α) (j : Nat) (x : α) : List α := l.set j x
theorem jQ {α : Type} {l m : List α} {a b : Int} (h : dF l a b = some m) : a.toNat + (b.toNat - a.toNat) <= l.length := by
 unfold dF at h
 split at h
 ·omega
 ·cases h
theorem Gs {b : Bool} (h : b = true) : (!b) = false := by rw [h]; rfl
theorem Gr {b : Bool} (h : b = false) : (!b) = true := by rw [h]; rfl
def tI {α : Type} [Inhabited α] (n : Nat) (l : List α) : List α := (List.range n).map fun i => l[i]!
def V6 (x y : Int) : Option Int := if y = 0 then none else some (x.tmod y)
theorem gP {x y z : Int} (h : V6 x y = some z) : y ≠ 0 /\ z = x.tmod y := by
 unfold V6 at h
 split at h
 ·cases h
 ·rename_i h0
  injection h with h
  exact ⟨h0, h.symm⟩
def Mb (x y : Int) : Option Int := if y = 0 then none else some (W (x.tdiv y))
theorem iD {x y z : Int} (h : Mb x y = some z) : y ≠ 0 /\ z = W (x.tdiv y) := by
 unfold Mb at h
 split at h
 ·cases h
 ·rename_i h0
  injection h with h
  exact ⟨h0, h.symm⟩
def bD (s : ByteArray) (i : Int) : Option UInt8 := if i < 0 then none else s.data[i.toNat]?
def aM (k : IntKind) (x y : Int) : Int := k.wrap (BitVec.ofInt k.bits x &&& BitVec.ofInt k.bits y).toNat
def Qv (k : IntKind) (x y : Int) : Int := k.wrap (BitVec.ofInt k.bits x ^^^ BitVec.ofInt k.bits y).toNat
def Sk (k : IntKind) (x y : Int) : Option Int := if y < 0 then none else some (x.fdiv (2 ^ min y.toNat k.bits))
theorem gA {k : IntKind} {x y z : Int} (h : Sk k x y = some z) : ¬ y < 0 /\ z = x.fdiv (2 ^ min y.toNat k.bits) := by
 unfold Sk at h
 split at h
 ·cases h
 ·rename_i h0
  injection h with h
  exact ⟨h0, h.symm⟩
def X3 (k : IntKind) (x y : Int) : Option Int := if y < 0 then none else some (k.wrap (x * 2 ^ min y.toNat k.bits))
theorem gG {k : IntKind} {x y z : Int} (h : X3 k x y = some z) : ¬ y < 0 /\ z = k.wrap (x * 2 ^ min y.toNat k.bits) := by
 unfold X3 at h
 split at h
 ·cases h
 ·rename_i h0
  injection h with h
  exact ⟨h0, h.symm⟩
open Classical in
noncomputable def vF {α β : Type} (l : List α) (a b : Option β) : Option β := if l = [] then (if a = b then a else none) else b
def Ny (s : ByteArray) : List UInt8 := s.data.toList
def gH : List UInt8 -> List UInt8 -> Bool
 | _, [] => false
 | [], _ :: _ => true
 | a :: x, b :: y => a < b || (a == b && gH x y)
def iI {α : Type} (l : List α) (a m : Nat) (z : α) : Option (List α) := if a + m <= l.length then some (l.take a ++ List.replicate m z ++ l.drop (a + m)) else none
theorem fO {α : Type} {l : List α} {a m : Nat} {z : α} {r : List α} (h : iI l a m z = some r) : a + m <= l.length /\ r = l.take a ++ List.replicate m z ++ l.drop (a + m) := by
 unfold iI at h
 split at h
 ·injection h with h; exact ⟨by assumption, h.symm⟩
 ·cases h
def aO (s : ByteArray) (c : UInt8) : Int := match (List.range s.size).find? fun i => s[i]! == c with | some i => (i : Int) | none => -1
section
variable {κ ν : Type} [DecidableEq κ]
def F0 (l : List (κ × ν)) (x : κ) (z : ν) : ν := match l.find? fun p => decide (p.1 = x) with | some p => p.2 | none => z
def Qr (l : List (κ × ν)) (x : κ) : Bool := l.any fun p => decide (p.1 = x)
def Ir (l : List (κ × ν)) (x : κ) (v : ν) : List (κ × ν) := match l.findIdx? fun p => decide (p.1 = x) with | some i => l.set i (x, v) | none => l ++ [(x, v)]
end
end Go.Proofs.YtkpcbnnlefcebaaGreat
