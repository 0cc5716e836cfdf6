/- Plain functions: what the walks compute with. No program is in sight here. -/
import GoSem.Core.View
namespace Go.Proofs.Ytfkgbfhpibiheaa
open Go
inductive Lp (S R : Type) where
  | next (s : S)
  | done (r : R)
def lstep {S R : Type} (it : S → Option R) : Lp S R → Option R
  | .next s => it s
  | .done r => some r
def iter {S R : Type} (body : S → Option (Lp S R)) : Nat → S → Option R
  | 0, _ => none
  | n + 1, s => (body s).bind (lstep (iter body n))
theorem iter_more {S R : Type} {body : S → Option (Lp S R)} {r : R} : ∀ {n : Nat} {s : S}, iter body n s = some r → iter body (n + 1) s = some r
  | 0, _, h => by cases h
  | n + 1, s, h => by
    unfold iter at h ⊢
    cases hb : body s with
    | none => rw [hb] at h; cases h
    | some o =>
      rw [hb] at h
      cases o with
      | next s' => exact iter_more (n := n) h
      | done r' => exact h
theorem iter_le {S R : Type} {body : S → Option (Lp S R)} {r : R} {s : S} {n m : Nat} (h : iter body n s = some r) (hm : n ≤ m) : iter body m s = some r := by
  induction hm with
  | refl => exact h
  | step _ ih => exact iter_more ih
open Classical in
noncomputable def loop {S R : Type} (body : S → Option (Lp S R)) (s : S) : Option R := if h : ∃ r, ∃ n, iter body n s = some r then some (Classical.choose h) else none
theorem loop_of {S R : Type} {body : S → Option (Lp S R)} {s : S} {r : R} {n : Nat} (h : iter body n s = some r) : loop body s = some r := by
  have hex : ∃ r, ∃ n, iter body n s = some r := ⟨r, n, h⟩
  unfold loop
  rw [dif_pos hex]
  obtain ⟨m, hm⟩ := Classical.choose_spec hex
  have h1 := iter_le h (Nat.le_max_left n m)
  have h2 := iter_le hm (Nat.le_max_right n m)
  rw [h1] at h2
  exact h2.symm
theorem loop_some {S R : Type} {body : S → Option (Lp S R)} {s : S} {r : R} (h : loop body s = some r) : ∃ n, iter body n s = some r := by
  unfold loop at h
  split at h
  · rename_i hex
    injection h with h
    subst h
    exact Classical.choose_spec hex
  · cases h
theorem loop_eq {S R : Type} (body : S → Option (Lp S R)) (s : S) : loop body s = (body s).bind (lstep (loop body)) := by
  cases h : (body s).bind (lstep (loop body)) with
  | some r =>
    cases hb : body s with
    | none => rw [hb] at h; cases h
    | some o =>
      rw [hb] at h
      cases o with
      | next s' =>
        obtain ⟨n, hn⟩ := loop_some (show loop body s' = some r from h)
        exact loop_of (n := n + 1) (by unfold iter; rw [hb]; exact hn)
      | done r' => exact loop_of (n := 1) (by unfold iter; rw [hb]; exact h)
  | none =>
    cases hl : loop body s with
    | none => rfl
    | some r =>
      obtain ⟨n, hn⟩ := loop_some hl
      cases n with
      | zero => cases hn
      | succ n =>
        unfold iter at hn
        cases hb : body s with
        | none => rw [hb] at hn; cases hn
        | some o =>
          rw [hb] at hn h
          cases o with
          | next s' => rw [show (some (Lp.next s')).bind (lstep (loop body)) = loop body s' from rfl, loop_of hn] at h; cases h
          | done r' => cases h
theorem iter_some {S R : Type} {body : S → Option (Lp S R)} {n : Nat} {s : S} {r : R} (h : iter body n s = some r) : ∃ m o, n = m + 1 ∧ body s = some o ∧ lstep (iter body m) o = some r := by
  cases n with
  | zero => cases h
  | succ n =>
    unfold iter at h
    cases hb : body s with
    | none => rw [hb] at h; cases h
    | some o => rw [hb] at h; exact ⟨n, o, rfl, rfl, h⟩
theorem loop_inv {S R : Type} {body : S → Option (Lp S R)} (Inv : S → Prop) (μ : S → Nat) (Q : R → Prop) (h : ∀ s, Inv s → ∃ o, body s = some o ∧ (match o with | .next s' => Inv s' ∧ μ s' < μ s | .done r => Q r)) (s : S) (hs : Inv s) : ∃ r, loop body s = some r ∧ Q r := by
  generalize hn : μ s = n
  induction n using Nat.strongRecOn generalizing s with
  | _ n ih =>
    obtain ⟨o, h1, h2⟩ := h s hs
    rw [loop_eq, h1]
    cases o with
    | next s' => exact ih (μ s') (hn ▸ h2.2) s' h2.1 rfl
    | done r => exact ⟨r, rfl, h2⟩
def fixN {A R : Type} (F : (A → Option R) → A → Option R) : Nat → A → Option R
  | 0, _ => none
  | n + 1, a => F (fixN F n) a
open Classical in
noncomputable def fixT {A R : Type} (F : (A → Option R) → A → Option R) (a : A) : Option R := if h : ∃ r, ∃ n, fixN F n a = some r then some (Classical.choose h) else none
theorem fixT_some {A R : Type} {F : (A → Option R) → A → Option R} {a : A} {r : R} (h : fixT F a = some r) : ∃ n, fixN F n a = some r := by
  unfold fixT at h
  split at h
  · rename_i hex
    injection h with h
    subst h
    exact Classical.choose_spec hex
  · cases h
theorem fixT_ind {A R : Type} {F : (A → Option R) → A → Option R} {motive : A → R → Prop} (h : ∀ rec : A → Option R, (∀ a r, rec a = some r → motive a r) → ∀ a r, F rec a = some r → motive a r) (a : A) (r : R) (hg : fixT F a = some r) : motive a r := by
  obtain ⟨n, hn⟩ := fixT_some hg
  have key : ∀ n a r, fixN F n a = some r → motive a r := by
    intro n
    induction n with
    | zero => intro a r h; cases h
    | succ n ih => intro a r h'; exact h _ ih a r h'
  exact key n a r hn
def OLe {R : Type} (x y : Option R) : Prop := ∀ r, x = some r → y = some r
theorem OLe.refl {R : Type} {x : Option R} : OLe x x := fun _ h => h
theorem OLe.bind_ {R T : Type} {x y : Option R} {f g : R → Option T} (h : OLe x y) (k : ∀ a, OLe (f a) (g a)) : OLe (x.bind f) (y.bind g) := fun r hr => by
  cases hx : x with
  | none => rw [hx] at hr; cases hr
  | some a =>
    rw [hx] at hr
    rw [h a hx]
    exact k a r hr
theorem OLe.cond_ {R : Type} {b : Bool} {x x' y y' : Option R} (h : OLe x x') (k : OLe y y') : OLe (cond b x y) (cond b x' y') := by cases b <;> assumption
theorem OLe.it {S R : Type} {f g : S → Option (Lp S R)} (h : ∀ s, OLe (f s) (g s)) : ∀ n s, OLe (iter f n s) (iter g n s)
  | 0, _ => fun r h => by cases h
  | n + 1, s => by
    unfold iter
    refine OLe.bind_ (h s) fun o => ?_
    cases o with
    | next s' => exact OLe.it h n s'
    | done r => exact OLe.refl
theorem OLe.lp {S R : Type} {f g : S → Option (Lp S R)} (h : ∀ s, OLe (f s) (g s)) (s : S) : OLe (loop f s) (loop g s) := fun r hr => by
  obtain ⟨n, hn⟩ := loop_some hr
  exact loop_of (OLe.it h n s r hn)
def MonoF {A R : Type} (F : (A → Option R) → A → Option R) : Prop := ∀ p q : A → Option R, (∀ a, OLe (p a) (q a)) → ∀ a, OLe (F p a) (F q a)
theorem fixN_succ {A R : Type} {F : (A → Option R) → A → Option R} (hF : MonoF F) : ∀ n a, OLe (fixN F n a) (fixN F (n + 1) a)
  | 0, _ => fun r h => by cases h
  | n + 1, a => hF _ _ (fun b => fixN_succ hF n b) a
theorem fixN_le {A R : Type} {F : (A → Option R) → A → Option R} (hF : MonoF F) {n m : Nat} (h : n ≤ m) (a : A) : OLe (fixN F n a) (fixN F m a) := by
  induction h with
  | refl => exact OLe.refl
  | step _ ih => exact fun r hr => fixN_succ hF _ a r (ih r hr)
theorem fixT_of {A R : Type} {F : (A → Option R) → A → Option R} (hF : MonoF F) {n : Nat} {a : A} {r : R} (h : fixN F n a = some r) : fixT F a = some r := by
  have hex : ∃ r, ∃ n, fixN F n a = some r := ⟨r, n, h⟩
  unfold fixT
  rw [dif_pos hex]
  obtain ⟨m, hm⟩ := Classical.choose_spec hex
  have h1 := fixN_le hF (Nat.le_max_left n m) a _ h
  have h2 := fixN_le hF (Nat.le_max_right n m) a _ hm
  rw [h1] at h2
  exact h2.symm
def up {S R : Type} (x : Option R) : Option (Lp S R) := x.map .done
theorem up_some {S R : Type} (r : R) : (up (some r) : Option (Lp S R)) = some (.done r) := rfl
theorem leave {S R : Type} {x : Option R} {o : Lp S R} {it : S → Option R} {r : R} (h : up x = some o) (hn : lstep it o = some r) : x = some r := by
  cases x with
  | none => cases h
  | some y =>
    injection h with h
    subst h
    exact hn
theorem OLe.up_ {S R : Type} {x y : Option R} (h : OLe x y) : OLe (up x : Option (Lp S R)) (up y) := fun r hr => by
  cases hx : x with
  | none => rw [hx] at hr; cases hr
  | some a => rw [hx] at hr; rw [h a hx]; exact hr
theorem bind_some {α β : Type} {x : Option α} {f : α → Option β} {b : β} (h : x.bind f = some b) : ∃ a, x = some a ∧ f a = some b := by
  cases x with
  | none => cases h
  | some a => exact ⟨a, rfl, h⟩
theorem cond_t {α : Type} {b : Bool} {x y : α} {z : α} (hb : b = true) (h : cond b x y = z) : x = z := by subst hb; exact h
theorem cond_f {α : Type} {b : Bool} {x y : α} {z : α} (hb : b = false) (h : cond b x y = z) : y = z := by subst hb; exact h
def W (x : Int) : Int := (x + 9223372036854775808) % 18446744073709551616 - 9223372036854775808
theorem W_id {x : Int} (h : -9223372036854775808 ≤ x ∧ x ≤ 9223372036854775807) : W x = x := by unfold W; omega
theorem W_range (x : Int) : -9223372036854775808 ≤ W x ∧ W x ≤ 9223372036854775807 := by unfold W; omega
def u8 (x : Int) : UInt8 := UInt8.ofNat (x % 256).toNat
theorem u8_toNat (x : Int) : ((u8 x).toNat : Int) = x % 256 := by
  unfold u8
  have h : (x % 256).toNat < 256 := by omega
  rw [UInt8.toNat_ofNat', Nat.mod_eq_of_lt (by omega)]
  omega
def getI {α : Type} (l : List α) (i : Int) : Option α := if i < 0 then none else l[i.toNat]?
theorem getI_ix {α : Type} {l : List α} {i : Int} {x : α} (h : getI l i = some x) : i = (i.toNat : Int) := by
  unfold getI at h
  split at h
  · cases h
  · omega
theorem getI_at {α : Type} {l : List α} {i : Int} {x : α} (h : getI l i = some x) : l[i.toNat]? = some x := by
  unfold getI at h
  split at h
  · cases h
  · exact h
theorem getI_nat {α : Type} {l : List α} {j : Nat} : getI l (j : Int) = l[j]? := by
  unfold getI
  rw [if_neg (by omega), Int.toNat_natCast]
theorem getI_eq {α : Type} {l : List α} {i : Int} (h : 0 ≤ i) : getI l i = l[i.toNat]? := by
  unfold getI
  rw [if_neg (by omega)]
def slI {α : Type} (l : List α) (a b : Int) : Option (List α) := if 0 ≤ a ∧ a ≤ b ∧ b ≤ l.length then some ((l.drop a.toNat).take (b.toNat - a.toNat)) else none
theorem slI_some {α : Type} {l m : List α} {a b : Int} (h : slI l a b = some m) : ∃ i j : Nat, a = (i : Int) ∧ b = (j : Int) ∧ i ≤ j ∧ j ≤ l.length ∧ m = (l.drop i).take (j - i) := by
  unfold slI at h
  split at h
  · rename_i h0
    injection h with h
    exact ⟨a.toNat, b.toNat, by omega, by omega, by omega, by omega, h.symm⟩
  · cases h
def appI {α : Type} (k : Nat) (l m : List α) : Option (List α) := if (l.length + m.length) * k ≤ 140737488355328 then some (l ++ m) else none
theorem appI_some {α : Type} {k : Nat} {l m x : List α} (h : appI k l m = some x) : (l.length + m.length) * k ≤ 140737488355328 ∧ x = l ++ m := by
  unfold appI at h
  split at h
  · rename_i h0
    injection h with h
    exact ⟨h0, h.symm⟩
  · cases h
def makI {α : Type} (k : Nat) (n : Int) (z : α) : Option (List α) := if 0 ≤ n ∧ n.toNat * k ≤ 140737488355328 ∧ n ≤ 1000000 then some (List.replicate n.toNat z) else none
theorem makI_some {α : Type} {k : Nat} {n : Int} {z : α} {x : List α} (h : makI k n z = some x) : ∃ m : Nat, n = (m : Int) ∧ m * k ≤ 140737488355328 ∧ m ≤ 1000000 ∧ x = List.replicate m z := by
  unfold makI at h
  split at h
  · rename_i h0
    injection h with h
    exact ⟨n.toNat, by omega, h0.2.1, by omega, h.symm⟩
  · cases h
def setI {α : Type} (l : List α) (j : Nat) (x : α) : List α := l.set j x
theorem slI_le {α : Type} {l m : List α} {a b : Int} (h : slI l a b = some m) : a.toNat + (b.toNat - a.toNat) ≤ l.length := by
  unfold slI at h
  split at h
  · omega
  · cases h
theorem not_t {b : Bool} (h : b = true) : (!b) = false := by rw [h]; rfl
theorem not_f {b : Bool} (h : b = false) : (!b) = true := by rw [h]; rfl
def arrL {α : Type} [Inhabited α] (n : Nat) (l : List α) : List α := (List.range n).map fun i => l[i]!
def remI (x y : Int) : Option Int := if y = 0 then none else some (x.tmod y)
theorem remI_some {x y z : Int} (h : remI x y = some z) : y ≠ 0 ∧ z = x.tmod y := by
  unfold remI at h
  split at h
  · cases h
  · rename_i h0
    injection h with h
    exact ⟨h0, h.symm⟩
def quoI (x y : Int) : Option Int := if y = 0 then none else some (W (x.tdiv y))
theorem quoI_some {x y z : Int} (h : quoI x y = some z) : y ≠ 0 ∧ z = W (x.tdiv y) := by
  unfold quoI at h
  split at h
  · cases h
  · rename_i h0
    injection h with h
    exact ⟨h0, h.symm⟩
def idxT (s : ByteArray) (i : Int) : Option UInt8 := if i < 0 then none else s.data[i.toNat]?
def andK (k : IntKind) (x y : Int) : Int := k.wrap (BitVec.ofInt k.bits x &&& BitVec.ofInt k.bits y).toNat
def xorK (k : IntKind) (x y : Int) : Int := k.wrap (BitVec.ofInt k.bits x ^^^ BitVec.ofInt k.bits y).toNat
def shrK (k : IntKind) (x y : Int) : Option Int := if y < 0 then none else some (x.fdiv (2 ^ min y.toNat k.bits))
theorem shrK_some {k : IntKind} {x y z : Int} (h : shrK k x y = some z) : ¬ y < 0 ∧ z = x.fdiv (2 ^ min y.toNat k.bits) := by
  unfold shrK at h
  split at h
  · cases h
  · rename_i h0
    injection h with h
    exact ⟨h0, h.symm⟩
def shlK (k : IntKind) (x y : Int) : Option Int := if y < 0 then none else some (k.wrap (x * 2 ^ min y.toNat k.bits))
theorem shlK_some {k : IntKind} {x y z : Int} (h : shlK k x y = some z) : ¬ y < 0 ∧ z = k.wrap (x * 2 ^ min y.toNat k.bits) := by
  unfold shlK at h
  split at h
  · cases h
  · rename_i h0
    injection h with h
    exact ⟨h0, h.symm⟩
open Classical in
noncomputable def nilC {α β : Type} (l : List α) (a b : Option β) : Option β := if l = [] then (if a = b then a else none) else b
def ofB (l : List UInt8) : ByteArray := ⟨l.toArray⟩
section
variable {κ ν : Type} [DecidableEq κ]
def mapGet (l : List (κ × ν)) (x : κ) (z : ν) : ν := match l.find? fun p => decide (p.1 = x) with | some p => p.2 | none => z
def mapHas (l : List (κ × ν)) (x : κ) : Bool := l.any fun p => decide (p.1 = x)
def mapPut (l : List (κ × ν)) (x : κ) (v : ν) : List (κ × ν) := match l.findIdx? fun p => decide (p.1 = x) with | some i => l.set i (x, v) | none => l ++ [(x, v)]
end
end Go.Proofs.Ytfkgbfhpibiheaa
