/- Plain texts, joined. No program is in sight here. -/
import GoSem.Core.View
set_option linter.unusedVariables false
set_option linter.unusedSimpArgs false
namespace Go.Proofs.YtopkgllcjbpdeaaDoor
section
theorem oi_ {α : Type} {a b : α} (h : some a = some b) : a = b := Option.some.inj h
open Go
inductive Lp (S R : Type) where
 | next (s : S)
 | done (r : R)
def Ob {S R : Type} (it : S -> Option R) : Lp S R -> Option R
 | .next s => it s
 | .done r => some r
def Kr {S R : Type} (body : S -> Option (Lp S R)) : Nat -> S -> Option R
 | 0, _ => none
 | n + 1, s => (body s).bind (Ob (Kr body n))
theorem Vp {S R : Type} {body : S -> Option (Lp S R)} {r : R} : ∀ {n : Nat} {s : S}, Kr body n s = some r -> Kr body (n + 1) s = some r
 | 0, _, h => by cases h
 | n + 1, s, h => by
  unfold Kr at h ⊢
  cases hb : body s with
  | none => rw [hb] at h; cases h
  | some o =>
   rw [hb] at h
   cases o with
   | next s' => exact Vp (n := n) h
   | done r' => exact h
theorem bK {S R : Type} {body : S -> Option (Lp S R)} {r : R} {s : S} {n m : Nat} (h : Kr body n s = some r) (hm : n <= m) : Kr body m s = some r := by
 induction hm with
 | refl => exact h
 | step _ ih => exact Vp ih
open Classical in
noncomputable def B2 {S R : Type} (body : S -> Option (Lp S R)) (s : S) : Option R := if h : ∃ r, ∃ n, Kr body n s = some r then some (Classical.choose h) else none
theorem Sz {S R : Type} {body : S -> Option (Lp S R)} {s : S} {r : R} {n : Nat} (h : Kr body n s = some r) : B2 body s = some r := by
 have hex : ∃ r, ∃ n, Kr body n s = some r := ⟨r, n, h⟩
 unfold B2
 rw [dif_pos hex]
 obtain ⟨m, hm⟩ := Classical.choose_spec hex
 have h1 := bK h (Nat.le_max_left n m)
 have h2 := bK hm (Nat.le_max_right n m)
 rw [h1] at h2
 exact h2.symm
theorem Oj {S R : Type} {body : S -> Option (Lp S R)} {s : S} {r : R} (h : B2 body s = some r) : ∃ n, Kr body n s = some r := by
 unfold B2 at h
 split at h
 ·rename_i hex
  injection h with h
  subst h
  exact Classical.choose_spec hex
 ·cases h
theorem M2 {S R : Type} (body : S -> Option (Lp S R)) (s : S) : B2 body s = (body s).bind (Ob (B2 body)) := by
 cases h : (body s).bind (Ob (B2 body)) with
 | some r =>
  cases hb : body s with
  | none => rw [hb] at h; cases h
  | some o =>
   rw [hb] at h
   cases o with
   | next s' =>
    obtain ⟨n, hn⟩ := Oj (show B2 body s' = some r from h)
    exact Sz (n := n + 1) (by unfold Kr; rw [hb]; exact hn)
   | done r' => exact Sz (n := 1) (by unfold Kr; rw [hb]; exact h)
 | none =>
  cases hl : B2 body s with
  | none => rfl
  | some r =>
   obtain ⟨n, hn⟩ := Oj hl
   cases n with
   | zero => cases hn
   | succ n =>
    unfold Kr at hn
    cases hb : body s with
    | none => rw [hb] at hn; cases hn
    | some o =>
     rw [hb] at hn h
     cases o with
     | next s' => rw [show (some (Lp.next s')).bind (Ob (B2 body)) = B2 body s' from rfl, Sz hn] at h; cases h
     | done r' => cases h
theorem cE {S R : Type} {body : S -> Option (Lp S R)} {n : Nat} {s : S} {r : R} (h : Kr body n s = some r) : ∃ m o, n = m + 1 /\ body s = some o /\ Ob (Kr body m) o = some r := by
 cases n with
 | zero => cases h
 | succ n =>
  unfold Kr at h
  cases hb : body s with
  | none => rw [hb] at h; cases h
  | some o => rw [hb] at h; exact ⟨n, o, rfl, rfl, h⟩
theorem fQ {S R : Type} {body : S -> Option (Lp S R)} (Inv : S -> Prop) (μ : S -> Nat) (Q : R -> Prop) (h : ∀ s, Inv s -> ∃ o, body s = some o /\ (match o with | .next s' => Inv s' /\ μ s' < μ s | .done r => Q r)) (s : S) (hs : Inv s) : ∃ r, B2 body s = some r /\ Q r := by
 generalize hn : μ s = n
 induction n using Nat.strongRecOn generalizing s with
 | _ n ih =>
  obtain ⟨o, h1, h2⟩ := h s hs
  rw [M2, h1]
  cases o with
  | next s' => exact ih (μ s') (hn ▸ h2.2) s' h2.1 rfl
  | done r => exact ⟨r, rfl, h2⟩
def S8 {A R : Type} (F : (A -> Option R) -> A -> Option R) : Nat -> A -> Option R
 | 0, _ => none
 | n + 1, a => F (S8 F n) a
open Classical in
noncomputable def Z0 {A R : Type} (F : (A -> Option R) -> A -> Option R) (a : A) : Option R := if h : ∃ r, ∃ n, S8 F n a = some r then some (Classical.choose h) else none
theorem cK {A R : Type} {F : (A -> Option R) -> A -> Option R} {a : A} {r : R} (h : Z0 F a = some r) : ∃ n, S8 F n a = some r := by
 unfold Z0 at h
 split at h
 ·rename_i hex
  injection h with h
  subst h
  exact Classical.choose_spec hex
 ·cases h
theorem fU {A R : Type} {F : (A -> Option R) -> A -> Option R} {motive : A -> R -> Prop} (h : ∀ rec : A -> Option R, (∀ a r, rec a = some r -> motive a r) -> ∀ a r, F rec a = some r -> motive a r) (a : A) (r : R) (G : Z0 F a = some r) : motive a r := by
 obtain ⟨n, hn⟩ := cK G
 have key : ∀ n a r, S8 F n a = some r -> motive a r := by
  intro n
  induction n with
  | zero => intro a r h; cases h
  | succ n ih => intro a r h'; exact h _ ih a r h'
 exact key n a r hn
def M8 {R : Type} (x y : Option R) : Prop := ∀ r, x = some r -> y = some r
theorem M8.refl {R : Type} {x : Option R} : M8 x x := fun _ h => h
theorem M8.bind_ {R T : Type} {x y : Option R} {f g : R -> Option T} (h : M8 x y) (k : ∀ a, M8 (f a) (g a)) : M8 (x.bind f) (y.bind g) := fun r hr => by
 cases hx : x with
 | none => rw [hx] at hr; cases hr
 | some a =>
  rw [hx] at hr
  rw [h a hx]
  exact k a r hr
theorem M8.cond_ {R : Type} {b : Bool} {x x' y y' : Option R} (h : M8 x x') (k : M8 y y') : M8 (cond b x y) (cond b x' y') := by cases b <;> assumption
theorem M8.it {S R : Type} {f g : S -> Option (Lp S R)} (h : ∀ s, M8 (f s) (g s)) : ∀ n s, M8 (Kr f n s) (Kr g n s)
 | 0, _ => fun r h => by cases h
 | n + 1, s => by
  unfold Kr
  refine M8.bind_ (h s) fun o => ?_
  cases o with
  | next s' => exact M8.it h n s'
  | done r => exact M8.refl
theorem M8.lp {S R : Type} {f g : S -> Option (Lp S R)} (h : ∀ s, M8 (f s) (g s)) (s : S) : M8 (B2 f s) (B2 g s) := fun r hr => by
 obtain ⟨n, hn⟩ := Oj hr
 exact Sz (M8.it h n s r hn)
def Yc {A R : Type} (F : (A -> Option R) -> A -> Option R) : Prop := ∀ p q : A -> Option R, (∀ a, M8 (p a) (q a)) -> ∀ a, M8 (F p a) (F q a)
theorem V3 {A R : Type} {F : (A -> Option R) -> A -> Option R} (hF : Yc F) : ∀ n a, M8 (S8 F n a) (S8 F (n + 1) a)
 | 0, _ => fun r h => by cases h
 | n + 1, a => hF _ _ (fun b => V3 hF n b) a
theorem bO {A R : Type} {F : (A -> Option R) -> A -> Option R} (hF : Yc F) {n m : Nat} (h : n <= m) (a : A) : M8 (S8 F n a) (S8 F m a) := by
 induction h with
 | refl => exact M8.refl
 | step _ ih => exact fun r hr => V3 hF _ a r (ih r hr)
theorem jJ {A R : Type} {F : (A -> Option R) -> A -> Option R} (hF : Yc F) {n : Nat} {a : A} {r : R} (h : S8 F n a = some r) : Z0 F a = some r := by
 have hex : ∃ r, ∃ n, S8 F n a = some r := ⟨r, n, h⟩
 unfold Z0
 rw [dif_pos hex]
 obtain ⟨m, hm⟩ := Classical.choose_spec hex
 have h1 := bO hF (Nat.le_max_left n m) a _ h
 have h2 := bO hF (Nat.le_max_right n m) a _ hm
 rw [h1] at h2
 exact h2.symm
def up {S R : Type} (x : Option R) : Option (Lp S R) := x.map .done
theorem Bn {S R : Type} {x : Option R} {o : Lp S R} {it : S -> Option R} {r : R} (h : up x = some o) (hn : Ob it o = some r) : x = some r := by
 cases x with
 | none => cases h
 | some y =>
  injection h with h
  subst h
  exact hn
theorem M8.up_ {S R : Type} {x y : Option R} (h : M8 x y) : M8 (up x : Option (Lp S R)) (up y) := fun r hr => by
 cases hx : x with
 | none => rw [hx] at hr; cases hr
 | some a => rw [hx] at hr; rw [h a hx]; exact hr
theorem Ab {α β : Type} {x : Option α} {f : α -> Option β} {b : β} (h : x.bind f = some b) : ∃ a, x = some a /\ f a = some b := by
 cases x with
 | none => cases h
 | some a => exact ⟨a, rfl, h⟩
theorem oR {α : Type} {b : Bool} {x y : α} {z : α} (hb : b = true) (h : cond b x y = z) : x = z := by subst hb; exact h
theorem nD {α : Type} {b : Bool} {x y : α} {z : α} (hb : b = false) (h : cond b x y = z) : y = z := by subst hb; exact h
def W (x : Int) : Int := (x + 9223372036854775808) % 18446744073709551616 - 9223372036854775808
theorem Em {x : Int} (h : -9223372036854775808 <= x /\ x <= 9223372036854775807) : W x = x := by unfold W; omega
theorem jV (x : Int) : -9223372036854775808 <= W x /\ W x <= 9223372036854775807 := by unfold W; omega
def u8 (x : Int) : UInt8 := UInt8.ofNat (x % 256).toNat
theorem iE (x : Int) : ((u8 x).toNat : Int) = x % 256 := by
 unfold u8
 have h : (x % 256).toNat < 256 := by omega
 rw [UInt8.toNat_ofNat', Nat.mod_eq_of_lt (by omega)]
 omega
def Bz {α : Type} (l : List α) (i : Int) : Option α := if i < 0 then none else l[i.toNat]?
theorem Iv {α : Type} {l : List α} {i : Int} {x : α} (h : Bz l i = some x) : i = (i.toNat : Int) := by
 unfold Bz at h
 split at h
 ·cases h
 ·omega
theorem Ar {α : Type} {l : List α} {i : Int} {x : α} (h : Bz l i = some x) : l[i.toNat]? = some x := by
 unfold Bz at h
 split at h
 ·cases h
 ·exact h
theorem E6 {α : Type} {l : List α} {j : Nat} : Bz l (j : Int) = l[j]? := by
 unfold Bz
 rw [if_neg (by omega), Int.toNat_natCast]
theorem jB {α : Type} {l : List α} {i : Int} (h : 0 <= i) : Bz l i = l[i.toNat]? := by
 unfold Bz
 rw [if_neg (by omega)]
def kF {α : Type} (l : List α) (a b : Int) : Option (List α) := if 0 <= a /\ a <= b /\ b <= l.length then some ((l.drop a.toNat).take (b.toNat - a.toNat)) else none
theorem X1 {α : Type} {l m : List α} {a b : Int} (h : kF l a b = some m) : ∃ i j : Nat, a = (i : Int) /\ b = (j : Int) /\ i <= j /\ j <= l.length /\ m = (l.drop i).take (j - i) := by
 unfold kF at h
 split at h
 ·rename_i h0
  injection h with h
  exact ⟨a.toNat, b.toNat, by omega, by omega, by omega, by omega, h.symm⟩
 ·cases h
def G8 {α : Type} (k : Nat) (l m : List α) : Option (List α) := if (l.length + m.length) * k <= 140737488355328 then some (l ++ m) else none
theorem Wc {α : Type} {k : Nat} {l m x : List α} (h : G8 k l m = some x) : (l.length + m.length) * k <= 140737488355328 /\ x = l ++ m := by
 unfold G8 at h
 split at h
 ·rename_i h0
  injection h with h
  exact ⟨h0, h.symm⟩
 ·cases h
def Uz {α : Type} (k : Nat) (n : Int) (z : α) : Option (List α) := if 0 <= n /\ n.toNat * k <= 140737488355328 /\ n <= 1000000 then some (List.replicate n.toNat z) else none
theorem cB {α : Type} {k : Nat} {n : Int} {z : α} {x : List α} (h : Uz k n z = some x) : ∃ m : Nat, n = (m : Int) /\ m * k <= 140737488355328 /\ m <= 1000000 /\ x = List.replicate m z := by
 unfold Uz at h
 split at h
 ·rename_i h0
  injection h with h
  exact ⟨n.toNat, by omega, h0.2.1, by omega, h.symm⟩
 ·cases h
def Cg {α : Type} (l : List α) (j : Nat) (x : α) : List α := l.set j x
theorem bR {b : Bool} (h : b = true) : (!b) = false := by rw [h]; rfl
theorem Z9 {b : Bool} (h : b = false) : (!b) = true := by rw [h]; rfl
def dD (x y : Int) : Option Int := if y = 0 then none else some (x.tmod y)
theorem cL {x y z : Int} (h : dD x y = some z) : y ≠ 0 /\ z = x.tmod y := by
 unfold dD at h
 split at h
 ·cases h
 ·rename_i h0
  injection h with h
  exact ⟨h0, h.symm⟩
def Mr (x y : Int) : Option Int := if y = 0 then none else some (W (x.tdiv y))
theorem cZ {x y z : Int} (h : Mr x y = some z) : y ≠ 0 /\ z = W (x.tdiv y) := by
 unfold Mr at h
 split at h
 ·cases h
 ·rename_i h0
  injection h with h
  exact ⟨h0, h.symm⟩
def idxT (s : ByteArray) (i : Int) : Option UInt8 := if i < 0 then none else s.data[i.toNat]?
def Oa (k : IntKind) (x y : Int) : Int := k.wrap (BitVec.ofInt k.bits x &&& BitVec.ofInt k.bits y).toNat
def Ry (k : IntKind) (x y : Int) : Int := k.wrap (BitVec.ofInt k.bits x ||| BitVec.ofInt k.bits y).toNat
def Oz (k : IntKind) (x y : Int) : Int := k.wrap (BitVec.ofInt k.bits x ^^^ BitVec.ofInt k.bits y).toNat
def G4 (k : IntKind) (x y : Int) : Int := k.wrap (BitVec.ofInt k.bits x &&& ~~~(BitVec.ofInt k.bits y)).toNat
def Kb (k : IntKind) (x y : Int) : Option Int := if y < 0 then none else some (x.fdiv (2 ^ min y.toNat k.bits))
theorem dB {k : IntKind} {x y z : Int} (h : Kb k x y = some z) : ¬ y < 0 /\ z = x.fdiv (2 ^ min y.toNat k.bits) := by
 unfold Kb at h
 split at h
 ·cases h
 ·rename_i h0
  injection h with h
  exact ⟨h0, h.symm⟩
def L6 (k : IntKind) (x y : Int) : Option Int := if y < 0 then none else some (k.wrap (x * 2 ^ min y.toNat k.bits))
theorem dC {k : IntKind} {x y z : Int} (h : L6 k x y = some z) : ¬ y < 0 /\ z = k.wrap (x * 2 ^ min y.toNat k.bits) := by
 unfold L6 at h
 split at h
 ·cases h
 ·rename_i h0
  injection h with h
  exact ⟨h0, h.symm⟩
open Classical in
noncomputable def pZ {α β : Type} (l : List α) (a b : Option β) : Option β := if l = [] then (if a = b then a else none) else b
def Xd (x y : UInt8) : Option UInt8 := if y = 0 then none else some (x % y)
theorem dL {x y z : UInt8} (h : Xd x y = some z) : (y.toNat : Int) ≠ 0 /\ (z.toNat : Int) = (x.toNat : Int).tmod (y.toNat : Int) := by
 unfold Xd at h
 split at h
 ·cases h
 ·rename_i h0
  injection h with h
  subst h
  refine ⟨fun e => h0 (UInt8.toNat_inj.1 (by simpa using e)), ?_⟩
  rw [UInt8.toNat_mod]
  exact (Int.ofNat_tmod _ _)
def Vd {α R : Type} (o : Option α) (a : R) (b : α -> R) : R := match o with | none => a | some v => b v
theorem Nw {α R : Type} {a : R} {b : α -> R} {r : R} (h : Vd (none : Option α) a b = r) : a = r := h
theorem N7 {α R : Type} {a : R} {b : α -> R} {r : R} {v : α} (h : Vd (some v) a b = r) : b v = r := h
section
variable {κ ν : Type} [DecidableEq κ]
def Ff (l : List (κ × ν)) (x : κ) (z : ν) : ν := match l.find? fun p => decide (p.1 = x) with | some p => p.2 | none => z
def Ns (l : List (κ × ν)) (x : κ) : Bool := l.any fun p => decide (p.1 = x)
def Hw (l : List (κ × ν)) (x : κ) (v : ν) : List (κ × ν) := match l.findIdx? fun p => decide (p.1 = x) with | some i => l.set i (x, v) | none => l ++ [(x, v)]
end
end
section
open Go
section
variable {α S R : Type}
def cM (body : α -> S -> Option (Lp S R)) (ed : S -> Option (Lp S R)) : List α -> S -> Option R
 | [], s => (ed s).bind (Ob fun _ => none)
 | p :: l, s => (body p s).bind (Ob (cM body ed l))
variable {body : α -> S -> Option (Lp S R)} {ed : S -> Option (Lp S R)} {l : List α} {s : S} {r : R}
def rest (n : Nat) (seen : List Nat) : List Nat := (List.range n).filter fun i => !seen.contains i
theorem T9 {n : Nat} {seen : List Nat} {i : Nat} : i ∈ rest n seen ↔ i < n /\ i ∉ seen := by simp [rest]
theorem bF (n : Nat) (seen : List Nat) : (rest n seen).Nodup := List.nodup_range.filter _
theorem dN {n : Nat} {seen : List Nat} {i : Nat} (hi : i < n) (hn : i ∉ seen) : (rest n seen).Perm (i :: rest n (seen ++ [i])) := by
 rw [List.perm_ext_iff_of_nodup (bF _ _) (List.nodup_cons.2 ⟨by rw [T9]; simp, bF _ _⟩)]
 intro a
 simp only [List.mem_cons, T9, List.mem_append, List.not_mem_nil, or_false]
 constructor
 ·rintro ⟨h1, h2⟩
  by_cases h : a = i
  ·exact .inl h
  ·exact .inr ⟨h1, fun hh => hh.elim h2 h⟩
 ·rintro (rfl | ⟨h1, h2⟩)
  ·exact ⟨hi, hn⟩
  ·exact ⟨h1, fun hh => h2 (.inl hh)⟩
def MH (body : α -> S -> Option (Lp S R)) (ed : S -> Option (Lp S R)) (l : List α) (r : R) (seen : List Nat) (s : S) : Prop :=
 ∀ l', l'.Perm ((rest l.length seen).filterMap (l[·]?)) -> cM body ed l' s = some r
theorem MH.fin {seen : List Nat} (h : MH body ed l r seen s) (ha : ∀ i, i < l.length -> i ∈ seen) : ∃ o, ed s = some o /\ Ob (fun _ => none) o = some r := by
 have h0 : rest l.length seen = [] := by
  rw [List.eq_nil_iff_forall_not_mem]
  intro i hi
  rw [T9] at hi
  exact hi.2 (ha i hi.1)
 have := h [] (by rw [h0]; exact .refl _)
 unfold cM at this
 cases hf : ed s with
 | none => rw [hf] at this; cases this
 | some o => rw [hf] at this; exact ⟨o, rfl, this⟩
open Classical in
noncomputable def rX (body : α -> S -> Option (Lp S R)) (ed : S -> Option (Lp S R)) (l : List α) (r : R) (seen : List Nat) (s : S) : Option R := if MH body ed l r seen s then some r else none
theorem MH.el {seen : List Nat} {i : Nat} {p : α} (h : MH body ed l r seen s) (hp : l[i]? = some p) (hn : i ∉ seen) : ∃ o, body p s = some o /\ Ob (rX body ed l r (seen ++ [i])) o = some r := by
 have hi : i < l.length := (List.getElem?_eq_some_iff.1 hp).1
 have key : ∀ l', l'.Perm ((rest l.length (seen ++ [i])).filterMap (l[·]?)) -> cM body ed (p :: l') s = some r := by
  intro l' hl
  refine h _ ?_
  have h1 := (dN hi hn).filterMap (l[·]?)
  rw [List.filterMap_cons, hp] at h1
  exact (hl.cons p).trans h1.symm
 have h0 := key _ (.refl _)
 unfold cM at h0
 cases hb : body p s with
 | none => rw [hb] at h0; cases h0
 | some o =>
  rw [hb] at h0
  refine ⟨o, rfl, ?_⟩
  cases o with
  | done r' => exact h0
  | next s' =>
   have : MH body ed l r (seen ++ [i]) s' := by
    intro l' hl
    have := key l' hl
    unfold cM at this
    rw [hb] at this
    exact this
   show rX body ed l r (seen ++ [i]) s' = some r
   unfold rX
   rw [if_pos this]
end
end
section
def Y5 {S : Type} (rnd : S -> Option (Nat × S)) (q : Nat × S) : Option (Bool × (Nat × S)) := match q with
 | (0, s) => (rnd s).map fun y => (Nat.beq y.1 0, y)
 | _ => none
theorem Mf {S : Type} {rnd : S -> Option (Nat × S)} {q : Nat × S} {y : Bool × (Nat × S)} (h : Y5 rnd q = some y) : ∃ s z, q = (0, s) /\ y = (Nat.beq z.1 0, z) /\ rnd s = some z := by
 obtain ⟨c, s⟩ := q
 cases c with
 | succ c => exact nomatch (show (none : Option (Bool × (Nat × S))) = some y from h)
 | zero =>
  replace h : (rnd s).map (fun y => (Nat.beq y.1 0, y)) = some y := h
  cases hr : rnd s with
  | none => rw [hr] at h; cases h
  | some z => rw [hr] at h; injection h with h; exact ⟨s, z, rfl, h.symm, hr⟩
theorem oE {R : Type} {c k : Nat} {X Y : Option R} {r : R} (h : cond (Nat.beq c k) X Y = some r) : (c = k /\ X = some r) \/ Y = some r := by
 cases hb : Nat.beq c k with
 | true => rw [hb] at h; exact .inl ⟨Nat.eq_of_beq_eq_true hb, h⟩
 | false => rw [hb] at h; exact .inr h
end
end Go.Proofs.YtopkgllcjbpdeaaDoor
