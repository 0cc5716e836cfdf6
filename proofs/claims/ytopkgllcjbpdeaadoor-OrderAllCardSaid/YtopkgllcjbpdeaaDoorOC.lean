/- Plain texts, joined. No program is in sight here. -/
import Derived.Test.YtopkgllcjbpdeaaDoorCO
import Derived.Test.YtopkgllcjbpdeaaDoorAS
import Derived.Test.YtopkgllcjbpdeaaDoorWA
import Derived.Test.YtopkgllcjbpdeaaDoorM0
import Derived.KernelRfl
import Derived.Test.YtopkgllcjbpdeaaDoorSEorder_set
set_option linter.unusedVariables false
set_option linter.unusedSimpArgs false
set_option maxRecDepth 100000
namespace Go.Proofs.YtopkgllcjbpdeaaDoor
section
open Go
def Il (a b : Aa) : Bool := bif !decide (a.First = b.First) then decide (a.First < b.First) else decide (a.Then < b.Then)
theorem Qr {a b : Aa} : Il a b = true ↔ a.First < b.First \/ (a.First = b.First /\ a.Then < b.Then) := by
 unfold Il
 by_cases h : a.First = b.First
 ·rw [decide_eq_true h]; simp [h]
 ·rw [decide_eq_false h]; simp [h]
theorem gO {a b : Aa} : Il a b = false ↔ ¬ (a.First < b.First \/ (a.First = b.First /\ a.Then < b.Then)) := by
 rw [<- Qr]; simp
theorem O4 : Nt Il where
 irrefl a := gO.2 (by omega)
 trans a b c h1 h2 := by rw [Qr] at *; omega
 tot a b h1 h2 := by
  rw [gO] at h1 h2
  cases a; cases b
  simp only at h1 h2
  congr 1 <;> omega
theorem Wa {α : Type} {l : List α} {a b : Int} (h : 0 <= a /\ a <= b /\ b <= l.length) : kF l a b = some ((l.drop a.toNat).take (b.toNat - a.toNat)) := if_pos h
theorem Ox {α : Type} (lt : α -> α -> Bool) (y : α) (l : List α) (x : α) : Gj lt (y :: l) x = bif lt y x then y :: Gj lt l x else bif lt x y then x :: y :: l else y :: l := rfl
abbrev SA (l : List Aa) : Prop := bN Il l
theorem Lt (a b : Aa) : Hi a b = some (Il a b) := by
 unfold Hi Il
 cases decide (a.First = b.First) <;> rfl
theorem Q5 (l : List Aa) (x : Aa) (hl : l.length < 1000000) (hs : SA l) : B7 l x = some (Gj Il l x) := by
 have key : ∀ (m p : List Aa), p ++ m = l -> (∀ y ∈ p, Il y x = true) -> B2 (fun q' => B7.l1 l x q') (p.length : Int) = some (p ++ Gj Il m x) := by
  intro m
  induction m with
  | nil =>
   intro p hp hlt
   have hlen : l.length = p.length := by rw [<- hp]; simp
   have e1 : B7.l1 l x (p.length : Int) = up (B7.j3 l x (p.length : Int) false) := by
    unfold B7.l1
    rw [decide_eq_false (by omega), cond_false]
    unfold B7.j2
    rw [cond_false, decide_eq_false (by omega), cond_false]
   rw [Cr e1]
   unfold B7.j3
   rw [cond_false]
   have hp' : l = p := by rw [<- hp]; simp
   rw [Wa (a := 0) (b := (p.length : Int)) (by omega), Option.bind_some]
   rw [Fk (by simp; omega), Option.bind_some, Fk (by simp; omega), Option.bind_some, Wa (by omega), Option.bind_some, Fk (by simp; omega), Option.bind_some]
   subst hp'
   simp [Gj]
  | cons y m ih =>
   intro p hp hlt
   have hy : l[p.length]? = some y := by rw [<- hp]; simp
   have hlen : p.length < l.length := (List.getElem?_eq_some_iff.1 hy).1
   cases h1 : Il y x with
   | true =>
    have e1 : B7.l1 l x (p.length : Int) = some (.next (((p ++ [y]).length : Nat) : Int)) := by
     unfold B7.l1
     rw [decide_eq_true (by omega), cond_true, E6, hy, Option.bind_some, Lt, Option.bind_some, h1]
     unfold B7.j2
     rw [cond_true, Em (by omega)]
     simp
    rw [Db e1, ih (p ++ [y]) (by simp [hp]) (fun z hz => by
     rcases List.mem_append.1 hz with hz | hz
     ·exact hlt z hz
     ·rw [List.mem_singleton.1 hz]; exact h1)]
    show _ = some (p ++ Gj Il (y :: m) x)
    rw [Ox, h1]
    simp
   | false =>
    have e1 : B7.l1 l x (p.length : Int) = up (B7.j3 l x (p.length : Int) (decide (y = x))) := by
     unfold B7.l1
     rw [decide_eq_true (by omega), cond_true, E6, hy, Option.bind_some, Lt, Option.bind_some, h1]
     unfold B7.j2
     rw [cond_false, decide_eq_true (by omega), cond_true, E6, hy, Option.bind_some]
    rw [Cr e1]
    show _ = some (p ++ Gj Il (y :: m) x)
    rw [Ox, h1, cond_false]
    unfold B7.j3
    by_cases hyx : y = x
    ·subst hyx
     rw [decide_eq_true rfl, cond_true, O4.irrefl, cond_false, hp]
    ·have h2 : Il x y = true := by
      cases h : Il x y with
      | true => rfl
      | false => exact absurd (O4.tot _ _ h1 h) hyx
     rw [decide_eq_false hyx, cond_false, h2, cond_true]
     rw [Wa (a := 0) (b := (p.length : Int)) (by omega), Option.bind_some]
     have q1 : (l.drop (0 : Int).toNat).take ((p.length : Int).toNat - (0 : Int).toNat) = p := by rw [<- hp]; simp
     have q2 : (l.drop (p.length : Int).toNat).take ((l.length : Int).toNat - (p.length : Int).toNat) = y :: m := by
      rw [List.take_of_length_le (by rw [List.length_drop]; omega), <- hp]; simp
     rw [q1, Fk (by simp; omega), Option.bind_some, Fk (by simp; omega), Option.bind_some, Wa (by omega), Option.bind_some, q2]
     have : (y :: m).length <= l.length := by rw [<- hp]; simp
     rw [Fk (by simp at *; omega), Option.bind_some]
     simp
 have := key l [] rfl (fun _ h => by cases h)
 exact this
theorem He (a b : List Aa) (h : a.length + b.length < 900000) : B5 a b = some (Ex Il (a ++ b)) := by
 have key : ∀ (m p : List Aa) (out : List Aa) (F : Int × List Aa -> Int) , True := fun _ _ _ _ => trivial
 unfold B5
 have step : ∀ (m : List Aa) (x : Aa) (acc : List Aa), True := fun _ _ _ => trivial
 have l2 : ∀ (m p acc : List Aa), p ++ m = b -> SA acc -> acc.length + m.length < 950000 -> B2 (fun q' => B5.l2 b q'.1 q'.2) (acc, (p.length : Int)) = some (m.foldl (Gj Il) acc) := by
  intro m
  induction m with
  | nil =>
   intro p acc hp hs hl
   have : b.length = p.length := by rw [<- hp]; simp
   refine Cr (x := some acc) ?_
   show B5.l2 b acc (p.length : Int) = _
   unfold B5.l2
   rw [decide_eq_false (by omega), cond_false]
  | cons y m ih =>
   intro p acc hp hs hl
   rw [List.length_cons] at hl
   have hy : b[p.length]? = some y := by rw [<- hp]; simp
   have hlen : p.length < b.length := (List.getElem?_eq_some_iff.1 hy).1
   have hq := Nx Il y acc
   have e1 : B5.l2 b acc (p.length : Int) = some (.next (Gj Il acc y, (((p ++ [y]).length : Nat) : Int))) := by
    unfold B5.l2
    rw [decide_eq_true (by omega), cond_true, E6, hy, Option.bind_some, Q5 acc y (by omega) hs, Option.bind_some, Em (by omega)]
    simp
   rw [Db (body := fun q' => B5.l2 b q'.1 q'.2) e1, ih (p ++ [y]) _ (by simp [hp]) (Np O4 hs) (by omega)]
   rfl
 have l1 : ∀ (m p acc : List Aa), p ++ m = a -> SA acc -> acc.length + m.length + b.length < 950000 -> B2 (fun q' => B5.l1 a b q'.1 q'.2) (acc, (p.length : Int)) = some (b.foldl (Gj Il) (m.foldl (Gj Il) acc)) := by
  intro m
  induction m with
  | nil =>
   intro p acc hp hs hl
   have : a.length = p.length := by rw [<- hp]; simp
   refine Cr (x := some (b.foldl (Gj Il) acc)) ?_
   show B5.l1 a b acc (p.length : Int) = _
   unfold B5.l1
   rw [decide_eq_false (by omega), cond_false]
   have := l2 b [] acc rfl hs (by simp at hl; omega)
   rw [show ((([] : List Aa).length : Nat) : Int) = 0 from rfl] at this
   rw [this]
  | cons y m ih =>
   intro p acc hp hs hl
   rw [List.length_cons] at hl
   have hy : a[p.length]? = some y := by rw [<- hp]; simp
   have hlen : p.length < a.length := (List.getElem?_eq_some_iff.1 hy).1
   have hq := Nx Il y acc
   have e1 : B5.l1 a b acc (p.length : Int) = some (.next (Gj Il acc y, (((p ++ [y]).length : Nat) : Int))) := by
    unfold B5.l1
    rw [decide_eq_true (by omega), cond_true, E6, hy, Option.bind_some, Q5 acc y (by omega) hs, Option.bind_some, Em (by omega)]
    simp
   rw [Db (body := fun q' => B5.l1 a b q'.1 q'.2) e1, ih (p ++ [y]) _ (by simp [hp]) (Np O4 hs) (by omega)]
   rfl
 have := l1 a [] [] rfl .nil (by simp; omega)
 rw [show ((([] : List Aa).length : Nat) : Int) = 0 from rfl] at this
 rw [this]
 unfold Ex
 rw [List.foldl_append]
theorem bS (x y : Int) : Fb x y = some (Wq x y) := by
 unfold Fb Gw Wq
 by_cases h1 : x < y
 ·simp [h1]
 ·by_cases h2 : y < x <;> simp [h1, h2]
theorem kY (x y : Int) : Dk [x, y] = some (bif !decide (x = 0) then x else y) := by
 unfold Dk
 by_cases hx : x = 0
 ·subst hx
  have e1 : Dk.l1 [0, y] 0 = some (.next 1) := rfl
  rw [Db (body := fun q' => Dk.l1 [0, y] q') e1]
  by_cases hy : y = 0
  ·subst hy
   have e2 : Dk.l1 [0, 0] 1 = some (.next 2) := rfl
   have e3 : Dk.l1 [0, 0] 2 = up (some 0) := rfl
   rw [Db (body := fun q' => Dk.l1 [0, 0] q') e2, Cr e3]
   rfl
  ·have e2 : Dk.l1 [0, y] 1 = up (some y) := by
    show cond _ (Option.bind (some y) _) _ = _
    show cond (!decide (y = 0)) _ _ = _
    rw [decide_eq_false hy]; rfl
   rw [Cr e2]
   rfl
 ·have e1 : Dk.l1 [x, y] 0 = up (some x) := by
   show cond (!decide (x = 0)) _ _ = _
   rw [decide_eq_false hx]; rfl
  rw [Cr e1, decide_eq_false hx]
  rfl
theorem aQ (a b : List Aa) (h : a.length < 1000000) : Di a b = some (decide (a = b)) := by
 unfold Di
 by_cases hl : a.length = b.length
 ·rw [decide_eq_true (show (a.length : Int) = (b.length : Int) by omega), Bool.not_true, cond_false]
  have key : ∀ (m n p : List Aa), p ++ m = a -> p ++ n = b -> B2 (fun q' => Di.l1 a b q') (p.length : Int) = some (decide (m = n)) := by
   intro m
   induction m with
   | nil =>
    intro n p h1 h2
    have hn : n = [] := List.eq_nil_of_length_eq_zero (by have e1 := congrArg List.length h1; have e2 := congrArg List.length h2; simp at e1 e2; omega)
    subst hn
    refine Cr (x := some true) ?_
    show Di.l1 a b (p.length : Int) = _
    unfold Di.l1
    rw [decide_eq_false (by rw [<- h1]; simp), cond_false]
   | cons x m ih =>
    intro n p h1 h2
    cases n with
    | nil => have e1 := congrArg List.length h1; have e2 := congrArg List.length h2; simp at e1 e2; omega
    | cons y n =>
     have hx : a[p.length]? = some x := by rw [<- h1]; simp
     have hy : b[p.length]? = some y := by rw [<- h2]; simp
     have hlen := (List.getElem?_eq_some_iff.1 hx).1
     by_cases hxy : x = y
     ·subst hxy
      have e1 : Di.l1 a b (p.length : Int) = some (.next (((p ++ [x]).length : Nat) : Int)) := by
       unfold Di.l1
       rw [decide_eq_true (by omega), cond_true, E6, hx, Option.bind_some, E6, hy, Option.bind_some, decide_eq_true rfl, Bool.not_true, cond_false, Em (by omega)]
       simp
      rw [Db e1, ih n (p ++ [x]) (by simp [h1]) (by simp [h2])]
      simp
     ·have e1 : Di.l1 a b (p.length : Int) = up (some false) := by
       unfold Di.l1
       rw [decide_eq_true (by omega), cond_true, E6, hx, Option.bind_some, E6, hy, Option.bind_some, decide_eq_false hxy, Bool.not_false, cond_true]
      rw [Cr e1]
      simp [hxy]
  exact key a b [] rfl rfl
 ·rw [decide_eq_false (show ¬ (a.length : Int) = (b.length : Int) by omega), Bool.not_false, cond_true, decide_eq_false (fun e => hl (by rw [e]))]
structure Mx (n : Nat) (M : List (List Bool)) (w : Nat -> Nat -> Bool) : Prop where
 len : M.length = n
 row : ∀ i, i < n -> ∃ r, M[i]? = some r /\ r.length = n /\ ∀ j, j < n -> r[j]? = some (w i j)
theorem Mx.congr {n : Nat} {M : List (List Bool)} {w w' : Nat -> Nat -> Bool} (h : Mx n M w) (e : ∀ i j, i < n -> j < n -> w i j = w' i j) : Mx n M w' :=
 ⟨h.len, fun i hi => by obtain ⟨r, h1, h2, h3⟩ := h.row i hi; exact ⟨r, h1, h2, fun j hj => by rw [h3 j hj, e i j hi hj]⟩⟩
theorem Mx.get {n : Nat} {M : List (List Bool)} {w : Nat -> Nat -> Bool} (h : Mx n M w) {i : Nat} (hi : i < n) : ∃ r, Bz M (i : Int) = some r /\ r.length = n /\ M[i]? = some r /\ ∀ j, j < n -> Bz r (j : Int) = some (w i j) := by
 obtain ⟨r, h1, h2, h3⟩ := h.row i hi
 exact ⟨r, E6.trans h1, h2, h1, fun j hj => E6.trans (h3 j hj)⟩
def gQ (w : Nat -> Nat -> Bool) (i j : Nat) : Nat -> Nat -> Bool := fun a b => decide (a = i /\ b = j) || w a b
theorem Mx.set {n : Nat} {M : List (List Bool)} {w : Nat -> Nat -> Bool} (h : Mx n M w) {i j : Nat} (hi : i < n) (hj : j < n) {r : List Bool} (hr : M[i]? = some r) : Mx n (Cg M i (Cg r j true)) (gQ w i j) := by
 refine ⟨by unfold Cg; rw [List.length_set]; exact h.len, fun a ha => ?_⟩
 unfold Cg
 by_cases e : a = i
 ·subst e
  obtain ⟨r', h1, h2, h3⟩ := h.row a ha
  rw [hr] at h1
  injection h1 with h1
  subst h1
  refine ⟨r.set j true, List.getElem?_set_self (by rw [h.len]; exact ha), by rw [List.length_set]; exact h2, fun b hb => ?_⟩
  unfold gQ
  by_cases e2 : b = j
  ·subst e2
   rw [List.getElem?_set_self (by omega), decide_eq_true ⟨rfl, rfl⟩]
   rfl
  ·rw [List.getElem?_set_ne (fun e => e2 e.symm), h3 b hb, decide_eq_false (fun e => e2 e.2)]
   rfl
 ·obtain ⟨r', h1, h2, h3⟩ := h.row a ha
  refine ⟨r', by rw [List.getElem?_set_ne (fun x => e x.symm)]; exact h1, h2, fun b hb => ?_⟩
  unfold gQ
  rw [h3 b hb, decide_eq_false (fun x => e x.1)]
  rfl
def Iw (l : List Aa) : Nat -> Nat -> Bool := fun a b => l.any fun r => decide (r = ⟨(a : Int), (b : Int)⟩)
def hO (n : Nat) (l : List Aa) : Prop := ∀ r ∈ l, 0 <= r.First /\ r.First < n /\ 0 <= r.Then /\ r.Then < n
theorem Kt {l : List Aa} {a b : Nat} : Iw l a b = true ↔ (⟨(a : Int), (b : Int)⟩ : Aa) ∈ l := by
 unfold Iw
 rw [List.any_eq_true]
 constructor
 ·rintro ⟨r, h1, h2⟩
  rw [of_decide_eq_true h2] at h1; exact h1
 ·intro h
  exact ⟨_, h, decide_eq_true rfl⟩
theorem Mz {n : Nat} {l : List Aa} (h : hO n l) {a b : Nat} (hab : Iw l a b = true) : a < n /\ b < n := by
 obtain ⟨h1, h2, h3, h4⟩ := h _ (Kt.1 hab)
 simp only at h1 h2 h3 h4
 omega
def cur (k : Nat) (w : Nat -> Nat -> Bool) (i j : Nat) : Nat -> Nat -> Bool := fun a b => if a < i \/ (a = i /\ b < j) then V6 k w a b else w a b
theorem lD {k : Nat} {w : Nat -> Nat -> Bool} {i : Nat} : V6 k w i k = w i k := by unfold V6; cases w i k <;> simp
theorem aR {k : Nat} {w : Nat -> Nat -> Bool} {j : Nat} : V6 k w k j = w k j := by unfold V6; cases w k j <;> simp
theorem jX {k : Nat} {w : Nat -> Nat -> Bool} {i j a : Nat} : cur k w i j a k = w a k := by unfold cur; split; exact lD; rfl
theorem jE {k : Nat} {w : Nat -> Nat -> Bool} {i j b : Nat} : cur k w i j k b = w k b := by unfold cur; split; exact aR; rfl
theorem gL {k : Nat} {w : Nat -> Nat -> Bool} {i j : Nat} : cur k w i j i j = w i j := by unfold cur; rw [if_neg (by omega)]
theorem X3 {k : Nat} {w : Nat -> Nat -> Bool} {i j a b : Nat} : cur k w i (j + 1) a b = if a = i /\ b = j then V6 k w i j else cur k w i j a b := by
 unfold cur
 by_cases e : a = i /\ b = j
 ·rw [if_pos e, e.1, e.2, if_pos (by omega)]
 ·rw [if_neg e]
  by_cases h : a < i \/ (a = i /\ b < j)
  ·rw [if_pos h, if_pos (by omega)]
  ·rw [if_neg h, if_neg (by omega)]
theorem S0 {n : Nat} (hn : n <= 1000) {l : List Aa} (hl : hO n l) (hlen : l.length <= 1000000) : Ok (A7 (n : Int) l) (fun M => Mx n M (Ew (Iw l) n)) := by
 have l6 : ∀ (k i : Nat) (w : Nat -> Nat -> Bool), k < n -> i < n -> ∀ (s : Int × List (List Bool)), (∃ j : Nat, s.1 = (j : Int) /\ j <= n /\ Mx n s.2 (cur k w i j)) ->
   Ok (B2 (fun q' => A7.l6 (n : Int) (k : Int) (i : Int) q'.1 q'.2) s) (Ub (fun s' : Int × List (List Bool) => (s'.1 = ((i + 1 : Nat) : Int) /\ Mx n s'.2 (cur k w (i + 1) 0)) /\ True) (fun _ => False)) := by
  intro k i w hk hi s hs
  refine Ok.loop (fun s : Int × List (List Bool) => ∃ j : Nat, s.1 = (j : Int) /\ j <= n /\ Mx n s.2 (cur k w i j)) (fun s => n - s.1.toNat) ?_ hs
  rintro ⟨_, M⟩ ⟨j, rfl, hj, hM⟩
  show Ok (A7.l6 (n : Int) (k : Int) (i : Int) (j : Int) M) _
  unfold A7.l6
  refine Ok.cond (fun h => ?_) (fun h => ?_)
  ·have hjn : j < n := by have := of_decide_eq_true h; omega
   obtain ⟨r, a1, a2, a3, a4⟩ := hM.get hi
   obtain ⟨r2, b1, b2, b3, b4⟩ := hM.get hk
   have e1 : W ((j : Int) + 1) = ((j + 1 : Nat) : Int) := by rw [Em (by omega)]; omega
   rw [a1, Option.bind_some, a4 k hk, Option.bind_some, jX]
   have fin : ∀ b : Bool, (b = true -> w i k = true /\ w k j = true) -> (b = false -> ¬ (w i k = true /\ w k j = true)) -> Ok (A7.j7 (i : Int) (j : Int) M b) (Ub (fun s' : Int × List (List Bool) => (∃ j : Nat, s'.1 = (j : Int) /\ j <= n /\ Mx n s'.2 (cur k w i j)) /\ n - s'.1.toNat < n - ((j : Int)).toNat) (Ub (fun s' : Int × List (List Bool) => (s'.1 = ((i + 1 : Nat) : Int) /\ Mx n s'.2 (cur k w (i + 1) 0)) /\ True) (fun _ => False))) := by
    intro b hb1 hb2
    unfold A7.j7
    refine Ok.cond (fun h => ?_) (fun h => ?_)
    ·obtain ⟨q1, q2⟩ := hb1 h
     rw [a1, Option.bind_some, a4 j hjn, Option.bind_some]
     unfold A7.j8
     rw [e1]
     refine Ok.ret ⟨⟨j + 1, rfl, by omega, ?_⟩, by show n - ((j + 1 : Nat) : Int).toNat < _; omega⟩
     have := hM.set (j := j) hi hjn a3
     rw [show (i : Int).toNat = i from rfl, show (j : Int).toNat = j from rfl]
     refine this.congr fun a b _ _ => ?_
     rw [X3]
     unfold gQ
     by_cases e : a = i /\ b = j
     ·rw [decide_eq_true e, if_pos e]
      unfold V6
      rw [q1, q2]; simp
     ·rw [decide_eq_false e, if_neg e]; rfl
    ·have q := hb2 h
     unfold A7.j8
     rw [e1]
     refine Ok.ret ⟨⟨j + 1, rfl, by omega, hM.congr fun a b _ _ => ?_⟩, by show n - ((j + 1 : Nat) : Int).toNat < _; omega⟩
     rw [X3]
     by_cases e : a = i /\ b = j
     ·rw [if_pos e, e.1, e.2, gL]
      unfold V6
      cases h1 : w i k with
      | false => simp
      | true =>
       cases h2 : w k j with
       | false => simp
       | true => exact absurd ⟨h1, h2⟩ q
     ·rw [if_neg e]
   refine Ok.cond (fun h1 => ?_) (fun h1 => ?_)
   ·rw [b1, Option.bind_some, b4 j hjn, Option.bind_some, jE]
    exact fin _ (fun h2 => ⟨h1, h2⟩) (fun h2 h3 => by rw [h3.2] at h2; cases h2)
   ·exact fin _ (fun h2 => by cases h2) (fun _ h3 => by rw [h3.1] at h1; cases h1)
  ·have hjn : j = n := by have := of_decide_eq_false h; omega
   subst hjn
   refine Ok.up (Ok.ret ⟨⟨?_, hM.congr fun a b ha hb => ?_⟩, trivial⟩)
   ·rw [Em (by omega)]; omega
   ·unfold cur
    by_cases h : a < i \/ (a = i /\ b < j)
    ·rw [if_pos h, if_pos (by omega)]
    ·rw [if_neg h, if_neg (by omega)]
 have l5 : ∀ (k : Nat) (w : Nat -> Nat -> Bool), k < n -> ∀ M, Mx n M w -> Ok (B2 (fun q' => A7.l5 (n : Int) (k : Int) q'.1 q'.2) (0, M)) (Ub (fun s' : Int × List (List Bool) => s'.1 = ((k + 1 : Nat) : Int) /\ Mx n s'.2 (V6 k w)) (fun _ => False)) := by
  intro k w hk M hM
  refine Ok.loop (fun s : Int × List (List Bool) => ∃ i : Nat, s.1 = (i : Int) /\ i <= n /\ Mx n s.2 (cur k w i 0)) (fun s => n - s.1.toNat) ?_ ⟨0, rfl, Nat.zero_le _, hM.congr fun a b _ _ => by unfold cur; rw [if_neg (by omega)]⟩
  rintro ⟨_, M⟩ ⟨i, rfl, hi, hM⟩
  show Ok (A7.l5 (n : Int) (k : Int) (i : Int) M) _
  unfold A7.l5
  refine Ok.cond (fun h => ?_) (fun h => ?_)
  ·have hin : i < n := by have := of_decide_eq_true h; omega
   refine (l6 k i w hk hin (0, M) ⟨0, rfl, Nat.zero_le _, hM⟩).mono fun o ho => ?_
   cases o with
   | done r => exact ho.elim
   | next s =>
    obtain ⟨⟨h1, h2⟩, -⟩ := ho
    exact ⟨⟨i + 1, h1, hin, h2⟩, by show n - s.1.toNat < n - ((i : Int)).toNat; rw [h1]; omega⟩
  ·have hin : i = n := by have := of_decide_eq_false h; omega
   subst hin
   refine Ok.up (Ok.ret ⟨?_, hM.congr fun a b ha hb => ?_⟩)
   ·rw [Em (by omega)]; omega
   ·unfold cur; rw [if_pos (.inl ha)]
 have l4 : ∀ M, Mx n M (Iw l) -> Ok (B2 (fun q' => A7.l4 (n : Int) q'.1 q'.2) (0, M)) (fun M => Mx n M (Ew (Iw l) n)) := by
  intro M hM
  refine Ok.loop (fun s : Int × List (List Bool) => ∃ k : Nat, s.1 = (k : Int) /\ k <= n /\ Mx n s.2 (Ew (Iw l) k)) (fun s => n - s.1.toNat) ?_ ⟨0, rfl, Nat.zero_le _, hM⟩
  rintro ⟨_, M⟩ ⟨k, rfl, hk, hM⟩
  show Ok (A7.l4 (n : Int) (k : Int) M) _
  unfold A7.l4
  refine Ok.cond (fun h => ?_) (fun h => ?_)
  ·have hkn : k < n := by have := of_decide_eq_true h; omega
   refine (l5 k _ hkn M hM).mono fun o ho => ?_
   cases o with
   | done r => exact ho.elim
   | next s =>
    obtain ⟨h1, h2⟩ := ho
    exact ⟨⟨k + 1, h1, hkn, h2⟩, by show n - s.1.toNat < n - ((k : Int)).toNat; rw [h1]; omega⟩
  ·have hkn : k = n := by have := of_decide_eq_false h; omega
   subst hkn
   exact Ok.up (Ok.ret hM)
 have l3 : ∀ M, Mx n M (fun _ _ => false) -> Ok (B2 (fun q' => A7.l3 (n : Int) l q'.1 q'.2) (0, M)) (fun M => Mx n M (Ew (Iw l) n)) := by
  intro M hM
  refine Ok.loop (fun s : Int × List (List Bool) => ∃ i : Nat, s.1 = (i : Int) /\ i <= l.length /\ Mx n s.2 (Iw (l.take i))) (fun s => l.length - s.1.toNat) ?_ ⟨0, rfl, Nat.zero_le _, hM.congr fun a b _ _ => rfl⟩
  rintro ⟨_, M⟩ ⟨i, rfl, hi, hM⟩
  show Ok (A7.l3 (n : Int) l (i : Int) M) _
  unfold A7.l3
  refine Ok.cond (fun h => ?_) (fun h => ?_)
  ·have hil : i < l.length := by have := of_decide_eq_true h; omega
   obtain ⟨r, hr⟩ : ∃ r, l[i]? = some r := ⟨_, List.getElem?_eq_getElem hil⟩
   obtain ⟨q1, q2, q3, q4⟩ := hl r (List.mem_of_getElem? hr)
   obtain ⟨a, ha⟩ : ∃ a : Nat, r.First = (a : Int) := ⟨r.First.toNat, by omega⟩
   obtain ⟨b, hb⟩ : ∃ b : Nat, r.Then = (b : Int) := ⟨r.Then.toNat, by omega⟩
   obtain ⟨row, a1, a2, a3, a4⟩ := hM.get (i := a) (by omega)
   rw [E6, hr, Option.bind_some, ha, a1, Option.bind_some, hb, a4 b (by omega), Option.bind_some]
   refine Ok.ret ⟨⟨i + 1, by rw [Em (by omega)]; omega, hil, ?_⟩, by show l.length - (W ((i : Int) + 1)).toNat < l.length - ((i : Int)).toNat; rw [Em (by omega)]; omega⟩
   refine (hM.set (j := b) (by omega) (by omega) a3).congr fun x y _ _ => ?_
   unfold gQ Iw
   rw [Dq hr, List.any_append, Bool.or_comm]
   congr 1
   simp only [List.any_cons, List.any_nil, Bool.or_false]
   have : r = ⟨(a : Int), (b : Int)⟩ := by rw [<- ha, <- hb]
   rw [this]
   by_cases e : x = a /\ y = b
   ·rw [decide_eq_true e, e.1, e.2, decide_eq_true rfl]
   ·rw [decide_eq_false e, decide_eq_false]
    intro e2
    injection e2 with e3 e4
    exact e ⟨by omega, by omega⟩
  ·have hil : i = l.length := by have := of_decide_eq_false h; omega
   subst hil
   rw [List.take_length] at hM
   exact Ok.up (l4 M hM)
 unfold A7
 refine Ok.loop (fun s : Int × List (List Bool) => ∃ i : Nat, s.1 = (i : Int) /\ i <= n /\ s.2 = List.replicate i (List.replicate n false)) (fun s => n - s.1.toNat) ?_ ⟨0, rfl, Nat.zero_le _, rfl⟩
 rintro ⟨_, _⟩ ⟨i, rfl, hi, rfl⟩
 show Ok (A7.l2 (n : Int) l (i : Int) (List.replicate i (List.replicate n false))) _
 unfold A7.l2
 refine Ok.cond (fun h => ?_) (fun h => ?_)
 ·have hin : i < n := by have := of_decide_eq_true h; omega
  have e0 : Uz 1 (n : Int) false = some (List.replicate n false) := by
   unfold Uz
   rw [if_pos (by omega)]
   rfl
  rw [e0, Option.bind_some, Fk (by simp; omega), Option.bind_some]
  refine Ok.ret ⟨⟨i + 1, by rw [Em (by omega)]; omega, hin, ?_⟩, by show n - (W ((i : Int) + 1)).toNat < n - ((i : Int)).toNat; rw [Em (by omega)]; omega⟩
  show List.replicate i (List.replicate n false) ++ [List.replicate n false] = _
  rw [List.replicate_succ']
 ·have hin : i = n := by have := of_decide_eq_false h; omega
  subst hin
  refine Ok.up (l3 _ ⟨by simp, fun a ha => ⟨List.replicate i false, by simp [ha], by simp, fun b hb => by simp [hb]⟩⟩)
structure pE (n : Nat) (l : List Aa) : Prop where
 asc : SA l
 len : l.length <= 200
 fwd : ∀ r ∈ l, 0 <= r.First /\ r.First < r.Then /\ r.Then < n
theorem H5 {d : Ai} (h : aH d) (n : Nat) (hn : 1 <= n) (hn2 : n <= 50) : Ok (B9 d (n : Int)) (fun y => pE n y.1 /\ aH y.2) := by
 unfold B9
 rw [Em (x := 2 * (n : Int)) (by omega), Em (by omega)]
 refine Ok.bind (Sx h _ (by omega) (by omega)) fun y hy => ?_
 refine Ok.loop (fun s : List Aa × Int × Ai => ((SA s.1 /\ ∀ r ∈ s.1, 0 <= r.First /\ r.First < r.Then /\ r.Then < n) /\ (s.1.length : Int) + s.2.1 <= 2 * n) /\ 0 <= s.2.1 /\ aH s.2.2) (fun s => s.2.1.toNat) ?_ ⟨⟨⟨.nil, fun r hr => by cases hr⟩, by have := hy.1; show ((0 : Nat) : Int) + y.1 <= _; omega⟩, by have := hy.1; show 0 <= y.1; omega, hy.2⟩
 rintro ⟨l, k, d1⟩ ⟨⟨⟨h1, h2⟩, h3⟩, h4, h5⟩
 simp only at h1 h2 h3 h4 h5
 show Ok (B9.l1 (n : Int) l k d1) _
 unfold B9.l1
 have done_ : Ok (B9.j2 (n : Int) l k d1 false) (Ub (fun s' : List Aa × Int × Ai => (((SA s'.1 /\ ∀ r ∈ s'.1, 0 <= r.First /\ r.First < r.Then /\ r.Then < n) /\ (s'.1.length : Int) + s'.2.1 <= 2 * n) /\ 0 <= s'.2.1 /\ aH s'.2.2) /\ s'.2.1.toNat < k.toNat) (fun y => pE n y.1 /\ aH y.2)) :=
  Ok.up (Ok.ret ⟨⟨h1, by show l.length <= 200; omega, h2⟩, h5⟩)
 refine Ok.cond (fun hk => ?_) (fun _ => done_)
 have hk := of_decide_eq_true hk
 cases hb : decide (1 < (n : Int)) with
 | false => exact done_
 | true =>
  unfold B9.j2
  rw [cond_true]
  refine Ok.bind (Sx h5 _ (by omega) (by omega)) fun y2 hy2 => ?_
  refine Ok.bind (Sx hy2.2 _ (by omega) (by omega)) fun y3 hy3 => ?_
  refine Ok.cond (fun hlt => ?_) (fun _ => ?_)
  ·have hlt := of_decide_eq_true hlt
   rw [He _ _ (by simp; omega), Option.bind_some]
   unfold B9.j3
   rw [Em (by omega)]
   have hlen := L8 Il (l ++ [(⟨y2.1, y3.1⟩ : Aa)])
   rw [List.length_append] at hlen
   simp only [List.length_cons, List.length_nil] at hlen
   refine Ok.ret ⟨⟨⟨⟨Ki O4 _, fun r hr => ?_⟩, by show ((Ex Il _).length : Int) + (k - 1) <= _; omega⟩, by show 0 <= k - 1; omega, hy3.2⟩, by show (k - 1).toNat < k.toNat; omega⟩
   rcases List.mem_append.1 ((Fa O4).1 hr) with hr | hr
   ·exact h2 r hr
   ·rw [List.mem_singleton.1 hr]
    exact ⟨hy2.1.1, hlt, hy3.1.2⟩
  ·unfold B9.j3
   rw [Em (by omega)]
   exact Ok.ret ⟨⟨⟨⟨h1, h2⟩, by show (l.length : Int) + (k - 1) <= _; omega⟩, by show 0 <= k - 1; omega, hy3.2⟩, by show (k - 1).toNat < k.toNat; omega⟩
theorem pE.inr {n : Nat} {l : List Aa} (h : pE n l) : hO n l := fun r hr => by have := h.fwd r hr; omega
theorem Uo {t : List Int} (h : t.length <= 400) : Ok (Gl t) aH := Ok.ret ⟨by unfold Lo; show t.length < _; omega, Int.le_refl _, by show (0 : Int) <= (t.length : Int); omega⟩
section
variable {κ ν : Type} [DecidableEq κ]
theorem Jj (p : κ × ν) (l : List (κ × ν)) (x : κ) (z : ν) : Ff (p :: l) x z = if p.1 = x then p.2 else Ff l x z := by
 unfold Ff
 by_cases h : p.1 = x <;> simp [h]
theorem Xw (p : κ × ν) (l : List (κ × ν)) (x : κ) (v : ν) : Hw (p :: l) x v = if p.1 = x then (x, v) :: l else p :: Hw l x v := by
 unfold Hw
 by_cases h : p.1 = x
 ·rw [List.findIdx?_cons, decide_eq_true h, if_pos h]; rfl
 ·rw [List.findIdx?_cons, decide_eq_false h, if_neg h]
  cases hf : l.findIdx? (fun p => decide (p.1 = x)) <;> simp
theorem T8 (x : κ) (v : ν) (y : κ) (z : ν) : ∀ l : List (κ × ν), Ff (Hw l x v) y z = if x = y then v else Ff l y z
 | [] => by
  show Ff [(x, v)] y z = _
  rw [Jj]
 | p :: l => by
  rw [Xw]
  by_cases h : p.1 = x
  ·rw [if_pos h, Jj, Jj]
   by_cases e : x = y
   ·rw [if_pos e, if_pos e]
   ·rw [if_neg e, if_neg e, if_neg (by rw [h]; exact e)]
  ·rw [if_neg h, Jj, T8 x v y z l, Jj]
   by_cases e : x = y
   ·rw [if_pos e, if_pos e, if_neg (by rw [<- e]; exact h)]
   ·rw [if_neg e, if_neg e]
end
end
section
open Go
abbrev Ik : Nat := 4294967296
theorem Tx {x : Int} (h0 : 0 <= x) (h1 : x < 4294967296) : IntKind.wrap .u32 x = x := by
 have : IntKind.wrap .u32 x = x % 4294967296 := rfl
 rw [this]
 exact Int.emod_eq_of_lt h0 h1
theorem Lg {a : Nat} (h : a < Ik) : (BitVec.ofInt 32 (a : Int)).toNat = a := by
 rw [BitVec.toNat_ofInt]
 show ((a : Int) % ((4294967296 : Nat) : Int)).toNat = a
 have : (a : Int) % ((4294967296 : Nat) : Int) = a := Int.emod_eq_of_lt (by omega) (by show (a : Int) < 4294967296; have : a < 4294967296 := h; omega)
 rw [this]; simp
theorem Xs {a b : Nat} (ha : a < Ik) (hb : b < Ik) : Ry .u32 (a : Int) (b : Int) = ((a ||| b : Nat) : Int) := by
 have hl : a ||| b < 2 ^ 32 := Nat.or_lt_two_pow ha hb
 show IntKind.wrap .u32 ((BitVec.ofInt 32 (a : Int) ||| BitVec.ofInt 32 (b : Int)).toNat : Int) = _
 rw [BitVec.toNat_or, Lg ha, Lg hb]
 exact Tx (by omega) (by have : a ||| b < 4294967296 := hl; omega)
theorem Z8 {a b : Nat} (ha : a < Ik) (hb : b < Ik) : Oa .u32 (a : Int) (b : Int) = ((a &&& b : Nat) : Int) := by
 have hl : a &&& b <= a := Nat.and_le_left
 show IntKind.wrap .u32 ((BitVec.ofInt 32 (a : Int) &&& BitVec.ofInt 32 (b : Int)).toNat : Int) = _
 rw [BitVec.toNat_and, Lg ha, Lg hb]
 exact Tx (by omega) (by have : a < 4294967296 := ha; omega)
theorem pF {a b : Nat} (ha : a < Ik) (hb : b < Ik) : Oz .u32 (a : Int) (b : Int) = ((a ^^^ b : Nat) : Int) := by
 have hl : a ^^^ b < 2 ^ 32 := Nat.xor_lt_two_pow ha hb
 show IntKind.wrap .u32 ((BitVec.ofInt 32 (a : Int) ^^^ BitVec.ofInt 32 (b : Int)).toNat : Int) = _
 rw [BitVec.toNat_xor, Lg ha, Lg hb]
 exact Tx (by omega) (by have : a ^^^ b < 4294967296 := hl; omega)
theorem Su {a i : Nat} (ha : a < Ik) (hi : 32 <= i) : a.testBit i = false := Nat.testBit_lt_two_pow (Nat.lt_of_lt_of_le ha (Nat.pow_le_pow_right Nat.zero_lt_two hi))
def U3 (a b : Nat) : Nat := a &&& (2 ^ 32 - (b + 1))
theorem W6 {a b : Nat} (ha : a < Ik) (hb : b < Ik) (i : Nat) : (U3 a b).testBit i = (a.testBit i && !b.testBit i) := by
 unfold U3
 rw [Nat.testBit_and, Nat.testBit_two_pow_sub_succ hb]
 by_cases h : i < 32
 ·rw [decide_eq_true h, Bool.true_and]
 ·have : a.testBit i = false := Su ha (by omega)
  rw [this, Bool.false_and, Bool.false_and]
theorem Y9 {a b : Nat} (ha : a < Ik) : U3 a b < Ik := Nat.lt_of_le_of_lt Nat.and_le_left ha
theorem qN {b : Nat} (hb : b < Ik) : (~~~(BitVec.ofInt 32 (b : Int))).toNat = 2 ^ 32 - (b + 1) := by
 rw [BitVec.toNat_not, Lg hb]
 omega
theorem Uk {a b : Nat} (ha : a < Ik) (hb : b < Ik) : G4 .u32 (a : Int) (b : Int) = ((U3 a b : Nat) : Int) := by
 have hl := Y9 (b := b) ha
 show IntKind.wrap .u32 ((BitVec.ofInt 32 (a : Int) &&& ~~~(BitVec.ofInt 32 (b : Int))).toNat : Int) = _
 rw [BitVec.toNat_and, Lg ha, qN hb]
 exact Tx (Int.natCast_nonneg _) (by have : U3 a b < 4294967296 := hl; show ((U3 a b : Nat) : Int) < _; omega)
theorem K6 {i : Nat} (h : i < 32) : 2 ^ i < Ik := Nat.pow_lt_pow_right (by omega) h
theorem Q3 {i : Nat} (h : i < 32) : L6 .u32 1 (i : Int) = some ((2 ^ i : Nat) : Int) := by
 unfold L6
 rw [if_neg (by omega)]
 have e : min ((i : Int)).toNat (IntKind.bits .u32) = i := by show min ((i : Int)).toNat 32 = i; simp; omega
 rw [e, Int.one_mul]
 have h1 := K6 h
 have e2 : ((2 : Int) ^ i) = ((2 ^ i : Nat) : Int) := by simp
 rw [e2, Tx (Int.natCast_nonneg _) (by have : 2 ^ i < 4294967296 := h1; show ((2 ^ i : Nat) : Int) < _; omega)]
theorem eQ {a i : Nat} (h : i < 32) : Kb .u32 (a : Int) (i : Int) = some ((a / 2 ^ i : Nat) : Int) := by
 unfold Kb
 rw [if_neg (by omega)]
 have e : min ((i : Int)).toNat (IntKind.bits .u32) = i := by show min ((i : Int)).toNat 32 = i; simp; omega
 rw [e]
 have e2 : ((2 : Int) ^ i) = ((2 ^ i : Nat) : Int) := by simp
 rw [e2]
 exact congrArg some (Int.ofNat_fdiv a (2 ^ i)).symm
theorem jU {a i : Nat} : a / 2 ^ i &&& 1 = bif a.testBit i then 1 else 0 := by
 rw [Nat.and_one_is_mod, Nat.testBit_eq_decide_div_mod_eq]
 by_cases h : a / 2 ^ i % 2 = 1
 ·rw [decide_eq_true h, h]; rfl
 ·rw [decide_eq_false h]
  show _ = 0
  omega
theorem W7 {a i : Nat} (ha : a < Ik) : Oa .u32 ((a / 2 ^ i : Nat) : Int) 1 = bif a.testBit i then 1 else 0 := by
 have hl : a / 2 ^ i < Ik := Nat.lt_of_le_of_lt (Nat.div_le_self _ _) ha
 have := Z8 hl (show 1 < Ik by decide)
 rw [show ((1 : Nat) : Int) = 1 from rfl] at this
 rw [this, jU]
 cases a.testBit i <;> rfl
theorem aI {a i : Nat} (ha : a < Ik) (h : i < 32) : Ev (a : Int) (i : Int) = some (a.testBit i) := by
 unfold Ev
 rw [eQ h, Option.bind_some, W7 ha]
 cases a.testBit i <;> rfl
def kL (a k : Nat) : Prop := a.testBit k = true /\ ∀ j, j < k -> a.testBit j = false
theorem Xe {a : Nat} (h : a ≠ 0) (ha : a < Ik) : ∃ k, k < 32 /\ kL a k := by
 obtain ⟨i, hi⟩ := Nat.exists_testBit_of_ne_zero h
 obtain ⟨k, hk⟩ : ∃ k, kL a k := by
  induction i using Nat.strongRecOn with
  | _ i ih =>
   by_cases hj : ∃ j, j < i /\ a.testBit j = true
   ·obtain ⟨j, h1, h2⟩ := hj
    exact ih j h1 h2
   ·exact ⟨i, hi, fun j hj' => by
     cases hb : a.testBit j with
     | false => rfl
     | true => exact (hj ⟨j, hj', hb⟩).elim⟩
 refine ⟨k, ?_, hk⟩
 rcases Nat.lt_or_ge k 32 with h1 | h1
 ·exact h1
 ·have := Su ha h1
  have h2 := hk.1
  rw [this] at h2
  cases h2
theorem iM {a k k' : Nat} (h : kL a k) (h' : kL a k') : k = k' := by
 rcases Nat.lt_trichotomy k k' with h1 | h1 | h1
 ·have := h'.2 k h1
  rw [h.1] at this; cases this
 ·exact h1
 ·have := h.2 k' h1
  rw [h'.1] at this; cases this
theorem jP {a k : Nat} (ha : a < Ik) (hk : kL a k) : a &&& (Ik - a) = 2 ^ k := by
 have h0 : a ≠ 0 := fun e => by rw [e] at hk; have := hk.1; simp at this
 have hmod : a % 2 ^ k = 0 := by
  refine Nat.eq_of_testBit_eq fun j => ?_
  rw [Nat.testBit_mod_two_pow, Nat.zero_testBit]
  by_cases hj : j < k
  ·rw [hk.2 j hj, Bool.and_false]
  ·rw [decide_eq_false hj, Bool.false_and]
 have hb : (a / 2 ^ k) % 2 = 1 := by
  have := hk.1
  rw [Nat.testBit_eq_decide_div_mod_eq] at this
  exact of_decide_eq_true this
 obtain ⟨q, hq⟩ : ∃ q, a / 2 ^ k = 2 * q + 1 := ⟨a / 2 ^ k / 2, by omega⟩
 have hp : 0 < 2 ^ k := Nat.pow_pos (by omega)
 have ha1 : a = 2 ^ k * (2 * q + 1) := by
  have := Nat.div_add_mod a (2 ^ k)
  rw [hmod, hq] at this
  omega
 have hpred : a - 1 = 2 ^ k * (2 * q) + (2 ^ k - 1) := by
  rw [ha1, Nat.mul_add, Nat.mul_one]
  omega
 refine Nat.eq_of_testBit_eq fun j => ?_
 rw [Nat.testBit_and, Nat.testBit_two_pow]
 have e : Ik - a = 2 ^ 32 - ((a - 1) + 1) := by show 4294967296 - a = 4294967296 - (a - 1 + 1); omega
 have hlt : a - 1 < 2 ^ 32 := by have : a < 4294967296 := ha; show a - 1 < 4294967296; omega
 rw [e, Nat.testBit_two_pow_sub_succ hlt, hpred, Nat.testBit_two_pow_mul_add _ (by omega)]
 by_cases hj : j < k
 ·rw [hk.2 j hj, Bool.false_and, decide_eq_false (by omega)]
 ·rw [if_neg hj]
  by_cases hjk : j = k
  ·subst hjk
   rw [hk.1, Nat.sub_self]
   have e0 : (2 * q).testBit 0 = false := by simp
   have h32 : j < 32 := by
    rcases Nat.lt_or_ge j 32 with h1 | h1
    ·exact h1
    ·have := Su ha h1
     have h2 := hk.1
     rw [this] at h2; cases h2
   rw [e0, decide_eq_true h32, decide_eq_true rfl]
   rfl
  ·rw [decide_eq_false (p := k = j) (by omega)]
   have e1 : (2 * q).testBit (j - k) = a.testBit j := by
    obtain ⟨d, rfl⟩ : ∃ d, j = k + (d + 1) := ⟨j - k - 1, by omega⟩
    rw [Nat.add_sub_cancel_left]
    have ea := Nat.testBit_two_pow_mul_add (2 * q + 1) (b := 0) (i := k) hp (k + (d + 1))
    rw [Nat.add_zero, <- ha1, if_neg (by omega), Nat.add_sub_cancel_left] at ea
    rw [ea, Nat.testBit_succ, Nat.testBit_succ]
    have e2 : 2 * q / 2 = q := by omega
    have e3 : (2 * q + 1) / 2 = q := by omega
    rw [e2, e3]
   rw [e1]
   cases a.testBit j <;> simp
theorem jK : ∀ k ∈ List.range 32, (Kb .u32 (IntKind.wrap .u32 (((2 ^ k : Nat) : Int) * 125613361)) 27).bind (fun q => Bz aB q) = some (UInt8.ofNat k) := by decide +kernel
theorem nV {a k : Nat} (ha : a < Ik) (hk : kL a k) : Ci (a : Int) = some (k : Int) := by
 have h0 : a ≠ 0 := fun e => by rw [e] at hk; have := hk.1; simp at this
 obtain ⟨k', h32, hk'⟩ := Xe h0 ha
 have := iM hk hk'
 subst this
 unfold Ci
 rw [decide_eq_false (by omega), cond_false]
 have hneg : IntKind.wrap .u32 (-(a : Int)) = ((Ik - a : Nat) : Int) := by
  have e : IntKind.wrap .u32 (-(a : Int)) = (-(a : Int)) % 4294967296 := rfl
  have h1 : a < 4294967296 := ha
  rw [e]
  show _ = ((4294967296 - a : Nat) : Int)
  omega
 rw [hneg, Z8 ha (by show 4294967296 - a < 4294967296; omega), jP ha hk]
 have ht := jK k (List.mem_range.2 h32)
 cases hs : Kb .u32 (IntKind.wrap .u32 (((2 ^ k : Nat) : Int) * 125613361)) 27 with
 | none => rw [hs] at ht; cases ht
 | some q =>
  rw [hs, Option.bind_some] at ht
  rw [Option.bind_some, ht, Option.bind_some]
  have : (UInt8.ofNat k).toNat = k := by
   rw [UInt8.toNat_ofNat']
   exact Nat.mod_eq_of_lt (by omega)
  rw [this]
theorem tF : Ci 0 = some 32 := rfl
def bits (a : Nat) : List Nat := (List.range 32).filter a.testBit
theorem Fj {a : Nat} (ha : a < Ik) {i : Nat} : i ∈ bits a ↔ a.testBit i = true := by
 unfold bits
 rw [List.mem_filter, List.mem_range]
 refine ⟨fun h => h.2, fun h => ⟨?_, h⟩⟩
 rcases Nat.lt_or_ge i 32 with h1 | h1
 ·exact h1
 ·have := Su ha h1
  rw [this] at h; cases h
theorem jO {a i : Nat} (h : i ∈ bits a) : i < 32 := List.mem_range.1 (List.mem_filter.1 h).1
theorem Nm (a : Nat) : (bits a).Pairwise (· < ·) := List.pairwise_lt_range.sublist List.filter_sublist
theorem Xr : ∀ {l m : List Nat}, l.Pairwise (· < ·) -> m.Pairwise (· < ·) -> (∀ x, x ∈ l ↔ x ∈ m) -> l = m := fun {l m} hl hm he =>
 Sv (lt := fun a b : Nat => decide (a < b)) ⟨fun a => decide_eq_false (by omega), fun a b c h1 h2 => decide_eq_true (by have := of_decide_eq_true h1; have := of_decide_eq_true h2; omega), fun a b h1 h2 => by have := of_decide_eq_false h1; have := of_decide_eq_false h2; omega⟩
  (hl.imp fun h => decide_eq_true h) (hm.imp fun h => decide_eq_true h) he
theorem X0 {a k : Nat} (ha : a < Ik) (hk : kL a k) : bits a = k :: bits (U3 a (2 ^ k)) := by
 have h32 : k < 32 := jO ((Fj ha).2 hk.1)
 have hs := W6 ha (K6 h32)
 have hsl := Y9 (b := 2 ^ k) ha
 refine Xr (Nm a) (List.pairwise_cons.2 ⟨fun j hj => ?_, Nm _⟩) fun x => ?_
 ·have := (Fj hsl).1 hj
  rw [hs, Bool.and_eq_true, Nat.testBit_two_pow] at this
  have hne : k ≠ j := fun e => by rw [decide_eq_true e] at this; cases this.2
  rcases Nat.lt_or_ge k j with h1 | h1
  ·exact h1
  ·have h2 := hk.2 j (by omega)
   rw [h2] at this; cases this.1
 ·rw [Fj ha, List.mem_cons, Fj hsl, hs, Nat.testBit_two_pow]
  by_cases hx : k = x
  ·subst hx; simp [hk.1]
  ·simp [hx, Ne.symm hx]
theorem cX : bits 0 = [] := by decide
def Qm {S : Type} (rnd : Nat -> S -> Option (Nat × S)) : List Nat -> S -> Option (Nat × S)
 | [], s => some (0, s)
 | i :: l, s => (rnd i s).bind fun y => if y.1 = 0 then Qm rnd l y.2 else some y
theorem Om {S : Type} (rnd : Int -> S -> Option (Nat × S)) : ∀ (n a : Nat), (bits a).length <= n -> a < Ik -> ∀ (s : S) (y : Nat × S), Qm (fun i => rnd (i : Int)) (bits a) s = some y ->
  ∃ z, A1 (fun a0' q' => Y5 (fun s' => rnd a0' s') q') (a : Int) (0, s) = some (z, y) := by
 intro n
 induction n with
 | zero =>
  intro a hn ha s y h
  have hb : bits a = [] := List.eq_nil_of_length_eq_zero (by omega)
  have h0 : a = 0 := by
   apply Decidable.byContradiction
   intro h0
   obtain ⟨k, -, hk⟩ := Xe h0 ha
   rw [X0 ha hk] at hb; cases hb
  subst h0
  rw [hb] at h
  injection h with h
  subst h
  refine ⟨0, ?_⟩
  unfold A1
  refine Cr (x := some (0, (0, s))) ?_
  unfold A1.l1
  rfl
 | succ n ih =>
  intro a hn ha s y h
  by_cases h0 : a = 0
  ·subst h0
   rw [cX] at h
   injection h with h
   subst h
   refine ⟨0, ?_⟩
   unfold A1
   refine Cr (x := some (0, (0, s))) ?_
   unfold A1.l1
   rfl
  ·obtain ⟨k, h32, hk⟩ := Xe h0 ha
   rw [X0 ha hk] at h hn
   unfold Qm at h
   have e0 : A1.l1 (fun a0' q' => Y5 (fun s' => rnd a0' s') q') (0, s) (a : Int) = ((rnd (k : Int) s).map fun y => (Nat.beq y.1 0, y)).bind fun y_2 => cond (!y_2.1) (up (some (((U3 a (2 ^ k) : Nat) : Int), y_2.2))) (some (.next (y_2.2, ((U3 a (2 ^ k) : Nat) : Int)))) := by
    unfold A1.l1
    rw [decide_eq_false (by omega), Bool.not_false, cond_true, nV ha hk, Option.bind_some, Q3 h32, Option.bind_some, Uk ha (K6 h32)]
    rfl
   cases hr : rnd (k : Int) s with
   | none => rw [hr] at h; cases h
   | some v =>
    rw [hr, Option.bind_some] at h
    rw [hr] at e0
    by_cases hv : v.1 = 0
    ·rw [if_pos hv] at h
     have e1 : A1.l1 (fun a0' q' => Y5 (fun s' => rnd a0' s') q') (0, s) (a : Int) = some (.next (v, ((U3 a (2 ^ k) : Nat) : Int))) := by
      rw [e0]
      show cond (!Nat.beq v.1 0) _ _ = _
      rw [hv]; rfl
     obtain ⟨z, hz⟩ := ih (U3 a (2 ^ k)) (by simp at hn; omega) (Y9 ha) v.2 y h
     refine ⟨z, ?_⟩
     unfold A1 at hz ⊢
     rw [Db (s' := (v, ((U3 a (2 ^ k) : Nat) : Int))) e1]
     have : v = (0, v.2) := by rw [<- hv]
     rw [this]
     exact hz
    ·rw [if_neg hv] at h
     injection h with h
     subst h
     refine ⟨((U3 a (2 ^ k) : Nat) : Int), ?_⟩
     unfold A1
     refine Cr (x := some (((U3 a (2 ^ k) : Nat) : Int), v)) ?_
     show A1.l1 _ (0, s) (a : Int) = _
     rw [e0]
     show cond (!Nat.beq v.1 0) _ _ = _
     have : Nat.beq v.1 0 = false := by
      cases hb : Nat.beq v.1 0 with
      | false => rfl
      | true => exact (hv (Nat.eq_of_beq_eq_true hb)).elim
     rw [this]; rfl
end
section
open Go
theorem J0 {T S R : Type} {body : T -> Option (Lp T R)} (G : Int -> S -> T) (n : Nat) (Inv : Nat -> S -> Prop) {Q : R -> Prop} (h1 : ∀ (i : Nat) (s : S), i < n -> Inv i s -> Ok (body (G (i : Int) s)) (Ub (fun t => ∃ s', t = G ((i + 1 : Nat) : Int) s' /\ Inv (i + 1) s') Q))
  (h2 : ∀ s, Inv n s -> Ok (body (G (n : Int) s)) (Ub (fun _ => False) Q)) {s : S} (hs : Inv 0 s) : Ok (B2 body (G 0 s)) Q := by
 have key : ∀ (k i : Nat) (s : S), i + k = n -> Inv i s -> Ok (B2 body (G (i : Int) s)) Q := by
  intro k
  induction k with
  | zero =>
   intro i s hi hs
   have : i = n := by omega
   subst this
   obtain ⟨y, e, hy⟩ := h2 s hs
   cases y with
   | next t => exact hy.elim
   | done r => exact ⟨r, Rg e, hy⟩
  | succ k ih =>
   intro i s hi hs
   obtain ⟨y, e, hy⟩ := h1 i s (by omega) hs
   cases y with
   | next t =>
    obtain ⟨s', rfl, h⟩ := hy
    obtain ⟨r, e2, hr⟩ := ih (i + 1) s' (by omega) h
    exact ⟨r, (Db e).trans e2, hr⟩
   | done r => exact ⟨r, Rg e, hy⟩
 exact key n 0 s (by omega) hs
theorem P9 {i n : Nat} (h : i < n) : decide ((i : Int) < (n : Int)) = true := decide_eq_true (by omega)
theorem Qx {n : Nat} : decide ((n : Int) < (n : Int)) = false := decide_eq_false (by omega)
theorem W1 {i : Nat} (h : i < 4611686018427387904) : W ((i : Int) + 1) = ((i + 1 : Nat) : Int) := Pl h
theorem F6 {α : Type} {l : List α} {n : Nat} {x : α} (h : l[n]? = some x) : Bz l (n : Int) = some x := by rw [E6]; exact h
structure Rw (n : Nat) (L : List Int) (w : Nat -> Nat -> Bool) : Prop where
 len : L.length = n
 row : ∀ i, i < n -> ∃ m : Nat, L[i]? = some (m : Int) /\ m < Ik /\ ∀ j, m.testBit j = (decide (j < n) && w i j)
theorem Rw.congr {n : Nat} {L : List Int} {w w' : Nat -> Nat -> Bool} (h : Rw n L w) (e : ∀ i j, i < n -> j < n -> w i j = w' i j) : Rw n L w' :=
 ⟨h.len, fun i hi => by
  obtain ⟨m, a, b, c⟩ := h.row i hi
  refine ⟨m, a, b, fun j => ?_⟩
  rw [c j]
  by_cases hj : j < n
  ·rw [e i j hi hj]
  ·rw [decide_eq_false hj]; rfl⟩
theorem Rw.set {n : Nat} {L : List Int} {w : Nat -> Nat -> Bool} (h : Rw n L w) {i m : Nat} {p : Nat -> Bool} (hi : i < n) (hm : m < Ik) (hp : ∀ j, m.testBit j = (decide (j < n) && p j)) : Rw n (Cg L i (m : Int)) (fun a b => bif decide (a = i) then p b else w a b) := by
 refine ⟨by unfold Cg; rw [List.length_set]; exact h.len, fun a ha => ?_⟩
 unfold Cg
 by_cases e : a = i
 ·subst e
  refine ⟨m, by rw [List.getElem?_set_self (by rw [h.len]; exact ha)], hm, fun j => ?_⟩
  rw [hp j, decide_eq_true rfl]; rfl
 ·obtain ⟨m', a1, b1, c1⟩ := h.row a ha
  refine ⟨m', by rw [List.getElem?_set_ne (fun x => e x.symm)]; exact a1, b1, fun j => ?_⟩
  rw [c1 j, decide_eq_false e]; rfl
theorem Sc {a b : Nat} (ha : a < Ik) (hb : b < Ik) : a ||| b < Ik := Nat.or_lt_two_pow (n := 32) ha hb
theorem Yx {n : Nat} : Rw n (List.replicate n 0) (fun _ _ => false) :=
 ⟨List.length_replicate, fun i hi => ⟨0, by rw [List.getElem?_replicate_of_lt hi]; rfl, by decide, fun j => by simp⟩⟩
theorem mC {n : Nat} (hn : n <= 24) : Uz 4 (n : Int) (0 : Int) = some (List.replicate n 0) := by
 unfold Uz
 rw [if_pos (by omega)]
 simp
theorem Qh (w : Nat -> Nat -> Bool) : ∀ k a b, Ew (fun a b => w b a) k a b = Ew w k b a
 | 0, _, _ => rfl
 | k + 1, a, b => by
  show V6 k (Ew (fun a b => w b a) k) a b = V6 k (Ew w k) b a
  unfold V6
  rw [Qh w k a b, Qh w k a k, Qh w k k b, Bool.and_comm]
abbrev Gv (n : Nat) (l : List Aa) : Nat -> Nat -> Bool := Ew (Iw l) n
structure Qn (n : Nat) (l : List Aa) (o : Ap) : Prop where
 num : o.n = (n : Int)
 before : Rw n o.before (fun i j => Gv n l j i)
 after : Rw n o.after (fun i j => Gv n l i j)
theorem dF {l : List Aa} {k a b : Nat} {r : Aa} (h : l[k]? = some r) : Iw (l.take (k + 1)) a b = (decide (r = ⟨(a : Int), (b : Int)⟩) || Iw (l.take k) a b) := by
 unfold Iw
 rw [Dq h, List.any_append, Bool.or_comm]
 simp
theorem Z6 {n : Nat} (hn : n <= 24) {l : List Aa} (hl : hO n l) (hlen : l.length <= 1000000) : Ok (Aw (n : Int) l) (Qn n l) := by
 have L5 : ∀ (B A : List Int), Rw n B (fun i j => Gv n l j i) -> Rw n A (fun _ _ => false) -> Ok (B2 (fun q' => Aw.l5 (n : Int) B q'.1 q'.2) (0, A)) (Qn n l) := by
  intro B A hB hA
  refine J0 (fun i (s : List Int) => (i, s)) n (fun i A => Rw n A fun a b => decide (b < i) && Gv n l a b) (fun i A hi hA => ?_) (fun A hA => ?_) (hA.congr fun a b _ _ => by simp)
  ·obtain ⟨m, b1, b2, b3⟩ := hB.row i hi
   have run : ∀ (bs : List Nat) (A : List Int) (w : Nat -> Nat -> Bool), (∀ a ∈ bs, a < n) -> Rw n A w -> ∃ A', Qm (fun a => Aw.r6 (i : Int) (a : Int)) bs A = some (0, A') /\ Rw n A' fun a b => (decide (a ∈ bs) && decide (b = i)) || w a b := by
    intro bs
    induction bs with
    | nil => intro A w _ h; exact ⟨A, rfl, h.congr fun a b _ _ => by simp⟩
    | cons a bs ih =>
     intro A w hbs h
     have ha := hbs a (.head _)
     obtain ⟨m', c1, c2, c3⟩ := h.row a ha
     have hset := h.set (m := m' ||| 2 ^ i) (p := fun b => w a b || decide (b = i)) ha (Sc c2 (K6 (by omega))) (fun j => by
      rw [Nat.testBit_or, c3 j, Nat.testBit_two_pow]
      by_cases hj : j = i
      ·subst hj; rw [decide_eq_true hi]; simp
      ·rw [decide_eq_false hj, decide_eq_false (Ne.symm hj), Bool.or_false, Bool.or_false])
     obtain ⟨A', e, hA'⟩ := ih _ _ (fun x hx => hbs x (.tail _ hx)) hset
     refine ⟨A', ?_, hA'.congr fun x b _ _ => ?_⟩
     ·have er : Aw.r6 (i : Int) (a : Int) A = some (0, Cg A a ((m' ||| 2 ^ i : Nat) : Int)) := by
       unfold Aw.r6
       rw [F6 c1, Option.bind_some, Q3 (by omega), Option.bind_some, Xs c2 (K6 (by omega))]
       rfl
      unfold Qm
      rw [er, Option.bind_some, if_pos rfl]
      exact e
     ·by_cases hx : x = a
      ·subst hx
       simp
       cases w x b <;> cases decide (b = i) <;> simp
      ·simp [hx]
   have hbs : ∀ a ∈ bits m, a < n := fun a ha => by
    have := (Fj b2).1 ha
    rw [b3 a, Bool.and_eq_true] at this
    exact of_decide_eq_true this.1
   obtain ⟨A', r1, r2⟩ := run (bits m) A _ hbs hA
   obtain ⟨z, hz⟩ := Om (fun a => Aw.r6 (i : Int) a) _ m (Nat.le_refl _) b2 A (0, A') r1
   show Ok (Aw.l5 (n : Int) B (i : Int) A) _
   unfold Aw.l5
   rw [P9 hi, cond_true, F6 b1, Option.bind_some]
   unfold C7
   rw [Option.bind_some, hz, Option.bind_some, W1 (by omega)]
   refine Ok.ret ⟨A', rfl, r2.congr fun a b ha hb => ?_⟩
   have : decide (a ∈ bits m) = Gv n l a i := by
    have e1 : decide (a ∈ bits m) = m.testBit a := by
     cases hm : m.testBit a with
     | true => exact decide_eq_true ((Fj b2).2 hm)
     | false =>
      refine decide_eq_false fun h => ?_
      rw [(Fj b2).1 h] at hm
      cases hm
    rw [e1, b3 a, decide_eq_true ha, Bool.true_and]
   rw [this]
   by_cases hbi : b = i
   ·subst hbi
    rw [decide_eq_true rfl, decide_eq_false (p := b < b) (by omega), decide_eq_true (p := b < b + 1) (by omega)]
    simp
   ·rw [decide_eq_false hbi, Bool.and_false, Bool.false_or]
    by_cases hlt : b < i
    ·rw [decide_eq_true hlt, decide_eq_true (p := b < i + 1) (by omega)]
    ·rw [decide_eq_false hlt, decide_eq_false (p := b < i + 1) (by omega)]
  ·show Ok (Aw.l5 (n : Int) B (n : Int) A) _
   unfold Aw.l5
   rw [Qx, cond_false]
   exact Ok.up (Ok.ret ⟨rfl, hB, hA.congr fun a b _ hb => by rw [decide_eq_true hb, Bool.true_and]⟩)
 have L3 : ∀ (k : Nat) (w : Nat -> Nat -> Bool) (B : List Int), k < n -> Rw n B w -> Ok (B2 (fun q' => Aw.l3 (n : Int) (k : Int) q'.1 q'.2) (0, B)) (Ub (fun t => ∃ B', t = (((k + 1 : Nat) : Int), B') /\ Rw n B' (V6 k w)) (fun _ => False)) := by
  intro k w B hk hB
  refine J0 (fun i (s : List Int) => (i, s)) n (fun i B => Rw n B fun a b => bif decide (a < i) then V6 k w a b else w a b) (fun i B hi hB => ?_) (fun B hB => ?_) (hB.congr fun a b _ _ => by simp)
  ·obtain ⟨m, b1, b2, b3⟩ := hB.row i hi
   obtain ⟨m', c1, c2, c3⟩ := hB.row k hk
   have b3 : ∀ j, m.testBit j = (decide (j < n) && w i j) := fun j => by rw [b3 j, decide_eq_false (p := i < i) (by omega)]; rfl
   have c3 : ∀ j, m'.testBit j = (decide (j < n) && w k j) := fun j => by
    rw [c3 j]
    by_cases hki : k < i
    ·rw [decide_eq_true hki]
     show _ = (decide (j < n) && w k j)
     rw [show (bif true then V6 k w k j else w k j) = V6 k w k j from rfl, aR]
    ·rw [decide_eq_false hki]; rfl
   show Ok (Aw.l3 (n : Int) (k : Int) (i : Int) B) _
   unfold Aw.l3
   rw [P9 hi, cond_true, F6 b1, Option.bind_some, aI b2 (by omega), Option.bind_some, b3 k, decide_eq_true hk, Bool.true_and]
   unfold Aw.j4
   cases hw : w i k with
   | true =>
    rw [cond_true, F6 c1, Option.bind_some, W1 (by omega), Xs b2 c2]
    refine Ok.ret ⟨_, rfl, (hB.set (m := m ||| m') (p := fun b => V6 k w i b) hi (Sc b2 c2) (fun j => ?_)).congr fun a b _ _ => ?_⟩
    ·rw [Nat.testBit_or, b3 j, c3 j]
     unfold V6
     rw [hw]
     cases decide (j < n) <;> simp
    ·by_cases ha : a = i
     ·subst ha
      rw [decide_eq_true rfl, decide_eq_true (p := a < a + 1) (by omega)]; rfl
     ·rw [decide_eq_false ha]
      by_cases hlt : a < i
      ·rw [decide_eq_true hlt, decide_eq_true (p := a < i + 1) (by omega)]; rfl
      ·rw [decide_eq_false hlt, decide_eq_false (p := a < i + 1) (by omega)]; rfl
   | false =>
    rw [cond_false, W1 (by omega)]
    refine Ok.ret ⟨_, rfl, hB.congr fun a b _ _ => ?_⟩
    by_cases ha : a = i
    ·subst ha
     rw [decide_eq_false (p := a < a) (by omega), decide_eq_true (p := a < a + 1) (by omega)]
     unfold V6
     rw [hw]; simp
    ·by_cases hlt : a < i
     ·rw [decide_eq_true hlt, decide_eq_true (p := a < i + 1) (by omega)]
     ·rw [decide_eq_false hlt, decide_eq_false (p := a < i + 1) (by omega)]
  ·show Ok (Aw.l3 (n : Int) (k : Int) (n : Int) B) _
   unfold Aw.l3
   rw [Qx, cond_false, W1 (by omega)]
   exact Ok.up (Ok.ret ⟨B, rfl, hB.congr fun a b ha _ => by rw [decide_eq_true ha]; rfl⟩)
 have L2 : ∀ (A B : List Int), Rw n A (fun _ _ => false) -> Rw n B (fun i j => Iw l j i) -> Ok (B2 (fun q' => Aw.l2 (n : Int) A q'.1 q'.2) (0, B)) (Qn n l) := by
  intro A B hA hB
  refine J0 (fun i (s : List Int) => (i, s)) n (fun k B => Rw n B (Ew (fun a b => Iw l b a) k)) (fun k B hk hB => ?_) (fun B hB => ?_) hB
  ·show Ok (Aw.l2 (n : Int) A (k : Int) B) _
   unfold Aw.l2
   rw [P9 hk, cond_true]
   exact (L3 k _ B hk hB).mono fun y hy => by
    cases y with
    | next t => exact hy
    | done r => exact hy.elim
  ·show Ok (Aw.l2 (n : Int) A (n : Int) B) _
   unfold Aw.l2
   rw [Qx, cond_false]
   exact Ok.up (L5 B A (hB.congr fun a b _ _ => Qh _ _ _ _) hA)
 unfold Aw
 rw [mC hn, Option.bind_some, Option.bind_some]
 refine J0 (fun i (s : List Int) => (i, s)) l.length (fun k B => Rw n B fun i j => Iw (l.take k) j i) (fun k B hk hB => ?_) (fun B hB => ?_) (Yx.congr fun _ _ _ _ => rfl)
 ·have hr : l[k]? = some l[k] := List.getElem?_eq_getElem hk
  obtain ⟨q1, q2, q3, q4⟩ := hl l[k] (List.getElem_mem hk)
  obtain ⟨a, ha⟩ : ∃ a : Nat, l[k].First = (a : Int) := ⟨l[k].First.toNat, by omega⟩
  obtain ⟨b, hb⟩ : ∃ b : Nat, l[k].Then = (b : Int) := ⟨l[k].Then.toNat, by omega⟩
  obtain ⟨m, c1, c2, c3⟩ := hB.row b (by omega)
  show Ok (Aw.l1 (n : Int) l (List.replicate n 0) (k : Int) B) _
  unfold Aw.l1
  rw [Dx hr, hb, ha, F6 c1, Option.bind_some, Q3 (by omega), Option.bind_some, Xs c2 (K6 (by omega)), W1 (by omega)]
  refine Ok.ret ⟨_, rfl, (hB.set (i := b) (m := m ||| 2 ^ a) (p := fun j => Iw (l.take k) j b || decide (j = a)) (by omega) (Sc c2 (K6 (by omega))) (fun j => ?_)).congr fun i j _ _ => ?_⟩
  ·rw [Nat.testBit_or, c3 j, Nat.testBit_two_pow]
   by_cases hj : j = a
   ·subst hj; rw [decide_eq_true (p := j < n) (by omega)]; simp
   ·rw [decide_eq_false hj, decide_eq_false (Ne.symm hj), Bool.or_false, Bool.or_false]
  ·rw [dF hr]
   have er : l[k] = ⟨(a : Int), (b : Int)⟩ := by rw [<- ha, <- hb]
   rw [er]
   by_cases hi : i = b
   ·subst hi
    rw [decide_eq_true rfl]
    by_cases hj : j = a
    ·subst hj; simp
    ·have hne : ¬ (⟨(a : Int), (i : Int)⟩ : Aa) = ⟨(j : Int), (i : Int)⟩ := fun e => hj (by injection e with e1 e2; omega)
     rw [decide_eq_false hj, decide_eq_false hne]; simp
   ·have hne : ¬ (⟨(a : Int), (b : Int)⟩ : Aa) = ⟨(j : Int), (i : Int)⟩ := fun e => hi (by injection e with e1 e2; omega)
    rw [decide_eq_false hi, decide_eq_false hne]; simp
 ·show Ok (Aw.l1 (n : Int) l (List.replicate n 0) (l.length : Int) B) _
  unfold Aw.l1
  rw [Dt]
  refine Ok.up (L2 _ B Yx (hB.congr fun i j _ _ => by rw [List.take_length]))
end
section
open Go
def Js (n : Int) (r : Aa) : Bool := decide (r.First < 0) || (decide (n <= r.First) || (decide (r.Then < 0) || (decide (n <= r.Then) || decide (r.First = r.Then))))
def Dn (n : Int) (l : List Aa) : Int :=
 if n < 0 \/ 24 < n then 2 else if l.any (Js n) = true then 44 else if ¬ SA l then 6 else if ((List.range n.toNat).any fun i => Gv n.toNat l i i) = true then 45 else 0
structure Ia (n : Nat) (l : List Aa) : Prop where
 n24 : n <= 24
 inr : hO n l
 ne : ∀ r ∈ l, r.First ≠ r.Then
 asc : SA l
 acy : ∀ i, Gv n l i i = false
theorem Wn {n : Nat} {l : List Aa} (h : l.any (Js (n : Int)) = false) : hO n l /\ ∀ r ∈ l, r.First ≠ r.Then := by
 have h1 : ∀ r ∈ l, Js (n : Int) r = false := fun r hr => by
  cases hb : Js (n : Int) r with
  | false => rfl
  | true => exact absurd hb (List.any_eq_false.1 h r hr)
 have h2 : ∀ r ∈ l, (0 <= r.First /\ r.First < n /\ 0 <= r.Then /\ r.Then < n) /\ r.First ≠ r.Then := fun r hr => by
  have := h1 r hr
  unfold Js at this
  simp only [Bool.or_eq_false_iff, decide_eq_false_iff_not] at this
  omega
 exact ⟨fun r hr => (h2 r hr).1, fun r hr => (h2 r hr).2⟩
theorem fF {n : Nat} {l : List Aa} (h : hO n l) {a b : Nat} (hw : Gv n l a b = true) : a < n /\ b < n :=
 TC.lt (fun _ _ => Mz h) ((Ke (fun _ _ => Mz h)).1 hw)
theorem In {n : Int} {l : List Aa} (h : Dn n l = 0) : ∃ m : Nat, n = (m : Int) /\ Ia m l := by
 unfold Dn at h
 by_cases h1 : n < 0 \/ 24 < n
 ·rw [if_pos h1] at h; cases h
 ·rw [if_neg h1] at h
  obtain ⟨m, rfl⟩ : ∃ m : Nat, n = (m : Int) := ⟨n.toNat, by omega⟩
  by_cases h2 : l.any (Js (m : Int)) = true
  ·rw [if_pos h2] at h; cases h
  ·rw [if_neg h2] at h
   by_cases h3 : SA l
   ·rw [if_neg (fun q => q h3)] at h
    by_cases h4 : ((List.range (m : Int).toNat).any fun i => Gv (m : Int).toNat l i i) = true
    ·rw [if_pos h4] at h; cases h
    ·have hb : l.any (Js (m : Int)) = false := by
      cases hb : l.any (Js (m : Int)) with
      | false => rfl
      | true => exact (h2 hb).elim
     obtain ⟨q1, q2⟩ := Wn hb
     refine ⟨m, rfl, by omega, q1, q2, h3, fun i => ?_⟩
     cases hw : Gv m l i i with
     | false => rfl
     | true =>
      refine (h4 (List.any_eq_true.2 ⟨i, List.mem_range.2 (fF q1 hw).1, ?_⟩)).elim
      exact hw
   ·rw [if_pos h3] at h; cases h
theorem Ia.chk {n : Nat} {l : List Aa} (h : Ia n l) : Dn (n : Int) l = 0 := by
 unfold Dn
 have h1 := h.n24
 rw [if_neg (by omega)]
 have h2 : ¬ l.any (Js (n : Int)) = true := fun hb => by
  obtain ⟨r, hr, hb⟩ := List.any_eq_true.1 hb
  have := h.inr r hr
  have := h.ne r hr
  unfold Js at hb
  simp only [Bool.or_eq_true, decide_eq_true_eq] at hb
  omega
 rw [if_neg h2, if_neg (fun q => q h.asc)]
 refine if_neg fun hb => ?_
 obtain ⟨i, -, hi⟩ := List.any_eq_true.1 hb
 have : Gv n l i i = true := hi
 rw [h.acy i] at this; cases this
theorem aW {α : Type} {R : α -> α -> Prop} (htr : ∀ a b c, R a b -> R b c -> R a c) : ∀ {l : List α}, (∀ i, i + 1 < l.length -> ∀ a b, l[i]? = some a -> l[i + 1]? = some b -> R a b) -> l.Pairwise R
 | [], _ => .nil
 | [a], _ => List.pairwise_singleton _ _
 | a :: b :: l, h => by
  have ih : (b :: l).Pairwise R := aW htr fun i hi x y hx hy => h (i + 1) (by simpa using hi) x y (by simpa using hx) (by simpa using hy)
  have hab : R a b := h 0 (by simp) a b rfl rfl
  refine List.pairwise_cons.2 ⟨fun z hz => ?_, ih⟩
  rcases List.mem_cons.1 hz with rfl | hz
  ·exact hab
  ·exact htr _ _ _ hab ((List.pairwise_cons.1 ih).1 z hz)
theorem eG {l : List Aa} {i : Nat} {a b : Aa} (ha : l[i]? = some a) (hb : l[i + 1]? = some b) (h : Il a b = false) : ¬ SA l := fun hs => by
 obtain ⟨h1, rfl⟩ := List.getElem?_eq_some_iff.1 ha
 obtain ⟨h2, rfl⟩ := List.getElem?_eq_some_iff.1 hb
 have := List.pairwise_iff_getElem.1 hs i (i + 1) h1 h2 (by omega)
 rw [this] at h; cases h
theorem rV (a b : Aa) : ∃ c, Gy a b = some c /\ decide (0 <= c) = !Il a b := by
 refine ⟨bif !decide (Wq a.First b.First = 0) then Wq a.First b.First else Wq a.Then b.Then, ?_, ?_⟩
 ·unfold Gy
  rw [bS, Option.bind_some, bS, Option.bind_some, kY, Option.bind_some]
 ·have e : ∀ x y : Int, Wq x y = if x < y then -1 else if y < x then 1 else 0 := fun x y => by
   unfold Wq
   by_cases h : x < y
   ·rw [decide_eq_true h, if_pos h]; rfl
   ·rw [decide_eq_false h, if_neg h]
    by_cases h' : y < x
    ·rw [decide_eq_true h', if_pos h']; rfl
    ·rw [decide_eq_false h', if_neg h']; rfl
  cases hl : Il a b with
  | true =>
   rw [Qr] at hl
   rw [e, e]
   rcases hl with hl | ⟨h1, h2⟩
   ·rw [if_pos hl]; rfl
   ·rw [h1, if_neg (by omega), if_neg (by omega), if_pos h2]; rfl
  | false =>
   rw [gO] at hl
   rw [e, e]
   by_cases h1 : a.First = b.First
   ·rw [h1, if_neg (by omega), if_neg (by omega), if_neg (by omega)]
    by_cases h2 : b.Then < a.Then
    ·rw [if_pos h2]; rfl
    ·rw [if_neg h2]; rfl
   ·rw [if_neg (by omega), if_pos (by omega)]; rfl
def Vy (n : Int) (l : List Aa) (y : Option Ap × Int) : Prop := y.2 = Dn n l /\ (y.2 ≠ 0 -> y.1 = none) /\ (y.2 = 0 -> ∃ o, y.1 = some o /\ Qn n.toNat l o)
theorem Yb (n : Int) (l : List Aa) (hlen : l.length <= 1000) : Ok (Ay n l) (Vy n l) := by
 have bad : ∀ (c : Int), c = Dn n l -> c ≠ 0 -> Vy n l (none, c) := fun c h1 h2 => ⟨h1, fun _ => rfl, fun h => (h2 h).elim⟩
 unfold Ay Ay.j1
 by_cases h1 : n < 0 \/ 24 < n
 ·have e : Dn n l = 2 := by unfold Dn; rw [if_pos h1]
  have := bad 2 e.symm (by decide)
  rcases h1 with h1 | h1
  ·rw [decide_eq_true h1, cond_true, cond_true]; exact Ok.ret this
  ·rw [decide_eq_true h1]
   by_cases h0 : n < 0
   ·rw [decide_eq_true h0, cond_true]; exact Ok.ret this
   ·rw [decide_eq_false h0, cond_false, cond_true]; exact Ok.ret this
 rw [decide_eq_false (p := n < 0) (by omega), cond_false, decide_eq_false (p := 24 < n) (by omega), cond_false]
 obtain ⟨m, rfl⟩ : ∃ m : Nat, n = (m : Int) := ⟨n.toNat, by omega⟩
 have hm : m <= 24 := by omega
 have c1 : Dn (m : Int) l = if l.any (Js (m : Int)) = true then 44 else if ¬ SA l then 6 else if ((List.range m).any fun i => Gv m l i i) = true then 45 else 0 := by
  unfold Dn
  rw [if_neg h1]
  rfl
 refine J0 (fun i (s : Unit) => i) l.length (fun i _ => ∀ r ∈ l.take i, Js (m : Int) r = false) (fun i s hi hinv => ?_) (fun s hinv => ?_) (s := ()) (fun r hr => by simp at hr)
 ·have hr : l[i]? = some l[i] := List.getElem?_eq_getElem hi
  show Ok (Ay.l2 (m : Int) l (i : Int)) _
  unfold Ay.l2
  rw [Dx hr]
  have J : Ok (Ay.j3 (i : Int) (Js (m : Int) l[i])) (Ub (fun t => ∃ s' : Unit, t = ((i + 1 : Nat) : Int) /\ ∀ r ∈ l.take (i + 1), Js (m : Int) r = false) (Vy (m : Int) l)) := by
   unfold Ay.j3
   refine Ok.cond (fun hb => Ok.up (Ok.ret (bad 44 ?_ (by decide)))) (fun hb => ?_)
   ·rw [c1, if_pos (List.any_eq_true.2 ⟨_, List.getElem_mem hi, hb⟩)]
   ·rw [W1 (by omega)]
    refine Ok.ret ⟨(), rfl, fun r hr' => ?_⟩
    rw [Dq hr] at hr'
    rcases List.mem_append.1 hr' with h | h
    ·exact hinv r h
    ·rw [List.mem_singleton.1 h]; exact hb
  have hbad : Js (m : Int) l[i] = (decide (l[i].First < 0) || (decide ((m : Int) <= l[i].First) || (decide (l[i].Then < 0) || (decide ((m : Int) <= l[i].Then) || decide (l[i].First = l[i].Then))))) := rfl
  rw [hbad] at J
  clear hbad
  revert J
  cases decide (l[i].First < 0) <;> cases decide ((m : Int) <= l[i].First) <;> cases decide (l[i].Then < 0) <;> cases decide ((m : Int) <= l[i].Then) <;> exact id
 show Ok (Ay.l2 (m : Int) l (l.length : Int)) _
 unfold Ay.l2
 rw [Dt]
 refine Ok.up ?_
 rw [List.take_length] at hinv
 have hany : l.any (Js (m : Int)) = false := List.any_eq_false.2 fun r hr => by rw [hinv r hr]; decide
 obtain ⟨hinr, hne⟩ := Wn hany
 have c2 : Dn (m : Int) l = if ¬ SA l then 6 else if ((List.range m).any fun i => Gv m l i i) = true then 45 else 0 := by
  rw [c1, if_neg (by rw [hany]; decide)]
 refine J0 (fun i (s : Unit) => i) l.length (fun i _ => ∀ j a b, j + 1 < i -> l[j]? = some a -> l[j + 1]? = some b -> Il a b = true) (fun i s hi hadj => ?_) (fun s hadj => ?_) (s := ()) (fun j a b hj => by omega)
 ·have hr : l[i]? = some l[i] := List.getElem?_eq_getElem hi
  show Ok (Ay.l4 (m : Int) l (i : Int)) _
  unfold Ay.l4
  rw [decide_eq_true (show (i : Int) < (l.length : Int) by omega), cond_true]
  have nxt : (∀ a b, 0 < i -> l[i - 1]? = some a -> l[i]? = some b -> Il a b = true) -> Ok (some (Lp.next (W ((i : Int) + 1))) : Option (Lp Int (Option Ap × Int))) (Ub (fun t => ∃ s' : Unit, t = ((i + 1 : Nat) : Int) /\ ∀ j a b, j + 1 < i + 1 -> l[j]? = some a -> l[j + 1]? = some b -> Il a b = true) (Vy (m : Int) l)) := fun hq => by
   rw [W1 (by omega)]
   refine Ok.ret ⟨(), rfl, fun j a b hj ha hb => ?_⟩
   by_cases hji : j + 1 < i
   ·exact hadj j a b hji ha hb
   ·have : j + 1 = i := by omega
    subst this
    exact hq a b (by omega) ha hb
  by_cases h0 : 0 < i
  ·have hp : l[i - 1]? = some l[i - 1] := List.getElem?_eq_getElem (by omega)
   rw [decide_eq_true (show (0 : Int) < (i : Int) by omega), cond_true]
   have ei : W ((i : Int) - 1) = ((i - 1 : Nat) : Int) := by rw [Em (by omega)]; omega
   rw [ei, F6 hp, Option.bind_some, F6 hr, Option.bind_some]
   obtain ⟨c, e1, e2⟩ := rV l[i - 1] l[i]
   rw [e1, Option.bind_some, e2]
   unfold Ay.j5
   cases hlt : Il l[i - 1] l[i] with
   | true =>
    exact nxt fun a b _ ha hb => by
     rw [hp] at ha; rw [hr] at hb
     injection ha with ha; injection hb with hb
     rw [<- ha, <- hb]; exact hlt
   | false =>
    refine Ok.up (Ok.ret (bad 6 ?_ (by decide)))
    have hr' : l[i - 1 + 1]? = some l[i] := by rw [show i - 1 + 1 = i by omega]; exact hr
    rw [c2, if_pos (eG hp hr' hlt)]
  ·rw [decide_eq_false (show ¬ (0 : Int) < (i : Int) by omega), cond_false]
   unfold Ay.j5
   rw [cond_false]
   exact nxt fun a b h => (h0 h).elim
 show Ok (Ay.l4 (m : Int) l (l.length : Int)) _
 unfold Ay.l4
 rw [decide_eq_false (show ¬ (l.length : Int) < (l.length : Int) by omega), cond_false]
 refine Ok.up ?_
 have hsa : SA l := aW (fun a b c => O4.trans a b c) fun i hi a b ha hb => hadj i a b hi ha hb
 have c3 : Dn (m : Int) l = if ((List.range m).any fun i => Gv m l i i) = true then 45 else 0 := by rw [c2, if_neg fun q => q hsa]
 refine Ok.bind (Z6 hm hinr (by omega)) fun o ho => ?_
 have hlo := ho.before.len
 refine J0 (fun i (s : Unit) => i) m (fun i _ => ∀ j, j < i -> Gv m l j j = false) (fun i s hi hinv2 => ?_) (fun s hinv2 => ?_) (s := ()) (fun j hj => by omega)
 ·obtain ⟨k, b1, b2, b3⟩ := ho.before.row i hi
  show Ok (Ay.l6 o (i : Int)) _
  unfold Ay.l6
  rw [hlo, P9 hi, cond_true, F6 b1, Option.bind_some, aI b2 (by omega), Option.bind_some, b3 i, decide_eq_true hi, Bool.true_and]
  refine Ok.cond (fun hb => Ok.up (Ok.ret (bad 45 ?_ (by decide)))) (fun hb => ?_)
  ·rw [c3, if_pos (show ((List.range m).any fun i => Gv m l i i) = true from List.any_eq_true.2 ⟨i, List.mem_range.2 hi, hb⟩)]
  ·rw [W1 (by omega)]
   refine Ok.ret ⟨(), rfl, fun j hj => ?_⟩
   by_cases hji : j < i
   ·exact hinv2 j hji
   ·have : j = i := by omega
    rw [this]; exact hb
 ·show Ok (Ay.l6 o (m : Int)) _
  unfold Ay.l6
  rw [hlo, Qx, cond_false]
  refine Ok.up (Ok.ret ⟨?_, fun h => (h rfl).elim, fun _ => ⟨o, rfl, ho⟩⟩)
  rw [c3, if_neg]
  intro hb
  obtain ⟨i, h1, h2⟩ := List.any_eq_true.1 hb
  have h2 : Gv m l i i = true := h2
  rw [hinv2 i (List.mem_range.1 h1)] at h2; cases h2
theorem hZ (n : Int) (l : List Aa) (hlen : l.length <= 1000) : Bf n l = some (Dn n l) := by
 refine (?_ : ∀ {x : Option Int} {c : Int}, Ok x (fun y => y = c) -> x = some c) ?_
 ·rintro x c ⟨y, h, rfl⟩; exact h
 unfold Bf Bf.j1
 by_cases h1 : n < 0 \/ 24 < n
 ·have e : Dn n l = 2 := by unfold Dn; rw [if_pos h1]
  rw [e]
  rcases h1 with h1 | h1
  ·rw [decide_eq_true h1, cond_true, cond_true]; exact Ok.ret rfl
  ·rw [decide_eq_true h1]
   by_cases h0 : n < 0
   ·rw [decide_eq_true h0, cond_true]; exact Ok.ret rfl
   ·rw [decide_eq_false h0, cond_false, cond_true]; exact Ok.ret rfl
 rw [decide_eq_false (p := n < 0) (by omega), cond_false, decide_eq_false (p := 24 < n) (by omega), cond_false]
 obtain ⟨m, rfl⟩ : ∃ m : Nat, n = (m : Int) := ⟨n.toNat, by omega⟩
 have hm : m <= 24 := by omega
 have c1 : Dn (m : Int) l = if l.any (Js (m : Int)) = true then 44 else if ¬ SA l then 6 else if ((List.range m).any fun i => Gv m l i i) = true then 45 else 0 := by
  unfold Dn
  rw [if_neg h1]
  rfl
 refine J0 (fun i (s : Unit) => i) l.length (fun i _ => ∀ r ∈ l.take i, Js (m : Int) r = false) (fun i s hi hinv => ?_) (fun s hinv => ?_) (s := ()) (fun r hr => by simp at hr)
 ·have hr : l[i]? = some l[i] := List.getElem?_eq_getElem hi
  show Ok (Bf.l2 (m : Int) l (i : Int)) _
  unfold Bf.l2
  rw [Dx hr]
  have J : Ok (Bf.j3 (i : Int) (Js (m : Int) l[i])) (Ub (fun t => ∃ s' : Unit, t = ((i + 1 : Nat) : Int) /\ ∀ r ∈ l.take (i + 1), Js (m : Int) r = false) (fun y => y = Dn (m : Int) l)) := by
   unfold Bf.j3
   refine Ok.cond (fun hb => Ok.up (Ok.ret ?_)) (fun hb => ?_)
   ·rw [c1, if_pos (List.any_eq_true.2 ⟨_, List.getElem_mem hi, hb⟩)]
   ·rw [W1 (by omega)]
    refine Ok.ret ⟨(), rfl, fun r hr' => ?_⟩
    rw [Dq hr] at hr'
    rcases List.mem_append.1 hr' with h | h
    ·exact hinv r h
    ·rw [List.mem_singleton.1 h]; exact hb
  have hbad : Js (m : Int) l[i] = (decide (l[i].First < 0) || (decide ((m : Int) <= l[i].First) || (decide (l[i].Then < 0) || (decide ((m : Int) <= l[i].Then) || decide (l[i].First = l[i].Then))))) := rfl
  rw [hbad] at J
  clear hbad
  revert J
  cases decide (l[i].First < 0) <;> cases decide ((m : Int) <= l[i].First) <;> cases decide (l[i].Then < 0) <;> cases decide ((m : Int) <= l[i].Then) <;> exact id
 show Ok (Bf.l2 (m : Int) l (l.length : Int)) _
 unfold Bf.l2
 rw [Dt]
 refine Ok.up ?_
 rw [List.take_length] at hinv
 have hany : l.any (Js (m : Int)) = false := List.any_eq_false.2 fun r hr => by rw [hinv r hr]; decide
 obtain ⟨hinr, hne⟩ := Wn hany
 have c2 : Dn (m : Int) l = if ¬ SA l then 6 else if ((List.range m).any fun i => Gv m l i i) = true then 45 else 0 := by
  rw [c1, if_neg (by rw [hany]; decide)]
 have L4 : ∀ k i : Nat, 1 <= i -> i + k = max 1 l.length -> (∀ j a b, j + 1 < i -> l[j]? = some a -> l[j + 1]? = some b -> Il a b = true) -> Ok (B2 (fun q' => Bf.l4 (m : Int) l q') (i : Int)) (fun y => y = Dn (m : Int) l) := by
  intro k
  induction k with
  | zero =>
   intro i h0 hi hadj
   have hout : ¬ i < l.length := by omega
   have hsa : SA l := aW (fun a b c => O4.trans a b c) fun i' hi' a b ha hb => hadj i' a b (by omega) ha hb
   have c3 : Dn (m : Int) l = if ((List.range m).any fun i => Gv m l i i) = true then 45 else 0 := by rw [c2, if_neg fun q => q hsa]
   have e0 : Bf.l4 (m : Int) l (i : Int) = up ((A7 (m : Int) l).bind fun y_2 => B2 (fun q' => Bf.l5 (m : Int) y_2 q') 0) := by
    unfold Bf.l4
    rw [decide_eq_false (show ¬ (i : Int) < (l.length : Int) by omega), cond_false]
   rw [Cr e0]
   refine Ok.bind (S0 (by omega) hinr (by omega)) fun M hM => ?_
   refine J0 (fun i (s : Unit) => i) m (fun i _ => ∀ j, j < i -> Gv m l j j = false) (fun i s hi hinv2 => ?_) (fun s hinv2 => ?_) (s := ()) (fun j hj => by omega)
   ·obtain ⟨r, a1, a2, a3, a4⟩ := hM.get hi
    show Ok (Bf.l5 (m : Int) M (i : Int)) _
    unfold Bf.l5
    rw [P9 hi, cond_true, a1, Option.bind_some, a4 i hi, Option.bind_some]
    refine Ok.cond (fun hb => Ok.up (Ok.ret ?_)) (fun hb => ?_)
    ·rw [c3, if_pos (show ((List.range m).any fun i => Gv m l i i) = true from List.any_eq_true.2 ⟨i, List.mem_range.2 hi, hb⟩)]
    ·rw [W1 (by omega)]
     refine Ok.ret ⟨(), rfl, fun j hj => ?_⟩
     by_cases hji : j < i
     ·exact hinv2 j hji
     ·have : j = i := by omega
      rw [this]; exact hb
   ·show Ok (Bf.l5 (m : Int) M (m : Int)) _
    unfold Bf.l5
    rw [Qx, cond_false]
    refine Ok.up (Ok.ret ?_)
    rw [c3, if_neg]
    intro hb
    obtain ⟨i, h1, h2⟩ := List.any_eq_true.1 hb
    have h2 : Gv m l i i = true := h2
    rw [hinv2 i (List.mem_range.1 h1)] at h2; cases h2
  | succ k ih =>
   intro i h0 hi hadj
   have hil : i < l.length := by omega
   obtain ⟨y, hr⟩ : ∃ y, l[i]? = some y := ⟨_, List.getElem?_eq_getElem hil⟩
   obtain ⟨x, hp⟩ : ∃ x, l[i - 1]? = some x := ⟨_, List.getElem?_eq_getElem (by omega)⟩
   have ei : W ((i : Int) - 1) = ((i - 1 : Nat) : Int) := by rw [Em (by omega)]; omega
   have e0 : Bf.l4 (m : Int) l (i : Int) = cond (!Il x y) (up (some 6)) (some (.next ((i + 1 : Nat) : Int))) := by
    unfold Bf.l4
    rw [decide_eq_true (show (i : Int) < (l.length : Int) by omega), cond_true, ei, F6 hp, Option.bind_some, F6 hr, Option.bind_some, Lt, Option.bind_some, W1 (by omega)]
   cases hlt : Il x y with
   | true =>
    rw [hlt] at e0
    rw [Db e0]
    refine ih (i + 1) (by omega) (by omega) fun j a b hj ha hb => ?_
    by_cases hji : j + 1 < i
    ·exact hadj j a b hji ha hb
    ·have : j + 1 = i := by omega
     subst this
     rw [Nat.add_sub_cancel] at hp
     rw [hp] at ha; rw [hr] at hb
     injection ha with ha; injection hb with hb
     rw [<- ha, <- hb]; exact hlt
   | false =>
    rw [hlt] at e0
    rw [Cr e0]
    refine Ok.ret ?_
    have hr' : l[i - 1 + 1]? = some y := by rw [show i - 1 + 1 = i by omega]; exact hr
    rw [c2, if_pos (eG hp hr' hlt)]
 exact L4 (max 1 l.length - 1) 1 (Nat.le_refl _) (by omega) (fun j a b hj => by omega)
theorem E5 (n : Int) (l : List Aa) (hlen : l.length <= 1000) : Ek n l = some (Dn n l) /\ E0 n l = some (Dn n l) := by
 constructor
 ·obtain ⟨y, e, h1, h2, h3⟩ := Yb n l hlen
  unfold Ek
  rw [e, Option.bind_some]
  obtain ⟨y1, y2⟩ := y
  cases y1 with
  | none => exact congrArg some h1
  | some o => exact congrArg some h1
 ·unfold E0
  rw [hZ n l hlen]; rfl
end
section
open Go
def Hq (p : Nat -> Nat -> Bool) (i k : Nat) : List Aa := ((List.range k).filter (p i)).map fun (k : Nat) => ⟨(i : Int), (k : Int)⟩
def Gb (p : Nat -> Nat -> Bool) (m i : Nat) : List Aa := (List.range i).flatMap fun i => Hq p i m
theorem Ie (p : Nat -> Nat -> Bool) (i k : Nat) : Hq p i (k + 1) = Hq p i k ++ (bif p i k then [⟨(i : Int), (k : Int)⟩] else []) := by
 unfold Hq
 rw [List.range_succ, List.filter_append, List.map_append]
 cases h : p i k with
 | true => rw [List.filter_cons_of_pos h]; rfl
 | false => rw [List.filter_cons_of_neg (by rw [h]; decide)]; rfl
theorem My (p : Nat -> Nat -> Bool) (i k : Nat) : (Hq p i k).length <= k := by
 unfold Hq
 rw [List.length_map]
 have := List.length_filter_le (p i) (List.range k)
 rw [List.length_range] at this
 exact this
theorem Ho (p : Nat -> Nat -> Bool) (m i : Nat) : Gb p m (i + 1) = Gb p m i ++ Hq p i m := by
 unfold Gb
 rw [List.range_succ, List.flatMap_append]
 simp
theorem F2 (p : Nat -> Nat -> Bool) (m : Nat) : ∀ i, (Gb p m i).length <= i * m
 | 0 => Nat.zero_le _
 | i + 1 => by
  have := F2 p m i
  have h2 := My p i m
  rw [Ho, List.length_append, Nat.succ_mul]
  omega
theorem Jo {p : Nat -> Nat -> Bool} {m n : Nat} {r : Aa} : r ∈ Gb p m n ↔ ∃ i k, i < n /\ k < m /\ p i k = true /\ r = ⟨(i : Int), (k : Int)⟩ := by
 unfold Gb Hq
 simp only [List.mem_flatMap, List.mem_range, List.mem_map, List.mem_filter]
 constructor
 ·rintro ⟨i, hi, k, ⟨hk, hp⟩, rfl⟩
  exact ⟨i, k, hi, hk, hp, rfl⟩
 ·rintro ⟨i, k, hi, hk, hp, rfl⟩
  exact ⟨i, hi, k, ⟨hk, hp⟩, rfl⟩
theorem Gk (n : Int) (l : List Aa) (hlen : l.length <= 1000) : (Dn n l ≠ 0 /\ Ay n l = some (none, Dn n l)) \/ (∃ m o, n = ((m : Nat) : Int) /\ Ia m l /\ Qn m l o /\ Ay n l = some (some o, 0) /\ Dn n l = 0) := by
 obtain ⟨⟨y1, y2⟩, e, h1, h2, h3⟩ := Yb n l hlen
 have h1 : y2 = Dn n l := h1
 by_cases h : Dn n l = 0
 ·obtain ⟨o, ho, hok⟩ := h3 (h1.trans h)
  obtain ⟨m, rfl, hv⟩ := In h
  have ho : y1 = some o := ho
  have h0 : y2 = 0 := h1.trans h
  subst ho h0
  exact .inr ⟨m, o, rfl, hv, hok, e, h⟩
 ·have : y1 = none := h2 (fun q => h (h1.symm.trans q))
  subst this h1
  exact .inl ⟨h, e⟩
theorem Ia.wr {n : Nat} {l : List Aa} (h : Ia n l) {a b : Nat} : Gv n l a b = true ↔ TC (fun a b => Iw l a b = true) a b := Ke fun _ _ => Mz h.inr
theorem Ia.lt {n : Nat} {l : List Aa} (h : Ia n l) {a b : Nat} (hw : Gv n l a b = true) : a < n /\ b < n := fF h.inr hw
theorem Ia.tr {n : Nat} {l : List Aa} (h : Ia n l) {a b c : Nat} (h1 : Gv n l a b = true) (h2 : Gv n l b c = true) : Gv n l a c = true := h.wr.2 ((h.wr.1 h1).trans (h.wr.1 h2))
theorem kW {n m : Nat} {p : Nat -> Bool} (hn : n <= 24) (hm : m < Ik) (hb : ∀ j, m.testBit j = (decide (j < n) && p j)) : bits m = (List.range n).filter p := by
 refine Xr (Nm m) (List.pairwise_lt_range.sublist List.filter_sublist) fun x => ?_
 rw [Fj hm, hb x, List.mem_filter, List.mem_range, Bool.and_eq_true, decide_eq_true_iff]
theorem Ta {α : Type} {k : Nat} {rnd : Nat -> List α -> Option (Nat × List α)} {f : Nat -> α} (hr : ∀ a out, rnd a out = (G8 k out [f a]).bind fun l => some (0, l)) : ∀ (bs : List Nat) (out : List α), (out.length + bs.length) * k <= 140737488355328 -> Qm rnd bs out = some (0, out ++ bs.map f)
 | [], out, _ => by unfold Qm; simp
 | a :: bs, out, h => by
  unfold Qm
  have h1 : (out.length + 1) * k <= 140737488355328 := Nat.le_trans (Nat.mul_le_mul_right k (by simp)) h
  rw [hr, Fk (by rw [List.length_singleton]; exact h1), Option.bind_some, Option.bind_some, if_pos rfl, Ta hr bs _ (by rw [List.length_append, List.length_singleton]; simp only [List.length_cons] at h; rw [Nat.add_assoc, Nat.add_comm 1]; exact h)]
  simp
abbrev Hz (n : Nat) (l : List Aa) : List Aa := Gb (Gv n l) n n
theorem T2 (n : Int) (l : List Aa) (hlen : l.length <= 1000) : (Dn n l ≠ 0 /\ B4 n l = some ([], Dn n l)) \/ (∃ m, n = ((m : Nat) : Int) /\ Ia m l /\ Dn n l = 0 /\ B4 n l = some (Hz m l, 0)) := by
 rcases Gk n l hlen with ⟨h, e⟩ | ⟨m, o, rfl, hv, ho, e, hc⟩
 ·refine .inl ⟨h, ?_⟩
  unfold B4
  rw [e, Option.bind_some]
  show cond (!decide (Dn n l = 0)) _ _ = _
  rw [decide_eq_false h]; rfl
 ·refine .inr ⟨m, rfl, hv, hc, ?_⟩
  have hn := hv.n24
  unfold B4
  rw [e, Option.bind_some]
  show B2 (fun q' => B4.l1 (m : Int) o q'.1 q'.2) (0, []) = _
  refine (?_ : ∀ {x : Option (List Aa × Int)} {c}, Ok x (fun y => y = c) -> x = some c) ?_
  ·rintro x c ⟨y, h, rfl⟩; exact h
  refine J0 (fun i (s : List Aa) => (i, s)) m (fun i out => out = Gb (Gv m l) m i) (fun i out hi hout => ?_) (fun out hout => ?_) rfl
  ·obtain ⟨k, b1, b2, b3⟩ := ho.after.row i hi
   have hol := F2 (Gv m l) m i
   have hmul : i * m <= 24 * 24 := Nat.mul_le_mul (by omega) hn
   have hbl : bits k = (List.range m).filter (Gv m l i) := kW hn b2 b3
   have hbl2 : (bits k).length <= 32 := by
    have := List.length_filter_le k.testBit (List.range 32)
    rw [List.length_range] at this
    exact this
   have hr := Ta (k := 32) (rnd := fun a => B4.r2 (i : Int) (a : Int)) (f := fun a => (⟨(i : Int), (a : Int)⟩ : Aa)) (fun a out => rfl) (bits k) out (by rw [hout]; omega)
   obtain ⟨z, hz⟩ := Om (fun a => B4.r2 (i : Int) a) _ k (Nat.le_refl _) b2 out _ hr
   show Ok (B4.l1 (m : Int) o (i : Int) out) _
   unfold B4.l1 C7
   rw [P9 hi, cond_true, F6 b1, Option.bind_some, Option.bind_some, hz, Option.bind_some, W1 (by omega)]
   refine Ok.ret ⟨_, rfl, ?_⟩
   show out ++ (bits k).map _ = _
   rw [hout, Ho, hbl]
   rfl
  ·show Ok (B4.l1 (m : Int) o (m : Int) out) _
   unfold B4.l1
   rw [Qx, cond_false, hout]
   exact Ok.up (Ok.ret rfl)
theorem Xy (n : Int) (l : List Aa) (hlen : l.length <= 1000) : (Dn n l ≠ 0 -> Bp n l = some ([], Dn n l)) /\ (∀ m : Nat, n = (m : Int) -> Ia m l -> Bp n l = some (Hz m l, 0)) := by
 have hc := (E5 n l hlen).2
 constructor
 ·intro h
  unfold Bp
  rw [hc, Option.bind_some, decide_eq_false h]; rfl
 ·rintro m rfl hv
  have hn := hv.n24
  unfold Bp
  rw [hc, Option.bind_some, hv.chk]
  show (A7 (m : Int) l).bind _ = _
  obtain ⟨M, eM, hM⟩ := S0 (by omega) hv.inr (by omega)
  rw [eM, Option.bind_some]
  refine (?_ : ∀ {x : Option (List Aa × Int)} {c}, Ok x (fun y => y = c) -> x = some c) ?_
  ·rintro x c ⟨y, h, rfl⟩; exact h
  refine J0 (fun i (s : List Aa) => (i, s)) m (fun i out => out = Gb (Gv m l) m i) (fun i out hi hout => ?_) (fun out hout => ?_) rfl
  ·have hol := F2 (Gv m l) m i
   have hmul : i * m <= 24 * 24 := Nat.mul_le_mul (by omega) hn
   obtain ⟨r, a1, a2, a3, a4⟩ := hM.get hi
   show Ok (Bp.l1 (m : Int) M (i : Int) out) _
   unfold Bp.l1
   rw [P9 hi, cond_true]
   refine J0 (fun k (s : List Aa) => (k, s)) m (fun k out => out = Gb (Gv m l) m i ++ Hq (Gv m l) i k) (fun k out hk hout => ?_) (fun out hout => ?_) (by rw [hout]; unfold Hq; simp)
   ·show Ok (Bp.l2 (m : Int) M (i : Int) (k : Int) out) _
    have hrl := My (Gv m l) i k
    unfold Bp.l2 Bp.j3
    rw [P9 hk, cond_true, a1, Option.bind_some, a4 k hk, Option.bind_some, W1 (by omega)]
    refine Ok.cond (fun hb => ?_) (fun hb => ?_)
    ·rw [Fk (by rw [hout, List.length_append, List.length_singleton]; omega), Option.bind_some]
     refine Ok.ret ⟨_, rfl, ?_⟩
     have hb : Gv m l i k = true := hb
     rw [hout, Ie, hb, List.append_assoc]; rfl
    ·refine Ok.ret ⟨_, rfl, ?_⟩
     have hb : Gv m l i k = false := hb
     rw [hout, Ie, hb]
     show _ = _ ++ (_ ++ [])
     rw [List.append_nil]
   ·show Ok (Bp.l2 (m : Int) M (i : Int) (m : Int) out) _
    unfold Bp.l2
    rw [Qx, cond_false, W1 (by omega)]
    exact Ok.up (Ok.ret ⟨out, rfl, by rw [hout, Ho]⟩)
  ·show Ok (Bp.l1 (m : Int) M (m : Int) out) _
   unfold Bp.l1
   rw [Qx, cond_false, hout]
   exact Ok.up (Ok.ret rfl)
theorem pE.vok {n : Nat} {l : List Aa} (h : pE n l) (hn : n <= 24) : Ia n l := by
 have hw : ∀ a b, Iw l a b = true -> a < b := fun a b e => by
  have := h.fwd _ (Kt.1 e)
  simp only at this
  omega
 refine ⟨hn, h.inr, fun r hr => by have := h.fwd r hr; omega, h.asc, fun i => ?_⟩
 cases hi : Gv n l i i with
 | false => rfl
 | true =>
  have := TC.up hw ((Ke fun _ _ => Mz h.inr).1 hi)
  omega
theorem Oi {l : List Aa} {r : Aa} {a b : Nat} : Iw (Ex Il (l ++ [r])) a b = true ↔ Iw l a b = true \/ r = ⟨(a : Int), (b : Int)⟩ := by
 rw [Kt, Fa O4, List.mem_append, List.mem_singleton, <- Kt]
 constructor
 ·rintro (h | h)
  ·exact .inl h
  ·exact .inr h.symm
 ·rintro (h | h)
  ·exact .inl h
  ·exact .inr h.symm
theorem Wf {n : Nat} {l : List Aa} (hv : Ia n l) {i k : Nat} (hw : Gv n l i k = true) : Dn (n : Int) (Ex Il (l ++ [⟨(k : Int), (i : Int)⟩])) = 45 := by
 have hlt := hv.lt hw
 have h1 := hv.n24
 have hne : i ≠ k := fun e => by subst e; rw [hv.acy i] at hw; cases hw
 unfold Dn
 rw [if_neg (by omega)]
 have h2 : ¬ (Ex Il (l ++ [⟨(k : Int), (i : Int)⟩])).any (Js (n : Int)) = true := fun hb => by
  obtain ⟨r, hr, hb⟩ := List.any_eq_true.1 hb
  unfold Js at hb
  simp only [Bool.or_eq_true, decide_eq_true_eq] at hb
  rcases List.mem_append.1 ((Fa O4).1 hr) with hr | hr
  ·have := hv.inr r hr
   have := hv.ne r hr
   omega
  ·rw [List.mem_singleton.1 hr] at hb
   simp only at hb
   omega
 rw [if_neg h2, if_neg (fun q => q (Ki O4 _))]
 refine if_pos (List.any_eq_true.2 ⟨i, List.mem_range.2 (by simp; exact hlt.1), ?_⟩)
 show Gv (n : Int).toNat _ i i = true
 rw [Int.toNat_natCast]
 have hin : hO n (Ex Il (l ++ [⟨(k : Int), (i : Int)⟩])) := fun r hr => by
  rcases List.mem_append.1 ((Fa O4).1 hr) with hr | hr
  ·exact hv.inr r hr
  ·rw [List.mem_singleton.1 hr]
   simp only
   omega
 refine (Ke fun _ _ => Mz hin).2 (TC.trans (b := k) ?_ (.one ?_))
 ·exact (hv.wr.1 hw).mono fun a b h => Oi.2 (.inl h)
 ·exact Oi.2 (.inr rfl)
theorem eA {n : Nat} {l : List Aa} (hv : Ia n l) {u v : Nat} (hu : u < n) (hvn : v < n) (hne : u ≠ v) (hno : Gv n l v u = false) : Ia n (Ex Il (l ++ [⟨(u : Int), (v : Int)⟩])) := by
 have hin : hO n (Ex Il (l ++ [⟨(u : Int), (v : Int)⟩])) := fun r hr => by
  rcases List.mem_append.1 ((Fa O4).1 hr) with hr | hr
  ·exact hv.inr r hr
  ·rw [List.mem_singleton.1 hr]
   simp only
   omega
 have key : ∀ a b, TC (fun a b => Iw (Ex Il (l ++ [⟨(u : Int), (v : Int)⟩])) a b = true) a b -> Gv n l a b = true \/ ((a = u \/ Gv n l a u = true) /\ (v = b \/ Gv n l v b = true)) := by
  have one : ∀ a b, Iw (Ex Il (l ++ [⟨(u : Int), (v : Int)⟩])) a b = true -> Gv n l a b = true \/ (a = u /\ b = v) := fun a b e => by
   rcases Oi.1 e with e | e
   ·exact .inl (hv.wr.2 (.one e))
   ·injection e with e1 e2
    exact .inr ⟨by omega, by omega⟩
  intro a b h
  induction h with
  | one e =>
   rcases one _ _ e with h | ⟨h1, h2⟩
   ·exact .inl h
   ·exact .inr ⟨.inl h1, .inl h2.symm⟩
  | step e _ ih =>
   rcases one _ _ e with h | ⟨h1, h2⟩
   ·rcases ih with ih | ⟨ih1, ih2⟩
    ·exact .inl (hv.tr h ih)
    ·refine .inr ⟨.inr ?_, ih2⟩
     rcases ih1 with ih1 | ih1
     ·rw [<- ih1]; exact h
     ·exact hv.tr h ih1
   ·refine .inr ⟨.inl h1, ?_⟩
    rcases ih with ih | ⟨-, ih2⟩
    ·rw [h2] at ih; exact .inr ih
    ·exact ih2
 refine ⟨hv.n24, hin, fun r hr => ?_, Ki O4 _, fun i => ?_⟩
 ·rcases List.mem_append.1 ((Fa O4).1 hr) with hr | hr
  ·exact hv.ne r hr
  ·rw [List.mem_singleton.1 hr]
   simp only
   omega
 ·cases hi : Gv n (Ex Il (l ++ [⟨(u : Int), (v : Int)⟩])) i i with
  | false => rfl
  | true =>
   have := key i i ((Ke fun _ _ => Mz hin).1 hi)
   rcases this with h | ⟨h1, h2⟩
   ·rw [hv.acy i] at h; cases h
   ·have : Gv n l v u = true := by
     rcases h2 with h2 | h2
     ·rcases h1 with h1 | h1
      ·exact (hne (by omega)).elim
      ·rw [h2]; exact h1
     ·rcases h1 with h1 | h1
      ·rw [<- h1]; exact h2
      ·exact hv.tr h2 h1
    rw [hno] at this; cases this
theorem Yy (l : List Aa) (r : Aa) (h : l.length <= 100000) : D3 l r = some (decide (r ∈ l)) := by
 have e : decide (r ∈ l) = l.any fun x => decide (x = r) := by
  cases ha : l.any fun x => decide (x = r) with
  | true =>
   obtain ⟨x, h1, h2⟩ := List.any_eq_true.1 ha
   have := of_decide_eq_true h2
   subst this
   exact decide_eq_true h1
  | false =>
   refine decide_eq_false fun hm => ?_
   have := List.any_eq_false.1 ha r hm
   exact this (decide_eq_true rfl)
 unfold D3
 rw [e]
 refine (Py l (fun x => decide (x = r)) true false (Qk (by omega)) (fun i x hx => ?_) ?_).trans (by cases l.any fun x => decide (x = r) <;> rfl)
 ·unfold D3.l1
  rw [Dx hx]
  cases decide (x = r) <;> rfl
 ·unfold D3.l1
  rw [Dt]; rfl
theorem Q9 (haw : C5 = some true) (t : List Int) (a b : UInt8) : A4 t a b = some true := by
 unfold A4 D9
 rw [Option.bind_some]
 by_cases hl : (t.length : Int) <= 400
 ·rw [decide_eq_true hl, Bool.not_true, cond_false]
  refine Ok.true_ ?_
  refine Ok.bind (Uo (by omega)) fun d hd => ?_
  refine Ok.bind (H5 hd 7 (by omega) (by omega)) fun y4 h4 => ?_
  obtain ⟨hM, -⟩ := h4
  have hv := hM.vok (by omega)
  have hlen := hM.len
  rcases T2 (7 : Int) y4.1 (by omega) with ⟨h, -⟩ | ⟨m, hm, -, -, eC⟩
  ·exact (h hv.chk).elim
  ·have : m = 7 := by omega
   subst this
   rw [eC, Option.bind_some]
   show Ok (B2 (fun q' => A4.l1 a b y4 (Hz 7 y4.1, 0) q') 0) _
   have hcl : (Hz 7 y4.1).length <= 49 := F2 (Gv 7 y4.1) 7 7
   have hmem : ∀ {r : Aa}, r ∈ Hz 7 y4.1 ↔ ∃ i k : Nat, Gv 7 y4.1 i k = true /\ r = ⟨(i : Int), (k : Int)⟩ := fun {r} => by
    rw [Jo]
    constructor
    ·rintro ⟨i, k, -, -, h, e⟩; exact ⟨i, k, h, e⟩
    ·rintro ⟨i, k, h, e⟩; exact ⟨i, k, (hv.lt h).1, (hv.lt h).2, h, e⟩
   refine J0 (fun i (s : Unit) => i) (Hz 7 y4.1).length (fun _ _ => True) (fun i _ hi _ => ?_) (fun _ _ => ?_) (s := ()) trivial
   ·have hx : (Hz 7 y4.1)[i]? = some (Hz 7 y4.1)[i] := List.getElem?_eq_getElem hi
    obtain ⟨u, v, hw, ex⟩ := hmem.1 (List.getElem_mem hi)
    rw [ex] at hx
    show Ok (A4.l1 a b y4 (Hz 7 y4.1, 0) (i : Int)) _
    unfold A4.l1
    rw [Dx hx]
    dsimp only
    rw [He _ _ (by simp; omega), Option.bind_some]
    have hsl := L8 Il (y4.1 ++ [(⟨(v : Int), (u : Int)⟩ : Aa)])
    rw [List.length_append, List.length_singleton] at hsl
    refine Ok.bindE (E5 7 (Ex Il (y4.1 ++ [(⟨(v : Int), (u : Int)⟩ : Aa)])) (by omega)).1 ?_
    have hbl : Dn 7 (Ex Il (y4.1 ++ [(⟨(v : Int), (u : Int)⟩ : Aa)])) = 45 := Wf hv hw
    rw [hbl]
    show Ok (B2 (fun q' => A4.l2 (Hz 7 y4.1, 0) (i : Int) ⟨(u : Int), (v : Int)⟩ q') 0) _
    refine J0 (fun i (s : Unit) => i) (Hz 7 y4.1).length (fun _ _ => True) (fun j _ hj _ => ?_) (fun _ _ => ?_) (s := ()) trivial
    ·have hy : (Hz 7 y4.1)[j]? = some (Hz 7 y4.1)[j] := List.getElem?_eq_getElem hj
     obtain ⟨u2, v2, hw2, ey⟩ := hmem.1 (List.getElem_mem hj)
     rw [ey] at hy
     show Ok (A4.l2 (Hz 7 y4.1, 0) (i : Int) ⟨(u : Int), (v : Int)⟩ (j : Int)) _
     unfold A4.l2
     rw [Dx hy]
     have J : Ok (A4.j3 (j : Int) false) (Ub (fun t => ∃ s' : Unit, t = ((j + 1 : Nat) : Int) /\ True) (Ub (fun t => ∃ s' : Unit, t = ((i + 1 : Nat) : Int) /\ True) fun r => r = true)) := by
      unfold A4.j3
      rw [cond_false, W1 (by omega)]
      exact Ok.ret ⟨(), rfl, trivial⟩
     refine Ok.cond (fun hb => ?_) (fun _ => J)
     have hb : (v : Int) = (u2 : Int) := of_decide_eq_true hb
     have hb : v = u2 := by omega
     subst hb
     refine Ok.bindE (Yy (Hz 7 y4.1) _ (by omega)) ?_
     rw [decide_eq_true (hmem.2 ⟨u, v2, hv.tr hw hw2, rfl⟩)]
     exact J
    ·show Ok (A4.l2 (Hz 7 y4.1, 0) (i : Int) ⟨(u : Int), (v : Int)⟩ ((Hz 7 y4.1).length : Int)) _
     unfold A4.l2
     rw [Dt, W1 (by omega)]
     exact Ok.up (Ok.ret ⟨(), rfl, trivial⟩)
   ·show Ok (A4.l1 a b y4 (Hz 7 y4.1, 0) ((Hz 7 y4.1).length : Int)) _
    unfold A4.l1
    rw [Dt]
    refine Ok.up ?_
    have h7 : (7 : UInt8) ≠ 0 := by decide
    unfold Xd
    rw [if_neg h7, Option.bind_some, if_neg h7, Option.bind_some, He _ _ (by simp; omega), Option.bind_some]
    have hq : ∀ x : UInt8, (x % 7).toNat < 7 := fun x => by
     rw [UInt8.toNat_mod]
     exact Nat.mod_lt _ (by decide)
    have hu := hq a
    have hw := hq b
    generalize (a % 7).toNat = u at hu
    generalize (b % 7).toNat = v at hw
    have hsl := L8 Il (y4.1 ++ [(⟨(u : Int), (v : Int)⟩ : Aa)])
    rw [List.length_append, List.length_singleton] at hsl
    refine Ok.bindE (E5 7 (Ex Il (y4.1 ++ [(⟨(u : Int), (v : Int)⟩ : Aa)])) (by omega)).1 ?_
    have J : ∀ c : Int, Dn 7 (Ex Il (y4.1 ++ [(⟨(u : Int), (v : Int)⟩ : Aa)])) = c -> Ok (A4.j4 (Dn 7 (Ex Il (y4.1 ++ [(⟨(u : Int), (v : Int)⟩ : Aa)]))) c) (fun r => r = true) := fun c hc => by
     unfold A4.j4
     rw [hc, decide_eq_true rfl, haw]
     exact ⟨true, rfl, rfl⟩
    refine Ok.cond (fun hb => J 44 ?_) (fun hb => ?_)
    ·have hb : (u : Int) = (v : Int) := of_decide_eq_true hb
     unfold Dn
     rw [if_neg (by omega), if_pos]
     refine List.any_eq_true.2 ⟨⟨(u : Int), (v : Int)⟩, (Fa O4).2 (List.mem_append.2 (.inr (.head _))), ?_⟩
     unfold Js
     rw [decide_eq_true (p := (u : Int) = (v : Int)) hb]
     simp
    ·have hb : ¬ (u : Int) = (v : Int) := of_decide_eq_false hb
     refine Ok.bindE (Yy (Hz 7 y4.1) _ (by omega)) ?_
     refine Ok.cond (fun hf => J 45 ?_) (fun hf => J 0 ?_)
     ·obtain ⟨u', v', h1, h2⟩ := hmem.1 (of_decide_eq_true hf)
      injection h2 with h2 h3
      have e1 : v = u' := by omega
      have e2 : u = v' := by omega
      subst e1 e2
      exact Wf hv h1
     ·have hno : Gv 7 y4.1 v u = false := by
       cases h : Gv 7 y4.1 v u with
       | false => rfl
       | true => exact ((of_decide_eq_false hf) (hmem.2 ⟨v, u, h, rfl⟩)).elim
      exact (eA hv hu hw (by omega) hno).chk
 ·rw [decide_eq_false hl, haw]; rfl
end
section
open Go
theorem Ok.eq_ {α : Type} {x : Option α} {c : α} (h : Ok x (fun y => y = c)) : x = some c := by
 obtain ⟨y, h, rfl⟩ := h
 exact h
abbrev Gs (s : List Int) : Prop := s.Pairwise (· < ·)
theorem Oo {l m : List Int} (hl : Gs l) (hm : Gs m) (he : ∀ x, x ∈ l ↔ x ∈ m) : l = m :=
 Sv (lt := fun a b : Int => decide (a < b)) ⟨fun a => decide_eq_false (by omega), fun a b c h1 h2 => decide_eq_true (by have := of_decide_eq_true h1; have := of_decide_eq_true h2; omega), fun a b h1 h2 => by have := of_decide_eq_false h1; have := of_decide_eq_false h2; omega⟩
  (hl.imp fun h => decide_eq_true h) (hm.imp fun h => decide_eq_true h) he
structure VS (n : Nat) (s : List Int) : Prop where
 asc : Gs s
 rng : ∀ x ∈ s, 0 <= x /\ x < n
structure MS (m : Nat) (s : List Int) : Prop where
 lt : m < Ik
 bit : ∀ j : Nat, m.testBit j = decide ((j : Int) ∈ s)
def K9 (m : Nat) : List Int := (bits m).map fun (i : Nat) => (i : Int)
theorem J8 {m : Nat} (hm : m < Ik) {x : Int} : x ∈ K9 m ↔ ∃ i : Nat, x = (i : Int) /\ m.testBit i = true := by
 unfold K9
 rw [List.mem_map]
 constructor
 ·rintro ⟨i, h, rfl⟩; exact ⟨i, rfl, (Fj hm).1 h⟩
 ·rintro ⟨i, rfl, h⟩; exact ⟨i, (Fj hm).2 h, rfl⟩
theorem Lh (m : Nat) : Gs (K9 m) := by
 unfold K9
 rw [Gs, List.pairwise_map]
 exact (Nm m).imp fun h => by omega
theorem lB (m : Nat) : (K9 m).length <= 32 := by
 unfold K9 bits
 rw [List.length_map]
 have := List.length_filter_le m.testBit (List.range 32)
 rw [List.length_range] at this
 exact this
theorem Zo {m : Nat} (hm : m < Ik) : MS m (K9 m) := ⟨hm, fun j => by
 cases h : m.testBit j with
 | true => exact (decide_eq_true ((J8 hm).2 ⟨j, rfl, h⟩)).symm
 | false => exact (decide_eq_false fun hj => by
   obtain ⟨i, e, hi⟩ := (J8 hm).1 hj
   have : i = j := by omega
   rw [this, h] at hi; cases hi).symm⟩
theorem MS.lst_eq {m : Nat} {s : List Int} (h : MS m s) (ha : Gs s) (h0 : ∀ x ∈ s, 0 <= x) : s = K9 m := by
 refine Oo ha (Lh m) fun x => ?_
 rw [J8 h.lt]
 constructor
 ·intro hx
  have := h0 x hx
  refine ⟨x.toNat, by omega, ?_⟩
  rw [h.bit, decide_eq_true]
  rw [show ((x.toNat : Nat) : Int) = x by omega]
  exact hx
 ·rintro ⟨i, rfl, hi⟩
  rw [h.bit] at hi
  exact of_decide_eq_true hi
theorem Ni {m : Nat} (hm : m < Ik) : Cy (m : Int) = some (K9 m) := by
 have hbl : (bits m).length <= 32 := by
  have := lB m
  unfold K9 at this
  rwa [List.length_map] at this
 have hr := Ta (k := 8) (rnd := fun a => Cy.r1 (a : Int)) (f := fun (a : Nat) => (a : Int)) (fun a out => rfl) (bits m) [] (by simp; omega)
 obtain ⟨z, hz⟩ := Om (fun a => Cy.r1 a) _ m (Nat.le_refl _) hm [] _ hr
 unfold Cy C7
 rw [Option.bind_some, hz, Option.bind_some]
 rfl
theorem W9 (s : List Int) (x : Int) (h : s.length <= 100000) : Ec s x = some (decide (x ∈ s)) := by
 have e : decide (x ∈ s) = s.any fun y => decide (y = x) := by
  cases ha : s.any fun y => decide (y = x) with
  | true =>
   obtain ⟨y, h1, h2⟩ := List.any_eq_true.1 ha
   have := of_decide_eq_true h2
   subst this
   exact decide_eq_true h1
  | false => exact decide_eq_false fun hm => List.any_eq_false.1 ha x hm (decide_eq_true rfl)
 unfold Ec
 rw [e]
 refine (Py s (fun y => decide (y = x)) true false (Qk (by omega)) (fun i y hy => ?_) ?_).trans (by cases s.any fun y => decide (y = x) <;> rfl)
 ·unfold Ec.l1
  rw [Dx hy]
  cases decide (y = x) <;> rfl
 ·unfold Ec.l1
  rw [Dt]; rfl
theorem Xa (s : List Int) (x : Int) (h : s.length <= 100000) : Fo s x = some (decide (x ∈ s)) := W9 s x h
def So (n : Nat) (l : List Aa) (s : List Int) : Prop := ∀ a b : Nat, Gv n l a b = true -> (b : Int) ∈ s -> (a : Int) ∈ s
def F8 (l : List Aa) (s : List Int) : Bool := !(l.any fun r => decide (r.Then ∈ s) && !decide (r.First ∈ s))
theorem Tm (l : List Aa) (s : List Int) (hl : l.length <= 1000) (hs : s.length <= 100000) : Cj l s = some (F8 l s) := by
 unfold Cj F8
 refine (Py l (fun r => decide (r.Then ∈ s) && !decide (r.First ∈ s)) false true (Qk (by omega)) (fun i r hr => ?_) ?_).trans (by cases l.any fun r => decide (r.Then ∈ s) && !decide (r.First ∈ s) <;> rfl)
 ·unfold Cj.l1 Cj.j2
  rw [Dx hr, W9 _ _ hs, Option.bind_some, W9 _ _ hs, Option.bind_some]
  cases decide (r.Then ∈ s) <;> cases decide (r.First ∈ s) <;> rfl
 ·unfold Cj.l1
  rw [Dt]; rfl
theorem Fx {n : Nat} {l : List Aa} (hv : Ia n l) {s : List Int} : F8 l s = true ↔ So n l s := by
 unfold F8
 rw [Bool.not_eq_true', List.any_eq_false]
 constructor
 ·intro h a b hw
  have ht := hv.wr.1 hw
  have one : ∀ a b : Nat, Iw l a b = true -> (b : Int) ∈ s -> (a : Int) ∈ s := fun a b he hb => by
   have := h _ (Kt.1 he)
   rw [decide_eq_true hb, Bool.true_and, Bool.not_eq_true', decide_eq_false_iff_not] at this
   exact Decidable.not_not.1 this
  induction ht with
  | one e => exact one _ _ e
  | step e hs ih => exact fun hc => one _ _ e (ih (hv.wr.2 hs) hc)
 ·intro h r hr
  obtain ⟨q1, q2, q3, q4⟩ := hv.inr r hr
  intro hb
  rw [Bool.and_eq_true, Bool.not_eq_true', decide_eq_false_iff_not] at hb
  have hb1 := of_decide_eq_true hb.1
  refine hb.2 ?_
  have := h r.First.toNat r.Then.toNat (hv.wr.2 (.one (Kt.2 ?_)))
  ·rw [show ((r.First.toNat : Nat) : Int) = r.First by omega, show ((r.Then.toNat : Nat) : Int) = r.Then by omega] at this
   exact this hb1
  ·rw [show ((r.First.toNat : Nat) : Int) = r.First by omega, show ((r.Then.toNat : Nat) : Int) = r.Then by omega]
   exact hr
theorem Ye {a b : Nat} (ha : a < Ik) (hb : b < Ik) : U3 a b = 0 ↔ ∀ j, a.testBit j = true -> b.testBit j = true := by
 constructor
 ·intro h j hj
  have := W6 ha hb j
  rw [h, Nat.zero_testBit, hj, Bool.true_and] at this
  cases hbj : b.testBit j with
  | true => rfl
  | false => rw [hbj] at this; cases this
 ·intro h
  refine Nat.eq_of_testBit_eq fun j => ?_
  rw [W6 ha hb, Nat.zero_testBit]
  cases hj : a.testBit j with
  | false => rfl
  | true => rw [h j hj]; rfl
theorem K0 {n : Nat} {l : List Aa} {o : Ap} (hv : Ia n l) (ho : Qn n l o) {m : Nat} {s : List Int} (hm : MS m s) (hs : VS n s) : Bq o (m : Int) = some (F8 l s, o) := by
 have hn := hv.n24
 have run : ∀ bs : List Nat, (∀ a ∈ bs, a < n) -> ∃ c : Nat, Qm (fun a _ => Bq.r1 o (m : Int) (a : Int)) bs () = some (c, ()) /\ (c = 0 \/ c = 1) /\ (c = 0 ↔ ∀ a ∈ bs, ∀ j, Gv n l j a = true -> (j : Int) ∈ s) := by
  intro bs
  induction bs with
  | nil => intro _; exact ⟨0, rfl, .inl rfl, ⟨fun _ a h => (by cases h), fun _ => rfl⟩⟩
  | cons a bs ih =>
   intro hbs
   obtain ⟨k, b1, b2, b3⟩ := ho.before.row a (hbs a (.head _))
   have hz : (U3 k m = 0) ↔ ∀ j, Gv n l j a = true -> (j : Int) ∈ s := by
    rw [Ye b2 hm.lt]
    constructor
    ·intro h j hw
     have := h j (by rw [b3 j, hw, decide_eq_true (hv.lt hw).1]; rfl)
     rw [hm.bit] at this
     exact of_decide_eq_true this
    ·intro h j hj
     rw [b3 j, Bool.and_eq_true] at hj
     rw [hm.bit]
     exact decide_eq_true (h j hj.2)
   have er : Bq.r1 o (m : Int) (a : Int) = some (if U3 k m = 0 then (0, ()) else (1, ())) := by
    unfold Bq.r1
    rw [F6 b1, Option.bind_some, Uk b2 hm.lt]
    by_cases h : U3 k m = 0
    ·rw [h, if_pos rfl]; rfl
    ·rw [if_neg h, decide_eq_false (by omega)]; rfl
   unfold Qm
   by_cases h : U3 k m = 0
   ·obtain ⟨c, e, h1, h2⟩ := ih fun x hx => hbs x (.tail _ hx)
    refine ⟨c, ?_, h1, h2.trans ⟨fun q x hx => ?_, fun q x hx => q x (.tail _ hx)⟩⟩
    ·rw [er, Option.bind_some, if_pos h, if_pos rfl]; exact e
    ·rcases List.mem_cons.1 hx with rfl | hx
     ·exact hz.1 h
     ·exact q x hx
   ·refine ⟨1, ?_, .inr rfl, ⟨fun q => (by cases q), fun q => (h (hz.2 (q a (.head _)))).elim⟩⟩
    rw [er, Option.bind_some, if_neg h]; rfl
 have hbs : ∀ a ∈ bits m, a < n := fun a ha => by
  have := (Fj hm.lt).1 ha
  rw [hm.bit] at this
  have := hs.rng _ (of_decide_eq_true this)
  omega
 obtain ⟨c, e, h1, h2⟩ := run (bits m) hbs
 obtain ⟨z, hz⟩ := Om (fun a _ => Bq.r1 o (m : Int) a) _ m (Nat.le_refl _) hm.lt () (c, ()) e
 have hcl : c = 0 ↔ So n l s := by
  rw [h2]
  constructor
  ·intro h a b hw hb
   exact h b ((Fj hm.lt).2 (by rw [hm.bit]; exact decide_eq_true hb)) a hw
  ·intro h a ha j hw
   have := (Fj hm.lt).1 ha
   rw [hm.bit] at this
   exact h j a hw (of_decide_eq_true this)
 unfold Bq C7
 rw [Option.bind_some, hz, Option.bind_some]
 rcases h1 with rfl | rfl
 ·rw [(Fx hv).2 (hcl.1 rfl)]; rfl
 ·have : F8 l s = false := by
   cases hc : F8 l s with
   | false => rfl
   | true => have := hcl.2 ((Fx hv).1 hc); cases this
  rw [this]; rfl
theorem J2 {n : Nat} {o : Ap} (hn : n <= 24) (ho : o.n = (n : Int)) (s : List Int) (hs : s.length <= 1000) : (VS n s /\ ∃ m, MS m s /\ Bc o s = some ((m : Int), true, o)) \/ (¬ VS n s /\ Bc o s = some (0, false, o)) := by
 have key : Ok (Bc o s) (fun y => (VS n s /\ ∃ m, MS m s /\ y = (((m : Nat) : Int), true, o)) \/ (¬ VS n s /\ y = (0, false, o))) := by
  unfold Bc
  refine J0 (fun i (q : Int × Int) => (q.1, q.2, i)) s.length (fun i q => VS n (s.take i) /\ (∃ m, MS m (s.take i) /\ q.1 = ((m : Nat) : Int)) /\ -1 <= q.2 /\ (∀ x ∈ s.take i, x <= q.2) /\ (q.2 = -1 \/ q.2 ∈ s.take i)) (fun i q hi h => ?_) (fun q h => ?_) (s := (0, -1)) ⟨⟨.nil, fun x hx => by simp at hx⟩, ⟨0, ⟨by decide, fun j => by simp⟩, rfl⟩, Int.le_refl _, fun x hx => by simp at hx, .inl rfl⟩
  ·obtain ⟨sm, last⟩ := q
   obtain ⟨h1, ⟨m, h2, h3⟩, h4, h5, h6⟩ := h
   dsimp only at h3 h4 h5 h6
   subst h3
   have hx : s[i]? = some s[i] := List.getElem?_eq_getElem hi
   show Ok (Bc.l1 o s (m : Int) last (i : Int)) _
   unfold Bc.l1
   rw [Dx hx, ho]
   have bad : (s[i] <= last \/ (n : Int) <= s[i]) -> ¬ VS n s := fun hb hv => by
    have h7 := hv.rng _ (List.getElem_mem hi)
    rcases hb with hb | hb
    ·rcases h6 with h6 | h6
     ·omega
     ·obtain ⟨j, hj⟩ := List.mem_iff_getElem?.1 h6
      rw [List.getElem?_take] at hj
      split at hj
      ·rename_i hji
       obtain ⟨hj1, hj2⟩ := List.getElem?_eq_some_iff.1 hj
       have := List.pairwise_iff_getElem.1 hv.asc j i hj1 hi hji
       omega
      ·cases hj
    ·omega
   have good : last < s[i] -> s[i] < (n : Int) -> Ok (Bc.j2 o (m : Int) (i : Int) s[i] false) (Ub (fun t => ∃ q' : Int × Int, t = (q'.1, q'.2, ((i + 1 : Nat) : Int)) /\ VS n (s.take (i + 1)) /\ (∃ m, MS m (s.take (i + 1)) /\ q'.1 = ((m : Nat) : Int)) /\ -1 <= q'.2 /\ (∀ x ∈ s.take (i + 1), x <= q'.2) /\ (q'.2 = -1 \/ q'.2 ∈ s.take (i + 1))) (fun y => (VS n s /\ ∃ m, MS m s /\ y = (((m : Nat) : Int), true, o)) \/ (¬ VS n s /\ y = (0, false, o)))) := fun g1 g2 => by
    obtain ⟨k, hk⟩ : ∃ k : Nat, s[i] = (k : Int) := ⟨s[i].toNat, by omega⟩
    unfold Bc.j2
    rw [cond_false, hk, Q3 (by omega), Option.bind_some, Xs h2.lt (K6 (by omega)), W1 (by omega)]
    refine Ok.ret ⟨(((m ||| 2 ^ k : Nat) : Int), (k : Int)), rfl, ⟨?_, ?_⟩, ⟨m ||| 2 ^ k, ⟨Sc h2.lt (K6 (by omega)), fun j => ?_⟩, rfl⟩, by show (-1 : Int) <= k; omega, fun x hx' => ?_, .inr ?_⟩
    ·rw [Dq hx]
     refine List.pairwise_append.2 ⟨h1.asc, List.pairwise_singleton _ _, fun a ha b hb => ?_⟩
     rw [List.mem_singleton.1 hb]
     have := h5 a ha
     omega
    ·intro x hx'
     rw [Dq hx] at hx'
     rcases List.mem_append.1 hx' with h | h
     ·exact h1.rng x h
     ·rw [List.mem_singleton.1 h]; omega
    ·rw [Nat.testBit_or, h2.bit, Nat.testBit_two_pow, Dq hx, hk]
     by_cases hj : k = j
     ·subst hj; simp
     ·rw [decide_eq_false hj]
      have : ¬ (j : Int) = (k : Int) := by omega
      simp [this]
    ·rw [Dq hx] at hx'
     show x <= (k : Int)
     rcases List.mem_append.1 hx' with h | h
     ·have := h5 x h; omega
     ·rw [List.mem_singleton.1 h]; omega
    ·rw [Dq hx]
     show (k : Int) ∈ _
     rw [<- hk]
     exact List.mem_append.2 (.inr (.head _))
   have out : ∀ b : Bool, b = true -> (s[i] <= last \/ (n : Int) <= s[i]) -> Ok (Bc.j2 o (m : Int) (i : Int) s[i] b) (Ub (fun t => ∃ q' : Int × Int, t = (q'.1, q'.2, ((i + 1 : Nat) : Int)) /\ VS n (s.take (i + 1)) /\ (∃ m, MS m (s.take (i + 1)) /\ q'.1 = ((m : Nat) : Int)) /\ -1 <= q'.2 /\ (∀ x ∈ s.take (i + 1), x <= q'.2) /\ (q'.2 = -1 \/ q'.2 ∈ s.take (i + 1))) (fun y => (VS n s /\ ∃ m, MS m s /\ y = (((m : Nat) : Int), true, o)) \/ (¬ VS n s /\ y = (0, false, o)))) := fun b hb hq => by
    subst hb
    exact Ok.up (Ok.ret (.inr ⟨bad hq, rfl⟩))
   refine Ok.cond (fun hb => out _ rfl (.inl (of_decide_eq_true hb))) (fun hb => ?_)
   have hb := of_decide_eq_false hb
   cases hd : decide ((n : Int) <= s[i]) with
   | true => exact out _ rfl (.inr (of_decide_eq_true hd))
   | false => exact good (by omega) (by have := of_decide_eq_false hd; omega)
  ·obtain ⟨sm, last⟩ := q
   obtain ⟨h1, ⟨m, h2, h3⟩, -⟩ := h
   dsimp only at h3
   subst h3
   rw [List.take_length] at h1 h2
   show Ok (Bc.l1 o s (m : Int) last (s.length : Int)) _
   unfold Bc.l1
   rw [Dt]
   exact Ok.up (Ok.ret (.inl ⟨h1, m, h2, rfl⟩))
 obtain ⟨y, e, h⟩ := key
 rcases h with ⟨h, m, h1, rfl⟩ | ⟨h, rfl⟩
 ·exact .inl ⟨h, m, h1, e⟩
 ·exact .inr ⟨h, e⟩
theorem Li {n : Nat} (s : List Int) (hs : s.length <= 1000) : (VS n s /\ Bm s (n : Int) = some true) \/ (¬ VS n s /\ Bm s (n : Int) = some false) := by
 have key : Ok (Bm s (n : Int)) (fun y => (VS n s /\ y = true) \/ (¬ VS n s /\ y = false)) := by
  unfold Bm
  refine J0 (fun i (q : Unit) => i) s.length (fun i _ => (∀ x ∈ s.take i, 0 <= x /\ x < n) /\ ∀ j a b, j + 1 < i -> s[j]? = some a -> s[j + 1]? = some b -> a < b) (fun i q hi h => ?_) (fun q h => ?_) (s := ()) ⟨fun x hx => by simp at hx, fun j a b hj => by omega⟩
  ·obtain ⟨h1, h2⟩ := h
   obtain ⟨x, hx⟩ : ∃ x, s[i]? = some x := ⟨_, List.getElem?_eq_getElem hi⟩
   show Ok (Bm.l1 s (n : Int) (i : Int)) _
   unfold Bm.l1
   rw [Dx hx]
   have out : ∀ b : Bool, b = true -> ¬ VS n s -> Ok (Bm.j2 (i : Int) b) (Ub (fun t => ∃ q' : Unit, t = ((i + 1 : Nat) : Int) /\ (∀ x ∈ s.take (i + 1), 0 <= x /\ x < n) /\ ∀ j a b, j + 1 < i + 1 -> s[j]? = some a -> s[j + 1]? = some b -> a < b) (fun y => (VS n s /\ y = true) \/ (¬ VS n s /\ y = false))) := fun b hb hq => by
    subst hb
    exact Ok.up (Ok.ret (.inr ⟨hq, rfl⟩))
   refine Ok.cond (fun hb => out _ rfl fun hv => ?_) (fun hb => ?_)
   ·have := hv.rng x (H8 hx); have := of_decide_eq_true hb; omega
   refine Ok.cond (fun hb2 => out _ rfl fun hv => ?_) (fun hb2 => ?_)
   ·have := hv.rng x (H8 hx); have := of_decide_eq_true hb2; omega
   have hb := of_decide_eq_false hb
   have hb2 := of_decide_eq_false hb2
   have good : (∀ a, 0 < i -> s[i - 1]? = some a -> a < x) -> Ok (Bm.j2 (i : Int) false) (Ub (fun t => ∃ q' : Unit, t = ((i + 1 : Nat) : Int) /\ (∀ x ∈ s.take (i + 1), 0 <= x /\ x < n) /\ ∀ j a b, j + 1 < i + 1 -> s[j]? = some a -> s[j + 1]? = some b -> a < b) (fun y => (VS n s /\ y = true) \/ (¬ VS n s /\ y = false))) := fun hq => by
    unfold Bm.j2
    rw [cond_false, W1 (by omega)]
    refine Ok.ret ⟨(), rfl, fun y hy => ?_, fun j a b hj ha hb' => ?_⟩
    ·rw [Dq hx] at hy
     rcases List.mem_append.1 hy with h | h
     ·exact h1 y h
     ·rw [List.mem_singleton.1 h]; omega
    ·by_cases hji : j + 1 < i
     ·exact h2 j a b hji ha hb'
     ·have : j + 1 = i := by omega
      subst this
      rw [hx] at hb'
      injection hb' with hb'
      rw [<- hb']
      exact hq a (by omega) (by rw [Nat.add_sub_cancel]; exact ha)
   by_cases h0 : 0 < i
   ·obtain ⟨p, hp⟩ : ∃ p, s[i - 1]? = some p := ⟨_, List.getElem?_eq_getElem (by omega)⟩
    have ei : W ((i : Int) - 1) = ((i - 1 : Nat) : Int) := by rw [Em (by omega)]; omega
    rw [decide_eq_true (show (0 : Int) < (i : Int) by omega), cond_true, ei, F6 hp, Option.bind_some]
    cases hd : decide (x <= p) with
    | true =>
     refine out _ rfl fun hv => ?_
     have hd := of_decide_eq_true hd
     obtain ⟨q1, rfl⟩ := List.getElem?_eq_some_iff.1 hp
     obtain ⟨q2, rfl⟩ := List.getElem?_eq_some_iff.1 hx
     have := List.pairwise_iff_getElem.1 hv.asc (i - 1) i q1 q2 (by omega)
     omega
    | false =>
     refine good fun a _ ha => ?_
     rw [hp] at ha
     injection ha with ha
     have := of_decide_eq_false hd
     omega
   ·rw [decide_eq_false (show ¬ (0 : Int) < (i : Int) by omega), cond_false]
    exact good fun a h => (h0 h).elim
  ·obtain ⟨h1, h2⟩ := h
   rw [List.take_length] at h1
   show Ok (Bm.l1 s (n : Int) (s.length : Int)) _
   unfold Bm.l1
   rw [Dt]
   exact Ok.up (Ok.ret (.inl ⟨⟨aW (R := fun a b : Int => a < b) (fun a b c h1 h2 => Int.lt_trans h1 h2) fun i hi a b ha hb => h2 i a b hi ha hb, h1⟩, rfl⟩))
 obtain ⟨y, e, h⟩ := key
 rcases h with ⟨h, rfl⟩ | ⟨h, rfl⟩
 ·exact .inl ⟨h, e⟩
 ·exact .inr ⟨h, e⟩
end
section
open Go
theorem iZ {s : List Int} (ha : Gs s) {i : Nat} {e : Int} (he : s[i]? = some e) : ∀ x ∈ s.take i, x < e := fun x hx => by
 obtain ⟨j, hj⟩ := List.mem_iff_getElem?.1 hx
 rw [List.getElem?_take] at hj
 split at hj
 ·rename_i hji
  obtain ⟨q1, rfl⟩ := List.getElem?_eq_some_iff.1 hj
  obtain ⟨q2, rfl⟩ := List.getElem?_eq_some_iff.1 he
  exact List.pairwise_iff_getElem.1 ha j i q1 q2 hji
 ·cases hj
theorem kM {s : List Int} (ha : Gs s) {i : Nat} {e : Int} (he : s[i]? = some e) : ∀ x ∈ s.drop (i + 1), e < x := fun x hx => by
 obtain ⟨j, hj⟩ := List.mem_iff_getElem?.1 hx
 rw [List.getElem?_drop] at hj
 obtain ⟨q1, rfl⟩ := List.getElem?_eq_some_iff.1 hj
 obtain ⟨q2, rfl⟩ := List.getElem?_eq_some_iff.1 he
 exact List.pairwise_iff_getElem.1 ha i (i + 1 + j) q2 q1 (by omega)
theorem Nz {l : List Int} {x : Int} (ha : Gs l) (h : ∀ y ∈ l, y < x) : Gs (l ++ [x]) :=
 List.pairwise_append.2 ⟨ha, List.pairwise_singleton _ _, fun a h1 b hb => by rw [List.mem_singleton.1 hb]; exact h a h1⟩
theorem U4 {l : List Int} {x : Int} (h : l.length <= 100000) : G8 8 l [x] = some (l ++ [x]) := Fk (by rw [List.length_singleton]; omega)
theorem bT {s : List Int} (ha : Gs s) (hs : s.length <= 1000) (n : Int) (has : Bool) : ∃ w, Bg s n has = some w /\ Gs w /\ w.length <= s.length + 1 /\ ∀ x, x ∈ w ↔ (has = true /\ x = n) \/ (x ∈ s /\ x ≠ n) := by
 unfold Bg
 refine J0 (fun i (q : Bool × List Int) => (q.1, i, q.2)) s.length (fun i q => Gs q.2 /\ (q.1 = true -> has = true /\ ∀ x ∈ s.drop i, n < x) /\ (has = true -> q.1 = false -> ∀ x ∈ s.take i, x <= n) /\ q.2.length <= i + 1 /\ (q.1 = false -> q.2.length <= i) /\ ∀ x, x ∈ q.2 ↔ (q.1 = true /\ x = n) \/ (x ∈ s.take i /\ x ≠ n)) (fun i q hi h => ?_) (fun q h => ?_) (s := (false, [])) ⟨.nil, fun h => (by cases h), fun _ _ x hx => (by simp at hx), (by simp), (by simp), fun x => (by simp)⟩
 ·obtain ⟨put, out⟩ := q
  obtain ⟨h1, h2, h3, h4, h4', h5⟩ := h
  dsimp only at h1 h2 h3 h4 h4' h5
  obtain ⟨e, he⟩ : ∃ e, s[i]? = some e := ⟨_, List.getElem?_eq_getElem hi⟩
  have hlt := iZ ha he
  have hgt := kM ha he
  have hdrop : e ∈ s.drop i := by
   have : (s.drop i)[0]? = some e := by rw [List.getElem?_drop]; exact he
   exact List.mem_of_getElem? this
  have hds : ∀ x ∈ s.drop (i + 1), x ∈ s.drop i := fun x hx => by
   rw [<- List.drop_drop (i := 1) (j := i) (l := s)] at hx
   exact List.mem_of_mem_drop hx
  show Ok (Bg.l1 s n has put (i : Int) out) _
  unfold Bg.l1
  rw [Dx he]
  have J3 : ∀ (p : Bool) (o : List Int), Gs o -> (p = true -> has = true /\ n < e) -> (has = true -> p = false -> e <= n /\ ∀ x ∈ s.take i, x <= n) -> o.length <= i + 1 -> (p = false -> o.length <= i) -> (∀ x, x ∈ o ↔ (p = true /\ x = n) \/ (x ∈ s.take i /\ x ≠ n)) ->
    Ok (Bg.j3 n (i : Int) e p o) (Ub (fun t => ∃ q' : Bool × List Int, t = (q'.1, ((i + 1 : Nat) : Int), q'.2) /\ Gs q'.2 /\ (q'.1 = true -> has = true /\ ∀ x ∈ s.drop (i + 1), n < x) /\ (has = true -> q'.1 = false -> ∀ x ∈ s.take (i + 1), x <= n) /\ q'.2.length <= i + 1 + 1 /\ (q'.1 = false -> q'.2.length <= i + 1) /\ ∀ x, x ∈ q'.2 ↔ (q'.1 = true /\ x = n) \/ (x ∈ s.take (i + 1) /\ x ≠ n)) (fun w => Gs w /\ w.length <= s.length + 1 /\ ∀ x, x ∈ w ↔ (has = true /\ x = n) \/ (x ∈ s /\ x ≠ n))) := fun p o g1 g2 g3 g4 g4' g5 => by
   unfold Bg.j3 Bg.j4
   have tk : ∀ x, x ∈ s.take (i + 1) ↔ x ∈ s.take i \/ x = e := fun x => by rw [Dq he, List.mem_append, List.mem_singleton]
   have hp : p = true -> has = true /\ ∀ x ∈ s.drop (i + 1), n < x := fun q => ⟨(g2 q).1, fun x hx => by have := hgt x hx; have := (g2 q).2; omega⟩
   have hq : has = true -> p = false -> ∀ x ∈ s.take (i + 1), x <= n := fun q1 q2 x hx => by
    rcases (tk x).1 hx with h | h
    ·exact (g3 q1 q2).2 x h
    ·rw [h]; exact (g3 q1 q2).1
   refine Ok.cond (fun hb => ?_) (fun hb => ?_)
   ·have hne : ¬ e = n := by
     rw [Bool.not_eq_true', decide_eq_false_iff_not] at hb; exact hb
    rw [U4 (by omega), Option.bind_some, W1 (by omega)]
    refine Ok.ret ⟨(p, o ++ [e]), rfl, Nz g1 fun y hy => ?_, hp, hq, by simp; omega, fun q => by have := g4' q; simp; omega, fun x => ?_⟩
    ·rcases (g5 y).1 hy with ⟨h, h'⟩ | ⟨h, -⟩
     ·rw [h']; exact (g2 h).2
     ·exact hlt y h
    ·show x ∈ o ++ [e] ↔ _
     rw [List.mem_append, List.mem_singleton, g5 x, tk x]
     constructor
     ·rintro ((h | h) | h)
      ·exact .inl h
      ·exact .inr ⟨.inl h.1, h.2⟩
      ·exact .inr ⟨.inr h, by rw [h]; exact hne⟩
     ·rintro (h | ⟨h | h, h'⟩)
      ·exact .inl (.inl h)
      ·exact .inl (.inr ⟨h, h'⟩)
      ·exact .inr h
   ·have hne : e = n := by
     rw [Bool.not_eq_false', decide_eq_true_iff] at hb; exact hb
    rw [W1 (by omega)]
    refine Ok.ret ⟨(p, o), rfl, g1, hp, hq, by show o.length <= _; omega, fun q => by have := g4' q; show o.length <= _; omega, fun x => ?_⟩
    show x ∈ o ↔ _
    rw [g5 x, tk x]
    constructor
    ·rintro (h | h)
     ·exact .inl h
     ·exact .inr ⟨.inl h.1, h.2⟩
    ·rintro (h | ⟨h | h, h'⟩)
     ·exact .inl h
     ·exact .inr ⟨h, h'⟩
     ·exact (h' (h.trans hne)).elim
  have F : (has = true -> put = false -> e <= n) -> Ok (Bg.j2 n put (i : Int) out e false) _ := fun hq => by
   unfold Bg.j2
   rw [cond_false]
   exact J3 put out h1 (fun q => ⟨(h2 q).1, (h2 q).2 e hdrop⟩) (fun q1 q2 => ⟨hq q1 q2, h3 q1 q2⟩) h4 h4' h5
  refine Ok.cond (fun hh => ?_) (fun hh => F fun q => by rw [hh] at q; cases q)
  refine Ok.cond (fun hp => ?_) (fun hp => F fun _ q => by rw [q] at hp; cases hp)
  have hp : put = false := by rw [Bool.not_eq_true'] at hp; exact hp
  by_cases hne : n < e
  ·rw [decide_eq_true hne]
   unfold Bg.j2
   rw [cond_true, U4 (by omega), Option.bind_some]
   refine J3 true (out ++ [n]) (Nz h1 fun y hy => ?_) (fun _ => ⟨hh, hne⟩) (fun _ q => by cases q) (by have := h4' hp; simp; omega) (fun q => by cases q) (fun x => ?_)
   ·rcases (h5 y).1 hy with ⟨h, -⟩ | ⟨h, h'⟩
    ·rw [hp] at h; cases h
    ·have := h3 hh hp y h; omega
   ·rw [List.mem_append, List.mem_singleton, h5 x, hp]
    constructor
    ·rintro ((⟨h, -⟩ | h) | h)
     ·cases h
     ·exact .inr h
     ·exact .inl ⟨rfl, h⟩
    ·rintro (⟨-, h⟩ | h)
     ·exact .inr h
     ·exact .inl (.inr h)
  ·rw [decide_eq_false hne]
   exact F fun _ _ => by omega
 ·obtain ⟨put, out⟩ := q
  obtain ⟨h1, h2, h3, h4, h4', h5⟩ := h
  dsimp only at h1 h2 h3 h4 h4' h5
  rw [List.take_length] at h3 h5
  show Ok (Bg.l1 s n has put (s.length : Int) out) _
  unfold Bg.l1
  rw [Dt]
  refine Ok.up ?_
  have F : (has = true -> put = true) -> Ok (Bg.j5 n out false) (fun w => Gs w /\ w.length <= s.length + 1 /\ ∀ x, x ∈ w ↔ (has = true /\ x = n) \/ (x ∈ s /\ x ≠ n)) := fun hq => by
   unfold Bg.j5
   refine Ok.ret ⟨h1, h4, fun x => ?_⟩
   rw [h5 x]
   constructor
   ·rintro (h | h)
    ·exact .inl ⟨(h2 h.1).1, h.2⟩
    ·exact .inr h
   ·rintro (h | h)
    ·exact .inl ⟨hq h.1, h.2⟩
    ·exact .inr h
  refine Ok.cond (fun hh => ?_) (fun hh => F fun q => by rw [hh] at q; cases q)
  cases hp : put with
  | true => exact F fun _ => hp
  | false =>
   unfold Bg.j5
   show Ok ((G8 8 out [n]).bind _) _
   rw [U4 (by omega), Option.bind_some]
   refine Ok.ret ⟨Nz h1 fun y hy => ?_, by have := h4' hp; simp; omega, fun x => ?_⟩
   ·rcases (h5 y).1 hy with ⟨h, -⟩ | ⟨h, h'⟩
    ·rw [hp] at h; cases h
    ·have := h3 hh hp y h; omega
   ·rw [List.mem_append, List.mem_singleton, h5 x, hp, hh]
    constructor
    ·rintro ((⟨h, -⟩ | h) | h)
     ·cases h
     ·exact .inr h
     ·exact .inl ⟨rfl, h⟩
    ·rintro (⟨-, h⟩ | h)
     ·exact .inr h
     ·exact .inl (.inr h)
def Ri (n : Nat) (l : List Aa) (s : List Int) (i : Nat) : Prop := i < n /\ ¬ (i : Int) ∈ s /\ ∀ j, Gv n l j i = true -> (j : Int) ∈ s
def Rm (n : Nat) (l : List Aa) (s : List Int) (i : Nat) : Prop := (i : Int) ∈ s /\ ∀ k, Gv n l i k = true -> ¬ (k : Int) ∈ s
theorem T5 {n : Nat} {l : List Aa} {o : Ap} (hv : Ia n l) (ho : Qn n l o) {m : Nat} {s : List Int} (hm : MS m s) : ∃ k : Nat, Bb o (m : Int) = some ((k : Int), o) /\ k < Ik /\ ∀ i, k.testBit i = true ↔ Ri n l s i := by
 have hn := hv.n24
 have key : Ok (Bb o (m : Int)) (fun y => ∃ k : Nat, y = ((k : Int), o) /\ k < Ik /\ ∀ i, k.testBit i = true ↔ Ri n l s i) := by
  unfold Bb
  refine J0 (fun i (q : Int) => (q, i)) n (fun i q => ∃ k : Nat, q = (k : Int) /\ k < Ik /\ ∀ j, k.testBit j = true ↔ j < i /\ Ri n l s j) (fun i q hi h => ?_) (fun q h => ?_) (s := 0) ⟨0, rfl, by decide, fun j => by simp⟩
  ·obtain ⟨k, rfl, h1, h2⟩ := h
   obtain ⟨e, b1, b2, b3⟩ := ho.before.row i hi
   show Ok (Bb.l1 o (m : Int) (k : Int) (i : Int)) _
   unfold Bb.l1
   rw [ho.num, P9 hi, cond_true, aI hm.lt (by omega), Option.bind_some, hm.bit i]
   have hz : (U3 e m = 0) ↔ ∀ j, Gv n l j i = true -> (j : Int) ∈ s := by
    rw [Ye b2 hm.lt]
    constructor
    ·intro h j hw
     have := h j (by rw [b3 j, hw, decide_eq_true (hv.lt hw).1]; rfl)
     rw [hm.bit] at this
     exact of_decide_eq_true this
    ·intro h j hj
     rw [b3 j, Bool.and_eq_true] at hj
     rw [hm.bit]
     exact decide_eq_true (h j hj.2)
   have nj : ¬ Ri n l s i -> Ok (Bb.j3 (i : Int) (k : Int)) (Ub (fun t => ∃ q' : Int, t = (q', ((i + 1 : Nat) : Int)) /\ ∃ k : Nat, q' = (k : Int) /\ k < Ik /\ ∀ j, k.testBit j = true ↔ j < i + 1 /\ Ri n l s j) (fun y => ∃ k : Nat, y = ((k : Int), o) /\ k < Ik /\ ∀ i, k.testBit i = true ↔ Ri n l s i)) := fun hr => by
    unfold Bb.j3
    rw [W1 (by omega)]
    refine Ok.ret ⟨_, rfl, k, rfl, h1, fun j => (h2 j).trans ⟨fun h => ⟨by omega, h.2⟩, fun h => ⟨?_, h.2⟩⟩⟩
    have : j ≠ i := fun e => hr (e ▸ h.2)
    omega
   by_cases hin : (i : Int) ∈ s
   ·rw [decide_eq_true hin]
    exact nj fun h => h.2.1 hin
   ·rw [decide_eq_false hin, Bool.not_false, cond_true, F6 b1, Option.bind_some, Uk b2 hm.lt]
    unfold Bb.j2
    by_cases h0 : U3 e m = 0
    ·rw [h0, decide_eq_true (by rfl), cond_true, Q3 (by omega), Option.bind_some, Xs h1 (K6 (by omega))]
     unfold Bb.j3
     rw [W1 (by omega)]
     refine Ok.ret ⟨_, rfl, k ||| 2 ^ i, rfl, Sc h1 (K6 (by omega)), fun j => ?_⟩
     rw [Nat.testBit_or, Nat.testBit_two_pow, Bool.or_eq_true, decide_eq_true_iff, h2 j]
     constructor
     ·rintro (h | h)
      ·exact ⟨by omega, h.2⟩
      ·subst h; exact ⟨by omega, hi, hin, hz.1 h0⟩
     ·rintro ⟨h, h'⟩
      by_cases hji : i = j
      ·exact .inr hji
      ·exact .inl ⟨by omega, h'⟩
    ·rw [decide_eq_false (by omega), cond_false]
     exact nj fun h => h0 (hz.2 h.2.2)
  ·obtain ⟨k, rfl, h1, h2⟩ := h
   show Ok (Bb.l1 o (m : Int) (k : Int) (n : Int)) _
   unfold Bb.l1
   rw [ho.num, Qx, cond_false]
   exact Ok.up (Ok.ret ⟨k, rfl, h1, fun i => (h2 i).trans ⟨fun h => h.2, fun h => ⟨h.1, h⟩⟩⟩)
 obtain ⟨y, e, k, rfl, h1, h2⟩ := key
 exact ⟨k, e, h1, h2⟩
theorem Xj {n : Nat} {l : List Aa} {o : Ap} (hv : Ia n l) (ho : Qn n l o) {m : Nat} {s : List Int} (hm : MS m s) (hs : VS n s) : ∃ k : Nat, Bt o (m : Int) = some ((k : Int), o) /\ k < Ik /\ ∀ i, k.testBit i = true ↔ Rm n l s i := by
 have hn := hv.n24
 have run : ∀ bs : List Nat, (∀ a ∈ bs, a < n) -> ∀ k0 : Nat, k0 < Ik -> ∃ k : Nat, Qm (fun a out => Bt.r1 o (m : Int) (a : Int) out) bs ((k0 : Nat) : Int) = some (0, (k : Int)) /\ k < Ik /\ ∀ j, k.testBit j = true ↔ k0.testBit j = true \/ (j ∈ bs /\ ∀ x, Gv n l j x = true -> ¬ (x : Int) ∈ s) := by
  intro bs
  induction bs with
  | nil => intro _ k0 h0; exact ⟨k0, rfl, h0, fun j => by simp⟩
  | cons a bs ih =>
   intro hbs k0 h0
   have ha := hbs a (.head _)
   obtain ⟨e, b1, b2, b3⟩ := ho.after.row a ha
   have hz : (e &&& m = 0) ↔ ∀ x, Gv n l a x = true -> ¬ (x : Int) ∈ s := by
    constructor
    ·intro h x hw hx
     have : (e &&& m).testBit x = true := by rw [Nat.testBit_and, b3 x, hw, decide_eq_true (hv.lt hw).2, hm.bit, decide_eq_true hx]; rfl
     rw [h, Nat.zero_testBit] at this; cases this
    ·intro h
     refine Nat.eq_of_testBit_eq fun x => ?_
     rw [Nat.testBit_and, b3 x, Nat.zero_testBit, hm.bit]
     cases hw : Gv n l a x with
     | false => simp
     | true => rw [decide_eq_false (h x hw), Bool.and_false]
   have hpw := K6 (show a < 32 by omega)
   unfold Qm
   by_cases h : e &&& m = 0
   ·have er : Bt.r1 o (m : Int) (a : Int) (k0 : Int) = some (0, ((k0 ||| 2 ^ a : Nat) : Int)) := by
     unfold Bt.r1
     rw [F6 b1, Option.bind_some, Z8 b2 hm.lt, h, decide_eq_true (by rfl), cond_true, Q3 (by omega), Option.bind_some, Xs h0 hpw]
    obtain ⟨k, q1, q2, q3⟩ := ih (fun x hx => hbs x (.tail _ hx)) _ (Sc h0 hpw)
    refine ⟨k, by rw [er, Option.bind_some, if_pos rfl]; exact q1, q2, fun j => ?_⟩
    rw [q3 j, Nat.testBit_or, Nat.testBit_two_pow, Bool.or_eq_true, decide_eq_true_iff, List.mem_cons]
    constructor
    ·rintro ((h' | h') | h')
     ·exact .inl h'
     ·exact .inr ⟨.inl h'.symm, by rw [<- h']; exact hz.1 h⟩
     ·exact .inr ⟨.inr h'.1, h'.2⟩
    ·rintro (h' | ⟨h' | h', h''⟩)
     ·exact .inl (.inl h')
     ·exact .inl (.inr h'.symm)
     ·exact .inr ⟨h', h''⟩
   ·have er : Bt.r1 o (m : Int) (a : Int) (k0 : Int) = some (0, (k0 : Int)) := by
     unfold Bt.r1
     rw [F6 b1, Option.bind_some, Z8 b2 hm.lt, decide_eq_false (by omega)]; rfl
    obtain ⟨k, q1, q2, q3⟩ := ih (fun x hx => hbs x (.tail _ hx)) _ h0
    refine ⟨k, by rw [er, Option.bind_some, if_pos rfl]; exact q1, q2, fun j => ?_⟩
    rw [q3 j, List.mem_cons]
    constructor
    ·rintro (h' | h')
     ·exact .inl h'
     ·exact .inr ⟨.inr h'.1, h'.2⟩
    ·rintro (h' | ⟨h' | h', h''⟩)
     ·exact .inl h'
     ·exact (h (hz.2 (h' ▸ h''))).elim
     ·exact .inr ⟨h', h''⟩
 have hbs : ∀ a ∈ bits m, a < n := fun a ha => by
  have := (Fj hm.lt).1 ha
  rw [hm.bit] at this
  have := hs.rng _ (of_decide_eq_true this)
  omega
 obtain ⟨k, q1, q2, q3⟩ := run (bits m) hbs 0 (by decide)
 obtain ⟨z, hz⟩ := Om (fun a out => Bt.r1 o (m : Int) a out) _ m (Nat.le_refl _) hm.lt 0 _ q1
 refine ⟨k, ?_, q2, fun i => (q3 i).trans ?_⟩
 ·unfold Bt C7
  rw [Option.bind_some, hz, Option.bind_some]
  rfl
 ·rw [Nat.zero_testBit, Fj hm.lt, hm.bit, decide_eq_true_iff]
  constructor
  ·rintro (h | h)
   ·cases h
   ·exact h
  ·exact .inr
theorem dM {n : Nat} {l : List Aa} (hv : Ia n l) (hl : l.length <= 1000) {s : List Int} (hs : VS n s) (hlen : s.length <= 900) (hc : So n l s) (add : Bool) : ∃ w, Bo (n : Int) l s add = some w /\ Gs w /\ ∀ x, x ∈ w ↔ ∃ j : Nat, x = (j : Int) /\ if add = true then Ri n l s j else Rm n l s j := by
 have hn := hv.n24
 have one : ∀ i, i < n -> ∀ w, Gs w -> (∀ x, x ∈ w ↔ (add = true /\ x = (i : Int)) \/ (x ∈ s /\ x ≠ (i : Int))) -> (decide ((i : Int) ∈ s) = !add) -> (F8 l w = true ↔ if add = true then Ri n l s i else Rm n l s i) := fun i hi w hw hm hq => by
  rw [Fx hv]
  cases add with
  | true =>
   have hni : ¬ (i : Int) ∈ s := of_decide_eq_false hq
   rw [if_pos rfl]
   constructor
   ·intro h
    refine ⟨hi, hni, fun j hw' => ?_⟩
    rcases (hm _).1 (h j i hw' ((hm _).2 (.inl ⟨rfl, rfl⟩))) with ⟨-, h'⟩ | h'
    ·have : j = i := by omega
     rw [this, hv.acy i] at hw'; cases hw'
    ·exact h'.1
   ·intro h a b hw' hb
    rcases (hm _).1 hb with ⟨-, h'⟩ | h'
    ·have : b = i := by omega
     subst this
     have := h.2.2 a hw'
     exact (hm _).2 (.inr ⟨this, fun e => hni (e ▸ this)⟩)
    ·have := hc a b hw' h'.1
     exact (hm _).2 (.inr ⟨this, fun e => hni (e ▸ this)⟩)
  | false =>
   have hin : (i : Int) ∈ s := of_decide_eq_true hq
   rw [if_neg (by decide)]
   constructor
   ·intro h
    refine ⟨hin, fun k hw' hk => ?_⟩
    have hki : k ≠ i := fun e => by rw [e, hv.acy i] at hw'; cases hw'
    rcases (hm _).1 (h i k hw' ((hm _).2 (.inr ⟨hk, by omega⟩))) with ⟨h', -⟩ | h'
    ·cases h'
    ·exact h'.2 rfl
   ·intro h a b hw' hb
    rcases (hm _).1 hb with ⟨h', -⟩ | h'
    ·cases h'
    ·refine (hm _).2 (.inr ⟨hc a b hw' h'.1, fun e => ?_⟩)
     have : a = i := by omega
     subst this
     exact h.2 b hw' h'.1
 unfold Bo
 refine J0 (fun i (q : List Int) => (i, q)) n (fun i q => Gs q /\ q.length <= i /\ (∀ x ∈ q, x < (i : Int)) /\ ∀ x, x ∈ q ↔ ∃ j : Nat, x = (j : Int) /\ j < i /\ if add = true then Ri n l s j else Rm n l s j) (fun i q hi h => ?_) (fun q h => ?_) (s := []) ⟨.nil, Nat.le_refl _, (fun x hx => by cases hx), fun x => by simp⟩
 ·obtain ⟨h1, h2, h3, h4⟩ := h
  show Ok (Bo.l1 (n : Int) l s add (i : Int) q) _
  unfold Bo.l1
  rw [P9 hi, cond_true, W9 _ _ (by omega), Option.bind_some]
  have no : (¬ if add = true then Ri n l s i else Rm n l s i) -> Ok (Bo.j2 (i : Int) q false) (Ub (fun t => ∃ q' : List Int, t = (((i + 1 : Nat) : Int), q') /\ Gs q' /\ q'.length <= i + 1 /\ (∀ x ∈ q', x < ((i + 1 : Nat) : Int)) /\ ∀ x, x ∈ q' ↔ ∃ j : Nat, x = (j : Int) /\ j < i + 1 /\ if add = true then Ri n l s j else Rm n l s j) (fun w => Gs w /\ ∀ x, x ∈ w ↔ ∃ j : Nat, x = (j : Int) /\ if add = true then Ri n l s j else Rm n l s j)) := fun hno => by
   unfold Bo.j2 Bo.j3
   rw [cond_false, W1 (by omega)]
   refine Ok.ret ⟨q, rfl, h1, by omega, fun x hx => by have := h3 x hx; omega, fun x => (h4 x).trans ⟨?_, ?_⟩⟩
   ·rintro ⟨j, rfl, hj, hq⟩; exact ⟨j, rfl, by omega, hq⟩
   ·rintro ⟨j, rfl, hj, hq⟩
    refine ⟨j, rfl, ?_, hq⟩
    have : j ≠ i := fun e => hno (e ▸ hq)
    omega
  by_cases hq : decide ((i : Int) ∈ s) = add
  ·rw [decide_eq_true hq, Bool.not_true, cond_false]
   refine no fun h => ?_
   cases add with
   | true => rw [if_pos rfl] at h; exact h.2.1 (of_decide_eq_true hq)
   | false => rw [if_neg (by decide)] at h; exact (of_decide_eq_false hq) h.1
  ·rw [decide_eq_false hq, Bool.not_false, cond_true]
   obtain ⟨w, w1, w2, w3, w4⟩ := bT hs.asc (by omega) (i : Int) add
   rw [w1, Option.bind_some, Tm l w hl (by omega), Option.bind_some]
   have hq' : decide ((i : Int) ∈ s) = !add := by
    cases add <;> cases hd : decide ((i : Int) ∈ s) <;> simp_all
   have hone := one i hi w w2 w4 hq'
   cases hcl : F8 l w with
   | false => exact no fun h => by rw [hone.2 h] at hcl; cases hcl
   | true =>
    unfold Bo.j2 Bo.j3
    rw [cond_true, U4 (by omega), Option.bind_some, W1 (by omega)]
    refine Ok.ret ⟨q ++ [(i : Int)], rfl, Nz h1 h3, by simp; omega, fun x hx => ?_, fun x => ?_⟩
    ·rcases List.mem_append.1 hx with h | h
     ·have := h3 x h; omega
     ·rw [List.mem_singleton.1 h]; omega
    ·rw [List.mem_append, List.mem_singleton, h4 x]
     constructor
     ·rintro (⟨j, rfl, hj, h⟩ | rfl)
      ·exact ⟨j, rfl, by omega, h⟩
      ·exact ⟨i, rfl, by omega, hone.1 hcl⟩
     ·rintro ⟨j, rfl, hj, h⟩
      by_cases hji : j = i
      ·subst hji; exact .inr rfl
      ·exact .inl ⟨j, rfl, by omega, h⟩
 ·obtain ⟨h1, h2, h3, h4⟩ := h
  show Ok (Bo.l1 (n : Int) l s add (n : Int) q) _
  unfold Bo.l1
  rw [Qx, cond_false]
  refine Ok.up (Ok.ret ⟨h1, fun x => (h4 x).trans ⟨?_, ?_⟩⟩)
  ·rintro ⟨j, rfl, hj, hq⟩; exact ⟨j, rfl, hq⟩
  ·rintro ⟨j, rfl, hq⟩
   refine ⟨j, rfl, ?_, hq⟩
   cases add with
   | true => rw [if_pos rfl] at hq; exact hq.1
   | false =>
    rw [if_neg (by decide)] at hq
    have := hs.rng _ hq.1
    omega
end
section
open Go
theorem W8 {s : List Int} (h : Gs s) : s.Nodup := h.imp fun {a b} hab => by omega
theorem Wk {s t : List Int} (h : Gs s) (k : Gs t) (hs : ∀ x ∈ s, x ∈ t) : s.length <= t.length := List.Nodup.length_le_of_subset (W8 h) hs
abbrev mP (n : Nat) : List Int := (List.range n).map fun (i : Nat) => (i : Int)
theorem Qj {n : Nat} {x : Int} : x ∈ mP n ↔ 0 <= x /\ x < n := by
 rw [List.mem_map]
 constructor
 ·rintro ⟨i, h, rfl⟩; have := List.mem_range.1 h; omega
 ·intro h; exact ⟨x.toNat, List.mem_range.2 (by omega), by omega⟩
theorem Yd (n : Nat) : Gs (mP n) := by
 rw [Gs, List.pairwise_map]
 exact List.pairwise_lt_range.imp fun h => by omega
theorem VS.len {n : Nat} {s : List Int} (h : VS n s) : s.length <= n := by
 have := Wk h.asc (Yd n) fun x hx => Qj.2 (h.rng x hx)
 rwa [List.length_map, List.length_range] at this
theorem VS.nil {n : Nat} : VS n [] := ⟨.nil, fun x h => by cases h⟩
theorem So.nil {n : Nat} {l : List Aa} : So n l [] := fun a b _ h => by cases h
theorem VS.ms {n : Nat} (hn : n <= 24) {s : List Int} (h : VS n s) : ∃ m, MS m s := by
 rcases J2 (o := ⟨(n : Int), [], []⟩) hn rfl s (by have := h.len; omega) with ⟨-, m, hm, -⟩ | ⟨h', -⟩
 ·exact ⟨m, hm⟩
 ·exact (h' h).elim
theorem VS.lst {n : Nat} {s : List Int} (h : VS n s) {m : Nat} (hm : MS m s) : s = K9 m := hm.lst_eq h.asc fun x hx => (h.rng x hx).1
theorem Uu (c : Int) (h : c ≠ 0) {α : Type} {a b : Option α} : cond (!decide (c = 0)) a b = a := by rw [decide_eq_false h]; rfl
theorem Tw {n : Int} {l : List Aa} (s : List Int) (hl : l.length <= 1000) (h : Dn n l ≠ 0) : Da n l s = some (false, Dn n l) /\ D1 n l s = some (false, Dn n l) := by
 constructor
 ·rcases Gk n l hl with ⟨-, e⟩ | ⟨m, o, -, -, -, -, hc⟩
  ·unfold Da
   rw [e, Option.bind_some]
   exact Uu _ h
  ·exact (h hc).elim
 ·unfold D1
  rw [(E5 n l hl).2, Option.bind_some]
  exact Uu _ h
theorem Lm {m : Nat} {l : List Aa} (hv : Ia m l) (hl : l.length <= 1000) : ∃ o, Qn m l o /\ Ay (m : Int) l = some (some o, 0) := by
 rcases Gk (m : Int) l hl with ⟨h, -⟩ | ⟨m', o, hm, -, ho, e, -⟩
 ·exact (h hv.chk).elim
 ·have : m' = m := by omega
  subst this
  exact ⟨o, ho, e⟩
theorem T7 {m : Nat} {l : List Aa} (hv : Ia m l) (hl : l.length <= 1000) {s : List Int} (hs : s.length <= 1000) (h : ¬ VS m s) : Da (m : Int) l s = some (false, 46) /\ D1 (m : Int) l s = some (false, 46) := by
 obtain ⟨o, ho, e⟩ := Lm hv hl
 constructor
 ·unfold Da
  rw [e, Option.bind_some]
  show (Bc o s).bind _ = _
  rcases J2 hv.n24 ho.num s hs with ⟨h', -⟩ | ⟨-, e2⟩
  ·exact (h h').elim
  ·rw [e2]; rfl
 ·unfold D1
  rw [(E5 _ l hl).2, hv.chk, Option.bind_some]
  show (Bm s (m : Int)).bind _ = _
  rcases Li (n := m) s hs with ⟨h', -⟩ | ⟨-, e2⟩
  ·exact (h h').elim
  ·rw [e2]; rfl
theorem Hb {m : Nat} {l : List Aa} (hv : Ia m l) (hl : l.length <= 1000) {s : List Int} (h : VS m s) : Da (m : Int) l s = some (F8 l s, 0) /\ D1 (m : Int) l s = some (F8 l s, 0) := by
 obtain ⟨o, ho, e⟩ := Lm hv hl
 have hs := h.len
 have hn := hv.n24
 constructor
 ·unfold Da
  rw [e, Option.bind_some]
  show (Bc o s).bind _ = _
  rcases J2 hv.n24 ho.num s (by omega) with ⟨-, k, hk, e2⟩ | ⟨h', -⟩
  ·rw [e2, Option.bind_some]
   show (Bq o (k : Int)).bind _ = _
   rw [K0 hv ho hk h]; rfl
  ·exact (h' h).elim
 ·unfold D1
  rw [(E5 _ l hl).2, hv.chk, Option.bind_some]
  show (Bm s (m : Int)).bind _ = _
  rcases Li (n := m) s (by omega) with ⟨-, e2⟩ | ⟨h', -⟩
  ·rw [e2, Option.bind_some]
   show (Cj l s).bind _ = _
   rw [Tm l s hl (by omega)]; rfl
  ·exact (h' h).elim
theorem Yz {n : Int} {l : List Aa} (s : List Int) (hl : l.length <= 1000) (h : Dn n l ≠ 0) (add : Bool) : E2 n l s add = some ([], Dn n l) := by
 unfold E2
 rw [(Tw s hl h).2, Option.bind_some]
 exact Uu _ h
theorem dP {n : Int} {l : List Aa} (s : List Int) (hl : l.length <= 1000) (h : Dn n l ≠ 0) : D2 n l s = some ([], Dn n l) /\ El n l s = some ([], Dn n l) := by
 constructor
 ·rcases Gk n l hl with ⟨-, e⟩ | ⟨m, o, -, -, -, -, hc⟩
  ·unfold D2 C0
   rw [e, Option.bind_some]
   show Option.bind (cond (!decide (Dn n l = 0)) (some (([] : List Int), Dn n l)) _) _ = _
   rw [Uu _ h]; rfl
  ·exact (h hc).elim
 ·unfold El
  rw [Yz s hl h]; rfl
theorem Va {n : Int} {l : List Aa} (s : List Int) (hl : l.length <= 1000) (h : Dn n l ≠ 0) : C8 n l s = some ([], Dn n l) /\ Dl n l s = some ([], Dn n l) := by
 constructor
 ·rcases Gk n l hl with ⟨-, e⟩ | ⟨m, o, -, -, -, -, hc⟩
  ·unfold C8 Cz
   rw [e, Option.bind_some]
   show Option.bind (cond (!decide (Dn n l = 0)) (some (([] : List Int), Dn n l)) _) _ = _
   rw [Uu _ h]; rfl
  ·exact (h hc).elim
 ·unfold Dl
  rw [Yz s hl h]; rfl
theorem Yh {m : Nat} {l : List Aa} (hv : Ia m l) (hl : l.length <= 1000) {s : List Int} (hs : s.length <= 1000) (h : ¬ (VS m s /\ So m l s)) (add : Bool) : E2 (m : Int) l s add = some ([], 46) := by
 unfold E2
 by_cases hv' : VS m s
 ·rw [(Hb hv hl hv').2, Option.bind_some]
  have : F8 l s = false := by
   cases hc : F8 l s with
   | false => rfl
   | true => exact (h ⟨hv', (Fx hv).1 hc⟩).elim
  rw [this]; rfl
 ·rw [(T7 hv hl hs hv').2]; rfl
theorem cD {m : Nat} {l : List Aa} (hv : Ia m l) (hl : l.length <= 1000) {s : List Int} (hs : s.length <= 1000) (h : ¬ (VS m s /\ So m l s)) : D2 (m : Int) l s = some ([], 46) /\ El (m : Int) l s = some ([], 46) := by
 obtain ⟨o, ho, e⟩ := Lm hv hl
 constructor
 ·unfold D2 C0
  rw [e, Option.bind_some]
  show ((Bc o s).bind _).bind _ = _
  rcases J2 hv.n24 ho.num s hs with ⟨h', k, hk, e2⟩ | ⟨-, e2⟩
  ·rw [e2, Option.bind_some]
   show ((Bq o (k : Int)).bind _).bind _ = _
   have : F8 l s = false := by
    cases hc : F8 l s with
    | false => rfl
    | true => exact (h ⟨h', (Fx hv).1 hc⟩).elim
   rw [K0 hv ho hk h', this]; rfl
  ·rw [e2]; rfl
 ·unfold El
  rw [Yh hv hl hs h]; rfl
theorem U6 {m : Nat} {l : List Aa} (hv : Ia m l) (hl : l.length <= 1000) {s : List Int} (hs : s.length <= 1000) (h : ¬ (VS m s /\ So m l s)) : C8 (m : Int) l s = some ([], 46) /\ Dl (m : Int) l s = some ([], 46) := by
 obtain ⟨o, ho, e⟩ := Lm hv hl
 constructor
 ·unfold C8 Cz
  rw [e, Option.bind_some]
  show ((Bc o s).bind _).bind _ = _
  rcases J2 hv.n24 ho.num s hs with ⟨h', k, hk, e2⟩ | ⟨-, e2⟩
  ·rw [e2, Option.bind_some]
   show ((Bq o (k : Int)).bind _).bind _ = _
   have : F8 l s = false := by
    cases hc : F8 l s with
    | false => rfl
    | true => exact (h ⟨h', (Fx hv).1 hc⟩).elim
   rw [K0 hv ho hk h', this]; rfl
  ·rw [e2]; rfl
 ·unfold Dl
  rw [Yh hv hl hs h]; rfl
theorem Ot {m : Nat} {l : List Aa} (hv : Ia m l) (hl : l.length <= 1000) {s : List Int} (h : VS m s) (hc : So m l s) (add : Bool) : ∃ w, Bo (m : Int) l s add = some w /\ E2 (m : Int) l s add = some (w, 0) /\ Gs w /\ ∀ x, x ∈ w ↔ ∃ j : Nat, x = (j : Int) /\ if add = true then Ri m l s j else Rm m l s j := by
 have hs := h.len
 have hn := hv.n24
 obtain ⟨w, h1, h2, h3⟩ := dM hv hl h (by omega) hc add
 refine ⟨w, h1, ?_, h2, h3⟩
 unfold E2
 rw [(Hb hv hl h).2, (Fx hv).2 hc, Option.bind_some]
 show (Bo (m : Int) l s add).bind _ = _
 rw [h1]; rfl
theorem Pn {m : Nat} {l : List Aa} (hv : Ia m l) (hl : l.length <= 1000) {s : List Int} (h : VS m s) (hc : So m l s) : ∃ w, D2 (m : Int) l s = some (w, 0) /\ El (m : Int) l s = some (w, 0) /\ Bo (m : Int) l s true = some w /\ VS m w /\ ∀ x, x ∈ w ↔ ∃ j : Nat, x = (j : Int) /\ Ri m l s j := by
 obtain ⟨o, ho, e⟩ := Lm hv hl
 obtain ⟨w, h1, h2, h3, h4⟩ := Ot hv hl h hc true
 have h4 : ∀ x, x ∈ w ↔ ∃ j : Nat, x = (j : Int) /\ Ri m l s j := h4
 refine ⟨w, ?_, ?_, h1, ⟨h3, fun x hx => ?_⟩, h4⟩
 ·unfold D2 C0
  rw [e, Option.bind_some]
  show ((Bc o s).bind _).bind _ = _
  have := h.len
  have := hv.n24
  rcases J2 hv.n24 ho.num s (by omega) with ⟨-, k, hk, e2⟩ | ⟨h', -⟩
  ·rw [e2, Option.bind_some]
   show ((Bq o (k : Int)).bind _).bind _ = _
   rw [K0 hv ho hk h, (Fx hv).2 hc, Option.bind_some]
   show ((Bb o (k : Int)).bind _).bind _ = _
   obtain ⟨r, r1, r2, r3⟩ := T5 hv ho hk
   rw [r1, Option.bind_some, Ni r2]
   have : w = K9 r := Oo h3 (Lh r) fun x => by
    rw [h4, J8 r2]
    exact ⟨fun ⟨j, a, b⟩ => ⟨j, a, (r3 j).2 b⟩, fun ⟨j, a, b⟩ => ⟨j, a, (r3 j).1 b⟩⟩
   rw [this]; rfl
  ·exact (h' h).elim
 ·unfold El
  rw [h2]; rfl
 ·obtain ⟨j, rfl, hj⟩ := (h4 x).1 hx
  have := hj.1
  omega
theorem K4 {m : Nat} {l : List Aa} (hv : Ia m l) (hl : l.length <= 1000) {s : List Int} (h : VS m s) (hc : So m l s) : ∃ w, C8 (m : Int) l s = some (w, 0) /\ Dl (m : Int) l s = some (w, 0) /\ VS m w /\ ∀ x, x ∈ w ↔ ∃ j : Nat, x = (j : Int) /\ Rm m l s j := by
 obtain ⟨o, ho, e⟩ := Lm hv hl
 obtain ⟨w, h1, h2, h3, h4⟩ := Ot hv hl h hc false
 have h4 : ∀ x, x ∈ w ↔ ∃ j : Nat, x = (j : Int) /\ Rm m l s j := h4
 refine ⟨w, ?_, ?_, ⟨h3, fun x hx => ?_⟩, h4⟩
 ·unfold C8 Cz
  rw [e, Option.bind_some]
  show ((Bc o s).bind _).bind _ = _
  have := h.len
  have := hv.n24
  rcases J2 hv.n24 ho.num s (by omega) with ⟨-, k, hk, e2⟩ | ⟨h', -⟩
  ·rw [e2, Option.bind_some]
   show ((Bq o (k : Int)).bind _).bind _ = _
   rw [K0 hv ho hk h, (Fx hv).2 hc, Option.bind_some]
   show ((Bt o (k : Int)).bind _).bind _ = _
   obtain ⟨r, r1, r2, r3⟩ := Xj hv ho hk h
   rw [r1, Option.bind_some, Ni r2]
   have : w = K9 r := Oo h3 (Lh r) fun x => by
    rw [h4, J8 r2]
    exact ⟨fun ⟨j, a, b⟩ => ⟨j, a, (r3 j).2 b⟩, fun ⟨j, a, b⟩ => ⟨j, a, (r3 j).1 b⟩⟩
   rw [this]; rfl
  ·exact (h' h).elim
 ·unfold Dl
  rw [h2]; rfl
 ·obtain ⟨j, rfl, hj⟩ := (h4 x).1 hx
  exact h.rng _ hj.1
theorem Zi {α : Type} {p q : α -> Bool} (h : ∀ x, p x = true -> q x = true) : ∀ l : List α, (l.filter p).length <= (l.filter q).length
 | [] => Nat.le_refl _
 | x :: l => by
  have := Zi h l
  cases hp : p x with
  | true => rw [List.filter_cons_of_pos hp, List.filter_cons_of_pos (h x hp)]; simpa using this
  | false =>
   rw [List.filter_cons_of_neg (by rw [hp]; decide)]
   cases hq : q x with
   | true => rw [List.filter_cons_of_pos hq, List.length_cons]; omega
   | false => rw [List.filter_cons_of_neg (by rw [hq]; decide)]; exact this
theorem Zu {α : Type} {p q : α -> Bool} (h : ∀ x, p x = true -> q x = true) {y : α} (h1 : q y = true) (h2 : p y = false) : ∀ l : List α, y ∈ l -> (l.filter p).length < (l.filter q).length
 | x :: l, hy => by
  rcases List.mem_cons.1 hy with rfl | hy
  ·have := Zi h l
   rw [List.filter_cons_of_neg (by rw [h2]; decide), List.filter_cons_of_pos h1, List.length_cons]
   omega
  ·have := Zu h h1 h2 l hy
   have h3 := Zi h [x]
   rw [show x :: l = [x] ++ l from rfl, List.filter_append, List.filter_append, List.length_append, List.length_append]
   omega
theorem eO {n : Nat} {l : List Aa} (hv : Ia n l) {s : List Int} : ∀ (k i : Nat), ((List.range n).filter fun j => Gv n l j i).length <= k -> i < n -> ¬ (i : Int) ∈ s -> ∃ i, Ri n l s i := by
 intro k
 induction k with
 | zero =>
  intro i hk hi hs
  refine ⟨i, hi, hs, fun j hw => ?_⟩
  have : j ∈ (List.range n).filter fun j => Gv n l j i := List.mem_filter.2 ⟨List.mem_range.2 (hv.lt hw).1, hw⟩
  have := List.length_pos_of_mem this
  omega
 | succ k ih =>
  intro i hk hi hs
  by_cases h : ∀ j, Gv n l j i = true -> (j : Int) ∈ s
  ·exact ⟨i, hi, hs, h⟩
  ·obtain ⟨j, hj⟩ := Classical.not_forall.1 h
   obtain ⟨hj, hjs⟩ := Classical.not_imp.1 hj
   have hlt := hv.lt hj
   have := Zu (p := fun a => Gv n l a j) (q := fun a => Gv n l a i) (fun a ha => hv.tr ha hj) (y := j) hj (hv.acy j) (List.range n) (List.mem_range.2 hlt.1)
   exact ih j (by omega) hlt.1 hjs
theorem Xv {n : Nat} {l : List Aa} (hv : Ia n l) {s : List Int} (h : VS n s) (hl : s.length < n) : ∃ i, Ri n l s i := by
 have : ∃ i, i < n /\ ¬ (i : Int) ∈ s := by
  refine Classical.byContradiction fun hno => ?_
  have := Wk (Yd n) h.asc fun x hx => by
   have hx := Qj.1 hx
   refine Classical.byContradiction fun hxs => hno ⟨x.toNat, by omega, ?_⟩
   rw [show ((x.toNat : Nat) : Int) = x by omega]
   exact hxs
  rw [List.length_map, List.length_range] at this
  omega
 obtain ⟨i, hi, hs⟩ := this
 exact eO hv _ i (Nat.le_refl _) hi hs
theorem fB {n : Nat} {l : List Aa} {s : List Int} (h : VS n s) (hl : s.length = n) (i : Nat) : ¬ Ri n l s i := fun hr => by
 have hlen := Wk (s := K9 (2 ^ 0)) (Lh _) (Lh _) (fun x hx => hx)
 have e : ((i : Int) :: s).length <= (mP n).length := List.Nodup.length_le_of_subset (List.nodup_cons.2 ⟨hr.2.1, W8 h.asc⟩) fun x hx => by
  rcases List.mem_cons.1 hx with rfl | hx
  ·have := hr.1; exact Qj.2 (by omega)
  ·exact Qj.2 (h.rng x hx)
 rw [List.length_map, List.length_range, List.length_cons] at e
 omega
theorem pR {n : Nat} {l : List Aa} (hv : Ia n l) {s : List Int} : ∀ (k i : Nat), ((List.range n).filter fun j => Gv n l i j).length <= k -> (i : Int) ∈ s -> ∃ i, Rm n l s i := by
 intro k
 induction k with
 | zero =>
  intro i hk hs
  refine ⟨i, hs, fun j hw => ?_⟩
  have : j ∈ (List.range n).filter fun j => Gv n l i j := List.mem_filter.2 ⟨List.mem_range.2 (hv.lt hw).2, hw⟩
  have := List.length_pos_of_mem this
  omega
 | succ k ih =>
  intro i hk hs
  by_cases h : ∀ j, Gv n l i j = true -> ¬ (j : Int) ∈ s
  ·exact ⟨i, hs, h⟩
  ·obtain ⟨j, hj⟩ := Classical.not_forall.1 h
   obtain ⟨hj, hjs⟩ := Classical.not_imp.1 hj
   have hlt := hv.lt hj
   have := Zu (p := fun a => Gv n l j a) (q := fun a => Gv n l i a) (fun a ha => hv.tr hj ha) (y := j) hj (hv.acy j) (List.range n) (List.mem_range.2 hlt.2)
   exact ih j (by omega) (Classical.not_not.1 hjs)
theorem lT {n : Nat} {l : List Aa} (hv : Ia n l) {s : List Int} (h : VS n s) (hl : s ≠ []) : ∃ i, Rm n l s i := by
 cases s with
 | nil => exact (hl rfl).elim
 | cons x s =>
  have := h.rng x (.head _)
  refine pR hv _ x.toNat (Nat.le_refl _) ?_
  rw [show ((x.toNat : Nat) : Int) = x by omega]
  exact .head _
structure Y4 (s : List Int) (i : Nat) (w : List Int) : Prop where
 asc : Gs w
 mem : ∀ x, x ∈ w ↔ x = (i : Int) \/ x ∈ s
theorem Y4.len {s w : List Int} {i : Nat} (h : Y4 s i w) (ha : Gs s) (hi : ¬ (i : Int) ∈ s) : w.length = s.length + 1 := by
 have : w.Perm ((i : Int) :: s) := (List.perm_ext_iff_of_nodup (W8 h.asc) (List.nodup_cons.2 ⟨hi, W8 ha⟩)).2 fun x => by rw [h.mem, List.mem_cons]
 rw [this.length_eq, List.length_cons]
theorem To {s : List Int} (ha : Gs s) (hs : s.length <= 1000) (i : Nat) (hi : ¬ (i : Int) ∈ s) : ∃ w, Bg s (i : Int) true = some w /\ Y4 s i w := by
 obtain ⟨w, h1, h2, h3, h4⟩ := bT ha hs (i : Int) true
 refine ⟨w, h1, h2, fun x => (h4 x).trans ⟨?_, ?_⟩⟩
 ·rintro (h | h)
  ·exact .inl h.2
  ·exact .inr h.1
 ·rintro (h | h)
  ·exact .inl ⟨rfl, h⟩
  ·exact .inr ⟨h, fun e => hi (e ▸ h)⟩
theorem Y4.vs {n : Nat} {s w : List Int} {i : Nat} (h : Y4 s i w) (hv : VS n s) (hi : i < n) : VS n w := ⟨h.asc, fun x hx => by
 rcases (h.mem x).1 hx with rfl | hx
 ·omega
 ·exact hv.rng x hx⟩
theorem Y4.cl {n : Nat} {l : List Aa} {s w : List Int} {i : Nat} (h : Y4 s i w) (hc : So n l s) (hr : Ri n l s i) : So n l w := fun a b hw hb => by
 rcases (h.mem _).1 hb with hb | hb
 ·have : b = i := by omega
  subst this
  exact (h.mem _).2 (.inr (hr.2.2 a hw))
 ·exact (h.mem _).2 (.inr (hc a b hw hb))
theorem Y4.ms {m : Nat} {s w : List Int} {i : Nat} (h : Y4 s i w) (hm : MS m s) (hi : i < 32) : MS (m ||| 2 ^ i) w := ⟨Sc hm.lt (K6 hi), fun j => by
 rw [Nat.testBit_or, hm.bit, Nat.testBit_two_pow]
 cases hd : decide ((j : Int) ∈ w) with
 | true =>
  rcases (h.mem _).1 (of_decide_eq_true hd) with hj | hj
  ·have : i = j := by omega
   rw [decide_eq_true this, Bool.or_true]
  ·rw [decide_eq_true hj]; rfl
 | false =>
  have := of_decide_eq_false hd
  rw [h.mem] at this
  rw [decide_eq_false (p := (j : Int) ∈ s) fun q => this (.inr q), decide_eq_false (p := i = j) fun q => this (.inl (by omega))]; rfl⟩
theorem Y4.uniq {s w w' : List Int} {i : Nat} (h : Y4 s i w) (h' : Y4 s i w') : w = w' := Oo h.asc h'.asc fun x => (h.mem x).trans (h'.mem x).symm
end
section
open Go
theorem kK {P : Nat -> Prop} (i : Nat) (h : P i) : ∃ i, P i /\ ∀ j, P j -> i <= j := by
 induction i using Nat.strongRecOn with
 | _ i ih =>
  by_cases hj : ∃ j, j < i /\ P j
  ·obtain ⟨j, h1, h2⟩ := hj
   exact ih j h1 h2
  ·exact ⟨i, h, fun j hj' => Nat.le_of_not_lt fun q => hj ⟨j, q, hj'⟩⟩
structure qK (n : Nat) (l : List Aa) (s : List Int) (i : Nat) (w : List Int) : Prop where
 rd : Ri n l s i
 least : ∀ j, Ri n l s j -> i <= j
 wit : Bg s (i : Int) true = some w
 add : Y4 s i w
theorem bQ {n : Nat} {l : List Aa} (hv : Ia n l) {s : List Int} (h : VS n s) (hl : s.length < n) : ∃ p : Nat × List Int, qK n l s p.1 p.2 := by
 obtain ⟨i, hi⟩ := Xv hv h hl
 obtain ⟨i, hi, hl'⟩ := kK i hi
 have := hv.n24
 obtain ⟨w, h1, h2⟩ := To h.asc (by omega) i hi.2.1
 exact ⟨(i, w), hi, hl', h1, h2⟩
open Classical in
noncomputable def nx (n : Nat) (l : List Aa) (s : List Int) : Nat × List Int := if h : ∃ p : Nat × List Int, qK n l s p.1 p.2 then Classical.choose h else (0, s)
noncomputable def Ug (n : Nat) (l : List Aa) : Nat -> List Int
 | 0 => []
 | k + 1 => (nx n l (Ug n l k)).2
noncomputable def Xu (n : Nat) (l : List Aa) (k : Nat) : Nat := (nx n l (Ug n l k)).1
theorem lV {n : Nat} {l : List Aa} {s : List Int} (h : ∃ p : Nat × List Int, qK n l s p.1 p.2) : qK n l s (nx n l s).1 (nx n l s).2 := by
 unfold nx
 rw [dif_pos h]
 exact Classical.choose_spec h
theorem Nr {n : Nat} {l : List Aa} (hv : Ia n l) : ∀ k, k <= n -> VS n (Ug n l k) /\ So n l (Ug n l k) /\ (Ug n l k).length = k
 | 0, _ => ⟨.nil, .nil, rfl⟩
 | k + 1, h => by
  obtain ⟨h1, h2, h3⟩ := Nr hv k (by omega)
  have := lV (bQ hv h1 (by omega))
  exact ⟨this.add.vs h1 this.rd.1, this.add.cl h2 this.rd, by show (nx n l (Ug n l k)).2.length = _; rw [this.add.len h1.asc this.rd.2.1, h3]⟩
theorem S2 {n : Nat} {l : List Aa} (hv : Ia n l) {k : Nat} (h : k < n) : qK n l (Ug n l k) (Xu n l k) (Ug n l (k + 1)) := by
 obtain ⟨h1, h2, h3⟩ := Nr hv k (by omega)
 exact lV (bQ hv h1 (by omega))
noncomputable def La (n : Nat) (l : List Aa) (k : Nat) : List Int := (List.range k).map fun k => (Xu n l k : Int)
theorem Kl (n : Nat) (l : List Aa) (k : Nat) : (La n l k).length = k := by unfold La; rw [List.length_map, List.length_range]
theorem Wb (n : Nat) (l : List Aa) (k : Nat) : La n l (k + 1) = La n l k ++ [(Xu n l k : Int)] := by unfold La; rw [List.range_succ, List.map_append]; rfl
theorem aM {n : Nat} {l : List Aa} {k i : Nat} (h : i < k) : (La n l k)[i]? = some (Xu n l i : Int) := by
 unfold La
 rw [List.getElem?_map, List.getElem?_range h]; rfl
theorem cF {n : Int} {l : List Aa} (hl : l.length <= 1000) (h : Dn n l ≠ 0) : Ct n l = some ([], Dn n l) /\ C4 n l = some ([], Dn n l) := by
 constructor
 ·rcases Gk n l hl with ⟨-, e⟩ | ⟨m, o, -, -, -, -, hc⟩
  ·unfold Ct
   rw [e, Option.bind_some]
   exact Uu _ h
  ·exact (h hc).elim
 ·unfold C4
  rw [(E5 n l hl).2, Option.bind_some]
  exact Uu _ h
theorem Pg {m : Nat} {l : List Aa} (hv : Ia m l) (hl : l.length <= 1000) : Ct (m : Int) l = some (La m l m, 0) /\ C4 (m : Int) l = some (La m l m, 0) := by
 obtain ⟨o, ho, e⟩ := Lm hv hl
 have hn := hv.n24
 constructor
 ·unfold Ct
  rw [e, Option.bind_some]
  show B2 (fun q' => Ct.l1 (m : Int) q'.1 q'.2.1 q'.2.2.1 q'.2.2.2) (0, 0, o, ([] : List Int)) = _
  refine Ok.eq_ (J0 (fun i (q : Int × Ap × List Int) => (q.1, i, q.2.1, q.2.2)) m (fun i q => (∃ k : Nat, q.1 = (k : Int) /\ MS k (Ug m l i)) /\ q.2.1 = o /\ q.2.2 = La m l i) (fun i q hi h => ?_) (fun q h => ?_) (s := (0, o, [])) ⟨⟨0, rfl, by decide, fun j => by simp [Ug]⟩, rfl, rfl⟩)
  ·obtain ⟨q1, q2, q3⟩ := q
   obtain ⟨⟨k, h1, hk⟩, h2, h3⟩ := h
   dsimp only at h1 h2 h3
   subst h1 h2 h3
   obtain ⟨g1, g2, g3⟩ := Nr hv i (by omega)
   have st := S2 hv hi
   obtain ⟨r, r1, r2, r3⟩ := T5 hv ho hk
   have hlow : kL r (Xu m l i) := ⟨(r3 _).2 st.rd, fun j hj => by
    cases hb : r.testBit j with
    | false => rfl
    | true => have := st.least j ((r3 j).1 hb); omega⟩
   have hi32 : Xu m l i < 32 := by have := st.rd.1; omega
   show Ok (Ct.l1 (m : Int) (k : Int) (i : Int) q2 (La m l i)) _
   unfold Ct.l1
   rw [P9 hi, cond_true, r1, Option.bind_some]
   show Ok ((Ci (r : Int)).bind _) _
   rw [nV r2 hlow, Option.bind_some, Q3 hi32, Option.bind_some, U4 (by rw [Kl]; omega), Option.bind_some, Xs hk.lt (K6 hi32), W1 (by omega)]
   exact Ok.ret ⟨(((k ||| 2 ^ Xu m l i : Nat) : Int), q2, _), rfl, ⟨_, rfl, st.add.ms hk hi32⟩, rfl, (Wb m l i).symm⟩
  ·obtain ⟨q1, q2, q3⟩ := q
   obtain ⟨-, h2, h3⟩ := h
   dsimp only at h2 h3
   subst h2 h3
   show Ok (Ct.l1 (m : Int) q1 (m : Int) q2 (La m l m)) _
   unfold Ct.l1
   rw [Qx, cond_false]
   exact Ok.up (Ok.ret rfl)
 ·unfold C4
  rw [(E5 _ l hl).2, hv.chk, Option.bind_some]
  show B2 (fun q' => C4.l1 (m : Int) l q'.1 q'.2) (([] : List Int), ([] : List Int)) = _
  refine Ok.eq_ (J0 (fun i (q : List Int × List Int) => q) m (fun i q => q.1 = Ug m l i /\ q.2 = La m l i) (fun i q hi h => ?_) (fun q h => ?_) (s := ([], [])) ⟨rfl, rfl⟩)
  ·obtain ⟨q1, q2⟩ := q
   obtain ⟨h1, h2⟩ := h
   dsimp only at h1 h2
   subst h1 h2
   obtain ⟨g1, g2, g3⟩ := Nr hv i (by omega)
   have st := S2 hv hi
   obtain ⟨w, w1, w2, w3, w4⟩ := Ot hv hl g1 g2 true
   have w4 : ∀ x, x ∈ w ↔ ∃ j : Nat, x = (j : Int) /\ Ri m l (Ug m l i) j := w4
   have hw : ∃ t, w = (Xu m l i : Int) :: t := by
    have hin := (w4 _).2 ⟨_, rfl, st.rd⟩
    cases w with
    | nil => cases hin
    | cons x t =>
     refine ⟨t, ?_⟩
     obtain ⟨j, rfl, hj⟩ := (w4 x).1 (.head _)
     have h1 := st.least j hj
     have h2 : (j : Int) <= (Xu m l i : Int) := by
      rcases List.mem_cons.1 hin with h | h
      ·omega
      ·have := (List.pairwise_cons.1 w3).1 _ h; omega
     have : j = Xu m l i := by omega
     rw [this]
   obtain ⟨t, rfl⟩ := hw
   show Ok (C4.l1 (m : Int) l (Ug m l i) (La m l i)) _
   unfold C4.l1
   rw [Kl, P9 hi, cond_true, w1, Option.bind_some, fD]
   show Ok ((G8 8 (La m l i) [(Xu m l i : Int)]).bind _) _
   rw [U4 (by rw [Kl]; omega), Option.bind_some, st.wit, Option.bind_some]
   exact Ok.ret ⟨(_, _), rfl, rfl, (Wb m l i).symm⟩
  ·obtain ⟨q1, q2⟩ := q
   obtain ⟨h1, h2⟩ := h
   dsimp only at h1 h2
   subst h1 h2
   show Ok (C4.l1 (m : Int) l (Ug m l m) (La m l m)) _
   unfold C4.l1
   rw [Kl, Qx, cond_false]
   exact Ok.up (Ok.ret rfl)
def J6 (n : Nat) (l : List Aa) (s : List Int) (i k : Nat) : Bool := Gv n l (s.getD i 0).toNat (s.getD k 0).toNat
def Pj (n : Nat) (l : List Aa) (s : List Int) : List Aa := Gb (J6 n l s) s.length s.length
theorem gH {n : Int} {l : List Aa} (s : List Int) (hl : l.length <= 1000) (h : Dn n l ≠ 0) : Bx n l s = some ([], Dn n l) /\ B3 n l s = some ([], Dn n l) := by
 constructor
 ·rcases Gk n l hl with ⟨-, e⟩ | ⟨m, o, -, -, -, -, hc⟩
  ·unfold Bx
   rw [e, Option.bind_some]
   exact Uu _ h
  ·exact (h hc).elim
 ·unfold B3
  rw [(E5 n l hl).2, Option.bind_some]
  exact Uu _ h
theorem iL {m : Nat} {l : List Aa} (hv : Ia m l) (hl : l.length <= 1000) {s : List Int} (hs : s.length <= 1000) (h : ¬ VS m s) : Bx (m : Int) l s = some ([], 46) /\ B3 (m : Int) l s = some ([], 46) := by
 obtain ⟨o, ho, e⟩ := Lm hv hl
 constructor
 ·unfold Bx
  rw [e, Option.bind_some]
  show (Bc o s).bind _ = _
  rcases J2 hv.n24 ho.num s hs with ⟨h', -⟩ | ⟨-, e2⟩
  ·exact (h h').elim
  ·rw [e2]; rfl
 ·unfold B3
  rw [(E5 _ l hl).2, hv.chk, Option.bind_some]
  show (Bm s (m : Int)).bind _ = _
  rcases Li (n := m) s hs with ⟨h', -⟩ | ⟨-, e2⟩
  ·exact (h h').elim
  ·rw [e2]; rfl
theorem VS.at {n : Nat} {s : List Int} (h : VS n s) {i : Nat} (hi : i < s.length) : ∃ a : Nat, s[i]? = some (a : Int) /\ a < n /\ (s.getD i 0).toNat = a := by
 have hx := h.rng _ (List.getElem_mem hi)
 refine ⟨s[i].toNat, ?_, by omega, ?_⟩
 ·rw [List.getElem?_eq_getElem hi]
  congr 1
  omega
 ·rw [List.getD_eq_getElem?_getD, List.getElem?_eq_getElem hi]; rfl
theorem Vn {m : Nat} {l : List Aa} (hv : Ia m l) (hl : l.length <= 1000) {s : List Int} (h : VS m s) : Bx (m : Int) l s = some (Pj m l s, 0) /\ B3 (m : Int) l s = some (Pj m l s, 0) := by
 obtain ⟨o, ho, e⟩ := Lm hv hl
 have hn := hv.n24
 have hs := h.len
 have hmul : ∀ i, i <= s.length -> i * s.length <= 24 * 24 := fun i hi => Nat.mul_le_mul (by omega) (by omega)
 constructor
 ·unfold Bx
  rw [e, Option.bind_some]
  show (Bc o s).bind _ = _
  rcases J2 hv.n24 ho.num s (by omega) with ⟨-, k, hk, e2⟩ | ⟨h', -⟩
  ·rw [e2, Option.bind_some]
   show B2 (fun q' => Bx.l1 s ((k : Int), true, o) q'.1 q'.2) (0, ([] : List Aa)) = _
   refine Ok.eq_ (J0 (fun i (q : List Aa) => (i, q)) s.length (fun i out => out = Gb (J6 m l s) s.length i) (fun i out hi hout => ?_) (fun out hout => ?_) rfl)
   ·obtain ⟨a, a1, a2, a3⟩ := h.at hi
    obtain ⟨r, b1, b2, b3⟩ := ho.after.row a a2
    have hol := F2 (J6 m l s) s.length i
    have hmi := hmul i (by omega)
    show Ok (Bx.l1 s ((k : Int), true, o) (i : Int) out) _
    unfold Bx.l1
    rw [Dx a1]
    refine J0 (fun i (q : List Aa) => (i, q)) s.length (fun k out => out = Gb (J6 m l s) s.length i ++ Hq (J6 m l s) i k) (fun j out hj hout => ?_) (fun out hout => ?_) (by rw [hout]; unfold Hq; simp)
    ·obtain ⟨c, c1, c2, c3⟩ := h.at hj
     have hrl := My (J6 m l s) i j
     show Ok (Bx.l2 s ((k : Int), true, o) (i : Int) (a : Int) (j : Int) out) _
     unfold Bx.l2 Bx.j3
     rw [Dx c1, F6 b1, Option.bind_some, aI b2 (by omega), Option.bind_some, b3 c, decide_eq_true c2, Bool.true_and, W1 (by omega)]
     have hw : Gv m l a c = J6 m l s i j := by unfold J6; rw [a3, c3]
     rw [hw]
     refine Ok.cond (fun hb => ?_) (fun hb => ?_)
     ·rw [Fk (by rw [hout, List.length_append, List.length_singleton]; omega), Option.bind_some]
      refine Ok.ret ⟨_, rfl, ?_⟩
      rw [hout, Ie, hb, List.append_assoc]; rfl
     ·refine Ok.ret ⟨_, rfl, ?_⟩
      rw [hout, Ie, hb]
      show _ = _ ++ (_ ++ [])
      rw [List.append_nil]
    ·show Ok (Bx.l2 s ((k : Int), true, o) (i : Int) (a : Int) (s.length : Int) out) _
     unfold Bx.l2
     rw [Dt, W1 (by omega)]
     exact Ok.up (Ok.ret ⟨out, rfl, by rw [hout, Ho]⟩)
   ·show Ok (Bx.l1 s ((k : Int), true, o) (s.length : Int) out) _
    unfold Bx.l1
    rw [Dt, hout]
    exact Ok.up (Ok.ret rfl)
  ·exact (h' h).elim
 ·unfold B3
  rw [(E5 _ l hl).2, hv.chk, Option.bind_some]
  show (Bm s (m : Int)).bind _ = _
  rcases Li (n := m) s (by omega) with ⟨-, e2⟩ | ⟨h', -⟩
  ·obtain ⟨M, eM, hM⟩ := S0 (by omega) hv.inr (by omega)
   rw [e2, Option.bind_some]
   show (A7 (m : Int) l).bind _ = _
   rw [eM, Option.bind_some]
   refine Ok.eq_ (J0 (fun i (q : List Aa) => (i, q)) s.length (fun i out => out = Gb (J6 m l s) s.length i) (fun i out hi hout => ?_) (fun out hout => ?_) rfl)
   ·obtain ⟨a, a1, a2, a3⟩ := h.at hi
    obtain ⟨r, b1, b2, b3, b4⟩ := hM.get a2
    have hol := F2 (J6 m l s) s.length i
    have hmi := hmul i (by omega)
    show Ok (B3.l1 s M (i : Int) out) _
    unfold B3.l1
    rw [Dx a1]
    refine J0 (fun i (q : List Aa) => (i, q)) s.length (fun k out => out = Gb (J6 m l s) s.length i ++ Hq (J6 m l s) i k) (fun j out hj hout => ?_) (fun out hout => ?_) (by rw [hout]; unfold Hq; simp)
    ·obtain ⟨c, c1, c2, c3⟩ := h.at hj
     have hrl := My (J6 m l s) i j
     show Ok (B3.l2 s M (i : Int) (a : Int) (j : Int) out) _
     unfold B3.l2 B3.j3
     rw [Dx c1, b1, Option.bind_some, b4 c c2, Option.bind_some, W1 (by omega)]
     have hw : Gv m l a c = J6 m l s i j := by unfold J6; rw [a3, c3]
     have hw' : Ew (Iw l) m a c = J6 m l s i j := hw
     rw [hw']
     refine Ok.cond (fun hb => ?_) (fun hb => ?_)
     ·rw [Fk (by rw [hout, List.length_append, List.length_singleton]; omega), Option.bind_some]
      refine Ok.ret ⟨_, rfl, ?_⟩
      rw [hout, Ie, hb, List.append_assoc]; rfl
     ·refine Ok.ret ⟨_, rfl, ?_⟩
      rw [hout, Ie, hb]
      show _ = _ ++ (_ ++ [])
      rw [List.append_nil]
    ·show Ok (B3.l2 s M (i : Int) (a : Int) (s.length : Int) out) _
     unfold B3.l2
     rw [Dt, W1 (by omega)]
     exact Ok.up (Ok.ret ⟨out, rfl, by rw [hout, Ho]⟩)
   ·show Ok (B3.l1 s M (s.length : Int) out) _
    unfold B3.l1
    rw [Dt, hout]
    exact Ok.up (Ok.ret rfl)
  ·exact (h' h).elim
end
section
open Go
def Kc : List Int -> List Int -> Bool
 | [], [] => false
 | [], _ :: _ => true
 | _ :: _, [] => false
 | a :: s, b :: t => bif decide (a = b) then Kc s t else decide (a < b)
theorem Kp (a b : Int) (s t : List Int) : Kc (a :: s) (b :: t) = bif decide (a = b) then Kc s t else decide (a < b) := rfl
theorem iY {a b : Int} {s t : List Int} : Kc (a :: s) (b :: t) = true ↔ a < b \/ (a = b /\ Kc s t = true) := by
 rw [Kp]
 by_cases h : a = b
 ·rw [decide_eq_true h, cond_true]
  exact ⟨fun q => .inr ⟨h, q⟩, fun q => q.elim (fun q => by omega) (fun q => q.2)⟩
 ·rw [decide_eq_false h, cond_false, decide_eq_true_iff]
  exact ⟨.inl, fun q => q.elim id (fun q => (h q.1).elim)⟩
theorem Qi : ∀ a : List Int, Kc a a = false
 | [] => rfl
 | a :: s => by rw [Kp, decide_eq_true rfl]; exact Qi s
theorem Xo : ∀ a b c : List Int, Kc a b = true -> Kc b c = true -> Kc a c = true
 | [], [], c, h, k => by cases h
 | [], b :: bs, [], h, k => by cases k
 | [], b :: bs, c :: cs, h, k => rfl
 | a :: as, [], c, h, k => by cases h
 | a :: as, b :: bs, [], h, k => by cases k
 | a :: u, b :: v, c :: w, h, k => by
  rw [iY] at h k ⊢
  rcases h with h | ⟨rfl, h⟩
  ·rcases k with k | ⟨rfl, k⟩
   ·exact .inl (by omega)
   ·exact .inl h
  ·rcases k with k | ⟨rfl, k⟩
   ·exact .inl k
   ·exact .inr ⟨rfl, Xo u v w h k⟩
theorem Sw : ∀ a b : List Int, Kc a b = false -> Kc b a = false -> a = b
 | [], [], h, k => rfl
 | [], b :: bs, h, k => by cases h
 | a :: as, [], h, k => by cases k
 | a :: u, b :: v, h, k => by
  rw [Kp] at h k
  by_cases e : a = b
  ·subst e
   rw [decide_eq_true rfl, cond_true] at h k
   rw [Sw u v h k]
  ·rw [decide_eq_false e, cond_false] at h
   rw [decide_eq_false (fun q => e q.symm), cond_false] at k
   have := of_decide_eq_false h
   have := of_decide_eq_false k
   omega
theorem Pw : Nt Kc := ⟨Qi, Xo, Sw⟩
theorem T3 {a b : List Int} (h : a.length = b.length) (ha : a.length <= 1000) : Dp a b = some (Kc a b) := by
 unfold Dp
 refine Ok.eq_ (J0 (fun i (q : Unit) => i) a.length (fun i _ => Kc (a.drop i) (b.drop i) = Kc a b) (fun i q hi hq => ?_) (fun q hq => ?_) (s := ()) rfl)
 ·have hx : a[i]? = some a[i] := List.getElem?_eq_getElem hi
  have hy : b[i]? = some (b[i]'(by omega)) := List.getElem?_eq_getElem (by omega)
  show Ok (Dp.l1 a b (i : Int)) _
  unfold Dp.l1
  rw [Dx hx, F6 hy, Option.bind_some, W1 (by omega)]
  rw [List.drop_eq_getElem_cons hi, List.drop_eq_getElem_cons (show i < b.length by omega), Kp] at hq
  by_cases e : a[i] = b[i]'(by omega)
  ·rw [decide_eq_true e, cond_true] at hq
   rw [decide_eq_true e]
   exact Ok.ret ⟨(), rfl, hq⟩
  ·rw [decide_eq_false e, cond_false] at hq
   rw [decide_eq_false e]
   exact Ok.up (Ok.ret hq)
 ·show Ok (Dp.l1 a b (a.length : Int)) _
  unfold Dp.l1
  rw [Dt]
  refine Ok.up (Ok.ret ?_)
  rw [<- hq, List.drop_length, h, List.drop_length]; rfl
theorem Yo (a b : List Int) (ha : a.length <= 1000) : Hk a b = some (decide (a = b)) := by
 unfold Hk
 by_cases h : a.length = b.length
 ·rw [decide_eq_true (by omega), cond_true, T3 h ha, Option.bind_some, T3 h.symm (by omega), Option.bind_some]
  by_cases e : a = b
  ·subst e
   rw [Qi, decide_eq_true rfl]; rfl
  ·rw [decide_eq_false e]
   cases h1 : Kc a b with
   | true => rfl
   | false =>
    cases h2 : Kc b a with
    | true => rfl
    | false => exact (e (Sw _ _ h1 h2)).elim
 ·rw [decide_eq_false (by omega), cond_false, decide_eq_false fun e => h (by rw [e])]
theorem Zf (a b : List Int) (ha : a.length <= 1000) : Gx a b = some (decide (a = b)) := by
 unfold Gx
 rw [Yo a b ha]; rfl
theorem X9 {α : Type} {lt : α -> α -> Bool} {x : α} : ∀ (p m : List α), (∀ y ∈ p, lt y x = true) -> Gj lt (p ++ m) x = p ++ Gj lt m x
 | [], m, _ => rfl
 | y :: p, m, h => by
  rw [List.cons_append, Ox, h y (.head _), cond_true, X9 p m fun z hz => h z (.tail _ hz)]; rfl
theorem jH {n : Nat} (hn : n <= 1000) (l : List (List Int)) (x : List Int) (hl : l.length < 100000) (hs : bN Kc l) (hlen : ∀ y ∈ l, y.length = n) (hx : x.length = n) : C1 l x = some (Gj Kc l x) := by
 have fin : ∀ lo : Nat, lo <= l.length -> (∀ y ∈ l.take lo, Kc y x = true) -> (∀ y ∈ l.drop lo, Kc y x = false) -> C1.l1 l x (lo : Int) (lo : Int) = up (some (Gj Kc l x)) := by
  intro lo hlo h1 h2
  have hsp : Gj Kc l x = l.take lo ++ Gj Kc (l.drop lo) x := by
   conv => lhs; rw [<- List.take_append_drop lo l]
   exact X9 _ _ h1
  have put : C1.j2 l x (lo : Int) false = some (l.take lo ++ x :: l.drop lo) := by
   unfold C1.j2
   rw [cond_false, Wa (a := 0) (b := (lo : Int)) (by omega), Option.bind_some]
   have q1 : (l.drop (0 : Int).toNat).take ((lo : Int).toNat - (0 : Int).toNat) = l.take lo := by simp
   have q2 : (l.drop (lo : Int).toNat).take ((l.length : Int).toNat - (lo : Int).toNat) = l.drop lo := List.take_of_length_le (by rw [List.length_drop]; omega)
   have q3 : (l.take lo).length <= l.length := by rw [List.length_take]; omega
   have q4 : (l.drop lo).length <= l.length := by rw [List.length_drop]; omega
   rw [q1, Fk (by simp only [List.length_nil]; omega), Option.bind_some, Fk (by simp only [List.nil_append, List.length_singleton]; omega), Option.bind_some, Wa (by omega), Option.bind_some, q2, Fk (by simp only [List.nil_append, List.length_append, List.length_singleton]; omega), Option.bind_some]
   simp
  unfold C1.l1
  rw [decide_eq_false (show ¬ (lo : Int) < (lo : Int) by omega), cond_false]
  refine congrArg up ?_
  by_cases hlt : lo < l.length
  ·have hy : l[lo]? = some l[lo] := List.getElem?_eq_getElem hlt
   have hd : l.drop lo = l[lo] :: l.drop (lo + 1) := List.drop_eq_getElem_cons hlt
   rw [Dx hy, Yo _ _ (by rw [hlen _ (List.getElem_mem hlt)]; exact hn), Option.bind_some, hsp, hd, Ox, h2 _ (by rw [hd]; exact .head _), cond_false]
   by_cases e : l[lo] = x
   ·rw [decide_eq_true e]
    have : Kc x l[lo] = false := by rw [e]; exact Qi x
    rw [this, cond_false, <- hd, List.take_append_drop]; rfl
   ·have : Kc x l[lo] = true := by
     cases h : Kc x l[lo] with
     | true => rfl
     | false => exact (e (Sw _ _ (h2 _ (by rw [hd]; exact .head _)) h)).elim
    rw [decide_eq_false e, put, this, cond_true, hd]
  ·have hd : l.drop lo = [] := List.drop_eq_nil_of_le (by omega)
   rw [decide_eq_false (by omega), cond_false, put, hsp, hd]; rfl
 have key : ∀ (k lo hi : Nat), hi - lo <= k -> lo <= hi -> hi <= l.length -> (∀ y ∈ l.take lo, Kc y x = true) -> (∀ y ∈ l.drop hi, Kc y x = false) -> B2 (fun q' => C1.l1 l x q'.1 q'.2) ((lo : Int), (hi : Int)) = some (Gj Kc l x) := by
  intro k
  induction k with
  | zero =>
   intro lo hi hk h0 h1 h2 h3
   have : hi = lo := by omega
   subst this
   rw [Cr (fin hi h1 h2 h3)]
  | succ k ih =>
   intro lo hi hk h0 h1 h2 h3
   by_cases hlt : lo < hi
   ·obtain ⟨m, hm⟩ : ∃ m : Nat, m = (lo + hi) / 2 := ⟨_, rfl⟩
    have hm1 : lo <= m /\ m < hi := by omega
    have hml : m < l.length := by omega
    have eq : Mr (W ((lo : Int) + (hi : Int))) 2 = some (m : Int) := by
     unfold Mr
     rw [if_neg (by decide), show (lo : Int) + (hi : Int) = ((lo + hi : Nat) : Int) by omega, lZ (by omega)]
     rw [show Int.tdiv ((lo + hi : Nat) : Int) 2 = (((lo + hi) / 2 : Nat) : Int) from rfl, <- hm, lZ (by omega)]
    have hy : l[m]? = some l[m] := List.getElem?_eq_getElem hml
    have e1 : C1.l1 l x (lo : Int) (hi : Int) = bif Kc l[m] x then some (.next (((m + 1 : Nat) : Int), (hi : Int))) else some (.next ((lo : Int), (m : Int))) := by
     unfold C1.l1
     rw [decide_eq_true (by omega), cond_true, eq, Option.bind_some, F6 hy, Option.bind_some, T3 (by rw [hlen _ (List.getElem_mem hml), hx]) (by rw [hlen _ (List.getElem_mem hml)]; exact hn), Option.bind_some, W1 (by omega)]
    have hpw := List.pairwise_iff_getElem.1 hs
    cases hc : Kc l[m] x with
    | true =>
     rw [hc] at e1
     rw [Db e1]
     refine ih (m + 1) hi (by omega) (by omega) h1 (fun y hy' => ?_) h3
     obtain ⟨j, hj⟩ := List.mem_iff_getElem?.1 hy'
     rw [List.getElem?_take] at hj
     split at hj
     ·rename_i hjm
      obtain ⟨hj1, rfl⟩ := List.getElem?_eq_some_iff.1 hj
      by_cases hjm' : j = m
      ·subst hjm'; exact hc
      ·exact Xo _ _ _ (hpw j m hj1 hml (by omega)) hc
     ·cases hj
    | false =>
     rw [hc] at e1
     rw [Db e1]
     refine ih lo m (by omega) (by omega) (by omega) h2 (fun y hy' => ?_)
     obtain ⟨j, hj⟩ := List.mem_iff_getElem?.1 hy'
     rw [List.getElem?_drop] at hj
     obtain ⟨hj1, rfl⟩ := List.getElem?_eq_some_iff.1 hj
     by_cases hjm' : j = 0
     ·subst hjm'; exact hc
     ·cases hb : Kc l[m + j] x with
      | false => rfl
      | true => rw [Xo _ _ _ (hpw m (m + j) hml hj1 (by omega)) hb] at hc; cases hc
   ·have : hi = lo := by omega
    subst this
    rw [Cr (fin hi h1 h2 h3)]
 exact key l.length 0 l.length (by omega) (by omega) (Nat.le_refl _) (fun y hy => by simp at hy) (fun y hy => by simp at hy)
theorem Nt.swo {α : Type} {lt : α -> α -> Bool} (h : Nt lt) : Sort.SWO lt where
 irrefl := h.irrefl
 trans := h.trans
 ntrans a b c h1 h2 := by
  cases h0 : lt a c with
  | false => rfl
  | true =>
   cases h3 : lt b a with
   | true => have := h.trans _ _ _ h3 h0; rw [h2] at this; cases this
   | false =>
    rw [h.tot _ _ h1 h3] at h0
    rw [h2] at h0; cases h0
theorem lS {k : Int} : ∀ u v : List Int, Gs u -> Gs v -> u.length = v.length -> (∀ x, x < k -> (x ∈ u ↔ x ∈ v)) -> k ∈ u -> ¬ k ∈ v -> Kc u v = true
 | [], _, _, _, _, _, h, _ => by cases h
 | _ :: _, [], _, _, h, _, _, _ => by cases h
 | x :: u, y :: v, hu, hv, hl, he, h1, h2 => by
  obtain ⟨u1, u2⟩ := List.pairwise_cons.1 hu
  obtain ⟨v1, v2⟩ := List.pairwise_cons.1 hv
  rw [Kp]
  by_cases e : x = y
  ·subst e
   have hkx : k ≠ x := fun q => h2 (q ▸ .head _)
   have hk : k ∈ u := by
    rcases List.mem_cons.1 h1 with h | h
    ·exact (hkx h).elim
    ·exact h
   rw [decide_eq_true rfl, cond_true]
   refine lS u v u2 v2 (by simpa using hl) (fun z hz => ⟨fun q => ?_, fun q => ?_⟩) hk fun q => h2 (.tail _ q)
   ·rcases List.mem_cons.1 ((he z hz).1 (.tail _ q)) with h | h
    ·have := u1 z q; omega
    ·exact h
   ·rcases List.mem_cons.1 ((he z hz).2 (.tail _ q)) with h | h
    ·have := v1 z q; omega
    ·exact h
  ·rw [decide_eq_false e, cond_false]
   refine decide_eq_true ?_
   have hxk : x <= k := by
    rcases List.mem_cons.1 h1 with h | h
    ·omega
    ·have := u1 k h; omega
   rcases Int.lt_or_le y x with h | h
   ·have := (he y (by omega)).2 (.head _)
    rcases List.mem_cons.1 this with h' | h'
    ·omega
    ·have := u1 y h'; omega
   ·omega
def bl (a : Nat) : List Int := (List.range 32).map fun i => bif a.testBit i then 0 else 1
def rM (x y : Int) : Bool := Kc (bl x.toNat) (bl y.toNat)
theorem bW : Sort.SWO rM where
 irrefl a := Pw.swo.irrefl _
 trans a b c := Pw.swo.trans _ _ _
 ntrans a b c := Pw.swo.ntrans _ _ _
theorem Y8 : ∀ (k : Nat) (l m : List Int) (x y : Int), (∀ j, j < k -> l[j]? = m[j]?) -> l[k]? = some x -> m[k]? = some y -> x ≠ y -> Kc l m = decide (x < y)
 | _, [], _, _, _, _, h, _, _ => by simp at h
 | _, _ :: _, [], _, _, _, _, h, _ => by simp at h
 | 0, a :: l, b :: m, x, y, _, h1, h2, h3 => by
  have h1 : a = x := by simpa using h1
  have h2 : b = y := by simpa using h2
  subst h1 h2
  rw [Kp, decide_eq_false h3]; rfl
 | k + 1, a :: l, b :: m, x, y, he, h1, h2, h3 => by
  have h0 : a = b := by simpa using he 0 (by omega)
  subst h0
  rw [Kp, decide_eq_true rfl, cond_true]
  exact Y8 k l m x y (fun j hj => by simpa using he (j + 1) (by omega)) (by simpa using h1) (by simpa using h2) h3
theorem R8 {a i : Nat} (h : i < 32) : (bl a)[i]? = some (bif a.testBit i then 0 else 1) := by
 unfold bl
 rw [List.getElem?_map, List.getElem?_range h]; rfl
theorem aX {a b : Nat} (ha : a < Ik) (hb : b < Ik) (hne : a ≠ b) : ∃ k, k < 32 /\ kL (a ^^^ b) k /\ a.testBit k = !b.testBit k /\ ∀ j, j < k -> a.testBit j = b.testBit j := by
 have h0 : a ^^^ b ≠ 0 := fun e => hne (Nat.eq_of_testBit_eq fun j => by
  have := congrArg (fun z => z.testBit j) e
  simp only [Nat.testBit_xor, Nat.zero_testBit] at this
  revert this
  cases a.testBit j <;> cases b.testBit j <;> simp)
 obtain ⟨k, hk, hl⟩ := Xe h0 (Nat.xor_lt_two_pow (n := 32) ha hb)
 refine ⟨k, hk, hl, ?_, fun j hj => ?_⟩
 ·have := hl.1
  rw [Nat.testBit_xor] at this
  revert this
  cases a.testBit k <;> cases b.testBit k <;> simp
 ·have := hl.2 j hj
  rw [Nat.testBit_xor] at this
  revert this
  cases a.testBit j <;> cases b.testBit j <;> simp
theorem kH (x y : Int) : Ee x y = some (Wq x y) := by
 unfold Ee Ey Wq
 by_cases h1 : x < y
 ·simp [h1]
 ·by_cases h2 : y < x <;> simp [h1, h2]
def rR (x : Int) : Prop := ∃ m : Nat, x = (m : Int) /\ m < Ik
theorem dE {a : Nat} (ha : a < Ik) : Kb .u32 (a : Int) 32 = some 0 := by
 unfold Kb
 rw [if_neg (by omega)]
 have e : min ((32 : Int)).toNat (IntKind.bits .u32) = 32 := by decide
 rw [e]
 have e2 : ((2 : Int) ^ 32) = ((2 ^ 32 : Nat) : Int) := by decide
 rw [e2]
 have := (Int.ofNat_fdiv a (2 ^ 32)).symm
 rw [Nat.div_eq_of_lt ha] at this
 exact congrArg some this
theorem fM : Bi (fun x0 x1 => Eu x0 x1) rM rR := fun x y hx hy => by
 obtain ⟨a, rfl, ha⟩ := hx
 obtain ⟨b, rfl, hb⟩ := hy
 show ∃ n, Eu (a : Int) (b : Int) = some n /\ decide (n < 0) = Kc (bl a) (bl b)
 unfold Eu
 rw [pF ha hb]
 by_cases e : a = b
 ·subst e
  rw [Nat.xor_self]
  refine ⟨0, ?_, by rw [Qi]; rfl⟩
  show (Ci 0).bind _ = _
  rw [tF, Option.bind_some, dE ha]; rfl
 ·obtain ⟨k, hk, hl, h1, h2⟩ := aX ha hb e
  rw [nV (Nat.xor_lt_two_pow (n := 32) ha hb) hl, Option.bind_some, eQ hk, Option.bind_some, eQ hk, Option.bind_some, W7 ha, W7 hb, kH, Option.bind_some]
  refine ⟨_, rfl, ?_⟩
  rw [Y8 k (bl a) (bl b) (bif a.testBit k then 0 else 1) (bif b.testBit k then 0 else 1) (fun j hj => by rw [R8 (by omega), R8 (by omega), h2 j hj]) (R8 hk) (R8 hk) (by rw [h1]; cases b.testBit k <;> decide), h1]
  cases b.testBit k <;> decide
theorem kJ {a b : Nat} (ha : a < Ik) (hb : b < Ik) (hl : (K9 a).length = (K9 b).length) (hne : a ≠ b) (h : rM (b : Int) (a : Int) = false) : Kc (K9 a) (K9 b) = true := by
 obtain ⟨k, hk, -, h1, h2⟩ := aX ha hb hne
 have hm : ∀ {c : Nat}, c < Ik -> ∀ {j : Nat}, (j : Int) ∈ K9 c ↔ c.testBit j = true := fun {c} hc {j} => by
  rw [J8 hc]
  constructor
  ·rintro ⟨i, e, hi⟩
   have : i = j := by omega
   rw [<- this]; exact hi
  ·intro q; exact ⟨j, rfl, q⟩
 have hbk : b.testBit k = false := by
  cases hbb : b.testBit k with
  | false => rfl
  | true =>
   have h : Kc (bl b) (bl a) = false := h
   rw [Y8 k (bl b) (bl a) (bif b.testBit k then 0 else 1) (bif a.testBit k then 0 else 1) (fun j hj => by rw [R8 (by omega), R8 (by omega), h2 j hj]) (R8 hk) (R8 hk) (by rw [h1]; cases b.testBit k <;> decide), h1, hbb] at h
   cases h
 refine lS (k := (k : Int)) _ _ (Lh a) (Lh b) hl (fun x hx => ?_) ((hm ha).2 (by rw [h1, hbk]; rfl)) (fun q => by rw [(hm hb).1 q] at hbk; cases hbk)
 constructor
 ·intro q
  obtain ⟨i, rfl, hi⟩ := (J8 ha).1 q
  exact (hm hb).2 (by rw [<- h2 i (by omega)]; exact hi)
 ·intro q
  obtain ⟨i, rfl, hi⟩ := (J8 hb).1 q
  exact (hm ha).2 (by rw [h2 i (by omega)]; exact hi)
theorem aK {a b : Nat} (ha : a < Ik) (hb : b < Ik) (h : K9 a = K9 b) : a = b := Nat.eq_of_testBit_eq fun j => by rw [(Zo ha).bit, (Zo hb).bit, h]
end
section
open Go
abbrev rY (a b : Int) : Bool := decide (a < b)
theorem qQ : Nt rY := ⟨fun a => decide_eq_false (by omega), fun a b c h1 h2 => decide_eq_true (by have := of_decide_eq_true h1; have := of_decide_eq_true h2; omega), fun a b h1 h2 => by have := of_decide_eq_false h1; have := of_decide_eq_false h2; omega⟩
theorem lU {s : List Int} : Gs s ↔ bN rY s := ⟨fun h => h.imp fun q => decide_eq_true q, fun h => h.imp fun q => of_decide_eq_true q⟩
def Q8 (s : List Int) (i : Nat) : List Int := Gj rY s (i : Int)
theorem Od {s : List Int} (h : Gs s) (i : Nat) : Y4 s i (Q8 s i) := ⟨lU.2 (Np qQ (lU.1 h)), fun x => Q0 qQ⟩
open Classical in
noncomputable def cA (n : Nat) (l : List Aa) (s : List Int) : List Nat := (List.range n).filter fun i => decide (Ri n l s i)
open Classical in
theorem M4 {n : Nat} {l : List Aa} {s : List Int} {i : Nat} : i ∈ cA n l s ↔ Ri n l s i := by
  unfold cA
  rw [List.mem_filter, List.mem_range, decide_eq_true_iff]
  exact ⟨fun h => h.2, fun h => ⟨h.1, h⟩⟩
theorem aZ (n : Nat) (l : List Aa) (s : List Int) : (cA n l s).Pairwise (· < ·) := List.pairwise_lt_range.sublist List.filter_sublist
theorem bV (n : Nat) (l : List Aa) (s : List Int) : (cA n l s).length <= n := by
  unfold cA
  have := List.length_filter_le (fun i => @decide (Ri n l s i) (Classical.propDecidable _)) (List.range n)
  rw [List.length_range] at this
  exact this
noncomputable def Kv (n : Nat) (l : List Aa) (s : List Int) : List (List Int) := (cA n l s).map (Q8 s)
noncomputable def rA (n : Nat) (l : List Aa) (L : List (List Int)) : List (List Int) := Ex Kc (L.flatMap (Kv n l))
noncomputable def Jd (n : Nat) (l : List Aa) : Nat -> List (List Int)
  | 0 => [[]]
  | k + 1 => rA n l (Jd n l k)
noncomputable def Dh (n : Nat) (l : List Aa) : Nat -> List (List Int)
  | 0 => [[]]
  | k + 1 => Dh n l k ++ Jd n l (k + 1)
theorem kV {n : Nat} {l : List Aa} {L : List (List Int)} {t : List Int} : t ∈ rA n l L ↔ ∃ s i, s ∈ L /\ Ri n l s i /\ t = Q8 s i := by
  unfold rA Kv
  rw [Fa Pw, List.mem_flatMap]
  constructor
  · rintro ⟨s, hs, ht⟩
    obtain ⟨i, hi, rfl⟩ := List.mem_map.1 ht
    exact ⟨s, i, hs, M4.1 hi, rfl⟩
  · rintro ⟨s, i, hs, hi, rfl⟩
    exact ⟨s, hs, List.mem_map.2 ⟨i, M4.2 hi, rfl⟩⟩
structure pU (n : Nat) (l : List Aa) (k : Nat) (L : List (List Int)) : Prop where
  asc : bN Kc L
  mem : ∀ t, t ∈ L ↔ VS n t /\ So n l t /\ t.length = k
theorem K1 {n : Nat} {l : List Aa} (hv : Ia n l) : ∀ k, pU n l k (Jd n l k)
  | 0 => ⟨List.pairwise_singleton _ _, fun t => by
    rw [show Jd n l 0 = [[]] from rfl, List.mem_singleton]
    exact ⟨fun h => by rw [h]; exact ⟨.nil, .nil, rfl⟩, fun h => List.eq_nil_of_length_eq_zero h.2.2⟩⟩
  | k + 1 => by
    have ih := K1 hv k
    refine ⟨Ki Pw _, fun t => ?_⟩
    rw [show Jd n l (k + 1) = rA n l (Jd n l k) from rfl, kV]
    constructor
    · rintro ⟨s, i, hs, hi, rfl⟩
      obtain ⟨h1, h2, h3⟩ := (ih.mem s).1 hs
      have ha := Od h1.asc i
      exact ⟨ha.vs h1 hi.1, ha.cl h2 hi, by rw [ha.len h1.asc hi.2.1, h3]⟩
    · rintro ⟨h1, h2, h3⟩
      obtain ⟨i, hi⟩ := lT hv h1 (by intro e; rw [e] at h3; cases h3)
      have hsa : Gs (t.filter fun x => decide (x ≠ (i : Int))) := h1.asc.sublist List.filter_sublist
      have hm : ∀ x, x ∈ t.filter (fun x => decide (x ≠ (i : Int))) ↔ x ∈ t /\ x ≠ (i : Int) := fun x => by rw [List.mem_filter, decide_eq_true_iff]
      have hni : ¬ (i : Int) ∈ t.filter (fun x => decide (x ≠ (i : Int))) := fun q => ((hm _).1 q).2 rfl
      have hadd : Y4 (t.filter fun x => decide (x ≠ (i : Int))) i t := ⟨h1.asc, fun x => by
        rw [hm]
        constructor
        · intro q
          by_cases e : x = (i : Int)
          · exact .inl e
          · exact .inr ⟨q, e⟩
        · rintro (rfl | q)
          · exact hi.1
          · exact q.1⟩
      have hr := h1.rng _ hi.1
      have hlen := hadd.len hsa hni
      refine ⟨t.filter fun x => decide (x ≠ (i : Int)), i, (ih.mem _).2 ⟨⟨hsa, fun x hx => h1.rng x ((hm x).1 hx).1⟩, fun a b hw hb => ?_, by omega⟩, ⟨by omega, hni, fun j hw => ?_⟩, ?_⟩
      · have hb := (hm _).1 hb
        refine (hm _).2 ⟨h2 a b hw hb.1, fun e => ?_⟩
        have : a = i := by omega
        subst this
        exact hi.2 b hw hb.1
      · refine (hm _).2 ⟨h2 j i hw hi.1, fun e => ?_⟩
        have : j = i := by omega
        rw [this, hv.acy i] at hw; cases hw
      · exact hadd.uniq (Od hsa i)
theorem bI {n : Nat} {l : List Aa} (hv : Ia n l) {k : Nat} (h : k <= n) : 0 < (Jd n l k).length := by
  obtain ⟨h1, h2, h3⟩ := Nr hv k h
  exact List.length_pos_of_mem (((K1 hv k).mem _).2 ⟨h1, h2, h3⟩)
theorem Wr {n : Nat} {l : List Aa} (hv : Ia n l) {k : Nat} (h : n < k) : Jd n l k = [] := by
  refine List.eq_nil_iff_forall_not_mem.2 fun t ht => ?_
  obtain ⟨h1, h2, h3⟩ := ((K1 hv k).mem t).1 ht
  have := h1.len
  omega
theorem Xx {n : Nat} {l : List Aa} {i k : Nat} (h : i <= k) : (Dh n l i).length <= (Dh n l k).length := by
  induction k with
  | zero => have : i = 0 := by omega
            rw [this]; exact Nat.le_refl _
  | succ k ih =>
    by_cases e : i = k + 1
    · rw [e]; exact Nat.le_refl _
    · have := ih (by omega)
      rw [show Dh n l (k + 1) = Dh n l k ++ Jd n l (k + 1) from rfl, List.length_append]
      omega
theorem Qs {n : Nat} {l : List Aa} (hv : Ia n l) {t : List Int} : ∀ k, t ∈ Dh n l k ↔ VS n t /\ So n l t /\ t.length <= k
  | 0 => by
    rw [show Dh n l 0 = Jd n l 0 from rfl, (K1 hv 0).mem]
    exact ⟨fun h => ⟨h.1, h.2.1, by omega⟩, fun h => ⟨h.1, h.2.1, by omega⟩⟩
  | k + 1 => by
    rw [show Dh n l (k + 1) = Dh n l k ++ Jd n l (k + 1) from rfl, List.mem_append, Qs hv k, (K1 hv (k + 1)).mem]
    constructor
    · rintro (h | h)
      · exact ⟨h.1, h.2.1, by omega⟩
      · exact ⟨h.1, h.2.1, by omega⟩
    · intro h
      by_cases e : t.length <= k
      · exact .inl ⟨h.1, h.2.1, e⟩
      · exact .inr ⟨h.1, h.2.1, by omega⟩
theorem Qg {n : Nat} {l : List Aa} (hv : Ia n l) : ∀ k, (Dh n l k).Nodup
  | 0 => by show ([[]] : List (List Int)).Nodup; simp
  | k + 1 => by
    rw [show Dh n l (k + 1) = Dh n l k ++ Jd n l (k + 1) from rfl]
    refine List.nodup_append.2 ⟨Qg hv k, (K1 hv (k + 1)).asc.nodup Pw, fun a ha b hb e => ?_⟩
    subst e
    have h1 := ((Qs hv k).1 ha).2.2
    have h2 := (((K1 hv (k + 1)).mem a).1 hb).2.2
    omega
noncomputable def N0 (n : Nat) (l : List Aa) : List (List Int) × Int := if 4096 < (Dh n l n).length then ([], 3) else (Dh n l n, 0)
theorem Ts {n : Nat} {l : List Aa} (hv : Ia n l) : Dh n l (n + 1) = Dh n l n := by
  rw [show Dh n l (n + 1) = Dh n l n ++ Jd n l (n + 1) from rfl, Wr hv (by omega), List.append_nil]
theorem Um {n : Nat} {l : List Aa} (hv : Ia n l) {i : Nat} (hi : i <= n) (h : 4096 < (Dh n l (i + 1)).length) : N0 n l = ([], 3) := by
  unfold N0
  rw [if_pos]
  have := Xx (n := n) (l := l) (show i + 1 <= n + 1 by omega)
  rw [Ts hv] at this
  omega
theorem Zn {α : Type} (lt : α -> α -> Bool) (l : List α) (x : α) : Ex lt (l ++ [x]) = Gj lt (Ex lt l) x := by
  unfold Ex
  rw [List.foldl_append]; rfl
theorem gF {α : Type} {lt : α -> α -> Bool} (h : Nt lt) {l m : List α} (hs : ∀ x ∈ l, x ∈ m) : (Ex lt l).length <= (Ex lt m).length :=
  List.Nodup.length_le_of_subset ((Ki h l).nodup h) fun x hx => (Fa h).2 (hs x ((Fa h).1 hx))
theorem V1 {n : Int} {l : List Aa} (hl : l.length <= 1000) (h : Dn n l ≠ 0) : Be n l = some ([], Dn n l) /\ By n l = some ([], Dn n l) := by
  constructor
  · rcases Gk n l hl with ⟨-, e⟩ | ⟨m, o, -, -, -, -, hc⟩
    · unfold Be
      rw [e, Option.bind_some]
      exact Uu _ h
    · exact (h hc).elim
  · unfold By
    rw [(E5 n l hl).2, Option.bind_some]
    exact Uu _ h
theorem Uq {m : Nat} {l : List Aa} (hv : Ia m l) (hl : l.length <= 1000) : By (m : Int) l = some (N0 m l) := by
  have hn := hv.n24
  unfold By
  rw [(E5 _ l hl).2, hv.chk, Option.bind_some]
  show B2 (fun q' => By.l1 (m : Int) l q'.1 q'.2) (([[]] : List (List Int)), ([[]] : List (List Int))) = _
  refine Ok.eq_ (J0 (fun i (q : List (List Int) × List (List Int)) => q) (m + 1) (fun i q => q = (Jd m l i, Dh m l i) /\ (Dh m l i).length <= 4096) (fun i q hi h => ?_) (fun q h => ?_) (s := ([[]], [[]])) ⟨rfl, (show 1 <= 4096 by decide)⟩)
  · obtain ⟨rfl, h2⟩ := h
    have lv := K1 hv i
    have lpos := bI hv (k := i) (by omega)
    have llen : (Jd m l i).length <= 4096 := by
      have : (Jd m l i).length <= (Dh m l i).length := by
        cases i with
        | zero => exact Nat.le_refl _
        | succ k => rw [show Dh m l (k + 1) = Dh m l k ++ Jd m l (k + 1) from rfl, List.length_append]; omega
      omega
    have e1 : (Dh m l (i + 1)).length = (Dh m l i).length + (Jd m l (i + 1)).length := by
      rw [show Dh m l (i + 1) = Dh m l i ++ Jd m l (i + 1) from rfl, List.length_append]
    show Ok (By.l1 (m : Int) l (Jd m l i) (Dh m l i)) _
    unfold By.l1
    rw [decide_eq_true (by omega), cond_true]
    refine J0 (fun j (q : List (List Int)) => (q, j)) (Jd m l i).length (fun j q => q = Ex Kc (((Jd m l i).take j).flatMap (Kv m l)) /\ (Dh m l i).length + q.length <= 4096) (fun j q hj h => ?_) (fun q h => ?_) (s := []) ⟨rfl, by simpa using h2⟩
    · obtain ⟨hq, h3⟩ := h
      have hs : (Jd m l i)[j]? = some ((Jd m l i)[j]) := List.getElem?_eq_getElem hj
      obtain ⟨s, hs0⟩ : ∃ s, s = (Jd m l i)[j] := ⟨_, rfl⟩
      rw [<- hs0] at hs
      obtain ⟨s1, s2, s3⟩ := (lv.mem s).1 (H8 hs)
      obtain ⟨w, w1, w2, w3, w4⟩ := Ot hv hl s1 s2 true
      have hw : w = (cA m l s).map fun (i : Nat) => (i : Int) := by
        refine Oo w3 ?_ fun x => ?_
        · rw [Gs, List.pairwise_map]
          exact (aZ m l s).imp fun h => by omega
        · rw [w4, List.mem_map]
          constructor
          · rintro ⟨j, rfl, h⟩; exact ⟨j, M4.2 h, rfl⟩
          · rintro ⟨j, h, rfl⟩; exact ⟨j, rfl, M4.1 h⟩
      have hwl : w.length = (cA m l s).length := by rw [hw, List.length_map]
      have hrl := bV m l s
      have hsl : (Kv m l s).length = (cA m l s).length := by unfold Kv; rw [List.length_map]
      have hs1 := s1.len
      show Ok (By.l2 (m : Int) l (Jd m l i) (Dh m l i) q (j : Int)) _
      unfold By.l2
      rw [Dx hs, w1, Option.bind_some]
      refine J0 (fun k (q : List (List Int)) => (q, k)) w.length (fun k q => q = Ex Kc (((Jd m l i).take j).flatMap (Kv m l) ++ (Kv m l s).take k) /\ (Dh m l i).length + q.length <= 4096) (fun k q hk h => ?_) (fun q h => ?_) (s := q) ⟨by rw [hq]; simp, h3⟩
      · obtain ⟨hq, h3⟩ := h
        have hkr : k < (cA m l s).length := by omega
        obtain ⟨a, ha0⟩ : ∃ a, a = (cA m l s)[k] := ⟨_, rfl⟩
        have ha : (cA m l s)[k]? = some a := by rw [ha0]; exact List.getElem?_eq_getElem hkr
        have hwk : w[k]? = some (a : Int) := by rw [hw, List.getElem?_map, ha]; rfl
        have hsk : (Kv m l s)[k]? = some (Q8 s a) := by unfold Kv; rw [List.getElem?_map, ha]; rfl
        have hra := M4.1 (H8 ha)
        obtain ⟨t, t1, t2⟩ := To s1.asc (by omega) a hra.2.1
        have ht : t = Q8 s a := t2.uniq (Od s1.asc a)
        subst ht
        have hmem : ∀ y ∈ ((Jd m l i).take j).flatMap (Kv m l) ++ (Kv m l s).take (k + 1), y ∈ (Jd m l i).flatMap (Kv m l) := fun y hy => by
          rcases List.mem_append.1 hy with hy | hy
          · obtain ⟨u, hu, hy⟩ := List.mem_flatMap.1 hy
            exact List.mem_flatMap.2 ⟨u, List.mem_of_mem_take hu, hy⟩
          · exact List.mem_flatMap.2 ⟨s, H8 hs, List.mem_of_mem_take hy⟩
        have hle := gF Pw hmem
        have hle : (Ex Kc (((Jd m l i).take j).flatMap (Kv m l) ++ (Kv m l s).take (k + 1))).length <= (Jd m l (i + 1)).length := hle
        have hlenall : ∀ y ∈ (Jd m l i).flatMap (Kv m l), y.length = i + 1 := fun y hy => by
          have : y ∈ Jd m l (i + 1) := (Fa Pw).2 hy
          exact (((K1 hv (i + 1)).mem y).1 this).2.2
        have hput : C1 q (Q8 s a) = some (Gj Kc q (Q8 s a)) := by
          refine jH (n := i + 1) (by omega) q _ (by omega) (by rw [hq]; exact Ki Pw _) (fun y hy => ?_) ?_
          · rw [hq] at hy
            refine hlenall y (hmem y ?_)
            rcases List.mem_append.1 ((Fa Pw).1 hy) with h | h
            · exact List.mem_append.2 (.inl h)
            · refine List.mem_append.2 (.inr ?_)
              rw [Dq hsk]
              exact List.mem_append.2 (.inl h)
          · refine hlenall _ (hmem _ (List.mem_append.2 (.inr ?_)))
            rw [Dq hsk]
            exact List.mem_append.2 (.inr (.head _))
        have hqe : Gj Kc q (Q8 s a) = Ex Kc (((Jd m l i).take j).flatMap (Kv m l) ++ (Kv m l s).take (k + 1)) := by
          rw [Dq hsk, <- List.append_assoc, Zn, <- hq]
        have hql := Nx Kc (Q8 s a) q
        show Ok (By.l3 (Dh m l i) (j : Int) s w q (k : Int)) _
        unfold By.l3
        rw [Dx hwk, t1, Option.bind_some, hput, Option.bind_some, Em (by omega)]
        refine Ok.cond (fun hb => ?_) (fun hb => ?_)
        · have hb := of_decide_eq_true hb
          rw [hqe] at hb
          refine Ok.up (Ok.up (Ok.up (Ok.ret ?_)))
          exact (Um hv (i := i) (by omega) (by omega)).symm
        · have hb := of_decide_eq_false hb
          rw [W1 (by omega)]
          exact Ok.ret ⟨_, rfl, hqe, by omega⟩
      · obtain ⟨hq, h3⟩ := h
        show Ok (By.l3 (Dh m l i) (j : Int) s w q (w.length : Int)) _
        unfold By.l3
        rw [Dt, W1 (by omega)]
        refine Ok.up (Ok.ret ⟨q, rfl, ?_, h3⟩)
        rw [hq, Dq hs, List.flatMap_append, List.take_of_length_le (show (Kv m l s).length <= w.length by omega)]
        simp
    · obtain ⟨hq, h3⟩ := h
      rw [List.take_length] at hq
      have hq : q = Jd m l (i + 1) := hq
      show Ok (By.l2 (m : Int) l (Jd m l i) (Dh m l i) q ((Jd m l i).length : Int)) _
      unfold By.l2
      rw [Dt, Fk (by omega), Option.bind_some]
      subst hq
      exact Ok.up (Ok.ret ⟨_, rfl, rfl, by omega⟩)
  · obtain ⟨rfl, h2⟩ := h
    show Ok (By.l1 (m : Int) l (Jd m l (m + 1)) (Dh m l (m + 1))) _
    unfold By.l1
    rw [Wr hv (by omega), Ts hv] at *
    refine Ok.up (Ok.ret ?_)
    unfold N0
    rw [if_neg (by omega)]
end
section
open Go
def lG (x : Int) : List Int := K9 x.toNat
structure dR (mp : List (Int × Bool)) (q : List Int) (F : List (List Int)) : Prop where
 ok : ∀ x ∈ q, rR x
 nd : q.Nodup
 get : ∀ x, Ff mp x false = decide (x ∈ q)
 mem : ∀ t, t ∈ q.map lG ↔ t ∈ F
theorem dR.put {mp : List (Int × Bool)} {q : List Int} {F : List (List Int)} (h : dR mp q F) {x : Nat} (hx : x < Ik) (hno : ¬ (x : Int) ∈ q) : dR (Hw mp (x : Int) true) (q ++ [(x : Int)]) (F ++ [K9 x]) where
 ok y hy := by
  rcases List.mem_append.1 hy with hy | hy
  ·exact h.ok y hy
  ·rw [List.mem_singleton.1 hy]; exact ⟨x, rfl, hx⟩
 nd := List.nodup_append.2 ⟨h.nd, by simp, fun a ha b hb e => hno (by rw [List.mem_singleton.1 hb] at e; rw [<- e]; exact ha)⟩
 get y := by
  rw [T8, h.get]
  by_cases e : (x : Int) = y
  ·rw [if_pos e, decide_eq_true]
   rw [e]; exact List.mem_append.2 (.inr (.head _))
  ·rw [if_neg e]
   cases hd : decide (y ∈ q ++ [(x : Int)]) with
   | true =>
    rcases List.mem_append.1 (of_decide_eq_true hd) with h1 | h1
    ·exact decide_eq_true h1
    ·exact (e (List.mem_singleton.1 h1).symm).elim
   | false => exact decide_eq_false fun h1 => of_decide_eq_false hd (List.mem_append.2 (.inl h1))
 mem t := by rw [List.map_append, List.mem_append, List.mem_append, h.mem]; rfl
theorem dR.old {mp : List (Int × Bool)} {q : List Int} {F : List (List Int)} (h : dR mp q F) {x : Nat} (hin : (x : Int) ∈ q) : dR mp q (F ++ [K9 x]) where
 ok := h.ok
 nd := h.nd
 get := h.get
 mem t := by
  rw [List.mem_append, h.mem]
  refine ⟨.inl, fun q' => q'.elim id fun e => ?_⟩
  rw [List.mem_singleton.1 e]
  exact (h.mem _).1 (List.mem_map.2 ⟨_, hin, rfl⟩)
theorem dR.sub {mp : List (Int × Bool)} {q : List Int} {F G : List (List Int)} (h : dR mp q F) (hG : G.Nodup) (hs : ∀ t ∈ F, t ∈ G) : q.length <= G.length := by
 have hn : (q.map lG).Nodup := by
  rw [List.Nodup, List.pairwise_map]
  refine List.Pairwise.imp_of_mem (fun {a b} ha hb hne e => hne ?_) h.nd
  obtain ⟨x, rfl, hx⟩ := h.ok a ha
  obtain ⟨y, rfl, hy⟩ := h.ok b hb
  have : x = y := aK hx hy e
  rw [this]
 have := List.Nodup.length_le_of_subset hn fun t ht => hs t ((h.mem t).1 ht)
 rwa [List.length_map] at this
theorem iW {n : Nat} (hn : n <= 24) {l : List Aa} {k : Nat} {s : List Int} (hs : VS n s) (hk : MS k s) (e : Int) (he : e = (k : Int)) : ∀ (bs : List Nat), (∀ a ∈ bs, a < n) -> ∀ (mp : List (Int × Bool)) (q : List Int) (F : List (List Int)), dR mp q F -> q.length + bs.length <= 100000 -> ∃ mp' q', Qm (fun a (s' : List (Int × Bool) × List Int) => Be.r3 e (a : Int) s'.1 s'.2) bs (mp, q) = some (0, (mp', q')) /\ dR mp' q' (F ++ bs.map (Q8 s)) /\ q'.length <= q.length + bs.length := by
 intro bs
 subst he
 induction bs with
 | nil => intro _ mp q F h _; exact ⟨mp, q, rfl, by simpa using h, Nat.le_refl _⟩
 | cons a bs ih =>
  intro hbs mp q F h hq
  have ha := hbs a (.head _)
  have hpw := K6 (show a < 32 by omega)
  have hms := (Od hs.asc a).ms hk (show a < 32 by omega)
  have hadd : Q8 s a = K9 (k ||| 2 ^ a) := hms.lst_eq (Od hs.asc a).asc fun x hx => by
   rcases ((Od hs.asc a).mem x).1 hx with e | e
   ·omega
   ·exact (hs.rng x e).1
  have hF : ∀ F : List (List Int), F ++ (a :: bs).map (Q8 s) = F ++ [K9 (k ||| 2 ^ a)] ++ bs.map (Q8 s) := fun F => by rw [List.map_cons, hadd, List.append_assoc]; rfl
  unfold Qm
  by_cases hin : ((k ||| 2 ^ a : Nat) : Int) ∈ q
  ·have e1 : Be.r3 (k : Int) (a : Int) mp q = some (0, (mp, q)) := by
    unfold Be.r3
    rw [Q3 (by omega), Option.bind_some, Xs hk.lt hpw, h.get, decide_eq_true hin]; rfl
   obtain ⟨mp', q', r1, r2, r3⟩ := ih (fun x hx => hbs x (.tail _ hx)) mp q _ (h.old hin) (by simp only [List.length_cons] at hq; omega)
   refine ⟨mp', q', ?_, by rw [hF]; exact r2, by rw [List.length_cons]; omega⟩
   show (Be.r3 (k : Int) (a : Int) mp q).bind _ = _
   rw [e1, Option.bind_some, if_pos rfl]; exact r1
  ·have e1 : Be.r3 (k : Int) (a : Int) mp q = some (0, (Hw mp ((k ||| 2 ^ a : Nat) : Int) true, q ++ [((k ||| 2 ^ a : Nat) : Int)])) := by
    unfold Be.r3
    rw [Q3 (by omega), Option.bind_some, Xs hk.lt hpw, h.get, decide_eq_false hin, Bool.not_false, cond_true, Fk (by simp only [List.length_cons, List.length_nil] at *; omega)]; rfl
   obtain ⟨mp', q', r1, r2, r3⟩ := ih (fun x hx => hbs x (.tail _ hx)) _ _ _ (h.put (Sc hk.lt hpw) hin) (by simp only [List.length_append, List.length_cons, List.length_nil] at *; omega)
   refine ⟨mp', q', ?_, by rw [hF]; exact r2, by simp only [List.length_append, List.length_cons, List.length_nil] at *; omega⟩
   show (Be.r3 (k : Int) (a : Int) mp q).bind _ = _
   rw [e1, Option.bind_some, if_pos rfl]; exact r1
structure rB (row : List Int) (L : List (List Int)) : Prop where
 ok : ∀ x ∈ row, rR x
 map : row.map lG = L
theorem rB.get {row : List Int} {L : List (List Int)} (h : rB row L) {i : Nat} (hi : i < row.length) : ∃ k : Nat, row[i]? = some (k : Int) /\ k < Ik /\ L[i]? = some (K9 k) := by
 obtain ⟨k, hk, hk2⟩ := h.ok _ (List.getElem_mem hi)
 have e : row[i]? = some (k : Int) := by rw [List.getElem?_eq_getElem hi, hk]
 refine ⟨k, e, hk2, ?_⟩
 rw [<- h.map, List.getElem?_map, e]; rfl
theorem dU {n : Nat} {l : List Aa} {k : Nat} {L : List (List Int)} (hL : pU n l k L) {mp : List (Int × Bool)} {q : List Int} {F : List (List Int)} (h : dR mp q F) (hF : ∀ t, t ∈ F ↔ t ∈ L) (hq : q.length <= 5000) : ∃ r, C3 q (fun x0 x1 => Eu x0 x1) = some r /\ rB r L := by
 obtain ⟨r, r1, r2, r3⟩ := Nb bW fM q (by unfold Jc; omega) h.ok
 refine ⟨r, r1, fun x hx => h.ok x (r2.mem_iff.1 hx), ?_⟩
 have hmem : ∀ t, t ∈ r.map lG ↔ t ∈ L := fun t => by
  rw [<- hF, <- h.mem, List.mem_map, List.mem_map]
  exact ⟨fun ⟨x, a, b⟩ => ⟨x, r2.mem_iff.1 a, b⟩, fun ⟨x, a, b⟩ => ⟨x, r2.mem_iff.2 a, b⟩⟩
 refine Sv Pw ?_ hL.asc hmem
 rw [bN, List.pairwise_map]
 have hnd : r.Nodup := r2.nodup_iff.2 h.nd
 refine List.Pairwise.imp_of_mem (fun {a b} ha hb hab => ?_) (List.Pairwise.and hnd r3)
 obtain ⟨x, rfl, hx⟩ := h.ok a (r2.mem_iff.1 ha)
 obtain ⟨y, rfl, hy⟩ := h.ok b (r2.mem_iff.1 hb)
 have l1 := ((hL.mem _).1 ((hmem _).1 (List.mem_map.2 ⟨_, ha, rfl⟩))).2.2
 have l2 := ((hL.mem _).1 ((hmem _).1 (List.mem_map.2 ⟨_, hb, rfl⟩))).2.2
 exact kJ (a := x) (b := y) hx hy (l1.trans l2.symm) (fun e => hab.1 (by rw [e])) hab.2
theorem Hd {n : Nat} {l : List Aa} (hv : Ia n l) (hl : l.length <= 1000) : Be (n : Int) l = some (N0 n l) := by
 obtain ⟨o, ho, e⟩ := Lm hv hl
 have hn := hv.n24
 unfold Be
 rw [e, Option.bind_some]
 show B2 (fun q' => Be.l1 q'.1 q'.2.1 q'.2.2) (o, ([[]] : List (List Int)), ([0] : List Int)) = _
 refine Ok.eq_ (J0 (fun i (q : Ap × List (List Int) × List Int) => q) (n + 1) (fun i q => q.1 = o /\ q.2.1 = Dh n l i /\ (Dh n l i).length <= 4096 /\ rB q.2.2 (Jd n l i)) (fun i q hi h => ?_) (fun q h => ?_) (s := (o, [[]], [0])) ⟨rfl, rfl, (show 1 <= 4096 by decide), fun x hx => ⟨0, List.mem_singleton.1 hx, by decide⟩, rfl⟩)
 ·obtain ⟨q1, q2, row⟩ := q
  obtain ⟨h1, h2, h3, hrow⟩ := h
  dsimp only at h1 h2 hrow
  subst h1 h2
  have lv := K1 hv i
  have lv' := K1 hv (i + 1)
  have lpos := bI hv (k := i) (by omega)
  have hrl : row.length = (Jd n l i).length := by rw [<- hrow.map, List.length_map]
  have llen : (Jd n l i).length <= 4096 := by
   have : (Jd n l i).length <= (Dh n l i).length := by
    cases i with
    | zero => exact Nat.le_refl _
    | succ k => rw [show Dh n l (k + 1) = Dh n l k ++ Jd n l (k + 1) from rfl, List.length_append]; omega
   omega
  have e1 : (Dh n l (i + 1)).length = (Dh n l i).length + (Jd n l (i + 1)).length := by
   rw [show Dh n l (i + 1) = Dh n l i ++ Jd n l (i + 1) from rfl, List.length_append]
  have hsub : ∀ j, ∀ t ∈ ((Jd n l i).take j).flatMap (Kv n l), t ∈ Jd n l (i + 1) := fun j t ht => by
   obtain ⟨u, hu, ht⟩ := List.mem_flatMap.1 ht
   exact (Fa Pw).2 (List.mem_flatMap.2 ⟨u, List.mem_of_mem_take hu, ht⟩)
  show Ok (Be.l1 q1 (Dh n l i) row) _
  unfold Be.l1
  rw [decide_eq_true (by omega), cond_true]
  refine J0 (fun j (q : Ap × List (Int × Bool) × List Int) => (j, q.1, q.2.1, q.2.2)) row.length (fun j q => q.1 = q1 /\ dR q.2.1 q.2.2 (((Jd n l i).take j).flatMap (Kv n l)) /\ (Dh n l i).length + q.2.2.length <= 4096) (fun j q hj h => ?_) (fun q h => ?_) (s := (q1, [], [])) ⟨rfl, ⟨fun x hx => (by cases hx), .nil, fun x => rfl, fun t => by simp⟩, by simpa using h3⟩
  ·obtain ⟨p1, mp, q⟩ := q
   obtain ⟨h4, hN, h5⟩ := h
   dsimp only at h4 hN h5
   subst h4
   obtain ⟨k, k1, k2, k3⟩ := hrow.get hj
   obtain ⟨s1, s2, s3⟩ := (lv.mem _).1 (H8 k3)
   have hms := Zo k2
   obtain ⟨r, r1, r2, r3⟩ := T5 hv ho hms
   have hbits : bits r = cA n l (K9 k) := Xr (Nm r) (aZ n l _) fun x => by rw [Fj r2, r3, M4]
   have hbl := bV n l (K9 k)
   obtain ⟨mp', q', w1, w2, w3⟩ := iW (l := l) hn s1 hms (k : Int) rfl (bits r) (fun a ha => by rw [hbits] at ha; exact (M4.1 ha).1) mp q _ hN (by rw [hbits]; omega)
   obtain ⟨z, hz⟩ := Om (fun a (s' : List (Int × Bool) × List Int) => Be.r3 (k : Int) a s'.1 s'.2) _ r (Nat.le_refl _) r2 (mp, q) _ w1
   have hF : ((Jd n l i).take j).flatMap (Kv n l) ++ (bits r).map (Q8 (K9 k)) = ((Jd n l i).take (j + 1)).flatMap (Kv n l) := by
    rw [Dq k3, List.flatMap_append, hbits]
    simp [Kv]
   rw [hF] at w2
   have hqsub := w2.sub (lv'.asc.nodup Pw) (hsub _)
   show Ok (Be.l2 (Dh n l i) row (j : Int) p1 mp q) _
   unfold Be.l2 C7
   rw [Dx k1, r1, Option.bind_some, Option.bind_some, hz, Option.bind_some]
   rw [show Nat.beq (z, 0, mp', q').2.1 0 = true from rfl, cond_true]
   dsimp only
   rw [hbits] at w3
   rw [Em (by omega)]
   refine Ok.cond (fun hb => ?_) (fun hb => ?_)
   ·have hb := of_decide_eq_true hb
    refine Ok.up (Ok.up (Ok.ret ?_))
    exact (Um hv (i := i) (by omega) (by omega)).symm
   ·have hb := of_decide_eq_false hb
    rw [W1 (by omega)]
    exact Ok.ret ⟨(_, _, _), rfl, rfl, w2, by show _ + q'.length <= _; omega⟩
  ·obtain ⟨p1, mp, q⟩ := q
   obtain ⟨h4, hN, h5⟩ := h
   dsimp only at h4 hN h5
   subst h4
   rw [hrl, List.take_length] at hN
   obtain ⟨r, r1, r2⟩ := dU lv' hN (fun t => (Fa Pw).symm) (by omega)
   have hrlen : r.length = (Jd n l (i + 1)).length := by rw [<- r2.map, List.length_map]
   have hrq : r.length = q.length := by
    obtain ⟨r', a1, a2, -⟩ := Nb bW fM q (by unfold Jc; omega) hN.ok
    rw [r1] at a1
    injection a1 with a1
    rw [a1]; exact a2.length_eq
   show Ok (Be.l2 (Dh n l i) row (row.length : Int) p1 mp q) _
   unfold Be.l2
   rw [Dt, r1, Option.bind_some]
   refine Ok.up ?_
   refine J0 (fun j (q : List (List Int)) => (j, q)) r.length (fun j q => q = Dh n l i ++ (Jd n l (i + 1)).take j) (fun j q hj h => ?_) (fun q h => ?_) (s := Dh n l i) (by simp)
   ·obtain ⟨k, k1, k2, k3⟩ := r2.get hj
    have htl : ((Jd n l (i + 1)).take j).length <= (Jd n l (i + 1)).length := by rw [List.length_take]; omega
    show Ok (Be.l4 p1 r (j : Int) q) _
    unfold Be.l4
    rw [Dx k1, Ni k2, Option.bind_some, Fk (by rw [h, List.length_append, List.length_singleton]; omega), Option.bind_some, W1 (by omega)]
    exact Ok.ret ⟨_, rfl, by rw [h, Dq k3, List.append_assoc]⟩
   ·show Ok (Be.l4 p1 r (r.length : Int) q) _
    unfold Be.l4
    rw [Dt]
    rw [hrlen, List.take_length] at h
    exact Ok.up (Ok.ret ⟨(_, _, _), rfl, rfl, h, by omega, r2⟩)
 ·obtain ⟨q1, q2, row⟩ := q
  obtain ⟨h1, h2, h3, hrow⟩ := h
  dsimp only at h1 h2 hrow
  have : row = [] := by
   have := hrow.map
   rw [Wr hv (by omega)] at this
   exact List.map_eq_nil_iff.1 this
  subst this h1 h2
  show Ok (Be.l1 q1 (Dh n l (n + 1)) []) _
  rw [Ts hv] at *
  unfold Be.l1
  refine Ok.up (Ok.ret ?_)
  unfold N0
  rw [if_neg (by omega)]
theorem dK {n : Nat} {l : List Aa} (hv : Ia n l) (hl : l.length <= 1000) : Be (n : Int) l = some (N0 n l) /\ By (n : Int) l = some (N0 n l) := ⟨Hd hv hl, Uq hv hl⟩
theorem Jl {n : Nat} {l : List Aa} (hv : Ia n l) (hn : n <= 6) : (Dh n l n).length <= 64 /\ N0 n l = (Dh n l n, 0) := by
 have h64 : (Dh n l n).length <= 64 := by
  have := List.Nodup.length_le_of_subset (l₂ := (List.range 64).map K9) (Qg hv n) fun t ht => by
   obtain ⟨h1, h2, h3⟩ := (Qs hv n).1 ht
   obtain ⟨m, hm⟩ := h1.ms hv.n24
   refine List.mem_map.2 ⟨m, List.mem_range.2 ?_, (h1.lst hm).symm⟩
   refine Nat.lt_of_not_le fun hge => ?_
   obtain ⟨j, hj, hb⟩ := Nat.exists_ge_and_testBit_of_ge_two_pow (n := 6) hge
   rw [hm.bit] at hb
   have := h1.rng _ (of_decide_eq_true hb)
   omega
  rwa [List.length_map, List.length_range] at this
 refine ⟨h64, ?_⟩
 unfold N0
 rw [if_neg (by omega)]
theorem Hc {n : Nat} {l : List Aa} (hv : Ia n l) {t : List Int} : t ∈ Dh n l n ↔ VS n t /\ So n l t := by
 rw [Qs hv]
 exact ⟨fun h => ⟨h.1, h.2.1⟩, fun h => ⟨h.1, h.2, h.1.len⟩⟩
end
section
open Go
theorem cR {n : Nat} {l : List Aa} (hv : Ia n l) {E : List (List Int)} (hE : E.Nodup) (hm : ∀ t, t ∈ E ↔ VS n t /\ So n l t) : (Dh n l n).length = E.length :=
 ((List.perm_ext_iff_of_nodup (Qg hv n) hE).2 fun t => (Hc hv).trans (hm t).symm).length_eq
theorem Xc {m n : Nat} (h : m < 2 ^ n) (hn : n <= 24) : m < Ik /\ VS n (K9 m) := by
 have h2 : m < Ik := Nat.lt_of_lt_of_le h (show 2 ^ n <= 2 ^ 32 from Nat.pow_le_pow_right Nat.zero_lt_two (by omega))
 refine ⟨h2, Lh m, fun x hx => ?_⟩
 obtain ⟨i, rfl, hi⟩ := (J8 h2).1 hx
 have : i < n := Nat.lt_of_not_le fun q => by
  rw [Nat.testBit_lt_two_pow (Nat.lt_of_lt_of_le h (Nat.pow_le_pow_right Nat.zero_lt_two q))] at hi
  cases hi
 omega
theorem nO {n : Nat} (hn : n <= 24) {t : List Int} (h : VS n t) : ∃ m, m < 2 ^ n /\ t = K9 m := by
 obtain ⟨m, hm⟩ := h.ms hn
 refine ⟨m, Nat.lt_of_not_le fun hge => ?_, h.lst hm⟩
 obtain ⟨j, hj, hb⟩ := Nat.exists_ge_and_testBit_of_ge_two_pow hge
 rw [hm.bit] at hb
 have := h.rng _ (of_decide_eq_true hb)
 omega
theorem nE {n : Nat} (hn : n <= 24) (p : List Int -> Bool) : (((List.range (2 ^ n)).map K9).filter p).Nodup := by
 refine List.Pairwise.sublist List.filter_sublist ?_
 rw [List.pairwise_map]
 refine List.Pairwise.imp_of_mem (fun {a b} ha hb hne e => hne ?_) List.nodup_range
 exact aK (Xc (List.mem_range.1 ha) hn).1 (Xc (List.mem_range.1 hb) hn).1 e
theorem Yt {n : Nat} {l : List Aa} (hv : Ia n l) : (Dh n l n).length = (((List.range (2 ^ n)).map K9).filter (F8 l)).length := by
 refine cR hv (nE hv.n24 _) fun t => ?_
 rw [List.mem_filter, Fx hv, List.mem_map]
 constructor
 ·rintro ⟨⟨m, hm, rfl⟩, h⟩
  exact ⟨(Xc (List.mem_range.1 hm) hv.n24).2, h⟩
 ·rintro ⟨h1, h2⟩
  obtain ⟨m, hm, rfl⟩ := nO hv.n24 h1
  exact ⟨⟨m, List.mem_range.2 hm, rfl⟩, h2⟩
theorem jN : Ia 3 [⟨0, 1⟩] := by
 obtain ⟨m, hm, h⟩ := In (n := 3) (l := [⟨0, 1⟩]) (by decide +kernel)
 have : m = 3 := by omega
 subst this
 exact h
theorem rF : (((List.range (2 ^ 3)).map K9).filter (F8 [⟨0, 1⟩])).length = 6 := by decide +kernel
theorem rW : Dn 1 [⟨0, 1⟩] = 44 := by decide +kernel
theorem pI : F8 [⟨0, 1⟩] [1] = false := by decide +kernel
theorem Ja : C5 = some true := by
 have e1 : Be 3 [⟨0, 1⟩] = some (N0 3 [⟨0, 1⟩]) := Hd jN (by decide)
 have e2 := (Jl jN (by decide)).2
 have e3 : Da 3 [⟨0, 1⟩] [1] = some (F8 [⟨0, 1⟩] [1], 0) := (Hb jN (by decide) (s := [1]) ⟨List.pairwise_singleton _ _, fun x hx => by rw [List.mem_singleton.1 hx]; decide⟩).1
 have e4 : Ek 1 [⟨0, 1⟩] = some (Dn 1 [⟨0, 1⟩]) := (E5 1 [⟨0, 1⟩] (by decide)).1
 have e5 : (Dh 3 [⟨0, 1⟩] 3).length = 6 := (Yt jN).trans rF
 unfold C5
 rw [e1, e2, Option.bind_some, e3, pI, Option.bind_some, e4, rW, Option.bind_some]
 dsimp only
 rw [e5]; rfl
theorem T1 (t : List Int) (a b : UInt8) : A4 t a b = some true := Q9 Ja t a b
theorem rQ : ∀ m ∈ List.range 64, ∀ i ∈ List.range 6, ((Kb .i64 (m : Int) (i : Int)).bind fun q => some (decide ((Oa .i64 q 1) = 1))) = some (m.testBit i) := by decide +kernel
theorem qW : ∀ m ∈ List.range 64, ((List.range 6).filter m.testBit).map (fun (i : Nat) => (i : Int)) = K9 m := by decide +kernel
theorem J7 {p : Nat -> Bool} {i : Nat} : (List.range (i + 1)).filter p = (List.range i).filter p ++ (bif p i then [i] else []) := by
 rw [List.range_succ, List.filter_append]
 cases h : p i with
 | true => rw [List.filter_cons_of_pos h]; rfl
 | false => rw [List.filter_cons_of_neg (by rw [h]; decide)]; rfl
theorem qT {n : Nat} {l : List Aa} (hv : Ia n l) {s w : List Int} {i : Nat} (hc : So n l s) (hr : Ri n l s i) (ha : Y4 s i w) : Rm n l w i := by
 refine ⟨(ha.mem _).2 (.inl rfl), fun k hw hk => ?_⟩
 rcases (ha.mem _).1 hk with h | h
 ·have : k = i := by omega
  rw [this, hv.acy i] at hw; cases hw
 ·exact hr.2.1 (hc i k hw h)
theorem Vk (t : List Int) : Ao t = some true := by
 unfold Ao D9
 rw [Option.bind_some]
 by_cases hl : (t.length : Int) <= 400
 ·rw [decide_eq_true hl, Bool.not_true, cond_false]
  refine Ok.true_ ?_
  refine Ok.bind (Uo (by omega)) fun d hd => ?_
  refine Ok.bind (H5 hd 6 (by omega) (by omega)) fun y4 h4 => ?_
  obtain ⟨hM, -⟩ := h4
  have hv := hM.vok (by omega)
  have hlen := hM.len
  have hl4 : y4.1.length <= 1000 := by omega
  obtain ⟨h64, hs6⟩ := Jl hv (by omega)
  refine Ok.bindE (Hd hv hl4) ?_
  rw [hs6]
  show Ok (B2 (fun q' => Ao.l1 y4 (Dh 6 y4.1 6, 0) q'.1 q'.2) (0, 0)) _
  refine J0 (fun i (q : Nat) => ((q : Int), i)) 64 (fun i q => q = (((List.range i).map K9).filter (F8 y4.1)).length) (fun i q hi hq => ?_) (fun q hq => ?_) (s := 0) rfl
  ·show Ok (Ao.l1 y4 (Dh 6 y4.1 6, 0) (q : Int) (i : Int)) _
   unfold Ao.l1
   rw [decide_eq_true (by omega), cond_true]
   have hmi := List.mem_range.2 hi
   have hqi : q <= i := by
    have := List.length_filter_le (F8 y4.1) ((List.range i).map K9)
    rw [List.length_map, List.length_range] at this
    omega
   refine J0 (fun j (s : List Int) => (j, s)) 6 (fun j s => s = ((List.range j).filter i.testBit).map fun (i : Nat) => (i : Int)) (fun j s hj hs => ?_) (fun s hs => ?_) (s := []) rfl
   ·have hsl : s.length <= j := by
     rw [hs, List.length_map]
     have := List.length_filter_le i.testBit (List.range j)
     rw [List.length_range] at this
     exact this
    show Ok (Ao.l2 y4 (q : Int) (i : Int) (j : Int) s) _
    unfold Ao.l2 Ao.j3
    have hb := rQ i hmi j (List.mem_range.2 hj)
    rw [decide_eq_true (by omega), cond_true]
    cases hq : Kb .i64 (i : Int) (j : Int) with
    | none => rw [hq] at hb; cases hb
    | some z =>
     rw [hq, Option.bind_some] at hb
     injection hb with hb
     rw [Option.bind_some, hb, W1 (by omega)]
     refine Ok.cond (fun ht => ?_) (fun hf => ?_)
     ·rw [U4 (by omega), Option.bind_some]
      exact Ok.ret ⟨_, rfl, by rw [J7, ht, List.map_append, hs]; rfl⟩
     ·exact Ok.ret ⟨_, rfl, by rw [J7, hf, hs]; simp⟩
   ·rw [qW i hmi] at hs
    subst hs
    obtain ⟨g1, g2⟩ := Xc (n := 6) (show i < 2 ^ 6 by omega) (by omega)
    show Ok (Ao.l2 y4 (q : Int) (i : Int) 6 (K9 i)) _
    unfold Ao.l2 Ao.j4
    rw [decide_eq_false (show ¬ (6 : Int) < 6 by omega), cond_false]
    refine Ok.up (Ok.bindE (Hb hv hl4 g2).1 ?_)
    have hsucc : (((List.range (i + 1)).map K9).filter (F8 y4.1)).length = q + (bif F8 y4.1 (K9 i) then 1 else 0) := by
     rw [List.range_succ, List.map_append, List.filter_append, List.length_append, <- hq]
     cases hc : F8 y4.1 (K9 i) with
     | true => rw [List.map_cons, List.map_nil, List.filter_cons_of_pos hc]; rfl
     | false => rw [List.map_cons, List.map_nil, List.filter_cons_of_neg (by rw [hc]; decide)]; rfl
    rw [W1 (by omega), W1 (by omega)]
    refine Ok.cond (fun hc => ?_) (fun hc => ?_)
    ·exact Ok.ret ⟨q + 1, rfl, by rw [hsucc, show F8 y4.1 (K9 i) = true from hc]; rfl⟩
    ·exact Ok.ret ⟨q, rfl, by rw [hsucc, show F8 y4.1 (K9 i) = false from hc]; rfl⟩
  ·have hqo : q = (Dh 6 y4.1 6).length := by rw [hq, Yt hv]
   show Ok (Ao.l1 y4 (Dh 6 y4.1 6, 0) (q : Int) 64) _
   unfold Ao.l1
   rw [decide_eq_false (show ¬ (64 : Int) < 64 by omega), cond_false]
   refine Ok.up ?_
   rw [decide_eq_true (show (q : Int) = ((Dh 6 y4.1 6).length : Int) by omega), Bool.not_true, cond_false]
   refine J0 (fun i (q : Unit) => i) (Dh 6 y4.1 6).length (fun _ _ => True) (fun i _ hi _ => ?_) (fun _ _ => ?_) (s := ()) trivial
   ·obtain ⟨e, he⟩ : ∃ e, (Dh 6 y4.1 6)[i]? = some e := ⟨_, List.getElem?_eq_getElem hi⟩
    obtain ⟨g1, g2⟩ := (Hc hv).1 (H8 he)
    have gl := g1.len
    obtain ⟨r, r1, -, -, r2, r3⟩ := Pn hv hl4 g1 g2
    obtain ⟨v, v1, -, v2, v3⟩ := K4 hv hl4 g1 g2
    have hr0 : r.length = 0 ↔ e.length = 6 := by
     constructor
     ·intro h0
      refine Classical.byContradiction fun hne => ?_
      obtain ⟨j, hj⟩ := Xv hv g1 (by omega)
      have := List.length_pos_of_mem ((r3 _).2 ⟨j, rfl, hj⟩)
      omega
     ·intro h6
      refine Nat.eq_zero_of_not_pos fun hp => ?_
      obtain ⟨x, hx⟩ := List.exists_mem_of_length_pos hp
      obtain ⟨j, -, hj⟩ := (r3 x).1 hx
      exact fB g1 h6 j hj
    have hv0 : v.length = 0 ↔ e.length = 0 := by
     constructor
     ·intro h0
      refine Classical.byContradiction fun hne => ?_
      obtain ⟨j, hj⟩ := lT hv g1 (fun q => hne (by rw [q]; rfl))
      have := List.length_pos_of_mem ((v3 _).2 ⟨j, rfl, hj⟩)
      omega
     ·intro h6
      refine Nat.eq_zero_of_not_pos fun hp => ?_
      obtain ⟨x, hx⟩ := List.exists_mem_of_length_pos hp
      obtain ⟨j, -, hj⟩ := (v3 x).1 hx
      rw [List.eq_nil_of_length_eq_zero h6] at hj
      cases hj.1
    show Ok (Ao.l5 y4 (Dh 6 y4.1 6, 0) (i : Int)) _
    unfold Ao.l5
    rw [Dx he]
    refine Ok.bindE (Hb hv hl4 g1).1 ?_
    refine Ok.bindE r1 ?_
    refine Ok.bindE v1 ?_
    rw [(Fx hv).2 g2]
    have d1 : decide ((r.length : Int) = 0) = decide ((e.length : Int) = 6) := decide_eq_decide.2 (by omega)
    have d2 : decide ((v.length : Int) = 0) = decide ((e.length : Int) = 0) := decide_eq_decide.2 (by omega)
    show Ok (cond (!decide ((decide ((r.length : Int) = 0)) = (decide ((e.length : Int) = 6)))) _ (Ao.j6 y4 (i : Int) e (r, 0) (!decide ((decide ((v.length : Int) = 0)) = (decide ((e.length : Int) = 0)))))) _
    rw [d1, decide_eq_true (p := (decide ((e.length : Int) = 6)) = (decide ((e.length : Int) = 6))) rfl, Bool.not_true, cond_false, d2, decide_eq_true (p := (decide ((e.length : Int) = 0)) = (decide ((e.length : Int) = 0))) rfl]
    unfold Ao.j6
    rw [Bool.not_true, cond_false]
    have rl := r2.len
    refine J0 (fun i (q : Unit) => i) r.length (fun _ _ => True) (fun j _ hj _ => ?_) (fun _ _ => ?_) (s := ()) trivial
    ·obtain ⟨x, hx⟩ : ∃ x, r[j]? = some x := ⟨_, List.getElem?_eq_getElem hj⟩
     obtain ⟨a, rfl, ha⟩ := (r3 x).1 (H8 hx)
     obtain ⟨w, w1, w2⟩ := To g1.asc (by omega) a ha.2.1
     obtain ⟨u, u1, -, u2, u3⟩ := K4 hv hl4 (w2.vs g1 ha.1) (w2.cl g2 ha)
     have ul := u2.len
     show Ok (Ao.l7 y4 (i : Int) e (r, 0) (j : Int)) _
     unfold Ao.l7
     rw [Dx hx, w1, Option.bind_some]
     refine Ok.bindE u1 ?_
     show Ok ((Fo u (a : Int)).bind _) _
     rw [Xa u _ (by omega), Option.bind_some, decide_eq_true ((u3 _).2 ⟨a, rfl, qT hv g2 ha w2⟩)]
     unfold Ao.j8
     rw [Bool.not_true, cond_false, W1 (by omega)]
     exact Ok.ret ⟨(), rfl, trivial⟩
    ·show Ok (Ao.l7 y4 (i : Int) e (r, 0) (r.length : Int)) _
     unfold Ao.l7
     rw [Dt, W1 (by omega)]
     exact Ok.up (Ok.ret ⟨(), rfl, trivial⟩)
   ·show Ok (Ao.l5 y4 (Dh 6 y4.1 6, 0) ((Dh 6 y4.1 6).length : Int)) _
    unfold Ao.l5
    rw [Dt]
    refine Ok.up (Ok.bindE (Pg hv hl4).1 ?_)
    have hfl := Kl 6 y4.1 6
    refine J0 (fun i (q : List Int) => (q, i)) 6 (fun i q => q = Ug 6 y4.1 i) (fun i q hi hq => ?_) (fun q hq => ?_) (s := []) rfl
    ·subst hq
     obtain ⟨g1, g2, g3⟩ := Nr hv (i + 1) (by omega)
     have st := S2 hv hi
     show Ok (Ao.l9 y4 (La 6 y4.1 6, 0) (Ug 6 y4.1 i) (i : Int)) _
     unfold Ao.l9
     rw [Dx (aM hi), st.wit, Option.bind_some]
     refine Ok.bindE (Hb hv hl4 g1).1 ?_
     rw [(Fx hv).2 g2]
     show Ok (some (Lp.next (Ug 6 y4.1 (i + 1), W ((i : Int) + 1)))) _
     rw [W1 (by omega)]
     exact Ok.ret ⟨_, rfl, rfl⟩
    ·subst hq
     obtain ⟨g1, g2, g3⟩ := Nr hv 6 (by omega)
     show Ok (Ao.l9 y4 (La 6 y4.1 6, 0) (Ug 6 y4.1 6) 6) _
     unfold Ao.l9
     dsimp only
     rw [hfl, g3, Ja]
     exact ⟨_, rfl, rfl⟩
 ·rw [decide_eq_false hl, Ja]; rfl
end
end Go.Proofs.YtopkgllcjbpdeaaDoor
