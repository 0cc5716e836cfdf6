import Derived.Test.YtfkgbfhpibiheaaSO2api_Hit
set_option linter.unusedVariables false
set_option linter.unusedSimpArgs false
namespace Go.Proofs.Ytfkgbfhpibiheaa
open Go Go.Sort
section
variable {cmp : Ab -> Ab -> Option Int} {lt : Ab -> Ab -> Bool} {P : Ab -> Prop}
theorem M4 (hc : B0 cmp lt P) {D : Array Ab} {a i j : Nat} (hA : Bm P D) (ha : a < i) (hi : i <= j + 1) (hj : j < D.size) :
  Ap.l1 (a : Int) cmp (i : Int) (j : Int) D.toList = (fun i' j' : Nat => if j' < i' then up (some ((i' : Int), D.toList)) else some (.next (((i' + 1 : Nat) : Int), ((j' - 1 : Nat) : Int), (Sort.swp D i' j').toList))) (scanUp (fun x => !lt D[a]! x) D j i) (scanDown (fun x => lt D[a]! x) D (scanUp (fun x => !lt D[a]! x) D j i) j) := by
 have hsz := hA.1
 have hu := scanUp_spec (fun x => !lt D[a]! x) D j _ i rfl
 unfold Ap.l1
 refine (Ra (p := fun x => !lt D[a]! x) (D := D) (i0 := i) (j := j) (J := fun i x => Ap.j3 (a : Int) cmp (j : Int) D.toList (i : Int) x) (K := fun i => B6 (fun q' => Ap.l4 (a : Int) cmp D.toList (i : Int) q') (j : Int)) (by omega) (fun i' h1 h2 => ?_) (fun i => rfl) (fun i' h1 h2 => rfl) _ i rfl (xX _) (by omega)).trans ?_
 ·unfold Ap.l2
  by_cases h : i' <= j
  ·rw [xN (by omega), xT, xN h, zP]
   exact Hz hc hA (i := a) (j := i') (by omega) (by omega) rfl rfl (F := fun x => Ap.j3 (a : Int) cmp (j : Int) D.toList (i' : Int) (!x))
  ·rw [xL (by omega), xP, xL h, zG]
 ·generalize scanUp (fun x => !lt D[a]! x) D j i = i2 at hu ⊢
  have h1 := hu.1
  have h2 := hu.2.1 hi
  refine Pk (p := fun x => lt D[a]! x) (D := D) (i := i2) (j0 := j) (J := fun j x => Ap.j5 D.toList (i2 : Int) (j : Int) x) (K := fun j' : Nat => if j' < i2 then up (some ((i2 : Int), D.toList)) else some (.next (((i2 + 1 : Nat) : Int), ((j' - 1 : Nat) : Int), (Sort.swp D i2 j').toList))) (by omega) (by omega) (fun j' h3 h4 => ?_) (fun j' => rfl) (fun j' h3 h4 => ?_) j (by omega) (xX _)
  ·unfold Ap.l4
   by_cases h : i2 <= j'
   ·rw [xN (by omega), xT, xN h, zP]
    exact Hz hc hA (i := a) (j := j') (by omega) (by omega) rfl rfl (F := fun x => Ap.j5 D.toList (i2 : Int) (j' : Int) x)
   ·rw [xL (by omega), xP, xL h, zG]
  ·unfold Ap.j5
   rw [xP]
   congr 1
   by_cases h : j' < i2
   ·rw [xN (by omega), xT, if_pos h]
   ·rw [xL (by omega), xP, if_neg h, Wp (by omega), Wm (by omega) (by omega)]
    exact Gq (i := i2) (j := j') (by omega) (by omega) rfl rfl (fun l => some (Lp.next (((i2 + 1 : Nat) : Int), ((j' - 1 : Nat) : Int), l)))
theorem Q9 (hc : B0 cmp lt P) {a : Nat} : ∀ (n i j : Nat) (D : Array Ab), j + 1 - i <= n -> a < i -> i <= j + 1 -> j < D.size -> Bm P D ->
  B6 (fun q' => Ap.l1 (a : Int) cmp q'.1 q'.2.1 q'.2.2) ((i : Int), (j : Int), D.toList) = some (((partEqLoop lt a i j D).1 : Int), (partEqLoop lt a i j D).2.toList) := by
 intro n
 induction n with
 | zero =>
  intro i j D hn ha hi hj hA
  have hr := M4 hc hA ha hi hj
  have hu := scanUp_spec (fun x => !lt D[a]! x) D j _ i rfl
  rw [partEqLoop_eq]
  generalize scanUp (fun x => !lt D[a]! x) D j i = i2 at hu hr ⊢
  have hd := scanDown_spec (fun x => lt D[a]! x) D i2 j
  generalize scanDown (fun x => lt D[a]! x) D i2 j = j2 at hd hr ⊢
  have h1 := hu.1
  have h2 := hd.1
  rw [if_pos (show i2 > j2 by omega)]
  refine C2 (hr.trans ?_)
  exact if_pos (show j2 < i2 by omega)
 | succ n ih =>
  intro i j D hn ha hi hj hA
  have hr := M4 hc hA ha hi hj
  have hu := scanUp_spec (fun x => !lt D[a]! x) D j _ i rfl
  rw [partEqLoop_eq]
  generalize scanUp (fun x => !lt D[a]! x) D j i = i2 at hu hr ⊢
  have hd := scanDown_spec (fun x => lt D[a]! x) D i2 j
  generalize scanDown (fun x => lt D[a]! x) D i2 j = j2 at hd hr ⊢
  have h1 := hu.1
  have h2 := hd.1
  by_cases h : i2 > j2
  ·rw [if_pos h]
   refine C2 (hr.trans ?_)
   exact if_pos (show j2 < i2 by omega)
  ·rw [if_neg h]
   have hne : i2 ≠ j2 := fun e => by
    have u4 := hu.2.2.2 (by omega)
    have d4 := hd.2.2.2 (by omega) (by omega)
    rw [e] at u4
    rw [d4] at u4
    cases u4
   exact (Dh (hr.trans (if_neg (show ¬ j2 < i2 by omega)))).trans (ih (i2 + 1) (j2 - 1) (Sort.swp D i2 j2) (by omega) (by omega) (by omega) (by rw [Cg]; omega) (hA.swp (by omega) (by omega)))
theorem Za (hc : B0 cmp lt P) {a b pivot : Nat} {d : Array Ab} (hab : a < b) (hp1 : a <= pivot) (hp2 : pivot < b) (hb : b <= d.size) (hd : Bm P d) :
  Ap d.toList (a : Int) (b : Int) (pivot : Int) cmp = some (((partitionEqual lt d a b pivot).1 : Int), (partitionEqual lt d a b pivot).2.toList) := by
 have hsz := hd.1
 unfold Ap partitionEqual
 rw [Wp (by omega), Wm (by omega) (by omega)]
 refine (Gq (i := a) (j := pivot) (by omega) (by omega) rfl rfl (fun l => B6 (fun q' => Ap.l1 (a : Int) cmp q'.1 q'.2.1 q'.2.2) (((a + 1 : Nat) : Int), ((b - 1 : Nat) : Int), l))).trans ?_
 exact Q9 hc _ (a + 1) (b - 1) (Sort.swp d a pivot) (xX _) (by omega) (by omega) (by rw [Cg]; omega) (hd.swp (by omega) (by omega))
theorem Yl (hc : B0 cmp lt P) {b i2 : Nat} {j1 : Int} : ∀ (n j : Nat) (d : Array Ab), b - j = n -> 1 <= j -> b <= d.size -> Bm P d ->
  Bm P (shiftUp lt b j d) /\ (shiftUp lt b j d).size = d.size /\ B6 (fun q' => Ae.l6 (b : Int) cmp j1 (i2 : Int) q'.1 q'.2) ((j : Int), d.toList) = some (.next ((i2 : Int), W (j1 + 1), (shiftUp lt b j d).toList)) := by
 intro n
 induction n with
 | zero =>
  intro j d hn h1 hb hd
  rw [shiftUp, if_neg (by omega)]
  refine ⟨hd, rfl, C2 ?_⟩
  show Ae.l6 (b : Int) cmp j1 (i2 : Int) (j : Int) d.toList = _
  unfold Ae.l6
  rw [xL (by omega), xP]
  rfl
 | succ n ih =>
  intro j d hn h1 hb hd
  have hsz := hd.1
  rw [shiftUp, if_pos (by omega)]
  obtain ⟨m, m1, m2⟩ := Hs hc hd (i := j) (j := j - 1) (by omega) (by omega)
  have hbody : Ae.l6 (b : Int) cmp j1 (i2 : Int) (j : Int) d.toList = bif lt d[j]! d[j - 1]! then some (.next (((j + 1 : Nat) : Int), (Sort.swp d j (j - 1)).toList)) else up (some (.next ((i2 : Int), W (j1 + 1), d.toList))) := by
   obtain ⟨y, hy⟩ := Ir (d := d) (x := d[j - 1]!) (j := ((j : Int)).toNat) (i := j - 1) (by omega) rfl
   unfold Ae.l6
   rw [xN (by omega), xT, Wm (by omega) (by omega), Dp (i := j) (by omega) rfl, xJ, Dp (i := j - 1) (by omega) rfl, xJ, m1, xJ, m2, hy, xJ, Wp (by omega), yA, yA, Iq]
   cases lt d[j]! d[j - 1]! <;> rfl
  cases hl : lt d[j]! d[j - 1]! with
  | false =>
   rw [hl] at hbody
   rw [if_pos (by rfl)]
   exact ⟨hd, rfl, C2 hbody⟩
  | true =>
   rw [hl] at hbody
   rw [if_neg (by simp)]
   obtain ⟨q1, q2, q3⟩ := ih (j + 1) (Sort.swp d j (j - 1)) (by omega) (by omega) (by rw [Cg]; exact hb) (hd.swp (by omega) (by omega))
   exact ⟨q1, by rw [q2, Cg], (Dh hbody).trans q3⟩
theorem Zo (hc : B0 cmp lt P) {b i2 : Nat} {j1 : Int} {d : Array Ab} (h1 : 1 <= i2) (h2 : i2 < b) (hb : b <= d.size) (hd : Bm P d) :
  Bm P (if b - i2 >= 2 then shiftUp lt b (i2 + 1) d else d) /\ (if b - i2 >= 2 then shiftUp lt b (i2 + 1) d else d).size = d.size /\ Ae.j5 (b : Int) cmp j1 (i2 : Int) d.toList = some (.next ((i2 : Int), W (j1 + 1), (if b - i2 >= 2 then shiftUp lt b (i2 + 1) d else d).toList)) := by
 have hsz := hd.1
 unfold Ae.j5
 rw [Wd (by omega) (by omega)]
 by_cases h : b - i2 >= 2
 ·rw [xN (by omega), xT, if_pos h, Wp (by omega)]
  exact Yl hc _ (i2 + 1) d rfl (by omega) hb hd
 ·rw [xL (by omega), xP, if_neg h]
  exact ⟨hd, rfl, rfl⟩
theorem R7 (hc : B0 cmp lt P) {b i2 : Nat} {j1 : Int} : ∀ (j : Nat) (d : Array Ab), j < d.size -> Bm P d ->
  Bm P (shiftDown lt j d) /\ (shiftDown lt j d).size = d.size /\ B6 (fun q' => Ae.l4 (b : Int) cmp j1 (i2 : Int) q'.1 q'.2) ((j : Int), d.toList) = Ae.j5 (b : Int) cmp j1 (i2 : Int) (shiftDown lt j d).toList
 | 0, d, hj, hd => by
  refine ⟨hd, rfl, C2 ?_⟩
  show Ae.l4 (b : Int) cmp j1 (i2 : Int) ((0 : Nat) : Int) d.toList = _
  unfold Ae.l4
  rw [xL (by omega), xP]
  rfl
 | j + 1, d, hj, hd => by
  have hsz := hd.1
  unfold shiftDown
  obtain ⟨m, m1, m2⟩ := Hs hc hd (i := j + 1) (j := j) (by omega) (by omega)
  have hbody : Ae.l4 (b : Int) cmp j1 (i2 : Int) ((j + 1 : Nat) : Int) d.toList = bif lt d[j + 1]! d[j]! then some (.next ((j : Int), (Sort.swp d (j + 1) j).toList)) else up (Ae.j5 (b : Int) cmp j1 (i2 : Int) d.toList) := by
   obtain ⟨y, hy⟩ := Ir (d := d) (x := d[j]!) (j := (((j + 1 : Nat) : Int)).toNat) (i := j) (by omega) rfl
   unfold Ae.l4
   have e : W (((j + 1 : Nat) : Int) - 1) = (j : Int) := Wm (n := j + 1) (by omega) (by omega)
   rw [xN (by omega), xT, e, Dp (i := j + 1) (by omega) rfl, xJ, Dp (i := j) (by omega) rfl, xJ, m1, xJ, m2, hy, xJ, yA, yA, Iq]
   cases lt d[j + 1]! d[j]! <;> rfl
  cases hl : lt d[j + 1]! d[j]! with
  | false =>
   rw [hl] at hbody
   rw [if_pos (by rfl)]
   exact ⟨hd, rfl, C2 hbody⟩
  | true =>
   rw [hl] at hbody
   rw [if_neg (by simp)]
   obtain ⟨q1, q2, q3⟩ := R7 hc j (Sort.swp d (j + 1) j) (by rw [Cg]; omega) (hd.swp (by omega) (by omega))
   exact ⟨q1, by rw [q2, Cg], (Dh hbody).trans q3⟩
theorem P8 (hc : B0 cmp lt P) {a b : Nat} : ∀ (s i : Nat) (d : Array Ab), s <= 5 -> a < i -> i <= b -> b <= d.size -> Bm P d ->
  B6 (fun q' => Ae.l1 (a : Int) (b : Int) cmp q'.1 q'.2.1 q'.2.2) ((i : Int), ((5 - s : Nat) : Int), d.toList) = some ((partialIns lt a b s i d).2, (partialIns lt a b s i d).1.toList)
 | 0, i, d, hs, ha, hi, hb, hd => by
  refine C2 ?_
  show Ae.l1 (a : Int) (b : Int) cmp (i : Int) ((5 - 0 : Nat) : Int) d.toList = _
  unfold Ae.l1
  rw [xL (by omega), xP]
  rfl
 | s + 1, i, d, hs, ha, hi, hb, hd => by
  have hsz := hd.1
  have hle := O9 lt d b _ i rfl hi
  have hbody : Ae.l1 (a : Int) (b : Int) cmp (i : Int) ((5 - (s + 1) : Nat) : Int) d.toList =
    (fun i' : Nat => if i' = b then up (some (true, d.toList)) else if b - a < 50 then up (some (false, d.toList)) else
     bif decide (i' - a >= 2) then B6 (fun q' => Ae.l4 (b : Int) cmp ((5 - (s + 1) : Nat) : Int) (i' : Int) q'.1 q'.2) (((i' - 1 : Nat) : Int), (Sort.swp d i' (i' - 1)).toList)
     else Ae.j5 (b : Int) cmp ((5 - (s + 1) : Nat) : Int) (i' : Int) (Sort.swp d i' (i' - 1)).toList) (scanSorted lt d b i) := by
   unfold Ae.l1
   rw [xN (by omega), xT]
   refine jL (lt := lt) (D := d) (i0 := i) (b := b) (J := fun i x => Ae.j3 (a : Int) (b : Int) cmp ((5 - (s + 1) : Nat) : Int) d.toList (i : Int) x) (K := fun i' : Nat => if i' = b then up (some (true, d.toList)) else if b - a < 50 then up (some (false, d.toList)) else
     bif decide (i' - a >= 2) then B6 (fun q' => Ae.l4 (b : Int) cmp ((5 - (s + 1) : Nat) : Int) (i' : Int) q'.1 q'.2) (((i' - 1 : Nat) : Int), (Sort.swp d i' (i' - 1)).toList)
     else Ae.j5 (b : Int) cmp ((5 - (s + 1) : Nat) : Int) (i' : Int) (Sort.swp d i' (i' - 1)).toList) (by omega) (fun i' h1 h2 => ?_) (fun i' => rfl) (fun i' h1 h2 => ?_) _ i rfl (xX _) hi
   ·unfold Ae.l2
    by_cases h : i' < b
    ·rw [xN (by omega), xT, xN h, zP, Wm (by omega) (by omega)]
     exact Hz hc hd (i := i') (j := i' - 1) (by omega) (by omega) rfl rfl (F := fun x => Ae.j3 (a : Int) (b : Int) cmp ((5 - (s + 1) : Nat) : Int) d.toList (i' : Int) (!x))
    ·rw [xL (by omega), xP, xL h, zG]
   ·unfold Ae.j3
    rw [xP]
    congr 1
    by_cases e : i' = b
    ·rw [xN (by omega), xT, if_pos e]
    ·rw [xL (by omega), xP, if_neg e, Wd (by omega) (by omega)]
     by_cases h50 : b - a < 50
     ·rw [xN (by omega), xT, if_pos h50]
     ·rw [xL (by omega), xP, if_neg h50, Wm (by omega) (by omega), Wd (by omega) (by omega)]
      have e2 : decide ((2 : Int) <= ((i' - a : Nat) : Int)) = decide (i' - a >= 2) := aCl.2 (by omega)
      rw [e2]
      exact Gq (i := i') (j := i' - 1) (by omega) (by omega) rfl rfl (fun l => cond (decide (i' - a >= 2)) (B6 (fun q' => Ae.l4 (b : Int) cmp ((5 - (s + 1) : Nat) : Int) (i' : Int) q'.1 q'.2) (((i' - 1 : Nat) : Int), l)) (Ae.j5 (b : Int) cmp ((5 - (s + 1) : Nat) : Int) (i' : Int) l))
  rw [partialIns_succ]
  generalize scanSorted lt d b i = i2 at hbody hle ⊢
  by_cases e : i2 = b
  ·rw [if_pos e]
   exact C2 (hbody.trans (if_pos e))
  ·rw [if_neg e]
   by_cases h50 : b - a < 50
   ·rw [if_pos h50]
    exact C2 (hbody.trans ((if_neg e).trans (if_pos h50)))
   ·rw [if_neg h50]
    have hb2 := hbody.trans ((if_neg e).trans (if_neg h50))
    unfold fixDown fixUp
    have hd1 : Bm P (Sort.swp d i2 (i2 - 1)) := hd.swp (by omega) (by omega)
    have hz1 := Cg d i2 (i2 - 1)
    generalize Sort.swp d i2 (i2 - 1) = d1 at hb2 hd1 hz1 ⊢
    have e5 : W (((5 - (s + 1) : Nat) : Int) + 1) = ((5 - s : Nat) : Int) := by
     rw [Wp (by omega)]
     omega
    have main : ∀ d2 : Array Ab, d2.size = d1.size -> Bm P d2 -> Ae.l1 (a : Int) (b : Int) cmp (i : Int) ((5 - (s + 1) : Nat) : Int) d.toList = Ae.j5 (b : Int) cmp ((5 - (s + 1) : Nat) : Int) (i2 : Int) d2.toList ->
      B6 (fun q' => Ae.l1 (a : Int) (b : Int) cmp q'.1 q'.2.1 q'.2.2) ((i : Int), ((5 - (s + 1) : Nat) : Int), d.toList) = some ((partialIns lt a b s i2 (if b - i2 >= 2 then shiftUp lt b (i2 + 1) d2 else d2)).2, (partialIns lt a b s i2 (if b - i2 >= 2 then shiftUp lt b (i2 + 1) d2 else d2)).1.toList) := fun d2 hz2 hd2 hl => by
     obtain ⟨q1, q2, q3⟩ := Zo hc (b := b) (i2 := i2) (j1 := ((5 - (s + 1) : Nat) : Int)) (d := d2) (by omega) (by omega) (by omega) hd2
     rw [e5] at q3
     exact (Dh (hl.trans q3)).trans (P8 hc s i2 _ (by omega) (by omega) (by omega) (by omega) q1)
    by_cases h2 : i2 - a >= 2
    ·rw [if_pos h2]
     rw [xN h2, xT] at hb2
     obtain ⟨q1, q2, q3⟩ := R7 hc (b := b) (i2 := i2) (j1 := ((5 - (s + 1) : Nat) : Int)) (i2 - 1) d1 (by omega) hd1
     exact main _ q2 q1 (hb2.trans q3)
    ·rw [if_neg h2]
     rw [xL h2, xP] at hb2
     exact main _ rfl hd1 hb2
theorem Sl (hc : B0 cmp lt P) {a b : Nat} {d : Array Ab} (hab : a < b) (hb : b <= d.size) (hd : Bm P d) :
  Ae d.toList (a : Int) (b : Int) cmp = some ((partialInsertionSort lt d a b).2, (partialInsertionSort lt d a b).1.toList) := by
 have hsz := hd.1
 unfold Ae partialInsertionSort
 rw [Wp (by omega)]
 exact P8 hc 5 (a + 1) d (by omega) (by omega) (by omega) hb hd
end
end Go.Proofs.Ytfkgbfhpibiheaa
