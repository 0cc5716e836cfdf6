import Derived.Test.YtfkgbfhpibiheaaSG1
import Derived.Test.YtfkgbfhpibiheaaSO1api_Use
set_option linter.unusedVariables false
set_option linter.unusedSimpArgs false
namespace Go.Proofs.Ytfkgbfhpibiheaa
open Go Go.Sort
section
variable {cmp : Aa -> Aa -> Option Int} {lt : Aa -> Aa -> Bool} {P : Aa -> Prop}
theorem Gp {d : Array Aa} {i j : Nat} (hi : i < d.size) (hj : j < d.size) {ki kj : Int} (eki : ki = (i : Int)) (ekj : kj = (j : Int)) {γ : Type} (F : List Aa -> Option γ) :
  ((Bo d.toList kj).bind fun e => (Bo d.toList ki).bind fun e2 => (Bo (Bi d.toList ki.toNat e) kj).bind fun _ => F (Bi (Bi d.toList ki.toNat e) kj.toNat e2)) = F (Sort.swp d i j).toList := by
 subst eki ekj
 obtain ⟨y, hy⟩ := It (d := d) (x := d[j]!) (j := ((i : Int)).toNat) (i := j) hj rfl
 rw [Dq hj rfl, xJ, Dq hi rfl, xJ, hy, xJ, yA, yA, Iu]
theorem Hy (hc : Bx cmp lt P) {d : Array Aa} (h : Bn P d) {i j : Nat} (hi : i < d.size) (hj : j < d.size) {ki kj : Int} (eki : ki = (i : Int)) (ekj : kj = (j : Int)) {γ : Type} (F : Bool -> Option γ) :
  ((Bo d.toList ki).bind fun e => (Bo d.toList kj).bind fun e2 => (cmp e e2).bind fun y => F (decide (y < 0))) = F (lt d[i]! d[j]!) := by
 subst eki ekj
 obtain ⟨n, h1, h2⟩ := Ht hc h hi hj
 rw [Dq hi rfl, xJ, Dq hj rfl, xJ, h1, xJ, h2]
theorem So (hc : Bx cmp lt P) {L0 : List Aa} {e e2 : Aa} {D : Array Aa} {a b pivot : Nat} (hD : Bi (Bi L0 ((a : Int)).toNat e) ((pivot : Int)).toNat e2 = D.toList) (hA : Bn P D) (ha : a < b) (hb : b <= D.size) :
  B6 (fun q' => Af.l1 L0 (a : Int) (b : Int) (pivot : Int) cmp e e2 q') (W ((a : Int) + 1)) = B6 (fun q' => Af.l3 L0 (a : Int) (pivot : Int) cmp e e2 ((scanUp (fun x => lt x D[a]!) D (b - 1) (a + 1) : Nat) : Int) q') (((b - 1 : Nat) : Int)) := by
 have hsz := hA.1
 rw [Wp (by omega)]
 refine Ra (p := fun x => lt x D[a]!) (D := D) (i0 := a + 1) (j := b - 1) (J := fun i x => Af.j2 L0 (a : Int) (b : Int) (pivot : Int) cmp e e2 (i : Int) x) (K := fun i => B6 (fun q' => Af.l3 L0 (a : Int) (pivot : Int) cmp e e2 (i : Int) q') (((b - 1 : Nat) : Int))) (by omega) (fun i h1 h2 => ?_) (fun i => rfl) (fun i _ _ => ?_) _ (a + 1) rfl (xX _) (by omega)
 ·unfold Af.l1
  rw [hD, Wm (by omega) (by omega)]
  by_cases h : i <= b - 1
  ·rw [xN (by omega), xT, xN h, zP]
   exact Hy hc hA (i := i) (j := a) (by omega) (by omega) rfl rfl (F := fun x => Af.j2 L0 (a : Int) (b : Int) (pivot : Int) cmp e e2 (i : Int) x)
  ·rw [xL (by omega), xP, xL h, zG]
 ·unfold Af.j2
  rw [Wm (by omega) (by omega)]
  rfl
theorem Sn (hc : Bx cmp lt P) {L0 : List Aa} {e e2 : Aa} {D : Array Aa} {a b i pivot : Nat} (hD : Bi (Bi L0 ((a : Int)).toNat e) ((pivot : Int)).toNat e2 = D.toList) (hA : Bn P D) (ha : a < i) (hi : i <= b) (hb : b <= D.size) :
  B6 (fun q' => Af.l3 L0 (a : Int) (pivot : Int) cmp e e2 (i : Int) q') (((b - 1 : Nat) : Int)) = (fun j => if j < i then some ((j : Int), true, (Sort.swp D j a).toList) else
   B6 (fun q' => Af.l5 (a : Int) cmp q'.1 q'.2.1 q'.2.2) (((i + 1 : Nat) : Int), ((j - 1 : Nat) : Int), (Sort.swp D i j).toList)) (scanDown (fun x => !lt x D[a]!) D i (b - 1)) := by
 have hsz := hA.1
 refine Pk (p := fun x => !lt x D[a]!) (D := D) (i := i) (j0 := b - 1) (J := fun j x => Af.j4 L0 (a : Int) (pivot : Int) cmp e e2 (i : Int) (j : Int) x) (K := fun j : Nat => if j < i then some ((j : Int), true, (Sort.swp D j a).toList) else
   B6 (fun q' => Af.l5 (a : Int) cmp q'.1 q'.2.1 q'.2.2) (((i + 1 : Nat) : Int), ((j - 1 : Nat) : Int), (Sort.swp D i j).toList)) (by omega) (by omega) (fun j h1 h2 => ?_) (fun i => rfl) (fun j h1 h2 => ?_) (b - 1) (by omega) (xX _)
 ·unfold Af.l3
  rw [hD]
  by_cases h : i <= j
  ·rw [xN (by omega), xT, xN h, zP]
   exact Hy hc hA (i := j) (j := a) (by omega) (by omega) rfl rfl (F := fun x => Af.j4 L0 (a : Int) (pivot : Int) cmp e e2 (i : Int) (j : Int) (!x))
  ·rw [xL (by omega), xP, xL h, zG]
 ·unfold Af.j4
  rw [hD, xP]
  congr 1
  by_cases h : j < i
  ·rw [xN (by omega), xT, if_pos h]
   exact Gp (i := j) (j := a) (by omega) (by omega) rfl rfl (fun l => some ((j : Int), true, l))
  ·rw [xL (by omega), xP, if_neg h, Wp (by omega), Wm (by omega) (by omega)]
   exact Gp (i := i) (j := j) (by omega) (by omega) rfl rfl (fun l => B6 (fun q' => Af.l5 (a : Int) cmp q'.1 q'.2.1 q'.2.2) (((i + 1 : Nat) : Int), ((j - 1 : Nat) : Int), l))
theorem Lu (hc : Bx cmp lt P) {D : Array Aa} {a i j : Nat} (hA : Bn P D) (ha : a < i) (hi : i <= j + 1) (hj : j < D.size) :
  Af.l5 (a : Int) cmp (i : Int) (j : Int) D.toList = (fun i' j' : Nat => if j' < i' then up (some ((j' : Int), false, (Sort.swp D j' a).toList)) else some (.next (((i' + 1 : Nat) : Int), ((j' - 1 : Nat) : Int), (Sort.swp D i' j').toList))) (scanUp (fun x => lt x D[a]!) D j i) (scanDown (fun x => !lt x D[a]!) D (scanUp (fun x => lt x D[a]!) D j i) j) := by
 have hsz := hA.1
 have hu := scanUp_spec (fun x => lt x D[a]!) D j _ i rfl
 unfold Af.l5
 refine (Ra (p := fun x => lt x D[a]!) (D := D) (i0 := i) (j := j) (J := fun i x => Af.j7 (a : Int) cmp (j : Int) D.toList (i : Int) x) (K := fun i => B6 (fun q' => Af.l8 (a : Int) cmp D.toList (i : Int) q') (j : Int)) (by omega) (fun i' h1 h2 => ?_) (fun i => rfl) (fun i' h1 h2 => rfl) _ i rfl (xX _) (by omega)).trans ?_
 ·unfold Af.l6
  by_cases h : i' <= j
  ·rw [xN (by omega), xT, xN h, zP]
   exact Hy hc hA (i := i') (j := a) (by omega) (by omega) rfl rfl (F := fun x => Af.j7 (a : Int) cmp (j : Int) D.toList (i' : Int) x)
  ·rw [xL (by omega), xP, xL h, zG]
 ·generalize scanUp (fun x => lt x D[a]!) D j i = i2 at hu ⊢
  have h1 := hu.1
  have h2 := hu.2.1 hi
  refine Pk (p := fun x => !lt x D[a]!) (D := D) (i := i2) (j0 := j) (J := fun j x => Af.j9 (a : Int) D.toList (i2 : Int) (j : Int) x) (K := fun j' : Nat => if j' < i2 then up (some ((j' : Int), false, (Sort.swp D j' a).toList)) else some (.next (((i2 + 1 : Nat) : Int), ((j' - 1 : Nat) : Int), (Sort.swp D i2 j').toList))) (by omega) (by omega) (fun j' h3 h4 => ?_) (fun j' => rfl) (fun j' h3 h4 => ?_) j (by omega) (xX _)
  ·unfold Af.l8
   by_cases h : i2 <= j'
   ·rw [xN (by omega), xT, xN h, zP]
    exact Hy hc hA (i := j') (j := a) (by omega) (by omega) rfl rfl (F := fun x => Af.j9 (a : Int) D.toList (i2 : Int) (j' : Int) (!x))
   ·rw [xL (by omega), xP, xL h, zG]
  ·unfold Af.j9
   rw [xP]
   congr 1
   by_cases h : j' < i2
   ·rw [xN (by omega), xT, if_pos h]
    congr 1
    exact Gp (i := j') (j := a) (by omega) (by omega) rfl rfl (fun l => some ((j' : Int), false, l))
   ·rw [xL (by omega), xP, if_neg h, Wp (by omega), Wm (by omega) (by omega)]
    exact Gp (i := i2) (j := j') (by omega) (by omega) rfl rfl (fun l => some (Lp.next (((i2 + 1 : Nat) : Int), ((j' - 1 : Nat) : Int), l)))
theorem P2 (hc : Bx cmp lt P) {a : Nat} : ∀ (n i j : Nat) (D : Array Aa), j + 1 - i <= n -> a < i -> i <= j + 1 -> j < D.size -> Bn P D ->
  Bn P (partLoop lt a i j D).2 /\ (partLoop lt a i j D).2.size = D.size /\ (partLoop lt a i j D).1 < D.size /\
  B6 (fun q' => Af.l5 (a : Int) cmp q'.1 q'.2.1 q'.2.2) ((i : Int), (j : Int), D.toList) = some (((partLoop lt a i j D).1 : Int), false, (Sort.swp (partLoop lt a i j D).2 (partLoop lt a i j D).1 a).toList) := by
 intro n
 induction n with
 | zero =>
  intro i j D hn ha hi hj hA
  have hr := Lu hc hA ha hi hj
  have hu := scanUp_spec (fun x => lt x D[a]!) D j _ i rfl
  rw [partLoop_eq]
  generalize scanUp (fun x => lt x D[a]!) D j i = i2 at hu hr ⊢
  have hd := scanDown_spec (fun x => !lt x D[a]!) D i2 j
  generalize scanDown (fun x => !lt x D[a]!) D i2 j = j2 at hd hr ⊢
  have h1 := hu.1
  have h2 := hd.1
  rw [if_pos (show i2 > j2 by omega)]
  refine ⟨hA, rfl, show j2 < D.size by omega, C2 (hr.trans ?_)⟩
  exact if_pos (show j2 < i2 by omega)
 | succ n ih =>
  intro i j D hn ha hi hj hA
  have hr := Lu hc hA ha hi hj
  have hu := scanUp_spec (fun x => lt x D[a]!) D j _ i rfl
  rw [partLoop_eq]
  generalize scanUp (fun x => lt x D[a]!) D j i = i2 at hu hr ⊢
  have hd := scanDown_spec (fun x => !lt x D[a]!) D i2 j
  generalize scanDown (fun x => !lt x D[a]!) D i2 j = j2 at hd hr ⊢
  have h1 := hu.1
  have h2 := hd.1
  by_cases h : i2 > j2
  ·rw [if_pos h]
   refine ⟨hA, rfl, show j2 < D.size by omega, C2 (hr.trans ?_)⟩
   exact if_pos (show j2 < i2 by omega)
  ·rw [if_neg h]
   have hne : i2 ≠ j2 := fun e => by
    have u4 := hu.2.2.2 (by omega)
    have d4 := hd.2.2.2 (by omega) (by omega)
    rw [e] at u4
    rw [u4] at d4
    cases d4
   obtain ⟨q1, q2, q3, q4⟩ := ih (i2 + 1) (j2 - 1) (Sort.swp D i2 j2) (by omega) (by omega) (by omega) (by rw [Cf]; omega) (hA.swp (by omega) (by omega))
   rw [Cf] at q2 q3
   refine ⟨q1, q2, q3, (Dh (hr.trans (if_neg (show ¬ j2 < i2 by omega)))).trans q4⟩
theorem X5 (hc : Bx cmp lt P) {a b pivot : Nat} {d : Array Aa} (hab : a < b) (hp1 : a <= pivot) (hp2 : pivot < b) (hb : b <= d.size) (hd : Bn P d) :
  Af d.toList (a : Int) (b : Int) (pivot : Int) cmp = some (((partition lt d a b pivot).1 : Int), (partition lt d a b pivot).2.1, (partition lt d a b pivot).2.2.toList) := by
 have hsz := hd.1
 have hA : Bn P (Sort.swp d a pivot) := hd.swp (by omega) (by omega)
 have hs := Cf d a pivot
 have hD : Bi (Bi d.toList ((a : Int)).toNat d[pivot]!) ((pivot : Int)).toNat d[a]! = (Sort.swp d a pivot).toList := by
  rw [yA, yA, Iu]
 obtain ⟨y, hy⟩ := It (d := d) (x := d[pivot]!) (j := ((a : Int)).toNat) (i := pivot) (by omega) rfl
 unfold Af partition
 rw [Dq (i := pivot) (by omega) rfl, xJ, Dq (i := a) (by omega) rfl, xJ, hy, xJ, So hc hD hA hab (by omega)]
 simp only []
 generalize Sort.swp d a pivot = D at hA hs hD ⊢
 have hu := scanUp_spec (fun x => lt x D[a]!) D (b - 1) _ (a + 1) rfl
 generalize scanUp (fun x => lt x D[a]!) D (b - 1) (a + 1) = i2 at hu ⊢
 have h1 := hu.1
 have h2 := hu.2.1 (by omega)
 rw [Sn hc hD hA (b := b) (i := i2) (by omega) (by omega) (by omega)]
 have hdn := scanDown_spec (fun x => !lt x D[a]!) D i2 (b - 1)
 generalize scanDown (fun x => !lt x D[a]!) D i2 (b - 1) = j2 at hdn ⊢
 have h3 := hdn.1
 by_cases h : i2 > j2
 ·rw [if_pos h]
  exact if_pos (show j2 < i2 by omega)
 ·rw [if_neg h]
  have hne : i2 ≠ j2 := fun e => by
   have u4 := hu.2.2.2 (by omega)
   have d4 := hdn.2.2.2 (by omega) (by omega)
   rw [e] at u4
   rw [u4] at d4
   cases d4
  refine (if_neg (show ¬ j2 < i2 by omega)).trans ?_
  exact (P2 hc _ (i2 + 1) (j2 - 1) (Sort.swp D i2 j2) (xX _) (by omega) (by omega) (by rw [Cf]; omega) (hA.swp (by omega) (by omega))).2.2.2
end
end Go.Proofs.Ytfkgbfhpibiheaa
