import Derived.Test.YtjomajedgbcngaaL3
import Derived.Test.YtjomajedgbcngaaC1
import Derived.Sort.AssemblyPlain
set_option linter.unusedVariables false
set_option linter.unusedSimpArgs false
namespace Go.Proofs.Ytjomajedgbcngaa
open Go Go.Sort
section
variable {cmp : Aa -> Aa -> Option Int} {lt : Aa -> Aa -> Bool} {P : Aa -> Prop}
def Bf (cmp : Aa -> Aa -> Option Int) (lt : Aa -> Aa -> Bool) (P : Aa -> Prop) : Prop := ∀ x y, P x -> P y -> ∃ n, cmp x y = some n /\ decide (n < 0) = lt x y
def A5 (P : Aa -> Prop) (d : Array Aa) : Prop := d.size <= 1000000000 /\ ∀ i, i < d.size -> P d[i]!
theorem Bp (d : Array Aa) (i j : Nat) : (swp d i j).size = d.size := by simp [swp]
theorem A5.swp {d : Array Aa} (h : A5 P d) {i j : Nat} (hi : i < d.size) (hj : j < d.size) : A5 P (Sort.swp d i j) := by
 refine ⟨by rw [Bp]; exact h.1, fun k hk => ?_⟩
 rw [Bp] at hk
 unfold Sort.swp
 by_cases h1 : j = k
 ·subst h1
  rw [getElem!_pos ((d.setIfInBounds i d[j]!).setIfInBounds j d[i]!) _ (by simpa using hk)]
  simp only [Array.getElem_setIfInBounds_self]
  exact h.2 i hi
 ·by_cases h2 : i = k
  ·subst h2
   rw [getElem!_pos ((d.setIfInBounds i d[j]!).setIfInBounds j d[i]!) _ (by simpa using hk)]
   rw [Array.getElem_setIfInBounds_ne (by simpa using hk) (by omega)]
   simp only [Array.getElem_setIfInBounds_self]
   exact h.2 j hj
  ·rw [getElem!_pos _ _ (by simpa using hk)]
   rw [Array.getElem_setIfInBounds_ne (by simpa using hk) (by omega), Array.getElem_setIfInBounds_ne (by simpa using hk) (by omega)]
   have := h.2 k hk
   rwa [getElem!_pos d k hk] at this
theorem B8 {d : Array Aa} {i : Nat} (h : i < d.size) {k : Int} (hk : k = (i : Int)) : Cc d.toList k = some d[i]! := by
 subst hk
 rw [Dj, Array.getElem?_toList, Array.getElem?_eq_getElem h, getElem!_pos d i h]
theorem Jr (d : Array Aa) (i : Nat) (x : Aa) : Cq d.toList i x = (d.setIfInBounds i x).toList := by
 unfold Cq
 simp
theorem Gc {d : Array Aa} {i : Nat} {x : Aa} {j : Nat} (h : i < d.size) {k : Int} (hk : k = (i : Int)) : ∃ y, Cc (Cq d.toList j x) k = some y := by
 subst hk
 rw [Dj]
 exact ⟨_, List.getElem?_eq_getElem (by unfold Cq; simpa using h)⟩
theorem F6 (d : Array Aa) (i j : Nat) : Cq (Cq d.toList i d[j]!) j d[i]! = (Sort.swp d i j).toList := by
 rw [Jr, Jr]
 rfl
theorem E8 (hc : Bf cmp lt P) {d : Array Aa} (h : A5 P d) {i j : Nat} (hi : i < d.size) (hj : j < d.size) : ∃ n, cmp d[i]! d[j]! = some n /\ decide (n < 0) = lt d[i]! d[j]! := hc _ _ (h.2 i hi) (h.2 j hj)
theorem Iy (hc : Bf cmp lt P) {a i1 : Nat} : ∀ (j : Nat) (d : Array Aa), j < d.size -> A5 P d ->
  A5 P (insInner lt a j d) /\ (insInner lt a j d).size = d.size /\ Cy (fun q' => Am.l2 (a : Int) cmp (i1 : Int) q'.1 q'.2) ((j : Int), d.toList) = some (.next (W ((i1 : Int) + 1), (insInner lt a j d).toList))
 | 0, d, hj, hd => by
  refine ⟨hd, rfl, C5 ?_⟩
  show Am.l2 (a : Int) cmp (i1 : Int) ((0 : Nat) : Int) d.toList = _
  unfold Am.l2
  rw [decide_eq_false (by omega)]
  rfl
 | j + 1, d, hj, hd => by
  have hsz := hd.1
  have hW : W (((j + 1 : Nat) : Int) - 1) = (j : Int) := by rw [D0 (by omega)]; omega
  unfold insInner
  by_cases ha : a < j + 1
  ·obtain ⟨n, h1, h2⟩ := E8 hc hd hj (show j < d.size by omega)
   have hbody : ∀ r, Am.j3 (i1 : Int) ((j + 1 : Nat) : Int) d.toList (lt d[j + 1]! d[j]!) = r -> Am.l2 (a : Int) cmp (i1 : Int) ((j + 1 : Nat) : Int) d.toList = r := fun r hr => by
    unfold Am.l2
    rw [decide_eq_true (by omega), cond_true, B8 hj rfl, Option.bind_some, B8 (i := j) (by omega) hW, Option.bind_some, h1, Option.bind_some, h2]
    exact hr
   cases hl : lt d[j + 1]! d[j]! with
   | true =>
    obtain ⟨q1, q2, q3⟩ := Iy hc (i1 := i1) (a := a) j (Sort.swp d (j + 1) j) (by rw [Bp]; omega) (hd.swp hj (by omega))
    rw [if_pos (by simp [ha])]
    refine ⟨q1, by rw [q2, Bp], ?_⟩
    have hb' : Am.l2 (a : Int) cmp (i1 : Int) ((j + 1 : Nat) : Int) d.toList = some (.next ((j : Int), (Sort.swp d (j + 1) j).toList)) := by
     refine hbody _ ?_
     rw [hl]
     unfold Am.j3
     obtain ⟨y, hy⟩ := Gc (d := d) (x := d[j]!) (j := (((j + 1 : Nat) : Int)).toNat) (i := j) (by omega) hW
     rw [cond_true, B8 (i := j) (by omega) hW, Option.bind_some, B8 hj rfl, Option.bind_some, hy, Option.bind_some, hW]
     have e1 : (((j + 1 : Nat) : Int)).toNat = j + 1 := by omega
     have e2 : ((j : Int)).toNat = j := by omega
     rw [e1, e2, F6]
    exact (Dc (body := fun q' => Am.l2 (a : Int) cmp (i1 : Int) q'.1 q'.2) (s := (((j + 1 : Nat) : Int), d.toList)) hb').trans q3
   | false =>
    rw [if_neg (by simp)]
    refine ⟨hd, rfl, C5 (hbody _ ?_)⟩
    rw [hl]
    rfl
  ·rw [if_neg (by simp [ha])]
   refine ⟨hd, rfl, C5 ?_⟩
   show Am.l2 (a : Int) cmp (i1 : Int) ((j + 1 : Nat) : Int) d.toList = _
   unfold Am.l2
   rw [decide_eq_false (by omega)]
   rfl
theorem I0 (hc : Bf cmp lt P) {a b : Nat} : ∀ (n i : Nat) (d : Array Aa), b - i = n -> b <= d.size -> A5 P d ->
  Cy (fun q' => Am.l1 (a : Int) (b : Int) cmp q'.1 q'.2) ((i : Int), d.toList) = some (insOuter lt a b i d).toList
 | 0, i, d, hn, hb, hd => by
  unfold insOuter
  rw [if_neg (by omega)]
  refine C5 (x := some d.toList) ?_
  show Am.l1 (a : Int) (b : Int) cmp (i : Int) d.toList = _
  unfold Am.l1
  rw [decide_eq_false (by omega)]
  rfl
 | n + 1, i, d, hn, hb, hd => by
  have hsz := hd.1
  unfold insOuter
  rw [if_pos (by omega)]
  obtain ⟨q1, q2, q3⟩ := Iy hc (a := a) (i1 := i) i d (by omega) hd
  rw [Dc (s' := (((i + 1 : Nat) : Int), (insInner lt a i d).toList)) ?_]
  ·exact I0 hc n (i + 1) _ (by omega) (by rw [q2]; exact hb) q1
  ·show Am.l1 (a : Int) (b : Int) cmp (i : Int) d.toList = _
   unfold Am.l1
   rw [decide_eq_true (by omega), cond_true, q3, N5 (by omega)]
theorem N1 (hc : Bf cmp lt P) {a b : Nat} {d : Array Aa} (hab : a <= b) (hb : b <= d.size) (hd : A5 P d) : Am d.toList (a : Int) (b : Int) cmp = some (insertionSort lt d a b).toList := by
 have hsz := hd.1
 unfold Am insertionSort
 rw [N5 (by omega)]
 exact I0 hc _ (a + 1) d rfl hb hd
theorem Pm (hc : Bf cmp lt P) {first root c : Nat} {d : Array Aa} (h1 : first + root < d.size) (h2 : first + c < d.size) (hd : A5 P d) :
  An.j3 (first : Int) cmp (root : Int) d.toList (c : Int) = some (bif lt d[first + root]! d[first + c]! then .next ((c : Int), (Sort.swp d (first + root) (first + c)).toList) else .done d.toList) := by
 have hsz := hd.1
 have w1 : W ((first : Int) + (root : Int)) = ((first + root : Nat) : Int) := by rw [D0 (by omega)]; omega
 have w2 : W ((first : Int) + (c : Int)) = ((first + c : Nat) : Int) := by rw [D0 (by omega)]; omega
 obtain ⟨n, n1, n2⟩ := E8 hc hd h1 h2
 unfold An.j3
 rw [w1, w2, B8 h1 rfl, Option.bind_some, B8 h2 rfl, Option.bind_some, n1, Option.bind_some, n2]
 cases lt d[first + root]! d[first + c]! with
 | false => rfl
 | true =>
  obtain ⟨y, hy⟩ := Gc (d := d) (x := d[first + c]!) (j := (((first + root : Nat) : Int)).toNat) h2 rfl
  rw [show (!true) = false from rfl, cond_false, hy, Option.bind_some, cond_true]
  have e1 : (((first + root : Nat) : Int)).toNat = first + root := by omega
  have e2 : (((first + c : Nat) : Int)).toNat = first + c := by omega
  rw [e1, e2, F6]
theorem Mc (hc : Bf cmp lt P) {hi first : Nat} : ∀ (n root : Nat) (d : Array Aa), hi - root <= n -> root <= 1000000000 -> first + hi <= d.size -> A5 P d ->
  A5 P (siftDown lt hi first root d) /\ (siftDown lt hi first root d).size = d.size /\ Cy (fun q' => An.l1 (hi : Int) (first : Int) cmp q'.1 q'.2) ((root : Int), d.toList) = some (siftDown lt hi first root d).toList := by
 intro n
 induction n with
 | zero =>
  intro root d hn hr hh hd
  have hsz := hd.1
  unfold siftDown
  rw [dif_pos (by omega)]
  refine ⟨hd, rfl, C5 (x := some d.toList) ?_⟩
  show An.l1 (hi : Int) (first : Int) cmp (root : Int) d.toList = _
  unfold An.l1
  rw [D0 (x := 2 * (root : Int)) (by omega), D0 (by omega), decide_eq_true (by omega)]
  rfl
 | succ n ih =>
  intro root d hn hr hh hd
  have hsz := hd.1
  have w0 : W (2 * (root : Int)) = ((2 * root : Nat) : Int) := by rw [D0 (by omega)]; omega
  have w1 : W (((2 * root : Nat) : Int) + 1) = ((2 * root + 1 : Nat) : Int) := by rw [D0 (by omega)]; omega
  have w2 : W (((2 * root + 1 : Nat) : Int) + 1) = ((2 * root + 2 : Nat) : Int) := by rw [D0 (by omega)]; omega
  by_cases hend : 2 * root + 1 >= hi
  ·unfold siftDown
   rw [dif_pos hend]
   refine ⟨hd, rfl, C5 (x := some d.toList) ?_⟩
   show An.l1 (hi : Int) (first : Int) cmp (root : Int) d.toList = _
   unfold An.l1
   rw [w0, w1, decide_eq_true (by omega)]
   rfl
  ·have step : ∀ c : Nat, c < hi -> root < c -> ∀ (b : Bool) (r : Array Aa), (lt d[first + root]! d[first + c]! = b) -> r = (bif b then siftDown lt hi first c (Sort.swp d (first + root) (first + c)) else d) ->
     (An.l1 (hi : Int) (first : Int) cmp (root : Int) d.toList = An.j3 (first : Int) cmp (root : Int) d.toList (c : Int)) ->
     A5 P r /\ r.size = d.size /\ Cy (fun q' => An.l1 (hi : Int) (first : Int) cmp q'.1 q'.2) ((root : Int), d.toList) = some r.toList := fun c hc1 hc2 b r hb hrr hl => by
    have hj := Pm hc (first := first) (root := root) (c := c) (d := d) (by omega) (by omega) hd
    rw [hb] at hj
    cases b with
    | false =>
     rw [cond_false] at hrr
     rw [hrr]
     refine ⟨hd, rfl, Y4 ?_⟩
     exact (by rw [hl, hj]; rfl : An.l1 (hi : Int) (first : Int) cmp (root : Int) d.toList = some (.done d.toList))
    | true =>
     rw [cond_true] at hrr
     rw [hrr]
     obtain ⟨q1, q2, q3⟩ := ih c (Sort.swp d (first + root) (first + c)) (by omega) (by omega) (by rw [Bp]; exact hh) (hd.swp (by omega) (by omega))
     refine ⟨q1, by rw [q2, Bp], ?_⟩
     have hb' : An.l1 (hi : Int) (first : Int) cmp (root : Int) d.toList = some (.next ((c : Int), (Sort.swp d (first + root) (first + c)).toList)) := by rw [hl, hj]; rfl
     exact (Dc (body := fun q' => An.l1 (hi : Int) (first : Int) cmp q'.1 q'.2) (s := ((root : Int), d.toList)) hb').trans q3
   unfold siftDown
   rw [dif_neg hend]
   have hl : ∀ b : Bool, (decide (2 * root + 1 + 1 < hi) && lt d[first + (2 * root + 1)]! d[first + (2 * root + 1) + 1]!) = b -> An.l1 (hi : Int) (first : Int) cmp (root : Int) d.toList = An.j3 (first : Int) cmp (root : Int) d.toList (bif b then ((2 * root + 2 : Nat) : Int) else ((2 * root + 1 : Nat) : Int)) := fun b hb => by
    unfold An.l1
    rw [w0, w1, w2, decide_eq_false (by omega), cond_false]
    by_cases h2 : 2 * root + 2 < hi
    ·have a2 : first + (2 * root + 1) + 1 < d.size := by clear w0 w1 w2; omega
     have a1 : first + (2 * root + 1) < d.size := by clear w0 w1 w2; omega
     have a3 : decide (2 * root + 1 + 1 < hi) = true := decide_eq_true h2
     have a4 : decide (((2 * root + 2 : Nat) : Int) < (hi : Int)) = true := decide_eq_true (by clear w0 w1 w2; omega)
     have v1 : W ((first : Int) + ((2 * root + 1 : Nat) : Int)) = ((first + (2 * root + 1) : Nat) : Int) := by rw [D0 (by omega)]; omega
     have v2 : W (((first + (2 * root + 1) : Nat) : Int) + 1) = ((first + (2 * root + 1) + 1 : Nat) : Int) := by rw [D0 (by omega)]; omega
     obtain ⟨m, m1, m2⟩ := E8 hc hd (i := first + (2 * root + 1)) (j := first + (2 * root + 1) + 1) a1 a2
     rw [a4, cond_true, v1, v2, B8 (i := first + (2 * root + 1)) a1 rfl, Option.bind_some, B8 (i := first + (2 * root + 1) + 1) a2 rfl, Option.bind_some, m1, Option.bind_some, m2]
     rw [a3, Bool.true_and] at hb
     rw [hb]
     unfold An.j2
     rw [w0, w1, w2]
     cases b with
     | true => rw [cond_true, cond_true]
     | false => rw [cond_false, cond_false]
    ·rw [decide_eq_false (by omega), cond_false]
     rw [decide_eq_false (by omega), Bool.false_and] at hb
     subst hb
     unfold An.j2
     rw [w0, w1, cond_false, cond_false]
   cases hb : (decide (2 * root + 1 + 1 < hi) && lt d[first + (2 * root + 1)]! d[first + (2 * root + 1) + 1]!) with
   | true =>
    rw [if_pos rfl]
    have h2 : 2 * root + 2 < hi := by
     rw [Bool.and_eq_true] at hb
     have := of_decide_eq_true hb.1
     omega
    refine step (2 * root + 2) h2 (by omega) _ _ rfl ?_ (hl true hb)
    cases lt d[first + root]! d[first + (2 * root + 2)]! with
    | false => rfl
    | true => rw [show (!true) = false from rfl, if_neg (by simp), dif_pos h2]; rfl
   | false =>
    rw [if_neg (by simp)]
    refine step (2 * root + 1) (by omega) (by omega) _ _ rfl ?_ (hl false hb)
    cases lt d[first + root]! d[first + (2 * root + 1)]! with
    | false => rfl
    | true => rfl
theorem Il (hc : Bf cmp lt P) {a b : Nat} : ∀ (k : Nat) (d : Array Aa), a + (b - a) <= d.size -> a <= b -> k <= 1000000000 -> A5 P d ->
  A5 P (heapBuild lt (b - a) a k d) /\ (heapBuild lt (b - a) a k d).size = d.size /\ Cy (fun q' => Aw.l1 (a : Int) (b : Int) cmp q'.1 q'.2) ((k : Int) - 1, d.toList) = Cy (fun q' => Aw.l1 (a : Int) (b : Int) cmp q'.1 q'.2) (-1, (heapBuild lt (b - a) a k d).toList)
 | 0, d, h1, hab, hk, hd => ⟨hd, rfl, rfl⟩
 | k + 1, d, h1, hab, hk, hd => by
  have hsz := hd.1
  obtain ⟨q1, q2, q3⟩ := Mc hc (hi := b - a) (first := a) _ k d (Nat.le_refl _) (by omega) h1 hd
  obtain ⟨r1, r2, r3⟩ := Il hc (a := a) (b := b) k (siftDown lt (b - a) a k d) (by rw [q2]; exact h1) hab (by omega) q1
  refine ⟨r1, by show (heapBuild lt (b - a) a k _).size = _; rw [r2, q2], ?_⟩
  rw [Dc (s' := ((k : Int) - 1, (siftDown lt (b - a) a k d).toList)) ?_]
  ·exact r3
  ·show Aw.l1 (a : Int) (b : Int) cmp (((k + 1 : Nat) : Int) - 1) d.toList = _
   have e0 : ((k + 1 : Nat) : Int) - 1 = (k : Int) := by omega
   have e1 : W ((b : Int) - (a : Int)) = ((b - a : Nat) : Int) := by rw [D0 (by omega)]; omega
   unfold Aw.l1
   rw [e0, decide_eq_true (by omega), cond_true, e1]
   have e2 : An d.toList (k : Int) ((b - a : Nat) : Int) (a : Int) cmp = some (siftDown lt (b - a) a k d).toList := q3
   rw [e2, Option.bind_some, D0 (by omega)]
theorem Jj (hc : Bf cmp lt P) {a : Nat} : ∀ (k : Nat) (d : Array Aa), a + k <= d.size -> A5 P d ->
  Cy (fun q' => Aw.l2 (a : Int) cmp q'.1 q'.2) ((k : Int) - 1, d.toList) = some (heapPop lt a k d).toList
 | 0, d, h1, hd => C5 (x := some d.toList) (by
   show Aw.l2 (a : Int) cmp (((0 : Nat) : Int) - 1) d.toList = _
   unfold Aw.l2
   rw [decide_eq_false (by omega)]
   rfl)
 | k + 1, d, h1, hd => by
  have hsz := hd.1
  obtain ⟨q1, q2, q3⟩ := Mc hc (hi := k) (first := a) k 0 (Sort.swp d a (a + k)) (by omega) (by omega) (by rw [Bp]; omega) (hd.swp (by omega) (by omega))
  rw [Dc (s' := ((k : Int) - 1, (siftDown lt k a 0 (Sort.swp d a (a + k))).toList)) ?_]
  ·exact Jj hc k _ (by rw [q2, Bp]; omega) q1
  ·show Aw.l2 (a : Int) cmp (((k + 1 : Nat) : Int) - 1) d.toList = _
   have e0 : ((k + 1 : Nat) : Int) - 1 = (k : Int) := by omega
   have e1 : W ((a : Int) + (k : Int)) = ((a + k : Nat) : Int) := by rw [D0 (by omega)]; omega
   obtain ⟨y, hy⟩ := Gc (d := d) (x := d[a + k]!) (j := ((a : Int)).toNat) (i := a + k) (by omega) rfl
   unfold Aw.l2
   rw [e0, decide_eq_true (by omega), cond_true, e1, B8 (i := a + k) (by omega) rfl, Option.bind_some, B8 (i := a) (by omega) rfl, Option.bind_some, hy, Option.bind_some]
   have e2 : ((a : Int)).toNat = a := by omega
   have e3 : (((a + k : Nat) : Int)).toNat = a + k := by omega
   rw [e2, e3, F6]
   have e4 : An (Sort.swp d a (a + k)).toList 0 (k : Int) (a : Int) cmp = some (siftDown lt k a 0 (Sort.swp d a (a + k))).toList := q3
   rw [e4, Option.bind_some, D0 (by omega)]
theorem Qx (hc : Bf cmp lt P) {a b : Nat} {d : Array Aa} (hab : a < b) (hb : b <= d.size) (hd : A5 P d) : Aw d.toList (a : Int) (b : Int) cmp = some (heapSort lt d a b).toList := by
 have hsz := hd.1
 have e1 : W ((b : Int) - (a : Int)) = ((b - a : Nat) : Int) := by rw [D0 (by omega)]; omega
 have e2 : W (((b - a : Nat) : Int) - 1) = ((b - a - 1 : Nat) : Int) := by rw [D0 (by omega)]; omega
 obtain ⟨r1, r2, r3⟩ := Il hc (a := a) (b := b) ((b - a - 1) / 2 + 1) d (by omega) (by omega) (by omega) hd
 unfold Aw heapSort
 rw [e1, e2]
 have eq : Md ((b - a - 1 : Nat) : Int) 2 = some (((b - a - 1) / 2 : Nat) : Int) := by
  unfold Md
  rw [if_neg (by omega), D0]
  ·congr 1
  ·have : ((b - a - 1 : Nat) : Int).tdiv 2 = (((b - a - 1) / 2 : Nat) : Int) := rfl
   rw [this]
   omega
 rw [eq, Option.bind_some]
 have e0 : (((b - a - 1) / 2 : Nat) : Int) = (((b - a - 1) / 2 + 1 : Nat) : Int) - 1 := by omega
 rw [e0, r3]
 refine C5 (x := some (heapPop lt a (b - a) (heapBuild lt (b - a) a ((b - a - 1) / 2 + 1) d)).toList) ?_
 show Aw.l1 (a : Int) (b : Int) cmp (-1) _ = _
 unfold Aw.l1
 rw [decide_eq_false (by omega), cond_false, e1]
 have e3 : W (((b - a : Nat) : Int) - 1) = ((b - a : Nat) : Int) - 1 := D0 (by omega)
 rw [e3, Jj hc (b - a) _ (by rw [r2]; omega) r1]
end
end Go.Proofs.Ytjomajedgbcngaa
