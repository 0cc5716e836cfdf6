import Derived.Test.YtopkgllcjbpdeaaDoorL3
import Derived.Test.YtopkgllcjbpdeaaDoorC1
import Derived.Sort.AssemblyPlain
set_option linter.unusedVariables false
set_option linter.unusedSimpArgs false
namespace Go.Proofs.YtopkgllcjbpdeaaDoor
open Go Go.Sort
section
variable {cmp : Int -> Int -> Option Int} {lt : Int -> Int -> Bool} {P : Int -> Prop}
def Bi (cmp : Int -> Int -> Option Int) (lt : Int -> Int -> Bool) (P : Int -> Prop) : Prop := ∀ x y, P x -> P y -> ∃ n, cmp x y = some n /\ decide (n < 0) = lt x y
def A3 (P : Int -> Prop) (d : Array Int) : Prop := d.size <= 1000000000 /\ ∀ i, i < d.size -> P d[i]!
theorem Bs (d : Array Int) (i j : Nat) : (swp d i j).size = d.size := by simp [swp]
theorem A3.swp {d : Array Int} (h : A3 P d) {i j : Nat} (hi : i < d.size) (hj : j < d.size) : A3 P (Sort.swp d i j) := by
 refine ⟨by rw [Bs]; exact h.1, fun k hk => ?_⟩
 rw [Bs] at hk
 unfold Sort.swp
 by_cases h1 : j = k
 ·subst h1
  rw [getElem!_pos ((d.setIfInBounds i d[j]!).setIfInBounds j d[i]!) _ (by simpa using hk)]
  simp only [Array.getElem_setIfInBounds_self]
  exact h.2 i hi
 ·by_cases h2 : i = k
  ·subst h2
   rw [getElem!_pos ((d.setIfInBounds i d[j]!).setIfInBounds j d[i]!) _ (by simpa using hk)]
   rw [Array.getElem_setIfInBounds_ne (by simpa using hk) (by omega)]
   simp only [Array.getElem_setIfInBounds_self]
   exact h.2 j hj
  ·rw [getElem!_pos _ _ (by simpa using hk)]
   rw [Array.getElem_setIfInBounds_ne (by simpa using hk) (by omega), Array.getElem_setIfInBounds_ne (by simpa using hk) (by omega)]
   have := h.2 k hk
   rwa [getElem!_pos d k hk] at this
theorem Ck {d : Array Int} {i : Nat} (h : i < d.size) {k : Int} (hk : k = (i : Int)) : Bz d.toList k = some d[i]! := by
 subst hk
 rw [E6, Array.getElem?_toList, Array.getElem?_eq_getElem h, getElem!_pos d i h]
theorem Km (d : Array Int) (i : Nat) (x : Int) : Cg d.toList i x = (d.setIfInBounds i x).toList := by
 unfold Cg
 simp
theorem Gr {d : Array Int} {i : Nat} {x : Int} {j : Nat} (h : i < d.size) {k : Int} (hk : k = (i : Int)) : ∃ y, Bz (Cg d.toList j x) k = some y := by
 subst hk
 rw [E6]
 exact ⟨_, List.getElem?_eq_getElem (by unfold Cg; simpa using h)⟩
theorem Gu (d : Array Int) (i j : Nat) : Cg (Cg d.toList i d[j]!) j d[i]! = (Sort.swp d i j).toList := by
 rw [Km, Km]
 rfl
theorem F3 (hc : Bi cmp lt P) {d : Array Int} (h : A3 P d) {i j : Nat} (hi : i < d.size) (hj : j < d.size) : ∃ n, cmp d[i]! d[j]! = some n /\ decide (n < 0) = lt d[i]! d[j]! := hc _ _ (h.2 i hi) (h.2 j hj)
theorem Jx (hc : Bi cmp lt P) {a i1 : Nat} : ∀ (j : Nat) (d : Array Int), j < d.size -> A3 P d ->
  A3 P (insInner lt a j d) /\ (insInner lt a j d).size = d.size /\ B2 (fun q' => Al.l2 (a : Int) cmp (i1 : Int) q'.1 q'.2) ((j : Int), d.toList) = some (.next (W ((i1 : Int) + 1), (insInner lt a j d).toList))
 | 0, d, hj, hd => by
  refine ⟨hd, rfl, Cr ?_⟩
  show Al.l2 (a : Int) cmp (i1 : Int) ((0 : Nat) : Int) d.toList = _
  unfold Al.l2
  rw [decide_eq_false (by omega)]
  rfl
 | j + 1, d, hj, hd => by
  have hsz := hd.1
  have hW : W (((j + 1 : Nat) : Int) - 1) = (j : Int) := by rw [Em (by omega)]; omega
  unfold insInner
  by_cases ha : a < j + 1
  ·obtain ⟨n, h1, h2⟩ := F3 hc hd hj (show j < d.size by omega)
   have hbody : ∀ r, Al.j3 (i1 : Int) ((j + 1 : Nat) : Int) d.toList (lt d[j + 1]! d[j]!) = r -> Al.l2 (a : Int) cmp (i1 : Int) ((j + 1 : Nat) : Int) d.toList = r := fun r hr => by
    unfold Al.l2
    rw [decide_eq_true (by omega), cond_true, Ck hj rfl, Option.bind_some, Ck (i := j) (by omega) hW, Option.bind_some, h1, Option.bind_some, h2]
    exact hr
   cases hl : lt d[j + 1]! d[j]! with
   | true =>
    obtain ⟨q1, q2, q3⟩ := Jx hc (i1 := i1) (a := a) j (Sort.swp d (j + 1) j) (by rw [Bs]; omega) (hd.swp hj (by omega))
    rw [if_pos (by simp [ha])]
    refine ⟨q1, by rw [q2, Bs], ?_⟩
    have hb' : Al.l2 (a : Int) cmp (i1 : Int) ((j + 1 : Nat) : Int) d.toList = some (.next ((j : Int), (Sort.swp d (j + 1) j).toList)) := by
     refine hbody _ ?_
     rw [hl]
     unfold Al.j3
     obtain ⟨y, hy⟩ := Gr (d := d) (x := d[j]!) (j := (((j + 1 : Nat) : Int)).toNat) (i := j) (by omega) hW
     rw [cond_true, Ck (i := j) (by omega) hW, Option.bind_some, Ck hj rfl, Option.bind_some, hy, Option.bind_some, hW]
     have e1 : (((j + 1 : Nat) : Int)).toNat = j + 1 := by omega
     have e2 : ((j : Int)).toNat = j := by omega
     rw [e1, e2, Gu]
    exact (Db (body := fun q' => Al.l2 (a : Int) cmp (i1 : Int) q'.1 q'.2) (s := (((j + 1 : Nat) : Int), d.toList)) hb').trans q3
   | false =>
    rw [if_neg (by simp)]
    refine ⟨hd, rfl, Cr (hbody _ ?_)⟩
    rw [hl]
    rfl
  ·rw [if_neg (by simp [ha])]
   refine ⟨hd, rfl, Cr ?_⟩
   show Al.l2 (a : Int) cmp (i1 : Int) ((j + 1 : Nat) : Int) d.toList = _
   unfold Al.l2
   rw [decide_eq_false (by omega)]
   rfl
theorem Jy (hc : Bi cmp lt P) {a b : Nat} : ∀ (n i : Nat) (d : Array Int), b - i = n -> b <= d.size -> A3 P d ->
  B2 (fun q' => Al.l1 (a : Int) (b : Int) cmp q'.1 q'.2) ((i : Int), d.toList) = some (insOuter lt a b i d).toList
 | 0, i, d, hn, hb, hd => by
  unfold insOuter
  rw [if_neg (by omega)]
  refine Cr (x := some d.toList) ?_
  show Al.l1 (a : Int) (b : Int) cmp (i : Int) d.toList = _
  unfold Al.l1
  rw [decide_eq_false (by omega)]
  rfl
 | n + 1, i, d, hn, hb, hd => by
  have hsz := hd.1
  unfold insOuter
  rw [if_pos (by omega)]
  obtain ⟨q1, q2, q3⟩ := Jx hc (a := a) (i1 := i) i d (by omega) hd
  rw [Db (s' := (((i + 1 : Nat) : Int), (insInner lt a i d).toList)) ?_]
  ·exact Jy hc n (i + 1) _ (by omega) (by rw [q2]; exact hb) q1
  ·show Al.l1 (a : Int) (b : Int) cmp (i : Int) d.toList = _
   unfold Al.l1
   rw [decide_eq_true (by omega), cond_true, q3, Pl (by omega)]
theorem O3 (hc : Bi cmp lt P) {a b : Nat} {d : Array Int} (hab : a <= b) (hb : b <= d.size) (hd : A3 P d) : Al d.toList (a : Int) (b : Int) cmp = some (insertionSort lt d a b).toList := by
 have hsz := hd.1
 unfold Al insertionSort
 rw [Pl (by omega)]
 exact Jy hc _ (a + 1) d rfl hb hd
theorem Qt (hc : Bi cmp lt P) {first root c : Nat} {d : Array Int} (h1 : first + root < d.size) (h2 : first + c < d.size) (hd : A3 P d) :
  Am.j3 (first : Int) cmp (root : Int) d.toList (c : Int) = some (bif lt d[first + root]! d[first + c]! then .next ((c : Int), (Sort.swp d (first + root) (first + c)).toList) else .done d.toList) := by
 have hsz := hd.1
 have w1 : W ((first : Int) + (root : Int)) = ((first + root : Nat) : Int) := by rw [Em (by omega)]; omega
 have w2 : W ((first : Int) + (c : Int)) = ((first + c : Nat) : Int) := by rw [Em (by omega)]; omega
 obtain ⟨n, n1, n2⟩ := F3 hc hd h1 h2
 unfold Am.j3
 rw [w1, w2, Ck h1 rfl, Option.bind_some, Ck h2 rfl, Option.bind_some, n1, Option.bind_some, n2]
 cases lt d[first + root]! d[first + c]! with
 | false => rfl
 | true =>
  obtain ⟨y, hy⟩ := Gr (d := d) (x := d[first + c]!) (j := (((first + root : Nat) : Int)).toNat) h2 rfl
  rw [show (!true) = false from rfl, cond_false, hy, Option.bind_some, cond_true]
  have e1 : (((first + root : Nat) : Int)).toNat = first + root := by omega
  have e2 : (((first + c : Nat) : Int)).toNat = first + c := by omega
  rw [e1, e2, Gu]
theorem Ny (hc : Bi cmp lt P) {hi first : Nat} : ∀ (n root : Nat) (d : Array Int), hi - root <= n -> root <= 1000000000 -> first + hi <= d.size -> A3 P d ->
  A3 P (siftDown lt hi first root d) /\ (siftDown lt hi first root d).size = d.size /\ B2 (fun q' => Am.l1 (hi : Int) (first : Int) cmp q'.1 q'.2) ((root : Int), d.toList) = some (siftDown lt hi first root d).toList := by
 intro n
 induction n with
 | zero =>
  intro root d hn hr hh hd
  have hsz := hd.1
  unfold siftDown
  rw [dif_pos (by omega)]
  refine ⟨hd, rfl, Cr (x := some d.toList) ?_⟩
  show Am.l1 (hi : Int) (first : Int) cmp (root : Int) d.toList = _
  unfold Am.l1
  rw [Em (x := 2 * (root : Int)) (by omega), Em (by omega), decide_eq_true (by omega)]
  rfl
 | succ n ih =>
  intro root d hn hr hh hd
  have hsz := hd.1
  have w0 : W (2 * (root : Int)) = ((2 * root : Nat) : Int) := by rw [Em (by omega)]; omega
  have w1 : W (((2 * root : Nat) : Int) + 1) = ((2 * root + 1 : Nat) : Int) := by rw [Em (by omega)]; omega
  have w2 : W (((2 * root + 1 : Nat) : Int) + 1) = ((2 * root + 2 : Nat) : Int) := by rw [Em (by omega)]; omega
  by_cases hend : 2 * root + 1 >= hi
  ·unfold siftDown
   rw [dif_pos hend]
   refine ⟨hd, rfl, Cr (x := some d.toList) ?_⟩
   show Am.l1 (hi : Int) (first : Int) cmp (root : Int) d.toList = _
   unfold Am.l1
   rw [w0, w1, decide_eq_true (by omega)]
   rfl
  ·have step : ∀ c : Nat, c < hi -> root < c -> ∀ (b : Bool) (r : Array Int), (lt d[first + root]! d[first + c]! = b) -> r = (bif b then siftDown lt hi first c (Sort.swp d (first + root) (first + c)) else d) ->
     (Am.l1 (hi : Int) (first : Int) cmp (root : Int) d.toList = Am.j3 (first : Int) cmp (root : Int) d.toList (c : Int)) ->
     A3 P r /\ r.size = d.size /\ B2 (fun q' => Am.l1 (hi : Int) (first : Int) cmp q'.1 q'.2) ((root : Int), d.toList) = some r.toList := fun c hc1 hc2 b r hb hrr hl => by
    have hj := Qt hc (first := first) (root := root) (c := c) (d := d) (by omega) (by omega) hd
    rw [hb] at hj
    cases b with
    | false =>
     rw [cond_false] at hrr
     rw [hrr]
     refine ⟨hd, rfl, Rg ?_⟩
     exact (by rw [hl, hj]; rfl : Am.l1 (hi : Int) (first : Int) cmp (root : Int) d.toList = some (.done d.toList))
    | true =>
     rw [cond_true] at hrr
     rw [hrr]
     obtain ⟨q1, q2, q3⟩ := ih c (Sort.swp d (first + root) (first + c)) (by omega) (by omega) (by rw [Bs]; exact hh) (hd.swp (by omega) (by omega))
     refine ⟨q1, by rw [q2, Bs], ?_⟩
     have hb' : Am.l1 (hi : Int) (first : Int) cmp (root : Int) d.toList = some (.next ((c : Int), (Sort.swp d (first + root) (first + c)).toList)) := by rw [hl, hj]; rfl
     exact (Db (body := fun q' => Am.l1 (hi : Int) (first : Int) cmp q'.1 q'.2) (s := ((root : Int), d.toList)) hb').trans q3
   unfold siftDown
   rw [dif_neg hend]
   have hl : ∀ b : Bool, (decide (2 * root + 1 + 1 < hi) && lt d[first + (2 * root + 1)]! d[first + (2 * root + 1) + 1]!) = b -> Am.l1 (hi : Int) (first : Int) cmp (root : Int) d.toList = Am.j3 (first : Int) cmp (root : Int) d.toList (bif b then ((2 * root + 2 : Nat) : Int) else ((2 * root + 1 : Nat) : Int)) := fun b hb => by
    unfold Am.l1
    rw [w0, w1, w2, decide_eq_false (by omega), cond_false]
    by_cases h2 : 2 * root + 2 < hi
    ·have a2 : first + (2 * root + 1) + 1 < d.size := by clear w0 w1 w2; omega
     have a1 : first + (2 * root + 1) < d.size := by clear w0 w1 w2; omega
     have a3 : decide (2 * root + 1 + 1 < hi) = true := decide_eq_true h2
     have a4 : decide (((2 * root + 2 : Nat) : Int) < (hi : Int)) = true := decide_eq_true (by clear w0 w1 w2; omega)
     have v1 : W ((first : Int) + ((2 * root + 1 : Nat) : Int)) = ((first + (2 * root + 1) : Nat) : Int) := by rw [Em (by omega)]; omega
     have v2 : W (((first + (2 * root + 1) : Nat) : Int) + 1) = ((first + (2 * root + 1) + 1 : Nat) : Int) := by rw [Em (by omega)]; omega
     obtain ⟨m, m1, m2⟩ := F3 hc hd (i := first + (2 * root + 1)) (j := first + (2 * root + 1) + 1) a1 a2
     rw [a4, cond_true, v1, v2, Ck (i := first + (2 * root + 1)) a1 rfl, Option.bind_some, Ck (i := first + (2 * root + 1) + 1) a2 rfl, Option.bind_some, m1, Option.bind_some, m2]
     rw [a3, Bool.true_and] at hb
     rw [hb]
     unfold Am.j2
     rw [w0, w1, w2]
     cases b with
     | true => rw [cond_true, cond_true]
     | false => rw [cond_false, cond_false]
    ·rw [decide_eq_false (by omega), cond_false]
     rw [decide_eq_false (by omega), Bool.false_and] at hb
     subst hb
     unfold Am.j2
     rw [w0, w1, cond_false, cond_false]
   cases hb : (decide (2 * root + 1 + 1 < hi) && lt d[first + (2 * root + 1)]! d[first + (2 * root + 1) + 1]!) with
   | true =>
    rw [if_pos rfl]
    have h2 : 2 * root + 2 < hi := by
     rw [Bool.and_eq_true] at hb
     have := of_decide_eq_true hb.1
     omega
    refine step (2 * root + 2) h2 (by omega) _ _ rfl ?_ (hl true hb)
    cases lt d[first + root]! d[first + (2 * root + 2)]! with
    | false => rfl
    | true => rw [show (!true) = false from rfl, if_neg (by simp), dif_pos h2]; rfl
   | false =>
    rw [if_neg (by simp)]
    refine step (2 * root + 1) (by omega) (by omega) _ _ rfl ?_ (hl false hb)
    cases lt d[first + root]! d[first + (2 * root + 1)]! with
    | false => rfl
    | true => rfl
theorem Jm (hc : Bi cmp lt P) {a b : Nat} : ∀ (k : Nat) (d : Array Int), a + (b - a) <= d.size -> a <= b -> k <= 1000000000 -> A3 P d ->
  A3 P (heapBuild lt (b - a) a k d) /\ (heapBuild lt (b - a) a k d).size = d.size /\ B2 (fun q' => Au.l1 (a : Int) (b : Int) cmp q'.1 q'.2) ((k : Int) - 1, d.toList) = B2 (fun q' => Au.l1 (a : Int) (b : Int) cmp q'.1 q'.2) (-1, (heapBuild lt (b - a) a k d).toList)
 | 0, d, h1, hab, hk, hd => ⟨hd, rfl, rfl⟩
 | k + 1, d, h1, hab, hk, hd => by
  have hsz := hd.1
  obtain ⟨q1, q2, q3⟩ := Ny hc (hi := b - a) (first := a) _ k d (Nat.le_refl _) (by omega) h1 hd
  obtain ⟨r1, r2, r3⟩ := Jm hc (a := a) (b := b) k (siftDown lt (b - a) a k d) (by rw [q2]; exact h1) hab (by omega) q1
  refine ⟨r1, by show (heapBuild lt (b - a) a k _).size = _; rw [r2, q2], ?_⟩
  rw [Db (s' := ((k : Int) - 1, (siftDown lt (b - a) a k d).toList)) ?_]
  ·exact r3
  ·show Au.l1 (a : Int) (b : Int) cmp (((k + 1 : Nat) : Int) - 1) d.toList = _
   have e0 : ((k + 1 : Nat) : Int) - 1 = (k : Int) := by omega
   have e1 : W ((b : Int) - (a : Int)) = ((b - a : Nat) : Int) := by rw [Em (by omega)]; omega
   unfold Au.l1
   rw [e0, decide_eq_true (by omega), cond_true, e1]
   have e2 : Am d.toList (k : Int) ((b - a : Nat) : Int) (a : Int) cmp = some (siftDown lt (b - a) a k d).toList := q3
   rw [e2, Option.bind_some, Em (by omega)]
theorem Ks (hc : Bi cmp lt P) {a : Nat} : ∀ (k : Nat) (d : Array Int), a + k <= d.size -> A3 P d ->
  B2 (fun q' => Au.l2 (a : Int) cmp q'.1 q'.2) ((k : Int) - 1, d.toList) = some (heapPop lt a k d).toList
 | 0, d, h1, hd => Cr (x := some d.toList) (by
   show Au.l2 (a : Int) cmp (((0 : Nat) : Int) - 1) d.toList = _
   unfold Au.l2
   rw [decide_eq_false (by omega)]
   rfl)
 | k + 1, d, h1, hd => by
  have hsz := hd.1
  obtain ⟨q1, q2, q3⟩ := Ny hc (hi := k) (first := a) k 0 (Sort.swp d a (a + k)) (by omega) (by omega) (by rw [Bs]; omega) (hd.swp (by omega) (by omega))
  rw [Db (s' := ((k : Int) - 1, (siftDown lt k a 0 (Sort.swp d a (a + k))).toList)) ?_]
  ·exact Ks hc k _ (by rw [q2, Bs]; omega) q1
  ·show Au.l2 (a : Int) cmp (((k + 1 : Nat) : Int) - 1) d.toList = _
   have e0 : ((k + 1 : Nat) : Int) - 1 = (k : Int) := by omega
   have e1 : W ((a : Int) + (k : Int)) = ((a + k : Nat) : Int) := by rw [Em (by omega)]; omega
   obtain ⟨y, hy⟩ := Gr (d := d) (x := d[a + k]!) (j := ((a : Int)).toNat) (i := a + k) (by omega) rfl
   unfold Au.l2
   rw [e0, decide_eq_true (by omega), cond_true, e1, Ck (i := a + k) (by omega) rfl, Option.bind_some, Ck (i := a) (by omega) rfl, Option.bind_some, hy, Option.bind_some]
   have e2 : ((a : Int)).toNat = a := by omega
   have e3 : (((a + k : Nat) : Int)).toNat = a + k := by omega
   rw [e2, e3, Gu]
   have e4 : Am (Sort.swp d a (a + k)).toList 0 (k : Int) (a : Int) cmp = some (siftDown lt k a 0 (Sort.swp d a (a + k))).toList := q3
   rw [e4, Option.bind_some, Em (by omega)]
theorem T4 (hc : Bi cmp lt P) {a b : Nat} {d : Array Int} (hab : a < b) (hb : b <= d.size) (hd : A3 P d) : Au d.toList (a : Int) (b : Int) cmp = some (heapSort lt d a b).toList := by
 have hsz := hd.1
 have e1 : W ((b : Int) - (a : Int)) = ((b - a : Nat) : Int) := by rw [Em (by omega)]; omega
 have e2 : W (((b - a : Nat) : Int) - 1) = ((b - a - 1 : Nat) : Int) := by rw [Em (by omega)]; omega
 obtain ⟨r1, r2, r3⟩ := Jm hc (a := a) (b := b) ((b - a - 1) / 2 + 1) d (by omega) (by omega) (by omega) hd
 unfold Au heapSort
 rw [e1, e2]
 have eq : Mr ((b - a - 1 : Nat) : Int) 2 = some (((b - a - 1) / 2 : Nat) : Int) := by
  unfold Mr
  rw [if_neg (by omega), Em]
  ·congr 1
  ·have : ((b - a - 1 : Nat) : Int).tdiv 2 = (((b - a - 1) / 2 : Nat) : Int) := rfl
   rw [this]
   omega
 rw [eq, Option.bind_some]
 have e0 : (((b - a - 1) / 2 : Nat) : Int) = (((b - a - 1) / 2 + 1 : Nat) : Int) - 1 := by omega
 rw [e0, r3]
 refine Cr (x := some (heapPop lt a (b - a) (heapBuild lt (b - a) a ((b - a - 1) / 2 + 1) d)).toList) ?_
 show Au.l1 (a : Int) (b : Int) cmp (-1) _ = _
 unfold Au.l1
 rw [decide_eq_false (by omega), cond_false, e1]
 have e3 : W (((b - a : Nat) : Int) - 1) = ((b - a : Nat) : Int) - 1 := Em (by omega)
 rw [e3, Ks hc (b - a) _ (by rw [r2]; omega) r1]
end
end Go.Proofs.YtopkgllcjbpdeaaDoor
