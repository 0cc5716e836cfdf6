/- Plain texts, joined. No program is in sight here. -/
import Derived.Test.YtkoflhimdenjaaaGreatL3
import Derived.Test.YtkoflhimdenjaaaGreatC1
import Derived.Sort.AssemblyPlain
import Derived.Test.YtkoflhimdenjaaaGreatSG1
set_option linter.unusedVariables false
set_option linter.unusedSimpArgs false
namespace Go.Proofs.YtkoflhimdenjaaaGreat
section
open Go Go.Sort
section
variable {cmp : Aa -> Aa -> Option Int} {lt : Aa -> Aa -> Bool} {P : Aa -> Prop}
def Bh (cmp : Aa -> Aa -> Option Int) (lt : Aa -> Aa -> Bool) (P : Aa -> Prop) : Prop := ∀ x y, P x -> P y -> ∃ n, cmp x y = some n /\ decide (n < 0) = lt x y
def Az (P : Aa -> Prop) (d : Array Aa) : Prop := d.size <= 1000000000 /\ ∀ i, i < d.size -> P d[i]!
theorem Bp (d : Array Aa) (i j : Nat) : (swp d i j).size = d.size := by simp [swp]
theorem Az.swp {d : Array Aa} (h : Az P d) {i j : Nat} (hi : i < d.size) (hj : j < d.size) : Az P (Sort.swp d i j) := by
 refine ⟨by rw [Bp]; exact h.1, fun k hk => ?_⟩
 rw [Bp] at hk
 unfold Sort.swp
 by_cases h1 : j = k
 ·subst h1
  rw [getElem!_pos ((d.setIfInBounds i d[j]!).setIfInBounds j d[i]!) _ (by simpa using hk)]
  simp only [Array.getElem_setIfInBounds_self]
  exact h.2 i hi
 ·by_cases h2 : i = k
  ·subst h2
   rw [getElem!_pos ((d.setIfInBounds i d[j]!).setIfInBounds j d[i]!) _ (by simpa using hk)]
   rw [Array.getElem_setIfInBounds_ne (by simpa using hk) (by omega)]
   simp only [Array.getElem_setIfInBounds_self]
   exact h.2 j hj
  ·rw [getElem!_pos _ _ (by simpa using hk)]
   rw [Array.getElem_setIfInBounds_ne (by simpa using hk) (by omega), Array.getElem_setIfInBounds_ne (by simpa using hk) (by omega)]
   have := h.2 k hk
   rwa [getElem!_pos d k hk] at this
theorem Cc {d : Array Aa} {i : Nat} (h : i < d.size) {k : Int} (hk : k = (i : Int)) : B3 d.toList k = some d[i]! := by
 subst hk
 rw [Fq, Array.getElem?_toList, Array.getElem?_eq_getElem h, getElem!_pos d i h]
theorem Lh (d : Array Aa) (i : Nat) (x : Aa) : Cd d.toList i x = (d.setIfInBounds i x).toList := by
 unfold Cd
 simp
theorem Hf {d : Array Aa} {i : Nat} {x : Aa} {j : Nat} (h : i < d.size) {k : Int} (hk : k = (i : Int)) : ∃ y, B3 (Cd d.toList j x) k = some y := by
 subst hk
 rw [Fq]
 exact ⟨_, List.getElem?_eq_getElem (by unfold Cd; simpa using h)⟩
theorem Hj (d : Array Aa) (i j : Nat) : Cd (Cd d.toList i d[j]!) j d[i]! = (Sort.swp d i j).toList := by
 rw [Lh, Lh]
 rfl
theorem F2 (hc : Bh cmp lt P) {d : Array Aa} (h : Az P d) {i j : Nat} (hi : i < d.size) (hj : j < d.size) : ∃ n, cmp d[i]! d[j]! = some n /\ decide (n < 0) = lt d[i]! d[j]! := hc _ _ (h.2 i hi) (h.2 j hj)
theorem Kr (hc : Bh cmp lt P) {a i1 : Nat} : ∀ (j : Nat) (d : Array Aa), j < d.size -> Az P d ->
  Az P (insInner lt a j d) /\ (insInner lt a j d).size = d.size /\ Ch (fun q' => Al.l2 (a : Int) cmp (i1 : Int) q'.1 q'.2) ((j : Int), d.toList) = some (.next (W ((i1 : Int) + 1), (insInner lt a j d).toList))
 | 0, d, hj, hd => by
  refine ⟨hd, rfl, Ed ?_⟩
  show Al.l2 (a : Int) cmp (i1 : Int) ((0 : Nat) : Int) d.toList = _
  unfold Al.l2
  rw [decide_eq_false (by omega)]
  rfl
 | j + 1, d, hj, hd => by
  have hsz := hd.1
  have hW : W (((j + 1 : Nat) : Int) - 1) = (j : Int) := by rw [Eh (by omega)]; omega
  unfold insInner
  by_cases ha : a < j + 1
  ·obtain ⟨n, h1, h2⟩ := F2 hc hd hj (show j < d.size by omega)
   have hbody : ∀ r, Al.j3 (i1 : Int) ((j + 1 : Nat) : Int) d.toList (lt d[j + 1]! d[j]!) = r -> Al.l2 (a : Int) cmp (i1 : Int) ((j + 1 : Nat) : Int) d.toList = r := fun r hr => by
    unfold Al.l2
    rw [decide_eq_true (by omega), cond_true, Cc hj rfl, Option.bind_some, Cc (i := j) (by omega) hW, Option.bind_some, h1, Option.bind_some, h2]
    exact hr
   cases hl : lt d[j + 1]! d[j]! with
   | true =>
    obtain ⟨q1, q2, q3⟩ := Kr hc (i1 := i1) (a := a) j (Sort.swp d (j + 1) j) (by rw [Bp]; omega) (hd.swp hj (by omega))
    rw [if_pos (by simp [ha])]
    refine ⟨q1, by rw [q2, Bp], ?_⟩
    have hb' : Al.l2 (a : Int) cmp (i1 : Int) ((j + 1 : Nat) : Int) d.toList = some (.next ((j : Int), (Sort.swp d (j + 1) j).toList)) := by
     refine hbody _ ?_
     rw [hl]
     unfold Al.j3
     obtain ⟨y, hy⟩ := Hf (d := d) (x := d[j]!) (j := (((j + 1 : Nat) : Int)).toNat) (i := j) (by omega) hW
     rw [cond_true, Cc (i := j) (by omega) hW, Option.bind_some, Cc hj rfl, Option.bind_some, hy, Option.bind_some, hW]
     have e1 : (((j + 1 : Nat) : Int)).toNat = j + 1 := by omega
     have e2 : ((j : Int)).toNat = j := by omega
     rw [e1, e2, Hj]
    exact (Ey (body := fun q' => Al.l2 (a : Int) cmp (i1 : Int) q'.1 q'.2) (s := (((j + 1 : Nat) : Int), d.toList)) hb').trans q3
   | false =>
    rw [if_neg (by simp)]
    refine ⟨hd, rfl, Ed (hbody _ ?_)⟩
    rw [hl]
    rfl
  ·rw [if_neg (by simp [ha])]
   refine ⟨hd, rfl, Ed ?_⟩
   show Al.l2 (a : Int) cmp (i1 : Int) ((j + 1 : Nat) : Int) d.toList = _
   unfold Al.l2
   rw [decide_eq_false (by omega)]
   rfl
theorem Ks (hc : Bh cmp lt P) {a b : Nat} : ∀ (n i : Nat) (d : Array Aa), b - i = n -> b <= d.size -> Az P d ->
  Ch (fun q' => Al.l1 (a : Int) (b : Int) cmp q'.1 q'.2) ((i : Int), d.toList) = some (insOuter lt a b i d).toList
 | 0, i, d, hn, hb, hd => by
  unfold insOuter
  rw [if_neg (by omega)]
  refine Ed (x := some d.toList) ?_
  show Al.l1 (a : Int) (b : Int) cmp (i : Int) d.toList = _
  unfold Al.l1
  rw [decide_eq_false (by omega)]
  rfl
 | n + 1, i, d, hn, hb, hd => by
  have hsz := hd.1
  unfold insOuter
  rw [if_pos (by omega)]
  obtain ⟨q1, q2, q3⟩ := Kr hc (a := a) (i1 := i) i d (by omega) hd
  rw [Ey (s' := (((i + 1 : Nat) : Int), (insInner lt a i d).toList)) ?_]
  ·exact Ks hc n (i + 1) _ (by omega) (by rw [q2]; exact hb) q1
  ·show Al.l1 (a : Int) (b : Int) cmp (i : Int) d.toList = _
   unfold Al.l1
   rw [decide_eq_true (by omega), cond_true, q3, Hu (by omega)]
theorem Qc (hc : Bh cmp lt P) {a b : Nat} {d : Array Aa} (hab : a <= b) (hb : b <= d.size) (hd : Az P d) : Al d.toList (a : Int) (b : Int) cmp = some (insertionSort lt d a b).toList := by
 have hsz := hd.1
 unfold Al insertionSort
 rw [Hu (by omega)]
 exact Ks hc _ (a + 1) d rfl hb hd
theorem R3 (hc : Bh cmp lt P) {first root c : Nat} {d : Array Aa} (h1 : first + root < d.size) (h2 : first + c < d.size) (hd : Az P d) :
  Am.j3 (first : Int) cmp (root : Int) d.toList (c : Int) = some (bif lt d[first + root]! d[first + c]! then .next ((c : Int), (Sort.swp d (first + root) (first + c)).toList) else .done d.toList) := by
 have hsz := hd.1
 have w1 : W ((first : Int) + (root : Int)) = ((first + root : Nat) : Int) := by rw [Eh (by omega)]; omega
 have w2 : W ((first : Int) + (c : Int)) = ((first + c : Nat) : Int) := by rw [Eh (by omega)]; omega
 obtain ⟨n, n1, n2⟩ := F2 hc hd h1 h2
 unfold Am.j3
 rw [w1, w2, Cc h1 rfl, Option.bind_some, Cc h2 rfl, Option.bind_some, n1, Option.bind_some, n2]
 cases lt d[first + root]! d[first + c]! with
 | false => rfl
 | true =>
  obtain ⟨y, hy⟩ := Hf (d := d) (x := d[first + c]!) (j := (((first + root : Nat) : Int)).toNat) h2 rfl
  rw [show (!true) = false from rfl, cond_false, hy, Option.bind_some, cond_true]
  have e1 : (((first + root : Nat) : Int)).toNat = first + root := by omega
  have e2 : (((first + c : Nat) : Int)).toNat = first + c := by omega
  rw [e1, e2, Hj]
theorem Oh (hc : Bh cmp lt P) {hi first : Nat} : ∀ (n root : Nat) (d : Array Aa), hi - root <= n -> root <= 1000000000 -> first + hi <= d.size -> Az P d ->
  Az P (siftDown lt hi first root d) /\ (siftDown lt hi first root d).size = d.size /\ Ch (fun q' => Am.l1 (hi : Int) (first : Int) cmp q'.1 q'.2) ((root : Int), d.toList) = some (siftDown lt hi first root d).toList := by
 intro n
 induction n with
 | zero =>
  intro root d hn hr hh hd
  have hsz := hd.1
  unfold siftDown
  rw [dif_pos (by omega)]
  refine ⟨hd, rfl, Ed (x := some d.toList) ?_⟩
  show Am.l1 (hi : Int) (first : Int) cmp (root : Int) d.toList = _
  unfold Am.l1
  rw [Eh (x := 2 * (root : Int)) (by omega), Eh (by omega), decide_eq_true (by omega)]
  rfl
 | succ n ih =>
  intro root d hn hr hh hd
  have hsz := hd.1
  have w0 : W (2 * (root : Int)) = ((2 * root : Nat) : Int) := by rw [Eh (by omega)]; omega
  have w1 : W (((2 * root : Nat) : Int) + 1) = ((2 * root + 1 : Nat) : Int) := by rw [Eh (by omega)]; omega
  have w2 : W (((2 * root + 1 : Nat) : Int) + 1) = ((2 * root + 2 : Nat) : Int) := by rw [Eh (by omega)]; omega
  by_cases hend : 2 * root + 1 >= hi
  ·unfold siftDown
   rw [dif_pos hend]
   refine ⟨hd, rfl, Ed (x := some d.toList) ?_⟩
   show Am.l1 (hi : Int) (first : Int) cmp (root : Int) d.toList = _
   unfold Am.l1
   rw [w0, w1, decide_eq_true (by omega)]
   rfl
  ·have step : ∀ c : Nat, c < hi -> root < c -> ∀ (b : Bool) (r : Array Aa), (lt d[first + root]! d[first + c]! = b) -> r = (bif b then siftDown lt hi first c (Sort.swp d (first + root) (first + c)) else d) ->
     (Am.l1 (hi : Int) (first : Int) cmp (root : Int) d.toList = Am.j3 (first : Int) cmp (root : Int) d.toList (c : Int)) ->
     Az P r /\ r.size = d.size /\ Ch (fun q' => Am.l1 (hi : Int) (first : Int) cmp q'.1 q'.2) ((root : Int), d.toList) = some r.toList := fun c hc1 hc2 b r hb hrr hl => by
    have hj := R3 hc (first := first) (root := root) (c := c) (d := d) (by omega) (by omega) hd
    rw [hb] at hj
    cases b with
    | false =>
     rw [cond_false] at hrr
     rw [hrr]
     refine ⟨hd, rfl, Zf ?_⟩
     exact (by rw [hl, hj]; rfl : Am.l1 (hi : Int) (first : Int) cmp (root : Int) d.toList = some (.done d.toList))
    | true =>
     rw [cond_true] at hrr
     rw [hrr]
     obtain ⟨q1, q2, q3⟩ := ih c (Sort.swp d (first + root) (first + c)) (by omega) (by omega) (by rw [Bp]; exact hh) (hd.swp (by omega) (by omega))
     refine ⟨q1, by rw [q2, Bp], ?_⟩
     have hb' : Am.l1 (hi : Int) (first : Int) cmp (root : Int) d.toList = some (.next ((c : Int), (Sort.swp d (first + root) (first + c)).toList)) := by rw [hl, hj]; rfl
     exact (Ey (body := fun q' => Am.l1 (hi : Int) (first : Int) cmp q'.1 q'.2) (s := ((root : Int), d.toList)) hb').trans q3
   unfold siftDown
   rw [dif_neg hend]
   have hl : ∀ b : Bool, (decide (2 * root + 1 + 1 < hi) && lt d[first + (2 * root + 1)]! d[first + (2 * root + 1) + 1]!) = b -> Am.l1 (hi : Int) (first : Int) cmp (root : Int) d.toList = Am.j3 (first : Int) cmp (root : Int) d.toList (bif b then ((2 * root + 2 : Nat) : Int) else ((2 * root + 1 : Nat) : Int)) := fun b hb => by
    unfold Am.l1
    rw [w0, w1, w2, decide_eq_false (by omega), cond_false]
    by_cases h2 : 2 * root + 2 < hi
    ·have a2 : first + (2 * root + 1) + 1 < d.size := by clear w0 w1 w2; omega
     have a1 : first + (2 * root + 1) < d.size := by clear w0 w1 w2; omega
     have a3 : decide (2 * root + 1 + 1 < hi) = true := decide_eq_true h2
     have a4 : decide (((2 * root + 2 : Nat) : Int) < (hi : Int)) = true := decide_eq_true (by clear w0 w1 w2; omega)
     have v1 : W ((first : Int) + ((2 * root + 1 : Nat) : Int)) = ((first + (2 * root + 1) : Nat) : Int) := by rw [Eh (by omega)]; omega
     have v2 : W (((first + (2 * root + 1) : Nat) : Int) + 1) = ((first + (2 * root + 1) + 1 : Nat) : Int) := by rw [Eh (by omega)]; omega
     obtain ⟨m, m1, m2⟩ := F2 hc hd (i := first + (2 * root + 1)) (j := first + (2 * root + 1) + 1) a1 a2
     rw [a4, cond_true, v1, v2, Cc (i := first + (2 * root + 1)) a1 rfl, Option.bind_some, Cc (i := first + (2 * root + 1) + 1) a2 rfl, Option.bind_some, m1, Option.bind_some, m2]
     rw [a3, Bool.true_and] at hb
     rw [hb]
     unfold Am.j2
     rw [w0, w1, w2]
     cases b with
     | true => rw [cond_true, cond_true]
     | false => rw [cond_false, cond_false]
    ·rw [decide_eq_false (by omega), cond_false]
     rw [decide_eq_false (by omega), Bool.false_and] at hb
     subst hb
     unfold Am.j2
     rw [w0, w1, cond_false, cond_false]
   cases hb : (decide (2 * root + 1 + 1 < hi) && lt d[first + (2 * root + 1)]! d[first + (2 * root + 1) + 1]!) with
   | true =>
    rw [if_pos rfl]
    have h2 : 2 * root + 2 < hi := by
     rw [Bool.and_eq_true] at hb
     have := of_decide_eq_true hb.1
     omega
    refine step (2 * root + 2) h2 (by omega) _ _ rfl ?_ (hl true hb)
    cases lt d[first + root]! d[first + (2 * root + 2)]! with
    | false => rfl
    | true => rw [show (!true) = false from rfl, if_neg (by simp), dif_pos h2]; rfl
   | false =>
    rw [if_neg (by simp)]
    refine step (2 * root + 1) (by omega) (by omega) _ _ rfl ?_ (hl false hb)
    cases lt d[first + root]! d[first + (2 * root + 1)]! with
    | false => rfl
    | true => rfl
theorem Kh (hc : Bh cmp lt P) {a b : Nat} : ∀ (k : Nat) (d : Array Aa), a + (b - a) <= d.size -> a <= b -> k <= 1000000000 -> Az P d ->
  Az P (heapBuild lt (b - a) a k d) /\ (heapBuild lt (b - a) a k d).size = d.size /\ Ch (fun q' => Av.l1 (a : Int) (b : Int) cmp q'.1 q'.2) ((k : Int) - 1, d.toList) = Ch (fun q' => Av.l1 (a : Int) (b : Int) cmp q'.1 q'.2) (-1, (heapBuild lt (b - a) a k d).toList)
 | 0, d, h1, hab, hk, hd => ⟨hd, rfl, rfl⟩
 | k + 1, d, h1, hab, hk, hd => by
  have hsz := hd.1
  obtain ⟨q1, q2, q3⟩ := Oh hc (hi := b - a) (first := a) _ k d (Nat.le_refl _) (by omega) h1 hd
  obtain ⟨r1, r2, r3⟩ := Kh hc (a := a) (b := b) k (siftDown lt (b - a) a k d) (by rw [q2]; exact h1) hab (by omega) q1
  refine ⟨r1, by show (heapBuild lt (b - a) a k _).size = _; rw [r2, q2], ?_⟩
  rw [Ey (s' := ((k : Int) - 1, (siftDown lt (b - a) a k d).toList)) ?_]
  ·exact r3
  ·show Av.l1 (a : Int) (b : Int) cmp (((k + 1 : Nat) : Int) - 1) d.toList = _
   have e0 : ((k + 1 : Nat) : Int) - 1 = (k : Int) := by omega
   have e1 : W ((b : Int) - (a : Int)) = ((b - a : Nat) : Int) := by rw [Eh (by omega)]; omega
   unfold Av.l1
   rw [e0, decide_eq_true (by omega), cond_true, e1]
   have e2 : Am d.toList (k : Int) ((b - a : Nat) : Int) (a : Int) cmp = some (siftDown lt (b - a) a k d).toList := q3
   rw [e2, Option.bind_some, Eh (by omega)]
theorem Li (hc : Bh cmp lt P) {a : Nat} : ∀ (k : Nat) (d : Array Aa), a + k <= d.size -> Az P d ->
  Ch (fun q' => Av.l2 (a : Int) cmp q'.1 q'.2) ((k : Int) - 1, d.toList) = some (heapPop lt a k d).toList
 | 0, d, h1, hd => Ed (x := some d.toList) (by
   show Av.l2 (a : Int) cmp (((0 : Nat) : Int) - 1) d.toList = _
   unfold Av.l2
   rw [decide_eq_false (by omega)]
   rfl)
 | k + 1, d, h1, hd => by
  have hsz := hd.1
  obtain ⟨q1, q2, q3⟩ := Oh hc (hi := k) (first := a) k 0 (Sort.swp d a (a + k)) (by omega) (by omega) (by rw [Bp]; omega) (hd.swp (by omega) (by omega))
  rw [Ey (s' := ((k : Int) - 1, (siftDown lt k a 0 (Sort.swp d a (a + k))).toList)) ?_]
  ·exact Li hc k _ (by rw [q2, Bp]; omega) q1
  ·show Av.l2 (a : Int) cmp (((k + 1 : Nat) : Int) - 1) d.toList = _
   have e0 : ((k + 1 : Nat) : Int) - 1 = (k : Int) := by omega
   have e1 : W ((a : Int) + (k : Int)) = ((a + k : Nat) : Int) := by rw [Eh (by omega)]; omega
   obtain ⟨y, hy⟩ := Hf (d := d) (x := d[a + k]!) (j := ((a : Int)).toNat) (i := a + k) (by omega) rfl
   unfold Av.l2
   rw [e0, decide_eq_true (by omega), cond_true, e1, Cc (i := a + k) (by omega) rfl, Option.bind_some, Cc (i := a) (by omega) rfl, Option.bind_some, hy, Option.bind_some]
   have e2 : ((a : Int)).toNat = a := by omega
   have e3 : (((a + k : Nat) : Int)).toNat = a + k := by omega
   rw [e2, e3, Hj]
   have e4 : Am (Sort.swp d a (a + k)).toList 0 (k : Int) (a : Int) cmp = some (siftDown lt k a 0 (Sort.swp d a (a + k))).toList := q3
   rw [e4, Option.bind_some, Eh (by omega)]
theorem Un (hc : Bh cmp lt P) {a b : Nat} {d : Array Aa} (hab : a < b) (hb : b <= d.size) (hd : Az P d) : Av d.toList (a : Int) (b : Int) cmp = some (heapSort lt d a b).toList := by
 have hsz := hd.1
 have e1 : W ((b : Int) - (a : Int)) = ((b - a : Nat) : Int) := by rw [Eh (by omega)]; omega
 have e2 : W (((b - a : Nat) : Int) - 1) = ((b - a - 1 : Nat) : Int) := by rw [Eh (by omega)]; omega
 obtain ⟨r1, r2, r3⟩ := Kh hc (a := a) (b := b) ((b - a - 1) / 2 + 1) d (by omega) (by omega) (by omega) hd
 unfold Av heapSort
 rw [e1, e2]
 have eq : Lg ((b - a - 1 : Nat) : Int) 2 = some (((b - a - 1) / 2 : Nat) : Int) := by
  unfold Lg
  rw [if_neg (by omega), Eh]
  ·congr 1
  ·have : ((b - a - 1 : Nat) : Int).tdiv 2 = (((b - a - 1) / 2 : Nat) : Int) := rfl
   rw [this]
   omega
 rw [eq, Option.bind_some]
 have e0 : (((b - a - 1) / 2 : Nat) : Int) = (((b - a - 1) / 2 + 1 : Nat) : Int) - 1 := by omega
 rw [e0, r3]
 refine Ed (x := some (heapPop lt a (b - a) (heapBuild lt (b - a) a ((b - a - 1) / 2 + 1) d)).toList) ?_
 show Av.l1 (a : Int) (b : Int) cmp (-1) _ = _
 unfold Av.l1
 rw [decide_eq_false (by omega), cond_false, e1]
 have e3 : W (((b - a : Nat) : Int) - 1) = ((b - a : Nat) : Int) - 1 := Eh (by omega)
 rw [e3, Li hc (b - a) _ (by rw [r2]; omega) r1]
end
end
section
open Go Go.Sort
section
variable {cmp : Aa -> Aa -> Option Int} {lt : Aa -> Aa -> Bool} {P : Aa -> Prop}
theorem Et {d : Array Aa} {i j : Nat} (hi : i < d.size) (hj : j < d.size) {ki kj : Int} (eki : ki = (i : Int)) (ekj : kj = (j : Int)) {γ : Type} (F : List Aa -> Option γ) :
  ((B3 d.toList kj).bind fun e => (B3 d.toList ki).bind fun e2 => (B3 (Cd d.toList ki.toNat e) kj).bind fun _ => F (Cd (Cd d.toList ki.toNat e) kj.toNat e2)) = F (Sort.swp d i j).toList := by
 subst eki ekj
 obtain ⟨y, hy⟩ := Hf (d := d) (x := d[j]!) (j := ((i : Int)).toNat) (i := j) hj rfl
 rw [Cc hj rfl, Option.bind_some, Cc hi rfl, Option.bind_some, hy, Option.bind_some, Int.toNat_natCast, Int.toNat_natCast, Hj]
theorem Gl (hc : Bh cmp lt P) {d : Array Aa} (h : Az P d) {i j : Nat} (hi : i < d.size) (hj : j < d.size) {ki kj : Int} (eki : ki = (i : Int)) (ekj : kj = (j : Int)) {γ : Type} (F : Bool -> Option γ) :
  ((B3 d.toList ki).bind fun e => (B3 d.toList kj).bind fun e2 => (cmp e e2).bind fun y => F (decide (y < 0))) = F (lt d[i]! d[j]!) := by
 subst eki ekj
 obtain ⟨n, h1, h2⟩ := F2 hc h hi hj
 rw [Cc hi rfl, Option.bind_some, Cc hj rfl, Option.bind_some, h1, Option.bind_some, h2]
theorem R5 (hc : Bh cmp lt P) {L0 : List Aa} {e e2 : Aa} {D : Array Aa} {a b pivot : Nat} (hD : Cd (Cd L0 ((a : Int)).toNat e) ((pivot : Int)).toNat e2 = D.toList) (hA : Az P D) (ha : a < b) (hb : b <= D.size) :
  Ch (fun q' => Ad.l1 L0 (a : Int) (b : Int) (pivot : Int) cmp e e2 q') (W ((a : Int) + 1)) = Ch (fun q' => Ad.l3 L0 (a : Int) (pivot : Int) cmp e e2 ((scanUp (fun x => lt x D[a]!) D (b - 1) (a + 1) : Nat) : Int) q') (((b - 1 : Nat) : Int)) := by
 have hsz := hA.1
 rw [Wp (by omega)]
 refine gA (p := fun x => lt x D[a]!) (D := D) (i0 := a + 1) (j := b - 1) (J := fun i x => Ad.j2 L0 (a : Int) (b : Int) (pivot : Int) cmp e e2 (i : Int) x) (K := fun i => Ch (fun q' => Ad.l3 L0 (a : Int) (pivot : Int) cmp e e2 (i : Int) q') (((b - 1 : Nat) : Int))) (by omega) (fun i h1 h2 => ?_) (fun i => rfl) (fun i _ _ => ?_) _ (a + 1) rfl (Nat.le_refl _) (by omega)
 ·unfold Ad.l1
  rw [hD, Wm (by omega) (by omega)]
  by_cases h : i <= b - 1
  ·rw [decide_eq_true (by omega), cond_true, decide_eq_true h, Bool.true_and]
   exact Gl hc hA (i := i) (j := a) (by omega) (by omega) rfl rfl (F := fun x => Ad.j2 L0 (a : Int) (b : Int) (pivot : Int) cmp e e2 (i : Int) x)
  ·rw [decide_eq_false (by omega), cond_false, decide_eq_false h, Bool.false_and]
 ·unfold Ad.j2
  rw [Wm (by omega) (by omega)]
  rfl
theorem Sb (hc : Bh cmp lt P) {L0 : List Aa} {e e2 : Aa} {D : Array Aa} {a b i pivot : Nat} (hD : Cd (Cd L0 ((a : Int)).toNat e) ((pivot : Int)).toNat e2 = D.toList) (hA : Az P D) (ha : a < i) (hi : i <= b) (hb : b <= D.size) :
  Ch (fun q' => Ad.l3 L0 (a : Int) (pivot : Int) cmp e e2 (i : Int) q') (((b - 1 : Nat) : Int)) = (fun j => if j < i then some ((j : Int), true, (Sort.swp D j a).toList) else
   Ch (fun q' => Ad.l5 (a : Int) cmp q'.1 q'.2.1 q'.2.2) (((i + 1 : Nat) : Int), ((j - 1 : Nat) : Int), (Sort.swp D i j).toList)) (scanDown (fun x => !lt x D[a]!) D i (b - 1)) := by
 have hsz := hA.1
 refine aC (p := fun x => !lt x D[a]!) (D := D) (i := i) (j0 := b - 1) (J := fun j x => Ad.j4 L0 (a : Int) (pivot : Int) cmp e e2 (i : Int) (j : Int) x) (K := fun j : Nat => if j < i then some ((j : Int), true, (Sort.swp D j a).toList) else
   Ch (fun q' => Ad.l5 (a : Int) cmp q'.1 q'.2.1 q'.2.2) (((i + 1 : Nat) : Int), ((j - 1 : Nat) : Int), (Sort.swp D i j).toList)) (by omega) (by omega) (fun j h1 h2 => ?_) (fun i => rfl) (fun j h1 h2 => ?_) (b - 1) (by omega) (Nat.le_refl _)
 ·unfold Ad.l3
  rw [hD]
  by_cases h : i <= j
  ·rw [decide_eq_true (by omega), cond_true, decide_eq_true h, Bool.true_and]
   exact Gl hc hA (i := j) (j := a) (by omega) (by omega) rfl rfl (F := fun x => Ad.j4 L0 (a : Int) (pivot : Int) cmp e e2 (i : Int) (j : Int) (!x))
  ·rw [decide_eq_false (by omega), cond_false, decide_eq_false h, Bool.false_and]
 ·unfold Ad.j4
  rw [hD, cond_false]
  congr 1
  by_cases h : j < i
  ·rw [decide_eq_true (by omega), cond_true, if_pos h]
   exact Et (i := j) (j := a) (by omega) (by omega) rfl rfl (fun l => some ((j : Int), true, l))
  ·rw [decide_eq_false (by omega), cond_false, if_neg h, Wp (by omega), Wm (by omega) (by omega)]
   exact Et (i := i) (j := j) (by omega) (by omega) rfl rfl (fun l => Ch (fun q' => Ad.l5 (a : Int) cmp q'.1 q'.2.1 q'.2.2) (((i + 1 : Nat) : Int), ((j - 1 : Nat) : Int), l))
theorem Lb (hc : Bh cmp lt P) {D : Array Aa} {a i j : Nat} (hA : Az P D) (ha : a < i) (hi : i <= j + 1) (hj : j < D.size) :
  Ad.l5 (a : Int) cmp (i : Int) (j : Int) D.toList = (fun i' j' : Nat => if j' < i' then up (some ((j' : Int), false, (Sort.swp D j' a).toList)) else some (.next (((i' + 1 : Nat) : Int), ((j' - 1 : Nat) : Int), (Sort.swp D i' j').toList))) (scanUp (fun x => lt x D[a]!) D j i) (scanDown (fun x => !lt x D[a]!) D (scanUp (fun x => lt x D[a]!) D j i) j) := by
 have hsz := hA.1
 have hu := scanUp_spec (fun x => lt x D[a]!) D j _ i rfl
 unfold Ad.l5
 refine (gA (p := fun x => lt x D[a]!) (D := D) (i0 := i) (j := j) (J := fun i x => Ad.j7 (a : Int) cmp (j : Int) D.toList (i : Int) x) (K := fun i => Ch (fun q' => Ad.l8 (a : Int) cmp D.toList (i : Int) q') (j : Int)) (by omega) (fun i' h1 h2 => ?_) (fun i => rfl) (fun i' h1 h2 => rfl) _ i rfl (Nat.le_refl _) (by omega)).trans ?_
 ·unfold Ad.l6
  by_cases h : i' <= j
  ·rw [decide_eq_true (by omega), cond_true, decide_eq_true h, Bool.true_and]
   exact Gl hc hA (i := i') (j := a) (by omega) (by omega) rfl rfl (F := fun x => Ad.j7 (a : Int) cmp (j : Int) D.toList (i' : Int) x)
  ·rw [decide_eq_false (by omega), cond_false, decide_eq_false h, Bool.false_and]
 ·generalize scanUp (fun x => lt x D[a]!) D j i = i2 at hu ⊢
  have h1 := hu.1
  have h2 := hu.2.1 hi
  refine aC (p := fun x => !lt x D[a]!) (D := D) (i := i2) (j0 := j) (J := fun j x => Ad.j9 (a : Int) D.toList (i2 : Int) (j : Int) x) (K := fun j' : Nat => if j' < i2 then up (some ((j' : Int), false, (Sort.swp D j' a).toList)) else some (.next (((i2 + 1 : Nat) : Int), ((j' - 1 : Nat) : Int), (Sort.swp D i2 j').toList))) (by omega) (by omega) (fun j' h3 h4 => ?_) (fun j' => rfl) (fun j' h3 h4 => ?_) j (by omega) (Nat.le_refl _)
  ·unfold Ad.l8
   by_cases h : i2 <= j'
   ·rw [decide_eq_true (by omega), cond_true, decide_eq_true h, Bool.true_and]
    exact Gl hc hA (i := j') (j := a) (by omega) (by omega) rfl rfl (F := fun x => Ad.j9 (a : Int) D.toList (i2 : Int) (j' : Int) (!x))
   ·rw [decide_eq_false (by omega), cond_false, decide_eq_false h, Bool.false_and]
  ·unfold Ad.j9
   rw [cond_false]
   congr 1
   by_cases h : j' < i2
   ·rw [decide_eq_true (by omega), cond_true, if_pos h]
    congr 1
    exact Et (i := j') (j := a) (by omega) (by omega) rfl rfl (fun l => some ((j' : Int), false, l))
   ·rw [decide_eq_false (by omega), cond_false, if_neg h, Wp (by omega), Wm (by omega) (by omega)]
    exact Et (i := i2) (j := j') (by omega) (by omega) rfl rfl (fun l => some (Lp.next (((i2 + 1 : Nat) : Int), ((j' - 1 : Nat) : Int), l)))
theorem Qj (hc : Bh cmp lt P) {a : Nat} : ∀ (n i j : Nat) (D : Array Aa), j + 1 - i <= n -> a < i -> i <= j + 1 -> j < D.size -> Az P D ->
  Az P (partLoop lt a i j D).2 /\ (partLoop lt a i j D).2.size = D.size /\ (partLoop lt a i j D).1 < D.size /\
  Ch (fun q' => Ad.l5 (a : Int) cmp q'.1 q'.2.1 q'.2.2) ((i : Int), (j : Int), D.toList) = some (((partLoop lt a i j D).1 : Int), false, (Sort.swp (partLoop lt a i j D).2 (partLoop lt a i j D).1 a).toList) := by
 intro n
 induction n with
 | zero =>
  intro i j D hn ha hi hj hA
  have hr := Lb hc hA ha hi hj
  have hu := scanUp_spec (fun x => lt x D[a]!) D j _ i rfl
  rw [partLoop_eq]
  generalize scanUp (fun x => lt x D[a]!) D j i = i2 at hu hr ⊢
  have hd := scanDown_spec (fun x => !lt x D[a]!) D i2 j
  generalize scanDown (fun x => !lt x D[a]!) D i2 j = j2 at hd hr ⊢
  have h1 := hu.1
  have h2 := hd.1
  rw [if_pos (show i2 > j2 by omega)]
  refine ⟨hA, rfl, show j2 < D.size by omega, Ed (hr.trans ?_)⟩
  exact if_pos (show j2 < i2 by omega)
 | succ n ih =>
  intro i j D hn ha hi hj hA
  have hr := Lb hc hA ha hi hj
  have hu := scanUp_spec (fun x => lt x D[a]!) D j _ i rfl
  rw [partLoop_eq]
  generalize scanUp (fun x => lt x D[a]!) D j i = i2 at hu hr ⊢
  have hd := scanDown_spec (fun x => !lt x D[a]!) D i2 j
  generalize scanDown (fun x => !lt x D[a]!) D i2 j = j2 at hd hr ⊢
  have h1 := hu.1
  have h2 := hd.1
  by_cases h : i2 > j2
  ·rw [if_pos h]
   refine ⟨hA, rfl, show j2 < D.size by omega, Ed (hr.trans ?_)⟩
   exact if_pos (show j2 < i2 by omega)
  ·rw [if_neg h]
   have hne : i2 ≠ j2 := fun e => by
    have u4 := hu.2.2.2 (by omega)
    have d4 := hd.2.2.2 (by omega) (by omega)
    rw [e] at u4
    rw [u4] at d4
    cases d4
   obtain ⟨q1, q2, q3, q4⟩ := ih (i2 + 1) (j2 - 1) (Sort.swp D i2 j2) (by omega) (by omega) (by omega) (by rw [Bp]; omega) (hA.swp (by omega) (by omega))
   rw [Bp] at q2 q3
   refine ⟨q1, q2, q3, (Ey (hr.trans (if_neg (show ¬ j2 < i2 by omega)))).trans q4⟩
theorem U1 (hc : Bh cmp lt P) {a b pivot : Nat} {d : Array Aa} (hab : a < b) (hp1 : a <= pivot) (hp2 : pivot < b) (hb : b <= d.size) (hd : Az P d) :
  Ad d.toList (a : Int) (b : Int) (pivot : Int) cmp = some (((partition lt d a b pivot).1 : Int), (partition lt d a b pivot).2.1, (partition lt d a b pivot).2.2.toList) := by
 have hsz := hd.1
 have hA : Az P (Sort.swp d a pivot) := hd.swp (by omega) (by omega)
 have hs := Bp d a pivot
 have hD : Cd (Cd d.toList ((a : Int)).toNat d[pivot]!) ((pivot : Int)).toNat d[a]! = (Sort.swp d a pivot).toList := by
  rw [Int.toNat_natCast, Int.toNat_natCast, Hj]
 obtain ⟨y, hy⟩ := Hf (d := d) (x := d[pivot]!) (j := ((a : Int)).toNat) (i := pivot) (by omega) rfl
 unfold Ad partition
 rw [Cc (i := pivot) (by omega) rfl, Option.bind_some, Cc (i := a) (by omega) rfl, Option.bind_some, hy, Option.bind_some, R5 hc hD hA hab (by omega)]
 simp only []
 generalize Sort.swp d a pivot = D at hA hs hD ⊢
 have hu := scanUp_spec (fun x => lt x D[a]!) D (b - 1) _ (a + 1) rfl
 generalize scanUp (fun x => lt x D[a]!) D (b - 1) (a + 1) = i2 at hu ⊢
 have h1 := hu.1
 have h2 := hu.2.1 (by omega)
 rw [Sb hc hD hA (b := b) (i := i2) (by omega) (by omega) (by omega)]
 have hdn := scanDown_spec (fun x => !lt x D[a]!) D i2 (b - 1)
 generalize scanDown (fun x => !lt x D[a]!) D i2 (b - 1) = j2 at hdn ⊢
 have h3 := hdn.1
 by_cases h : i2 > j2
 ·rw [if_pos h]
  exact if_pos (show j2 < i2 by omega)
 ·rw [if_neg h]
  have hne : i2 ≠ j2 := fun e => by
   have u4 := hu.2.2.2 (by omega)
   have d4 := hdn.2.2.2 (by omega) (by omega)
   rw [e] at u4
   rw [u4] at d4
   cases d4
  refine (if_neg (show ¬ j2 < i2 by omega)).trans ?_
  exact (Qj hc _ (i2 + 1) (j2 - 1) (Sort.swp D i2 j2) (Nat.le_refl _) (by omega) (by omega) (by rw [Bp]; omega) (hA.swp (by omega) (by omega))).2.2.2
end
end
section
open Go Go.Sort
section
variable {cmp : Aa -> Aa -> Option Int} {lt : Aa -> Aa -> Bool} {P : Aa -> Prop}
theorem L1 (hc : Bh cmp lt P) {D : Array Aa} {a i j : Nat} (hA : Az P D) (ha : a < i) (hi : i <= j + 1) (hj : j < D.size) :
  Aj.l1 (a : Int) cmp (i : Int) (j : Int) D.toList = (fun i' j' : Nat => if j' < i' then up (some ((i' : Int), D.toList)) else some (.next (((i' + 1 : Nat) : Int), ((j' - 1 : Nat) : Int), (Sort.swp D i' j').toList))) (scanUp (fun x => !lt D[a]! x) D j i) (scanDown (fun x => lt D[a]! x) D (scanUp (fun x => !lt D[a]! x) D j i) j) := by
 have hsz := hA.1
 have hu := scanUp_spec (fun x => !lt D[a]! x) D j _ i rfl
 unfold Aj.l1
 refine (gA (p := fun x => !lt D[a]! x) (D := D) (i0 := i) (j := j) (J := fun i x => Aj.j3 (a : Int) cmp (j : Int) D.toList (i : Int) x) (K := fun i => Ch (fun q' => Aj.l4 (a : Int) cmp D.toList (i : Int) q') (j : Int)) (by omega) (fun i' h1 h2 => ?_) (fun i => rfl) (fun i' h1 h2 => rfl) _ i rfl (Nat.le_refl _) (by omega)).trans ?_
 ·unfold Aj.l2
  by_cases h : i' <= j
  ·rw [decide_eq_true (by omega), cond_true, decide_eq_true h, Bool.true_and]
   exact Gl hc hA (i := a) (j := i') (by omega) (by omega) rfl rfl (F := fun x => Aj.j3 (a : Int) cmp (j : Int) D.toList (i' : Int) (!x))
  ·rw [decide_eq_false (by omega), cond_false, decide_eq_false h, Bool.false_and]
 ·generalize scanUp (fun x => !lt D[a]! x) D j i = i2 at hu ⊢
  have h1 := hu.1
  have h2 := hu.2.1 hi
  refine aC (p := fun x => lt D[a]! x) (D := D) (i := i2) (j0 := j) (J := fun j x => Aj.j5 D.toList (i2 : Int) (j : Int) x) (K := fun j' : Nat => if j' < i2 then up (some ((i2 : Int), D.toList)) else some (.next (((i2 + 1 : Nat) : Int), ((j' - 1 : Nat) : Int), (Sort.swp D i2 j').toList))) (by omega) (by omega) (fun j' h3 h4 => ?_) (fun j' => rfl) (fun j' h3 h4 => ?_) j (by omega) (Nat.le_refl _)
  ·unfold Aj.l4
   by_cases h : i2 <= j'
   ·rw [decide_eq_true (by omega), cond_true, decide_eq_true h, Bool.true_and]
    exact Gl hc hA (i := a) (j := j') (by omega) (by omega) rfl rfl (F := fun x => Aj.j5 D.toList (i2 : Int) (j' : Int) x)
   ·rw [decide_eq_false (by omega), cond_false, decide_eq_false h, Bool.false_and]
  ·unfold Aj.j5
   rw [cond_false]
   congr 1
   by_cases h : j' < i2
   ·rw [decide_eq_true (by omega), cond_true, if_pos h]
   ·rw [decide_eq_false (by omega), cond_false, if_neg h, Wp (by omega), Wm (by omega) (by omega)]
    exact Et (i := i2) (j := j') (by omega) (by omega) rfl rfl (fun l => some (Lp.next (((i2 + 1 : Nat) : Int), ((j' - 1 : Nat) : Int), l)))
theorem Qu (hc : Bh cmp lt P) {a : Nat} : ∀ (n i j : Nat) (D : Array Aa), j + 1 - i <= n -> a < i -> i <= j + 1 -> j < D.size -> Az P D ->
  Ch (fun q' => Aj.l1 (a : Int) cmp q'.1 q'.2.1 q'.2.2) ((i : Int), (j : Int), D.toList) = some (((partEqLoop lt a i j D).1 : Int), (partEqLoop lt a i j D).2.toList) := by
 intro n
 induction n with
 | zero =>
  intro i j D hn ha hi hj hA
  have hr := L1 hc hA ha hi hj
  have hu := scanUp_spec (fun x => !lt D[a]! x) D j _ i rfl
  rw [partEqLoop_eq]
  generalize scanUp (fun x => !lt D[a]! x) D j i = i2 at hu hr ⊢
  have hd := scanDown_spec (fun x => lt D[a]! x) D i2 j
  generalize scanDown (fun x => lt D[a]! x) D i2 j = j2 at hd hr ⊢
  have h1 := hu.1
  have h2 := hd.1
  rw [if_pos (show i2 > j2 by omega)]
  refine Ed (hr.trans ?_)
  exact if_pos (show j2 < i2 by omega)
 | succ n ih =>
  intro i j D hn ha hi hj hA
  have hr := L1 hc hA ha hi hj
  have hu := scanUp_spec (fun x => !lt D[a]! x) D j _ i rfl
  rw [partEqLoop_eq]
  generalize scanUp (fun x => !lt D[a]! x) D j i = i2 at hu hr ⊢
  have hd := scanDown_spec (fun x => lt D[a]! x) D i2 j
  generalize scanDown (fun x => lt D[a]! x) D i2 j = j2 at hd hr ⊢
  have h1 := hu.1
  have h2 := hd.1
  by_cases h : i2 > j2
  ·rw [if_pos h]
   refine Ed (hr.trans ?_)
   exact if_pos (show j2 < i2 by omega)
  ·rw [if_neg h]
   have hne : i2 ≠ j2 := fun e => by
    have u4 := hu.2.2.2 (by omega)
    have d4 := hd.2.2.2 (by omega) (by omega)
    rw [e] at u4
    rw [d4] at u4
    cases u4
   exact (Ey (hr.trans (if_neg (show ¬ j2 < i2 by omega)))).trans (ih (i2 + 1) (j2 - 1) (Sort.swp D i2 j2) (by omega) (by omega) (by omega) (by rw [Bp]; omega) (hA.swp (by omega) (by omega)))
theorem V7 (hc : Bh cmp lt P) {a b pivot : Nat} {d : Array Aa} (hab : a < b) (hp1 : a <= pivot) (hp2 : pivot < b) (hb : b <= d.size) (hd : Az P d) :
  Aj d.toList (a : Int) (b : Int) (pivot : Int) cmp = some (((partitionEqual lt d a b pivot).1 : Int), (partitionEqual lt d a b pivot).2.toList) := by
 have hsz := hd.1
 unfold Aj partitionEqual
 rw [Wp (by omega), Wm (by omega) (by omega)]
 refine (Et (i := a) (j := pivot) (by omega) (by omega) rfl rfl (fun l => Ch (fun q' => Aj.l1 (a : Int) cmp q'.1 q'.2.1 q'.2.2) (((a + 1 : Nat) : Int), ((b - 1 : Nat) : Int), l))).trans ?_
 exact Qu hc _ (a + 1) (b - 1) (Sort.swp d a pivot) (Nat.le_refl _) (by omega) (by omega) (by rw [Bp]; omega) (hd.swp (by omega) (by omega))
theorem V8 (hc : Bh cmp lt P) {b i2 : Nat} {j1 : Int} : ∀ (n j : Nat) (d : Array Aa), b - j = n -> 1 <= j -> b <= d.size -> Az P d ->
  Az P (shiftUp lt b j d) /\ (shiftUp lt b j d).size = d.size /\ Ch (fun q' => Ab.l6 (b : Int) cmp j1 (i2 : Int) q'.1 q'.2) ((j : Int), d.toList) = some (.next ((i2 : Int), W (j1 + 1), (shiftUp lt b j d).toList)) := by
 intro n
 induction n with
 | zero =>
  intro j d hn h1 hb hd
  rw [shiftUp, if_neg (by omega)]
  refine ⟨hd, rfl, Ed ?_⟩
  show Ab.l6 (b : Int) cmp j1 (i2 : Int) (j : Int) d.toList = _
  unfold Ab.l6
  rw [decide_eq_false (by omega), cond_false]
  rfl
 | succ n ih =>
  intro j d hn h1 hb hd
  have hsz := hd.1
  rw [shiftUp, if_pos (by omega)]
  obtain ⟨m, m1, m2⟩ := F2 hc hd (i := j) (j := j - 1) (by omega) (by omega)
  have hbody : Ab.l6 (b : Int) cmp j1 (i2 : Int) (j : Int) d.toList = bif lt d[j]! d[j - 1]! then some (.next (((j + 1 : Nat) : Int), (Sort.swp d j (j - 1)).toList)) else up (some (.next ((i2 : Int), W (j1 + 1), d.toList))) := by
   obtain ⟨y, hy⟩ := Hf (d := d) (x := d[j - 1]!) (j := ((j : Int)).toNat) (i := j - 1) (by omega) rfl
   unfold Ab.l6
   rw [decide_eq_true (by omega), cond_true, Wm (by omega) (by omega), Cc (i := j) (by omega) rfl, Option.bind_some, Cc (i := j - 1) (by omega) rfl, Option.bind_some, m1, Option.bind_some, m2, hy, Option.bind_some, Wp (by omega), Int.toNat_natCast, Int.toNat_natCast, Hj]
   cases lt d[j]! d[j - 1]! <;> rfl
  cases hl : lt d[j]! d[j - 1]! with
  | false =>
   rw [hl] at hbody
   rw [if_pos (by rfl)]
   exact ⟨hd, rfl, Ed hbody⟩
  | true =>
   rw [hl] at hbody
   rw [if_neg (by simp)]
   obtain ⟨q1, q2, q3⟩ := ih (j + 1) (Sort.swp d j (j - 1)) (by omega) (by omega) (by rw [Bp]; exact hb) (hd.swp (by omega) (by omega))
   exact ⟨q1, by rw [q2, Bp], (Ey hbody).trans q3⟩
theorem Wc (hc : Bh cmp lt P) {b i2 : Nat} {j1 : Int} {d : Array Aa} (h1 : 1 <= i2) (h2 : i2 < b) (hb : b <= d.size) (hd : Az P d) :
  Az P (if b - i2 >= 2 then shiftUp lt b (i2 + 1) d else d) /\ (if b - i2 >= 2 then shiftUp lt b (i2 + 1) d else d).size = d.size /\ Ab.j5 (b : Int) cmp j1 (i2 : Int) d.toList = some (.next ((i2 : Int), W (j1 + 1), (if b - i2 >= 2 then shiftUp lt b (i2 + 1) d else d).toList)) := by
 have hsz := hd.1
 unfold Ab.j5
 rw [Wd (by omega) (by omega)]
 by_cases h : b - i2 >= 2
 ·rw [decide_eq_true (by omega), cond_true, if_pos h, Wp (by omega)]
  exact V8 hc _ (i2 + 1) d rfl (by omega) hb hd
 ·rw [decide_eq_false (by omega), cond_false, if_neg h]
  exact ⟨hd, rfl, rfl⟩
theorem P3 (hc : Bh cmp lt P) {b i2 : Nat} {j1 : Int} : ∀ (j : Nat) (d : Array Aa), j < d.size -> Az P d ->
  Az P (shiftDown lt j d) /\ (shiftDown lt j d).size = d.size /\ Ch (fun q' => Ab.l4 (b : Int) cmp j1 (i2 : Int) q'.1 q'.2) ((j : Int), d.toList) = Ab.j5 (b : Int) cmp j1 (i2 : Int) (shiftDown lt j d).toList
 | 0, d, hj, hd => by
  refine ⟨hd, rfl, Ed ?_⟩
  show Ab.l4 (b : Int) cmp j1 (i2 : Int) ((0 : Nat) : Int) d.toList = _
  unfold Ab.l4
  rw [decide_eq_false (by omega), cond_false]
  rfl
 | j + 1, d, hj, hd => by
  have hsz := hd.1
  unfold shiftDown
  obtain ⟨m, m1, m2⟩ := F2 hc hd (i := j + 1) (j := j) (by omega) (by omega)
  have hbody : Ab.l4 (b : Int) cmp j1 (i2 : Int) ((j + 1 : Nat) : Int) d.toList = bif lt d[j + 1]! d[j]! then some (.next ((j : Int), (Sort.swp d (j + 1) j).toList)) else up (Ab.j5 (b : Int) cmp j1 (i2 : Int) d.toList) := by
   obtain ⟨y, hy⟩ := Hf (d := d) (x := d[j]!) (j := (((j + 1 : Nat) : Int)).toNat) (i := j) (by omega) rfl
   unfold Ab.l4
   have e : W (((j + 1 : Nat) : Int) - 1) = (j : Int) := Wm (n := j + 1) (by omega) (by omega)
   rw [decide_eq_true (by omega), cond_true, e, Cc (i := j + 1) (by omega) rfl, Option.bind_some, Cc (i := j) (by omega) rfl, Option.bind_some, m1, Option.bind_some, m2, hy, Option.bind_some, Int.toNat_natCast, Int.toNat_natCast, Hj]
   cases lt d[j + 1]! d[j]! <;> rfl
  cases hl : lt d[j + 1]! d[j]! with
  | false =>
   rw [hl] at hbody
   rw [if_pos (by rfl)]
   exact ⟨hd, rfl, Ed hbody⟩
  | true =>
   rw [hl] at hbody
   rw [if_neg (by simp)]
   obtain ⟨q1, q2, q3⟩ := P3 hc j (Sort.swp d (j + 1) j) (by rw [Bp]; omega) (hd.swp (by omega) (by omega))
   exact ⟨q1, by rw [q2, Bp], (Ey hbody).trans q3⟩
theorem Oa (hc : Bh cmp lt P) {a b : Nat} : ∀ (s i : Nat) (d : Array Aa), s <= 5 -> a < i -> i <= b -> b <= d.size -> Az P d ->
  Ch (fun q' => Ab.l1 (a : Int) (b : Int) cmp q'.1 q'.2.1 q'.2.2) ((i : Int), ((5 - s : Nat) : Int), d.toList) = some ((partialIns lt a b s i d).2, (partialIns lt a b s i d).1.toList)
 | 0, i, d, hs, ha, hi, hb, hd => by
  refine Ed ?_
  show Ab.l1 (a : Int) (b : Int) cmp (i : Int) ((5 - 0 : Nat) : Int) d.toList = _
  unfold Ab.l1
  rw [decide_eq_false (by omega), cond_false]
  rfl
 | s + 1, i, d, hs, ha, hi, hb, hd => by
  have hsz := hd.1
  have hle := Yr lt d b _ i rfl hi
  have hbody : Ab.l1 (a : Int) (b : Int) cmp (i : Int) ((5 - (s + 1) : Nat) : Int) d.toList =
    (fun i' : Nat => if i' = b then up (some (true, d.toList)) else if b - a < 50 then up (some (false, d.toList)) else
     bif decide (i' - a >= 2) then Ch (fun q' => Ab.l4 (b : Int) cmp ((5 - (s + 1) : Nat) : Int) (i' : Int) q'.1 q'.2) (((i' - 1 : Nat) : Int), (Sort.swp d i' (i' - 1)).toList)
     else Ab.j5 (b : Int) cmp ((5 - (s + 1) : Nat) : Int) (i' : Int) (Sort.swp d i' (i' - 1)).toList) (scanSorted lt d b i) := by
   unfold Ab.l1
   rw [decide_eq_true (by omega), cond_true]
   refine xF (lt := lt) (D := d) (i0 := i) (b := b) (J := fun i x => Ab.j3 (a : Int) (b : Int) cmp ((5 - (s + 1) : Nat) : Int) d.toList (i : Int) x) (K := fun i' : Nat => if i' = b then up (some (true, d.toList)) else if b - a < 50 then up (some (false, d.toList)) else
     bif decide (i' - a >= 2) then Ch (fun q' => Ab.l4 (b : Int) cmp ((5 - (s + 1) : Nat) : Int) (i' : Int) q'.1 q'.2) (((i' - 1 : Nat) : Int), (Sort.swp d i' (i' - 1)).toList)
     else Ab.j5 (b : Int) cmp ((5 - (s + 1) : Nat) : Int) (i' : Int) (Sort.swp d i' (i' - 1)).toList) (by omega) (fun i' h1 h2 => ?_) (fun i' => rfl) (fun i' h1 h2 => ?_) _ i rfl (Nat.le_refl _) hi
   ·unfold Ab.l2
    by_cases h : i' < b
    ·rw [decide_eq_true (by omega), cond_true, decide_eq_true h, Bool.true_and, Wm (by omega) (by omega)]
     exact Gl hc hd (i := i') (j := i' - 1) (by omega) (by omega) rfl rfl (F := fun x => Ab.j3 (a : Int) (b : Int) cmp ((5 - (s + 1) : Nat) : Int) d.toList (i' : Int) (!x))
    ·rw [decide_eq_false (by omega), cond_false, decide_eq_false h, Bool.false_and]
   ·unfold Ab.j3
    rw [cond_false]
    congr 1
    by_cases e : i' = b
    ·rw [decide_eq_true (by omega), cond_true, if_pos e]
    ·rw [decide_eq_false (by omega), cond_false, if_neg e, Wd (by omega) (by omega)]
     by_cases h50 : b - a < 50
     ·rw [decide_eq_true (by omega), cond_true, if_pos h50]
     ·rw [decide_eq_false (by omega), cond_false, if_neg h50, Wm (by omega) (by omega), Wd (by omega) (by omega)]
      have e2 : decide ((2 : Int) <= ((i' - a : Nat) : Int)) = decide (i' - a >= 2) := decide_eq_decide.2 (by omega)
      rw [e2]
      exact Et (i := i') (j := i' - 1) (by omega) (by omega) rfl rfl (fun l => cond (decide (i' - a >= 2)) (Ch (fun q' => Ab.l4 (b : Int) cmp ((5 - (s + 1) : Nat) : Int) (i' : Int) q'.1 q'.2) (((i' - 1 : Nat) : Int), l)) (Ab.j5 (b : Int) cmp ((5 - (s + 1) : Nat) : Int) (i' : Int) l))
  rw [partialIns_succ]
  generalize scanSorted lt d b i = i2 at hbody hle ⊢
  by_cases e : i2 = b
  ·rw [if_pos e]
   exact Ed (hbody.trans (if_pos e))
  ·rw [if_neg e]
   by_cases h50 : b - a < 50
   ·rw [if_pos h50]
    exact Ed (hbody.trans ((if_neg e).trans (if_pos h50)))
   ·rw [if_neg h50]
    have hb2 := hbody.trans ((if_neg e).trans (if_neg h50))
    unfold fixDown fixUp
    have hd1 : Az P (Sort.swp d i2 (i2 - 1)) := hd.swp (by omega) (by omega)
    have hz1 := Bp d i2 (i2 - 1)
    generalize Sort.swp d i2 (i2 - 1) = d1 at hb2 hd1 hz1 ⊢
    have e5 : W (((5 - (s + 1) : Nat) : Int) + 1) = ((5 - s : Nat) : Int) := by
     rw [Wp (by omega)]
     omega
    have main : ∀ d2 : Array Aa, d2.size = d1.size -> Az P d2 -> Ab.l1 (a : Int) (b : Int) cmp (i : Int) ((5 - (s + 1) : Nat) : Int) d.toList = Ab.j5 (b : Int) cmp ((5 - (s + 1) : Nat) : Int) (i2 : Int) d2.toList ->
      Ch (fun q' => Ab.l1 (a : Int) (b : Int) cmp q'.1 q'.2.1 q'.2.2) ((i : Int), ((5 - (s + 1) : Nat) : Int), d.toList) = some ((partialIns lt a b s i2 (if b - i2 >= 2 then shiftUp lt b (i2 + 1) d2 else d2)).2, (partialIns lt a b s i2 (if b - i2 >= 2 then shiftUp lt b (i2 + 1) d2 else d2)).1.toList) := fun d2 hz2 hd2 hl => by
     obtain ⟨q1, q2, q3⟩ := Wc hc (b := b) (i2 := i2) (j1 := ((5 - (s + 1) : Nat) : Int)) (d := d2) (by omega) (by omega) (by omega) hd2
     rw [e5] at q3
     exact (Ey (hl.trans q3)).trans (Oa hc s i2 _ (by omega) (by omega) (by omega) (by omega) q1)
    by_cases h2 : i2 - a >= 2
    ·rw [if_pos h2]
     rw [decide_eq_true h2, cond_true] at hb2
     obtain ⟨q1, q2, q3⟩ := P3 hc (b := b) (i2 := i2) (j1 := ((5 - (s + 1) : Nat) : Int)) (i2 - 1) d1 (by omega) hd1
     exact main _ q2 q1 (hb2.trans q3)
    ·rw [if_neg h2]
     rw [decide_eq_false h2, cond_false] at hb2
     exact main _ rfl hd1 hb2
theorem Sa (hc : Bh cmp lt P) {a b : Nat} {d : Array Aa} (hab : a < b) (hb : b <= d.size) (hd : Az P d) :
  Ab d.toList (a : Int) (b : Int) cmp = some ((partialInsertionSort lt d a b).2, (partialInsertionSort lt d a b).1.toList) := by
 have hsz := hd.1
 unfold Ab partialInsertionSort
 rw [Wp (by omega)]
 exact Oa hc 5 (a + 1) d (by omega) (by omega) (by omega) hb hd
end
end
section
open Go Go.Sort
section
variable {cmp : Aa -> Aa -> Option Int} {lt : Aa -> Aa -> Bool} {P : Aa -> Prop}
theorem Az.perm {d d' : Array Aa} {a b : Nat} (h : Az P d) (hb : b <= d.size) (hp : PermIn a b d d') : Az P d' := by
 refine ⟨by rw [hp.1]; exact h.1, fun i hi => ?_⟩
 rw [hp.1] at hi
 by_cases hr : a <= i /\ i < b
 ·exact permIn_all d d' a b P hb hp (fun k _ hk => h.2 k (by omega)) i hr.1 hr.2
 ·rw [hp.2.1 i (by omega)]
  exact h.2 i hi
theorem Wb : ∀ (n i j : Nat) (d : Array Aa), j - i <= n -> j < d.size -> d.size <= 1000000000 ->
  Ch (fun q' => Be.l1 q'.1 q'.2.1 q'.2.2) ((i : Int), (j : Int), d.toList) = some (reverseLoop i j d).toList := by
 intro n
 induction n with
 | zero =>
  intro i j d hn hj hs
  rw [reverseLoop, if_neg (by omega)]
  refine Ed ?_
  show Be.l1 (i : Int) (j : Int) d.toList = _
  unfold Be.l1
  rw [decide_eq_false (by omega), cond_false]
 | succ n ih =>
  intro i j d hn hj hs
  rw [reverseLoop]
  by_cases h : i < j
  ·rw [if_pos h]
   have hb : Be.l1 (i : Int) (j : Int) d.toList = some (.next (((i + 1 : Nat) : Int), ((j - 1 : Nat) : Int), (Sort.swp d i j).toList)) := by
    unfold Be.l1
    rw [decide_eq_true (by omega), cond_true, Wp (by omega), Wm (by omega) (by omega)]
    exact Et (i := i) (j := j) (by omega) (by omega) rfl rfl (fun l => some (Lp.next (((i + 1 : Nat) : Int), ((j - 1 : Nat) : Int), l)))
   exact (Ey hb).trans (ih (i + 1) (j - 1) _ (by omega) (by rw [Bp]; omega) (by rw [Bp]; exact hs))
  ·rw [if_neg h]
   refine Ed ?_
   show Be.l1 (i : Int) (j : Int) d.toList = _
   unfold Be.l1
   rw [decide_eq_false (by omega), cond_false]
theorem R6 {a b : Nat} {d : Array Aa} (hab : a < b) (hb : b <= d.size) (hs : d.size <= 1000000000) : Be d.toList (a : Int) (b : Int) cmp = some (reverseRange d a b).toList := by
 unfold Be reverseRange
 rw [Wm (by omega) (by omega)]
 exact Wb _ a (b - 1) d (Nat.le_refl _) (by omega) hs
theorem M6 {a Dr o : Nat} {d : Array Aa} {z : Int × Int} (hi : Dr < d.size) (ho : a + o < d.size) (hs : d.size <= 1000000000) :
  Au.j2 (a : Int) (Dr : Int) d.toList z (o : Int) = some (.next (((Dr + 1 : Nat) : Int), (Sort.swp d Dr (a + o)).toList, z.2)) := by
 unfold Au.j2
 have e : W ((a : Int) + (o : Int)) = ((a + o : Nat) : Int) := by rw [Eh (by omega)]; omega
 rw [e, Wp (by omega)]
 exact Et (i := Dr) (j := a + o) hi ho rfl rfl (fun l => some (Lp.next (((Dr + 1 : Nat) : Int), l, z.2)))
theorem Sz {a b y : Nat} (hab : a < b) (h8 : 8 <= b - a) (hy1 : b - a < y) (hy2 : y <= 2 * (b - a)) : ∀ (k Dr : Nat) (d : Array Aa) (r : Int), Dr + k = a + (b - a) / 4 * 2 + 2 -> a <= Dr -> b <= d.size -> d.size < 65536 ->
  ∃ d', Ch (fun q' => Au.l1 (a : Int) (b : Int) (y : Int) q'.1 q'.2.1 q'.2.2) ((Dr : Int), d.toList, r) = some d'.toList /\ PermIn a b d d' := by
 intro k
 induction k with
 | zero =>
  intro Dr d r hk hi hb hs
  refine ⟨d, Ed ?_, permIn_refl d a b⟩
  show Au.l1 (a : Int) (b : Int) (y : Int) (Dr : Int) d.toList r = _
  unfold Au.l1
  rw [Wd (by omega) (by omega), tX (by omega), Option.bind_some, Wq2 (by omega) (by omega), Wp (by omega), decide_eq_false (by omega), cond_false]
 | succ k ih =>
  intro Dr d r hk hi hb hs
  obtain ⟨z, hz⟩ := yR r
  obtain ⟨m, m1, m2⟩ := wL z.1 (y - 1) (by omega)
  have e3 : ((y : Int) - 1) = ((y - 1 : Nat) : Int) := by omega
  have hbody : ∃ o : Nat, o < b - a /\ Au.l1 (a : Int) (b : Int) (y : Int) (Dr : Int) d.toList r = some (.next (((Dr + 1 : Nat) : Int), (Sort.swp d Dr (a + o)).toList, z.2)) := by
   unfold Au.l1
   rw [Wd (m := b) (n := a) (by omega) (by omega), tX (by omega), Option.bind_some, Wq2 (by omega) (by omega), Wp (by omega), decide_eq_true (by omega), cond_true, hz, Option.bind_some, e3, m2]
   clear m2
   by_cases h : b - a <= m
   ·refine ⟨m - (b - a), by omega, ?_⟩
    rw [decide_eq_true (by omega), cond_true, Wd (by omega) h]
    exact M6 (by omega) (by omega) (by omega)
   ·refine ⟨m, by omega, ?_⟩
    rw [decide_eq_false (by omega), cond_false]
    exact M6 (by omega) (by omega) (by omega)
  obtain ⟨o, ho, hbd⟩ := hbody
  obtain ⟨d', h1, h2⟩ := ih (Dr + 1) (Sort.swp d Dr (a + o)) z.2 (by omega) (by omega) (by rw [Bp]; exact hb) (by rw [Bp]; exact hs)
  exact ⟨d', (Ey hbd).trans h1, permIn_trans _ _ _ a b (swp_permIn d a b Dr (a + o) (by omega) (by omega) (by omega) (by omega) hb) h2⟩
theorem T1 {a b : Nat} {d : Array Aa} (hab : a < b) (hb : b <= d.size) (hs : d.size < 65536) : ∃ d', Au d.toList (a : Int) (b : Int) cmp = some d'.toList /\ PermIn a b d d' := by
 unfold Au
 rw [Wd (by omega) (by omega)]
 by_cases h8 : 8 <= b - a
 ·obtain ⟨y, y1, y2, y3⟩ := tS (b - a) (by omega) (by omega)
  rw [decide_eq_true (by omega), cond_true, y3, Option.bind_some, tX (by omega), Option.bind_some, Wq2 (by omega) (by omega), Wm (by omega) (by omega)]
  exact Sz hab h8 y1 y2 3 (a + (b - a) / 4 * 2 - 1) d _ (by omega) (by omega) hb hs
 ·rw [decide_eq_false (by omega), cond_false]
  exact ⟨d, rfl, permIn_refl d a b⟩
theorem Kx (hc : Bh cmp lt P) {d : Array Aa} (hd : Az P d) {x y : Nat} (hx : x < d.size) (hy : y < d.size) (s : Int) :
  ∃ (x' y' : Nat) (s' : Int), Co d.toList (x : Int) (y : Int) s cmp = some ((x' : Int), (y' : Int), s') /\ (x' = x /\ y' = y \/ x' = y /\ y' = x) := by
 obtain ⟨m, m1, m2⟩ := F2 hc hd (i := y) (j := x) hy hx
 unfold Co
 rw [Cc (i := y) hy rfl, Option.bind_some, Cc (i := x) hx rfl, Option.bind_some, m1, Option.bind_some]
 cases decide (m < 0) with
 | true => exact ⟨y, x, _, rfl, Or.inr ⟨rfl, rfl⟩⟩
 | false => exact ⟨x, y, _, rfl, Or.inl ⟨rfl, rfl⟩⟩
theorem Pz (hc : Bh cmp lt P) {d : Array Aa} (hd : Az P d) {x y z : Nat} (hx : x < d.size) (hy : y < d.size) (hz : z < d.size) (s : Int) :
  ∃ (x' : Nat) (s' : Int), C0 d.toList (x : Int) (y : Int) (z : Int) s cmp = some ((x' : Int), s') /\ (x' = x \/ x' = y \/ x' = z) := by
 obtain ⟨p1, p2, s1, h1, k1⟩ := Kx hc hd hx hy s
 unfold C0
 rw [h1, Option.bind_some]
 obtain ⟨q1, q2, s2, h2, k2⟩ := Kx hc hd (x := p2) (y := z) (by omega) hz s1
 simp only []
 rw [h2, Option.bind_some]
 obtain ⟨r1, r2, s3, h3, k3⟩ := Kx hc hd (x := p1) (y := q1) (by omega) (by omega) s2
 simp only []
 rw [h3, Option.bind_some]
 exact ⟨r2, s3, rfl, by omega⟩
theorem Kv (hc : Bh cmp lt P) {d : Array Aa} (hd : Az P d) {x : Nat} (h0 : 0 < x) (hx : x + 1 < d.size) (s : Int) :
  ∃ (x' : Nat) (s' : Int), B7 d.toList (x : Int) s cmp = some ((x' : Int), s') /\ (x' = x - 1 \/ x' = x \/ x' = x + 1) := by
 have hsz := hd.1
 obtain ⟨p, s1, h1, k1⟩ := Pz hc hd (x := x - 1) (y := x) (z := x + 1) (by omega) (by omega) hx s
 unfold B7
 rw [Wm (by omega) h0, Wp (by omega), h1, Option.bind_some]
 exact ⟨p, s1, rfl, k1⟩
theorem Uf (p : Nat) (s : Int) : ∃ h : Int, Ax.j2 (p : Int) s = some ((p : Int), h) := by
 unfold Ax.j2
 cases decide (s = 0) with
 | true => exact ⟨_, rfl⟩
 | false =>
  cases decide (s = 12) with
  | true => exact ⟨_, rfl⟩
  | false => exact ⟨_, rfl⟩
theorem Sq (hc : Bh cmp lt P) {d : Array Aa} (hd : Az P d) {a b : Nat} (h8 : 8 <= b - a) (hb : b <= d.size) :
  ∃ (p : Nat) (h : Int), Ax d.toList (a : Int) (b : Int) cmp = some ((p : Int), h) /\ a <= p /\ p < b := by
 have hsz := hd.1
 have j1 : ∀ (i j k : Nat) (s : Int), a <= i -> i < b -> a <= j -> j < b -> a <= k -> k < b -> ∃ (p : Nat) (h : Int), Ax.j1 d.toList cmp (i : Int) (j : Int) (k : Int) s = some ((p : Int), h) /\ a <= p /\ p < b := fun i j k s h1 h2 h3 h4 h5 h6 => by
  obtain ⟨p, s1, k1, k2⟩ := Pz hc hd (x := i) (y := j) (z := k) (by omega) (by omega) (by omega) s
  unfold Ax.j1
  rw [k1, Option.bind_some]
  obtain ⟨h, hh⟩ := Uf p s1
  exact ⟨p, h, hh, by omega, by omega⟩
 unfold Ax
 rw [Wd (by omega) (by omega), tX (by omega), Option.bind_some, Option.bind_some, Option.bind_some, decide_eq_true (by omega), cond_true]
 generalize hq : (b - a) / 4 = q
 rw [Wq1 (by omega) (by omega), Wq2 (by omega) (by omega), Wq3 (by omega) (by omega)]
 by_cases h50 : 50 <= b - a
 ·rw [decide_eq_true (by omega), cond_true]
  obtain ⟨x1, s1, g1, k1⟩ := Kv hc hd (x := a + q) (by omega) (by omega) 0
  rw [g1, Option.bind_some]
  obtain ⟨x2, s2, g2, k2⟩ := Kv hc hd (x := a + q * 2) (by omega) (by omega) s1
  simp only []
  rw [g2, Option.bind_some]
  obtain ⟨x3, s3, g3, k3⟩ := Kv hc hd (x := a + q * 3) (by omega) (by omega) s2
  simp only []
  rw [g3, Option.bind_some]
  exact j1 x1 x2 x3 s3 (by omega) (by omega) (by omega) (by omega) (by omega) (by omega)
 ·rw [decide_eq_false (by omega), cond_false]
  exact j1 (a + q) (a + q * 2) (a + q * 3) 0 (by omega) (by omega) (by omega) (by omega) (by omega) (by omega)
end
end
section
open Go Go.Sort
section
variable {cmp : Aa -> Aa -> Option Int} {lt : Aa -> Aa -> Bool} {P : Aa -> Prop}
def Oj (lt : Aa -> Aa -> Bool) (P : Aa -> Prop) (T0 : Array Aa -> Prop) (s : Int × Int × Int × Bool × Bool × List Aa) : Prop :=
 ∃ (d : Array Aa) (a b : Nat), s.1 = (a : Int) /\ s.2.1 = (b : Int) /\ s.2.2.2.2.2 = d.toList /\ a <= b /\ b <= d.size /\ d.size < 65536 /\ Az P d /\ Below lt a b d /\ ∀ R, PermIn a b d R -> SortedIn lt a b R -> T0 R
def Gq (lt : Aa -> Aa -> Bool) (P : Aa -> Prop) (rec : List Aa -> Int -> Int -> Int -> Option (List Aa)) (n : Nat) : Prop :=
 ∀ (d : Array Aa) (a b : Nat) (lim : Int), a <= b -> b <= d.size -> d.size < 65536 -> Az P d -> Below lt a b d -> b - a < n -> Ok (rec d.toList (a : Int) (b : Int) lim) (fun r => ∃ d', r = d'.toList /\ PermIn a b d d' /\ SortedIn lt a b d')
abbrev If (lt : Aa -> Aa -> Bool) (P : Aa -> Prop) (T0 : Array Aa -> Prop) (n : Nat) : Lp (Int × Int × Int × Bool × Bool × List Aa) (List Aa) -> Prop :=
 uT (fun s => Oj lt P T0 s /\ (s.2.1 - s.1).toNat < n) (fun r => ∃ d', r = d'.toList /\ T0 d')
variable {T0 : Array Aa -> Prop} {rec : List Aa -> Int -> Int -> Int -> Option (List Aa)}
theorem No (hS : SWO lt) (hc : Bh cmp lt P) {a b pivot : Nat} {d : Array Aa} {wb wp : Bool} {lim : Int} {x : Bool} (hr : Gq lt P rec (b - a)) (hab : a < b) (hp1 : a <= pivot) (hp2 : pivot < b) (hb : b <= d.size) (hs : d.size < 65536) (hd : Az P d) (hB : Below lt a b d) (hF : ∀ R, PermIn a b d R -> SortedIn lt a b R -> T0 R) (hx : x = true -> 0 < a /\ lt d[a - 1]! d[pivot]! = false) :
  Ok (Af.j6 rec cmp (a : Int) (b : Int) wb wp lim (pivot : Int) d.toList x) (If lt P T0 (b - a)) := by
 unfold Af.j6
 refine Ok.cond (fun hxt => ?_) (fun _ => ?_)
 ·obtain ⟨h0, h1⟩ := hx hxt
  rw [V7 hc hab hp1 hp2 hb hd, Option.bind_some]
  obtain ⟨g1, g2, g3, g4, g5⟩ := round_eq (d4 := (partitionEqual lt d a b pivot).2) (mid := (partitionEqual lt d a b pivot).1) hS (partitionEqual_holds lt) h0 hp1 hp2 hb hB h1 rfl
  have hge : ∀ i, a <= i -> i < b -> lt d[i]! d[pivot]! = false := fun i hi hi' => by
   rcases hB with h0 | hB
   ·omega
   ·exact hS.ntrans _ _ _ (hB i hi hi') h1
  have hpm := (partitionEqual_holds lt hS d a b pivot hp1 hp2 hb hge).2.2.1
  generalize (partitionEqual lt d a b pivot).2 = d4 at g3 g4 g5 hpm ⊢
  generalize (partitionEqual lt d a b pivot).1 = mid at g1 g2 g4 g5 ⊢
  refine Ok.ret ⟨⟨d4, mid, b, rfl, rfl, rfl, g2, by omega, by omega, hd.perm hb hpm, g4, fun R h2 h3 => ?_⟩, ?_⟩
  ·obtain ⟨k1, k2⟩ := g5 R h2 h3
   exact hF R k1 k2
  ·show (((b : Int)) - (mid : Int)).toNat < b - a
   omega
 ·rw [U1 hc hab hp1 hp2 hb hd, Option.bind_some]
  obtain ⟨g1, g2, g3, g4, g5, g6, g7⟩ := round_part (d4 := (partition lt d a b pivot).2.2) (mid := (partition lt d a b pivot).1) (ap := (partition lt d a b pivot).2.1) hS (partition_holds lt) hp1 hp2 hb hB rfl
  have hpm := (partition_holds lt hS d a b pivot hp1 hp2 hb).2.2.1
  generalize (partition lt d a b pivot).2.2 = d4 at g3 g4 g5 g6 g7 hpm ⊢
  generalize (partition lt d a b pivot).2.1 = ap
  generalize (partition lt d a b pivot).1 = mid at g1 g2 g4 g5 g6 g7 ⊢
  have hd4 := hd.perm hb hpm
  simp only []
  rw [Wd (m := b) (n := a) (by omega) (by omega), aCe (by omega), Option.bind_some, Wd (m := mid) (n := a) (by omega) (by omega), Wd (m := b) (n := mid) (by omega) (by omega), Wp (by omega)]
  refine Ok.cond (fun hm => ?_) (fun hm => ?_)
  ·have hm' := of_decide_eq_true hm
   refine Ok.bind (hr d4 a mid lim g1 (by omega) (by omega) hd4 g4 (by omega)) (fun r hr' => ?_)
   obtain ⟨L, rfl, l1, l2⟩ := hr'
   obtain ⟨k1, k2⟩ := g6 L l1 l2
   have hz := l1.1
   refine Ok.ret ⟨⟨L, mid + 1, b, rfl, rfl, rfl, by omega, by omega, by omega, hd4.perm (by omega) l1, k1, fun R h2 h3 => ?_⟩, ?_⟩
   ·obtain ⟨m1, m2⟩ := k2 R h2 h3
    exact hF R m1 m2
   ·show (((b : Int)) - ((mid + 1 : Nat) : Int)).toNat < b - a
    omega
  ·have hm' := of_decide_eq_false hm
   refine Ok.bind (hr d4 (mid + 1) b lim (by omega) (by omega) (by omega) hd4 g5 (by omega)) (fun r hr' => ?_)
   obtain ⟨L, rfl, l1, l2⟩ := hr'
   obtain ⟨k1, k2⟩ := g7 L l1 l2
   have hz := l1.1
   refine Ok.ret ⟨⟨L, a, mid, rfl, rfl, rfl, by omega, by omega, by omega, hd4.perm (by omega) l1, k1, fun R h2 h3 => ?_⟩, ?_⟩
   ·obtain ⟨m1, m2⟩ := k2 R h2 h3
    exact hF R m1 m2
   ·show (((mid : Int)) - (a : Int)).toNat < b - a
    omega
theorem Nh (hS : SWO lt) (hc : Bh cmp lt P) {a b pivot : Nat} {d : Array Aa} {wb wp : Bool} {lim : Int} (hr : Gq lt P rec (b - a)) (hab : a < b) (hp1 : a <= pivot) (hp2 : pivot < b) (hb : b <= d.size) (hs : d.size < 65536) (hd : Az P d) (hB : Below lt a b d) (hF : ∀ R, PermIn a b d R -> SortedIn lt a b R -> T0 R) :
  Ok (Af.j5 rec cmp (a : Int) (b : Int) wb wp lim (pivot : Int) d.toList) (If lt P T0 (b - a)) := by
 unfold Af.j5
 refine Ok.cond (fun ha => ?_) (fun _ => No hS hc hr hab hp1 hp2 hb hs hd hB hF (fun h => by cases h))
 have ha' := of_decide_eq_true ha
 rw [Wm (by omega) (by omega)]
 obtain ⟨n, n1, n2⟩ := F2 hc hd (i := a - 1) (j := pivot) (by omega) (by omega)
 rw [Cc (i := a - 1) (by omega) rfl, Option.bind_some, Cc (i := pivot) (by omega) rfl, Option.bind_some, n1, Option.bind_some, n2]
 refine No hS hc hr hab hp1 hp2 hb hs hd hB hF (fun h => ⟨by omega, ?_⟩)
 cases hl : lt d[a - 1]! d[pivot]! with
 | false => rfl
 | true => rw [hl] at h; cases h
theorem Jy (hS : SWO lt) (hc : Bh cmp lt P) {a b pivot : Nat} {d : Array Aa} {wb wp : Bool} {lim : Int} {x : Bool} (hr : Gq lt P rec (b - a)) (hab : a < b) (hp1 : a <= pivot) (hp2 : pivot < b) (hb : b <= d.size) (hs : d.size < 65536) (hd : Az P d) (hB : Below lt a b d) (hF : ∀ R, PermIn a b d R -> SortedIn lt a b R -> T0 R) :
  Ok (Af.j4 rec cmp (a : Int) (b : Int) wb wp lim (pivot : Int) d.toList x) (If lt P T0 (b - a)) := by
 unfold Af.j4
 refine Ok.cond (fun _ => ?_) (fun _ => Nh hS hc hr hab hp1 hp2 hb hs hd hB hF)
 rw [Sa hc hab hb hd, Option.bind_some]
 obtain ⟨k1, k2⟩ := partialInsertionSort_holds hS d a b hab hb hB
 generalize partialInsertionSort lt d a b = pi at k1 k2 ⊢
 have hz : pi.1.size = d.size := k1.1
 have hb' : b <= pi.1.size := by omega
 have hs' : pi.1.size < 65536 := by omega
 refine Ok.cond (fun h => ?_) (fun _ => Nh (d := pi.1) hS hc hr hab hp1 hp2 hb' hs' (hd.perm hb k1) (hB.perm hb k1) (fun R h2 h3 => hF R (permIn_trans _ _ _ a b k1 h2) h3))
 exact Ok.up (Ok.ret ⟨_, rfl, hF _ k1 (k2 h)⟩)
theorem Mz (hS : SWO lt) (hc : Bh cmp lt P) {a b pivot : Nat} {d : Array Aa} {wb wp : Bool} {lim hint : Int} (hr : Gq lt P rec (b - a)) (hab : a < b) (hp1 : a <= pivot) (hp2 : pivot < b) (hb : b <= d.size) (hs : d.size < 65536) (hd : Az P d) (hB : Below lt a b d) (hF : ∀ R, PermIn a b d R -> SortedIn lt a b R -> T0 R) :
  Ok (Af.j3 rec cmp (a : Int) (b : Int) wb wp lim (pivot : Int) hint d.toList) (If lt P T0 (b - a)) := by
 unfold Af.j3
 exact Ok.cond (fun _ => Ok.cond (fun _ => Jy hS hc hr hab hp1 hp2 hb hs hd hB hF) (fun _ => Jy hS hc hr hab hp1 hp2 hb hs hd hB hF)) (fun _ => Jy hS hc hr hab hp1 hp2 hb hs hd hB hF)
theorem M0 (hS : SWO lt) (hc : Bh cmp lt P) {a b : Nat} {d : Array Aa} {wb wp : Bool} {lim : Int} (hr : Gq lt P rec (b - a)) (h12 : 12 < b - a) (hb : b <= d.size) (hs : d.size < 65536) (hd : Az P d) (hB : Below lt a b d) (hF : ∀ R, PermIn a b d R -> SortedIn lt a b R -> T0 R) :
  Ok (Af.j2 rec cmp (a : Int) (b : Int) wb wp lim d.toList) (If lt P T0 (b - a)) := by
 obtain ⟨p, h, h1, h2, h3⟩ := Sq hc hd (a := a) (b := b) (by omega) hb
 unfold Af.j2
 rw [h1, Option.bind_some]
 refine Ok.cond (fun _ => ?_) (fun _ => Mz hS hc hr (by omega) h2 h3 hb hs hd hB hF)
 rw [R6 (by omega) hb (by omega), Option.bind_some]
 have k1 := reverseRange_holds d a b (by omega) hb
 generalize reverseRange d a b = d2 at k1 ⊢
 have hz := k1.1
 have e : W (W ((b : Int) - 1) - W ((p : Int) - (a : Int))) = ((b - 1 - (p - a) : Nat) : Int) := by
  rw [Wm (by omega) (by omega), Wd (by omega) (by omega), Wd (by omega) (by omega)]
 simp only []
 rw [e]
 clear e
 exact Mz hS hc hr (by omega) (by omega) (by omega) (by omega) (by omega) (hd.perm hb k1) (hB.perm hb k1) (fun R h2 h3 => hF R (permIn_trans _ _ _ a b k1 h2) h3)
theorem Sp (hS : SWO lt) (hc : Bh cmp lt P) {a b : Nat} {d : Array Aa} {wb wp : Bool} {lim : Int} (hr : Gq lt P rec (b - a)) (hab : a <= b) (hb : b <= d.size) (hs : d.size < 65536) (hd : Az P d) (hB : Below lt a b d) (hF : ∀ R, PermIn a b d R -> SortedIn lt a b R -> T0 R) :
  Ok (Af.l1 rec cmp (a : Int) (b : Int) lim wb wp d.toList) (If lt P T0 (b - a)) := by
 unfold Af.l1
 rw [Wd (by omega) hab]
 refine Ok.cond (fun _ => ?_) (fun h12 => ?_)
 ·rw [Qc hc hab hb hd, Option.bind_some]
  obtain ⟨k1, k2⟩ := insertionSort_holds hS d a b hab hb
  exact Ok.up (Ok.ret ⟨_, rfl, hF _ k1 k2⟩)
 ·have h12' := of_decide_eq_false h12
  refine Ok.cond (fun _ => ?_) (fun _ => ?_)
  ·rw [Un hc (by omega) hb hd, Option.bind_some]
   obtain ⟨k1, k2⟩ := heapSort_holds hS d a b hab hb
   exact Ok.up (Ok.ret ⟨_, rfl, hF _ k1 k2⟩)
  ·refine Ok.cond (fun _ => ?_) (fun _ => M0 hS hc hr (by omega) hb hs hd hB hF)
   obtain ⟨d1, k0, k1⟩ := T1 (cmp := cmp) (a := a) (b := b) (d := d) (by omega) hb hs
   have hz := k1.1
   rw [k0, Option.bind_some]
   exact M0 hS hc hr (by omega) (by omega) (by omega) (hd.perm hb k1) (hB.perm hb k1) (fun R h2 h3 => hF R (permIn_trans _ _ _ a b k1 h2) h3)
theorem V5 (hS : SWO lt) (hc : Bh cmp lt P) {a b : Nat} {d : Array Aa} {lim : Int} (hab : a <= b) (hb : b <= d.size) (hs : d.size < 65536) (hd : Az P d) (hB : Below lt a b d) :
  Ok (Af d.toList (a : Int) (b : Int) lim cmp) (fun r => ∃ d', r = d'.toList /\ PermIn a b d d' /\ SortedIn lt a b d') := by
 unfold Af
 refine (tE (Ji (cmp := cmp)) (fun x => (x.2.2.1 - x.2.1).toNat)
  (fun x => ∃ (d : Array Aa) (a b : Nat), x.1 = d.toList /\ x.2.1 = (a : Int) /\ x.2.2.1 = (b : Int) /\ a <= b /\ b <= d.size /\ d.size < 65536 /\ Az P d /\ Below lt a b d)
  (fun x r => ∀ (d : Array Aa) (a b : Nat), x.1 = d.toList -> x.2.1 = (a : Int) -> x.2.2.1 = (b : Int) -> ∃ d', r = d'.toList /\ PermIn a b d d' /\ SortedIn lt a b d') ?_ _ ⟨d, a, b, rfl, rfl, rfl, hab, hb, hs, hd, hB⟩).mono (fun r hr => hr d a b rfl rfl rfl)
 rintro rec ⟨l, a', b', lim'⟩ ⟨d, a, b, h1, h2, h3, hab, hb, hs, hd, hB⟩ ih
 have h1 : l = d.toList := h1
 have h2 : a' = (a : Int) := h2
 have h3 : b' = (b : Int) := h3
 subst h1 h2 h3
 have hr : Gq lt P (fun data a b limit => rec (data, a, b, limit)) (b - a) := fun d2 a2 b2 lim2 k1 k2 k3 k4 k5 k6 =>
  (ih (d2.toList, (a2 : Int), (b2 : Int), lim2) ⟨d2, a2, b2, rfl, rfl, rfl, k1, k2, k3, k4, k5⟩ (by show (((b2 : Int)) - (a2 : Int)).toNat < (((b : Int)) - (a : Int)).toNat; omega)).mono (fun r hr => hr d2 a2 b2 rfl rfl rfl)
 have main : Ok (Af.F (fun data a b limit => rec (data, a, b, limit)) d.toList (a : Int) (b : Int) lim' cmp) (fun r => ∃ d', r = d'.toList /\ (PermIn a b d d' /\ SortedIn lt a b d')) := by
  unfold Af.F
  refine Ok.loop (fun s => Oj lt P (fun R => PermIn a b d R /\ SortedIn lt a b R) s /\ (s.2.1 - s.1).toNat <= b - a) (fun s => (s.2.1 - s.1).toNat) ?_ ⟨⟨d, a, b, rfl, rfl, rfl, hab, hb, hs, hd, hB, fun R h1 h2 => ⟨h1, h2⟩⟩, ?_⟩
  ·rintro ⟨sa, sb, sl, wb, wp, dl⟩ ⟨⟨d3, a3, b3, e1, e2, e3, k1, k2, k3, k4, k5, k6⟩, hm⟩
   have e1 : sa = (a3 : Int) := e1
   have e2 : sb = (b3 : Int) := e2
   have e3 : dl = d3.toList := e3
   subst e1 e2 e3
   have hm : (((b3 : Int)) - (a3 : Int)).toNat <= b - a := hm
   refine (Sp hS hc (fun d2 a2 b2 lim2 q1 q2 q3 q4 q5 q6 => hr d2 a2 b2 lim2 q1 q2 q3 q4 q5 (by omega)) k1 k2 k3 k4 k5 k6).mono (fun o ho => ?_)
   have em : (((b3 : Int)) - (a3 : Int)).toNat = b3 - a3 := by omega
   cases o with
   | done r => exact ho
   | next s =>
    obtain ⟨ho1, ho2⟩ := ho
    refine ⟨⟨ho1, by omega⟩, ?_⟩
    show (s.2.1 - s.1).toNat < (((b3 : Int)) - (a3 : Int)).toNat
    omega
  ·show (((b : Int)) - (a : Int)).toNat <= b - a
   omega
 refine main.mono (fun r hr d2 a2 b2 e1 e2 e3 => ?_)
 have e1 : d.toList = d2.toList := e1
 have e2 : (a : Int) = (a2 : Int) := e2
 have e3 : (b : Int) = (b2 : Int) := e3
 obtain rfl : d = d2 := Array.toList_inj.1 e1
 obtain rfl : a = a2 := by omega
 obtain rfl : b = b2 := by omega
 exact hr
theorem Ud (hS : SWO lt) (hc : Bh cmp lt P) (l : List Aa) (hl : l.length < 65536) (hP : ∀ x ∈ l, P x) :
  Ok (Dk l cmp) (fun r => r.Perm l /\ r.Pairwise (fun x y => lt y x = false)) := by
 obtain ⟨L, _, _, _, h4⟩ := qH l.length hl
 unfold Dk
 rw [Q9 (by omega), h4, Option.bind_some]
 have hsz : l.toArray.size = l.length := by simp
 have hA : Az P l.toArray := ⟨by omega, fun i hi => by
  rw [getElem!_pos l.toArray i hi]
  exact hP _ (by simp)⟩
 have h := V5 hS hc (a := 0) (b := l.toArray.size) (d := l.toArray) (lim := (L : Int)) (Nat.zero_le _) (Nat.le_refl _) (by omega) hA (Or.inl rfl)
 rw [hsz] at h
 have e : ((0 : Nat) : Int) = 0 := rfl
 rw [e] at h
 refine Ok.bind h (fun r hr => ?_)
 obtain ⟨d', rfl, k1, k2⟩ := hr
 have hz := k1.1
 refine Ok.ret ⟨?_, ?_⟩
 ·have := k1.2.2
  have e1 : d'.extract 0 l.length = d' := by
   rw [<- hsz, <- hz]; exact Array.extract_size
  have e2 : l.toArray.extract 0 l.length = l.toArray := by
   rw [<- hsz]; exact Array.extract_size
  rw [e1, e2] at this
  exact this
 ·rw [List.pairwise_iff_getElem]
  intro i j hi hj hij
  have hi' : i < d'.size := by simpa using hi
  have hj' : j < d'.size := by simpa using hj
  have := k2 i j (Nat.zero_le _) hij (by omega)
  rw [getElem!_pos d' i hi', getElem!_pos d' j hj'] at this
  simpa using this
def Ix : Nat := 65535
theorem Ts (hS : SWO lt) (hc : Bh cmp lt P) (l : List Aa) (hl : l.length <= Ix) (hP : ∀ x ∈ l, P x) :
  Ok (Dk l cmp) (fun r => r.Perm l /\ r.Pairwise (fun x y => lt y x = false)) := Ud hS hc l (by unfold Ix at hl; omega) hP
end
end
end Go.Proofs.YtkoflhimdenjaaaGreat
