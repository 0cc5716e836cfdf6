import Derived.Test.YtfkgbfhpibiheaaL3
import Derived.Test.YtfkgbfhpibiheaaC1
import Derived.Sort.AssemblyPlain
set_option linter.unusedVariables false
set_option linter.unusedSimpArgs false
namespace Go.Proofs.Ytfkgbfhpibiheaa
open Go Go.Sort
section
variable {cmp : Aa -> Aa -> Option Int} {lt : Aa -> Aa -> Bool} {P : Aa -> Prop}
def Bx (cmp : Aa -> Aa -> Option Int) (lt : Aa -> Aa -> Bool) (P : Aa -> Prop) : Prop := ∀ x y, P x -> P y -> ∃ n, cmp x y = some n /\ decide (n < 0) = lt x y
def Bn (P : Aa -> Prop) (d : Array Aa) : Prop := d.size <= 1000000000 /\ ∀ i, i < d.size -> P d[i]!
theorem Cf (d : Array Aa) (i j : Nat) : (swp d i j).size = d.size := by simp [swp]
theorem Bn.swp {d : Array Aa} (h : Bn P d) {i j : Nat} (hi : i < d.size) (hj : j < d.size) : Bn P (Sort.swp d i j) := by
 refine ⟨by rw [Cf]; exact h.1, fun k hk => ?_⟩
 rw [Cf] at hk
 unfold Sort.swp
 by_cases h1 : j = k
 ·subst h1
  rw [zY ((d.setIfInBounds i d[j]!).setIfInBounds j d[i]!) _ (by simpa using hk)]
  simp only [aAr]
  exact h.2 i hi
 ·by_cases h2 : i = k
  ·subst h2
   rw [zY ((d.setIfInBounds i d[j]!).setIfInBounds j d[i]!) _ (by simpa using hk)]
   rw [zV (by simpa using hk) (by omega)]
   simp only [aAr]
   exact h.2 j hj
  ·rw [zY _ _ (by simpa using hk)]
   rw [zV (by simpa using hk) (by omega), zV (by simpa using hk) (by omega)]
   have := h.2 k hk
   rwa [zY d k hk] at this
theorem Dq {d : Array Aa} {i : Nat} (h : i < d.size) {k : Int} (hk : k = (i : Int)) : Bo d.toList k = some d[i]! := by
 subst hk
 rw [Bw, zX, zI h, zY d i h]
theorem Mb (d : Array Aa) (i : Nat) (x : Aa) : Bi d.toList i x = (d.setIfInBounds i x).toList := by
 unfold Bi
 simp
theorem It {d : Array Aa} {i : Nat} {x : Aa} {j : Nat} (h : i < d.size) {k : Int} (hk : k = (i : Int)) : ∃ y, Bo (Bi d.toList j x) k = some y := by
 subst hk
 rw [Bw]
 exact ⟨_, xK (by unfold Bi; simpa using h)⟩
theorem Iu (d : Array Aa) (i j : Nat) : Bi (Bi d.toList i d[j]!) j d[i]! = (Sort.swp d i j).toList := by
 rw [Mb, Mb]
 rfl
theorem Ht (hc : Bx cmp lt P) {d : Array Aa} (h : Bn P d) {i j : Nat} (hi : i < d.size) (hj : j < d.size) : ∃ n, cmp d[i]! d[j]! = some n /\ decide (n < 0) = lt d[i]! d[j]! := hc _ _ (h.2 i hi) (h.2 j hj)
theorem K7 (hc : Bx cmp lt P) {a i1 : Nat} : ∀ (j : Nat) (d : Array Aa), j < d.size -> Bn P d ->
  Bn P (insInner lt a j d) /\ (insInner lt a j d).size = d.size /\ B6 (fun q' => Av.l2 (a : Int) cmp (i1 : Int) q'.1 q'.2) ((j : Int), d.toList) = some (.next (W ((i1 : Int) + 1), (insInner lt a j d).toList))
 | 0, d, hj, hd => by
  refine ⟨hd, rfl, C2 ?_⟩
  show Av.l2 (a : Int) cmp (i1 : Int) ((0 : Nat) : Int) d.toList = _
  unfold Av.l2
  rw [xL (by omega)]
  rfl
 | j + 1, d, hj, hd => by
  have hsz := hd.1
  have hW : W (((j + 1 : Nat) : Int) - 1) = (j : Int) := by rw [Do (by omega)]; omega
  unfold insInner
  by_cases ha : a < j + 1
  ·obtain ⟨n, h1, h2⟩ := Ht hc hd hj (show j < d.size by omega)
   have hbody : ∀ r, Av.j3 (i1 : Int) ((j + 1 : Nat) : Int) d.toList (lt d[j + 1]! d[j]!) = r -> Av.l2 (a : Int) cmp (i1 : Int) ((j + 1 : Nat) : Int) d.toList = r := fun r hr => by
    unfold Av.l2
    rw [xN (by omega), xT, Dq hj rfl, xJ, Dq (i := j) (by omega) hW, xJ, h1, xJ, h2]
    exact hr
   cases hl : lt d[j + 1]! d[j]! with
   | true =>
    obtain ⟨q1, q2, q3⟩ := K7 hc (i1 := i1) (a := a) j (Sort.swp d (j + 1) j) (by rw [Cf]; omega) (hd.swp hj (by omega))
    rw [if_pos (by simp [ha])]
    refine ⟨q1, by rw [q2, Cf], ?_⟩
    have hb' : Av.l2 (a : Int) cmp (i1 : Int) ((j + 1 : Nat) : Int) d.toList = some (.next ((j : Int), (Sort.swp d (j + 1) j).toList)) := by
     refine hbody _ ?_
     rw [hl]
     unfold Av.j3
     obtain ⟨y, hy⟩ := It (d := d) (x := d[j]!) (j := (((j + 1 : Nat) : Int)).toNat) (i := j) (by omega) hW
     rw [xT, Dq (i := j) (by omega) hW, xJ, Dq hj rfl, xJ, hy, xJ, hW]
     have e1 : (((j + 1 : Nat) : Int)).toNat = j + 1 := by omega
     have e2 : ((j : Int)).toNat = j := by omega
     rw [e1, e2, Iu]
    exact (Dh (body := fun q' => Av.l2 (a : Int) cmp (i1 : Int) q'.1 q'.2) (s := (((j + 1 : Nat) : Int), d.toList)) hb').trans q3
   | false =>
    rw [if_neg (by simp)]
    refine ⟨hd, rfl, C2 (hbody _ ?_)⟩
    rw [hl]
    rfl
  ·rw [if_neg (by simp [ha])]
   refine ⟨hd, rfl, C2 ?_⟩
   show Av.l2 (a : Int) cmp (i1 : Int) ((j + 1 : Nat) : Int) d.toList = _
   unfold Av.l2
   rw [xL (by omega)]
   rfl
theorem K1 (hc : Bx cmp lt P) {a b : Nat} : ∀ (n i : Nat) (d : Array Aa), b - i = n -> b <= d.size -> Bn P d ->
  B6 (fun q' => Av.l1 (a : Int) (b : Int) cmp q'.1 q'.2) ((i : Int), d.toList) = some (insOuter lt a b i d).toList
 | 0, i, d, hn, hb, hd => by
  unfold insOuter
  rw [if_neg (by omega)]
  refine C2 (x := some d.toList) ?_
  show Av.l1 (a : Int) (b : Int) cmp (i : Int) d.toList = _
  unfold Av.l1
  rw [xL (by omega)]
  rfl
 | n + 1, i, d, hn, hb, hd => by
  have hsz := hd.1
  unfold insOuter
  rw [if_pos (by omega)]
  obtain ⟨q1, q2, q3⟩ := K7 hc (a := a) (i1 := i) i d (by omega) hd
  rw [Dh (s' := (((i + 1 : Nat) : Int), (insInner lt a i d).toList)) ?_]
  ·exact K1 hc n (i + 1) _ (by omega) (by rw [q2]; exact hb) q1
  ·show Av.l1 (a : Int) (b : Int) cmp (i : Int) d.toList = _
   unfold Av.l1
   rw [xN (by omega), xT, q3, Cl (by omega)]
theorem P4 (hc : Bx cmp lt P) {a b : Nat} {d : Array Aa} (hab : a <= b) (hb : b <= d.size) (hd : Bn P d) : Av d.toList (a : Int) (b : Int) cmp = some (insertionSort lt d a b).toList := by
 have hsz := hd.1
 unfold Av insertionSort
 rw [Cl (by omega)]
 exact K1 hc _ (a + 1) d rfl hb hd
theorem Sq (hc : Bx cmp lt P) {first root c : Nat} {d : Array Aa} (h1 : first + root < d.size) (h2 : first + c < d.size) (hd : Bn P d) :
  Aw.j3 (first : Int) cmp (root : Int) d.toList (c : Int) = some (bif lt d[first + root]! d[first + c]! then .next ((c : Int), (Sort.swp d (first + root) (first + c)).toList) else .done d.toList) := by
 have hsz := hd.1
 have w1 : W ((first : Int) + (root : Int)) = ((first + root : Nat) : Int) := by rw [Do (by omega)]; omega
 have w2 : W ((first : Int) + (c : Int)) = ((first + c : Nat) : Int) := by rw [Do (by omega)]; omega
 obtain ⟨n, n1, n2⟩ := Ht hc hd h1 h2
 unfold Aw.j3
 rw [w1, w2, Dq h1 rfl, xJ, Dq h2 rfl, xJ, n1, xJ, n2]
 cases lt d[first + root]! d[first + c]! with
 | false => rfl
 | true =>
  obtain ⟨y, hy⟩ := It (d := d) (x := d[first + c]!) (j := (((first + root : Nat) : Int)).toNat) h2 rfl
  rw [show (!true) = false from rfl, xP, hy, xJ, xT]
  have e1 : (((first + root : Nat) : Int)).toNat = first + root := by omega
  have e2 : (((first + c : Nat) : Int)).toNat = first + c := by omega
  rw [e1, e2, Iu]
theorem Pu (hc : Bx cmp lt P) {hi first : Nat} : ∀ (n root : Nat) (d : Array Aa), hi - root <= n -> root <= 1000000000 -> first + hi <= d.size -> Bn P d ->
  Bn P (siftDown lt hi first root d) /\ (siftDown lt hi first root d).size = d.size /\ B6 (fun q' => Aw.l1 (hi : Int) (first : Int) cmp q'.1 q'.2) ((root : Int), d.toList) = some (siftDown lt hi first root d).toList := by
 intro n
 induction n with
 | zero =>
  intro root d hn hr hh hd
  have hsz := hd.1
  unfold siftDown
  rw [aCt (by omega)]
  refine ⟨hd, rfl, C2 (x := some d.toList) ?_⟩
  show Aw.l1 (hi : Int) (first : Int) cmp (root : Int) d.toList = _
  unfold Aw.l1
  rw [Do (x := 2 * (root : Int)) (by omega), Do (by omega), xN (by omega)]
  rfl
 | succ n ih =>
  intro root d hn hr hh hd
  have hsz := hd.1
  have w0 : W (2 * (root : Int)) = ((2 * root : Nat) : Int) := by rw [Do (by omega)]; omega
  have w1 : W (((2 * root : Nat) : Int) + 1) = ((2 * root + 1 : Nat) : Int) := by rw [Do (by omega)]; omega
  have w2 : W (((2 * root + 1 : Nat) : Int) + 1) = ((2 * root + 2 : Nat) : Int) := by rw [Do (by omega)]; omega
  by_cases hend : 2 * root + 1 >= hi
  ·unfold siftDown
   rw [aCt hend]
   refine ⟨hd, rfl, C2 (x := some d.toList) ?_⟩
   show Aw.l1 (hi : Int) (first : Int) cmp (root : Int) d.toList = _
   unfold Aw.l1
   rw [w0, w1, xN (by omega)]
   rfl
  ·have step : ∀ c : Nat, c < hi -> root < c -> ∀ (b : Bool) (r : Array Aa), (lt d[first + root]! d[first + c]! = b) -> r = (bif b then siftDown lt hi first c (Sort.swp d (first + root) (first + c)) else d) ->
     (Aw.l1 (hi : Int) (first : Int) cmp (root : Int) d.toList = Aw.j3 (first : Int) cmp (root : Int) d.toList (c : Int)) ->
     Bn P r /\ r.size = d.size /\ B6 (fun q' => Aw.l1 (hi : Int) (first : Int) cmp q'.1 q'.2) ((root : Int), d.toList) = some r.toList := fun c hc1 hc2 b r hb hrr hl => by
    have hj := Sq hc (first := first) (root := root) (c := c) (d := d) (by omega) (by omega) hd
    rw [hb] at hj
    cases b with
    | false =>
     rw [xP] at hrr
     rw [hrr]
     refine ⟨hd, rfl, Li ?_⟩
     exact (by rw [hl, hj]; rfl : Aw.l1 (hi : Int) (first : Int) cmp (root : Int) d.toList = some (.done d.toList))
    | true =>
     rw [xT] at hrr
     rw [hrr]
     obtain ⟨q1, q2, q3⟩ := ih c (Sort.swp d (first + root) (first + c)) (by omega) (by omega) (by rw [Cf]; exact hh) (hd.swp (by omega) (by omega))
     refine ⟨q1, by rw [q2, Cf], ?_⟩
     have hb' : Aw.l1 (hi : Int) (first : Int) cmp (root : Int) d.toList = some (.next ((c : Int), (Sort.swp d (first + root) (first + c)).toList)) := by rw [hl, hj]; rfl
     exact (Dh (body := fun q' => Aw.l1 (hi : Int) (first : Int) cmp q'.1 q'.2) (s := ((root : Int), d.toList)) hb').trans q3
   unfold siftDown
   rw [dif_neg hend]
   have hl : ∀ b : Bool, (decide (2 * root + 1 + 1 < hi) && lt d[first + (2 * root + 1)]! d[first + (2 * root + 1) + 1]!) = b -> Aw.l1 (hi : Int) (first : Int) cmp (root : Int) d.toList = Aw.j3 (first : Int) cmp (root : Int) d.toList (bif b then ((2 * root + 2 : Nat) : Int) else ((2 * root + 1 : Nat) : Int)) := fun b hb => by
    unfold Aw.l1
    rw [w0, w1, w2, xL (by omega), xP]
    by_cases h2 : 2 * root + 2 < hi
    ·have a2 : first + (2 * root + 1) + 1 < d.size := by clear w0 w1 w2; omega
     have a1 : first + (2 * root + 1) < d.size := by clear w0 w1 w2; omega
     have a3 : decide (2 * root + 1 + 1 < hi) = true := xN h2
     have a4 : decide (((2 * root + 2 : Nat) : Int) < (hi : Int)) = true := xN (by clear w0 w1 w2; omega)
     have v1 : W ((first : Int) + ((2 * root + 1 : Nat) : Int)) = ((first + (2 * root + 1) : Nat) : Int) := by rw [Do (by omega)]; omega
     have v2 : W (((first + (2 * root + 1) : Nat) : Int) + 1) = ((first + (2 * root + 1) + 1 : Nat) : Int) := by rw [Do (by omega)]; omega
     obtain ⟨m, m1, m2⟩ := Ht hc hd (i := first + (2 * root + 1)) (j := first + (2 * root + 1) + 1) a1 a2
     rw [a4, xT, v1, v2, Dq (i := first + (2 * root + 1)) a1 rfl, xJ, Dq (i := first + (2 * root + 1) + 1) a2 rfl, xJ, m1, xJ, m2]
     rw [a3, zP] at hb
     rw [hb]
     unfold Aw.j2
     rw [w0, w1, w2]
     cases b with
     | true => rw [xT, xT]
     | false => rw [xP, xP]
    ·rw [xL (by omega), xP]
     rw [xL (by omega), zG] at hb
     subst hb
     unfold Aw.j2
     rw [w0, w1, xP, xP]
   cases hb : (decide (2 * root + 1 + 1 < hi) && lt d[first + (2 * root + 1)]! d[first + (2 * root + 1) + 1]!) with
   | true =>
    rw [if_pos rfl]
    have h2 : 2 * root + 2 < hi := by
     rw [yF] at hb
     have := xU hb.1
     omega
    refine step (2 * root + 2) h2 (by omega) _ _ rfl ?_ (hl true hb)
    cases lt d[first + root]! d[first + (2 * root + 2)]! with
    | false => rfl
    | true => rw [show (!true) = false from rfl, if_neg (by simp), aCt h2]; rfl
   | false =>
    rw [if_neg (by simp)]
    refine step (2 * root + 1) (by omega) (by omega) _ _ rfl ?_ (hl false hb)
    cases lt d[first + root]! d[first + (2 * root + 1)]! with
    | false => rfl
    | true => rfl
theorem Ks (hc : Bx cmp lt P) {a b : Nat} : ∀ (k : Nat) (d : Array Aa), a + (b - a) <= d.size -> a <= b -> k <= 1000000000 -> Bn P d ->
  Bn P (heapBuild lt (b - a) a k d) /\ (heapBuild lt (b - a) a k d).size = d.size /\ B6 (fun q' => A6.l1 (a : Int) (b : Int) cmp q'.1 q'.2) ((k : Int) - 1, d.toList) = B6 (fun q' => A6.l1 (a : Int) (b : Int) cmp q'.1 q'.2) (-1, (heapBuild lt (b - a) a k d).toList)
 | 0, d, h1, hab, hk, hd => ⟨hd, rfl, rfl⟩
 | k + 1, d, h1, hab, hk, hd => by
  have hsz := hd.1
  obtain ⟨q1, q2, q3⟩ := Pu hc (hi := b - a) (first := a) _ k d (xX _) (by omega) h1 hd
  obtain ⟨r1, r2, r3⟩ := Ks hc (a := a) (b := b) k (siftDown lt (b - a) a k d) (by rw [q2]; exact h1) hab (by omega) q1
  refine ⟨r1, by show (heapBuild lt (b - a) a k _).size = _; rw [r2, q2], ?_⟩
  rw [Dh (s' := ((k : Int) - 1, (siftDown lt (b - a) a k d).toList)) ?_]
  ·exact r3
  ·show A6.l1 (a : Int) (b : Int) cmp (((k + 1 : Nat) : Int) - 1) d.toList = _
   have e0 : ((k + 1 : Nat) : Int) - 1 = (k : Int) := by omega
   have e1 : W ((b : Int) - (a : Int)) = ((b - a : Nat) : Int) := by rw [Do (by omega)]; omega
   unfold A6.l1
   rw [e0, xN (by omega), xT, e1]
   have e2 : Aw d.toList (k : Int) ((b - a : Nat) : Int) (a : Int) cmp = some (siftDown lt (b - a) a k d).toList := q3
   rw [e2, xJ, Do (by omega)]
theorem Ll (hc : Bx cmp lt P) {a : Nat} : ∀ (k : Nat) (d : Array Aa), a + k <= d.size -> Bn P d ->
  B6 (fun q' => A6.l2 (a : Int) cmp q'.1 q'.2) ((k : Int) - 1, d.toList) = some (heapPop lt a k d).toList
 | 0, d, h1, hd => C2 (x := some d.toList) (by
   show A6.l2 (a : Int) cmp (((0 : Nat) : Int) - 1) d.toList = _
   unfold A6.l2
   rw [xL (by omega)]
   rfl)
 | k + 1, d, h1, hd => by
  have hsz := hd.1
  obtain ⟨q1, q2, q3⟩ := Pu hc (hi := k) (first := a) k 0 (Sort.swp d a (a + k)) (by omega) (by omega) (by rw [Cf]; omega) (hd.swp (by omega) (by omega))
  rw [Dh (s' := ((k : Int) - 1, (siftDown lt k a 0 (Sort.swp d a (a + k))).toList)) ?_]
  ·exact Ll hc k _ (by rw [q2, Cf]; omega) q1
  ·show A6.l2 (a : Int) cmp (((k + 1 : Nat) : Int) - 1) d.toList = _
   have e0 : ((k + 1 : Nat) : Int) - 1 = (k : Int) := by omega
   have e1 : W ((a : Int) + (k : Int)) = ((a + k : Nat) : Int) := by rw [Do (by omega)]; omega
   obtain ⟨y, hy⟩ := It (d := d) (x := d[a + k]!) (j := ((a : Int)).toNat) (i := a + k) (by omega) rfl
   unfold A6.l2
   rw [e0, xN (by omega), xT, e1, Dq (i := a + k) (by omega) rfl, xJ, Dq (i := a) (by omega) rfl, xJ, hy, xJ]
   have e2 : ((a : Int)).toNat = a := by omega
   have e3 : (((a + k : Nat) : Int)).toNat = a + k := by omega
   rw [e2, e3, Iu]
   have e4 : Aw (Sort.swp d a (a + k)).toList 0 (k : Int) (a : Int) cmp = some (siftDown lt k a 0 (Sort.swp d a (a + k))).toList := q3
   rw [e4, xJ, Do (by omega)]
theorem Xh (hc : Bx cmp lt P) {a b : Nat} {d : Array Aa} (hab : a < b) (hb : b <= d.size) (hd : Bn P d) : A6 d.toList (a : Int) (b : Int) cmp = some (heapSort lt d a b).toList := by
 have hsz := hd.1
 have e1 : W ((b : Int) - (a : Int)) = ((b - a : Nat) : Int) := by rw [Do (by omega)]; omega
 have e2 : W (((b - a : Nat) : Int) - 1) = ((b - a - 1 : Nat) : Int) := by rw [Do (by omega)]; omega
 obtain ⟨r1, r2, r3⟩ := Ks hc (a := a) (b := b) ((b - a - 1) / 2 + 1) d (by omega) (by omega) (by omega) hd
 unfold A6 heapSort
 rw [e1, e2]
 have eq : Ia ((b - a - 1 : Nat) : Int) 2 = some (((b - a - 1) / 2 : Nat) : Int) := by
  unfold Ia
  rw [if_neg (by omega), Do]
  ·congr 1
  ·have : ((b - a - 1 : Nat) : Int).tdiv 2 = (((b - a - 1) / 2 : Nat) : Int) := rfl
   rw [this]
   omega
 rw [eq, xJ]
 have e0 : (((b - a - 1) / 2 : Nat) : Int) = (((b - a - 1) / 2 + 1 : Nat) : Int) - 1 := by omega
 rw [e0, r3]
 refine C2 (x := some (heapPop lt a (b - a) (heapBuild lt (b - a) a ((b - a - 1) / 2 + 1) d)).toList) ?_
 show A6.l1 (a : Int) (b : Int) cmp (-1) _ = _
 unfold A6.l1
 rw [xL (by omega), xP, e1]
 have e3 : W (((b - a : Nat) : Int) - 1) = ((b - a : Nat) : Int) - 1 := Do (by omega)
 rw [e3, Ll hc (b - a) _ (by rw [r2]; omega) r1]
end
end Go.Proofs.Ytfkgbfhpibiheaa
