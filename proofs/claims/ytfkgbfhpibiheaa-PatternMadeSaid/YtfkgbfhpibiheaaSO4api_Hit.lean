import Derived.Test.YtfkgbfhpibiheaaSO3api_Hit
set_option linter.unusedVariables false
set_option linter.unusedSimpArgs false
namespace Go.Proofs.Ytfkgbfhpibiheaa
open Go Go.Sort
section
variable {cmp : Ab -> Ab -> Option Int} {lt : Ab -> Ab -> Bool} {P : Ab -> Prop}
theorem Bm.perm {d d' : Array Ab} {a b : Nat} (h : Bm P d) (hb : b <= d.size) (hp : PermIn a b d d') : Bm P d' := by
 refine ⟨by rw [hp.1]; exact h.1, fun i hi => ?_⟩
 rw [hp.1] at hi
 by_cases hr : a <= i /\ i < b
 ·exact permIn_all d d' a b P hb hp (fun k _ hk => h.2 k (by omega)) i hr.1 hr.2
 ·rw [hp.2.1 i (by omega)]
  exact h.2 i hi
theorem Y3 : ∀ (n i j : Nat) (d : Array Ab), j - i <= n -> j < d.size -> d.size <= 1000000000 ->
  B6 (fun q' => Bj.l1 q'.1 q'.2.1 q'.2.2) ((i : Int), (j : Int), d.toList) = some (reverseLoop i j d).toList := by
 intro n
 induction n with
 | zero =>
  intro i j d hn hj hs
  rw [reverseLoop, if_neg (by omega)]
  refine C2 ?_
  show Bj.l1 (i : Int) (j : Int) d.toList = _
  unfold Bj.l1
  rw [xL (by omega), xP]
 | succ n ih =>
  intro i j d hn hj hs
  rw [reverseLoop]
  by_cases h : i < j
  ·rw [if_pos h]
   have hb : Bj.l1 (i : Int) (j : Int) d.toList = some (.next (((i + 1 : Nat) : Int), ((j - 1 : Nat) : Int), (Sort.swp d i j).toList)) := by
    unfold Bj.l1
    rw [xN (by omega), xT, Wp (by omega), Wm (by omega) (by omega)]
    exact Gq (i := i) (j := j) (by omega) (by omega) rfl rfl (fun l => some (Lp.next (((i + 1 : Nat) : Int), ((j - 1 : Nat) : Int), l)))
   exact (Dh hb).trans (ih (i + 1) (j - 1) _ (by omega) (by rw [Cg]; omega) (by rw [Cg]; exact hs))
  ·rw [if_neg h]
   refine C2 ?_
   show Bj.l1 (i : Int) (j : Int) d.toList = _
   unfold Bj.l1
   rw [xL (by omega), xP]
theorem Sk {a b : Nat} {d : Array Ab} (hab : a < b) (hb : b <= d.size) (hs : d.size <= 1000000000) : Bj d.toList (a : Int) (b : Int) cmp = some (reverseRange d a b).toList := by
 unfold Bj reverseRange
 rw [Wm (by omega) (by omega)]
 exact Y3 _ a (b - 1) d (xX _) (by omega) hs
theorem Ng {a idx o : Nat} {d : Array Ab} {z : Int × Int} (hi : idx < d.size) (ho : a + o < d.size) (hs : d.size <= 1000000000) :
  Az.j2 (a : Int) (idx : Int) d.toList z (o : Int) = some (.next (((idx + 1 : Nat) : Int), (Sort.swp d idx (a + o)).toList, z.2)) := by
 unfold Az.j2
 have e : W ((a : Int) + (o : Int)) = ((a + o : Nat) : Int) := by rw [Do (by omega)]; omega
 rw [e, Wp (by omega)]
 exact Gq (i := idx) (j := a + o) hi ho rfl rfl (fun l => some (Lp.next (((idx + 1 : Nat) : Int), l, z.2)))
theorem Uh {a b y : Nat} (hab : a < b) (h8 : 8 <= b - a) (hy1 : b - a < y) (hy2 : y <= 2 * (b - a)) : ∀ (k idx : Nat) (d : Array Ab) (r : Int), idx + k = a + (b - a) / 4 * 2 + 2 -> a <= idx -> b <= d.size -> d.size < 65536 ->
  ∃ d', B6 (fun q' => Az.l1 (a : Int) (b : Int) (y : Int) q'.1 q'.2.1 q'.2.2) ((idx : Int), d.toList, r) = some d'.toList /\ PermIn a b d d' := by
 intro k
 induction k with
 | zero =>
  intro idx d r hk hi hb hs
  refine ⟨d, C2 ?_, permIn_refl d a b⟩
  show Az.l1 (a : Int) (b : Int) (y : Int) (idx : Int) d.toList r = _
  unfold Az.l1
  rw [Wd (by omega) (by omega), Zx (by omega), xJ, oE (by omega) (by omega), Wp (by omega), xL (by omega), xP]
 | succ k ih =>
  intro idx d r hk hi hb hs
  obtain ⟨z, hz⟩ := kD r
  obtain ⟨m, m1, m2⟩ := lC z.1 (y - 1) (by omega)
  have e3 : ((y : Int) - 1) = ((y - 1 : Nat) : Int) := by omega
  have hbody : ∃ o : Nat, o < b - a /\ Az.l1 (a : Int) (b : Int) (y : Int) (idx : Int) d.toList r = some (.next (((idx + 1 : Nat) : Int), (Sort.swp d idx (a + o)).toList, z.2)) := by
   unfold Az.l1
   rw [Wd (m := b) (n := a) (by omega) (by omega), Zx (by omega), xJ, oE (by omega) (by omega), Wp (by omega), xN (by omega), xT, hz, xJ, e3, m2]
   clear m2
   by_cases h : b - a <= m
   ·refine ⟨m - (b - a), by omega, ?_⟩
    rw [xN (by omega), xT, Wd (by omega) h]
    exact Ng (by omega) (by omega) (by omega)
   ·refine ⟨m, by omega, ?_⟩
    rw [xL (by omega), xP]
    exact Ng (by omega) (by omega) (by omega)
  obtain ⟨o, ho, hbd⟩ := hbody
  obtain ⟨d', h1, h2⟩ := ih (idx + 1) (Sort.swp d idx (a + o)) z.2 (by omega) (by omega) (by rw [Cg]; exact hb) (by rw [Cg]; exact hs)
  exact ⟨d', (Dh hbd).trans h1, permIn_trans _ _ _ a b (swp_permIn d a b idx (a + o) (by omega) (by omega) (by omega) (by omega) hb) h2⟩
theorem Vt {a b : Nat} {d : Array Ab} (hab : a < b) (hb : b <= d.size) (hs : d.size < 65536) : ∃ d', Az d.toList (a : Int) (b : Int) cmp = some d'.toList /\ PermIn a b d d' := by
 unfold Az
 rw [Wd (by omega) (by omega)]
 by_cases h8 : 8 <= b - a
 ·obtain ⟨y, y1, y2, y3⟩ := dD (b - a) (by omega) (by omega)
  rw [xN (by omega), xT, y3, xJ, Zx (by omega), xJ, oE (by omega) (by omega), Wm (by omega) (by omega)]
  exact Uh hab h8 y1 y2 3 (a + (b - a) / 4 * 2 - 1) d _ (by omega) (by omega) hb hs
 ·rw [xL (by omega), xP]
  exact ⟨d, rfl, permIn_refl d a b⟩
theorem Mw (hc : B0 cmp lt P) {d : Array Ab} (hd : Bm P d) {x y : Nat} (hx : x < d.size) (hy : y < d.size) (s : Int) :
  ∃ (x' y' : Nat) (s' : Int), Dc d.toList (x : Int) (y : Int) s cmp = some ((x' : Int), (y' : Int), s') /\ (x' = x /\ y' = y \/ x' = y /\ y' = x) := by
 obtain ⟨m, m1, m2⟩ := Hs hc hd (i := y) (j := x) hy hx
 unfold Dc
 rw [Dp (i := y) hy rfl, xJ, Dp (i := x) hx rfl, xJ, m1, xJ]
 cases decide (m < 0) with
 | true => exact ⟨y, x, _, rfl, Or.inr ⟨rfl, rfl⟩⟩
 | false => exact ⟨x, y, _, rfl, Or.inl ⟨rfl, rfl⟩⟩
theorem Sa (hc : B0 cmp lt P) {d : Array Ab} (hd : Bm P d) {x y z : Nat} (hx : x < d.size) (hy : y < d.size) (hz : z < d.size) (s : Int) :
  ∃ (x' : Nat) (s' : Int), Dt d.toList (x : Int) (y : Int) (z : Int) s cmp = some ((x' : Int), s') /\ (x' = x \/ x' = y \/ x' = z) := by
 obtain ⟨p1, p2, s1, h1, k1⟩ := Mw hc hd hx hy s
 unfold Dt
 rw [h1, xJ]
 obtain ⟨q1, q2, s2, h2, k2⟩ := Mw hc hd (x := p2) (y := z) (by omega) hz s1
 simp only []
 rw [h2, xJ]
 obtain ⟨r1, r2, s3, h3, k3⟩ := Mw hc hd (x := p1) (y := q1) (by omega) (by omega) s2
 simp only []
 rw [h3, xJ]
 exact ⟨r2, s3, rfl, by omega⟩
theorem Mi (hc : B0 cmp lt P) {d : Array Ab} (hd : Bm P d) {x : Nat} (h0 : 0 < x) (hx : x + 1 < d.size) (s : Int) :
  ∃ (x' : Nat) (s' : Int), Cu d.toList (x : Int) s cmp = some ((x' : Int), s') /\ (x' = x - 1 \/ x' = x \/ x' = x + 1) := by
 have hsz := hd.1
 obtain ⟨p, s1, h1, k1⟩ := Sa hc hd (x := x - 1) (y := x) (z := x + 1) (by omega) (by omega) hx s
 unfold Cu
 rw [Wm (by omega) h0, Wp (by omega), h1, xJ]
 exact ⟨p, s1, rfl, k1⟩
theorem Xf (p : Nat) (s : Int) : ∃ h : Int, Ba.j2 (p : Int) s = some ((p : Int), h) := by
 unfold Ba.j2
 cases decide (s = 0) with
 | true => exact ⟨_, rfl⟩
 | false =>
  cases decide (s = 12) with
  | true => exact ⟨_, rfl⟩
  | false => exact ⟨_, rfl⟩
theorem Tz (hc : B0 cmp lt P) {d : Array Ab} (hd : Bm P d) {a b : Nat} (h8 : 8 <= b - a) (hb : b <= d.size) :
  ∃ (p : Nat) (h : Int), Ba d.toList (a : Int) (b : Int) cmp = some ((p : Int), h) /\ a <= p /\ p < b := by
 have hsz := hd.1
 have j1 : ∀ (i j k : Nat) (s : Int), a <= i -> i < b -> a <= j -> j < b -> a <= k -> k < b -> ∃ (p : Nat) (h : Int), Ba.j1 d.toList cmp (i : Int) (j : Int) (k : Int) s = some ((p : Int), h) /\ a <= p /\ p < b := fun i j k s h1 h2 h3 h4 h5 h6 => by
  obtain ⟨p, s1, k1, k2⟩ := Sa hc hd (x := i) (y := j) (z := k) (by omega) (by omega) (by omega) s
  unfold Ba.j1
  rw [k1, xJ]
  obtain ⟨h, hh⟩ := Xf p s1
  exact ⟨p, h, hh, by omega, by omega⟩
 unfold Ba
 rw [Wd (by omega) (by omega), Zx (by omega), xJ, xJ, xJ, xN (by omega), xT]
 generalize hq : (b - a) / 4 = q
 rw [wZ (by omega) (by omega), oE (by omega) (by omega), wY (by omega) (by omega)]
 by_cases h50 : 50 <= b - a
 ·rw [xN (by omega), xT]
  obtain ⟨x1, s1, g1, k1⟩ := Mi hc hd (x := a + q) (by omega) (by omega) 0
  rw [g1, xJ]
  obtain ⟨x2, s2, g2, k2⟩ := Mi hc hd (x := a + q * 2) (by omega) (by omega) s1
  simp only []
  rw [g2, xJ]
  obtain ⟨x3, s3, g3, k3⟩ := Mi hc hd (x := a + q * 3) (by omega) (by omega) s2
  simp only []
  rw [g3, xJ]
  exact j1 x1 x2 x3 s3 (by omega) (by omega) (by omega) (by omega) (by omega) (by omega)
 ·rw [xL (by omega), xP]
  exact j1 (a + q) (a + q * 2) (a + q * 3) 0 (by omega) (by omega) (by omega) (by omega) (by omega) (by omega)
end
end Go.Proofs.Ytfkgbfhpibiheaa
