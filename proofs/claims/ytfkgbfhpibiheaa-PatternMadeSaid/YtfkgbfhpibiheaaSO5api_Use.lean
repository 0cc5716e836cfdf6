import Derived.Test.YtfkgbfhpibiheaaSO4api_Use
set_option linter.unusedVariables false
set_option linter.unusedSimpArgs false
namespace Go.Proofs.Ytfkgbfhpibiheaa
open Go Go.Sort
section
variable {cmp : Aa -> Aa -> Option Int} {lt : Aa -> Aa -> Bool} {P : Aa -> Prop}
def P3 (lt : Aa -> Aa -> Bool) (P : Aa -> Prop) (Fin : Array Aa -> Prop) (s : Int × Int × Int × Bool × Bool × List Aa) : Prop :=
 ∃ (d : Array Aa) (a b : Nat), s.1 = (a : Int) /\ s.2.1 = (b : Int) /\ s.2.2.2.2.2 = d.toList /\ a <= b /\ b <= d.size /\ d.size < 65536 /\ Bn P d /\ Below lt a b d /\ ∀ R, PermIn a b d R -> SortedIn lt a b R -> Fin R
def Hw (lt : Aa -> Aa -> Bool) (P : Aa -> Prop) (rec : List Aa -> Int -> Int -> Int -> Option (List Aa)) (n : Nat) : Prop :=
 ∀ (d : Array Aa) (a b : Nat) (lim : Int), a <= b -> b <= d.size -> d.size < 65536 -> Bn P d -> Below lt a b d -> b - a < n -> Ok (rec d.toList (a : Int) (b : Int) lim) (fun r => ∃ d', r = d'.toList /\ PermIn a b d d' /\ SortedIn lt a b d')
abbrev Jd (lt : Aa -> Aa -> Bool) (P : Aa -> Prop) (Fin : Array Aa -> Prop) (n : Nat) : Lp (Int × Int × Int × Bool × Bool × List Aa) (List Aa) -> Prop :=
 gG (fun s => P3 lt P Fin s /\ (s.2.1 - s.1).toNat < n) (fun r => ∃ d', r = d'.toList /\ Fin d')
variable {Fin : Array Aa -> Prop} {rec : List Aa -> Int -> Int -> Int -> Option (List Aa)}
theorem Nt (hS : SWO lt) (hc : Bx cmp lt P) {a b pivot : Nat} {d : Array Aa} {wb wp : Bool} {lim : Int} {x : Bool} (hr : Hw lt P rec (b - a)) (hab : a < b) (hp1 : a <= pivot) (hp2 : pivot < b) (hb : b <= d.size) (hs : d.size < 65536) (hd : Bn P d) (hB : Below lt a b d) (hF : ∀ R, PermIn a b d R -> SortedIn lt a b R -> Fin R) (hx : x = true -> 0 < a /\ lt d[a - 1]! d[pivot]! = false) :
  Ok (Ak.j6 rec cmp (a : Int) (b : Int) wb wp lim (pivot : Int) d.toList x) (Jd lt P Fin (b - a)) := by
 unfold Ak.j6
 refine Ok.cond (fun hxt => ?_) (fun _ => ?_)
 ·obtain ⟨h0, h1⟩ := hx hxt
  rw [Y9 hc hab hp1 hp2 hb hd, xJ]
  obtain ⟨g1, g2, g3, g4, g5⟩ := round_eq (d4 := (partitionEqual lt d a b pivot).2) (mid := (partitionEqual lt d a b pivot).1) hS (partitionEqual_holds lt) h0 hp1 hp2 hb hB h1 rfl
  have hge : ∀ i, a <= i -> i < b -> lt d[i]! d[pivot]! = false := fun i hi hi' => by
   rcases hB with h0 | hB
   ·omega
   ·exact hS.ntrans _ _ _ (hB i hi hi') h1
  have hpm := (partitionEqual_holds lt hS d a b pivot hp1 hp2 hb hge).2.2.1
  generalize (partitionEqual lt d a b pivot).2 = d4 at g3 g4 g5 hpm ⊢
  generalize (partitionEqual lt d a b pivot).1 = mid at g1 g2 g4 g5 ⊢
  refine Ok.ret ⟨⟨d4, mid, b, rfl, rfl, rfl, g2, by omega, by omega, hd.perm hb hpm, g4, fun R h2 h3 => ?_⟩, ?_⟩
  ·obtain ⟨k1, k2⟩ := g5 R h2 h3
   exact hF R k1 k2
  ·show (((b : Int)) - (mid : Int)).toNat < b - a
   omega
 ·rw [X5 hc hab hp1 hp2 hb hd, xJ]
  obtain ⟨g1, g2, g3, g4, g5, g6, g7⟩ := round_part (d4 := (partition lt d a b pivot).2.2) (mid := (partition lt d a b pivot).1) (ap := (partition lt d a b pivot).2.1) hS (partition_holds lt) hp1 hp2 hb hB rfl
  have hpm := (partition_holds lt hS d a b pivot hp1 hp2 hb).2.2.1
  generalize (partition lt d a b pivot).2.2 = d4 at g3 g4 g5 g6 g7 hpm ⊢
  generalize (partition lt d a b pivot).2.1 = ap
  generalize (partition lt d a b pivot).1 = mid at g1 g2 g4 g5 g6 g7 ⊢
  have hd4 := hd.perm hb hpm
  simp only []
  rw [Wd (m := b) (n := a) (by omega) (by omega), nY (by omega), xJ, Wd (m := mid) (n := a) (by omega) (by omega), Wd (m := b) (n := mid) (by omega) (by omega), Wp (by omega)]
  refine Ok.cond (fun hm => ?_) (fun hm => ?_)
  ·have hm' := xU hm
   refine Ok.bind (hr d4 a mid lim g1 (by omega) (by omega) hd4 g4 (by omega)) (fun r hr' => ?_)
   obtain ⟨L, rfl, l1, l2⟩ := hr'
   obtain ⟨k1, k2⟩ := g6 L l1 l2
   have hz := l1.1
   refine Ok.ret ⟨⟨L, mid + 1, b, rfl, rfl, rfl, by omega, by omega, by omega, hd4.perm (by omega) l1, k1, fun R h2 h3 => ?_⟩, ?_⟩
   ·obtain ⟨m1, m2⟩ := k2 R h2 h3
    exact hF R m1 m2
   ·show (((b : Int)) - ((mid + 1 : Nat) : Int)).toNat < b - a
    omega
  ·have hm' := yB hm
   refine Ok.bind (hr d4 (mid + 1) b lim (by omega) (by omega) (by omega) hd4 g5 (by omega)) (fun r hr' => ?_)
   obtain ⟨L, rfl, l1, l2⟩ := hr'
   obtain ⟨k1, k2⟩ := g7 L l1 l2
   have hz := l1.1
   refine Ok.ret ⟨⟨L, a, mid, rfl, rfl, rfl, by omega, by omega, by omega, hd4.perm (by omega) l1, k1, fun R h2 h3 => ?_⟩, ?_⟩
   ·obtain ⟨m1, m2⟩ := k2 R h2 h3
    exact hF R m1 m2
   ·show (((mid : Int)) - (a : Int)).toNat < b - a
    omega
theorem N2 (hS : SWO lt) (hc : Bx cmp lt P) {a b pivot : Nat} {d : Array Aa} {wb wp : Bool} {lim : Int} (hr : Hw lt P rec (b - a)) (hab : a < b) (hp1 : a <= pivot) (hp2 : pivot < b) (hb : b <= d.size) (hs : d.size < 65536) (hd : Bn P d) (hB : Below lt a b d) (hF : ∀ R, PermIn a b d R -> SortedIn lt a b R -> Fin R) :
  Ok (Ak.j5 rec cmp (a : Int) (b : Int) wb wp lim (pivot : Int) d.toList) (Jd lt P Fin (b - a)) := by
 unfold Ak.j5
 refine Ok.cond (fun ha => ?_) (fun _ => Nt hS hc hr hab hp1 hp2 hb hs hd hB hF (fun h => by cases h))
 have ha' := xU ha
 rw [Wm (by omega) (by omega)]
 obtain ⟨n, n1, n2⟩ := Ht hc hd (i := a - 1) (j := pivot) (by omega) (by omega)
 rw [Dq (i := a - 1) (by omega) rfl, xJ, Dq (i := pivot) (by omega) rfl, xJ, n1, xJ, n2]
 refine Nt hS hc hr hab hp1 hp2 hb hs hd hB hF (fun h => ⟨by omega, ?_⟩)
 cases hl : lt d[a - 1]! d[pivot]! with
 | false => rfl
 | true => rw [hl] at h; cases h
theorem Km (hS : SWO lt) (hc : Bx cmp lt P) {a b pivot : Nat} {d : Array Aa} {wb wp : Bool} {lim : Int} {x : Bool} (hr : Hw lt P rec (b - a)) (hab : a < b) (hp1 : a <= pivot) (hp2 : pivot < b) (hb : b <= d.size) (hs : d.size < 65536) (hd : Bn P d) (hB : Below lt a b d) (hF : ∀ R, PermIn a b d R -> SortedIn lt a b R -> Fin R) :
  Ok (Ak.j4 rec cmp (a : Int) (b : Int) wb wp lim (pivot : Int) d.toList x) (Jd lt P Fin (b - a)) := by
 unfold Ak.j4
 refine Ok.cond (fun _ => ?_) (fun _ => N2 hS hc hr hab hp1 hp2 hb hs hd hB hF)
 rw [Sg hc hab hb hd, xJ]
 obtain ⟨k1, k2⟩ := partialInsertionSort_holds hS d a b hab hb hB
 generalize partialInsertionSort lt d a b = pi at k1 k2 ⊢
 have hz : pi.1.size = d.size := k1.1
 have hb' : b <= pi.1.size := by omega
 have hs' : pi.1.size < 65536 := by omega
 refine Ok.cond (fun h => ?_) (fun _ => N2 (d := pi.1) hS hc hr hab hp1 hp2 hb' hs' (hd.perm hb k1) (hB.perm hb k1) (fun R h2 h3 => hF R (permIn_trans _ _ _ a b k1 h2) h3))
 exact Ok.up (Ok.ret ⟨_, rfl, hF _ k1 (k2 h)⟩)
theorem N4 (hS : SWO lt) (hc : Bx cmp lt P) {a b pivot : Nat} {d : Array Aa} {wb wp : Bool} {lim hint : Int} (hr : Hw lt P rec (b - a)) (hab : a < b) (hp1 : a <= pivot) (hp2 : pivot < b) (hb : b <= d.size) (hs : d.size < 65536) (hd : Bn P d) (hB : Below lt a b d) (hF : ∀ R, PermIn a b d R -> SortedIn lt a b R -> Fin R) :
  Ok (Ak.j3 rec cmp (a : Int) (b : Int) wb wp lim (pivot : Int) hint d.toList) (Jd lt P Fin (b - a)) := by
 unfold Ak.j3
 exact Ok.cond (fun _ => Ok.cond (fun _ => Km hS hc hr hab hp1 hp2 hb hs hd hB hF) (fun _ => Km hS hc hr hab hp1 hp2 hb hs hd hB hF)) (fun _ => Km hS hc hr hab hp1 hp2 hb hs hd hB hF)
theorem Nd (hS : SWO lt) (hc : Bx cmp lt P) {a b : Nat} {d : Array Aa} {wb wp : Bool} {lim : Int} (hr : Hw lt P rec (b - a)) (h12 : 12 < b - a) (hb : b <= d.size) (hs : d.size < 65536) (hd : Bn P d) (hB : Below lt a b d) (hF : ∀ R, PermIn a b d R -> SortedIn lt a b R -> Fin R) :
  Ok (Ak.j2 rec cmp (a : Int) (b : Int) wb wp lim d.toList) (Jd lt P Fin (b - a)) := by
 obtain ⟨p, h, h1, h2, h3⟩ := T0 hc hd (a := a) (b := b) (by omega) hb
 unfold Ak.j2
 rw [h1, xJ]
 refine Ok.cond (fun _ => ?_) (fun _ => N4 hS hc hr (by omega) h2 h3 hb hs hd hB hF)
 rw [Sy (by omega) hb (by omega), xJ]
 have k1 := reverseRange_holds d a b (by omega) hb
 generalize reverseRange d a b = d2 at k1 ⊢
 have hz := k1.1
 have e : W (W ((b : Int) - 1) - W ((p : Int) - (a : Int))) = ((b - 1 - (p - a) : Nat) : Int) := by
  rw [Wm (by omega) (by omega), Wd (by omega) (by omega), Wd (by omega) (by omega)]
 simp only []
 rw [e]
 clear e
 exact N4 hS hc hr (by omega) (by omega) (by omega) (by omega) (by omega) (hd.perm hb k1) (hB.perm hb k1) (fun R h2 h3 => hF R (permIn_trans _ _ _ a b k1 h2) h3)
theorem U3 (hS : SWO lt) (hc : Bx cmp lt P) {a b : Nat} {d : Array Aa} {wb wp : Bool} {lim : Int} (hr : Hw lt P rec (b - a)) (hab : a <= b) (hb : b <= d.size) (hs : d.size < 65536) (hd : Bn P d) (hB : Below lt a b d) (hF : ∀ R, PermIn a b d R -> SortedIn lt a b R -> Fin R) :
  Ok (Ak.l1 rec cmp (a : Int) (b : Int) lim wb wp d.toList) (Jd lt P Fin (b - a)) := by
 unfold Ak.l1
 rw [Wd (by omega) hab]
 refine Ok.cond (fun _ => ?_) (fun h12 => ?_)
 ·rw [P4 hc hab hb hd, xJ]
  obtain ⟨k1, k2⟩ := insertionSort_holds hS d a b hab hb
  exact Ok.up (Ok.ret ⟨_, rfl, hF _ k1 k2⟩)
 ·have h12' := yB h12
  refine Ok.cond (fun _ => ?_) (fun _ => ?_)
  ·rw [Xh hc (by omega) hb hd, xJ]
   obtain ⟨k1, k2⟩ := heapSort_holds hS d a b hab hb
   exact Ok.up (Ok.ret ⟨_, rfl, hF _ k1 k2⟩)
  ·refine Ok.cond (fun _ => ?_) (fun _ => Nd hS hc hr (by omega) hb hs hd hB hF)
   obtain ⟨d1, k0, k1⟩ := Vv (cmp := cmp) (a := a) (b := b) (d := d) (by omega) hb hs
   have hz := k1.1
   rw [k0, xJ]
   exact Nd hS hc hr (by omega) (by omega) (by omega) (hd.perm hb k1) (hB.perm hb k1) (fun R h2 h3 => hF R (permIn_trans _ _ _ a b k1 h2) h3)
theorem Y8 (hS : SWO lt) (hc : Bx cmp lt P) {a b : Nat} {d : Array Aa} {lim : Int} (hab : a <= b) (hb : b <= d.size) (hs : d.size < 65536) (hd : Bn P d) (hB : Below lt a b d) :
  Ok (Ak d.toList (a : Int) (b : Int) lim cmp) (fun r => ∃ d', r = d'.toList /\ PermIn a b d d' /\ SortedIn lt a b d') := by
 unfold Ak
 refine (bU (Is (cmp := cmp)) (fun x => (x.2.2.1 - x.2.1).toNat)
  (fun x => ∃ (d : Array Aa) (a b : Nat), x.1 = d.toList /\ x.2.1 = (a : Int) /\ x.2.2.1 = (b : Int) /\ a <= b /\ b <= d.size /\ d.size < 65536 /\ Bn P d /\ Below lt a b d)
  (fun x r => ∀ (d : Array Aa) (a b : Nat), x.1 = d.toList -> x.2.1 = (a : Int) -> x.2.2.1 = (b : Int) -> ∃ d', r = d'.toList /\ PermIn a b d d' /\ SortedIn lt a b d') ?_ _ ⟨d, a, b, rfl, rfl, rfl, hab, hb, hs, hd, hB⟩).mono (fun r hr => hr d a b rfl rfl rfl)
 rintro rec ⟨l, a', b', lim'⟩ ⟨d, a, b, h1, h2, h3, hab, hb, hs, hd, hB⟩ ih
 have h1 : l = d.toList := h1
 have h2 : a' = (a : Int) := h2
 have h3 : b' = (b : Int) := h3
 subst h1 h2 h3
 have hr : Hw lt P (fun data a b limit => rec (data, a, b, limit)) (b - a) := fun d2 a2 b2 lim2 k1 k2 k3 k4 k5 k6 =>
  (ih (d2.toList, (a2 : Int), (b2 : Int), lim2) ⟨d2, a2, b2, rfl, rfl, rfl, k1, k2, k3, k4, k5⟩ (by show (((b2 : Int)) - (a2 : Int)).toNat < (((b : Int)) - (a : Int)).toNat; omega)).mono (fun r hr => hr d2 a2 b2 rfl rfl rfl)
 have main : Ok (Ak.F (fun data a b limit => rec (data, a, b, limit)) d.toList (a : Int) (b : Int) lim' cmp) (fun r => ∃ d', r = d'.toList /\ (PermIn a b d d' /\ SortedIn lt a b d')) := by
  unfold Ak.F
  refine Ok.loop (fun s => P3 lt P (fun R => PermIn a b d R /\ SortedIn lt a b R) s /\ (s.2.1 - s.1).toNat <= b - a) (fun s => (s.2.1 - s.1).toNat) ?_ ⟨⟨d, a, b, rfl, rfl, rfl, hab, hb, hs, hd, hB, fun R h1 h2 => ⟨h1, h2⟩⟩, ?_⟩
  ·rintro ⟨sa, sb, sl, wb, wp, dl⟩ ⟨⟨d3, a3, b3, e1, e2, e3, k1, k2, k3, k4, k5, k6⟩, hm⟩
   have e1 : sa = (a3 : Int) := e1
   have e2 : sb = (b3 : Int) := e2
   have e3 : dl = d3.toList := e3
   subst e1 e2 e3
   have hm : (((b3 : Int)) - (a3 : Int)).toNat <= b - a := hm
   refine (U3 hS hc (fun d2 a2 b2 lim2 q1 q2 q3 q4 q5 q6 => hr d2 a2 b2 lim2 q1 q2 q3 q4 q5 (by omega)) k1 k2 k3 k4 k5 k6).mono (fun o ho => ?_)
   have em : (((b3 : Int)) - (a3 : Int)).toNat = b3 - a3 := by omega
   cases o with
   | done r => exact ho
   | next s =>
    obtain ⟨ho1, ho2⟩ := ho
    refine ⟨⟨ho1, by omega⟩, ?_⟩
    show (s.2.1 - s.1).toNat < (((b3 : Int)) - (a3 : Int)).toNat
    omega
  ·show (((b : Int)) - (a : Int)).toNat <= b - a
   omega
 refine main.mono (fun r hr d2 a2 b2 e1 e2 e3 => ?_)
 have e1 : d.toList = d2.toList := e1
 have e2 : (a : Int) = (a2 : Int) := e2
 have e3 : (b : Int) = (b2 : Int) := e3
 obtain rfl : d = d2 := aCj.1 e1
 obtain rfl : a = a2 := by omega
 obtain rfl : b = b2 := by omega
 exact hr
theorem Vy (hS : SWO lt) (hc : Bx cmp lt P) (l : List Aa) (hl : l.length < 65536) (hP : ∀ x ∈ l, P x) :
  Ok (D9 l cmp) (fun r => r.Perm l /\ r.Pairwise (fun x y => lt y x = false)) := by
 obtain ⟨L, _, _, _, h4⟩ := aM l.length hl
 unfold D9
 rw [L3 (by omega), h4, xJ]
 have hsz : l.toArray.size = l.length := by simp
 have hA : Bn P l.toArray := ⟨by omega, fun i hi => by
  rw [zY l.toArray i hi]
  exact hP _ (by simp)⟩
 have h := Y8 hS hc (a := 0) (b := l.toArray.size) (d := l.toArray) (lim := (L : Int)) (yL _) (xX _) (by omega) hA (Or.inl rfl)
 rw [hsz] at h
 have e : ((0 : Nat) : Int) = 0 := rfl
 rw [e] at h
 refine Ok.bind h (fun r hr => ?_)
 obtain ⟨d', rfl, k1, k2⟩ := hr
 have hz := k1.1
 refine Ok.ret ⟨?_, ?_⟩
 ·have := k1.2.2
  have e1 : d'.extract 0 l.length = d' := by
   rw [<- hsz, <- hz]; exact aB5
  have e2 : l.toArray.extract 0 l.length = l.toArray := by
   rw [<- hsz]; exact aB5
  rw [e1, e2] at this
  exact this
 ·rw [List.pairwise_iff_getElem]
  intro i j hi hj hij
  have hi' : i < d'.size := by simpa using hi
  have hj' : j < d'.size := by simpa using hj
  have := k2 i j (yL _) hij (by omega)
  rw [zY d' i hi', zY d' j hj'] at this
  simpa using this
def Nh : Nat := 65535
theorem Vn (hS : SWO lt) (hc : Bx cmp lt P) (l : List Aa) (hl : l.length <= Nh) (hP : ∀ x ∈ l, P x) :
  Ok (D9 l cmp) (fun r => r.Perm l /\ r.Pairwise (fun x y => lt y x = false)) := Vy hS hc l (by unfold Nh at hl; omega) hP
end
end Go.Proofs.Ytfkgbfhpibiheaa
