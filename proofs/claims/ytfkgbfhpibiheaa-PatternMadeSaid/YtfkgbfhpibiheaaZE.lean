/- Plain texts, joined. No program is in sight here. -/
import Derived.Test.YtfkgbfhpibiheaaK2
import Derived.Test.YtfkgbfhpibiheaaL3
import Derived.Test.YtfkgbfhpibiheaaU1
import Derived.Test.YtfkgbfhpibiheaaZ9
import Derived.Test.YtfkgbfhpibiheaaSEapi_Use
import Derived.Test.YtfkgbfhpibiheaaSCapi_Use
set_option linter.unusedVariables false
set_option linter.unusedSimpArgs false
set_option maxRecDepth 100000
namespace Go.Proofs.Ytfkgbfhpibiheaa
section
open Go
theorem aQ (s : List ByteArray) (v : ByteArray) (h : Lo s) : Da s v = some (Xu s fun e => decide (v = e)) := by
 unfold Da
 refine bQ s _ h (fun i x hx => ?_) ?_ <;> show Da.l1 _ _ _ = _ <;> unfold Da.l1
 ·rw [Pg hx]; cases decide (v = x) <;> rfl
 ·rw [I0]; rfl
theorem bE (s : List ByteArray) (v : ByteArray) (h : Lo s) : E4 s v = some (s.any fun e => decide (v = e)) := by
 unfold E4
 rw [aQ s v h, xJ, bB]
def Rb (l : List ByteArray) (i : Nat) : Bool := !Pc (l.getD i ⟨#[]⟩) || (l.take i).any fun e => decide (l.getD i ⟨#[]⟩ = e)
def gF (l : List ByteArray) : Bool := (List.range l.length).any (Rb l)
theorem Qb {l : List ByteArray} {i : Nat} {s : ByteArray} (h : l[i]? = some s) : Rb l i = (!Pc s || (l.take i).any fun e => decide (s = e)) := by
 unfold Rb
 rw [mG h]
theorem Z1 {l : List ByteArray} {i : Nat} (hi : i < l.length) (h : Rb l i = true) : gF l = true := zN.2 ⟨i, zR.2 hi, h⟩
theorem We {l : List ByteArray} (h : ∀ i, i < l.length -> Rb l i = false) : gF l = false := by
 unfold gF
 rw [aB9]
 intro i hi
 rw [h i (zR.1 hi)]
 simp
theorem W4 (l : List ByteArray) (hl : l.length <= 1000) (hs : ∀ s ∈ l, s.size <= 1000) : B3 l = some (gF l) := by
 unfold B3 gF
 refine (Q1 (body := fun q' => B3.l1 l q') l.length (fun i => (i : Int)) (Rb l) true false (fun i hi => ?_) ?_).trans ?_
 ·obtain ⟨s, hx⟩ : ∃ s, l[i]? = some s := ⟨_, xK hi⟩
  show B3.l1 l (i : Int) = _
  unfold B3.l1
  rw [Qb hx, Pg hx, dQ s (by have := hs s (Vi hx); omega), xJ]
  unfold B3.j2
  rw [Cl (by omega)]
  cases hn : Pc s with
  | false => rfl
  | true =>
   rw [aB1, xP, aB2]
   have e1 : Si l 0 (i : Int) = some (l.take i) := by
    unfold Si
    rw [if_pos (by omega)]
    simp
   rw [e1, xJ, bE _ _ (Vc (by rw [xY]; omega)), xJ]
   cases (l.take i).any fun e => decide (s = e) <;> rfl
 ·show B3.l1 l (l.length : Int) = _
  unfold B3.l1
  rw [I0]; rfl
 ·cases (List.range l.length).any (Rb l) <;> rfl
structure T2 (x : Bv) : Prop where
 sec : x.Sections.length <= 3
 sym : x.Symbols.length <= 8
 inS : ∀ s ∈ x.Sections, s.Name.size <= 40 /\ s.Bytes.length <= 100
 inY : ∀ s ∈ x.Symbols, s.Name.size <= 40 /\ 0 <= s.Value /\ s.Value < 1048576
def Rv (x : Bv) : List ByteArray := x.Sections.map (·.Name)
def Sj (x : Bv) : List ByteArray := x.Symbols.map (·.Name)
def O4 (x : Bv) : Int := bif gF (Rv x) || gF (Sj x) then 20 else 0
theorem Lh (b : List UInt8) (n : Int) (c : Nat) (hb : b.length <= 100000) (hc : c <= 8) : Ok (C0 b n (c : Int)) (fun r => r.length = b.length + c) := by
 unfold C0
 rw [Do (by omega)]
 refine Ok.loop (fun t : Int × List UInt8 => ∃ k : Nat, k <= c /\ t.1 = (k : Int) - 1 /\ t.2.length + k = b.length + c) (fun t => (t.1 + 1).toNat) ?_ ⟨c, xX _, rfl, rfl⟩
 rintro ⟨i, a⟩ ⟨k, h1, h2, h3⟩
 simp only at h2 h3
 subst h2
 show Ok (C0.l1 n ((k : Int) - 1) a) _
 unfold C0.l1
 refine Ok.cond (fun h => ?_) fun h => Ok.up (Ok.ret ?_)
 ·have h := xU h
  refine Ok.bindE (a := n.fdiv (2 ^ min (W (8 * ((k : Int) - 1))).toNat IntKind.i64.bits)) (by
   unfold Rs
   rw [if_neg (by rw [Do (by omega)]; omega)]) ?_
  refine Ok.bindE (Ey (by rw [yJ]; omega)) (Ok.ret ⟨⟨k - 1, by omega, ?_, ?_⟩, ?_⟩)
  ·show W ((k : Int) - 1 - 1) = _
   rw [Do (by omega)]
   omega
  ·show (a ++ [_]).length + (k - 1) = _
   rw [xS, yJ]
   omega
  ·show (W ((k : Int) - 1 - 1) + 1).toNat < ((k : Int) - 1 + 1).toNat
   rw [Do (by omega)]
   omega
 ·have h := yB h
  show a.length = b.length + c
  omega
theorem Y4 (b : List UInt8) (s : ByteArray) (hb : b.length <= 50000) (hs : s.size <= 40) : Ok (Fy b s) (fun r => r.length = b.length + 1 + s.size) := by
 unfold Fy
 refine Ok.bind (Lh b _ 1 (by omega) (by omega)) fun y hy => ?_
 have hl := Tc s
 refine Ok.bindE (Ey (by omega)) (Ok.ret ?_)
 rw [xS]
 omega
theorem aZ {x : Bv} (h : T2 x) : Ok (Ck x) (fun r => r.length <= 4096) := by
 unfold Ck
 refine Ok.bind (Lh _ _ 1 (by decide) (by omega)) fun y hy => ?_
 have hy : y.length = 4 := hy
 have h1 := h.sec
 have h2 := h.sym
 refine Ok.loop (fun t : Int × List UInt8 => ∃ i : Nat, t.1 = (i : Int) /\ i <= x.Sections.length /\ t.2.length <= 4 + i * 200) (fun t => x.Sections.length - t.1.toNat) ?_ ⟨0, rfl, yL _, by show y.length <= _; omega⟩
 rintro ⟨t, b⟩ ⟨i, e1, e2, e3⟩
 simp only at e1 e3
 subst e1
 show Ok (Ck.l1 x (i : Int) b) _
 unfold Ck.l1
 refine Ok.cond (fun hc => ?_) fun hc => ?_
 ·have hc := xU hc
  refine Ok.bind (He (by omega) hc) fun s hs => ?_
  have := h.inS s hs
  refine Ok.bind (Y4 b s.Name (by omega) this.1) fun y2 hy2 => ?_
  refine Ok.bind (Lh y2 _ 2 (by omega) (by omega)) fun y3 hy3 => ?_
  refine Ok.bindE (Ey (by omega)) (Ok.ret ⟨⟨i + 1, Cl (by omega), by omega, ?_⟩, ?_⟩)
  ·show (y3 ++ s.Bytes).length <= _
   rw [xS]
   omega
  ·show x.Sections.length - (W ((i : Int) + 1)).toNat < x.Sections.length - (i : Int).toNat
   rw [Cl (by omega)]
   omega
 ·refine Ok.up ?_
  refine Ok.bind (Lh b _ 1 (by omega) (by omega)) fun y4 hy4 => ?_
  refine Ok.loop (fun t : Int × List UInt8 => ∃ j : Nat, t.1 = (j : Int) /\ j <= x.Symbols.length /\ t.2.length <= 1000 + j * 100) (fun t => x.Symbols.length - t.1.toNat) ?_ ⟨0, rfl, yL _, by show y4.length <= _; omega⟩
  rintro ⟨t, b2⟩ ⟨j, f1, f2, f3⟩
  simp only at f1 f3
  subst f1
  show Ok (Ck.l2 x (j : Int) b2) _
  unfold Ck.l2
  refine Ok.cond (fun hd => ?_) fun hd => Ok.up (Ok.ret (by show b2.length <= 4096; omega))
  have hd := xU hd
  refine Ok.bind (He (by omega) hd) fun s hs => ?_
  have := h.inY s hs
  refine Ok.bind (Y4 b2 s.Name (by omega) this.1) fun y5 hy5 => ?_
  refine Ok.bind (Lh y5 _ 4 (by omega) (by omega)) fun y6 hy6 => ?_
  refine Ok.ret ⟨⟨j + 1, Cl (by omega), by omega, ?_⟩, ?_⟩
  ·show y6.length <= _
   omega
  ·show x.Symbols.length - (W ((j : Int) + 1)).toNat < x.Symbols.length - (j : Int).toNat
   rw [Cl (by omega)]
   omega
theorem iC {x : Bv} (h : T2 x) : Cq x = some (Rv x, Sj x) := by
 have h1 := h.sec
 have h2 := h.sym
 have key : Ok (Cq x) (fun r => r = (Rv x, Sj x)) := by
  unfold Cq
  refine Ok.loop (fun t : Int × List ByteArray => ∃ i : Nat, t.1 = (i : Int) /\ i <= x.Sections.length /\ t.2 = (x.Sections.take i).map (·.Name)) (fun t => x.Sections.length - t.1.toNat) ?_ ⟨0, rfl, yL _, rfl⟩
  rintro ⟨t, b⟩ ⟨i, e1, e2, e3⟩
  simp only at e1 e3
  subst e1 e3
  show Ok (Cq.l1 x (i : Int) _) _
  unfold Cq.l1
  refine Ok.cond (fun hc => ?_) fun hc => ?_
  ·have hc := xU hc
   refine Ok.bind (S5 (by omega) hc) fun s hs => ?_
   rw [yA] at hs
   refine Ok.bindE (Ey (by rw [zU, xY, yJ]; omega)) (Ok.ret ⟨⟨i + 1, Cl (by omega), by omega, ?_⟩, ?_⟩)
   ·show _ ++ [s.Name] = _
    rw [E6 hs, aAd]
    rfl
   ·show x.Sections.length - (W ((i : Int) + 1)).toNat < x.Sections.length - (i : Int).toNat
    rw [Cl (by omega)]
    omega
  ·have hc := yB hc
   have hi : i = x.Sections.length := by omega
   subst hi
   rw [aAy]
   refine Ok.up ?_
   refine Ok.loop (fun t : Int × List ByteArray => ∃ i : Nat, t.1 = (i : Int) /\ i <= x.Symbols.length /\ t.2 = (x.Symbols.take i).map (·.Name)) (fun t => x.Symbols.length - t.1.toNat) ?_ ⟨0, rfl, yL _, rfl⟩
   rintro ⟨t, b⟩ ⟨i, f1, f2, f3⟩
   simp only at f1 f3
   subst f1 f3
   show Ok (Cq.l2 x _ (i : Int) _) _
   unfold Cq.l2
   refine Ok.cond (fun hc => ?_) fun hc => ?_
   ·have hc := xU hc
    refine Ok.bind (S5 (by omega) hc) fun s hs => ?_
    rw [yA] at hs
    refine Ok.bindE (Ey (by rw [zU, xY, yJ]; omega)) (Ok.ret ⟨⟨i + 1, Cl (by omega), by omega, ?_⟩, ?_⟩)
    ·show _ ++ [s.Name] = _
     rw [E6 hs, aAd]
     rfl
    ·show x.Symbols.length - (W ((i : Int) + 1)).toNat < x.Symbols.length - (i : Int).toNat
     rw [Cl (by omega)]
     omega
   ·have hc := yB hc
    have hi : i = x.Symbols.length := by omega
    subst hi
    rw [aAy]
    exact Ok.up (Ok.ret rfl)
 obtain ⟨r, h3, h4⟩ := key
 rw [h3, h4]
theorem Qu (x : Bv) : (Rv x).length = x.Sections.length := zU _
theorem Qd (x : Bv) : (Sj x).length = x.Symbols.length := zU _
theorem Ww {x : Bv} (h : T2 x) : Bs x = some (O4 x) := by
 have h1 := h.sec
 have h2 := h.sym
 have w1 : B3 (Rv x) = some (gF (Rv x)) := W4 _ (by rw [Qu]; omega) fun s hs => by
  obtain ⟨e, he, rfl⟩ := yW.1 hs
  have := (h.inS e he).1
  omega
 have w2 : B3 (Sj x) = some (gF (Sj x)) := W4 _ (by rw [Qd]; omega) fun s hs => by
  obtain ⟨e, he, rfl⟩ := yW.1 hs
  have := (h.inY e he).1
  omega
 unfold Bs O4
 rw [iC h, xJ, Qu, Qd, xL (by omega), xP, xL (by omega), xP, w1, xJ]
 have j1 : Bs.j1 x true = some 20 := rfl
 have j2 : Bs.j1 x false = some 0 := by
  suffices hh : Ok (Bs.j1 x false) (fun r => r = 0) by
   obtain ⟨r, a, b⟩ := hh
   rw [a, b]
  unfold Bs.j1
  rw [xP]
  refine Ok.loop (fun t : Int => ∃ i : Nat, t = (i : Int) /\ i <= x.Symbols.length) (fun t => x.Symbols.length - t.toNat) ?_ ⟨0, rfl, yL _⟩
  rintro t ⟨i, rfl, e2⟩
  show Ok (Bs.l2 x (i : Int)) _
  unfold Bs.l2
  refine Ok.cond (fun hc => ?_) fun hc => Ok.up ?_
  ·have hc := xU hc
   refine Ok.bind (He (by omega) hc) fun s hs => ?_
   have := h.inY s hs
   unfold Bs.j3
   rw [xL (by omega), xP, xL (by omega), xP]
   refine Ok.ret ⟨⟨i + 1, Cl (by omega), by omega⟩, ?_⟩
   rw [Cl (by omega)]
   omega
  ·refine Ok.bind (aZ h) fun y hy => ?_
   rw [xL (by omega), xP]
   exact Ok.ret rfl
 cases hw : gF (Rv x) with
 | true => rw [xT, j1]; rfl
 | false =>
  rw [xP, w2, xJ, aB2]
  cases gF (Sj x) with
  | true => exact j1
  | false => exact j2
theorem P9 {x : Bv} {i : Nat} {s : A5} (h : x.Sections[i]? = some s) : (Rv x)[i]? = some s.Name := by
 unfold Rv
 rw [zF, h]
 rfl
theorem Qf {x : Bv} {i : Nat} {s : Bc} (h : x.Symbols[i]? = some s) : (Sj x)[i]? = some s.Name := by
 unfold Sj
 rw [zF, h]
 rfl
theorem Wt {l : List ByteArray} {i k : Nat} {s : ByteArray} (hi : l[i]? = some s) (hk : l[k]? = some s) (h : k < i) : Rb l i = true := by
 rw [Qb hi, aAc]
 refine .inr (zN.2 ⟨s, List.mem_iff_getElem?.2 ⟨k, ?_⟩, xN rfl⟩)
 rw [yM, if_pos h]
 exact hk
theorem cO {l : List ByteArray} {i : Nat} {s : ByteArray} (hi : l[i]? = some s) (hn : Pc s = true) (h : ∀ m, m < i -> l[m]? ≠ some s) : Rb l i = false := by
 rw [Qb hi, hn, aB1, aB2, aB9]
 intro e he hd
 have hd := xU hd
 obtain ⟨k, hk⟩ := List.mem_iff_getElem?.1 he
 rw [yM] at hk
 split at hk
 ·rename_i hki
  exact h k hki (by rw [hk, hd])
 ·cases hk
theorem dZ {x : Bv} (h : T2 x) (size : Int) (hz : 0 <= size /\ size <= 1000) (hw : gF (Rv x) = false) : Ok (B6 (fun q' => Bh.l5 x q'.1 q'.2) (size, 0)) (fun r => r = O4 x) := by
 have h2 := h.sym
 refine Ok.loop (fun t : Int × Int => ∃ i : Nat, t.2 = (i : Int) /\ i <= x.Symbols.length /\ 0 <= t.1 /\ t.1 <= 1000 + i * 100 /\ ∀ j, j < i -> Rb (Sj x) j = false) (fun t => x.Symbols.length - t.2.toNat) ?_ ⟨0, rfl, yL _, hz.1, by show size <= _; omega, fun j hj => absurd hj (aB4 _)⟩
 rintro ⟨z, t⟩ ⟨i, e1, e2, e3, e4, e5⟩
 simp only at e1 e3 e4
 subst e1
 have bad : i < x.Symbols.length -> Rb (Sj x) i = true -> (20 : Int) = O4 x := fun hi hb => by
  unfold O4
  rw [hw, aB2, Z1 (by rw [Qd]; exact hi) hb, xT]
 show Ok (Bh.l5 x z (i : Int)) _
 unfold Bh.l5
 refine Ok.cond (fun hc => ?_) fun hc => Ok.up ?_
 ·have hc := xU hc
  obtain ⟨s, hs⟩ : ∃ s, x.Symbols[i]? = some s := ⟨_, xK (by omega)⟩
  have hb := h.inY s (Vi hs)
  refine Ok.bindE (Bw.trans hs) ?_
  rw [Yc s.Name (by omega), xJ]
  unfold Bh.j6
  cases hn : Pc s.Name with
  | false =>
   rw [Bool.not_false, xT, xT]
   exact Ok.up (Ok.ret (bad (by omega) (by rw [Qb (Qf hs), hn]; rfl)))
  | true =>
   rw [aB1, xP, xL (by omega), xP, xL (by omega), xP]
   refine Ok.loop (fun k : Int => ∃ m : Nat, k = (m : Int) /\ m <= i /\ ∀ j, j < m -> (Sj x)[j]? ≠ some s.Name) (fun k => i - k.toNat) ?_ ⟨0, rfl, yL _, fun j hj => absurd hj (aB4 _)⟩
   rintro k ⟨m, rfl, g1, g2⟩
   show Ok (Bh.l7 x z (i : Int) (m : Int)) _
   unfold Bh.l7
   refine Ok.cond (fun hm => ?_) fun hm => Ok.up ?_
   ·have hm := xU hm
    obtain ⟨q, hq⟩ : ∃ q, x.Symbols[m]? = some q := ⟨_, xK (by omega)⟩
    refine Ok.bindE (Bw.trans hq) (Ok.bindE (Bw.trans hs) ?_)
    refine Ok.cond (fun he => Ok.up (Ok.up (Ok.ret (bad (by omega) ?_)))) fun he => Ok.ret ⟨⟨m + 1, Cl (by omega), by omega, fun j hj => ?_⟩, ?_⟩
    ·have he := xU he
     exact Wt (Qf hs) (by rw [<- he]; exact Qf hq) (by omega)
    ·have he := yB he
     rcases yY j m with hj' | hj'
     ·exact g2 j hj'
     ·have : j = m := by omega
      subst this
      rw [Qf hq]
      exact fun e => he (by injection e)
    ·rw [Cl (by omega)]
     omega
   ·have hm := yB hm
    have : m = i := by omega
    subst this
    refine Ok.bindE (Bw.trans hs) ?_
    rw [Do (x := z + 5) (by omega), Do (by omega)]
    refine Ok.ret ⟨⟨m + 1, Cl (by omega), by omega, ?_, ?_, fun j hj => ?_⟩, ?_⟩
    ·show 0 <= z + 5 + (s.Name.size : Int)
     omega
    ·show z + 5 + (s.Name.size : Int) <= _
     omega
    ·rcases yY j m with hj' | hj'
     ·exact e5 j hj'
     ·have : j = m := by omega
      subst this
      exact cO (Qf hs) hn g2
    ·show x.Symbols.length - (W ((m : Int) + 1)).toNat < x.Symbols.length - (m : Int).toNat
     rw [Cl (by omega)]
     omega
 ·have hc := yB hc
  rw [xL (by omega), xP]
  refine Ok.ret ?_
  unfold O4
  rw [hw, We fun j hj => e5 j (by rw [Qd] at hj; omega)]
  rfl
theorem R2 {x : Bv} (h : T2 x) : Bh x = some (O4 x) := by
 have h1 := h.sec
 have h2 := h.sym
 suffices hh : Ok (Bh x) (fun r => r = O4 x) by
  obtain ⟨r, a, b⟩ := hh
  rw [a, b]
 unfold Bh Bh.j1
 rw [xL (by omega), xP, xL (by omega), xP]
 refine Ok.loop (fun t : Int × Int => ∃ i : Nat, t.2 = (i : Int) /\ i <= x.Sections.length /\ 0 <= t.1 /\ t.1 <= 5 + i * 200 /\ ∀ j, j < i -> Rb (Rv x) j = false) (fun t => x.Sections.length - t.2.toNat) ?_ ⟨0, rfl, yL _, by decide, by decide, fun j hj => absurd hj (aB4 _)⟩
 rintro ⟨z, t⟩ ⟨i, e1, e2, e3, e4, e5⟩
 simp only at e1 e3 e4
 subst e1
 have bad : i < x.Sections.length -> Rb (Rv x) i = true -> (20 : Int) = O4 x := fun hi hb => by
  unfold O4
  rw [Z1 (by rw [Qu]; exact hi) hb, Bool.true_or, xT]
 show Ok (Bh.l2 x z (i : Int)) _
 unfold Bh.l2
 refine Ok.cond (fun hc => ?_) fun hc => Ok.up ?_
 ·have hc := xU hc
  obtain ⟨s, hs⟩ : ∃ s, x.Sections[i]? = some s := ⟨_, xK (by omega)⟩
  have hb := h.inS s (Vi hs)
  refine Ok.bindE (Bw.trans hs) ?_
  rw [Yc s.Name (by omega), xJ]
  unfold Bh.j3
  cases hn : Pc s.Name with
  | false =>
   rw [Bool.not_false, xT, xT]
   exact Ok.up (Ok.ret (bad (by omega) (by rw [Qb (P9 hs), hn]; rfl)))
  | true =>
   rw [aB1, xP, xL (by omega), xP]
   refine Ok.loop (fun k : Int => ∃ m : Nat, k = (m : Int) /\ m <= i /\ ∀ j, j < m -> (Rv x)[j]? ≠ some s.Name) (fun k => i - k.toNat) ?_ ⟨0, rfl, yL _, fun j hj => absurd hj (aB4 _)⟩
   rintro k ⟨m, rfl, g1, g2⟩
   show Ok (Bh.l4 x z (i : Int) (m : Int)) _
   unfold Bh.l4
   refine Ok.cond (fun hm => ?_) fun hm => Ok.up ?_
   ·have hm := xU hm
    obtain ⟨q, hq⟩ : ∃ q, x.Sections[m]? = some q := ⟨_, xK (by omega)⟩
    refine Ok.bindE (Bw.trans hq) (Ok.bindE (Bw.trans hs) ?_)
    refine Ok.cond (fun he => Ok.up (Ok.up (Ok.ret (bad (by omega) ?_)))) fun he => Ok.ret ⟨⟨m + 1, Cl (by omega), by omega, fun j hj => ?_⟩, ?_⟩
    ·have he := xU he
     exact Wt (P9 hs) (by rw [<- he]; exact P9 hq) (by omega)
    ·have he := yB he
     rcases yY j m with hj' | hj'
     ·exact g2 j hj'
     ·have : j = m := by omega
      subst this
      rw [P9 hq]
      exact fun e => he (by injection e)
    ·rw [Cl (by omega)]
     omega
   ·have hm := yB hm
    have : m = i := by omega
    subst this
    refine Ok.bindE (Bw.trans hs) ?_
    rw [Do (x := z + 3) (by omega), Do (x := z + 3 + (s.Name.size : Int)) (by omega), Do (by omega)]
    refine Ok.ret ⟨⟨m + 1, Cl (by omega), by omega, ?_, ?_, fun j hj => ?_⟩, ?_⟩
    ·show 0 <= z + 3 + (s.Name.size : Int) + (s.Bytes.length : Int)
     omega
    ·show z + 3 + (s.Name.size : Int) + (s.Bytes.length : Int) <= _
     omega
    ·rcases yY j m with hj' | hj'
     ·exact e5 j hj'
     ·have : j = m := by omega
      subst this
      exact cO (P9 hs) hn g2
    ·show x.Sections.length - (W ((m : Int) + 1)).toNat < x.Sections.length - (m : Int).toNat
     rw [Cl (by omega)]
     omega
 ·have hc := yB hc
  exact dZ h z ⟨e3, by omega⟩ (We fun j hj => e5 j (by rw [Qu] at hj; omega))
end
section
open Go
theorem nB {l m : List Int} {b : Int} (h : 0 < Mf l m b) : b ∈ l := by
 unfold Mf at h
 cases hf : l.findIdx? (fun e => decide (b = e)) with
 | none => rw [hf] at h; simp at h
 | some i =>
  obtain ⟨hi, hp, -⟩ := yU.1 hf
  rw [xU hp]
  exact List.getElem_mem hi
theorem Jq {s b : Int} (h : 0 < Ed s b) : b = 0 := by
 unfold Ed at h
 split at h
 ·assumption
 ·omega
theorem Mk {b : Int} (h : 0 < E7 b) : 512 <= b /\ b <= 16384 := by
 unfold E7 at h
 split at h
 ·assumption
 ·omega
theorem Yy {b : Int} (h : 0 < J0 b) : 160 <= b /\ b <= 521 := by
 unfold J0 at h
 split at h
 ·omega
 ·omega
def dI (u : Aa) : Prop := 1 <= u.Alg /\ u.Alg <= 22 /\ 0 <= u.Bits /\ u.Bits <= 16384
theorem nL {u : Aa} (h : decide (0 < Hj u) = true) : dI u := by
 have h := xU h
 obtain ⟨a, b⟩ := u
 unfold Hj at h
 split at h
 ·rename_i ha
  refine ⟨ha.1, ha.2, ?_⟩
  show 0 <= b /\ b <= 16384
  have ha : 1 <= a /\ a <= 22 := ha
  have am : ∀ {l m : List Int}, 0 < Mf l m b -> (∀ x ∈ l, 0 <= x /\ x <= 16384) -> 0 <= b /\ b <= 16384 := fun h k => k _ (nB h)
  rcases Oq ha with rfl | rfl | rfl | rfl | rfl | rfl | rfl | rfl | rfl | rfl | rfl | rfl | rfl | rfl | rfl | rfl | rfl | rfl | rfl | rfl | rfl | rfl
  ·have := Jq (s := 18) (b := b) h
   omega
  ·have := Jq (s := 60) (b := b) h
   omega
  ·have := Jq (s := 128) (b := b) h
   omega
  ·have := Jq (s := 192) (b := b) h
   omega
  ·have := Mk (b := b) h
   omega
  ·have := Mk (b := b) h
   omega
  ·have := Yy (b := b) h
   omega
  ·have := Jq (s := 128) (b := b) h
   omega
  ·exact am (l := [44, 65, 87]) (m := [128, 192, 256]) h (by decide)
  ·have := Mk (b := b) h
   omega
  ·have := Mk (b := b) h
   omega
  ·have := Yy (b := b) h
   omega
  ·exact am (l := [512, 768, 1024]) (m := [128, 192, 256]) h (by decide)
  ·exact am (l := [40, 128]) (m := [40, 60]) h (by decide)
  ·exact am (l := [112, 168]) (m := [80, 112]) h (by decide)
  ·exact am (l := [128, 256]) (m := [128, 256]) h (by decide)
  ·exact am (l := [128, 256]) (m := [128, 256]) h (by decide)
  ·have := Jq (s := 256) (b := b) h
   omega
  ·have := Jq (s := 64) (b := b) h
   omega
  ·have := Jq (s := 80) (b := b) h
   omega
  ·have := Jq (s := 128) (b := b) h
   omega
  ·have := Jq (s := 256) (b := b) h
   omega
 ·omega
def O8 (a b : Aa) : Bool := decide (a.Alg < b.Alg) || (decide (a.Alg = b.Alg) && decide (a.Bits < b.Bits))
theorem cJ {a b : Aa} : O8 a b = true ↔ a.Alg < b.Alg \/ a.Alg = b.Alg /\ a.Bits < b.Bits := by
 unfold O8
 simp
theorem oL {a b : Aa} : O8 a b = false ↔ ¬ (a.Alg < b.Alg \/ a.Alg = b.Alg /\ a.Bits < b.Bits) := by
 rw [<- cJ]
 cases O8 a b <;> simp
theorem lA : Mv O8 where
 irrefl a := oL.2 (by omega)
 trans a b c h1 h2 := by rw [cJ] at *; omega
 tot a b h1 h2 := by
  rw [oL] at h1 h2
  cases a; cases b
  simp only at h1 h2
  congr 1 <;> omega
theorem qP : Bx (fun x0 x1 => Gb x0 x1) O8 dI := fun x y hx hy => by
 obtain ⟨x1, x2, x3, x4⟩ := hx
 obtain ⟨y1, y2, y3, y4⟩ := hy
 show ∃ n, Gb x y = some n /\ _
 unfold Gb
 by_cases h : x.Alg = y.Alg
 ·refine ⟨W (x.Bits - y.Bits), by rw [xN h]; rfl, ?_⟩
  rw [Do (by omega)]
  unfold O8
  rw [show decide (x.Alg < y.Alg) = false from xL (by omega), show decide (x.Alg = y.Alg) = true from xN h, aB2, zP]
  exact aCl.2 (by omega)
 ·refine ⟨W (x.Alg - y.Alg), by rw [xL h]; rfl, ?_⟩
  rw [Do (by omega)]
  unfold O8
  rw [show decide (x.Alg = y.Alg) = false from xL h, zG, Bool.or_false]
  exact aCl.2 (by omega)
theorem bX {α : Type} {l : List α} {a b : Int} (h : 0 <= a /\ a <= b /\ b <= l.length) : Si l a b = some ((l.drop a.toNat).take (b.toNat - a.toNat)) := if_pos h
theorem Wy {α : Type} (lt : α -> α -> Bool) (y : α) (l : List α) (x : α) : Kl lt (y :: l) x = bif lt y x then y :: Kl lt l x else bif lt x y then x :: y :: l else y :: l := rfl
theorem iX (l : List Aa) (x : Aa) (hl : l.length < 1000000) (hs : Z7 O8 l) : B9 l x = some (Kl O8 l x) := by
 have lt_c : ∀ (e : Aa) (k : Int), cond (decide (e.Alg < x.Alg)) (B9.j2 l x k true) (cond (decide (e.Alg = x.Alg)) (B9.j2 l x k (decide (e.Bits < x.Bits))) (B9.j2 l x k false)) = B9.j2 l x k (O8 e x) := fun e k => by
  unfold O8
  cases decide (e.Alg < x.Alg) <;> cases decide (e.Alg = x.Alg) <;> rfl
 have key : ∀ (m p : List Aa), p ++ m = l -> (∀ y ∈ p, O8 y x = true) -> B6 (fun q' => B9.l1 l x q') (p.length : Int) = some (p ++ Kl O8 m x) := by
  intro m
  induction m with
  | nil =>
   intro p hp hlt
   have hlen : l.length = p.length := by rw [<- hp]; simp
   have e1 : B9.l1 l x (p.length : Int) = up (B9.j3 l x (p.length : Int) false) := by
    unfold B9.l1
    rw [xL (by omega), xP]
    unfold B9.j2
    rw [xP, xL (by omega), xP]
   rw [C2 e1]
   unfold B9.j3
   rw [xP]
   have hp' : l = p := by rw [<- hp]; simp
   rw [bX (a := 0) (b := (p.length : Int)) (by omega), xJ]
   rw [Ey (by simp; omega), xJ, Ey (by simp; omega), xJ, bX (by omega), xJ, Ey (by simp; omega), xJ]
   subst hp'
   simp [Kl]
  | cons y m ih =>
   intro p hp hlt
   have hy : l[p.length]? = some y := by rw [<- hp]; simp
   have hlen : p.length < l.length := (xM.1 hy).1
   cases h1 : O8 y x with
   | true =>
    have e1 : B9.l1 l x (p.length : Int) = some (.next (((p ++ [y]).length : Nat) : Int)) := by
     unfold B9.l1
     rw [xN (by omega), xT, Bw, hy, xJ, lt_c, h1]
     unfold B9.j2
     rw [xT, Do (by omega)]
     simp
    rw [Dh e1, ih (p ++ [y]) (by simp [hp]) (fun z hz => by
     rcases yQ.1 hz with hz | hz
     ·exact hlt z hz
     ·rw [xQ.1 hz]; exact h1)]
    show _ = some (p ++ Kl O8 (y :: m) x)
    rw [Wy, h1]
    simp
   | false =>
    have e1 : B9.l1 l x (p.length : Int) = up (B9.j3 l x (p.length : Int) (decide (y = x))) := by
     unfold B9.l1
     rw [xN (by omega), xT, Bw, hy, xJ, lt_c, h1]
     unfold B9.j2
     rw [xP, xN (by omega), xT, Bw, hy, xJ]
    rw [C2 e1]
    show _ = some (p ++ Kl O8 (y :: m) x)
    rw [Wy, h1, xP]
    unfold B9.j3
    by_cases hyx : y = x
    ·subst hyx
     rw [xN rfl, xT, lA.irrefl, xP, hp]
    ·have h2 : O8 x y = true := by
      cases h : O8 x y with
      | true => rfl
      | false => exact absurd (lA.tot _ _ h1 h) hyx
     rw [xL hyx, xP, h2, xT]
     rw [bX (a := 0) (b := (p.length : Int)) (by omega), xJ]
     have q1 : (l.drop (0 : Int).toNat).take ((p.length : Int).toNat - (0 : Int).toNat) = p := by rw [<- hp]; simp
     have q2 : (l.drop (p.length : Int).toNat).take ((l.length : Int).toNat - (p.length : Int).toNat) = y :: m := by
      rw [yG (by rw [yK]; omega), <- hp]; simp
     rw [q1, Ey (by simp; omega), xJ, Ey (by simp; omega), xJ, bX (by omega), xJ, q2]
     have : (y :: m).length <= l.length := by rw [<- hp]; simp
     rw [Ey (by simp at *; omega), xJ]
     simp
 exact key l [] rfl (fun _ h => by cases h)
noncomputable def Xw (p : List Ai) (b : Fm) : List Int := ((Eg p b).getD ([], 0)).1
theorem gP {p : List Ai} {b : Fm} (hl : Lo p) (hc : chk p = 0) (hb : b.length <= 4096) : D3 p b = some (Xw p b) /\ Cd p b = some (Xw p b, 0) /\ (Xw p b).length = p.length := by
 obtain ⟨r, h1, h2, h3⟩ := Ur (b := b) hl hc hb
 obtain ⟨s, h4, h5⟩ := Zw (b := b) (Nj hc) hb
 have e : Xw p b = r := by
  unfold Xw
  rw [h1]
  rfl
 rw [e]
 exact ⟨by rw [h4, h5.uniq h3], h2, h3.1⟩
def UK (p : List Ai) (r : List Int) (k : Nat) : List Aa := ((List.range k).filter fun j => decide (0 <= r.getD j 0)).map fun j => (p.getD j default).Use
noncomputable def UA (p : List Ai) (l : List A5) : List Aa := l.flatMap fun s => UK p (Xw p s.Bytes) p.length
section
variable {p : List Ai} {r : List Int}
theorem cW {k : Nat} {q : Ai} {x : Int} (hq : p[k]? = some q) (hr : r[k]? = some x) : UK p r (k + 1) = UK p r k ++ (bif decide (0 <= x) then [q.Use] else []) := by
 unfold UK
 rw [aBj, List.filter_append, aAd]
 congr 1
 rw [List.filter_cons, List.filter_nil, zA, hr, aCh]
 cases h : decide (0 <= x) <;> simp [h, zA, hq]
theorem aJ {k : Nat} : (UK p r k).length <= k := by
 unfold UK
 rw [zU]
 exact yN (aCg _ _) (by simp)
theorem pN {k : Nat} (hk : k <= p.length) {u : Aa} (h : u ∈ UK p r k) : ∃ q ∈ p, q.Use = u := by
 unfold UK at h
 obtain ⟨j, hj, rfl⟩ := yW.1 h
 have hj := zR.1 (aB3.1 hj).1
 refine ⟨p[j], List.getElem_mem (by omega), ?_⟩
 rw [zA, xK (by omega)]
 rfl
theorem To : ∀ {l : List A5}, (UA p l).length <= l.length * p.length
 | [] => by simp [UA]
 | s :: l => by
  have ih := To (l := l)
  have h := aJ (p := p) (r := Xw p s.Bytes) (k := p.length)
  unfold UA at *
  rw [aBf, xS, aAp, zJ, aAw]
  omega
theorem cS {l : List A5} {s : A5} : UA p (l ++ [s]) = UA p l ++ UK p (Xw p s.Bytes) p.length := by
 unfold UA
 rw [aBk]
 simp
theorem qV {l : List A5} {u : Aa} (h : u ∈ UA p l) : ∃ q ∈ p, q.Use = u := by
 unfold UA at h
 obtain ⟨s, -, hs⟩ := List.mem_flatMap.1 h
 exact pN (xX _) hs
end
theorem nP {p : List Ai} (h : chk p = 0) : ∀ q ∈ p, dI q.Use := fun q hq => by
 unfold chk at h
 cases h1 : p.any Vq with
 | true => rw [h1] at h; simp at h
 | false =>
  have := aB9.1 h1 q hq
  unfold Vq at this
  refine nL ?_
  cases hd : decide (0 < Hj q.Use) with
  | true => rfl
  | false => rw [hd] at this; simp at this
theorem eZ {p : List Ai} {x : Bv} (hl : Lo p) (hc : chk p = 0) (hx : T2 x) (hz : O4 x = 0) : Cc p x = some (I4 O8 (UA p x.Sections), 0) := by
 have hp := Nj hc
 have hpl := hp.1
 have hsl := hx.sec
 have hmul : ∀ i, i <= 3 -> i * p.length <= 96 := fun i hi => yN (Nat.mul_le_mul hi hpl) (xX _)
 unfold Cc
 rw [Kb p hl, xJ, hc, show (!decide ((0 : Int) = 0)) = false by decide, xP, Ww hx, xJ, hz, show (!decide ((0 : Int) = 0)) = false by decide, xP]
 suffices hh : Ok (B6 (fun q' => Cc.l1 p x q'.1 q'.2) (0, ([] : List Aa))) (fun r => r = (I4 O8 (UA p x.Sections), 0)) by
  obtain ⟨r, a, b⟩ := hh
  rw [a, b]
 refine Ok.loop (fun t : Int × List Aa => ∃ i : Nat, t.1 = (i : Int) /\ i <= x.Sections.length /\ t.2 = UA p (x.Sections.take i)) (fun t => x.Sections.length - t.1.toNat) ?_ ⟨0, rfl, yL _, rfl⟩
 rintro ⟨t, out⟩ ⟨i, e1, e2, e3⟩
 simp only at e1 e3
 subst e1 e3
 have hul := To (p := p) (l := x.Sections.take i)
 rw [xY, aAu e2] at hul
 have := hmul i (by omega)
 show Ok (Cc.l1 p x (i : Int) _) _
 unfold Cc.l1
 refine Ok.cond (fun hd => ?_) fun hd => Ok.up ?_
 ·have hd := xU hd
  obtain ⟨s, hs⟩ : ∃ s, x.Sections[i]? = some s := ⟨_, xK (by omega)⟩
  have hb := (hx.inS s (Vi hs)).2
  obtain ⟨f1, -, f3⟩ := gP (b := s.Bytes) hl hc (by omega)
  refine Ok.bindE (Bw.trans hs) (Ok.bindE f1 ?_)
  refine Ok.loop (fun t : Int × List Aa => ∃ k : Nat, t.1 = (k : Int) /\ k <= p.length /\ t.2 = UA p (x.Sections.take i) ++ UK p (Xw p s.Bytes) k) (fun t => p.length - t.1.toNat) ?_ ⟨0, rfl, yL _, by simp [UK]⟩
  rintro ⟨t, out⟩ ⟨k, g1, g2, g3⟩
  simp only at g1 g3
  subst g1 g3
  have hk := aJ (p := p) (r := Xw p s.Bytes) (k := k)
  show Ok (Cc.l2 p (i : Int) _ (k : Int) _) _
  unfold Cc.l2
  refine Ok.cond (fun he => ?_) fun he => Ok.up (Ok.ret ?_)
  ·have he := xU he
   rw [f3] at he
   obtain ⟨v, hv⟩ : ∃ v, (Xw p s.Bytes)[k]? = some v := ⟨_, xK (by omega)⟩
   obtain ⟨q, hq⟩ : ∃ q, p[k]? = some q := ⟨_, xK (by omega)⟩
   have hst := cW hq hv
   refine Ok.bindE (Bw.trans hv) ?_
   unfold Cc.j3
   have dec : p.length - (W ((k : Int) + 1)).toNat < p.length - (k : Int).toNat := by
    rw [Cl (by omega)]
    omega
   refine Ok.cond (fun hn => ?_) fun hn => ?_
   ·refine Ok.bindE (Bw.trans hq) ?_
    refine Ok.bindE (Ey (by rw [xS, yJ]; omega)) ?_
    refine Ok.ret ⟨⟨k + 1, Cl (by omega), by omega, ?_⟩, dec⟩
    show _ = _ ++ UK p _ (k + 1)
    rw [hst, hn, xT, yV]
   ·refine Ok.ret ⟨⟨k + 1, Cl (by omega), by omega, ?_⟩, dec⟩
    show _ = _ ++ UK p _ (k + 1)
    rw [hst, hn, xP, aAm]
  ·have he := yB he
   rw [f3] at he
   have hk : k = p.length := by omega
   subst hk
   refine ⟨⟨i + 1, Cl (by omega), by omega, ?_⟩, ?_⟩
   ·show _ = UA p (x.Sections.take (i + 1))
    rw [E6 hs, cS]
   ·show x.Sections.length - (W ((i : Int) + 1)).toNat < x.Sections.length - (i : Int).toNat
    rw [Cl (by omega)]
    omega
 ·have hd := yB hd
  have hi : i = x.Sections.length := by omega
  subst hi
  rw [aAy]
  have hul := To (p := p) (l := x.Sections)
  have hm : ∀ u ∈ UA p x.Sections, dI u := fun u hu => by
   obtain ⟨q, hq, rfl⟩ := qV hu
   exact nP hc q hq
  refine Ok.bind (Vn lA.swo qP (UA p x.Sections) (by unfold Nh; omega) hm) ?_
  rintro r ⟨h3, h4⟩
  have hrl := h3.length_eq
  obtain ⟨c, hc1, rfl⟩ := Su r (by omega)
  refine Ok.bindE hc1 (Ok.ret ?_)
  rw [iN lA h3 h4]
theorem gO {p : List Ai} {x : Bv} (hl : Lo p) (hc : chk p = 0) (hx : T2 x) (hz : O4 x = 0) : Cr p x = some (I4 O8 (UA p x.Sections), 0) := by
 have hp := Nj hc
 have hpl := hp.1
 have hsl := hx.sec
 have hmul : ∀ i, i <= 3 -> i * p.length <= 96 := fun i hi => yN (Nat.mul_le_mul hi hpl) (xX _)
 unfold Cr
 rw [Gk p hl, xJ, hc, show (!decide ((0 : Int) = 0)) = false by decide, xP, R2 hx, xJ, hz, show (!decide ((0 : Int) = 0)) = false by decide, xP]
 suffices hh : Ok (B6 (fun q' => Cr.l1 p x q'.1 q'.2) (([] : List Aa), 0)) (fun r => r = (I4 O8 (UA p x.Sections), 0)) by
  obtain ⟨r, a, b⟩ := hh
  rw [a, b]
 refine Ok.loop (fun t : List Aa × Int => ∃ i : Nat, t.2 = (i : Int) /\ i <= x.Sections.length /\ t.1 = I4 O8 (UA p (x.Sections.take i))) (fun t => x.Sections.length - t.2.toNat) ?_ ⟨0, rfl, yL _, rfl⟩
 rintro ⟨out, t⟩ ⟨i, e1, e2, e3⟩
 simp only at e1 e3
 subst e1 e3
 have hul := To (p := p) (l := x.Sections.take i)
 rw [xY, aAu e2] at hul
 have := hmul i (by omega)
 show Ok (Cr.l1 p x _ (i : Int)) _
 unfold Cr.l1
 refine Ok.cond (fun hd => ?_) fun hd => Ok.up (Ok.ret ?_)
 ·have hd := xU hd
  obtain ⟨s, hs⟩ : ∃ s, x.Sections[i]? = some s := ⟨_, xK (by omega)⟩
  have hb := (hx.inS s (Vi hs)).2
  obtain ⟨-, f2, f3⟩ := gP (b := s.Bytes) hl hc (by omega)
  refine Ok.bindE (Bw.trans hs) (Ok.bindE f2 ?_)
  refine Ok.loop (fun t : List Aa × Int => ∃ k : Nat, t.2 = (k : Int) /\ k <= p.length /\ t.1 = I4 O8 (UA p (x.Sections.take i) ++ UK p (Xw p s.Bytes) k)) (fun t => p.length - t.2.toNat) ?_ ⟨0, rfl, yL _, by simp [UK]⟩
  rintro ⟨out, t⟩ ⟨k, g1, g2, g3⟩
  simp only at g1 g3
  subst g1 g3
  have hk := aJ (p := p) (r := Xw p s.Bytes) (k := k)
  have hsl := V5 O8 (UA p (x.Sections.take i) ++ UK p (Xw p s.Bytes) k)
  rw [xS] at hsl
  show Ok (Cr.l2 p (i : Int) (Xw p s.Bytes, 0) _ (k : Int)) _
  unfold Cr.l2
  refine Ok.cond (fun he => ?_) fun he => Ok.up (Ok.ret ?_)
  ·have he := xU he
   have he : k < p.length := by
    have he : (k : Int) < ((Xw p s.Bytes).length : Int) := he
    omega
   obtain ⟨v, hv⟩ : ∃ v, (Xw p s.Bytes)[k]? = some v := ⟨_, xK (by omega)⟩
   obtain ⟨q, hq⟩ : ∃ q, p[k]? = some q := ⟨_, xK (by omega)⟩
   have hst := cW hq hv
   refine Ok.bindE (Bw.trans hv) ?_
   unfold Cr.j3
   have dec : p.length - (W ((k : Int) + 1)).toNat < p.length - (k : Int).toNat := by
    rw [Cl (by omega)]
    omega
   refine Ok.cond (fun hn => ?_) fun hn => ?_
   ·refine Ok.bindE (Bw.trans hq) ?_
    refine Ok.bindE (iX (I4 O8 (UA p (x.Sections.take i) ++ UK p (Xw p s.Bytes) k)) q.Use (by omega) (Wn lA _)) ?_
    refine Ok.ret ⟨⟨k + 1, Cl (by omega), by omega, ?_⟩, dec⟩
    show _ = I4 O8 (_ ++ UK p _ (k + 1))
    rw [hst, hn, xT, <- yV]
    unfold I4
    rw [List.foldl_append (l' := [q.Use])]
    rfl
   ·refine Ok.ret ⟨⟨k + 1, Cl (by omega), by omega, ?_⟩, dec⟩
    show _ = I4 O8 (_ ++ UK p _ (k + 1))
    rw [hst, hn, xP, aAm]
  ·have he := yB he
   have he : ¬ (k : Int) < ((Xw p s.Bytes).length : Int) := he
   have hk : k = p.length := by omega
   subst hk
   refine ⟨⟨i + 1, Cl (by omega), by omega, ?_⟩, ?_⟩
   ·show _ = I4 O8 (UA p (x.Sections.take (i + 1)))
    rw [E6 hs, cS]
   ·show x.Sections.length - (W ((i : Int) + 1)).toNat < x.Sections.length - (i : Int).toNat
    rw [Cl (by omega)]
    omega
 ·have hd := yB hd
  have hi : i = x.Sections.length := by omega
  subst hi
  rw [aAy]
theorem jD {p : List Ai} {x : Bv} (hl : Lo p) (hx : T2 x) : ∃ r, Cc p x = some r /\ Cr p x = some r /\ r.1.length <= 1000 := by
 by_cases hc : chk p = 0
 ·by_cases hz : O4 x = 0
  ·refine ⟨_, eZ hl hc hx hz, gO hl hc hx hz, ?_⟩
   have h1 := V5 O8 (UA p x.Sections)
   have h2 := To (p := p) (l := x.Sections)
   have h3 : x.Sections.length * p.length <= 3 * 32 := Nat.mul_le_mul hx.sec (Nj hc).1
   show (I4 O8 (UA p x.Sections)).length <= 1000
   omega
  ·refine ⟨([], O4 x), ?_, ?_, by simp⟩
   ·unfold Cc
    rw [Kb p hl, xJ, hc, show (!decide ((0 : Int) = 0)) = false by decide, xP, Ww hx, xJ, show (!decide (O4 x = 0)) = true by simp [hz], xT]
   ·unfold Cr
    rw [Gk p hl, xJ, hc, show (!decide ((0 : Int) = 0)) = false by decide, xP, R2 hx, xJ, show (!decide (O4 x = 0)) = true by simp [hz], xT]
 ·refine ⟨([], chk p), ?_, ?_, by simp⟩
  ·unfold Cc
   rw [Kb p hl, xJ, show (!decide (chk p = 0)) = true by simp [hc], xT]
  ·unfold Cr
   rw [Gk p hl, xJ, show (!decide (chk p = 0)) = true by simp [hc], xT]
end
section
open Go
theorem gV {p : List Ai} {b : Fm} (hl : Lo p) : ∃ r, Ev p b = some r /\ Cs p b = some r /\ r.1.length <= 1000 := by
 by_cases hb : b.length <= 4096
 ·exact jO hl hb
 ·by_cases hc : chk p = 0
  ·refine ⟨([], 3), ?_, ?_, by simp⟩
   ·unfold Ev
    rw [Ju hl, hc, show (!decide ((0 : Int) = 0)) = false by decide, xP, xN (by omega), xT, xJ]
    rfl
   ·unfold Cs
    rw [Gk p hl, hc, xJ, show (!decide ((0 : Int) = 0)) = false by decide, xP, xN (by omega), xT]
  ·refine ⟨([], chk p), ?_, ?_, by simp⟩
   ·unfold Ev
    rw [Ju hl, xJ]
    rw [show (!decide (chk p = 0)) = true by simp [hc]]
    simp [hc]
   ·unfold Cs
    rw [Gk p hl, xJ, show (!decide (chk p = 0)) = true by simp [hc], xT]
theorem fB {p : List Ai} {b : Fm} (hl : Lo p) : ∃ r, Eg p b = some r /\ Cd p b = some r /\ r.1.length <= p.length := by
 by_cases hb : b.length <= 4096
 ·exact eW hl hb
 ·by_cases hc : chk p = 0
  ·refine ⟨([], 3), ?_, ?_, by simp⟩
   ·unfold Eg
    rw [Ju hl, hc, show (!decide ((0 : Int) = 0)) = false by decide, xP, xN (by omega), xT, xJ]
    rfl
   ·unfold Cd
    rw [Gk p hl, hc, xJ, show (!decide ((0 : Int) = 0)) = false by decide, xP, xN (by omega), xT]
  ·refine ⟨([], chk p), ?_, ?_, by simp⟩
   ·unfold Eg
    rw [Ju hl, xJ]
    rw [show (!decide (chk p = 0)) = true by simp [hc]]
    simp [hc]
   ·unfold Cd
    rw [Gk p hl, xJ, show (!decide (chk p = 0)) = true by simp [hc], xT]
theorem Vm (a : List Aa) (h : a.length <= 100000) : Dj a a = some true := by
 unfold Dj
 rw [xN rfl]
 show B6 _ _ = _
 have := Rm (body := fun q' => Dj.l1 a a q') a.length (fun _ => false) false true (by omega) (fun i hi => by
  show Dj.l1 a a _ = _
  unfold Dj.l1
  rw [xN (by omega), xT, Bw, xK hi]
  simp) (by
  show Dj.l1 a a _ = _
  unfold Dj.l1
  rw [I0]
  rfl)
 rw [this]
 simp
theorem lD {d : Am} (hd : S6 d) : Ok (Cn d) (fun y => T2 y.1 /\ y.1.Symbols.length <= 7 /\ S6 y.2) := by
 unfold Cn
 refine Ok.loop (fun t : Int × Am × List A5 => ∃ i : Nat, t.1 = (i : Int) /\ i <= 3 /\ t.2.2.length = i /\ (∀ s ∈ t.2.2, s.Name.size <= 40 /\ s.Bytes.length <= 100) /\ S6 t.2.1) (fun t => 3 - t.1.toNat) ?_ ⟨0, rfl, by omega, rfl, (fun s hs => by cases hs), hd⟩
 rintro ⟨x, d1, l⟩ ⟨i, c1, c2, c3, c4, c5⟩
 simp only at c1 c3 c4 c5
 subst c1
 show Ok (Cn.l1 (i : Int) d1 l) _
 unfold Cn.l1
 refine Ok.bind (I5 c5 4 (by omega) (by omega)) ?_
 rintro ⟨m, d2⟩ ⟨⟨e1, e2⟩, e3⟩
 simp only at e1 e2 e3
 refine Ok.cond (fun hlt => ?_) fun hge => Ok.up ?_
 ·have hlt : (i : Int) < m := xU hlt
  refine Ok.bind (I5 e3 40 (by omega) (by omega)) ?_
  rintro ⟨n, d3⟩ ⟨⟨f1, f2⟩, f3⟩
  simp only at f1 f2 f3
  refine Ok.loop (fun t : Int × Am × List UInt8 => ∃ j : Nat, t.1 = (j : Int) /\ t.2.2.length + j <= 40 /\ S6 t.2.1) (fun t => t.1.toNat) ?_ ⟨n.toNat, by show n = _; omega, by simp; omega, f3⟩
  rintro ⟨y, d4, b⟩ ⟨j, g1, g2, g3⟩
  simp only at g1 g2 g3
  subst g1
  show Ok (Cn.l2 (i : Int) l (j : Int) d4 b) _
  unfold Cn.l2
  refine Ok.cond (fun hp => ?_) fun hz => Ok.up ?_
  ·have hp := xU hp
   refine Ok.bind (J3 g3 _ (by decide) (by decide)) fun z hz => ?_
   refine Ok.bindE (Ey (by rw [yJ]; omega)) ?_
   refine Ok.ret ⟨⟨j - 1, ?_, by simp; omega, hz.2⟩, ?_⟩
   ·show W ((j : Int) - 1) = _
    rw [Do (by omega)]
    omega
   ·show (W ((j : Int) - 1)).toNat < (j : Int).toNat
    rw [Do (by omega)]
    omega
  ·have hi3 : i <= 2 := by omega
   have hr : Xb (i : Int) 3 = some (i : Int) := by
    unfold Xb
    rw [if_neg (by decide)]
    rcases (by omega : i = 0 \/ i = 1 \/ i = 2) with rfl | rfl | rfl <;> rfl
   have hq : Ia (i : Int) 3 = some 0 := by
    unfold Ia
    rw [if_neg (by decide)]
    rcases (by omega : i = 0 \/ i = 1 \/ i = 2) with rfl | rfl | rfl <;> decide
   refine Ok.bindE hr ?_
   refine Ok.bind (He (by omega) (by show (i : Int) < 3; omega)) fun s hs => ?_
   refine Ok.bindE hq ?_
   refine Ok.bind (He (by omega) (by decide)) fun u hu => ?_
   have h1 : s.size <= 5 := by
    simp only [yI, zH, aA9] at hs
    rcases hs with rfl | rfl | rfl <;> decide
   have h2 : u.size <= 1 := by
    simp only [yI, zH, aA9] at hu
    rcases hu with rfl | rfl <;> decide
   refine Ok.bind (mV (by omega)) ?_
   rintro v rfl
   refine Ok.bindE (Ey (by rw [yJ]; omega)) ?_
   refine Ok.ret ⟨⟨i + 1, Cl (by omega), by omega, ?_, fun q hq => ?_, g3⟩, ?_⟩
   ·show (l ++ [_]).length = _
    rw [xS, c3]
    rfl
   ·rcases yQ.1 hq with hq | hq
    ·exact c4 q hq
    ·rw [xQ.1 hq]
     refine ⟨?_, by show b.length <= 100; omega⟩
     show (s ++ u).size <= 40
     rw [ByteArray.size_append]
     omega
   ·show 3 - (W ((i : Int) + 1)).toNat < 3 - (i : Int).toNat
    rw [Cl (by omega)]
    omega
 ·refine Ok.loop (fun t : Int × Am × List Bc => ∃ j : Nat, t.1 = (j : Int) /\ j <= 7 /\ t.2.2.length <= j /\ (∀ s ∈ t.2.2, s.Name.size <= 40 /\ 0 <= s.Value /\ s.Value < 1048576) /\ S6 t.2.1) (fun t => 7 - t.1.toNat) ?_ ⟨0, rfl, by omega, xX _, (fun s hs => by cases hs), e3⟩
  rintro ⟨y, d4, r⟩ ⟨j, g1, g2, g3, g4, g5⟩
  simp only at g1 g3 g4 g5
  subst g1
  show Ok (Cn.l4 l (j : Int) d4 r) _
  unfold Cn.l4
  refine Ok.cond (fun hj => ?_) fun _ => Ok.up (Ok.ret ⟨⟨by show l.length <= 3; omega, by show r.length <= 8; omega, c4, g4⟩, by show r.length <= 7; omega, g5⟩)
  have hj : (j : Int) < 7 := xU hj
  have dec : 7 - (W ((j : Int) + 1)).toNat < 7 - (j : Int).toNat := by
   rw [Cl (by omega)]
   omega
  unfold Cn.j5
  refine Ok.bind (rH g5 2 (by omega) (by omega)) ?_
  rintro ⟨f, d5⟩ h5
  simp only at h5
  refine Ok.cond (fun _ => ?_) fun _ => Ok.ret ⟨⟨j + 1, Cl (by omega), by omega, by show r.length <= _; omega, g4, h5⟩, dec⟩
  refine Ok.bind (He (by omega) hj) fun s hs => ?_
  have h1 : s.size <= 40 := by
   simp only [yI, zH, aA9] at hs
   rcases hs with rfl | rfl | rfl | rfl | rfl | rfl | rfl <;> decide
  refine Ok.bind (I5 h5 1048576 (by omega) (by omega)) ?_
  rintro ⟨v, d6⟩ ⟨⟨k1, k2⟩, k3⟩
  simp only at k1 k2 k3
  refine Ok.bindE (Ey (by rw [yJ]; omega)) ?_
  refine Ok.ret ⟨⟨j + 1, Cl (by omega), by omega, ?_, fun q hq => ?_, k3⟩, dec⟩
  ·show (r ++ [_]).length <= _
   rw [xS, yJ]
   omega
  ·rcases yQ.1 hq with hq | hq
   ·exact g4 q hq
   ·rw [xQ.1 hq]
    exact ⟨h1, k1, k2⟩
theorem Mj {y : Bv × Am} {p : List Ai} {b : List UInt8} {l : List Bc} (hp : p.length <= 1000) (hx : T2 ⟨y.1.Sections, l⟩) : Ok (Bz.j2 y p b l) (fun r => r = true) := by
 have hl : Lo p := Vc (by omega)
 obtain ⟨r, a1, a2, a3⟩ := gV (b := b) hl
 obtain ⟨s, b1, b2, b3⟩ := fB (b := b) hl
 obtain ⟨u, c1, c2, c3⟩ := jD hl hx
 unfold Bz.j2
 simp only [a1, a2, b1, b2, c1, c2, xJ, Kb p hl, Gk p hl, decide_true, xT, Vr r.1 (by omega), Pb s.1 (by omega), Vm u.1 (by omega), cB]
 exact Ok.ret rfl
theorem Sp (l : List Int) (odd : UInt8) : Bz l odd = some true := by
 refine Ok.true_ ?_
 unfold Bz
 refine Ok.bindE (a := decide ((l.length : Int) <= 400)) rfl ?_
 refine Ok.cond (fun _ => Ok.bindE cB (Ok.ret rfl)) fun hlt => ?_
 have hlt : l.length <= 400 := by simp at hlt; omega
 refine Ok.bind (mP hlt) fun d hd => ?_
 refine Ok.bind (nE hd) ?_
 rintro ⟨p, d1⟩ ⟨p1, p2, -, hd1⟩
 simp only at p1 p2 hd1
 refine Ok.bind (lD hd1) ?_
 rintro ⟨x, d2⟩ ⟨hx, hsy, hd2⟩
 simp only at hx hsy hd2
 refine Ok.bind (mK hd2 120 (by omega)) ?_
 rintro ⟨b, d3⟩ ⟨-, hd3⟩
 simp only at hd3
 refine Ok.bindE (a := odd % 11) rfl ?_
 have hx' : T2 ⟨x.Sections, x.Symbols⟩ := hx
 refine Ok.cond (fun _ => ?_) fun _ => ?_
 ·refine Ok.bind (He (by omega) (by show (0 : Int) < (p.length : Int); omega)) fun e _ => Mj (by unfold Bi; rw [aA3]; show p.length <= 1000; omega) hx'
 refine Ok.cond (fun _ => ?_) fun _ => ?_
 ·refine Ok.bind (He (by omega) (by show (0 : Int) < (p.length : Int); omega)) fun e _ => Mj (by unfold Bi; rw [aA3]; show p.length <= 1000; omega) hx'
 refine Ok.cond (fun _ => ?_) fun _ => ?_
 ·refine Ok.bind (I5 hd3 2 (by omega) (by omega)) ?_
  rintro ⟨v, d4⟩ ⟨⟨k1, k2⟩, k3⟩
  simp only at k1 k2 k3
  rw [Do (show -9223372036854775808 <= 64 + v /\ 64 + v <= 9223372036854775807 by omega)]
  refine Ok.bindE (a := List.replicate (64 + v).toNat (0 : UInt8)) (by
   unfold U8
   rw [if_pos (by omega)]) ?_
  refine Ok.bind (He (by omega) (by show (0 : Int) < (p.length : Int); omega)) fun e _ => Mj (by unfold Bi; rw [aA3]; show p.length <= 1000; omega) hx'
 refine Ok.cond (fun _ => ?_) fun _ => ?_
 ·refine Ok.loop (fun t : Am × List Ai => S6 t.1 /\ 1 <= t.2.length /\ t.2.length <= 33) (fun t => 33 - t.2.length) ?_ ⟨hd3, p1, by show p.length <= 33; omega⟩
  rintro ⟨d4, q⟩ ⟨e1, e2, e3⟩
  simp only at e1 e2 e3
  show Ok (Bz.l1 (x, d2) (b, d3) d4 q) _
  unfold Bz.l1
  refine Ok.bind (I5 e1 2 (by omega) (by omega)) ?_
  rintro ⟨v, d5⟩ ⟨⟨k1, k2⟩, k3⟩
  simp only at k1 k2 k3
  rw [Do (show -9223372036854775808 <= 32 + v /\ 32 + v <= 9223372036854775807 by omega)]
  refine Ok.cond (fun h => ?_) fun _ => Ok.up (Mj (by omega) hx')
  have h := xU h
  refine Ok.bind (He (by omega) (by omega)) fun e _ => ?_
  refine Ok.bindE (Ey (by rw [yJ]; omega)) (Ok.ret ⟨⟨k3, ?_, ?_⟩, ?_⟩)
  ·show 1 <= (q ++ [e]).length
   rw [xS]
   omega
  ·show (q ++ [e]).length <= 33
   rw [xS, yJ]
   omega
  ·show 33 - (q ++ [e]).length < 33 - q.length
   rw [xS, yJ]
   omega
 refine Ok.cond (fun _ => ?_) fun _ => ?_
 ·refine Ok.bind (J3 hd3 _ (by decide) (by decide)) ?_
  rintro ⟨v, d4⟩ ⟨hv, -⟩
  simp only [yI, zH, aA9] at hv
  refine Ok.bindE (a := List.replicate v.toNat (0 : UInt8)) (by
   unfold U8
   rw [if_pos (by show 0 <= v /\ v.toNat * 1 <= 140737488355328 /\ v <= 1000000; omega)]) ?_
  refine Ok.bind (He (by omega) (by show (0 : Int) < (p.length : Int); omega)) fun e _ => Mj (by unfold Bi; rw [aA3]; show p.length <= 1000; omega) hx'
 refine Ok.cond (fun _ => ?_) fun _ => Mj (by show p.length <= 1000; omega) hx'
 refine Ok.bindE (Ey (by rw [yJ]; show (x.Symbols.length + 1) * 48 <= _; omega)) (Mj (by show p.length <= 1000; omega) ⟨hx.sec, ?_, hx.inS, fun s hs => ?_⟩)
 ·show (x.Symbols ++ [_]).length <= 8
  rw [xS, yJ]
  omega
 ·rcases yQ.1 hs with hs | hs
  ·exact hx.inY s hs
  ·rw [xQ.1 hs]
   exact ⟨by decide, by decide, by decide⟩
end
end Go.Proofs.Ytfkgbfhpibiheaa
