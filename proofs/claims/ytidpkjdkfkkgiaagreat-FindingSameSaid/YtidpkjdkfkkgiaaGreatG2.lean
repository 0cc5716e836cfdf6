import Derived.Test.YtidpkjdkfkkgiaaGreatG1
import Derived.KernelRfl
set_option autoImplicit false
set_option linter.unusedVariables false
set_option linter.unusedSimpArgs false
namespace Go.Proofs.YtidpkjdkfkkgiaaGreat
open Go
def nE (lo hi : Int) (l : List Int) (i : Nat) : Prop := ∀ x, l[i]? = some x -> (lo <= x /\ x <= hi) /\ x ∉ l.take i
theorem nE.out {lo hi : Int} {l : List Int} {i : Nat} (h : l.length <= i) : nE lo hi l i := fun x hx => by have := Oq hx; omega
structure tV (h : C7) : Prop where
 most : 1 <= h.Most /\ h.Most <= 4
 sn : 1 <= h.Suites.length /\ h.Suites.length <= 16
 hn : h.Hashes.length <= 16
 suites : ∀ i, nE 0 65535 h.Suites i
 hashes : ∀ i, nE 1 255 h.Hashes i
structure ChV (c : Cz) : Prop where
 version : 1 <= c.Version /\ c.Version <= 4
 suite : 0 <= c.Suite /\ c.Suite <= 65535
 key : 0 <= c.KeyId /\ c.KeyId <= 2147483648
theorem Yb (l : List Int) (lo hi : Int) (hl : l.length <= 1000) : Ok (Bx l lo hi) (fun b => b = true ↔ ∀ i, nE lo hi l i) := by
 unfold Bx
 refine V2 l.length (nE lo hi l) (fun i hi' hV => ?_) fun hV => ?_
 ·obtain ⟨x, hx⟩ : ∃ x, l[i]? = some x := ⟨_, List.getElem?_eq_getElem hi'⟩
  show Ok (Bx.l1 l lo hi (i : Int)) _
  unfold Bx.l1
  refine oI hx ?_
  refine Ok.cond (fun c => Rc (by omega) (fun _ => ⟨fun h => (by cases h), fun v => by have := of_decide_eq_true c; have := (v i x hx).1; omega⟩) fun h => by cases h) fun c1 => ?_
  refine Ok.cond (fun c => Rc (by omega) (fun _ => ⟨fun h => (by cases h), fun v => by have := of_decide_eq_true c; have := (v i x hx).1; omega⟩) fun h => by cases h) fun c2 => ?_
  have c1 := of_decide_eq_false c1
  have c2 := of_decide_eq_false c2
  rw [cX (by omega), Option.bind_some, Mp _ _ (by rw [List.length_take]; omega), Option.bind_some]
  refine Rc (by omega) (fun h => ⟨fun h => (by cases h), fun v => absurd (of_decide_eq_true h) (v i x hx).2⟩) fun h z hz => ?_
  rw [hx] at hz; cases hz
  exact ⟨by omega, of_decide_eq_false h⟩
 ·show Ok (Bx.l1 l lo hi (l.length : Int)) _
  unfold Bx.l1
  exact aS (Ok.up (Ok.ret ⟨fun _ i => if h : i < l.length then hV i h else nE.out (by omega), fun _ => rfl⟩))
theorem V6 (l : List Int) (lo hi : Int) (hl : l.length <= 1000) : Ok (Ch l lo hi) (fun b => b = true ↔ ∀ i, nE lo hi l i) := by
 unfold Ch
 refine V2 l.length (nE lo hi l) (fun i hi' hV => ?_) fun hV => ?_
 ·obtain ⟨x, hx⟩ : ∃ x, l[i]? = some x := ⟨_, List.getElem?_eq_getElem hi'⟩
  show Ok (Ch.l1 l lo hi (i : Int)) _
  unfold Ch.l1
  refine oI hx ?_
  refine Ok.cond (fun c => Rc (by omega) (fun _ => ⟨fun h => (by cases h), fun v => by have := of_decide_eq_true c; have := (v i x hx).1; omega⟩) fun h => by cases h) fun c1 => ?_
  refine Ok.cond (fun c => Rc (by omega) (fun _ => ⟨fun h => (by cases h), fun v => by have := of_decide_eq_true c; have := (v i x hx).1; omega⟩) fun h => by cases h) fun c2 => ?_
  have c1 := of_decide_eq_false c1
  have c2 := of_decide_eq_false c2
  rw [cX (by omega), Option.bind_some, Yg _ _ (by unfold Lo; rw [List.length_take]; omega), Option.bind_some]
  refine Rc (by omega) (fun h => ⟨fun h => (by cases h), fun v => absurd (of_decide_eq_true h) (v i x hx).2⟩) fun h z hz => ?_
  rw [hx] at hz; cases hz
  exact ⟨by omega, of_decide_eq_false h⟩
 ·show Ok (Ch.l1 l lo hi (l.length : Int)) _
  unfold Ch.l1
  exact aS (Ok.up (Ok.ret ⟨fun _ i => if h : i < l.length then hV i h else nE.out (by omega), fun _ => rfl⟩))
theorem Zu (h : C7) (h1 : h.Suites.length <= 1000) (h2 : h.Hashes.length <= 1000) : Ok (Cl h) (fun b => b = true ↔ tV h) := by
 have no : ¬ tV h -> Ok (some false) (fun b => b = true ↔ tV h) := fun n => Ok.ret ⟨fun h => (by cases h), fun v => absurd v n⟩
 unfold Cl
 refine Ok.cond (fun c => no fun v => by have := of_decide_eq_true c; have := v.most; omega) fun c1 => ?_
 refine Ok.cond (fun c => no fun v => by have := of_decide_eq_true c; have := v.most; omega) fun c2 => ?_
 refine Ok.cond (fun c => no fun v => by have := of_decide_eq_true c; have := v.sn; omega) fun c3 => ?_
 refine Ok.cond (fun c => no fun v => by have := of_decide_eq_true c; have := v.sn; omega) fun c4 => ?_
 refine Ok.cond (fun c => no fun v => by have := of_decide_eq_true c; have := v.hn; omega) fun c5 => ?_
 have c1 := of_decide_eq_false c1
 have c2 := of_decide_eq_false c2
 have c3 := of_decide_eq_false c3
 have c4 := of_decide_eq_false c4
 have c5 := of_decide_eq_false c5
 refine Ok.bind (Yb _ _ _ h1) fun y hy => ?_
 refine Ok.cond (fun c => ?_) fun c => no fun v => by rw [hy.2 v.suites] at c; cases c
 refine Ok.bind (Yb _ _ _ h2) fun z hz => Ok.ret ⟨fun e => ⟨by omega, by omega, by omega, hy.1 c, hz.1 e⟩, fun v => hz.2 v.hashes⟩
theorem fG (h : C7) (h1 : h.Suites.length <= 1000) (h2 : h.Hashes.length <= 1000) : Ok (Kc h) (fun b => b = true ↔ tV h) := by
 have no : ¬ tV h -> Ok (some false) (fun b => b = true ↔ tV h) := fun n => Ok.ret ⟨fun h => (by cases h), fun v => absurd v n⟩
 unfold Kc
 refine Ok.cond (fun c1 => ?_) fun c => no fun v => by have := of_decide_eq_false c; have := v.most; omega
 refine Ok.cond (fun c2 => ?_) fun c => no fun v => by have := of_decide_eq_false c; have := v.most; omega
 refine Ok.cond (fun c3 => ?_) fun c => no fun v => by have := of_decide_eq_false c; have := v.sn; omega
 refine Ok.cond (fun c4 => ?_) fun c => no fun v => by have := of_decide_eq_false c; have := v.sn; omega
 refine Ok.cond (fun c5 => ?_) fun c => no fun v => by have := of_decide_eq_false c; have := v.hn; omega
 have c1 := of_decide_eq_true c1
 have c2 := of_decide_eq_true c2
 have c3 := of_decide_eq_true c3
 have c4 := of_decide_eq_true c4
 have c5 := of_decide_eq_true c5
 refine Ok.bind (V6 _ _ _ h1) fun y hy => ?_
 refine Ok.cond (fun c => ?_) fun c => no fun v => by rw [hy.2 v.suites] at c; cases c
 refine Ok.bind (V6 _ _ _ h2) fun z hz => Ok.ret ⟨fun e => ⟨by omega, by omega, by omega, hy.1 c, hz.1 e⟩, fun v => hz.2 v.hashes⟩
theorem eE (h : C7) (h1 : h.Suites.length <= 1000) (h2 : h.Hashes.length <= 1000) : Ok (Bw h) (fun y => Dc 23 (tV h) y.2) := by
 unfold Bw
 refine Ok.bind (Zu h h1 h2) fun y hy => ?_
 refine Ok.cond (fun c => Ok.ret (.inr ⟨rfl, fun v => by rw [hy.2 v] at c; cases c⟩)) fun c => ?_
 have v := hy.1 (by simpa using c)
 refine Ok.loop (fun s : Int × List UInt8 => ∃ i : Nat, s.1 = (i : Int) /\ i <= h.Suites.length /\ s.2.length <= 3 + 2 * i) (fun s => h.Suites.length - s.1.toNat) ?_ ⟨0, rfl, Nat.zero_le _, Nat.le_refl _⟩
 rintro ⟨_, b⟩ ⟨i, rfl, hi, hb⟩
 dsimp only at hb
 show Ok (Bw.l1 h (i : Int) b) _
 unfold Bw.l1
 refine Ok.cond (fun c => ?_) fun _ => Ok.up ?_
 ·have hil : i < h.Suites.length := by have := of_decide_eq_true c; omega
  obtain ⟨x, hx⟩ : ∃ x, h.Suites[i]? = some x := ⟨_, List.getElem?_eq_getElem hil⟩
  rw [Eg, hx, Option.bind_some]
  refine Ok.bindE (a := _) rfl ?_
  refine Ok.bind (Ju (by show (b.length + 2) * 1 <= _; omega)) fun l hl => ?_
  subst hl
  rw [Gq (by omega)]
  exact Ok.ret ⟨⟨i + 1, rfl, hil, by show (b ++ [_, _]).length <= 3 + 2 * (i + 1); rw [List.length_append]; show b.length + 2 <= _; omega⟩, by show h.Suites.length - ((i + 1 : Nat) : Int).toNat < h.Suites.length - ((i : Nat) : Int).toNat; omega⟩
 ·refine Ok.bind (Ju (by show (b.length + 1) * 1 <= _; omega)) fun l hl => ?_
  refine Ok.loop (fun s : Int × List UInt8 => ∃ i : Nat, s.1 = (i : Int) /\ i <= h.Hashes.length /\ s.2.length <= 5000 + i) (fun s => h.Hashes.length - s.1.toNat) ?_ ⟨0, rfl, Nat.zero_le _, by show l.length <= 5000 + 0; rw [hl, List.length_append]; show b.length + 1 <= _; omega⟩
  rintro ⟨_, b2⟩ ⟨k, rfl, hk, hb2⟩
  dsimp only at hb2
  show Ok (Bw.l2 h (k : Int) b2) _
  unfold Bw.l2
  refine Ok.cond (fun c => ?_) fun _ => Ok.up (Ok.ret (.inl ⟨rfl, v⟩))
  have hkl : k < h.Hashes.length := by have := of_decide_eq_true c; omega
  obtain ⟨x, hx⟩ : ∃ x, h.Hashes[k]? = some x := ⟨_, List.getElem?_eq_getElem hkl⟩
  rw [Eg, hx, Option.bind_some]
  refine Ok.bind (Ju (by show (b2.length + 1) * 1 <= _; omega)) fun l hl => ?_
  subst hl
  rw [Gq (by omega)]
  exact Ok.ret ⟨⟨k + 1, rfl, hkl, by show (b2 ++ [_]).length <= 5000 + (k + 1); rw [List.length_append]; show b2.length + 1 <= _; omega⟩, by show h.Hashes.length - ((k + 1 : Nat) : Int).toNat < h.Hashes.length - ((k : Nat) : Int).toNat; omega⟩
theorem X5 (c : Cz) : Ok (Fo c) (fun b => b = true ↔ ChV c) := by
 have no : ¬ ChV c -> Ok (some false) (fun b => b = true ↔ ChV c) := fun n => Ok.ret ⟨fun h => (by cases h), fun v => absurd v n⟩
 unfold Fo
 refine Ok.cond (fun c1 => ?_) fun e => no fun v => by have := of_decide_eq_false e; have := v.version; omega
 refine Ok.cond (fun c2 => ?_) fun e => no fun v => by have := of_decide_eq_false e; have := v.version; omega
 refine Ok.cond (fun c3 => ?_) fun e => no fun v => by have := of_decide_eq_false e; have := v.suite; omega
 refine Ok.cond (fun c4 => ?_) fun e => no fun v => by have := of_decide_eq_false e; have := v.suite; omega
 refine Ok.cond (fun c5 => ?_) fun e => no fun v => by have := of_decide_eq_false e; have := v.key; omega
 have c1 := of_decide_eq_true c1
 have c2 := of_decide_eq_true c2
 have c3 := of_decide_eq_true c3
 have c4 := of_decide_eq_true c4
 have c5 := of_decide_eq_true c5
 exact Ok.ret ⟨fun e => ⟨by omega, by omega, c5, of_decide_eq_true e⟩, fun v => decide_eq_true v.key.2⟩
theorem aU (c : Cz) : Ok (Fb c) (fun y => Dc 23 (ChV c) y.2) := by
 unfold Fb
 refine Ok.bind (X5 c) fun y hy => ?_
 refine Ok.cond (fun e => Ok.ret (.inr ⟨rfl, fun v => by rw [hy.2 v] at e; cases e⟩)) fun e => ?_
 refine Ok.bindE (a := _) rfl (Ok.bindE (a := _) rfl (Ok.bindE (a := _) rfl (Ok.bindE (a := _) rfl ?_)))
 exact Ok.ret (.inl ⟨rfl, hy.1 (by simpa using e)⟩)
theorem W2 : ∃ l, Dd = some l /\ l.length = 16 /\ ∀ x ∈ l, 0 < K0 x.Cipher /\ 0 < K0 x.Mac := by
 unfold Dd Co
 simp only [Option.bind_some]
 refine Ok.loop (fun s : Int × List Ay => ∃ i : Nat, s.1 = (i : Int) /\ i <= 16 /\ s.2.length = 16 /\ ∀ x ∈ s.2, 0 < K0 x.Cipher /\ 0 < K0 x.Mac) (fun s => 16 - s.1.toNat) ?_ ⟨0, rfl, by omega, rfl, by decide +kernel⟩
 rintro ⟨_, l⟩ ⟨i, rfl, hi, hl, hu⟩
 dsimp only at hl hu
 show Ok (Dd.l1 _ _ _ _ _ _ _ _ _ _ _ _ _ _ _ _ _ _ _ _ _ _ (i : Int) l) _
 unfold Dd.l1
 refine Ok.cond (fun h => ?_) fun _ => Ok.up (Ok.ret ⟨hl, hu⟩)
 have h : (i : Int) < 16 := of_decide_eq_true h
 refine Ok.bind (Kr (by omega) (by omega)) fun e he => Ok.ret ⟨⟨i + 1, by show W ((i : Int) + 1) = _; rw [Ee (by omega)]; omega, by omega, ?_, fun x hx => ?_⟩, ?_⟩
 ·show (Cs l _ _).length = 16
  unfold Cs
  rw [List.length_set]; exact hl
 ·have hx : x ∈ Cs l (i : Int).toNat _ := hx
  unfold Cs at hx
  rcases List.mem_or_eq_of_mem_set hx with hx | rfl
  ·exact hu x hx
  ·exact hu e he
 ·show 16 - (W ((i : Int) + 1)).toNat < 16 - ((i : Nat) : Int).toNat
  rw [Ee (by omega)]; omega
theorem Xw (n : Int) : Ok (Dq n) (fun y => Dc 8 (rV n) y.2 /\ (y.2 = 0 -> 0 < K0 y.1.Cipher /\ 0 < K0 y.1.Mac)) := by
 obtain ⟨l, hl, hlen, hu⟩ := W2
 unfold Dq
 rw [hl, Option.bind_some]
 refine Ok.cond (fun h => ?_) fun h => ?_
 ·exact Ok.ret ⟨.inr ⟨rfl, fun v => by have := of_decide_eq_true h; have := v.1; omega⟩, fun h => by cases h⟩
 ·have h := of_decide_eq_false h
  refine Ok.cond (fun g => Ok.ret ⟨.inr ⟨rfl, fun v => by have := of_decide_eq_true g; have := v.2; omega⟩, fun h => by cases h⟩) fun g => ?_
  have g := of_decide_eq_false g
  rw [Ee (by omega)]
  exact Ok.bind (Kr (by omega) (by omega)) fun e he => Ok.ret ⟨.inl ⟨rfl, by omega, by omega⟩, fun _ => hu e he⟩
def X3 (at' : Aa) (c : Cz) (s : Ay × Int) : List Aa :=
 [Oh at' 2 ⟨0, 0⟩ c.Suite, Oh at' 4 ⟨0, 0⟩ c.Version] ++ bif decide (s.2 = 0) then [Oh at' 1 s.1.Cipher 0, Oh at' 1 s.1.Mac 0] else []
theorem oZ {at' : Aa} (h : Oz at') (c : Cz) (s : Ay × Int) : ∀ f ∈ X3 at' c s, Oz f := by
 intro f hf
 have : ∃ k u n, f = Oh at' k u n := by
  unfold X3 at hf
  rcases List.mem_append.1 hf with hf | hf
  ·simp only [List.mem_cons, List.not_mem_nil, or_false] at hf
   rcases hf with rfl | rfl <;> exact ⟨_, _, _, rfl⟩
  ·cases hz : decide (s.2 = 0) with
   | true =>
    rw [hz, cond_true] at hf
    simp only [List.mem_cons, List.not_mem_nil, or_false] at hf
    rcases hf with rfl | rfl <;> exact ⟨_, _, _, rfl⟩
   | false => rw [hz, cond_false] at hf; cases hf
 obtain ⟨k, u, n, rfl⟩ := this
 exact Xg h k u n
theorem gW {at' : Aa} (h : Oz at') (hb : Sv (Sr at') = false) {m : C7} {c : Cz} (h1 : m.Suites.length <= 1000) (h2 : m.Hashes.length <= 1000) (hm : tV m) (hc : ChV c) {s : Ay × Int} (hs : Dq c.Suite = some s) : C1 at' m c = some (Y4 (X3 at' c s)) := by
 unfold C1
 rw [kF h, Option.bind_some, jU hb, decide_eq_true rfl, Bool.not_true, cond_false]
 obtain ⟨y2, e2, d2⟩ := eE m h1 h2
 obtain ⟨y3, e3, d3⟩ := aU c
 have z2 : y2.2 = 0 := by
  rcases d2 with ⟨q, -⟩ | ⟨-, q⟩
  ·exact q
  ·exact absurd hm q
 have z3 : y3.2 = 0 := by
  rcases d3 with ⟨q, -⟩ | ⟨-, q⟩
  ·exact q
  ·exact absurd hc q
 rw [e2, Option.bind_some, z2, decide_eq_true rfl, Bool.not_true, cond_false, e3, Option.bind_some, z3, decide_eq_true rfl, Bool.not_true, cond_false]
 rw [Qo _ _ _ _ _ (Nat.zero_le _), Option.bind_some, Qo _ _ _ _ _ (by show (1 : Nat) <= 1000; omega), Option.bind_some, hs, Option.bind_some]
 have fin : ∀ l, l.length <= 10 -> (∀ f ∈ l, Oz f) -> C1.j1 (Sr at').Source (Sr at').Host (Sr at').Machine (Sr at').Day (Sr at').Confidence (Sr at').Kind (Sr at').Subject (Sr at').Use.Alg (Sr at').Use.Bits (Sr at').Number (Sr at').Text l = some (Y4 l) := fun l hl hf => by
  unfold C1.j1
  rw [vE l (by omega) hf]; rfl
 have hfit := oZ h c s
 unfold X3 at hfit ⊢
 cases hz : decide (s.2 = 0) with
 | true =>
  rw [hz] at hfit
  rw [cond_true, Qo _ _ _ _ _ (by show (2 : Nat) <= 1000; omega), Option.bind_some, Qo _ _ _ _ _ (by show (3 : Nat) <= 1000; omega), Option.bind_some]
  exact fin _ (by show (4 : Nat) <= 10; omega) hfit
 | false =>
  rw [hz] at hfit
  rw [cond_false]
  exact fin _ (by show (2 : Nat) <= 10; omega) hfit
end Go.Proofs.YtidpkjdkfkkgiaaGreat
