import Derived.Test.YtidpkjdkfkkgiaaGreatSH
set_option autoImplicit false
set_option linter.unusedVariables false
set_option linter.unusedSimpArgs false
namespace Go.Proofs.YtidpkjdkfkkgiaaGreat
open Go
theorem V2 {R : Type} {body : Int -> Option (Lp Int R)} {Q : R -> Prop} (n : Nat) (V : Nat -> Prop)
  (h1 : ∀ i, i < n -> (∀ j, j < i -> V j) -> Ok (body (i : Int)) (sX (fun s' => s' = ((i + 1 : Nat) : Int) /\ V i) Q))
  (h2 : (∀ j, j < n -> V j) -> Ok (body (n : Int)) (sX (fun _ => False) Q)) : Ok (Cf body 0) Q := by
 refine Ok.loop (fun s => ∃ i : Nat, s = (i : Int) /\ i <= n /\ ∀ j, j < i -> V j) (fun s => n - s.toNat) ?_ ⟨0, rfl, Nat.zero_le _, fun j hj => absurd hj (Nat.not_lt_zero _)⟩
 rintro _ ⟨i, rfl, hi, hV⟩
 by_cases hn : i < n
 ·refine (h1 i hn hV).mono fun o ho => ?_
  cases o with
  | done r => exact ho
  | next s' =>
   obtain ⟨rfl, hv⟩ := ho
   refine ⟨⟨i + 1, rfl, hn, fun j hj => ?_⟩, by show n - ((i + 1 : Nat) : Int).toNat < n - ((i : Nat) : Int).toNat; omega⟩
   by_cases e : j = i
   ·rw [e]; exact hv
   ·exact hV j (by omega)
 ·obtain rfl : i = n := by omega
  refine (h2 hV).mono fun o ho => ?_
  cases o with
  | done r => exact ho
  | next s' => exact ho.elim
theorem Rc {R : Type} {i : Nat} {b : Bool} {r : R} {V : Prop} {Q : R -> Prop} (hi : i < 4611686018427387904) (h1 : b = true -> Q r) (h2 : b = false -> V) : Ok (cond b (up (some r)) (some (.next (W ((i : Int) + 1))))) (sX (fun s' => s' = ((i + 1 : Nat) : Int) /\ V) Q) := by
 refine Ok.cond (fun h => Ok.up (Ok.ret (h1 h))) fun h => Ok.ret ⟨Gq hi, h2 h⟩
theorem yI {α T : Type} {l : List α} {i : Nat} (hi : i < l.length) (hl : Lo l) {k : α -> Option T} {z : Option T} {Q : T -> Prop} (h0 : i = 0 -> Ok z Q) (h1 : ∀ x, 0 < i -> l[i - 1]? = some x -> Ok (k x) Q) :
  Ok (cond (decide (0 < (i : Int))) ((B1 l (W ((i : Int) - 1))).bind k) z) Q := by
 unfold Lo at hl
 refine Ok.cond (fun h => ?_) fun h => h0 (by have := of_decide_eq_false h; omega)
 have h := of_decide_eq_true h
 obtain ⟨x, hx⟩ : ∃ x, l[i - 1]? = some x := ⟨_, List.getElem?_eq_getElem (by omega)⟩
 rw [Ee (by omega), show (i : Int) - 1 = ((i - 1 : Nat) : Int) by omega, Eg, hx]
 exact h1 x (by omega) hx
theorem oI {α T : Type} {l : List α} {i : Nat} {k : α -> Option T} {e : Option T} {Q : T -> Prop} {x : α} (hx : l[i]? = some x) (h : Ok (k x) Q) : Ok (cond (decide ((i : Int) < (l.length : Int))) ((B1 l (i : Int)).bind k) e) Q := by
 rw [H8 hx]; exact h
theorem aS {T : Type} {n : Nat} {a e : Option T} {Q : T -> Prop} (h : Ok e Q) : Ok (cond (decide ((n : Int) < (n : Int))) a e) Q := by
 rw [Ge]; exact h
def VA {α : Type} (R : α -> α -> Prop) (l : List α) (i : Nat) : Prop := ∀ x y, 0 < i -> l[i - 1]? = some x -> l[i]? = some y -> R x y
theorem VA.zero {α : Type} {R : α -> α -> Prop} {l : List α} {i : Nat} (h : i = 0) : VA R l i := fun x y h0 => by omega
theorem VA.at {α : Type} {R : α -> α -> Prop} {l : List α} {i : Nat} {x y : α} (hx : l[i - 1]? = some x) (hy : l[i]? = some y) (h : R x y) : VA R l i := fun a b _ ha hb => by
 rw [hx] at ha; rw [hy] at hb
 cases ha; cases hb; exact h
theorem VA.out {α : Type} {R : α -> α -> Prop} {l : List α} {i : Nat} (h : l.length <= i) : VA R l i := fun x y _ _ hy => by have := Oq hy; omega
def Dc (k : Int) (V : Prop) (y : Int) : Prop := (y = 0 /\ V) \/ (y = k /\ ¬ V)
theorem Dc.no {k : Int} {V : Prop} (h : ¬ V) : Ok (some k) (Dc k V) := Ok.ret (.inr ⟨rfl, h⟩)
theorem Dc.yes {k : Int} {V : Prop} (h : V) : Ok (some 0) (Dc k V) := Ok.ret (.inl ⟨rfl, h⟩)
theorem Dc.same {k : Int} {V : Prop} {x y : Option Int} (h : Ok x (Dc k V)) (g : Ok y (Dc k V)) : x = y := by
 obtain ⟨a, rfl, h⟩ := h
 obtain ⟨b, rfl, g⟩ := g
 rcases h with ⟨rfl, h⟩ | ⟨rfl, h⟩ <;> rcases g with ⟨rfl, g⟩ | ⟨rfl, g⟩
 ·rfl
 ·exact absurd h g
 ·exact absurd g h
 ·rfl
theorem Dc.zero {k : Int} {V : Prop} {x : Option Int} (h : Ok x (Dc k V)) (v : V) : x = some 0 := by
 obtain ⟨a, rfl, h⟩ := h
 rcases h with ⟨rfl, h⟩ | ⟨rfl, h⟩
 ·rfl
 ·exact absurd v h
def lQ (c : UInt8) : Bool := (decide ((c.toNat : Int) < 97) || decide (122 < (c.toNat : Int))) && ((decide ((c.toNat : Int) < 65) || decide (90 < (c.toNat : Int))) && ((decide ((c.toNat : Int) < 48) || decide (57 < (c.toNat : Int))) && (!decide ((c.toNat : Int) = 45) && (!decide ((c.toNat : Int) = 95) && !decide ((c.toNat : Int) = 46)))))
def fA (s : ByteArray) : Bool := decide (1 <= (s.size : Int)) && decide ((s.size : Int) <= 32) && !(Im s).any lQ
theorem hE (c : UInt8) : decide (0 <= bD ⟨#[45, 95, 46]⟩ c) = !(!decide ((c.toNat : Int) = 45) && (!decide ((c.toNat : Int) = 95) && !decide ((c.toNat : Int) = 46))) := by
 have h : ∀ n : Fin 256, decide (0 <= bD ⟨#[45, 95, 46]⟩ (UInt8.ofNat n.val)) = !(!decide (((UInt8.ofNat n.val).toNat : Int) = 45) && (!decide (((UInt8.ofNat n.val).toNat : Int) = 95) && !decide (((UInt8.ofNat n.val).toNat : Int) = 46))) := by decide +kernel
 have := h ⟨c.toNat, c.toNat_lt⟩
 simpa using this
theorem kV (c : UInt8) : Ic c ⟨#[45, 95, 46]⟩ = some (!lQ c) := by
 have e : ∀ a : Int, decide (a <= (c.toNat : Int)) = !decide ((c.toNat : Int) < a) := fun a => by
  by_cases h : (c.toNat : Int) < a
  ·rw [decide_eq_true h, decide_eq_false (by omega)]; rfl
  ·rw [decide_eq_false h, decide_eq_true (by omega)]; rfl
 have f : ∀ a : Int, decide ((c.toNat : Int) <= a) = !decide (a < (c.toNat : Int)) := fun a => by
  by_cases h : a < (c.toNat : Int)
  ·rw [decide_eq_true h, decide_eq_false (by omega)]; rfl
  ·rw [decide_eq_false h, decide_eq_true (by omega)]; rfl
 have i : ∀ k : Bool -> Option Bool, ((Dt ⟨#[45, 95, 46]⟩ c).bind fun y => some (decide (0 <= y))) = some (!(!decide ((c.toNat : Int) = 45) && (!decide ((c.toNat : Int) = 95) && !decide ((c.toNat : Int) = 46)))) := fun _ => by
  rw [<- hE]; rfl
 have i := i some
 unfold Ic lQ
 simp only [i, e, f]
 generalize decide ((c.toNat : Int) < 97) = a1
 generalize decide (122 < (c.toNat : Int)) = a2
 generalize decide ((c.toNat : Int) < 65) = a3
 generalize decide (90 < (c.toNat : Int)) = a4
 generalize decide ((c.toNat : Int) < 48) = a5
 generalize decide (57 < (c.toNat : Int)) = a6
 generalize (!decide ((c.toNat : Int) = 45) && (!decide ((c.toNat : Int) = 95) && !decide ((c.toNat : Int) = 46))) = a7
 cases a1 <;> cases a2 <;> cases a3 <;> cases a4 <;> cases a5 <;> cases a6 <;> rfl
theorem U5 (s : ByteArray) (hs : s.size <= 9223372036854775807) : Dw s = some (fA s) := by
 unfold Dw fA
 refine (Rp (body := fun q' => Dw.l1 s q') (Im s) (fun i => (i : Int)) lQ false (decide (1 <= (s.size : Int)) && decide ((s.size : Int) <= 32)) (fun i c hc => ?_) ?_).trans ?_
 ·have h1 := Oq hc
  rw [Tz] at h1
  show Dw.l1 s (i : Int) = _
  unfold Dw.l1
  rw [H8 hc, kV, Option.bind_some, Bool.not_not, Uf h1 hs]
  cases lQ c <;> rfl
 ·show Dw.l1 s ((Im s).length : Int) = _
  unfold Dw.l1
  rw [Ge]
  by_cases a : (1 : Int) <= (s.size : Int) <;> simp [a, up]
 ·cases (Im s).any lQ <;> simp
def rV (n : Int) : Prop := 1 <= n /\ n <= 16
theorem Xy : ∃ l, Dd = some l /\ l.length = 16 := by
 unfold Dd Co
 simp only [Option.bind_some]
 refine Ok.loop (fun s : Int × List Ay => ∃ i : Nat, s.1 = (i : Int) /\ i <= 16 /\ s.2.length = 16) (fun s => 16 - s.1.toNat) ?_ ⟨0, rfl, by omega, rfl⟩
 rintro ⟨_, l⟩ ⟨i, rfl, hi, hl⟩
 dsimp only at hl
 show Ok (Dd.l1 _ _ _ _ _ _ _ _ _ _ _ _ _ _ _ _ _ _ _ _ _ _ (i : Int) l) _
 unfold Dd.l1
 refine Ok.cond (fun h => ?_) fun _ => Ok.up (Ok.ret hl)
 have h : (i : Int) < 16 := of_decide_eq_true h
 refine Ok.bind (T0 (by omega) (by omega)) fun e _ => Ok.ret ⟨⟨i + 1, by show W ((i : Int) + 1) = _; rw [Ee (by omega)]; omega, by omega, ?_⟩, ?_⟩
 ·show (Cs l _ _).length = 16
  unfold Cs
  rw [List.length_set]; exact hl
 ·show 16 - (W ((i : Int) + 1)).toNat < 16 - ((i : Nat) : Int).toNat
  rw [Ee (by omega)]; omega
theorem Yd : ∃ l, Jq = some l /\ l.length = 16 := ⟨_, rfl, rfl⟩
theorem bW (n : Int) : Ok (Dq n) (fun y => Dc 8 (rV n) y.2) := by
 obtain ⟨l, hl, hlen⟩ : ∃ l, Dd = some l /\ l.length = 16 := Xy
 unfold Dq
 rw [hl, Option.bind_some]
 refine Ok.cond (fun h => ?_) fun h => ?_
 ·exact Ok.ret (.inr ⟨rfl, fun v => by have := of_decide_eq_true h; have := v.1; omega⟩)
 ·have h := of_decide_eq_false h
  refine Ok.cond (fun g => Ok.ret (.inr ⟨rfl, fun v => by have := of_decide_eq_true g; have := v.2; omega⟩)) fun g => ?_
  have g := of_decide_eq_false g
  rw [Ee (by omega)]
  exact Ok.bind (T0 (by omega) (by omega)) fun e _ => Ok.ret (.inl ⟨rfl, by omega, by omega⟩)
theorem bQ (n : Int) : Ok (Fa n) (fun y => Dc 8 (rV n) y.2) := by
 obtain ⟨l, hl, hlen⟩ : ∃ l, Jq = some l /\ l.length = 16 := Yd
 unfold Fa
 refine Ok.cond (fun h => ?_) fun h => ?_
 ·exact Ok.ret (.inr ⟨rfl, fun v => by have := of_decide_eq_true h; have := v.1; omega⟩)
 ·have h := of_decide_eq_false h
  refine Ok.cond (fun g => Ok.ret (.inr ⟨rfl, fun v => by have := of_decide_eq_true g; have := v.2; omega⟩)) fun g => ?_
  have g := of_decide_eq_false g
  rw [hl, Option.bind_some, Ee (by omega)]
  exact Ok.bind (T0 (by omega) (by omega)) fun e _ => Ok.ret (.inl ⟨rfl, by omega, by omega⟩)
theorem Yg (l : List Int) (n : Int) (h : Lo l) : E6 l n = some (decide (n ∈ l)) := by
 unfold E6
 refine (T1 l (fun x => decide (x = n)) true false h (fun i x hx => ?_) ?_).trans ?_
 ·show E6.l1 l n (i : Int) = _
  unfold E6.l1
  rw [H8 hx]
  cases decide (x = n) <;> rfl
 ·show E6.l1 l n (l.length : Int) = _
  unfold E6.l1
  rw [Ge]; rfl
 ·have : (l.any fun x => decide (x = n)) = decide (n ∈ l) := by
   rw [Bool.eq_iff_iff]; simp
  rw [this]; cases decide (n ∈ l) <;> rfl
def rU (l : List Int) (i : Nat) : Prop := ∀ x, l[i]? = some x -> rV x /\ x ∉ l.take i
theorem qQ {l : List Int} (h : ∀ i, rU l i) : l.Nodup := by
 rw [List.nodup_iff_pairwise_ne, List.pairwise_iff_getElem]
 intro i j hi hj hij e
 refine (h j l[j] (List.getElem?_eq_getElem hj)).2 ?_
 rw [<- e]
 exact List.mem_take_iff_getElem.2 ⟨i, by omega, rfl⟩
theorem rU.out {l : List Int} {i : Nat} (h : l.length <= i) : rU l i := fun x hx => by have := Oq hx; omega
theorem cX {l : List Int} {i : Nat} (h : i <= l.length) : dC l 0 (i : Int) = some (l.take i) := by
 unfold dC
 rw [if_pos (by omega)]
 simp
theorem cM (l : List Int) (hl : Lo l) : Ok (Ck l) (fun b => b = true ↔ ∀ i, rU l i) := by
 have hl' : l.length < 4611686018427387904 := hl
 unfold Ck
 refine V2 l.length (rU l) (fun i hi hV => ?_) fun hV => ?_
 ·obtain ⟨x, hx⟩ : ∃ x, l[i]? = some x := ⟨_, List.getElem?_eq_getElem hi⟩
  show Ok (Ck.l1 l (i : Int)) _
  unfold Ck.l1
  refine oI hx (Ok.bind (bW x) fun y hy => ?_)
  refine Ok.cond (fun h => ?_) fun h => ?_
  ·refine Rc (by omega) (fun _ => ⟨fun h => (by cases h), fun v => ?_⟩) fun h => by cases h
   rcases hy with ⟨e, hs⟩ | ⟨e, hs⟩
   ·rw [e] at h; cases h
   ·exact absurd (v i x hx).1 hs
  ·have hs : rV x := by
    rcases hy with ⟨e, hs⟩ | ⟨e, hs⟩
    ·exact hs
    ·rw [e] at h; cases h
   rw [cX (by omega), Option.bind_some, Mp _ _ (by rw [List.length_take]; omega), Option.bind_some]
   refine Rc (by omega) (fun h => ⟨fun h => (by cases h), fun v => ?_⟩) fun h => fun z hz => ?_
   ·exact absurd (of_decide_eq_true h) (v i x hx).2
   ·rw [hx] at hz; cases hz
    exact ⟨hs, of_decide_eq_false h⟩
 ·show Ok (Ck.l1 l (l.length : Int)) _
  unfold Ck.l1
  exact aS (Ok.up (Ok.ret ⟨fun _ i => if h : i < l.length then hV i h else rU.out (by omega), fun _ => rfl⟩))
theorem Ta (l : List Int) (hl : Lo l) : Ok (B5 l) (fun b => b = true ↔ ∀ i, VA (fun x y : Int => x < y) l i) := by
 have hl' : l.length < 4611686018427387904 := hl
 unfold B5
 refine V2 l.length (VA (fun x y => x < y) l) (fun i hi hV => ?_) fun hV => ?_
 ·obtain ⟨x, hx⟩ : ∃ x, l[i]? = some x := ⟨_, List.getElem?_eq_getElem hi⟩
  show Ok (B5.l1 l (i : Int)) _
  unfold B5.l1
  rw [decide_eq_true (by omega : (i : Int) < (l.length : Int)), cond_true]
  refine yI hi hl (fun h0 => ?_) fun p h0 hp => ?_
  ·exact Rc (by omega) (fun h => by cases h) fun _ => VA.zero h0
  ·rw [Eg, hx, Option.bind_some]
   refine Rc (by omega) (fun h => ⟨fun h => (by cases h), fun v => ?_⟩) fun h => VA.at hp hx (by have := of_decide_eq_false h; omega)
   have := v i p x h0 hp hx
   have := of_decide_eq_true h
   omega
 ·show Ok (B5.l1 l (l.length : Int)) _
  unfold B5.l1
  exact aS (Ok.up (Ok.ret ⟨fun _ i => if h : i < l.length then hV i h else VA.out (by omega), fun _ => rfl⟩))
theorem Yj (s : List Int) (f : Int -> Option Bool) (p : Int -> Bool) (h : Lo s) (hf : ∀ x ∈ s, f x = some (p x)) : Dr s f = some (s.any p) := by
 have hi : Bk s f = some (aY s p) := by
  unfold Bk
  refine gI s p h (fun i x hx => ?_) ?_
  ·show Bk.l1 s f (i : Int) = _
   unfold Bk.l1
   rw [H8 hx, hf x (Ja hx), Option.bind_some]
   cases p x <;> rfl
  ·show Bk.l1 s f (s.length : Int) = _
   unfold Bk.l1
   rw [Ge]; rfl
 unfold Dr
 rw [hi, Option.bind_some, gE]
structure qL (e : A6) : Prop where
 name : e.Name.size <= 9223372036854775807
 suites : Lo e.Suites
 ids : Lo e.Identities
 anchors : Lo e.Anchors
 hashes : Lo e.Hashes
 chain : ∀ x ∈ e.Identities, ∀ c ∈ x.Chain, iM c
structure EpV (e : A6) : Prop where
 name : fA e.Name = true
 least : 1 <= e.Least
 most : e.Least <= e.Most
 most4 : e.Most <= 4
 suites : ∀ i, rU e.Suites i
 idn : e.Identities.length <= 4
 ann : e.Anchors.length <= 16
 ana : ∀ i, VA (fun x y : Int => x < y) e.Anchors i
 haa : ∀ i, VA (fun x y : Int => x < y) e.Hashes i
 ids : ∀ x ∈ e.Identities, Tj x.Key x.KeyId x.Chain = true
 anr : ∀ n ∈ e.Anchors, 0 <= n /\ n <= 2147483648
 har : ∀ n ∈ e.Hashes, M1 n = 1
theorem pJ {α : Type} {l : List α} {P : α -> Prop} (h : ∀ i, i < l.length -> ∀ x, l[i]? = some x -> P x) : ∀ x ∈ l, P x := fun x hx => by
 obtain ⟨i, hi⟩ := List.mem_iff_getElem?.1 hx
 exact h i (Oq hi) x hi
theorem Oj {e : A6} (h : qL e) : Ok (Bg e) (Dc 19 (EpV e)) := by
 have hi := h.ids
 unfold Lo at hi
 unfold Bg
 rw [U5 _ h.name, Option.bind_some]
 refine Ok.cond (fun c => Dc.no fun v => by rw [v.name] at c; cases c) fun c1 => ?_
 refine Ok.cond (fun c => Dc.no fun v => by have := of_decide_eq_true c; have := v.least; omega) fun c2 => ?_
 refine Ok.cond (fun c => Dc.no fun v => by have := of_decide_eq_true c; have := v.most; omega) fun c3 => ?_
 refine Ok.cond (fun c => Dc.no fun v => by have := of_decide_eq_true c; have := v.most4; omega) fun c4 => ?_
 refine Ok.bind (cM _ h.suites) fun y2 h2 => ?_
 refine Ok.cond (fun c => Dc.no fun v => by rw [h2.2 v.suites] at c; cases c) fun c5 => ?_
 refine Ok.cond (fun c => Dc.no fun v => by have := of_decide_eq_true c; have := v.idn; omega) fun c6 => ?_
 refine Ok.cond (fun c => Dc.no fun v => by have := of_decide_eq_true c; have := v.ann; omega) fun c7 => ?_
 refine Ok.bind (Ta _ h.anchors) fun y3 h3 => ?_
 refine Ok.cond (fun c => Dc.no fun v => by rw [h3.2 v.ana] at c; cases c) fun c8 => ?_
 refine Ok.bind (Ta _ h.hashes) fun y4 h4 => ?_
 refine Ok.cond (fun c => Dc.no fun v => by rw [h4.2 v.haa] at c; cases c) fun c9 => ?_
 have n2 := h2.1 (by simpa using c5)
 have n3 := h3.1 (by simpa using c8)
 have n4 := h4.1 (by simpa using c9)
 have d2 := of_decide_eq_false c2
 have d3 := of_decide_eq_false c3
 have d4 := of_decide_eq_false c4
 have d6 := of_decide_eq_false c6
 have d7 := of_decide_eq_false c7
 refine V2 e.Identities.length (fun i => ∀ x, e.Identities[i]? = some x -> Tj x.Key x.KeyId x.Chain = true) (fun i hi' hV => ?_) fun hV => ?_
 ·obtain ⟨x, hx⟩ : ∃ x, e.Identities[i]? = some x := ⟨_, List.getElem?_eq_getElem hi'⟩
  show Ok (Bg.l3 e (i : Int)) _
  unfold Bg.l3
  refine oI hx ?_
  rw [lB _ _ _ (h.chain x (Ja hx)), Option.bind_some]
  refine Rc (by omega) (fun c => .inr ⟨rfl, fun v => by rw [v.ids x (Ja hx)] at c; cases c⟩) fun c z hz => ?_
  rw [hx] at hz; cases hz
  simpa using c
 ·show Ok (Bg.l3 e (e.Identities.length : Int)) _
  unfold Bg.l3
  refine aS (Ok.up ?_)
  refine Ok.bindE (a := ()) rfl (Ok.bindE (Yj _ _ (fun n => decide (n < 0) || decide (2147483648 < n)) h.anchors fun n _ => ?_) ?_)
  ·show ((Ej n).bind fun y => some (!y)) = _
   rw [Xj, Option.bind_some, Bool.not_not]
  refine Ok.cond (fun c => Dc.no fun v => ?_) fun c10 => ?_
  ·obtain ⟨n, h1, h2⟩ := List.any_eq_true.1 c
   have := v.anr n h1
   simp only [Bool.or_eq_true, decide_eq_true_eq] at h2
   omega
  refine Ok.bindE (a := ()) rfl (Ok.bindE (Yj _ _ (fun n => !decide (M1 n = 1)) h.hashes fun n _ => ?_) ?_)
  ·show ((I1 n).bind fun y => some (!y)) = _
   unfold I1
   rw [Po]; rfl
  refine Ok.cond (fun c => Dc.no fun v => ?_) fun c11 => Dc.yes ?_
  ·obtain ⟨n, h1, h2⟩ := List.any_eq_true.1 c
   rw [decide_eq_true (v.har n h1)] at h2
   cases h2
  ·refine ⟨by simpa using c1, by omega, by omega, by omega, n2, by omega, by omega, n3, n4, pJ hV, fun n hn => ?_, fun n hn => ?_⟩
   ·have := List.any_eq_false.1 c10 n hn
    simp only [Bool.or_eq_true, decide_eq_true_eq] at this
    omega
   ·have := List.any_eq_false.1 c11 n hn
    simpa using this
end Go.Proofs.YtidpkjdkfkkgiaaGreat
