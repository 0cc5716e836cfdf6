import Derived.Test.YtkoflhimdenjaaaGreatSH
set_option autoImplicit false
set_option linter.unusedVariables false
set_option linter.unusedSimpArgs false
namespace Go.Proofs.YtkoflhimdenjaaaGreat
open Go
theorem fW {R : Type} {body : Int -> Option (Lp Int R)} {Q : R -> Prop} (n : Nat) (V : Nat -> Prop)
  (h1 : ∀ i, i < n -> (∀ j, j < i -> V j) -> Ok (body (i : Int)) (uT (fun s' => s' = ((i + 1 : Nat) : Int) /\ V i) Q))
  (h2 : (∀ j, j < n -> V j) -> Ok (body (n : Int)) (uT (fun _ => False) Q)) : Ok (Ch body 0) Q := by
 refine Ok.loop (fun s => ∃ i : Nat, s = (i : Int) /\ i <= n /\ ∀ j, j < i -> V j) (fun s => n - s.toNat) ?_ ⟨0, rfl, Nat.zero_le _, fun j hj => absurd hj (Nat.not_lt_zero _)⟩
 rintro _ ⟨i, rfl, hi, hV⟩
 by_cases hn : i < n
 ·refine (h1 i hn hV).mono fun o ho => ?_
  cases o with
  | done r => exact ho
  | next s' =>
   obtain ⟨rfl, hv⟩ := ho
   refine ⟨⟨i + 1, rfl, hn, fun j hj => ?_⟩, by show n - ((i + 1 : Nat) : Int).toNat < n - ((i : Nat) : Int).toNat; omega⟩
   by_cases e : j = i
   ·rw [e]; exact hv
   ·exact hV j (by omega)
 ·obtain rfl : i = n := by omega
  refine (h2 hV).mono fun o ho => ?_
  cases o with
  | done r => exact ho
  | next s' => exact ho.elim
theorem dD {R : Type} {i : Nat} {b : Bool} {r : R} {V : Prop} {Q : R -> Prop} (hi : i < 4611686018427387904) (h1 : b = true -> Q r) (h2 : b = false -> V) : Ok (cond b (up (some r)) (some (.next (W ((i : Int) + 1))))) (uT (fun s' => s' = ((i + 1 : Nat) : Int) /\ V) Q) := by
 refine Ok.cond (fun h => Ok.up (Ok.ret (h1 h))) fun h => Ok.ret ⟨Hu hi, h2 h⟩
theorem wP {α T : Type} {l : List α} {i : Nat} (hi : i < l.length) (hl : Lo l) {k : α -> Option T} {z : Option T} {Q : T -> Prop} (h0 : i = 0 -> Ok z Q) (h1 : ∀ x, 0 < i -> l[i - 1]? = some x -> Ok (k x) Q) :
  Ok (cond (decide (0 < (i : Int))) ((B3 l (W ((i : Int) - 1))).bind k) z) Q := by
 unfold Lo at hl
 refine Ok.cond (fun h => ?_) fun h => h0 (by have := of_decide_eq_false h; omega)
 have h := of_decide_eq_true h
 obtain ⟨x, hx⟩ : ∃ x, l[i - 1]? = some x := ⟨_, List.getElem?_eq_getElem (by omega)⟩
 rw [Eh (by omega), show (i : Int) - 1 = ((i - 1 : Nat) : Int) by omega, Fq, hx]
 exact h1 x (by omega) hx
theorem aDe {α T : Type} {l : List α} {i : Nat} {k : α -> Option T} {e : Option T} {Q : T -> Prop} {x : α} (hx : l[i]? = some x) (h : Ok (k x) Q) : Ok (cond (decide ((i : Int) < (l.length : Int))) ((B3 l (i : Int)).bind k) e) Q := by
 rw [H7 hx]; exact h
theorem pE {T : Type} {n : Nat} {a e : Option T} {Q : T -> Prop} (h : Ok e Q) : Ok (cond (decide ((n : Int) < (n : Int))) a e) Q := by
 rw [E9]; exact h
def VA {α : Type} (R : α -> α -> Prop) (l : List α) (i : Nat) : Prop := ∀ x y, 0 < i -> l[i - 1]? = some x -> l[i]? = some y -> R x y
theorem VA.zero {α : Type} {R : α -> α -> Prop} {l : List α} {i : Nat} (h : i = 0) : VA R l i := fun x y h0 => by omega
theorem VA.at {α : Type} {R : α -> α -> Prop} {l : List α} {i : Nat} {x y : α} (hx : l[i - 1]? = some x) (hy : l[i]? = some y) (h : R x y) : VA R l i := fun a b _ ha hb => by
 rw [hx] at ha; rw [hy] at hb
 cases ha; cases hb; exact h
theorem VA.out {α : Type} {R : α -> α -> Prop} {l : List α} {i : Nat} (h : l.length <= i) : VA R l i := fun x y _ _ hy => by have := I8 hy; omega
def Dc (k : Int) (V : Prop) (y : Int) : Prop := (y = 0 /\ V) \/ (y = k /\ ¬ V)
theorem Dc.no {k : Int} {V : Prop} (h : ¬ V) : Ok (some k) (Dc k V) := Ok.ret (.inr ⟨rfl, h⟩)
theorem Dc.yes {k : Int} {V : Prop} (h : V) : Ok (some 0) (Dc k V) := Ok.ret (.inl ⟨rfl, h⟩)
theorem Dc.same {k : Int} {V : Prop} {x y : Option Int} (h : Ok x (Dc k V)) (g : Ok y (Dc k V)) : x = y := by
 obtain ⟨a, rfl, h⟩ := h
 obtain ⟨b, rfl, g⟩ := g
 rcases h with ⟨rfl, h⟩ | ⟨rfl, h⟩ <;> rcases g with ⟨rfl, g⟩ | ⟨rfl, g⟩
 ·rfl
 ·exact absurd h g
 ·exact absurd g h
 ·rfl
theorem Dc.zero {k : Int} {V : Prop} {x : Option Int} (h : Ok x (Dc k V)) (v : V) : x = some 0 := by
 obtain ⟨a, rfl, h⟩ := h
 rcases h with ⟨rfl, h⟩ | ⟨rfl, h⟩
 ·rfl
 ·exact absurd v h
def jV (c : UInt8) : Bool := (decide ((c.toNat : Int) < 97) || decide (122 < (c.toNat : Int))) && ((decide ((c.toNat : Int) < 65) || decide (90 < (c.toNat : Int))) && ((decide ((c.toNat : Int) < 48) || decide (57 < (c.toNat : Int))) && (!decide ((c.toNat : Int) = 45) && (!decide ((c.toNat : Int) = 95) && !decide ((c.toNat : Int) = 46)))))
def bY (s : ByteArray) : Bool := decide (1 <= (s.size : Int)) && decide ((s.size : Int) <= 32) && !(Jc s).any jV
theorem gJ (c : UInt8) : decide (0 <= bJ ⟨#[45, 95, 46]⟩ c) = !(!decide ((c.toNat : Int) = 45) && (!decide ((c.toNat : Int) = 95) && !decide ((c.toNat : Int) = 46))) := by
 have h : ∀ n : Fin 256, decide (0 <= bJ ⟨#[45, 95, 46]⟩ (UInt8.ofNat n.val)) = !(!decide (((UInt8.ofNat n.val).toNat : Int) = 45) && (!decide (((UInt8.ofNat n.val).toNat : Int) = 95) && !decide (((UInt8.ofNat n.val).toNat : Int) = 46))) := by decide +kernel
 have := h ⟨c.toNat, c.toNat_lt⟩
 simpa using this
theorem lA (c : UInt8) : Hz c ⟨#[45, 95, 46]⟩ = some (!jV c) := by
 have e : ∀ a : Int, decide (a <= (c.toNat : Int)) = !decide ((c.toNat : Int) < a) := fun a => by
  by_cases h : (c.toNat : Int) < a
  ·rw [decide_eq_true h, decide_eq_false (by omega)]; rfl
  ·rw [decide_eq_false h, decide_eq_true (by omega)]; rfl
 have f : ∀ a : Int, decide ((c.toNat : Int) <= a) = !decide (a < (c.toNat : Int)) := fun a => by
  by_cases h : a < (c.toNat : Int)
  ·rw [decide_eq_true h, decide_eq_false (by omega)]; rfl
  ·rw [decide_eq_false h, decide_eq_true (by omega)]; rfl
 have i : ∀ k : Bool -> Option Bool, ((Da ⟨#[45, 95, 46]⟩ c).bind fun y => some (decide (0 <= y))) = some (!(!decide ((c.toNat : Int) = 45) && (!decide ((c.toNat : Int) = 95) && !decide ((c.toNat : Int) = 46)))) := fun _ => by
  rw [<- gJ]; rfl
 have i := i some
 unfold Hz jV
 simp only [i, e, f]
 generalize decide ((c.toNat : Int) < 97) = a1
 generalize decide (122 < (c.toNat : Int)) = a2
 generalize decide ((c.toNat : Int) < 65) = a3
 generalize decide (90 < (c.toNat : Int)) = a4
 generalize decide ((c.toNat : Int) < 48) = a5
 generalize decide (57 < (c.toNat : Int)) = a6
 generalize (!decide ((c.toNat : Int) = 45) && (!decide ((c.toNat : Int) = 95) && !decide ((c.toNat : Int) = 46))) = a7
 cases a1 <;> cases a2 <;> cases a3 <;> cases a4 <;> cases a5 <;> cases a6 <;> rfl
theorem U2 (s : ByteArray) (hs : s.size <= 9223372036854775807) : Df s = some (bY s) := by
 unfold Df bY
 refine (Qp (body := fun q' => Df.l1 s q') (Jc s) (fun i => (i : Int)) jV false (decide (1 <= (s.size : Int)) && decide ((s.size : Int) <= 32)) (fun i c hc => ?_) ?_).trans ?_
 ·have h1 := I8 hc
  rw [Te] at h1
  show Df.l1 s (i : Int) = _
  unfold Df.l1
  rw [H7 hc, lA, Option.bind_some, Bool.not_not, Tt h1 hs]
  cases jV c <;> rfl
 ·show Df.l1 s ((Jc s).length : Int) = _
  unfold Df.l1
  rw [E9]
  by_cases a : (1 : Int) <= (s.size : Int) <;> simp [a, up]
 ·cases (Jc s).any jV <;> simp
def vY (n : Int) : Prop := 1 <= n /\ n <= 16
theorem W0 : ∃ l, Do = some l /\ l.length = 16 := by
 unfold Do Ce
 simp only [Option.bind_some]
 refine Ok.loop (fun s : Int × List A7 => ∃ i : Nat, s.1 = (i : Int) /\ i <= 16 /\ s.2.length = 16) (fun s => 16 - s.1.toNat) ?_ ⟨0, rfl, by omega, rfl⟩
 rintro ⟨_, l⟩ ⟨i, rfl, hi, hl⟩
 dsimp only at hl
 show Ok (Do.l1 _ _ _ _ _ _ _ _ _ _ _ _ _ _ _ _ _ _ _ _ _ _ (i : Int) l) _
 unfold Do.l1
 refine Ok.cond (fun h => ?_) fun _ => Ok.up (Ok.ret hl)
 have h : (i : Int) < 16 := of_decide_eq_true h
 refine Ok.bind (Wh (by omega) (by omega)) fun e _ => Ok.ret ⟨⟨i + 1, by show W ((i : Int) + 1) = _; rw [Eh (by omega)]; omega, by omega, ?_⟩, ?_⟩
 ·show (Cd l _ _).length = 16
  unfold Cd
  rw [List.length_set]; exact hl
 ·show 16 - (W ((i : Int) + 1)).toNat < 16 - ((i : Nat) : Int).toNat
  rw [Eh (by omega)]; omega
theorem bC (n : Int) : Ok (D3 n) (fun y => Dc 8 (vY n) y.2) := by
 obtain ⟨l, hl, hlen⟩ : ∃ l, Do = some l /\ l.length = 16 := W0
 unfold D3
 rw [hl, Option.bind_some]
 refine Ok.cond (fun h => ?_) fun h => ?_
 ·exact Ok.ret (.inr ⟨rfl, fun v => by have := of_decide_eq_true h; have := v.1; omega⟩)
 ·have h := of_decide_eq_false h
  refine Ok.cond (fun g => Ok.ret (.inr ⟨rfl, fun v => by have := of_decide_eq_true g; have := v.2; omega⟩)) fun g => ?_
  have g := of_decide_eq_false g
  rw [Eh (by omega)]
  exact Ok.bind (Wh (by omega) (by omega)) fun e _ => Ok.ret (.inl ⟨rfl, by omega, by omega⟩)
def uR (l : List Int) (i : Nat) : Prop := ∀ x, l[i]? = some x -> vY x /\ x ∉ l.take i
theorem uR.out {l : List Int} {i : Nat} (h : l.length <= i) : uR l i := fun x hx => by have := I8 hx; omega
theorem sO {l : List Int} {i : Nat} (h : i <= l.length) : bV l 0 (i : Int) = some (l.take i) := by
 unfold bV
 rw [if_pos (by omega)]
 simp
theorem bD (l : List Int) (hl : Lo l) : Ok (Cb l) (fun b => b = true ↔ ∀ i, uR l i) := by
 have hl' : l.length < 4611686018427387904 := hl
 unfold Cb
 refine fW l.length (uR l) (fun i hi hV => ?_) fun hV => ?_
 ·obtain ⟨x, hx⟩ : ∃ x, l[i]? = some x := ⟨_, List.getElem?_eq_getElem hi⟩
  show Ok (Cb.l1 l (i : Int)) _
  unfold Cb.l1
  refine aDe hx (Ok.bind (bC x) fun y hy => ?_)
  refine Ok.cond (fun h => ?_) fun h => ?_
  ·refine dD (by omega) (fun _ => ⟨fun h => (by cases h), fun v => ?_⟩) fun h => by cases h
   rcases hy with ⟨e, hs⟩ | ⟨e, hs⟩
   ·rw [e] at h; cases h
   ·exact absurd (v i x hx).1 hs
  ·have hs : vY x := by
    rcases hy with ⟨e, hs⟩ | ⟨e, hs⟩
    ·exact hs
    ·rw [e] at h; cases h
   rw [sO (by omega), Option.bind_some, In _ _ (by rw [List.length_take]; omega), Option.bind_some]
   refine dD (by omega) (fun h => ⟨fun h => (by cases h), fun v => ?_⟩) fun h => fun z hz => ?_
   ·exact absurd (of_decide_eq_true h) (v i x hx).2
   ·rw [hx] at hz; cases hz
    exact ⟨hs, of_decide_eq_false h⟩
 ·show Ok (Cb.l1 l (l.length : Int)) _
  unfold Cb.l1
  exact pE (Ok.up (Ok.ret ⟨fun _ i => if h : i < l.length then hV i h else uR.out (by omega), fun _ => rfl⟩))
theorem Si (l : List Int) (hl : Lo l) : Ok (B1 l) (fun b => b = true ↔ ∀ i, VA (fun x y : Int => x < y) l i) := by
 have hl' : l.length < 4611686018427387904 := hl
 unfold B1
 refine fW l.length (VA (fun x y => x < y) l) (fun i hi hV => ?_) fun hV => ?_
 ·obtain ⟨x, hx⟩ : ∃ x, l[i]? = some x := ⟨_, List.getElem?_eq_getElem hi⟩
  show Ok (B1.l1 l (i : Int)) _
  unfold B1.l1
  rw [decide_eq_true (by omega : (i : Int) < (l.length : Int)), cond_true]
  refine wP hi hl (fun h0 => ?_) fun p h0 hp => ?_
  ·exact dD (by omega) (fun h => by cases h) fun _ => VA.zero h0
  ·rw [Fq, hx, Option.bind_some]
   refine dD (by omega) (fun h => ⟨fun h => (by cases h), fun v => ?_⟩) fun h => VA.at hp hx (by have := of_decide_eq_false h; omega)
   have := v i p x h0 hp hx
   have := of_decide_eq_true h
   omega
 ·show Ok (B1.l1 l (l.length : Int)) _
  unfold B1.l1
  exact pE (Ok.up (Ok.ret ⟨fun _ i => if h : i < l.length then hV i h else VA.out (by omega), fun _ => rfl⟩))
theorem Xy (s : List Int) (f : Int -> Option Bool) (p : Int -> Bool) (h : Lo s) (hf : ∀ x ∈ s, f x = some (p x)) : C9 s f = some (s.any p) := by
 have hi : Bm s f = some (S5 s p) := by
  unfold Bm
  refine Sr s p h (fun i x hx => ?_) ?_
  ·show Bm.l1 s f (i : Int) = _
   unfold Bm.l1
   rw [H7 hx, hf x (Ho hx), Option.bind_some]
   cases p x <;> rfl
  ·show Bm.l1 s f (s.length : Int) = _
   unfold Bm.l1
   rw [E9]; rfl
 unfold C9
 rw [hi, Option.bind_some, W3]
structure cX (e : Ao) : Prop where
 name : e.Name.size <= 9223372036854775807
 suites : Lo e.Suites
 ids : Lo e.Identities
 anchors : Lo e.Anchors
 hashes : Lo e.Hashes
 chain : ∀ x ∈ e.Identities, ∀ c ∈ x.Chain, fP c
structure EpV (e : Ao) : Prop where
 name : bY e.Name = true
 least : 1 <= e.Least
 most : e.Least <= e.Most
 most4 : e.Most <= 4
 suites : ∀ i, uR e.Suites i
 idn : e.Identities.length <= 4
 ann : e.Anchors.length <= 16
 ana : ∀ i, VA (fun x y : Int => x < y) e.Anchors i
 haa : ∀ i, VA (fun x y : Int => x < y) e.Hashes i
 ids : ∀ x ∈ e.Identities, Vj x.Key x.KeyId x.Chain = true
 anr : ∀ n ∈ e.Anchors, 0 <= n /\ n <= 2147483648
 har : ∀ n ∈ e.Hashes, P9 n = 1
theorem oU {α : Type} {l : List α} {P : α -> Prop} (h : ∀ i, i < l.length -> ∀ x, l[i]? = some x -> P x) : ∀ x ∈ l, P x := fun x hx => by
 obtain ⟨i, hi⟩ := List.mem_iff_getElem?.1 hx
 exact h i (I8 hi) x hi
theorem Ny {e : Ao} (h : cX e) : Ok (Bi e) (Dc 19 (EpV e)) := by
 have hi := h.ids
 unfold Lo at hi
 unfold Bi
 rw [U2 _ h.name, Option.bind_some]
 refine Ok.cond (fun c => Dc.no fun v => by rw [v.name] at c; cases c) fun c1 => ?_
 refine Ok.cond (fun c => Dc.no fun v => by have := of_decide_eq_true c; have := v.least; omega) fun c2 => ?_
 refine Ok.cond (fun c => Dc.no fun v => by have := of_decide_eq_true c; have := v.most; omega) fun c3 => ?_
 refine Ok.cond (fun c => Dc.no fun v => by have := of_decide_eq_true c; have := v.most4; omega) fun c4 => ?_
 refine Ok.bind (bD _ h.suites) fun y2 h2 => ?_
 refine Ok.cond (fun c => Dc.no fun v => by rw [h2.2 v.suites] at c; cases c) fun c5 => ?_
 refine Ok.cond (fun c => Dc.no fun v => by have := of_decide_eq_true c; have := v.idn; omega) fun c6 => ?_
 refine Ok.cond (fun c => Dc.no fun v => by have := of_decide_eq_true c; have := v.ann; omega) fun c7 => ?_
 refine Ok.bind (Si _ h.anchors) fun y3 h3 => ?_
 refine Ok.cond (fun c => Dc.no fun v => by rw [h3.2 v.ana] at c; cases c) fun c8 => ?_
 refine Ok.bind (Si _ h.hashes) fun y4 h4 => ?_
 refine Ok.cond (fun c => Dc.no fun v => by rw [h4.2 v.haa] at c; cases c) fun c9 => ?_
 have n2 := h2.1 (by simpa using c5)
 have n3 := h3.1 (by simpa using c8)
 have n4 := h4.1 (by simpa using c9)
 have d2 := of_decide_eq_false c2
 have d3 := of_decide_eq_false c3
 have d4 := of_decide_eq_false c4
 have d6 := of_decide_eq_false c6
 have d7 := of_decide_eq_false c7
 refine fW e.Identities.length (fun i => ∀ x, e.Identities[i]? = some x -> Vj x.Key x.KeyId x.Chain = true) (fun i hi' hV => ?_) fun hV => ?_
 ·obtain ⟨x, hx⟩ : ∃ x, e.Identities[i]? = some x := ⟨_, List.getElem?_eq_getElem hi'⟩
  show Ok (Bi.l3 e (i : Int)) _
  unfold Bi.l3
  refine aDe hx ?_
  rw [jZ _ _ _ (h.chain x (Ho hx)), Option.bind_some]
  refine dD (by omega) (fun c => .inr ⟨rfl, fun v => by rw [v.ids x (Ho hx)] at c; cases c⟩) fun c z hz => ?_
  rw [hx] at hz; cases hz
  simpa using c
 ·show Ok (Bi.l3 e (e.Identities.length : Int)) _
  unfold Bi.l3
  refine pE (Ok.up ?_)
  refine Ok.bindE (a := ()) rfl (Ok.bindE (Xy _ _ (fun n => decide (n < 0) || decide (2147483648 < n)) h.anchors fun n _ => ?_) ?_)
  ·show ((Eb n).bind fun y => some (!y)) = _
   rw [Ws, Option.bind_some, Bool.not_not]
  refine Ok.cond (fun c => Dc.no fun v => ?_) fun c10 => ?_
  ·obtain ⟨n, h1, h2⟩ := List.any_eq_true.1 c
   have := v.anr n h1
   simp only [Bool.or_eq_true, decide_eq_true_eq] at h2
   omega
  refine Ok.bindE (a := ()) rfl (Ok.bindE (Xy _ _ (fun n => !decide (P9 n = 1)) h.hashes fun n _ => ?_) ?_)
  ·show ((Iu n).bind fun y => some (!y)) = _
   unfold Iu
   rw [T5]; rfl
  refine Ok.cond (fun c => Dc.no fun v => ?_) fun c11 => Dc.yes ?_
  ·obtain ⟨n, h1, h2⟩ := List.any_eq_true.1 c
   rw [decide_eq_true (v.har n h1)] at h2
   cases h2
  ·refine ⟨by simpa using c1, by omega, by omega, by omega, n2, by omega, by omega, n3, n4, oU hV, fun n hn => ?_, fun n hn => ?_⟩
   ·have := List.any_eq_false.1 c10 n hn
    simp only [Bool.or_eq_true, decide_eq_true_eq] at this
    omega
   ·have := List.any_eq_false.1 c11 n hn
    simpa using this
end Go.Proofs.YtkoflhimdenjaaaGreat
