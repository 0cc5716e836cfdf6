/- Plain texts, joined. No program is in sight here. -/
import Derived.Test.YtkoflhimdenjaaaGreatG3
import Derived.Test.YtkoflhimdenjaaaGreatSD
set_option autoImplicit false
set_option linter.unusedVariables false
set_option linter.unusedSimpArgs false
namespace Go.Proofs.YtkoflhimdenjaaaGreat
section
open Go
section
variable {κ ν : Type} [DecidableEq κ]
theorem Lc (p : κ × ν) (l : List (κ × ν)) (x : κ) (z : ν) : F4 (p :: l) x z = if p.1 = x then p.2 else F4 l x z := by
 unfold F4
 by_cases h : p.1 = x <;> simp [h]
theorem dM (p : κ × ν) (l : List (κ × ν)) (x : κ) (v : ν) : Jo (p :: l) x v = if p.1 = x then (x, v) :: l else p :: Jo l x v := by
 unfold Jo
 by_cases h : p.1 = x
 ·rw [List.findIdx?_cons, decide_eq_true h, if_pos h]; rfl
 ·rw [List.findIdx?_cons, decide_eq_false h, if_neg h]
  cases hf : l.findIdx? (fun p => decide (p.1 = x)) <;> simp
theorem Xm (x : κ) (v : ν) (y : κ) (z : ν) : ∀ l : List (κ × ν), F4 (Jo l x v) y z = if x = y then v else F4 l y z
 | [] => by
  show F4 [(x, v)] y z = _
  rw [Lc]
 | p :: l => by
  rw [dM]
  by_cases h : p.1 = x
  ·rw [if_pos h, Lc, Lc]
   by_cases e : x = y
   ·rw [if_pos e, if_pos e]
   ·rw [if_neg e, if_neg e, if_neg (by rw [h]; exact e)]
  ·rw [if_neg h, Lc, Xm x v y z l, Lc]
   by_cases e : x = y
   ·rw [if_pos e, if_pos e, if_neg (by rw [<- e]; exact h)]
   ·rw [if_neg e, if_neg e]
end
theorem cD (s : List Aa) (f : Aa -> Option Bool) (p : Aa -> Bool) (h : Lo s) (hp : ∀ x ∈ s, f x = some (p x)) : A9 s f = some (S5 s p) := by
 unfold A9
 refine Sr s _ h (fun i x hx => ?_) ?_
 ·show A9.l1 s _ (i : Int) = _
  unfold A9.l1
  rw [H7 hx, hp x (Ho hx), Option.bind_some]
  cases p x <;> rfl
 ·show A9.l1 s _ (s.length : Int) = _
  unfold A9.l1
  rw [E9]; rfl
theorem aAu {α : Type} {l : List α} {a b : Int} (h : 0 <= a /\ a <= b /\ b <= l.length) : bV l a b = some ((l.drop a.toNat).take (b.toNat - a.toNat)) := if_pos h
theorem sN (s : List Aa) (f : Aa -> Option Bool) (p : Aa -> Bool) (h : s.length < 100000) (hp : ∀ x ∈ s, f x = some (p x)) : Ok (A4 s f) (fun r => r = s.filter fun x => !p x) := by
 unfold A4
 rw [cD s f p (by unfold Lo; omega) hp, Option.bind_some]
 unfold S5
 cases hf : s.findIdx? p with
 | none =>
  have hn := List.findIdx?_eq_none_iff.1 hf
  refine ⟨s, rfl, ?_⟩
  rw [List.filter_eq_self.2]
  intro a ha
  rw [hn a ha]; rfl
 | some i0 =>
  obtain ⟨hi0, hp0, hlt0⟩ := List.findIdx?_eq_some_iff_getElem.1 hf
  show Ok (cond (decide ((i0 : Int) = -1)) _ _) _
  rw [decide_eq_false (by omega), cond_false, Eh (x := (i0 : Int) + 1) (by omega)]
  have h0 : s.take i0 = ((s.take (i0 + 1)).filter fun x => !p x) := by
   rw [List.take_succ_eq_append_getElem hi0, List.filter_append, List.filter_eq_self.2 (fun a ha => ?_)]
   ·have : (!p s[i0]) = false := by rw [hp0]; rfl
    rw [List.filter_cons_of_neg (by rw [this]; decide)]
    simp
   ·obtain ⟨q, hq, rfl⟩ := List.getElem_of_mem ha
    rw [List.length_take] at hq
    rw [List.getElem_take]
    have := hlt0 q (by omega)
    simp only [Bool.not_eq_true] at this
    rw [this]; rfl
  refine Ok.loop (fun st : Int × Int × List Aa => ∃ i j : Nat, st.1 = (i : Int) /\ st.2.1 = (j : Int) /\ i < j /\ j <= s.length /\ st.2.2.length = s.length /\ st.2.2.take i = ((s.take j).filter fun x => !p x) /\ st.2.2.drop j = s.drop j) (fun st => s.length - st.2.1.toNat) ?_ ⟨i0, i0 + 1, rfl, by show (i0 : Int) + 1 = _; omega, by omega, hi0, rfl, h0, rfl⟩
  rintro ⟨_, _, t⟩ ⟨i, j, rfl, rfl, hij, hj, hlen, htk, hdr⟩
  dsimp only at hlen htk hdr
  show Ok (A4.l1 _ (i : Int) (j : Int) t) _
  unfold A4.l1
  refine Ok.cond (fun hb => ?_) (fun hb => ?_)
  ·have hjl : j < s.length := by have := of_decide_eq_true hb; omega
   obtain ⟨e, he⟩ : ∃ e, s[j]? = some e := ⟨_, List.getElem?_eq_getElem hjl⟩
   have hte : t[j]? = some e := by
    have := congrArg (fun l => l[0]?) hdr
    simpa [he] using this
   have hdr1 : t.drop (j + 1) = s.drop (j + 1) := by
    have := congrArg (List.drop 1) hdr
    rwa [List.drop_drop, List.drop_drop] at this
   obtain ⟨q, hq⟩ : ∃ q, t[i]? = some q := ⟨_, List.getElem?_eq_getElem (by omega)⟩
   rw [Fq, hte, Option.bind_some]
   unfold A4.j2
   rw [hp e (Ho he), Option.bind_some, Eh (x := (j : Int) + 1) (by omega)]
   cases hd : p e with
   | false =>
    rw [Bool.not_false, cond_true, Fq, hq, Option.bind_some, Eh (x := (i : Int) + 1) (by omega)]
    refine Ok.ret ⟨⟨i + 1, j + 1, by show (i : Int) + 1 = _; omega, by show (j : Int) + 1 = _; omega, by omega, hjl, ?_, ?_, ?_⟩, by show s.length - ((j : Int) + 1).toNat < s.length - ((j : Int)).toNat; omega⟩
    ·show (Cd t _ e).length = _
     unfold Cd
     rw [List.length_set]; exact hlen
    ·show (Cd t (i : Int).toNat e).take (i + 1) = _
     unfold Cd
     rw [Int.toNat_natCast, List.set_eq_take_append_cons_drop, if_pos (by omega), Gn he, List.filter_append, <- htk]
     have hl : (t.take i).length = i := by rw [List.length_take]; omega
     have : ([e].filter fun x => !p x) = [e] := by
      rw [List.filter_cons, hd]; rfl
     rw [this]
     have e2 : (t.take i ++ e :: t.drop (i + 1)).take (i + 1) = t.take i ++ (e :: t.drop (i + 1)).take 1 := by
      have := List.take_length_add_append (l₁ := t.take i) (l₂ := e :: t.drop (i + 1)) 1
      rwa [hl] at this
     rw [e2]; rfl
    ·show (Cd t (i : Int).toNat e).drop (j + 1) = _
     unfold Cd
     rw [Int.toNat_natCast, List.drop_set_of_lt (by omega)]; exact hdr1
   | true =>
    rw [Bool.not_true, cond_false]
    refine Ok.ret ⟨⟨i, j + 1, rfl, by show (j : Int) + 1 = _; omega, by omega, hjl, hlen, ?_, hdr1⟩, by show s.length - ((j : Int) + 1).toNat < s.length - ((j : Int)).toNat; omega⟩
    show t.take i = _
    have : ([e].filter fun x => !p x) = [] := by
     rw [List.filter_cons, hd]; rfl
    rw [Gn he, List.filter_append, this, List.append_nil]
    exact htk
  ·have hjl : j = s.length := by have := of_decide_eq_false hb; omega
   subst hjl
   rw [List.take_length] at htk
   refine Ok.up ?_
   rw [aAu (by omega), Option.bind_some]
   unfold fY
   rw [if_pos (by omega), Option.bind_some, aAu (by simp; omega), Option.bind_some]
   refine Ok.ret ?_
   show ((t.take i ++ _) ++ _).take (i - 0) = _
   have hl : (t.take i).length = i := by rw [List.length_take]; omega
   rw [Nat.sub_zero, List.append_assoc, List.take_append_of_le_length (by omega), List.take_of_length_le (by omega)]
   exact htk
def lE (f : Aa) : Cu := ⟨f.Host, f.Day, f.Kind, f.Use, f.Number, f.Text⟩
theorem uZ (f : Aa) : Mm f = some (lE f) := rfl
def Yt (S : List Aa) (f : Aa) : Bool := S.any fun x => decide (lE x = lE f)
theorem dQ {e : Ao} {at' : Aa} {want S : List Aa} (hx : Fz e at' = some (want, 0)) (hw : want.length < 100000) (hS : S.length < 100000) : C3 e at' S = some (want.filter (fun f => !Yt S f), 0) := by
 unfold C3
 rw [hx, Option.bind_some]
 show cond (!decide ((0 : Int) = 0)) _ _ = _
 rw [decide_eq_true rfl, Bool.not_true, cond_false]
 have : Ok (Ch (fun q' => C3.l1 S (want, 0) q'.1 q'.2) (0, ([] : List (Cu × Bool)))) (fun r => r = (want.filter (fun f => !Yt S f), 0)) := by
  refine Ok.loop (fun s : Int × List (Cu × Bool) => ∃ i : Nat, s.1 = (i : Int) /\ i <= S.length /\ ∀ f, F4 s.2 (lE f) false = Yt (S.take i) f) (fun s => S.length - s.1.toNat) ?_ ⟨0, rfl, Nat.zero_le _, fun f => rfl⟩
  rintro ⟨_, m⟩ ⟨i, rfl, hi, hm⟩
  dsimp only at hm
  show Ok (C3.l1 S (want, 0) (i : Int) m) _
  unfold C3.l1
  rcases Nat.lt_or_ge i S.length with hl | hl
  ·obtain ⟨x, hx⟩ : ∃ x, S[i]? = some x := ⟨_, List.getElem?_eq_getElem hl⟩
   rw [H7 hx, uZ, Option.bind_some, Hu (by omega)]
   refine Ok.ret ⟨⟨i + 1, rfl, hl, fun f => ?_⟩, by show S.length - (((i + 1 : Nat)) : Int).toNat < S.length - ((i : Int)).toNat; omega⟩
   show F4 (Jo m (lE x) true) (lE f) false = _
   rw [Xm, hm f]
   unfold Yt
   rw [Gn hx, List.any_append, List.any_cons, List.any_nil, Bool.or_false]
   by_cases e : lE x = lE f
   ·rw [if_pos e, decide_eq_true e, Bool.or_true]
   ·rw [if_neg e, decide_eq_false e, Bool.or_false]
  ·have hil : i = S.length := by omega
   subst hil
   rw [List.take_length] at hm
   rw [E9]
   refine Ok.up ?_
   refine Ok.bind (sN want (fun x0 => Fx x0 m) (fun f => Yt S f) hw (fun x _ => ?_)) fun r hr => ?_
   ·unfold Fx
    rw [uZ, Option.bind_some, hm x]
   ·subst hr
    exact Ok.ret rfl
 obtain ⟨r, hr, rfl⟩ := this
 exact hr
end
section
open Go
def S9 : Aa := ⟨3, Qs 0, 1, 4, 90, 4, ⟨#[116, 108, 115]⟩, ⟨0, 0⟩, 1, ⟨#[]⟩⟩
theorem O9 : Tk S9 := ⟨by decide, by decide, by decide⟩
theorem Rg : R7 S9 = 0 := by decide +kernel
theorem Pn.few {e : Ao} (h : Pn 0 e) : gS e := by
 obtain ⟨c, hc, tJ, fall, x, hx, rfl⟩ := h
 have := (Qo hc).2.1
 exact ⟨by show c.2.length <= 50; omega, by show (1 : Nat) <= 50; omega, by show (1 : Nat) <= 50; omega, by show (2 : Nat) <= 50; omega⟩
theorem Pn.good {e : Ao} (h : Pn 0 e) : Tn (fN S9 e) := by
 obtain ⟨c, hc, tJ, fall, x, hx, rfl⟩ := h
 obtain ⟨h1, -, -, -, h5⟩ := Qo hc
 intro f hff
 unfold fN at hff
 simp only [List.mem_append, List.mem_cons, List.not_mem_nil, or_false, List.mem_map] at hff
 rcases hff with (((((rfl | rfl) | ⟨n, hn, rfl⟩) | ⟨y, rfl, rfl⟩) | ⟨n, hn, rfl⟩) | ⟨n, hn, rfl⟩)
 ·exact Rz O9 Rg (vF S9 (.inr rfl) (by omega))
 ·exact Rz O9 Rg (vF S9 (.inl rfl) (by omega))
 ·have := h5 n hn
  unfold vY at this
  exact Rz O9 Rg (aEn S9 (by omega))
 ·rw [hx.key_, hx.id_]
  exact Rz O9 Rg (aFd S9 zV.2 (by omega))
 ·exact Rz O9 Rg (aE6 S9 (by omega))
 ·refine Rz O9 Rg (aD5 S9 ?_)
  rcases hn with rfl | rfl <;> decide +kernel
noncomputable def Ej (e : Ao) : List Aa := Q5 vD (fN S9 e)
theorem Ql {e : Ao} (h : Pn 0 e) : Fz e S9 = some (Ej e, 0) := by
 unfold Fz
 have h1 : Vu (eD S9) = false := by decide +kernel
 have h2 : Bi e = some 0 := Dc.zero (Ny (gE (by omega) h)) (mT (by omega) h)
 have : Ba S9 e = some (Ej e, 0) := by
  rw [jS O9 (gE (by omega) h) h.few]
  unfold Zw
  rw [h1, cond_false, decide_eq_true h2, cond_true, h.good.norm]
  rfl
 rw [this]; rfl
theorem Xq {e : Ao} {f : Aa} : f ∈ Ej e ↔ f ∈ fN S9 e := Zo mU
theorem aX {e : Ao} {f : Aa} (h : f ∈ Ej e) : ∃ k u n, f = Sd S9 k u n := by
 have hf := Xq.1 h
 unfold fN at hf
 simp only [List.mem_append, List.mem_cons, List.not_mem_nil, or_false, List.mem_map] at hf
 rcases hf with (((((rfl | rfl) | ⟨_, -, rfl⟩) | ⟨_, -, rfl⟩) | ⟨_, -, rfl⟩) | ⟨_, -, rfl⟩) <;> exact ⟨_, _, _, rfl⟩
theorem pP {e : Ao} {f g : Aa} (hf : f ∈ Ej e) (G : g ∈ Ej e) (h : lE f = lE g) : f = g := by
 obtain ⟨k, u, n, rfl⟩ := aX hf
 obtain ⟨k', u', n', rfl⟩ := aX G
 unfold lE at h
 injection h with h1 h2 h3 h4 h5 h6
 have h3 : k = k' := h3
 have h4 : u = u' := h4
 have h5 : n = n' := h5
 subst h3 h4 h5
 rfl
theorem rK {e : Ao} {i j : Nat} {f : Aa} (hi : (Ej e)[i]? = some f) (hj : (Ej e)[j]? = some f) : i = j := by
 have hasc := Zh mU (fN S9 e)
 have key : ∀ a b : Nat, a < b -> (Ej e)[a]? = some f -> (Ej e)[b]? = some f -> False := by
  intro a b hab ha hb
  unfold Ej at ha hb
  have hbl := I8 hb
  have h1 := List.pairwise_iff_getElem.1 hasc a b (Nat.lt_trans hab hbl) hbl hab
  obtain ⟨p, ha⟩ := List.getElem?_eq_some_iff.1 ha
  obtain ⟨q, hb⟩ := List.getElem?_eq_some_iff.1 hb
  rw [ha, hb, mU.irrefl] at h1
  cases h1
 rcases Nat.lt_trichotomy i j with h | h | h
 ·exact (key i j h hi hj).elim
 ·exact h
 ·exact (key j i h hj hi).elim
theorem Xv {e : Ao} (h : Pn 0 e) : 0 < (Ej e).length /\ (Ej e).length <= 202 := by
 refine ⟨List.length_pos_iff.2 fun q => ?_, Nat.le_trans (Zg vD (fN S9 e)) (gV S9 h.few)⟩
 have : Sd S9 5 ⟨0, 0⟩ e.Least ∈ Ej e := Xq.2 (by unfold fN; simp)
 rw [q] at this; cases this
theorem pK (s : List A5) (f : A5 -> Option Bool) (p : A5 -> Bool) (h : Lo s) (hp : ∀ x ∈ s, f x = some (p x)) : Bg s f = some (S5 s p) := by
 unfold Bg
 refine Sr s _ h (fun i x hx => ?_) ?_
 ·show Bg.l1 s _ (i : Int) = _
  unfold Bg.l1
  rw [H7 hx, hp x (Ho hx), Option.bind_some]
  cases p x <;> rfl
 ·show Bg.l1 s _ (s.length : Int) = _
  unfold Bg.l1
  rw [E9]; rfl
theorem nL {e : Ao} (h : Pn 0 e) {f g : Aa} (hf : f ∈ Ej e) (h1 : g.Host = f.Host) (h2 : g.Kind = f.Kind) (h3 : g.Use = f.Use) (h4 : g.Number = f.Number) : D8 e g = some false := by
 have hf := Xq.1 hf
 obtain ⟨c, hc, tJ, fall, x, hx, rfl⟩ := h
 have hl := (Qo hc).2.1
 obtain ⟨a1, a2, a3, a4, a5, a6, a7, a8, a9, a10⟩ := g
 dsimp only at h1 h2 h3 h4
 subst h1 h2 h3 h4
 unfold fN at hf
 simp only [List.mem_append, List.mem_cons, List.not_mem_nil, or_false, List.mem_map] at hf
 unfold D8
 rcases hf with (((((rfl | rfl) | ⟨n, hn, rfl⟩) | ⟨y, rfl, rfl⟩) | ⟨n, hn, rfl⟩) | ⟨n, hn, rfl⟩)
 ·show cond (!decide (Qs 0 = Qs 0)) _ (cond (decide ((5 : Int) = 2)) _ (cond (decide ((5 : Int) = 3)) _ (cond (decide ((5 : Int) = 4)) _ (cond (decide ((5 : Int) = 5)) (some (!decide ((1 : Int) = 1))) _)))) = _
  rfl
 ·show cond (!decide (Qs 0 = Qs 0)) _ (cond (decide ((4 : Int) = 2)) _ (cond (decide ((4 : Int) = 3)) _ (cond (decide ((4 : Int) = 4)) (some (!decide (c.1 = c.1))) _))) = _
  rw [decide_eq_true (rfl : c.1 = c.1), decide_eq_true (rfl : Qs 0 = Qs 0)]
  rfl
 ·show cond (!decide (Qs 0 = Qs 0)) _ (cond (decide ((2 : Int) = 2)) ((Cg c.2 n).bind fun y => some (!y)) _) = _
  rw [In _ _ (by omega), decide_eq_true hn, decide_eq_true (rfl : Qs 0 = Qs 0)]
  rfl
 ·show cond (!decide (Qs 0 = Qs 0)) _ (cond (decide ((3 : Int) = 2)) _ (cond (decide ((3 : Int) = 3)) (((Bg [y] _).bind fun y => some (decide (0 <= y))).bind fun y => some (!y)) _)) = _
  rw [pK [y] _ (fun _ => true) (by unfold Lo; show (1 : Nat) < _; omega) (fun z hz => by
   rw [List.mem_singleton.1 hz]
   show El y _ = _
   unfold El
   show cond (decide (y.Key = y.Key)) (some (decide (y.KeyId = y.KeyId))) _ = _
   rw [decide_eq_true rfl, decide_eq_true rfl]; rfl), decide_eq_true (rfl : Qs 0 = Qs 0)]
  rfl
 ·show cond (!decide (Qs 0 = Qs 0)) _ (cond (decide ((6 : Int) = 2)) _ (cond (decide ((6 : Int) = 3)) _ (cond (decide ((6 : Int) = 4)) _ (cond (decide ((6 : Int) = 5)) _ (cond (decide ((6 : Int) = 6)) ((Cg [1] n).bind fun y => some (!y)) _))))) = _
  rw [In [1] n (by show (1 : Nat) < _; omega), decide_eq_true (show n ∈ [(1 : Int)] by rw [hn]; simp), decide_eq_true (rfl : Qs 0 = Qs 0)]
  rfl
 ·show cond (!decide (Qs 0 = Qs 0)) _ (cond (decide ((1 : Int) = 2)) _ (cond (decide ((1 : Int) = 3)) _ (cond (decide ((1 : Int) = 4)) _ (cond (decide ((1 : Int) = 5)) _ (cond (decide ((1 : Int) = 6)) _ _))))) = _
  rw [decide_eq_true (rfl : Qs 0 = Qs 0)]
  rfl
theorem iM : Iz = some true := by
 unfold Iz K0
 rw [Option.bind_some]
 have c1 : Cg [10] 2 = some false := by rw [In _ _ (by decide)]; rfl
 have c2 : Cg [10] 10 = some true := by rw [In _ _ (by decide)]; rfl
 unfold D8
 dsimp only
 rw [c1, c2, decide_eq_true (rfl : (⟨#[97, 112, 112]⟩ : ByteArray) = ⟨#[97, 112, 112]⟩)]
 rfl
end
section
open Go
def Uy (mask : Int) (i : Nat) : Bool := decide (Vx .u16 (mask / 2 ^ (i % 16)) 1 = 1)
def eZ (i : Nat) (f : Aa) : Aa := ⟨7, f.Host, 7, f.Day, W (1 + (i : Int)), f.Kind, f.Subject, f.Use, f.Number, f.Text⟩
def Pp (mask : Int) : Nat -> Nat
 | 0 => 0
 | i + 1 => Pp mask i + (bif Uy mask i then 0 else 1)
theorem iN (mask : Int) : ∀ i, Pp mask i <= i
 | 0 => Nat.le_refl _
 | i + 1 => by
  have := iN mask i
  unfold Pp
  cases Uy mask i <;> simp <;> omega
theorem gL {α : Type} (mask : Int) (p : α -> Bool) (l : List α) (h : ∀ (j : Nat) x, l[j]? = some x -> p x = !Uy mask j) : (l.filter p).length = Pp mask l.length := by
 have : ∀ i, i <= l.length -> ((l.take i).filter p).length = Pp mask i := by
  intro i
  induction i with
  | zero => intro _; simp [Pp]
  | succ i ih =>
   intro hi
   obtain ⟨x, hx⟩ : ∃ x, l[i]? = some x := ⟨_, List.getElem?_eq_getElem hi⟩
   rw [Gn hx, List.filter_append, List.length_append, ih (by omega), List.filter_cons, h i x hx]
   show _ = Pp mask i + _
   cases Uy mask i <;> rfl
 have := this l.length (Nat.le_refl _)
 rwa [List.take_length] at this
structure Vd (mask : Int) (w : List Aa) (i : Nat) (S : List Aa) : Prop where
 from_ : ∀ x ∈ S, ∃ (j : Nat) (f : Aa), j < i /\ w[j]? = some f /\ Uy mask j = true /\ x = eZ j f
 to_ : ∀ (j : Nat) f, j < i -> w[j]? = some f -> Uy mask j = true -> eZ j f ∈ S
theorem Vd.nil (mask : Int) (w : List Aa) : Vd mask w 0 [] := ⟨fun x hx => (by cases hx), fun j f hj => (by omega)⟩
theorem Vd.yes {mask : Int} {w S : List Aa} {i : Nat} {f : Aa} (h : Vd mask w i S) (hf : w[i]? = some f) (hs : Uy mask i = true) : Vd mask w (i + 1) (S ++ [eZ i f]) := by
 refine ⟨fun x hx => ?_, fun j g hj G hsj => ?_⟩
 ·rcases List.mem_append.1 hx with hx | hx
  ·obtain ⟨j, g, a, b⟩ := h.from_ x hx
   exact ⟨j, g, by omega, b⟩
  ·exact ⟨i, f, by omega, hf, hs, List.mem_singleton.1 hx⟩
 ·by_cases e : j = i
  ·subst e
   rw [hf] at G
   injection G with G
   subst G
   exact List.mem_append.2 (.inr (List.mem_singleton.2 rfl))
  ·exact List.mem_append.2 (.inl (h.to_ j g (by omega) G hsj))
theorem Vd.no {mask : Int} {w S : List Aa} {i : Nat} (h : Vd mask w i S) (hs : Uy mask i = false) : Vd mask w (i + 1) S := by
 refine ⟨fun x hx => ?_, fun j g hj G hsj => ?_⟩
 ·obtain ⟨j, g, a, b⟩ := h.from_ x hx
  exact ⟨j, g, by omega, b⟩
 ·by_cases e : j = i
  ·subst e
   rw [hs] at hsj; cases hsj
  ·exact h.to_ j g (by omega) G hsj
theorem dS (i : Nat) (f : Aa) : lE (eZ i f) = lE f := rfl
theorem Vd.has {mask : Int} {e : Ao} {S : List Aa} (h : Vd mask (Ej e) (Ej e).length S) {j : Nat} {f : Aa} (hf : (Ej e)[j]? = some f) : Yt S f = Uy mask j := by
 cases hs : Uy mask j with
 | true =>
  unfold Yt
  exact List.any_eq_true.2 ⟨eZ j f, h.to_ j f (I8 hf) hf hs, decide_eq_true (dS j f)⟩
 | false =>
  rw [<- Bool.not_eq_true]
  unfold Yt
  intro q
  obtain ⟨x, hx, hq⟩ := List.any_eq_true.1 q
  obtain ⟨j', f', -, hf', hs', rfl⟩ := h.from_ x hx
  have hq := of_decide_eq_true hq
  rw [dS] at hq
  have := pP (Ho hf') (Ho hf) hq
  subst this
  have := rK hf hf'
  subst this
  rw [hs] at hs'; cases hs'
theorem Za {mask : Int} {e : Ao} (he : Pn 0 e) {S : List Aa} (h : Vd mask (Ej e) (Ej e).length S) (hS : S.length <= 1000) : ∃ M, C3 e S9 S = some (M, 0) /\ M.length = Pp mask (Ej e).length := by
 have hw := Xv he
 refine ⟨_, dQ (Ql he) (by omega) (by omega), ?_⟩
 refine gL mask _ _ fun j x hx => ?_
 rw [h.has hx]
theorem cV {s : List Aa} {f : Aa -> Option Bool} (h : s.length <= 1000) (hp : ∀ x ∈ s, f x = some false) : Dl s f = some false := by
 unfold Dl
 rw [cD s f (fun _ => false) (by unfold Lo; omega) hp, Option.bind_some, W3]
 congr 1
 rw [<- Bool.not_eq_true]
 intro q
 obtain ⟨x, -, hq⟩ := List.any_eq_true.1 q
 cases hq
theorem oD {mask : Int} {e : Ao} (he : Pn 0 e) {S : List Aa} (h : Vd mask (Ej e) (Ej e).length S) (hS : S.length <= 1000) : Je e S9 S = some (decide (((Pp mask (Ej e).length : Nat) : Int) = 0), 0) := by
 obtain ⟨M, h1, h2⟩ := Za he h hS
 unfold Je
 rw [h1, Option.bind_some]
 show cond (!decide ((0 : Int) = 0)) _ (cond (decide ((M.length : Int) = 0)) _ _) = _
 rw [decide_eq_true rfl, Bool.not_true, cond_false, h2]
 cases decide (((Pp mask (Ej e).length : Nat) : Int) = 0) with
 | false => rfl
 | true =>
  rw [cond_true, cV hS (fun x hx => ?_)]
  ·rfl
  ·obtain ⟨j, f, -, hf, -, rfl⟩ := h.from_ x hx
   show F9 _ _ _ = _
   unfold F9
   rw [nL (g := eZ j f) he (Ho hf) rfl rfl rfl rfl]
   cases decide ((eZ j f).Day = S9.Day) <;> rfl
theorem kS {e : Ao} (he : Pn 0 e) {S : List Aa} (hS : S.length <= 1000) (hd : ∀ x ∈ S, x.Day = 5) : C3 e S9 S = some (Ej e, 0) := by
 have hw := Xv he
 rw [dQ (Ql he) (by omega) (by omega), List.filter_eq_self.2]
 intro f hf
 obtain ⟨k, u, n, rfl⟩ := aX hf
 have : Yt S (Sd S9 k u n) = false := by
  rw [<- Bool.not_eq_true]
  unfold Yt
  intro q
  obtain ⟨x, hx, hq⟩ := List.any_eq_true.1 q
  have hq := congrArg Cu.day (of_decide_eq_true hq)
  have hq : x.Day = 4 := hq
  have := hd x hx
  omega
 rw [this]; rfl
theorem aBq {t : List Int} (h : t.length <= 400) : Ok (N0 t) Vm := Ok.ret ⟨by unfold Lo; show t.length < _; omega, Int.le_refl _, by show (0 : Int) <= (t.length : Int); omega⟩
theorem xL {T : Type} (mask : Int) (i : Nat) (k : Int -> Option T) : ((R4 (i : Int) 16).bind fun q => (Px .u16 mask q).bind k) = k (mask / 2 ^ (i % 16)) := by
 have h1 : R4 (i : Int) 16 = some ((i % 16 : Nat) : Int) := cH i 16 (by omega)
 have h2 : Px .u16 mask ((i % 16 : Nat) : Int) = some (mask / 2 ^ (i % 16)) := gT (k := .u16) (i % 16) rfl (by show i % 16 <= 16; omega)
 rw [h1, Option.bind_some, h2, Option.bind_some]
theorem aB7 {e : Ao} (he : Pn 0 e) {S : List Aa} (hS : S.length <= 1000) : Ay.j4 e S9 (Ej e, 0) S false = some true := by
 unfold Ay.j4
 rw [cond_false]
 refine Ok.true_ ?_
 refine Ok.loop (fun s : Int × List Aa => ∃ i : Nat, s.1 = (i : Int) /\ i <= S.length /\ s.2.length = S.length /\ ∀ (j : Nat) f, j < i -> s.2[j]? = some f -> f.Day = 5) (fun s => S.length - s.1.toNat) ?_ ⟨0, rfl, Nat.zero_le _, rfl, fun j f hj => by omega⟩
 rintro ⟨_, s5⟩ ⟨i, rfl, hi, hl, hd⟩
 dsimp only at hl hd
 show Ok (Ay.l5 e S9 (Ej e, 0) S (i : Int) s5) _
 unfold Ay.l5
 rcases Nat.lt_or_ge i S.length with h | h
 ·obtain ⟨x, hx⟩ : ∃ x, s5[i]? = some x := ⟨_, List.getElem?_eq_getElem (by omega)⟩
  rw [decide_eq_true (by omega), cond_true, Fq, hx, Option.bind_some, Hu (by omega), Int.toNat_natCast]
  refine Ok.ret ⟨⟨i + 1, rfl, h, ?_, fun j f hj hf => ?_⟩, by show S.length - (((i + 1 : Nat)) : Int).toNat < S.length - ((i : Int)).toNat; omega⟩
  ·show (Cd s5 i _).length = _
   unfold Cd
   rw [List.length_set]; exact hl
  ·by_cases ej : j = i
   ·subst ej
    have := qU (x' := Aa.mk x.Source x.Host x.Machine 5 x.Confidence x.Kind x.Subject x.Use x.Number x.Text) hx
    have hf : (Cd s5 j _)[j]? = some f := hf
    rw [this] at hf
    injection hf with hf
    rw [<- hf]
   ·have hf : (Cd s5 i _)[j]? = some f := hf
    unfold Cd at hf
    rw [List.getElem?_set_ne (by omega)] at hf
    exact hd j f (by omega) hf
 ·have hil : i = S.length := by omega
  subst hil
  rw [E9]
  refine Ok.up ?_
  rw [kS he (by omega) (fun x hx => by
   obtain ⟨j, hj⟩ := List.mem_iff_getElem?.1 hx
   exact hd j x (by have := I8 hj; omega) hj), Option.bind_some]
  show Ok (cond (decide ((0 : Int) = 0)) (cond (decide (((Ej e).length : Int) = ((Ej e).length : Int))) _ _) _) _
  rw [decide_eq_true rfl, cond_true, decide_eq_true rfl, cond_true, iM, Option.bind_some]
  exact Ok.ret rfl
theorem Ug (t : List Int) (mask : Int) : Ay t mask = some true := by
 unfold Ay Ma
 rw [Option.bind_some]
 by_cases hl : (t.length : Int) <= 400
 case neg => rw [decide_eq_false hl, Bool.not_false, cond_true, iM]; rfl
 rw [decide_eq_true hl, Bool.not_true, cond_false]
 refine Ok.true_ ?_
 refine Ok.bind (aBq (by omega)) fun d hd => ?_
 refine Ok.bind (qB hd) fun y4 h4 => ?_
 obtain ⟨hs, -⟩ := h4
 have h2 := hs.n2
 obtain ⟨e, he0⟩ : ∃ e, y4.1.Endpoints[0]? = some e := ⟨_, List.getElem?_eq_getElem (by omega)⟩
 have he := hs.eps 0 e he0
 have hw := Xv he
 show Ok ((B3 y4.1.Endpoints ((0 : Nat) : Int)).bind _) _
 rw [Fq, he0, Option.bind_some]
 have hat : K0 e.Name 4 = some S9 := by
  unfold K0
  rw [sE he]; rfl
 rw [hat, Option.bind_some, Ql he, Option.bind_some]
 show Ok (cond (!decide ((0 : Int) = 0)) _ (Ay.j1 mask e S9 (Ej e, 0) (decide (((Ej e).length : Int) = 0)))) _
 rw [decide_eq_true rfl, Bool.not_true, cond_false, decide_eq_false (by omega)]
 unfold Ay.j1
 rw [cond_false]
 refine Ok.loop (fun s : Int × Int × List Aa => ∃ i : Nat, s.2.1 = (i : Int) /\ i <= (Ej e).length /\ s.1 = ((Pp mask i : Nat) : Int) /\ s.2.2.length <= i /\ Vd mask (Ej e) i s.2.2) (fun s => (Ej e).length - s.2.1.toNat) ?_ ⟨0, rfl, Nat.zero_le _, rfl, Nat.zero_le _, .nil _ _⟩
 rintro ⟨_, _, S⟩ ⟨i, rfl, hi, rfl, hS, hq⟩
 dsimp only at hS hq
 show Ok (Ay.l2 mask e S9 (Ej e, 0) ((Pp mask i : Nat) : Int) (i : Int) S) _
 unfold Ay.l2
 rcases Nat.lt_or_ge i (Ej e).length with h | h
 ·obtain ⟨x, hx⟩ : ∃ x, (Ej e)[i]? = some x := ⟨_, List.getElem?_eq_getElem h⟩
  have hc := iN mask i
  rw [H7 hx, xL]
  cases hb : Uy mask i with
  | true =>
   have hb' : decide (Vx .u16 (mask / 2 ^ (i % 16)) 1 = 1) = true := hb
   rw [hb', cond_true, Im (by show (S.length + 1) * 1232 <= _; omega), Option.bind_some]
   unfold Ay.j3
   rw [Hu (by omega)]
   refine Ok.ret ⟨⟨i + 1, rfl, h, ?_, ?_, hq.yes hx hb⟩, by show (Ej e).length - (((i + 1 : Nat)) : Int).toNat < (Ej e).length - ((i : Int)).toNat; omega⟩
   ·show ((Pp mask i : Nat) : Int) = ((Pp mask i + (bif Uy mask i then 0 else 1) : Nat) : Int)
    rw [hb]; rfl
   ·show (S ++ [_]).length <= i + 1
    rw [List.length_append, List.length_singleton]; omega
  | false =>
   have hb' : decide (Vx .u16 (mask / 2 ^ (i % 16)) 1 = 1) = false := hb
   rw [hb', cond_false]
   unfold Ay.j3
   rw [Hu (i := i) (by omega), Hu (by omega)]
   refine Ok.ret ⟨⟨i + 1, rfl, h, ?_, by show S.length <= i + 1; omega, hq.no hb⟩, by show (Ej e).length - (((i + 1 : Nat)) : Int).toNat < (Ej e).length - ((i : Int)).toNat; omega⟩
   show ((Pp mask i + 1 : Nat) : Int) = ((Pp mask i + (bif Uy mask i then 0 else 1) : Nat) : Int)
   rw [hb]; rfl
 ·have hil : i = (Ej e).length := by omega
  subst hil
  obtain ⟨M, h1, h3⟩ := Za he hq (by omega)
  rw [E9]
  refine Ok.up ?_
  rw [h1, Option.bind_some, oD he hq (by omega), Option.bind_some]
  show Ok (cond (!decide ((0 : Int) = 0)) _ (cond (!decide ((0 : Int) = 0)) _ (cond (!decide ((M.length : Int) = ((Pp mask (Ej e).length : Nat) : Int))) _ (Ay.j4 e S9 (Ej e, 0) S (!decide (decide (((Pp mask (Ej e).length : Nat) : Int) = 0) = decide (((Pp mask (Ej e).length : Nat) : Int) = 0))))))) _
  rw [decide_eq_true (rfl : (0 : Int) = 0), Bool.not_true, cond_false, cond_false, decide_eq_true (by omega), Bool.not_true, cond_false, decide_eq_true rfl, Bool.not_true, aB7 he (by omega)]
  exact Ok.ret rfl
end
end Go.Proofs.YtkoflhimdenjaaaGreat
