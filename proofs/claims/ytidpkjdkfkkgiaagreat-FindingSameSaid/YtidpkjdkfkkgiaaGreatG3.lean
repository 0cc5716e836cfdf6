import Derived.Test.YtidpkjdkfkkgiaaGreatG2
set_option autoImplicit false
set_option linter.unusedVariables false
set_option linter.unusedSimpArgs false
namespace Go.Proofs.YtidpkjdkfkkgiaaGreat
open Go
theorem rJ (at' : Aa) : S0 (Sr at') = true := rfl
theorem gR {at' : Aa} (h : P9 at' = 0) {f : Aa} (h1 : f.Source = at'.Source) (h2 : f.Host = at'.Host) (h3 : f.Machine = at'.Machine) (h4 : f.Day = at'.Day) (h5 : f.Confidence = at'.Confidence) (h6 : f.Subject = at'.Subject) (hc : S0 f = true) : P9 f = 0 := by
 unfold P9 at h ⊢
 rw [h1, h2, h3, h4, h5, h6, hc]
 generalize (Et at'.Host && (Et at'.Subject && (decide (0 <= at'.Machine) && decide (at'.Machine <= 1099511627776)))) = a at *
 generalize (decide (0 <= at'.Day) && (decide (at'.Day <= 40000) && (decide (1 <= at'.Confidence) && decide (at'.Confidence <= 100)))) = b at *
 generalize decide (1 <= at'.Source) = c at *
 generalize decide (at'.Source <= 7) = d at *
 generalize S0 at' = x at *
 cases a <;> cases b <;> cases c <;> cases d <;> cases x <;> first | rfl | cases h
theorem Ll {at' : Aa} (hf : Oz at') (h : P9 at' = 0) {k n : Int} {u : As} (hc : S0 (Oh at' k u n) = true) : Oz (Oh at' k u n) /\ P9 (Oh at' k u n) = 0 := ⟨Xg hf k u n, gR h rfl rfl rfl rfl rfl rfl hc⟩
theorem W9 (at' : Aa) (k n : Int) : T5 (Oh at' k ⟨0, 0⟩ n) = true := rfl
theorem aCs (at' : Aa) {n : Int} (h : 0 <= n /\ n <= 65535) : S0 (Oh at' 2 ⟨0, 0⟩ n) = true := by
 show (T5 (Oh at' 2 ⟨0, 0⟩ n) && (decide (0 <= n) && decide (n <= 65535))) = true
 rw [W9, decide_eq_true h.1, decide_eq_true h.2]; rfl
theorem oX (at' : Aa) {k n : Int} (hk : k = 4 \/ k = 5) (h : 1 <= n /\ n <= 4) : S0 (Oh at' k ⟨0, 0⟩ n) = true := by
 rcases hk with rfl | rfl
 ·show (T5 (Oh at' 4 ⟨0, 0⟩ n) && (decide (1 <= n) && decide (n <= 4))) = true
  rw [W9, decide_eq_true h.1, decide_eq_true h.2]; rfl
 ·show (T5 (Oh at' 5 ⟨0, 0⟩ n) && (decide (1 <= n) && decide (n <= 4))) = true
  rw [W9, decide_eq_true h.1, decide_eq_true h.2]; rfl
theorem aEr (at' : Aa) {n : Int} (h : 0 <= n /\ n <= 2147483648) : S0 (Oh at' 6 ⟨0, 0⟩ n) = true := by
 show (T5 (Oh at' 6 ⟨0, 0⟩ n) && (decide (0 <= n) && decide (n <= 2147483648))) = true
 rw [W9, decide_eq_true h.1, decide_eq_true h.2]; rfl
theorem aA0 (at' : Aa) {u : As} (h : 0 < K0 u) : S0 (Oh at' 1 u 0) = true := by
 unfold S0
 show (bif decide ((1 : Int) = 1) || decide ((1 : Int) = 8) then decide (0 < K0 u) && _ else _) = true
 rw [decide_eq_true h]; rfl
theorem aD7 (at' : Aa) {u : As} {n : Int} (h : Mb u 2 = true) (hn : 0 <= n /\ n <= 2147483648) : S0 (Oh at' 3 u n) = true := by
 unfold Mb at h
 rw [Bool.and_eq_true] at h
 have h1 : decide (0 < K0 (Oh at' 3 u n).Use) = true := h.1
 have h2 : decide (M1 (Oh at' 3 u n).Use.Alg = 2) = true := h.2
 have h3 : decide (0 <= (Oh at' 3 u n).Number) = true := decide_eq_true hn.1
 have h4 : decide ((Oh at' 3 u n).Number <= 2147483648) = true := decide_eq_true hn.2
 unfold S0
 rw [h1, h2, h3, h4]
 rfl
theorem oP {at' : Aa} (hf : Oz at') (h : P9 at' = 0) {name : ByteArray} {e : A6} (he : lJ name e) : Tg (iW at' e) := by
 have hh := he.hashes
 unfold pR at hh
 have ha := he.anchors
 unfold nO at ha
 have h1 := he.least
 have h2 := he.most
 have h3 := he.most4
 intro f hff
 unfold iW at hff
 simp only [List.mem_append, List.mem_cons, List.not_mem_nil, or_false, List.mem_map] at hff
 rcases hff with (((((rfl | rfl) | ⟨n, hn, rfl⟩) | ⟨x, hx, rfl⟩) | ⟨n, hn, rfl⟩) | ⟨n, hn, rfl⟩)
 ·exact Ll hf h (oX at' (.inr rfl) (by omega))
 ·exact Ll hf h (oX at' (.inl rfl) (by omega))
 ·obtain ⟨i, hi⟩ := List.mem_iff_getElem?.1 hn
  have := (he.suites i n hi).1
  unfold rV at this
  exact Ll hf h (aCs at' (by omega))
 ·have q := he.ids x hx
  exact Ll hf h (aD7 at' q.key.2 (by have := q.id; omega))
 ·have : 0 <= n /\ n <= 2147483648 := by
   simp only [List.mem_cons, List.not_mem_nil, or_false] at ha
   rcases ha with e | e | e | e | e <;> rw [e] at hn <;> simp only [List.mem_cons, List.not_mem_nil, or_false] at hn <;> omega
  exact Ll hf h (aEr at' this)
 ·refine Ll hf h (aA0 at' ?_)
  have : n = 1 \/ n = 2 \/ n = 3 \/ n = 4 := by
   simp only [List.mem_cons, List.not_mem_nil, or_false] at hh
   rcases hh with e | e | e <;> rw [e] at hn <;> simp only [List.mem_cons, List.not_mem_nil, or_false] at hn <;> omega
  rcases this with rfl | rfl | rfl | rfl <;> decide +kernel
theorem lJ.few {name : ByteArray} {e : A6} (h : lJ name e) : mR e := by
 have h1 := h.sn
 have h2 := h.idn
 have ha := h.anchors
 have hh := h.hashes
 unfold nO at ha
 unfold pR at hh
 simp only [List.mem_cons, List.not_mem_nil, or_false] at ha hh
 refine ⟨by omega, by omega, ?_, ?_⟩
 ·rcases ha with e | e | e | e | e <;> rw [e] <;> decide
 ·rcases hh with e | e | e <;> rw [e] <;> decide
theorem pM : Et ⟨#[119, 101, 98]⟩ = true /\ fA ⟨#[119, 101, 98]⟩ = true := by decide +kernel
theorem Wa {at' : Aa} (hf : Oz at') (h : P9 at' = 0) {e : A6} (he : lJ ⟨#[119, 101, 98]⟩ e) : A9 at' e = some (Jf aK (iW at' e), 0) := by
 rw [lR hf (he.fit (by decide)) he.few]
 have h1 : Sv (Sr at') = false := by
  unfold Sv
  rw [gR (f := Sr at') h rfl rfl rfl rfl rfl rfl (rJ at')]; rfl
 have h2 : Bg e = some 0 := Dc.zero (Oj (he.fit (by decide))) (he.valid pM.2)
 unfold cY
 rw [h1, cond_false, decide_eq_true h2, cond_true, (oP hf h he).norm]
theorem kX {l : List Af} (hl : l.length <= 20) (h : ∀ c ∈ l, Qd c) : Di l = some l := by
 unfold Di
 refine (M0 (body := fun q' => Di.l1 l q'.1 q'.2) l.length (fun i => ((i : Int), l.take i)) (some l) (fun i hi => ?_) ?_)
 ·obtain ⟨x, hx⟩ : ∃ x, l[i]? = some x := ⟨_, List.getElem?_eq_getElem hi⟩
  show Di.l1 l (i : Int) (l.take i) = _
  unfold Di.l1
  rw [H8 hx, jK x (h x (Ja hx)), Option.bind_some, Hm (by rw [List.length_take, List.length_singleton]; omega), Option.bind_some, Gq (by omega), F6 hx]
 ·show Di.l1 l (l.length : Int) (l.take l.length) = _
  unfold Di.l1
  rw [Ge, List.take_length]
theorem aA7 {name : ByteArray} {e : A6} (h : lJ name e) : Ey e = some e := by
 have hf := h.few
 have h1 := hf.suites
 have h2 := hf.ids
 have h3 := hf.anchors
 have h4 := hf.hashes
 unfold Ey
 rw [Hm (by show (0 + e.Suites.length) * 8 <= _; omega), Option.bind_some, Hm (by show (0 + e.Anchors.length) * 8 <= _; omega), Option.bind_some, Hm (by show (0 + e.Hashes.length) * 8 <= _; omega), Option.bind_some, List.nil_append, List.nil_append, List.nil_append]
 refine (M0 (body := fun q' => Ey.l1 e e.Suites e.Anchors e.Hashes q'.1 q'.2) e.Identities.length (fun i => ((i : Int), e.Identities.take i)) (some e) (fun i hi => ?_) ?_)
 ·obtain ⟨x, hx⟩ : ∃ x, e.Identities[i]? = some x := ⟨_, List.getElem?_eq_getElem hi⟩
  have q := h.ids x (Ja hx)
  have ql := q.len
  show Ey.l1 e e.Suites e.Anchors e.Hashes (i : Int) (e.Identities.take i) = _
  unfold Ey.l1
  rw [H8 hx, kX (by omega) (fun c hc => (q.chain c hc).2), Option.bind_some, Hm (by rw [List.length_take, List.length_singleton]; omega), Option.bind_some, Gq (by omega), F6 hx]
 ·show Ey.l1 e e.Suites e.Anchors e.Hashes (e.Identities.length : Int) (e.Identities.take e.Identities.length) = _
  unfold Ey.l1
  rw [Ge, List.take_length]
def Rm {α : Type} (S : List α) (i : Nat) : List α := S.reverse.take i ++ S.drop i
theorem fE {α : Type} (S : List α) {i : Nat} (h : i <= S.length) : (Rm S i).length = S.length := by
 unfold Rm
 rw [List.length_append, List.length_take, List.length_drop, List.length_reverse]; omega
theorem eY {α : Type} {S : List α} {i : Nat} (hi : i < S.length) {x : α} (hx : S[S.length - 1 - i]? = some x) : Cs (Rm S i) i x = Rm S (i + 1) := by
 have hr : S.reverse[i]? = some x := by rw [List.getElem?_reverse hi]; exact hx
 unfold Rm Cs
 rw [F6 hr, List.append_assoc, List.set_append_right _ _ (by rw [List.length_take, List.length_reverse]; omega), List.length_take, List.length_reverse, show i - min i S.length = 0 by omega, List.drop_eq_getElem_cons hi]
 rfl
theorem aP {α : Type} (S : List α) : Rm S 0 = S := by unfold Rm; simp
theorem Ue {α : Type} (S : List α) : Rm S S.length = S.reverse := by
 unfold Rm
 rw [List.drop_length, List.append_nil, List.take_of_length_le (by rw [List.length_reverse]; exact Nat.le_refl _)]
theorem wL {α : Type} {l : List α} {a b : α} (ha : a ∈ l) (hb : b ∈ l) (h : a ≠ b) : 2 <= l.length := by
 match l, ha, hb with
 | [x], ha, hb => rw [List.mem_singleton] at ha hb; exact absurd (ha.trans hb.symm) h
 | _ :: _ :: _, _, _ => simp
theorem Wu (t : List Int) : Ao t = some true := by
 unfold Ao Mo
 rw [Option.bind_some]
 by_cases hl : (t.length : Int) <= 400
 case neg => rw [decide_eq_false hl, Bool.not_false, cond_true, bN]; rfl
 rw [decide_eq_true hl, Bool.not_true, cond_false]
 refine Ok.true_ ?_
 refine Ok.bind (zU (by omega)) fun d hd => ?_
 refine Ok.bind (Wt hd) fun y4 h4 => ?_
 obtain ⟨⟨hc4, hf4⟩, hd4⟩ := h4
 have hk : P9 y4.1 = 0 := (sE ⟨hc4, hf4⟩).2
 refine Ok.bind (fP hd4 pM.1 (by decide)) fun y5 h5 => ?_
 obtain ⟨he, -⟩ := h5
 have hfew := he.few
 have n1 := hfew.suites
 have n2 := hfew.ids
 refine Ok.bindE (aA7 he) ?_
 have e1 : Cf (fun q' => Ao.l1 y4 y5 y5.1 q'.1 q'.2) (0, y5.1.Suites) = Cf (fun q' => Ao.l2 y4 y5 y5.1 y5.1.Suites.reverse q'.1 q'.2) (0, y5.1.Identities) := by
  have := M0 (body := fun q' => Ao.l1 y4 y5 y5.1 q'.1 q'.2) y5.1.Suites.length (fun i => ((i : Int), Rm y5.1.Suites i)) (Cf (fun q' => Ao.l2 y4 y5 y5.1 y5.1.Suites.reverse q'.1 q'.2) (0, y5.1.Identities)) (fun i hi => ?_) ?_
  ·rw [aP] at this
   exact this
  ·have hlen := fE y5.1.Suites (Nat.le_of_lt hi)
   obtain ⟨x, hx⟩ : ∃ x, y5.1.Suites[y5.1.Suites.length - 1 - i]? = some x := ⟨_, List.getElem?_eq_getElem (by omega)⟩
   obtain ⟨z, hz⟩ : ∃ z, (Rm y5.1.Suites i)[i]? = some z := ⟨_, List.getElem?_eq_getElem (by omega)⟩
   show Ao.l1 y4 y5 y5.1 (i : Int) (Rm y5.1.Suites i) = _
   unfold Ao.l1
   rw [decide_eq_true (by omega), cond_true, Ee (x := (y5.1.Suites.length : Int) - 1) (by omega), Ee (x := (y5.1.Suites.length : Int) - 1 - (i : Int)) (by omega), show (y5.1.Suites.length : Int) - 1 - (i : Int) = ((y5.1.Suites.length - 1 - i : Nat) : Int) by omega, Eg, hx, Option.bind_some, Eg, hz, Option.bind_some, Gq (by omega), Int.toNat_natCast, eY hi hx]
  ·show Ao.l1 y4 y5 y5.1 (y5.1.Suites.length : Int) (Rm y5.1.Suites y5.1.Suites.length) = _
   unfold Ao.l1
   rw [decide_eq_false (by rw [Ue, List.length_reverse]; omega), cond_false, Ue]
 rw [show Cf (fun q' => Ao.l1 y4 y5 y5.1 q'.1 q'.2) (0, y5.1.Suites) = _ from e1]
 clear e1
 have he8 : lJ ⟨#[119, 101, 98]⟩ (A6.mk y5.1.Name y5.1.Least y5.1.Most y5.1.Suites.reverse (!y5.1.OwnOrder) y5.1.Identities.reverse y5.1.Anchors y5.1.Hashes (!y5.1.Fallback)) := by
  refine ⟨he.name, he.least, he.most, he.most4, by show y5.1.Suites.reverse.length <= 10; rw [List.length_reverse]; exact he.sn, ?_, by show y5.1.Identities.reverse.length <= 3; rw [List.length_reverse]; exact he.idn, fun x hx => he.ids x (List.mem_reverse.1 hx), he.anchors, he.hashes⟩
  refine Vi ?_ fun x hx => ?_
  ·show y5.1.Suites.reverse.Nodup
   exact (List.reverse_perm _).nodup_iff.2 (qQ he.suites)
  ·obtain ⟨i, hi⟩ := List.mem_iff_getElem?.1 (List.mem_reverse.1 hx)
   exact (he.suites i x hi).1
 have hsame : Jf aK (iW y4.1 (A6.mk y5.1.Name y5.1.Least y5.1.Most y5.1.Suites.reverse (!y5.1.OwnOrder) y5.1.Identities.reverse y5.1.Anchors y5.1.Hashes (!y5.1.Fallback))) = Jf aK (iW y4.1 y5.1) := by
  refine Wc bS fun z => ?_
  unfold iW
  simp only [List.mem_append, List.mem_map, List.mem_reverse]
 have F7 := Wa hf4 hk he
 have F8 := Wa hf4 hk he8
 rw [hsame] at F8
 have hlen7 : (Jf aK (iW y4.1 y5.1)).length <= 202 := Nat.le_trans (Sp aK _) (jC _ hfew)
 generalize hL : Jf aK (iW y4.1 y5.1) = L7 at F7 F8 hlen7
 have J5 : Ok (Ao.j5 y4 y5 (L7, 0) (L7, 0) (decide ((y5.1.Suites.length : Int) = 0))) (fun r => r = true) := by
  unfold Ao.j5
  refine Ok.cond (fun h0 => ?_) fun h0 => ?_
  ·rw [decide_eq_true rfl, cond_true, h0, cond_true, bN]
   exact Ok.ret rfl
  have h0 := of_decide_eq_false h0
  obtain ⟨s0, hs0⟩ : ∃ x, y5.1.Suites[0]? = some x := ⟨_, List.getElem?_eq_getElem (by omega)⟩
  have hsu := (he.suites 0 s0 hs0).1
  have hsu' := hsu
  unfold rV at hsu'
  have hw1 := he.least
  have hw2 := he.most
  have hw3 := he.most4
  have hw4 := he.sn
  obtain ⟨s, hs, hs2, hs3⟩ := Xw s0
  have hz : s.2 = 0 := by
   rcases hs2 with ⟨q, -⟩ | ⟨-, q⟩
   ·exact q
   ·exact absurd hsu q
  have hu := hs3 hz
  have hHl : tV (C7.mk 4 y5.1.Suites ([] : List Int)) := by
   refine ⟨by show (1 : Int) <= 4 /\ (4 : Int) <= 4; omega, by show 1 <= y5.1.Suites.length /\ y5.1.Suites.length <= 16; omega, by show (0 : Nat) <= 16; omega, fun i x hx => ?_, fun i => nE.out (Nat.zero_le _)⟩
   have := he.suites i x hx
   have h1 := this.1
   unfold rV at h1
   exact ⟨by omega, this.2⟩
  have hCh : ChV (Cz.mk y5.1.Most s0 5) := ⟨by show 1 <= y5.1.Most /\ y5.1.Most <= 4; omega, by show 0 <= s0 /\ s0 <= 65535; omega, by show (0 : Int) <= 5 /\ (5 : Int) <= 2147483648; omega⟩
  have hb : Sv (Sr y4.1) = false := by
   unfold Sv
   rw [gR (f := Sr y4.1) hk rfl rfl rfl rfl rfl rfl (rJ y4.1)]; rfl
  have F11 := gW hf4 hb (m := C7.mk 4 y5.1.Suites ([] : List Int)) (c := Cz.mk y5.1.Most s0 5) (by show y5.1.Suites.length <= 1000; omega) (by show (0 : Nat) <= 1000; omega) hHl hCh hs
  have hcap : X3 y4.1 (Cz.mk y5.1.Most s0 5) s = [Oh y4.1 2 ⟨0, 0⟩ s0, Oh y4.1 4 ⟨0, 0⟩ y5.1.Most, Oh y4.1 1 s.1.Cipher 0, Oh y4.1 1 s.1.Mac 0] := by
   unfold X3
   rw [hz]; rfl
  have hgood : Tg (X3 y4.1 (Cz.mk y5.1.Most s0 5) s) := by
   rw [hcap]
   intro f hf
   simp only [List.mem_cons, List.not_mem_nil, or_false] at hf
   rcases hf with rfl | rfl | rfl | rfl
   ·exact Ll hf4 hk (aCs _ (by omega))
   ·exact Ll hf4 hk (oX _ (.inl rfl) (by omega))
   ·exact Ll hf4 hk (aA0 _ hu.1)
   ·exact Ll hf4 hk (aA0 _ hu.2)
  rw [hgood.norm] at F11
  have hmem : ∀ x, x ∈ Jf aK (X3 y4.1 (Cz.mk y5.1.Most s0 5) s) ↔ x ∈ [Oh y4.1 2 ⟨0, 0⟩ s0, Oh y4.1 4 ⟨0, 0⟩ y5.1.Most, Oh y4.1 1 s.1.Cipher 0, Oh y4.1 1 s.1.Mac 0] := fun x => by rw [Sk bS, hcap]
  have hl11 : (Jf aK (X3 y4.1 (Cz.mk y5.1.Most s0 5) s)).length <= 4 := by
   have := Sp aK (X3 y4.1 (Cz.mk y5.1.Most s0 5) s)
   rw [hcap] at this ⊢
   exact this
  generalize Jf aK (X3 y4.1 (Cz.mk y5.1.Most s0 5) s) = L11 at F11 hmem hl11
  rw [aAi, hs0, Option.bind_some]
  refine Ok.bindE F11 ?_
  refine V2 L11.length (fun _ => True) (fun i hi _ => ?_) fun _ => ?_
  ·obtain ⟨x, hx⟩ : ∃ x, L11[i]? = some x := ⟨_, List.getElem?_eq_getElem hi⟩
   show Ok (Ao.l6 y5 (L7, 0) (L11, 0) (i : Int)) _
   unfold Ao.l6
   refine oI hx ?_
   refine Ok.cond (fun _ => ?_) fun hkd => ?_
   ·unfold Ao.j9
    rw [Gq (by omega)]
    exact Ok.ret ⟨rfl, trivial⟩
   have hkd : x.Kind = 2 := by simpa using hkd
   have hx7 : x ∈ L7 := by
    have := (hmem x).1 (Ja hx)
    simp only [List.mem_cons, List.not_mem_nil, or_false] at this
    rw [<- hL, Sk bS]
    rcases this with rfl | rfl | rfl | rfl
    ·unfold iW
     simp only [List.mem_append, List.mem_map]
     exact .inl (.inl (.inl (.inr ⟨s0, Ja hs0, rfl⟩)))
    ·cases hkd
    ·cases hkd
    ·cases hkd
   refine Ok.loop (fun q : Bool × Int => ∃ m : Nat, q.2 = (m : Int) /\ m <= L7.length /\ q.1 = (L7.take m).any fun z => decide (z = x)) (fun q => L7.length - q.2.toNat) ?_ ⟨0, rfl, Nat.zero_le _, rfl⟩
   rintro ⟨_, _⟩ ⟨m, rfl, hm, rfl⟩
   show Ok (Ao.l7 (L7, 0) (i : Int) x ((L7.take m).any fun z => decide (z = x)) (m : Int)) _
   unfold Ao.l7
   refine Ok.cond (fun hb => ?_) fun hb => ?_
   ·have hml : m < L7.length := by have hb : (m : Int) < (L7.length : Int) := of_decide_eq_true hb; omega
    obtain ⟨z, hz⟩ : ∃ z, L7[m]? = some z := ⟨_, List.getElem?_eq_getElem hml⟩
    unfold Ao.j8
    rw [Gq (by omega)]
    refine Ok.cond (fun hc => ?_) fun hc => ?_
    ·refine Ok.ret ⟨⟨m + 1, rfl, hml, ?_⟩, by show L7.length - ((m + 1 : Nat) : Int).toNat < L7.length - ((m : Nat) : Int).toNat; omega⟩
     rw [F6 hz, List.any_append, hc]; rfl
    ·show Ok ((B1 L7 (m : Int)).bind _) _
     rw [Eg, hz, Option.bind_some]
     refine Ok.ret ⟨⟨m + 1, rfl, hml, ?_⟩, by show L7.length - ((m + 1 : Nat) : Int).toNat < L7.length - ((m : Nat) : Int).toNat; omega⟩
     rw [F6 hz, List.any_append, hc]; simp
   ·have hml : m = L7.length := by have hb : ¬ (m : Int) < (L7.length : Int) := of_decide_eq_false hb; omega
    subst hml
    rw [List.take_length]
    have : (L7.any fun z => decide (z = x)) = true := List.any_eq_true.2 ⟨x, hx7, decide_eq_true rfl⟩
    rw [this, Bool.not_true, cond_false]
    unfold Ao.j9
    rw [Gq (by omega)]
    exact Ok.up (Ok.ret ⟨rfl, trivial⟩)
  ·show Ok (Ao.l6 y5 (L7, 0) (L11, 0) (L11.length : Int)) _
   unfold Ao.l6
   refine aS (Ok.up ?_)
   show Ok (cond (decide ((0 : Int) = 0)) _ _) _
   rw [decide_eq_true rfl, cond_true]
   refine Ok.bind (fG _ (by show y5.1.Suites.length <= 1000; omega) (by show (0 : Nat) <= 1000; omega)) fun b hb => ?_
   rw [hb.2 hHl, cond_true]
   have h2 : 2 <= L11.length := wL (a := Oh y4.1 2 ⟨0, 0⟩ s0) (b := Oh y4.1 4 ⟨0, 0⟩ y5.1.Most) ((hmem _).2 (.head _)) ((hmem _).2 (.tail _ (.head _))) fun e => by
    have := congrArg Aa.Kind e
    exact absurd this (by show ¬ (2 : Int) = 4; omega)
   refine Ok.cond (fun _ => ?_) fun h => absurd (show (2 : Int) <= (L11.length : Int) by omega) (of_decide_eq_false h)
   rw [bN]
   exact Ok.ret rfl
 have e2 : Cf (fun q' => Ao.l2 y4 y5 y5.1 y5.1.Suites.reverse q'.1 q'.2) (0, y5.1.Identities) = Ao.j5 y4 y5 (L7, 0) (L7, 0) (decide ((y5.1.Suites.length : Int) = 0)) := by
  have := M0 (body := fun q' => Ao.l2 y4 y5 y5.1 y5.1.Suites.reverse q'.1 q'.2) y5.1.Identities.length (fun i => ((i : Int), Rm y5.1.Identities i)) (Ao.j5 y4 y5 (L7, 0) (L7, 0) (decide ((y5.1.Suites.length : Int) = 0))) (fun i hi => ?_) ?_
  ·rw [aP] at this
   exact this
  ·have hlen := fE y5.1.Identities (Nat.le_of_lt hi)
   obtain ⟨x, hx⟩ : ∃ x, y5.1.Identities[y5.1.Identities.length - 1 - i]? = some x := ⟨_, List.getElem?_eq_getElem (by omega)⟩
   obtain ⟨z, hz⟩ : ∃ z, (Rm y5.1.Identities i)[i]? = some z := ⟨_, List.getElem?_eq_getElem (by omega)⟩
   show Ao.l2 y4 y5 y5.1 y5.1.Suites.reverse (i : Int) (Rm y5.1.Identities i) = _
   unfold Ao.l2
   rw [decide_eq_true (by omega), cond_true, Ee (x := (y5.1.Identities.length : Int) - 1) (by omega), Ee (x := (y5.1.Identities.length : Int) - 1 - (i : Int)) (by omega), show (y5.1.Identities.length : Int) - 1 - (i : Int) = ((y5.1.Identities.length - 1 - i : Nat) : Int) by omega, Eg, hx, Option.bind_some, Eg, hz, Option.bind_some, Gq (by omega), Int.toNat_natCast, eY hi hx]
  ·show Ao.l2 y4 y5 y5.1 y5.1.Suites.reverse (y5.1.Identities.length : Int) (Rm y5.1.Identities y5.1.Identities.length) = _
   unfold Ao.l2
   rw [decide_eq_false (by rw [Ue, List.length_reverse]; omega), cond_false, Ue, F7, Option.bind_some, F8, Option.bind_some]
   show up (cond (!decide ((0 : Int) = 0)) _ (cond (!decide ((0 : Int) = 0)) _ ((D7 L7 L7).bind _))) = _
   rw [decide_eq_true rfl, Bool.not_true, cond_false, cond_false, uB _ _ (by omega), Option.bind_some, decide_eq_true rfl, Bool.not_true, cond_false]
 rw [show Cf (fun q' => Ao.l2 y4 y5 y5.1 y5.1.Suites.reverse q'.1 q'.2) (0, y5.1.Identities) = _ from e2]
 exact J5
end Go.Proofs.YtidpkjdkfkkgiaaGreat
