import Derived.Test.YtidpkjdkfkkgiaaGreatES
import Derived.Test.YtidpkjdkfkkgiaaGreatCH
set_option autoImplicit false
set_option linter.unusedVariables false
set_option linter.unusedSimpArgs false
namespace Go.Proofs.YtidpkjdkfkkgiaaGreat
open Go
theorem Tc (n : Int) : Ok (Ho n) (fun _ => True) := by
 unfold Ho
 refine Ok.bind (bQ n) fun y _ => Ok.cond (fun _ => Ok.ret trivial) fun _ => ?_
 rw [Up, Option.bind_some]
 exact Ok.ret trivial
theorem qY {l : List Int} (hl : l.length <= 1000) : Ok (C2 l) (fun r => r.Perm l) := by
 unfold C2
 refine Ok.loop (fun s : Int × List Int => ∃ i : Nat, s.1 = (i : Int) /\ i <= l.length /\ s.2.Perm (l.take i)) (fun s => l.length - s.1.toNat) ?_ ⟨0, rfl, Nat.zero_le _, by simp⟩
 rintro ⟨_, out⟩ ⟨i, rfl, hi, hp⟩
 dsimp only at hp
 have hol : out.length = i := by have := hp.length_eq; rw [List.length_take] at this; omega
 show Ok (C2.l1 l (i : Int) out) _
 unfold C2.l1
 refine Ok.cond (fun hb => ?_) fun hb => ?_
 ·have hil : i < l.length := by have := of_decide_eq_true hb; omega
  obtain ⟨x, hx⟩ : ∃ x, l[i]? = some x := ⟨_, List.getElem?_eq_getElem hil⟩
  refine Ok.loop (fun k : Int => 0 <= k /\ k <= (out.length : Int)) (fun k => k.toNat) ?_ ⟨by omega, by omega⟩
  rintro k ⟨hk1, hk2⟩
  show Ok (C2.l2 l (i : Int) out k) _
  generalize hT : (sX (fun s' : Int => (0 <= s' /\ s' <= (out.length : Int)) /\ s'.toNat < k.toNat) (sX (fun s' : Int × List Int => (∃ i : Nat, s'.1 = (i : Int) /\ i <= l.length /\ s'.2.Perm (l.take i)) /\ l.length - s'.1.toNat < l.length - ((i : Nat) : Int).toNat) (fun r : List Int => r.Perm l))) = T
  have J : ∀ b, (b = true -> 0 < k) -> Ok (C2.j3 l (i : Int) out k b) T := by
   intro b hb
   unfold C2.j3
   rw [<- hT]
   refine Ok.cond (fun h => ?_) fun _ => ?_
   ·have := hb h
    rw [Ee (by omega)]
    exact Ok.ret ⟨by omega, by omega⟩
   ·refine Ok.up ?_
    refine Ok.bind (Yy (by omega)) fun _ _ => ?_
    have ht : (out.drop (0 : Int).toNat).take (k.toNat - (0 : Int).toNat) = out.take k.toNat := by simp
    have hd : (out.drop k.toNat).take ((out.length : Int).toNat - k.toNat) = out.drop k.toNat := by
     rw [List.take_of_length_le]; rw [List.length_drop]; omega
    rw [ht, hd]
    refine Ok.bind (Ju (by simp; omega)) fun l3 h3 => ?_
    subst h3
    rw [Eg, hx, Option.bind_some]
    refine Ok.bind (Ju (by simp; omega)) fun l4 h4 => ?_
    subst h4
    refine Ok.bind (Yy (by omega)) fun _ _ => ?_
    refine Ok.bind (Ju (by simp; omega)) fun l6 h6 => ?_
    subst h6
    rw [Ee (by omega)]
    refine Ok.ret ⟨⟨i + 1, by show (i : Int) + 1 = _; omega, hil, ?_⟩, by show l.length - ((i : Int) + 1).toNat < l.length - ((i : Nat) : Int).toNat; omega⟩
    show ([] ++ out.take k.toNat ++ [x] ++ out.drop k.toNat).Perm _
    rw [F6 hx, List.nil_append, List.append_assoc]
    refine List.Perm.trans ?_ (hp.append_right [x])
    refine List.Perm.trans (List.Perm.append_left _ List.perm_append_comm) ?_
    rw [<- List.append_assoc, List.take_append_drop]
  unfold C2.l2
  refine Ok.cond (fun hk => ?_) fun hk => J false fun h => by cases h
  have hk := of_decide_eq_true hk
  rw [Ee (by omega)]
  refine Ok.bind (Kr (by omega) (by omega)) fun e _ => ?_
  refine Ok.bind (Tc e) fun y _ => ?_
  rw [Eg, hx, Option.bind_some]
  exact Ok.bind (Tc x) fun y2 _ => J _ fun _ => hk
 ·have hil : i = l.length := by have := of_decide_eq_false hb; omega
  subst hil
  rw [List.take_length] at hp
  exact Ok.up (Ok.ret hp)
theorem Vi {l : List Int} (h : l.Nodup) (hr : ∀ x ∈ l, rV x) (i : Nat) : rU l i := fun x hx => by
 refine ⟨hr x (Ja hx), fun hm => ?_⟩
 obtain ⟨j, hj, he⟩ := List.mem_take_iff_getElem.1 hm
 rw [List.nodup_iff_pairwise_ne, List.pairwise_iff_getElem] at h
 have hi := Oq hx
 have := h j i (by omega) hi (by omega)
 rw [List.getElem?_eq_getElem hi] at hx
 exact this (by rw [he]; exact (oi_ hx).symm)
theorem mF {d : Ad} (h : Mu d) : Ok (Dn d) (fun y => (y.1.length <= 10 /\ ∀ i, rU y.1 i) /\ Mu y.2) := by
 unfold Dn
 refine Ok.bind (Gp h 9 (by omega) (by omega)) fun y hy => ?_
 have hy1 := hy.1
 rw [Ee (x := 2 + y.1) (by omega)]
 refine Ok.loop (fun s : Int × Ad × List Int => (0 <= s.1 /\ (s.2.2.length : Int) + s.1 <= 10) /\ Mu s.2.1 /\ s.2.2.Nodup /\ ∀ x ∈ s.2.2, rV x) (fun s => s.1.toNat) ?_ ⟨⟨by show 0 <= 2 + y.1; omega, by show (0 : Int) + (2 + y.1) <= 10; omega⟩, hy.2, List.nodup_nil, fun x hx => by cases hx⟩
 rintro ⟨i, d, l⟩ ⟨⟨h1, h2⟩, hd, hn, hr⟩
 dsimp only at h1 h2 hd hn hr
 show Ok (Dn.l1 i d l) _
 unfold Dn.l1
 refine Ok.cond (fun hb => ?_) fun hb => ?_
 ·have hb := of_decide_eq_true hb
  refine Ok.bind (Gp hd 16 (by omega) (by omega)) fun z hz => ?_
  have hz1 := hz.1
  rw [Ee (x := 1 + z.1) (by omega), Yg _ _ (by unfold Lo; omega), Option.bind_some]
  refine Ok.cond (fun hc => ?_) fun hc => ?_
  ·refine Ok.bind (Ju (by simp; omega)) fun l' hl' => ?_
   subst hl'
   unfold Dn.j2
   rw [Ee (by omega)]
   have hni : (1 + z.1) ∉ l := by simpa using hc
   refine Ok.ret ⟨⟨⟨by show 0 <= i - 1; omega, ?_⟩, hz.2, ?_, fun x hx => ?_⟩, by show (i - 1).toNat < i.toNat; omega⟩
   ·show (((l ++ [1 + z.1]).length : Nat) : Int) + (i - 1) <= 10
    rw [List.length_append, List.length_singleton]; omega
   ·show (l ++ [1 + z.1]).Nodup
    rw [List.nodup_append]
    exact ⟨hn, by simp, fun a ha b hb e => by rw [List.mem_singleton] at hb; subst hb; subst e; exact hni ha⟩
   ·rcases List.mem_append.1 hx with hx | hx
    ·exact hr x hx
    ·rw [List.mem_singleton] at hx
     subst hx
     exact ⟨by omega, by omega⟩
  ·unfold Dn.j2
   rw [Ee (by omega)]
   exact Ok.ret ⟨⟨⟨by show 0 <= i - 1; omega, by show (l.length : Int) + (i - 1) <= 10; omega⟩, hz.2, hn, hr⟩, by show (i - 1).toNat < i.toNat; omega⟩
 ·refine Ok.up ?_
  refine Ok.bind (Y6 hd 4 (by omega) (by omega)) fun z hz => ?_
  refine Ok.cond (fun _ => ?_) fun _ => Ok.ret ⟨⟨by show l.length <= 10; omega, Vi hn hr⟩, hz⟩
  refine Ok.bind (qY (by omega)) fun r hp => Ok.ret ⟨⟨by show r.length <= 10; have := hp.length_eq; omega, Vi (hp.nodup_iff.2 hn) fun x hx => hr x (hp.mem_iff.1 hx)⟩, hz⟩
structure IdM (x : Be) : Prop where
 key : eG x.Key
 id : 0 <= x.KeyId /\ x.KeyId <= 1000
 len : x.Chain.length <= 3
 chain : ∀ c ∈ x.Chain, Gx c = true /\ Qd c
 head : Xs x.Key x.KeyId x.Chain = true
theorem IdM.shows {x : Be} (h : IdM x) : Tj x.Key x.KeyId x.Chain = true := qT h.key.2 (by have := h.id; omega) (by have := h.len; omega) (fun c hc => (h.chain c hc).1) h.head
def nO : List (List Int) := [[1, 2], [1, 2], [1], [2, 11], []]
def pR : List (List Int) := [[1, 2, 3, 4], [2, 3, 4], [3, 4]]
structure lJ (name : ByteArray) (e : A6) : Prop where
 name : e.Name = name
 least : 1 <= e.Least
 most : e.Least <= e.Most
 most4 : e.Most <= 4
 sn : e.Suites.length <= 10
 suites : ∀ i, rU e.Suites i
 idn : e.Identities.length <= 3
 ids : ∀ x ∈ e.Identities, IdM x
 anchors : e.Anchors ∈ nO
 hashes : e.Hashes ∈ pR
theorem vJ {l : List Int} (h : (List.range l.length).all (fun i => decide (i = 0) || decide (l.getD (i - 1) 0 < l.getD i 0)) = true) (i : Nat) : VA (fun x y : Int => x < y) l i := fun x y h0 hx hy => by
 have hi := Oq hy
 have := List.all_eq_true.1 h i (List.mem_range.2 hi)
 rw [decide_eq_false (by omega), Bool.false_or, Ql hx, Ql hy] at this
 exact of_decide_eq_true this
theorem lJ.fit {name : ByteArray} (hn : name.size <= 32) {e : A6} (h : lJ name e) : qL e := by
 have h1 := h.sn
 have h2 := h.idn
 refine ⟨by rw [h.name]; omega, by unfold Lo; omega, by unfold Lo; omega, ?_, ?_, fun x hx c hc => ((h.ids x hx).chain c hc).2.w⟩
 ·have := h.anchors
  unfold nO at this
  simp only [List.mem_cons, List.not_mem_nil, or_false] at this
  rcases this with e | e | e | e | e <;> rw [e] <;> (unfold Lo; decide)
 ·have := h.hashes
  unfold pR at this
  simp only [List.mem_cons, List.not_mem_nil, or_false] at this
  rcases this with e | e | e <;> rw [e] <;> (unfold Lo; decide)
theorem lJ.valid {name : ByteArray} (hw : fA name = true) {e : A6} (h : lJ name e) : EpV e := by
 have hi := h.idn
 have ha := h.anchors
 have hh := h.hashes
 unfold nO at ha
 unfold pR at hh
 simp only [List.mem_cons, List.not_mem_nil, or_false] at ha hh
 refine ⟨by rw [h.name]; exact hw, h.least, h.most, h.most4, h.suites, by omega, ?_, ?_, ?_, fun x hx => (h.ids x hx).shows, ?_, ?_⟩
 ·rcases ha with e | e | e | e | e <;> rw [e] <;> decide
 ·rcases ha with e | e | e | e | e <;> rw [e] <;> exact vJ (by decide)
 ·rcases hh with e | e | e <;> rw [e] <;> exact vJ (by decide)
 ·rcases ha with e | e | e | e | e <;> rw [e] <;> decide
 ·rcases hh with e | e | e <;> rw [e] <;> decide +kernel
theorem aDg {n : Int} (h : 0 <= n /\ n <= 100000) : Sm n := h
theorem nG {d : Ad} (h : Mu d) {a : Int} (ha : a ∈ ([5, 7] : List Int)) : Ok (B7 d a) (fun y => eG ⟨a, y.1⟩ /\ Mu y.2) := by
 have h5 : ∀ b ∈ ([2048, 1024, 512, 3072, 1023, 4096, 16384] : List Int), eG ⟨5, b⟩ := fun b hb => ⟨⟨aDg ⟨by show (0 : Int) <= 5; omega, by show (5 : Int) <= 100000; omega⟩, We (by decide) hb⟩, Xt (by decide +kernel) hb⟩
 have h7 : ∀ b ∈ ([256, 160, 224, 384, 521] : List Int), eG ⟨7, b⟩ := fun b hb => ⟨⟨aDg ⟨by show (0 : Int) <= 7; omega, by show (7 : Int) <= 100000; omega⟩, We (by decide) hb⟩, Xt (by decide +kernel) hb⟩
 simp only [List.mem_cons, List.not_mem_nil, or_false] at ha
 rcases ha with rfl | rfl
 ·unfold B7
  exact Ok.bind (L3 h _ (by decide) (by decide)) fun y hy => Ok.ret ⟨h5 _ hy.1, hy.2⟩
 ·unfold B7
  exact Ok.bind (L3 h _ (by decide) (by decide)) fun y hy => Ok.ret ⟨h7 _ hy.1, hy.2⟩
theorem Uk {d : Ad} (h : Mu d) : Mu (Ad.mk d.L d.At) := h
theorem fP {d : Ad} (h : Mu d) {name : ByteArray} (hn : Et name = true) (hn31 : name.size <= 31) : Ok (Bm d name) (fun y => lJ name y.1 /\ Mu y.2) := by
 unfold Bm
 refine Ok.bind (L3 h _ (by decide) (by decide)) fun y hy => ?_
 have b1 : 1 <= y.1 /\ y.1 <= 3 := by
  have := hy.1
  simp only [List.mem_cons, List.not_mem_nil, or_false] at this
  omega
 refine Ok.bind (mF hy.2) fun y2 h2 => ?_
 refine Ok.bind (Y6 h2.2 2 (by omega) (by omega)) fun y3 h3 => ?_
 refine Ok.bind (Y6 h3 2 (by omega) (by omega)) fun y4 h4 => ?_
 rw [Ee (x := 5 - y.1) (by omega)]
 refine Ok.bind (Gp h4 (5 - y.1) (by omega) (by omega)) fun y5 h5 => ?_
 have b5 := h5.1
 refine Ok.bind (Gp h5.2 3 (by omega) (by omega)) fun y6 h6 => ?_
 have J : ∀ (d : Ad) (a b : Int), Mu d -> 1 <= a -> a <= b -> b <= 4 -> Ok (Bm.j1 name y2 y3 y4 d.L d.At a b) (fun y => lJ name y.1 /\ Mu y.2) := by
  intro d a b hd ha hab hb
  unfold Bm.j1
  refine Ok.bind (L3 (Uk hd) _ (by decide) (by decide)) fun y8 h8 => ?_
  have b8 : 0 <= y8.1 /\ y8.1 <= 3 := by
   have := h8.1
   simp only [List.mem_cons, List.not_mem_nil, or_false] at this
   omega
  refine Ok.loop (fun s : Int × List Int × Int × List Be => 0 <= s.1 /\ s.1 + (s.2.2.2.length : Int) <= 3 /\ Mu (Ad.mk s.2.1 s.2.2.1) /\ ∀ x ∈ s.2.2.2, IdM x) (fun s => s.1.toNat) ?_ ⟨b8.1, by show y8.1 + ((([] : List Be).length : Nat) : Int) <= 3; simp; omega, Uk h8.2, fun x hx => by cases hx⟩
  rintro ⟨i, dl, da, l⟩ ⟨k1, k2, kd, kl⟩
  dsimp only at k1 k2 kd kl
  show Ok (Bm.l2 name y2 y3 y4 a b i dl da l) _
  unfold Bm.l2
  refine Ok.cond (fun hb => ?_) fun hb => ?_
  ·have hb := of_decide_eq_true hb
   refine Ok.bind (tG kd) fun y9 h9 => ?_
   refine Ok.bind (Gp h9.2 3 (by omega) (by omega)) fun y10 h10 => ?_
   generalize hT : (sX (fun s' : Int × List Int × Int × List Be => (0 <= s'.1 /\ s'.1 + (s'.2.2.2.length : Int) <= 3 /\ Mu (Ad.mk s'.2.1 s'.2.2.1) /\ ∀ x ∈ s'.2.2.2, IdM x) /\ s'.1.toNat < i.toNat) (fun y : A6 × Ad => lJ name y.1 /\ Mu y.2)) = T
   have K : ∀ (d : Ad) (u v : Int), Mu d -> eG ⟨u, v⟩ -> Ok (Bm.j3 name i l d.L d.At u v) T := by
    intro d u v hd hk
    unfold Bm.j3
    refine Ok.bind (Gp (Uk hd) 20 (by omega) (by omega)) fun y13 h13 => ?_
    have b13 := h13.1
    refine Ok.bind (Y6 h13.2 9 (by omega) (by omega)) fun y14 h14 => ?_
    rw [Ee (x := 100 + y13.1) (by omega)]
    have L : ∀ (dl : List Int) (da : Int) (ch : List Af), Mu (Ad.mk dl da) -> IdM ⟨⟨u, v⟩, 100 + y13.1, ch⟩ -> Ok (Bm.j4 i l u v y13 dl da ch) T := by
     intro dl da ch hd hi
     unfold Bm.j4
     refine Ok.bind (Ju (by simp; omega)) fun l' hl' => ?_
     subst hl'
     rw [<- hT, Ee (x := i - 1) (by omega), Ee (x := 100 + y13.1) (by omega)]
     refine Ok.ret ⟨⟨by show 0 <= i - 1; omega, ?_, hd, fun x hx => ?_⟩, by show (i - 1).toNat < i.toNat; omega⟩
     ·show i - 1 + (((l ++ [Be.mk (As.mk u v) (100 + y13.1) ch]).length : Nat) : Int) <= 3
      rw [List.length_append, List.length_singleton]; omega
     ·rcases List.mem_append.1 hx with hx | hx
      ·exact kl x hx
      ·rw [List.mem_singleton] at hx
       subst hx
       exact hi
    refine Ok.cond (fun _ => ?_) fun _ => L _ _ _ (Uk h14) ⟨hk, ⟨by show 0 <= 100 + y13.1; omega, by show 100 + y13.1 <= 1000; omega⟩, Nat.zero_le _, fun c hc => (by cases hc), rfl⟩
    refine Ok.bind (mN h14 hn hn31 hk (by omega)) fun y15 h15 => ?_
    exact L _ _ _ (Uk h15.2) ⟨hk, ⟨by show 0 <= 100 + y13.1; omega, by show 100 + y13.1 <= 1000; omega⟩, h15.1.1, h15.1.2.1, h15.1.2.2⟩
   refine Ok.cond (fun _ => ?_) fun _ => K _ _ _ h10.2 h9.1
   refine Ok.bind (L3 h10.2 _ (by decide) (by decide)) fun y11 h11 => ?_
   refine Ok.bind (nG h11.2 h11.1) fun y12 h12 => ?_
   exact K _ _ _ h12.2 h12.1
  ·refine Ok.up ?_
   refine Ok.bind (Gp kd 5 (by omega) (by omega)) fun y16 h16 => ?_
   refine Ok.bind (Kr h16.1.1 (by show y16.1 < (5 : Int); exact h16.1.2)) fun e he => ?_
   refine Ok.bind (Gp h16.2 3 (by omega) (by omega)) fun y17 h17 => ?_
   refine Ok.bind (Kr h17.1.1 (by show y17.1 < (3 : Int); exact h17.1.2)) fun e2 he2 => ?_
   exact Ok.ret ⟨⟨rfl, ha, hab, by assumption, h2.1.1, h2.1.2, by show l.length <= 3; omega, kl, he, he2⟩, h17.2⟩
 refine Ok.cond (fun _ => ?_) fun _ => ?_
 ·refine Ok.bind (L3 h6.2 _ (by decide) (by decide)) fun y7 h7 => ?_
  have b7 : 2 <= y7.1 /\ y7.1 <= 4 := by
   have := h7.1
   simp only [List.mem_cons, List.not_mem_nil, or_false] at this
   omega
  exact J _ _ _ h7.2 (by omega) (by omega) (by omega)
 ·rw [Ee (x := y.1 + y5.1) (by omega)]
  exact J _ _ _ h6.2 (by omega) (by omega) (by omega)
end Go.Proofs.YtidpkjdkfkkgiaaGreat
