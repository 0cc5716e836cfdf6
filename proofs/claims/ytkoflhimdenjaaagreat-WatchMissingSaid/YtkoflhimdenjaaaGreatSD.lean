import Derived.Test.YtkoflhimdenjaaaGreatME
set_option autoImplicit false
set_option linter.unusedVariables false
set_option linter.unusedSimpArgs false
namespace Go.Proofs.YtkoflhimdenjaaaGreat
open Go
def nmL : List ByteArray := [⟨#[97, 112, 112]⟩, ⟨#[100, 98]⟩, ⟨#[119, 101, 98]⟩]
def Qs (i : Nat) : ByteArray := nmL.getD i ⟨#[]⟩
theorem fJ {i : Nat} (h : i < 3) : F0 (Qs i) = true /\ (Qs i).size <= 31 /\ bY (Qs i) = true := by
 rcases i with _ | _ | _ | i
 ·exact ⟨by decide +kernel, by decide, by decide +kernel⟩
 ·exact ⟨by decide +kernel, by decide, by decide +kernel⟩
 ·exact ⟨by decide +kernel, by decide, by decide +kernel⟩
 ·omega
structure LfM (name : ByteArray) (key : Aw) (id : Int) (x : A5) : Prop where
 key_ : x.Key = key
 id_ : x.KeyId = id
 len : x.Chain.length = 1
 chain : ∀ c ∈ x.Chain, G5 c = true /\ R9 c
 head : Xe key id x.Chain = true
theorem aDi : F0 ⟨#[114, 111, 111, 116]⟩ = true := by decide +kernel
theorem aDf : Pe (Aw.mk 3 0) 1 = true := by decide +kernel
theorem va1 : ∀ i, VA (fun x y : Int => x < y) [1] i := vI (by decide)
theorem aEj : ∀ i, VA (fun x y : Int => x < y) [2, 3] i := vI (by decide)
theorem pC {name : ByteArray} {key : Aw} {id a to : Int} (hn : F0 name = true) (hk : aAe key) (hid : 0 <= id /\ id <= 1000000) (ha : 0 <= a /\ a <= 2147483648) (hto : 0 <= to /\ to <= 40000) : Ok (J6 name key id a to) (LfM name key id) := by
 have hns := M7 hn
 generalize hc : Ai.mk id (⟨#[114, 111, 111, 116]⟩ : ByteArray) name key id (Aw.mk 3 0) 0 to false 0 ([name] : List ByteArray) (D2.mk 0 0) = c
 have hf : R9 c := by
  subst hc
  exact pS (by show (1 : Nat) < 1000000000; omega) (fun s hs => by rw [List.mem_singleton.1 hs]; omega) (by show (4 : Nat) <= _; omega) (by show name.size <= _; omega) (show P0 id by unfold P0; omega) hk.1.1.i64 hk.1.2.i64 (show P0 id by unfold P0; omega) (show P0 3 by unfold P0; omega) W4 W4 (show P0 to by unfold P0; omega) W4 W4 W4
 have hv : G5 c = true := by
  subst hc
  rw [Zi]
  exact ⟨⟨hid.1, by dsimp only; omega⟩, aDi, hn, lU hn, by show (1 : Int) <= 8; omega, hk.2, ⟨hid.1, by dsimp only; omega⟩, aDf, aDv, aEf, ⟨by show (0 : Int) <= 0; omega, hto.1, hto.2⟩, ⟨by show (0 : Int) <= 0; omega, by show (0 : Int) <= 8; omega⟩, .inr rfl⟩
 have hu : Yh c = c := by subst hc; rfl
 have hr := fV (N3 c).1
 have hsg : iH c a = (X0 c ⟨a, Zz (N3 c).1⟩, 0) := by
  unfold iH
  rw [hu, hv, decide_eq_true ha.1, decide_eq_true ha.2]; rfl
 unfold J6
 rw [hc]
 refine Ok.bindE (oX _ hf a) ?_
 rw [hsg]
 refine Ok.ret ⟨rfl, rfl, rfl, fun x hx => ?_, ?_⟩
 ·rw [List.mem_singleton.1 hx]
  exact ⟨bI (by rw [hu]; exact hv) ha hr, Wu hf (show P0 a by unfold P0; omega) (pL _)⟩
 ·subst hc
  show (decide (key = key) && decide (id = id)) = true
  rw [decide_eq_true rfl, decide_eq_true rfl]; rfl
theorem zV : aAe (Aw.mk 5 2048) := ⟨⟨aBc (by decide), aBc (by decide)⟩, by decide +kernel⟩
theorem sQ {i : Nat} (h : i < 3) : Ok (J6 (Qs i) (Aw.mk 5 2048) (W (100 + (i : Int))) 1 901) (LfM (Qs i) (Aw.mk 5 2048) (100 + (i : Int))) := by
 rw [Eh (by omega)]
 exact pC (fJ h).1 zV (by omega) (by omega) (by omega)
def Ur : List (Int × List Int) := [(3, [10, 8, 2]), (3, [8, 2]), (3, [2, 10, 8, 3]), (4, [14, 10, 8, 2]), (4, [14, 8, 2]), (4, [14, 2, 10, 8, 3])]
def Pn (i : Nat) (e : Ao) : Prop := ∃ c ∈ Ur, ∃ tJ fall x, LfM (Qs i) (Aw.mk 5 2048) (100 + (i : Int)) x /\ e = Ao.mk (Qs i) 1 c.1 c.2 tJ [x] [1] [2, 3] fall
theorem Qo {c : Int × List Int} (h : c ∈ Ur) : (3 <= c.1 /\ c.1 <= 4) /\ c.2.length <= 5 /\ c.2 ≠ [] /\ (c.2.Nodup /\ ∀ x ∈ c.2, vY x) := by
 unfold Ur at h
 simp only [List.mem_cons, List.not_mem_nil, or_false] at h
 rcases h with rfl | rfl | rfl | rfl | rfl | rfl <;> exact ⟨by decide, by decide, by decide, by decide, by unfold vY; decide⟩
theorem gE {i : Nat} {e : Ao} (hi : i < 3) (h : Pn i e) : cX e := by
 obtain ⟨c, hc, tJ, fall, x, hx, rfl⟩ := h
 obtain ⟨h1, h2, h3, h4⟩ := Qo hc
 have hn := (fJ hi).2.1
 refine ⟨by show (Qs i).size <= _; omega, by show c.2.length < _; omega, by show (1 : Nat) < _; omega, by show (1 : Nat) < _; omega, by show (2 : Nat) < _; omega, fun y hy d hd => ?_⟩
 rw [List.mem_singleton.1 hy] at hd
 exact (hx.chain d hd).2.w
theorem mT {i : Nat} {e : Ao} (hi : i < 3) (h : Pn i e) : EpV e := by
 obtain ⟨c, hc, tJ, fall, x, hx, rfl⟩ := h
 obtain ⟨h1, h2, h3, h4, h5⟩ := Qo hc
 refine ⟨(fJ hi).2.2, by show (1 : Int) <= 1; omega, by show (1 : Int) <= c.1; omega, by show c.1 <= 4; omega, kR h4 h5, by show (1 : Nat) <= 4; omega, by show (1 : Nat) <= 16; omega, va1, aEj, fun y hy => ?_, fun n hn => ?_, fun n hn => ?_⟩
 ·rw [List.mem_singleton.1 hy, hx.key_, hx.id_]
  exact nB zV.2 (by omega) (by rw [hx.len]; omega) (fun c hc => (hx.chain c hc).1) hx.head
 ·rw [List.mem_singleton.1 hn]; omega
 ·simp only [List.mem_cons, List.not_mem_nil, or_false] at hn
  rcases hn with rfl | rfl <;> decide +kernel
theorem sE {i : Nat} {e : Ao} (h : Pn i e) : e.Name = Qs i := by
 obtain ⟨c, hc, tJ, fall, x, hx, rfl⟩ := h
 rfl
structure Nw (n : Nat) (l : List Bo) : Prop where
 len : l.length <= 3
 rng : ∀ e ∈ l, (0 <= e.Client /\ e.Client < (n : Int)) /\ (0 <= e.Server /\ e.Server < (n : Int)) /\ e.Client ≠ e.Server
 asc : ∀ (j : Nat) x y, l[j]? = some x -> l[j + 1]? = some y -> x.Client < y.Client \/ (x.Client = y.Client /\ x.Server < y.Server)
def Ye (i k : Int) (l : List Bo) : Prop := ∀ e ∈ l, e.Client < i \/ (e.Client = i /\ e.Server < k)
theorem Nw.v {n : Nat} {l : List Bo} (h : Nw n l) (i : Nat) : EdV (n : Int) l i := by
 refine ⟨fun x y h0 hx hy => ?_, fun x hx => h.rng x (Ho hx)⟩
 obtain ⟨j, rfl⟩ : ∃ j, i = j + 1 := ⟨i - 1, by omega⟩
 exact h.asc j x y hx hy
structure Z0 (s : C1) : Prop where
 n2 : 2 <= s.Endpoints.length /\ s.Endpoints.length <= 3
 eps : ∀ (j : Nat) e, s.Endpoints[j]? = some e -> Pn j e
 edges : Nw s.Endpoints.length s.Edges
 items : s.Items.length <= 2 /\ ∀ x ∈ s.Items, ItM x
theorem Z0.fit {s : C1} (h : Z0 s) : uG s := by
 have h1 := h.n2
 have h2 := h.edges.len
 have h3 := h.items.1
 refine ⟨by unfold Lo; omega, by unfold Lo; omega, by unfold Lo; omega, fun x hx => ?_, fun x hx => (h.items.2 x hx).fit⟩
 obtain ⟨i, hi⟩ := List.mem_iff_getElem?.1 hx
 exact gE (by have := I8 hi; omega) (h.eps i x hi)
theorem mV {n : Nat} {l : List Bo} {i k : Int} (h : Nw n l) (ha : Ye i k l) (h3 : l.length < 3) (hi : 0 <= i /\ i < (n : Int)) (hk : 0 <= k /\ k < (n : Int)) (hne : i ≠ k) : Nw n (l ++ [Bo.mk i k]) /\ Ye i (k + 1) (l ++ [Bo.mk i k]) := by
 refine ⟨⟨by rw [List.length_append, List.length_singleton]; omega, fun e he => ?_, fun j x y hx hy => ?_⟩, fun e he => ?_⟩
 ·rcases List.mem_append.1 he with he | he
  ·exact h.rng e he
  ·rw [List.mem_singleton.1 he]; exact ⟨hi, hk, hne⟩
 ·have hj := I8 hy
  rw [List.length_append, List.length_singleton] at hj
  rw [List.getElem?_append_left (by omega)] at hx
  by_cases hj2 : j + 1 < l.length
  ·rw [List.getElem?_append_left hj2] at hy
   exact h.asc j x y hx hy
  ·rw [List.getElem?_append_right (by omega), show j + 1 - l.length = 0 by omega] at hy
   injection hy with hy
   subst hy
   exact ha x (Ho hx)
 ·rcases List.mem_append.1 he with he | he
  ·rcases ha e he with h1 | ⟨h1, h2⟩
   ·exact .inl h1
   ·exact .inr ⟨h1, by omega⟩
  ·rw [List.mem_singleton.1 he]
   exact .inr ⟨rfl, by show k < k + 1; omega⟩
theorem fU {l : List Bo} {i k : Int} (h : Ye i k l) : Ye i (k + 1) l := fun e he => by
 rcases h e he with h1 | ⟨h1, h2⟩
 ·exact .inl h1
 ·exact .inr ⟨h1, by omega⟩
theorem kZ {l : List Bo} {i k : Int} (h : Ye i k l) : Ye (i + 1) 0 l := fun e he => by
 rcases h e he with h1 | ⟨h1, h2⟩
 ·exact .inl (by omega)
 ·exact .inl (by omega)
theorem nK {y : Int × Ah} {n : Nat} (hn : 2 + y.1 = (n : Int)) (h : n <= 3) : ((((W (2 + y.1) : Int).toNat - (0 : Int).toNat) : Nat) : Int) = (n : Int) := by
 rw [hn, Eh (by omega), Int.toNat_natCast]
 show ((n - 0 : Nat) : Int) = _
 rw [Nat.sub_zero]
def EQ (n : Nat) (i k : Int) (d : Ah) (l : List Bo) : Prop := Vm d /\ Nw n l /\ Ye i k l
theorem mA {y : Int × Ah} {n : Nat} (hn : 2 + y.1 = (n : Int)) (h3 : n <= 3) {i : Int} (hi : 0 <= i /\ i < (n : Int)) {d : Ah} {l : List Bo} (h : EQ n i 0 d l) :
  Ok (Ch (fun q' => Bd.l7 y i q'.1 q'.2.1 q'.2.2) (0, d, l)) (fun o => ∃ d' l', o = .next (i + 1, d', l') /\ EQ n (i + 1) 0 d' l') := by
 refine Ok.loop (fun s : Int × Ah × List Bo => (0 <= s.1 /\ s.1 <= (n : Int)) /\ EQ n i s.1 s.2.1 s.2.2) (fun s => ((n : Int) - s.1).toNat) (fun s hs => ?_) ⟨⟨Int.le_refl _, by show (0 : Int) <= (n : Int); omega⟩, h⟩
 obtain ⟨k, d1, l1⟩ := s
 obtain ⟨hk, hd, he, ha⟩ := hs
 dsimp only at hk hd he ha
 have hl3 := he.len
 show Ok (Bd.l7 y i k d1 l1) _
 unfold Bd.l7
 rw [nK hn h3]
 refine Ok.cond (fun hb => ?_) fun hb => ?_
 ·have hb := of_decide_eq_true hb
  have hw : W (k + 1) = k + 1 := Eh (by omega)
  have J8 : ∀ (d' : Ah) (b : Bool), Vm d' -> (b = true -> l1.length < 3 /\ i ≠ k) -> Ok (Bd.j8 i k l1 b d') (uT (fun s : Int × Ah × List Bo => ((0 <= s.1 /\ s.1 <= (n : Int)) /\ EQ n i s.1 s.2.1 s.2.2) /\ ((n : Int) - s.1).toNat < ((n : Int) - k).toNat) (fun o => ∃ d' l', o = .next (i + 1, d', l') /\ EQ n (i + 1) 0 d' l')) := fun d' b hd' hb' => by
   unfold Bd.j8 Bd.j9
   rw [hw]
   refine Ok.cond (fun hbt => ?_) fun _ => ?_
   ·obtain ⟨c1, c2⟩ := hb' hbt
    refine Ok.bind (Qn (by rw [List.length_singleton]; omega)) fun l' hl' => ?_
    subst hl'
    obtain ⟨e1, e2⟩ := mV he ha c1 hi ⟨hk.1, hb⟩ c2
    exact Ok.ret ⟨⟨⟨by show 0 <= k + 1; omega, by show k + 1 <= (n : Int); omega⟩, hd', e1, e2⟩, by show ((n : Int) - (k + 1)).toNat < ((n : Int) - k).toNat; omega⟩
   ·exact Ok.ret ⟨⟨⟨by show 0 <= k + 1; omega, by show k + 1 <= (n : Int); omega⟩, hd', he, fU ha⟩, by show ((n : Int) - (k + 1)).toNat < ((n : Int) - k).toNat; omega⟩
  clear hw
  refine Ok.cond (fun hne => ?_) fun _ => J8 d1 false hd (fun h => by cases h)
  have hne' : i ≠ k := fun e => by rw [decide_eq_true e] at hne; cases hne
  refine Ok.bind (Jw hd 3 (by omega) (by omega)) fun y8 h8 => ?_
  refine Ok.cond (fun _ => J8 y8.2 _ h8.2 fun h => ⟨by have := of_decide_eq_true h; omega, hne'⟩) fun _ => J8 y8.2 false h8.2 (fun h => by cases h)
 ·refine Ok.up ?_
  rw [Eh (by omega)]
  exact Ok.ret ⟨d1, l1, rfl, hd, he, kZ ha⟩
def aZ (s : C1) : Prop := Z0 s /\ s.Edges ≠ []
theorem Y3 {E : List Ao} {L : List Bo} {n : Nat} (h2 : 2 <= n /\ n <= 3) (hE : E.length = n) (hep : ∀ (j : Nat) e, E[j]? = some e -> Pn j e) (hL : Nw n L) (hne : L ≠ []) {d : Ah} (hd : Vm d) : Ok (Bd.j10 E d L) (fun y => aZ y.1 /\ Vm y.2) := by
 unfold Bd.j10
 refine Ok.bind (Jw hd 3 (by omega) (by omega)) fun y9 h9 => ?_
 have b9 := h9.1
 refine Ok.loop (fun s : Int × Ah × List Di => (0 <= s.1 /\ s.1 + (s.2.2.length : Int) <= 2) /\ Vm s.2.1 /\ ∀ x ∈ s.2.2, ItM x) (fun s => s.1.toNat) (fun s hs => ?_) ⟨⟨b9.1, by show y9.1 + ((([] : List Di).length : Nat) : Int) <= 2; simp; omega⟩, h9.2, fun x hx => (by cases hx)⟩
 obtain ⟨i, d1, l⟩ := s
 obtain ⟨⟨a1, a2⟩, a3, a4⟩ := hs
 dsimp only at a1 a2 a3 a4
 show Ok (Bd.l11 E L i d1 l) _
 unfold Bd.l11
 refine Ok.cond (fun hb => ?_) fun hb => ?_
 ·have hb := of_decide_eq_true hb
  refine Ok.bind (rV a3 _ (by decide) (by decide)) fun y10 h10 => ?_
  have hnm : F0 y10.1 = true := by
   have := h10.1
   simp only [List.mem_cons, List.not_mem_nil, or_false] at this
   rcases this with h | h <;> rw [h] <;> decide +kernel
  refine Ok.bind (oB h10.2 hnm) fun y11 h11 => ?_
  refine Ok.bind (Qn (by rw [List.length_singleton]; omega)) fun l' hl' => ?_
  subst hl'
  rw [Eh (by omega)]
  refine Ok.ret ⟨⟨⟨by show 0 <= i - 1; omega, ?_⟩, h11.2, fun x hx => ?_⟩, by show (i - 1).toNat < i.toNat; omega⟩
  ·show i - 1 + ((l ++ [y11.1]).length : Int) <= 2
   rw [List.length_append, List.length_singleton]; omega
  ·rcases List.mem_append.1 hx with hx | hx
   ·exact a4 x hx
   ·rw [List.mem_singleton.1 hx]; exact h11.1
 ·exact Ok.up (Ok.ret ⟨⟨⟨by show 2 <= E.length /\ E.length <= 3; omega, hep, by show Nw E.length L; rw [hE]; exact hL, by show l.length <= 2; omega, a4⟩, hne⟩, a3⟩)
theorem pI {y : Int × Ah} {n : Nat} (hn : 2 + y.1 = (n : Int)) (h2 : 2 <= n /\ n <= 3) {E : List Ao} (hE : E.length = n) (hep : ∀ (j : Nat) e, E[j]? = some e -> Pn j e) {d : Ah} (hd : Vm d) :
  Ok (Ch (fun q' => Bd.l6 y E q'.1 q'.2.1 q'.2.2) (0, d, ([] : List Bo))) (fun y => aZ y.1 /\ Vm y.2) := by
 refine Ok.loop (fun s : Int × Ah × List Bo => (0 <= s.1 /\ s.1 <= (n : Int)) /\ EQ n s.1 0 s.2.1 s.2.2) (fun s => ((n : Int) - s.1).toNat) (fun s hs => ?_) ⟨⟨Int.le_refl _, by show (0 : Int) <= (n : Int); omega⟩, hd, ⟨Nat.zero_le _, fun x hx => (by cases hx), fun j x y hx => (by cases hx)⟩, fun x hx => (by cases hx)⟩
 obtain ⟨i, d1, l1⟩ := s
 obtain ⟨hk, hq⟩ := hs
 dsimp only at hk hq
 show Ok (Bd.l6 y E i d1 l1) _
 unfold Bd.l6
 rw [nK hn h2.2]
 refine Ok.cond (fun hb => ?_) fun hb => ?_
 ·have hb := of_decide_eq_true hb
  refine (mA hn h2.2 ⟨hk.1, hb⟩ hq).mono fun o ho => ?_
  obtain ⟨d', l', rfl, ho⟩ := ho
  exact ⟨⟨⟨by show 0 <= i + 1; omega, by show i + 1 <= (n : Int); omega⟩, ho⟩, by show ((n : Int) - (i + 1)).toNat < ((n : Int) - i).toNat; omega⟩
 ·refine Ok.up (Ok.cond (fun _ => ?_) fun hl0 => Y3 h2 hE hep hq.2.1 (fun e0 => by rw [e0] at hl0; exact absurd rfl (of_decide_eq_false hl0)) hq.1)
  refine Y3 h2 hE hep ⟨by decide, fun e he => ?_, fun j x y hx hy => ?_⟩ (by simp) hq.1
  ·rw [List.mem_singleton.1 he]
   exact ⟨⟨by show (0 : Int) <= 0; omega, by show (0 : Int) < (n : Int); omega⟩, ⟨by show (0 : Int) <= 1; omega, by show (1 : Int) < (n : Int); omega⟩, by show (0 : Int) ≠ 1; omega⟩
  ·have := I8 hy
   rw [List.length_singleton] at this
   omega
theorem jM {d : Ah} (h : Vm d) : Ok (Bd d) (fun y => aZ y.1 /\ Vm y.2) := by
 unfold Bd
 refine Ok.bind (Jw h 2 (by omega) (by omega)) fun y hy => ?_
 have by1 := hy.1
 obtain ⟨n, hn⟩ : ∃ n : Nat, 2 + y.1 = (n : Int) := ⟨(2 + y.1).toNat, by omega⟩
 have h2 : 2 <= n /\ n <= 3 := by omega
 have hw : W (2 + y.1) = (n : Int) := by rw [hn, Eh (by omega)]
 refine Ok.bind (bO ⟨by omega, by rw [hw]; omega, by rw [hw]; show (n : Int) <= 3; omega⟩) fun l hl => ?_
 clear hl
 refine Ok.loop (fun s : Int × Ah × List Ao => (0 <= s.1 /\ s.1 <= (n : Int)) /\ Vm s.2.1 /\ (s.2.2.length : Int) = s.1 /\ ∀ (j : Nat) e, s.2.2[j]? = some e -> Pn j e) (fun s => ((n : Int) - s.1).toNat) (fun s hs => ?_) ⟨⟨Int.le_refl _, by show (0 : Int) <= (n : Int); omega⟩, hy.2, rfl, fun j e he => (by cases he)⟩
 obtain ⟨i, d1, E⟩ := s
 obtain ⟨hk, hd, hlen, hep⟩ := hs
 dsimp only at hk hd hlen hep
 show Ok (Bd.l1 y i d1 E) _
 unfold Bd.l1
 rw [nK hn h2.2]
 refine Ok.cond (fun hb => ?_) fun hb => ?_
 ·have hb := of_decide_eq_true hb
  have hnm : B3 ((([(⟨#[97, 112, 112]⟩ : ByteArray), (⟨#[100, 98]⟩ : ByteArray), (⟨#[119, 101, 98]⟩ : ByteArray)] : List ByteArray).drop ((0 : Int).toNat)).take ((W (2 + y.1) : Int).toNat - (0 : Int).toNat)) i = some (Qs E.length) := by
   rw [hw, Int.toNat_natCast, <- hlen, Fq]
   show ((nmL.drop 0).take (n - 0))[E.length]? = _
   rw [List.drop_zero, Nat.sub_zero, List.getElem?_take, if_pos (by omega)]
   unfold Qs
   rw [List.getD_eq_getElem?_getD, List.getElem?_eq_getElem (show E.length < nmL.length by show E.length < 3; omega)]
   rfl
  refine Ok.bindE hnm ?_
  refine Ok.bind (oM hd _ (by decide) (by decide)) fun y2 k2 => ?_
  refine Ok.bind (Jw k2.2 3 (by omega) (by omega)) fun y3 k3 => ?_
  have b3 := k3.1
  refine Ok.bind (T4 (by omega) (by show y3.1 < (3 : Int); omega)) fun S hS => ?_
  refine Ok.bind (nD k3.2 2 (by omega) (by omega)) fun y4 k4 => ?_
  refine Ok.bind (nD k4 3 (by omega) (by omega)) fun y5 k5 => ?_
  have hm : y2.1 = 3 \/ y2.1 = 4 := by
   have := k2.1
   simp only [List.mem_cons, List.not_mem_nil, or_false] at this
   omega
  simp only [List.mem_cons, List.not_mem_nil, or_false] at hS
  have J : ∀ x, (y2.1, x) ∈ Ur -> Ok (Bd.j2 i E (Qs E.length) y2 y4 y5 x) (uT (fun s : Int × Ah × List Ao => ((0 <= s.1 /\ s.1 <= (n : Int)) /\ Vm s.2.1 /\ (s.2.2.length : Int) = s.1 /\ ∀ (j : Nat) e, s.2.2[j]? = some e -> Pn j e) /\ ((n : Int) - s.1).toNat < ((n : Int) - i).toNat) (fun y => aZ y.1 /\ Vm y.2)) := fun x hx => by
   unfold Bd.j2 O8
   rw [Option.bind_some, <- hlen]
   refine Ok.bind (sQ (i := E.length) (by omega)) fun lf hlf => ?_
   refine Ok.bind (Qn (by rw [List.length_singleton]; omega)) fun l' hl' => ?_
   subst hl'
   rw [Eh (by omega)]
   refine Ok.ret ⟨⟨⟨by show 0 <= (E.length : Int) + 1; omega, by show (E.length : Int) + 1 <= (n : Int); omega⟩, k5, ?_, fun j e he => ?_⟩, by show ((n : Int) - ((E.length : Int) + 1)).toNat < ((n : Int) - (E.length : Int)).toNat; omega⟩
   ·show ((E ++ [_]).length : Int) = (E.length : Int) + 1
    rw [List.length_append, List.length_singleton]; omega
   ·have he : (E ++ [_])[j]? = some e := he
    rw [List.getElem?_append] at he
    split at he
    ·exact hep j e he
    ·have hj0 : j - E.length = 0 := by
      have := I8 he
      rw [List.length_singleton] at this
      omega
     rw [hj0] at he
     injection he with he
     subst he
     rw [show j = E.length by omega]
     exact ⟨(y2.1, x), hx, _, _, lf, hlf, rfl⟩
  rcases hm with hm | hm
  ·rw [hm, decide_eq_false (by omega), cond_false]
   refine J S ?_
   rw [hm]
   unfold Ur
   rcases hS with rfl | rfl | rfl <;> simp
  ·rw [hm, decide_eq_true rfl, cond_true]
   refine Ok.bind (Qn (by rcases hS with rfl | rfl | rfl <;> decide)) fun l' hl' => ?_
   subst hl'
   refine J _ ?_
   rw [hm]
   unfold Ur
   rcases hS with rfl | rfl | rfl <;> simp
 ·have hb := of_decide_eq_false hb
  exact Ok.up (pI hn h2 (by omega) hep hd)
theorem qB {d : Ah} (h : Vm d) : Ok (Bd d) (fun y => Z0 y.1 /\ Vm y.2) := (jM h).mono fun _ h => ⟨h.1.1, h.2⟩
end Go.Proofs.YtkoflhimdenjaaaGreat
