/- Plain texts, joined. No program is in sight here. -/
import Derived.Test.YtkpcbnnlefcebaaGreatL3
import Derived.Test.YtkpcbnnlefcebaaGreatK6
import Derived.KernelRfl
set_option linter.unusedVariables false
set_option linter.unusedSimpArgs false
namespace Go.Proofs.YtkpcbnnlefcebaaGreat
section
open Go
structure Oh (d : Ac) : Prop where
 lo : Lo d.L
 at0 : 0 <= d.At
 at1 : d.At <= d.L.length
theorem tP (e n : Int) (hn : 1 <= n) (hn2 : n <= 4611686018427387904) : Ok (Ng e n) (fun y => 0 <= y /\ y < n) := by
 unfold Ng
 rw [decide_eq_false (by omega), cond_false]
 have h1 := Int.tmod_lt_of_pos e (show 0 < n by omega)
 have h2 : -n < e.tmod n := Int.lt_tmod_of_pos e (by omega)
 have h3 := Int.tmod_lt_of_pos (e.tmod n + n) (show 0 < n by omega)
 have h4 := Int.tmod_nonneg n (show 0 <= e.tmod n + n by omega)
 unfold V6
 rw [if_neg (by omega), Option.bind_some, Es (by omega), if_neg (by omega)]
 exact ⟨_, rfl, h4, h3⟩
theorem Hc {d : Ac} (h : Oh d) (n : Int) (hn : 1 <= n) (hn2 : n <= 4611686018427387904) : Ok (Ct d n) (fun y => (0 <= y.1 /\ y.1 < n) /\ Oh y.2) := by
 have hl := h.lo
 unfold Lo at hl
 have h0 := h.at0
 have h1 := h.at1
 unfold Ct
 refine Ok.cond (fun hb => ?_) fun hb => ?_
 ·exact Ok.ret ⟨⟨Int.le_refl _, by show (0 : Int) < n; omega⟩, h⟩
 ·have hb := of_decide_eq_false hb
  rw [Es (x := d.At + 1) (by omega), Es (by omega)]
  refine Ok.bind (dZ (by omega) (by omega)) fun e he => ?_
  refine Ok.bind (tP e n hn hn2) fun y hy => ?_
  exact Ok.ret ⟨hy, ⟨h.lo, by show 0 <= d.At + 1; omega, by show d.At + 1 <= (d.L.length : Int); omega⟩⟩
theorem eF {d : Ac} (h : Oh d) (l : List Int) (hl : 1 <= l.length) (hl2 : l.length <= 1000) : Ok (Gy d l) (fun y => y.1 ∈ l /\ Oh y.2) := by
 unfold Gy
 refine Ok.bind (Hc h _ (by omega) (by omega)) fun y hy => ?_
 refine Ok.bind (M4 (by omega) (by omega)) fun e he => ?_
 exact Ok.ret ⟨he, hy.2⟩
theorem mK {d : Ac} (h : Oh d) (l : List ByteArray) (hl : 1 <= l.length) (hl2 : l.length <= 1000) : Ok (Ie d l) (fun y => y.1 ∈ l /\ Oh y.2) := by
 unfold Ie
 refine Ok.bind (Hc h _ (by omega) (by omega)) fun y hy => ?_
 refine Ok.bind (M4 (by omega) (by omega)) fun e he => ?_
 exact Ok.ret ⟨he, hy.2⟩
theorem kE {d : Ac} (h : Oh d) (n : Int) (hn : 1 <= n) (hn2 : n <= 1000) : Ok (Hx d n) (fun y => Oh y.2) := by
 unfold Hx
 refine Ok.bind (Hc h _ (by omega) (by omega)) fun y hy => ?_
 exact Ok.ret hy.2
def Sm (n : Int) : Prop := 0 <= n /\ n <= 100000
def fR (n : Int) : Prop := -9223372036854775808 <= n /\ n <= 9223372036854775807
theorem Sm.i64 {n : Int} (h : Sm n) : fR n := by unfold Sm at h; unfold fR; omega
structure vH (c : Am) : Prop where
 a1 : fR c.Serial
 a2 : fR c.Key.Alg
 a3 : fR c.Key.Bits
 a4 : fR c.KeyId
 a5 : fR c.Hash.Alg
 a6 : fR c.Hash.Bits
 a7 : fR c.From
 a8 : fR c.To
 a9 : fR c.Path
 b1 : fR c.Seal.Key
 b2 : fR c.Seal.Sum
theorem nE.is {c : Am} (h : nE c) : vH c := by
 have := h.ints
 constructor <;> exact this _ (by simp)
end
section
open Go
def zE : List ByteArray := [⟨#[97, 112, 112]⟩, ⟨#[100, 98]⟩, ⟨#[119, 101, 98]⟩]
def cK (i : Nat) : ByteArray := zE.getD i ⟨#[]⟩
noncomputable def cB (i : Nat) : Bq := (N7 3000 (cK i) (Az.mk 5 2048) (100 + (i : Int)) 1 901).getD ⟨⟨0, 0⟩, 0, []⟩
theorem qK : Gz (cK 0) (Az.mk 5 2048) 100 1 901 = some (cB 0) := Jn (fu := 3000) _ (by kernel_rfl)
theorem rW : Gz (cK 1) (Az.mk 5 2048) 101 1 901 = some (cB 1) := Jn (fu := 3000) _ (by kernel_rfl)
theorem tE : Gz (cK 2) (Az.mk 5 2048) 102 1 901 = some (cB 2) := Jn (fu := 3000) _ (by kernel_rfl)
theorem oH {i : Nat} (h : i < 3) : Gz (cK i) (Az.mk 5 2048) (W (100 + (i : Int))) 1 901 = some (cB i) := by
 rw [Es (by omega)]
 rcases i with _ | _ | _ | i
 ·exact qK
 ·exact rW
 ·exact tE
 ·omega
noncomputable def zX (i : Nat) (most : Int) (s : List Int) (pN fall : Bool) : Aw := Aw.mk (cK i) 1 most s pN [cB i] [1] [2, 3] fall
def U6 : List (Int × List Int) := [(3, [10, 8, 2]), (3, [8, 2]), (3, [2, 10, 8, 3]), (4, [14, 10, 8, 2]), (4, [14, 8, 2]), (4, [14, 2, 10, 8, 3])]
def bE (i : Nat) (e : Aw) : Prop := ∃ c ∈ U6, ∃ pN fall, e = zX i c.1 c.2 pN fall
theorem kC {i : Nat} {e : Aw} (hi : i < 3) (h : bE i e) : Bs e = some 0 := by
 obtain ⟨c, hc, pN, fall, rfl⟩ := h
 unfold U6 at hc
 simp only [List.mem_cons, List.not_mem_nil, or_false] at hc
 rcases i with _ | _ | _ | i
 ·rcases hc with rfl | rfl | rfl | rfl | rfl | rfl <;> exact J0 (fu := 3000) _ (by kernel_rfl)
 ·rcases hc with rfl | rfl | rfl | rfl | rfl | rfl <;> exact J0 (fu := 3000) _ (by kernel_rfl)
 ·rcases hc with rfl | rfl | rfl | rfl | rfl | rfl <;> exact J0 (fu := 3000) _ (by kernel_rfl)
 ·omega
def jT : List Az := [(Az.mk 2 0), (Az.mk 1 0), (Az.mk 5 2048), (Az.mk 16 128), (Az.mk 3 0), (Az.mk 15 168)]
theorem cQ {u : Az} (h : u ∈ jT) : Fr u = some true := by
 unfold jT at h
 simp only [List.mem_cons, List.not_mem_nil, or_false] at h
 rw [gM]
 rcases h with rfl | rfl | rfl | rfl | rfl | rfl <;> decide +kernel
structure fF (l : List Ds) (day : Int) : Prop where
 len : l.length <= 3
 use : ∀ x ∈ l, x.Use ∈ jT /\ 0 <= x.Day /\ x.Day < day /\ x.Day <= 1000
 asc : ∀ (j : Nat) x y, l[j]? = some x -> l[j + 1]? = some y -> x.Day < y.Day
theorem dO {name : ByteArray} {k p u : Int} {l : List Ds} {day : Int} (hn : Wz name = true) (hk : k = 1 \/ k = 2) (hp : 1 <= p /\ p <= 4) (hl : fF l day) (h1 : 1 <= l.length) (hu : ∀ x, l[0]? = some x -> x.Day <= u) (hu2 : u <= 40000) : Bi (By.mk name k p l u) = some 0 := by
 have hlen := hl.len
 have hns := cU hn
 obtain ⟨x0, hx0⟩ : ∃ x, l[0]? = some x := ⟨_, List.getElem?_eq_getElem (by omega)⟩
 have L : C2 (fun q' => Bi.l3 (By.mk name k p l u) q') 0 = some 0 := by
  refine (Tm l (fun _ => false) 30 0 ((by unfold Lo; omega : Lo l)) (fun i e he => ?_) ?_).trans ?_
  ·show Bi.l3 (By.mk name k p l u) (i : Int) = _
   have hi := N0 he
   obtain ⟨e1, e2, e3, e4⟩ := hl.use e (Li he)
   unfold Bi.l3
   rw [P2 he, cQ e1, Option.bind_some, Bool.not_true, cond_false, decide_eq_false (by omega), cond_false, decide_eq_false (by omega), cond_false]
   cases i with
   | zero => rfl
   | succ i =>
    obtain ⟨q, hq⟩ : ∃ q, l[i]? = some q := ⟨_, List.getElem?_eq_getElem (by omega)⟩
    have := hl.asc i q e hq he
    rw [decide_eq_true (by omega), cond_true, Es (by omega), show ((i + 1 : Nat) : Int) - 1 = (i : Int) by omega]
    show ((Cb l (i : Int)).bind _) = _
    rw [D8, hq, Option.bind_some, decide_eq_false (by omega)]
    rfl
  ·show Bi.l3 (By.mk name k p l u) (l.length : Int) = _
   unfold Bi.l3
   rw [Mu]
   have e0 : Cb l 0 = some x0 := by rw [jY]; exact hx0
   show up ((Cb l 0).bind _) = _
   have hd := hu x0 hx0
   rw [e0, Option.bind_some, decide_eq_false (show ¬ u < x0.Day by omega), cond_false, decide_eq_false (show ¬ 40000 < u by omega)]
   rfl
  ·have : l.any (fun _ => false) = false := by simp
   rw [this]; rfl
 have J : Bi.j1 (By.mk name k p l u) true = some 0 := by
  unfold Bi.j1
  rw [gX _ (by show name.size <= _; omega), Option.bind_some, hn, Bool.not_true, cond_false, cond_false, decide_eq_false (by show ¬ p < 1; omega), cond_false, decide_eq_false (by show ¬ 4 < p; omega), cond_false, decide_eq_false (by show ¬ (l.length : Int) < 1; omega), cond_false, decide_eq_false (by show ¬ 8 < (l.length : Int); omega)]
  exact L
 unfold Bi
 rcases hk with rfl | rfl
 ·exact J
 ·exact J
theorem mY {d : Ac} (h : Oh d) {name : ByteArray} (hn : Wz name = true) : Ok (Gx d name) (fun y => Bi y.1 = some 0 /\ Oh y.2) := by
 unfold Gx
 refine Ok.bind (Hc h 2 (by omega) (by omega)) fun y1 h1 => ?_
 refine Ok.bind (Hc h1.2 4 (by omega) (by omega)) fun y2 h2 => ?_
 refine Ok.bind (Hc h2.2 20 (by omega) (by omega)) fun y3 h3 => ?_
 refine Ok.bind (Hc h3.2 3 (by omega) (by omega)) fun y4 h4 => ?_
 have b1 := h1.1
 have b2 := h2.1
 have b3 := h3.1
 have b4 := h4.1
 rw [Es (x := 1 + y4.1) (by omega)]
 refine Ok.loop (fun s : Int × Int × Ac × List Ds => 0 <= s.2.1 /\ s.2.1 + (s.2.2.2.length : Int) = 1 + y4.1 /\ Oh s.2.2.1 /\ (0 <= s.1 /\ s.1 <= 20 + 101 * (s.2.2.2.length : Int)) /\ fF s.2.2.2 s.1) (fun s => s.2.1.toNat) (fun s hs => ?_) ⟨by show 0 <= 1 + y4.1; omega, by show 1 + y4.1 + ((([] : List Ds).length : Nat) : Int) = _; simp, h4.2, ⟨b3.1, by show y3.1 <= 20 + 101 * ((([] : List Ds).length : Nat) : Int); simp; omega⟩, ⟨Nat.zero_le _, fun x hx => (by cases hx), fun j x y hx => (by cases hx)⟩⟩
 obtain ⟨day, i, d1, l⟩ := s
 obtain ⟨a1, a2, a3, a4, a5⟩ := hs
 dsimp only at a1 a2 a3 a4 a5
 have al := a5.len
 show Ok (Gx.l1 name y1 y2 day i d1 l) _
 unfold Gx.l1
 refine Ok.cond (fun hb => ?_) fun hb => ?_
 ·have hb := of_decide_eq_true hb
  refine Ok.bind (Hc a3 6 (by omega) (by omega)) fun y5 h5 => ?_
  have b5 := h5.1
  refine Ok.bind (M4 (by omega) (by show y5.1 < (6 : Int); omega)) fun e he => ?_
  refine Ok.bind (Iz (by rw [List.length_singleton]; omega)) fun l' hl' => ?_
  subst hl'
  refine Ok.bind (eF h5.2 _ (by decide) (by decide)) fun y6 h6 => ?_
  have b6 : 0 <= y6.1 /\ y6.1 <= 100 := by
   have := h6.1
   simp only [List.mem_cons, List.not_mem_nil, or_false] at this
   omega
  rw [Es (x := day + 1) (by omega), Es (x := day + 1 + y6.1) (by omega), Es (x := i - 1) (by omega)]
  refine Ok.ret ⟨⟨by show 0 <= i - 1; omega, ?_, h6.2, ⟨by show 0 <= day + 1 + y6.1; omega, ?_⟩, ?_⟩, ?_⟩
  ·show i - 1 + ((l ++ [Ds.mk e day]).length : Int) = 1 + y4.1
   rw [List.length_append, List.length_singleton]; omega
  ·show day + 1 + y6.1 <= 20 + 101 * ((l ++ [Ds.mk e day]).length : Int)
   rw [List.length_append, List.length_singleton]; omega
  ·refine ⟨by show (l ++ [Ds.mk e day]).length <= 3; rw [List.length_append, List.length_singleton]; omega, fun x hx => ?_, fun j x y hx hy => ?_⟩
   ·rcases List.mem_append.1 hx with hx | hx
    ·obtain ⟨c1, c2, c3, c4⟩ := a5.use x hx
     exact ⟨c1, c2, by show x.Day < day + 1 + y6.1; omega, c4⟩
    ·rw [List.mem_singleton.1 hx]
     exact ⟨he, a4.1, by show day < day + 1 + y6.1; omega, by show day <= 1000; omega⟩
   ·have hx : (l ++ [Ds.mk e day])[j]? = some x := hx
    have hy : (l ++ [Ds.mk e day])[j + 1]? = some y := hy
    have hj := N0 hy
    rw [List.length_append, List.length_singleton] at hj
    rw [List.getElem?_append_left (by omega)] at hx
    by_cases hj2 : j + 1 < l.length
    ·rw [List.getElem?_append_left hj2] at hy
     exact a5.asc j x y hx hy
    ·rw [List.getElem?_append_right (by omega), show j + 1 - l.length = 0 by omega] at hy
     injection hy with hy
     subst hy
     exact (a5.use x (Li hx)).2.2.1
  ·show (i - 1).toNat < i.toNat; omega
 ·have hb := of_decide_eq_false hb
  refine Ok.up ?_
  obtain ⟨x0, hx0⟩ : ∃ x, l[0]? = some x := ⟨_, List.getElem?_eq_getElem (by omega)⟩
  refine Ok.bindE (a := x0) (by rw [jY]; exact hx0) ?_
  refine Ok.bind (eF a3 _ (by decide) (by decide)) fun y7 h7 => ?_
  have b7 : 0 <= y7.1 /\ y7.1 <= 3000 := by
   have := h7.1
   simp only [List.mem_cons, List.not_mem_nil, or_false] at this
   omega
  obtain ⟨-, c2, -, c4⟩ := a5.use x0 (Li hx0)
  rw [Es (x := 1 + y1.1) (by omega), Es (x := 1 + y2.1) (by omega), Es (x := x0.Day + y7.1) (by omega)]
  refine Ok.ret ⟨dO hn (by omega) (by omega) a5 (by omega) (fun x hx => ?_) (by omega), h7.2⟩
  rw [hx0] at hx
  injection hx with hx
  subst hx
  omega
end
section
open Go
theorem U0 (s : List By) (f : By -> Option Bool) (p : By -> Bool) (h : Lo s) (hf : ∀ x ∈ s, f x = some (p x)) : E2 s f = some (s.any p) := by
 have hi : B4 s f = some (Uu s p) := by
  unfold B4
  refine So s p h (fun i x hx => ?_) ?_
  ·show B4.l1 s f (i : Int) = _
   unfold B4.l1
   rw [P2 hx, hf x (Li hx), Option.bind_some]
   cases p x <;> rfl
  ·show B4.l1 s f (s.length : Int) = _
   unfold B4.l1
   rw [Mu]; rfl
 unfold E2
 rw [hi, Option.bind_some, Su]
structure P1 (n : Nat) (l : List Ba) : Prop where
 len : l.length <= 3
 rng : ∀ e ∈ l, (0 <= e.Client /\ e.Client < (n : Int)) /\ (0 <= e.Server /\ e.Server < (n : Int)) /\ e.Client ≠ e.Server
 asc : ∀ (j : Nat) x y, l[j]? = some x -> l[j + 1]? = some y -> x.Client < y.Client \/ (x.Client = y.Client /\ x.Server < y.Server)
def W8 (i k : Int) (l : List Ba) : Prop := ∀ e ∈ l, e.Client < i \/ (e.Client = i /\ e.Server < k)
theorem gV {n : Nat} {l : List Ba} (h : P1 n l) : B9 l (n : Int) = some true := by
 have hlen := h.len
 unfold B9
 refine (Tm l (fun _ => false) false true (by unfold Lo; omega) (fun i e he => ?_) ?_).trans ?_
 ·show B9.l1 l (n : Int) (i : Int) = _
  obtain ⟨c1, c2, c3⟩ := h.rng e (Li he)
  have hi := N0 he
  unfold B9.l1
  rw [P2 he, decide_eq_false (show ¬ e.Client < 0 by omega), cond_false, decide_eq_false (show ¬ (n : Int) <= e.Client by omega), cond_false, decide_eq_false (show ¬ e.Server < 0 by omega), cond_false, decide_eq_false (show ¬ (n : Int) <= e.Server by omega), cond_false, decide_eq_false c3]
  unfold B9.j2
  rw [cond_false]
  cases i with
  | zero => rfl
  | succ i =>
   obtain ⟨q, hq⟩ : ∃ q, l[i]? = some q := ⟨_, List.getElem?_eq_getElem (by omega)⟩
   have ha := h.asc i q e hq he
   rw [decide_eq_true (by omega), cond_true, Es (by omega), show ((i + 1 : Nat) : Int) - 1 = (i : Int) by omega, D8, hq, Option.bind_some, decide_eq_false (show ¬ e.Client < q.Client by omega), cond_false]
   rcases ha with ha | ⟨ha, hb⟩
   ·rw [decide_eq_false (show ¬ q.Client = e.Client by omega)]; rfl
   ·rw [decide_eq_true ha, cond_true, decide_eq_false (show ¬ e.Server <= q.Server by omega)]; rfl
 ·show B9.l1 l (n : Int) (l.length : Int) = _
  unfold B9.l1
  rw [Mu, decide_eq_true (show (l.length : Int) <= 40 by omega)]
  rfl
 ·have : l.any (fun _ => false) = false := by simp
  rw [this]; rfl
structure Ug (s : Bj) : Prop where
 n2 : 2 <= s.Endpoints.length /\ s.Endpoints.length <= 3
 eps : ∀ (j : Nat) e, s.Endpoints[j]? = some e -> bE j e
 edges : P1 s.Endpoints.length s.Edges
 items : s.Items.length <= 2 /\ ∀ x ∈ s.Items, Bi x = some 0
theorem Zs {i : Nat} {e : Aw} (h : bE i e) : e.Name = cK i := by
 obtain ⟨c, hc, pN, fall, rfl⟩ := h
 rfl
theorem gF {i : Nat} (h : i + 1 < 3) : gH (Ny (cK i)) (Ny (cK (i + 1))) = true := by
 rcases i with _ | _ | i
 ·decide +kernel
 ·decide +kernel
 ·omega
theorem Vj {s : Bj} (h : Ug s) : Ce s = some 0 := by
 have hn := h.n2
 have hit := h.items
 unfold Ce
 refine (Tm s.Endpoints (fun _ => false) 31 0 (by unfold Lo; omega) (fun i e he => ?_) ?_).trans ?_
 ·show Ce.l1 s (i : Int) = _
  have hi := N0 he
  unfold Ce.l1
  rw [P2 he, kC (by omega) (h.eps i e he), Option.bind_some, decide_eq_true rfl, Bool.not_true, cond_false]
  cases i with
  | zero => rfl
  | succ i =>
   obtain ⟨q, hq⟩ : ∃ q, s.Endpoints[i]? = some q := ⟨_, List.getElem?_eq_getElem (by omega)⟩
   rw [decide_eq_true (by omega), cond_true, Es (by omega), show ((i + 1 : Nat) : Int) - 1 = (i : Int) by omega, D8, hq, Option.bind_some, Zs (h.eps i q hq), Zs (h.eps (i + 1) e he), gF (by omega)]
   rfl
 ·show Ce.l1 s (s.Endpoints.length : Int) = _
  unfold Ce.l1
  have hc := U0 s.Items (fun x0 => Gl x0) (fun _ => false) (by unfold Lo; omega) (fun x hx => by
   unfold Gl
   rw [hit.2 x hx]
   rfl)
  have hf : s.Items.any (fun _ => false) = false := by simp
  rw [hf] at hc
  rw [Mu, hc, Option.bind_some, cond_false, decide_eq_false (show ¬ 16 < (s.Endpoints.length : Int) by omega), cond_false, decide_eq_false (show ¬ 30 < (s.Items.length : Int) by omega), cond_false, gV h.edges]
  rfl
 ·have : s.Endpoints.any (fun _ => false) = false := by simp
  rw [this]; rfl
end
section
open Go
theorem kD {n : Nat} {l : List Ba} {i k : Int} (h : P1 n l) (ha : W8 i k l) (h3 : l.length < 3) (hi : 0 <= i /\ i < (n : Int)) (hk : 0 <= k /\ k < (n : Int)) (hne : i ≠ k) : P1 n (l ++ [Ba.mk i k]) /\ W8 i (k + 1) (l ++ [Ba.mk i k]) := by
 refine ⟨⟨by rw [List.length_append, List.length_singleton]; omega, fun e he => ?_, fun j x y hx hy => ?_⟩, fun e he => ?_⟩
 ·rcases List.mem_append.1 he with he | he
  ·exact h.rng e he
  ·rw [List.mem_singleton.1 he]; exact ⟨hi, hk, hne⟩
 ·have hj := N0 hy
  rw [List.length_append, List.length_singleton] at hj
  rw [List.getElem?_append_left (by omega)] at hx
  by_cases hj2 : j + 1 < l.length
  ·rw [List.getElem?_append_left hj2] at hy
   exact h.asc j x y hx hy
  ·rw [List.getElem?_append_right (by omega), show j + 1 - l.length = 0 by omega] at hy
   injection hy with hy
   subst hy
   exact ha x (Li hx)
 ·rcases List.mem_append.1 he with he | he
  ·rcases ha e he with h1 | ⟨h1, h2⟩
   ·exact .inl h1
   ·exact .inr ⟨h1, by omega⟩
  ·rw [List.mem_singleton.1 he]
   exact .inr ⟨rfl, by show k < k + 1; omega⟩
theorem dA {l : List Ba} {i k : Int} (h : W8 i k l) : W8 i (k + 1) l := fun e he => by
 rcases h e he with h1 | ⟨h1, h2⟩
 ·exact .inl h1
 ·exact .inr ⟨h1, by omega⟩
theorem fN {l : List Ba} {i k : Int} (h : W8 i k l) : W8 (i + 1) 0 l := fun e he => by
 rcases h e he with h1 | ⟨h1, h2⟩
 ·exact .inl (by omega)
 ·exact .inl (by omega)
theorem jK {y : Int × Ac} {n : Nat} (hn : 2 + y.1 = (n : Int)) (h : n <= 3) : ((((W (2 + y.1) : Int).toNat - (0 : Int).toNat) : Nat) : Int) = (n : Int) := by
 rw [hn, Es (by omega), Int.toNat_natCast]
 show ((n - 0 : Nat) : Int) = _
 rw [Nat.sub_zero]
def EQ (n : Nat) (i k : Int) (d : Ac) (l : List Ba) : Prop := Oh d /\ P1 n l /\ W8 i k l
theorem jO {y : Int × Ac} {n : Nat} (hn : 2 + y.1 = (n : Int)) (h3 : n <= 3) {i : Int} (hi : 0 <= i /\ i < (n : Int)) {d : Ac} {l : List Ba} (h : EQ n i 0 d l) :
  Ok (C2 (fun q' => Bm.l7 y i q'.1 q'.2.1 q'.2.2) (0, d, l)) (fun o => ∃ d' l', o = .next (i + 1, d', l') /\ EQ n (i + 1) 0 d' l') := by
 refine Ok.loop (fun s : Int × Ac × List Ba => (0 <= s.1 /\ s.1 <= (n : Int)) /\ EQ n i s.1 s.2.1 s.2.2) (fun s => ((n : Int) - s.1).toNat) (fun s hs => ?_) ⟨⟨Int.le_refl _, by show (0 : Int) <= (n : Int); omega⟩, h⟩
 obtain ⟨k, d1, l1⟩ := s
 obtain ⟨hk, hd, he, ha⟩ := hs
 dsimp only at hk hd he ha
 have hl3 := he.len
 show Ok (Bm.l7 y i k d1 l1) _
 unfold Bm.l7
 rw [jK hn h3]
 refine Ok.cond (fun hb => ?_) fun hb => ?_
 ·have hb := of_decide_eq_true hb
  have hw : W (k + 1) = k + 1 := Es (by omega)
  have J8 : ∀ (d' : Ac) (b : Bool), Oh d' -> (b = true -> l1.length < 3 /\ i ≠ k) -> Ok (Bm.j8 i k l1 b d') (dI (fun s : Int × Ac × List Ba => ((0 <= s.1 /\ s.1 <= (n : Int)) /\ EQ n i s.1 s.2.1 s.2.2) /\ ((n : Int) - s.1).toNat < ((n : Int) - k).toNat) (fun o => ∃ d' l', o = .next (i + 1, d', l') /\ EQ n (i + 1) 0 d' l')) := fun d' b hd' hb' => by
   unfold Bm.j8 Bm.j9
   rw [hw]
   refine Ok.cond (fun hbt => ?_) fun _ => ?_
   ·obtain ⟨c1, c2⟩ := hb' hbt
    refine Ok.bind (Iz (by rw [List.length_singleton]; omega)) fun l' hl' => ?_
    subst hl'
    obtain ⟨e1, e2⟩ := kD he ha c1 hi ⟨hk.1, hb⟩ c2
    exact Ok.ret ⟨⟨⟨by show 0 <= k + 1; omega, by show k + 1 <= (n : Int); omega⟩, hd', e1, e2⟩, by show ((n : Int) - (k + 1)).toNat < ((n : Int) - k).toNat; omega⟩
   ·exact Ok.ret ⟨⟨⟨by show 0 <= k + 1; omega, by show k + 1 <= (n : Int); omega⟩, hd', he, dA ha⟩, by show ((n : Int) - (k + 1)).toNat < ((n : Int) - k).toNat; omega⟩
  clear hw
  refine Ok.cond (fun hne => ?_) fun _ => J8 d1 false hd (fun h => by cases h)
  have hne' : i ≠ k := fun e => by rw [decide_eq_true e] at hne; cases hne
  refine Ok.bind (Hc hd 3 (by omega) (by omega)) fun y8 h8 => ?_
  refine Ok.cond (fun _ => J8 y8.2 _ h8.2 fun h => ⟨by have := of_decide_eq_true h; omega, hne'⟩) fun _ => J8 y8.2 false h8.2 (fun h => by cases h)
 ·refine Ok.up ?_
  rw [Es (by omega)]
  exact Ok.ret ⟨d1, l1, rfl, hd, he, fN ha⟩
def Zl (s : Bj) : Prop := Ug s /\ s.Edges ≠ []
theorem Yu {E : List Aw} {L : List Ba} {n : Nat} (h2 : 2 <= n /\ n <= 3) (hE : E.length = n) (hep : ∀ (j : Nat) e, E[j]? = some e -> bE j e) (hL : P1 n L) (hne : L ≠ []) {d : Ac} (hd : Oh d) : Ok (Bm.j10 E d L) (fun y => Zl y.1 /\ Oh y.2) := by
 unfold Bm.j10
 refine Ok.bind (Hc hd 3 (by omega) (by omega)) fun y9 h9 => ?_
 have b9 := h9.1
 refine Ok.loop (fun s : Int × Ac × List By => (0 <= s.1 /\ s.1 + (s.2.2.length : Int) <= 2) /\ Oh s.2.1 /\ ∀ x ∈ s.2.2, Bi x = some 0) (fun s => s.1.toNat) (fun s hs => ?_) ⟨⟨b9.1, by show y9.1 + ((([] : List By).length : Nat) : Int) <= 2; simp; omega⟩, h9.2, fun x hx => (by cases hx)⟩
 obtain ⟨i, d1, l⟩ := s
 obtain ⟨⟨a1, a2⟩, a3, a4⟩ := hs
 dsimp only at a1 a2 a3 a4
 show Ok (Bm.l11 E L i d1 l) _
 unfold Bm.l11
 refine Ok.cond (fun hb => ?_) fun hb => ?_
 ·have hb := of_decide_eq_true hb
  refine Ok.bind (mK a3 _ (by decide) (by decide)) fun y10 h10 => ?_
  have hnm : Wz y10.1 = true := by
   have := h10.1
   simp only [List.mem_cons, List.not_mem_nil, or_false] at this
   rcases this with h | h <;> rw [h] <;> decide +kernel
  refine Ok.bind (mY h10.2 hnm) fun y11 h11 => ?_
  refine Ok.bind (Iz (by rw [List.length_singleton]; omega)) fun l' hl' => ?_
  subst hl'
  rw [Es (by omega)]
  refine Ok.ret ⟨⟨⟨by show 0 <= i - 1; omega, ?_⟩, h11.2, fun x hx => ?_⟩, by show (i - 1).toNat < i.toNat; omega⟩
  ·show i - 1 + ((l ++ [y11.1]).length : Int) <= 2
   rw [List.length_append, List.length_singleton]; omega
  ·rcases List.mem_append.1 hx with hx | hx
   ·exact a4 x hx
   ·rw [List.mem_singleton.1 hx]; exact h11.1
 ·exact Ok.up (Ok.ret ⟨⟨⟨by show 2 <= E.length /\ E.length <= 3; omega, hep, by show P1 E.length L; rw [hE]; exact hL, by show l.length <= 2; omega, a4⟩, hne⟩, a3⟩)
theorem kO {y : Int × Ac} {n : Nat} (hn : 2 + y.1 = (n : Int)) (h2 : 2 <= n /\ n <= 3) {E : List Aw} (hE : E.length = n) (hep : ∀ (j : Nat) e, E[j]? = some e -> bE j e) {d : Ac} (hd : Oh d) :
  Ok (C2 (fun q' => Bm.l6 y E q'.1 q'.2.1 q'.2.2) (0, d, ([] : List Ba))) (fun y => Zl y.1 /\ Oh y.2) := by
 refine Ok.loop (fun s : Int × Ac × List Ba => (0 <= s.1 /\ s.1 <= (n : Int)) /\ EQ n s.1 0 s.2.1 s.2.2) (fun s => ((n : Int) - s.1).toNat) (fun s hs => ?_) ⟨⟨Int.le_refl _, by show (0 : Int) <= (n : Int); omega⟩, hd, ⟨Nat.zero_le _, fun x hx => (by cases hx), fun j x y hx => (by cases hx)⟩, fun x hx => (by cases hx)⟩
 obtain ⟨i, d1, l1⟩ := s
 obtain ⟨hk, hq⟩ := hs
 dsimp only at hk hq
 show Ok (Bm.l6 y E i d1 l1) _
 unfold Bm.l6
 rw [jK hn h2.2]
 refine Ok.cond (fun hb => ?_) fun hb => ?_
 ·have hb := of_decide_eq_true hb
  refine (jO hn h2.2 ⟨hk.1, hb⟩ hq).mono fun o ho => ?_
  obtain ⟨d', l', rfl, ho⟩ := ho
  exact ⟨⟨⟨by show 0 <= i + 1; omega, by show i + 1 <= (n : Int); omega⟩, ho⟩, by show ((n : Int) - (i + 1)).toNat < ((n : Int) - i).toNat; omega⟩
 ·refine Ok.up (Ok.cond (fun _ => ?_) fun hl0 => Yu h2 hE hep hq.2.1 (fun e0 => by rw [e0] at hl0; exact absurd rfl (of_decide_eq_false hl0)) hq.1)
  refine Yu h2 hE hep ⟨by decide, fun e he => ?_, fun j x y hx hy => ?_⟩ (by simp) hq.1
  ·rw [List.mem_singleton.1 he]
   exact ⟨⟨by show (0 : Int) <= 0; omega, by show (0 : Int) < (n : Int); omega⟩, ⟨by show (0 : Int) <= 1; omega, by show (1 : Int) < (n : Int); omega⟩, by show (0 : Int) ≠ 1; omega⟩
  ·have := N0 hy
   rw [List.length_singleton] at this
   omega
theorem iC {d : Ac} (h : Oh d) : Ok (Bm d) (fun y => Zl y.1 /\ Oh y.2) := by
 unfold Bm
 refine Ok.bind (Hc h 2 (by omega) (by omega)) fun y hy => ?_
 have by1 := hy.1
 obtain ⟨n, hn⟩ : ∃ n : Nat, 2 + y.1 = (n : Int) := ⟨(2 + y.1).toNat, by omega⟩
 have h2 : 2 <= n /\ n <= 3 := by omega
 have hw : W (2 + y.1) = (n : Int) := by rw [hn, Es (by omega)]
 refine Ok.bind (Wr ⟨by omega, by rw [hw]; omega, by rw [hw]; show (n : Int) <= 3; omega⟩) fun l hl => ?_
 clear hl
 refine Ok.loop (fun s : Int × Ac × List Aw => (0 <= s.1 /\ s.1 <= (n : Int)) /\ Oh s.2.1 /\ (s.2.2.length : Int) = s.1 /\ ∀ (j : Nat) e, s.2.2[j]? = some e -> bE j e) (fun s => ((n : Int) - s.1).toNat) (fun s hs => ?_) ⟨⟨Int.le_refl _, by show (0 : Int) <= (n : Int); omega⟩, hy.2, rfl, fun j e he => (by cases he)⟩
 obtain ⟨i, d1, E⟩ := s
 obtain ⟨hk, hd, hlen, hep⟩ := hs
 dsimp only at hk hd hlen hep
 show Ok (Bm.l1 y i d1 E) _
 unfold Bm.l1
 rw [jK hn h2.2]
 refine Ok.cond (fun hb => ?_) fun hb => ?_
 ·have hb := of_decide_eq_true hb
  have hnm : Cb ((([(⟨#[97, 112, 112]⟩ : ByteArray), (⟨#[100, 98]⟩ : ByteArray), (⟨#[119, 101, 98]⟩ : ByteArray)] : List ByteArray).drop ((0 : Int).toNat)).take ((W (2 + y.1) : Int).toNat - (0 : Int).toNat)) i = some (cK E.length) := by
   rw [hw, Int.toNat_natCast, <- hlen, D8]
   show ((zE.drop 0).take (n - 0))[E.length]? = _
   rw [List.drop_zero, Nat.sub_zero, List.getElem?_take, if_pos (by omega)]
   unfold cK
   rw [List.getD_eq_getElem?_getD, List.getElem?_eq_getElem (show E.length < zE.length by show E.length < 3; omega)]
   rfl
  refine Ok.bindE hnm ?_
  refine Ok.bind (eF hd _ (by decide) (by decide)) fun y2 k2 => ?_
  refine Ok.bind (Hc k2.2 3 (by omega) (by omega)) fun y3 k3 => ?_
  have b3 := k3.1
  refine Ok.bind (M4 (by omega) (by show y3.1 < (3 : Int); omega)) fun S hS => ?_
  refine Ok.bind (kE k3.2 2 (by omega) (by omega)) fun y4 k4 => ?_
  refine Ok.bind (kE k4 3 (by omega) (by omega)) fun y5 k5 => ?_
  have hm : y2.1 = 3 \/ y2.1 = 4 := by
   have := k2.1
   simp only [List.mem_cons, List.not_mem_nil, or_false] at this
   omega
  simp only [List.mem_cons, List.not_mem_nil, or_false] at hS
  have J : ∀ x, (y2.1, x) ∈ U6 -> Ok (Bm.j2 i E (cK E.length) y2 y4 y5 x) (dI (fun s : Int × Ac × List Aw => ((0 <= s.1 /\ s.1 <= (n : Int)) /\ Oh s.2.1 /\ (s.2.2.length : Int) = s.1 /\ ∀ (j : Nat) e, s.2.2[j]? = some e -> bE j e) /\ ((n : Int) - s.1).toNat < ((n : Int) - i).toNat) (fun y => Zl y.1 /\ Oh y.2)) := fun x hx => by
   unfold Bm.j2 Po
   rw [Option.bind_some, <- hlen]
   refine Ok.bindE (oH (i := E.length) (by omega)) ?_
   refine Ok.bind (Iz (by rw [List.length_singleton]; omega)) fun l' hl' => ?_
   subst hl'
   rw [Es (by omega)]
   refine Ok.ret ⟨⟨⟨by show 0 <= (E.length : Int) + 1; omega, by show (E.length : Int) + 1 <= (n : Int); omega⟩, k5, ?_, fun j e he => ?_⟩, by show ((n : Int) - ((E.length : Int) + 1)).toNat < ((n : Int) - (E.length : Int)).toNat; omega⟩
   ·show ((E ++ [_]).length : Int) = (E.length : Int) + 1
    rw [List.length_append, List.length_singleton]; omega
   ·have he : (E ++ [_])[j]? = some e := he
    rw [List.getElem?_append] at he
    split at he
    ·exact hep j e he
    ·have hj0 : j - E.length = 0 := by
      have := N0 he
      rw [List.length_singleton] at this
      omega
     rw [hj0] at he
     injection he with he
     subst he
     rw [show j = E.length by omega]
     exact ⟨(y2.1, x), hx, _, _, rfl⟩
  rcases hm with hm | hm
  ·rw [hm, decide_eq_false (by omega), cond_false]
   refine J S ?_
   rw [hm]
   unfold U6
   rcases hS with rfl | rfl | rfl <;> simp
  ·rw [hm, decide_eq_true rfl, cond_true]
   refine Ok.bind (Iz (by rcases hS with rfl | rfl | rfl <;> decide)) fun l' hl' => ?_
   subst hl'
   refine J _ ?_
   rw [hm]
   unfold U6
   rcases hS with rfl | rfl | rfl <;> simp
 ·have hb := of_decide_eq_false hb
  exact Ok.up (kO hn h2 (by omega) hep hd)
theorem lK {d : Ac} (h : Oh d) : Ok (Bm d) (fun y => Ug y.1 /\ Oh y.2) := (iC h).mono fun _ h => ⟨h.1.1, h.2⟩
end
end Go.Proofs.YtkpcbnnlefcebaaGreat
