import Derived.Test.YtkoflhimdenjaaaGreatES
import Derived.Test.YtkoflhimdenjaaaGreatCH
set_option autoImplicit false
set_option linter.unusedVariables false
set_option linter.unusedSimpArgs false
namespace Go.Proofs.YtkoflhimdenjaaaGreat
open Go
theorem kR {l : List Int} (h : l.Nodup) (hr : ∀ x ∈ l, vY x) (i : Nat) : uR l i := fun x hx => by
 refine ⟨hr x (Ho hx), fun hm => ?_⟩
 obtain ⟨j, hj, he⟩ := List.mem_take_iff_getElem.1 hm
 rw [List.nodup_iff_pairwise_ne, List.pairwise_iff_getElem] at h
 have hi := I8 hx
 have := h j i (by omega) hi (by omega)
 rw [List.getElem?_eq_getElem hi] at hx
 exact this (by rw [he]; exact (oi_ hx).symm)
structure IdM (x : A5) : Prop where
 key : aAe x.Key
 id : 0 <= x.KeyId /\ x.KeyId <= 1000
 len : x.Chain.length <= 3
 chain : ∀ c ∈ x.Chain, G5 c = true /\ R9 c
 head : Xe x.Key x.KeyId x.Chain = true
def zI : List (List Int) := [[1, 2], [1, 2], [1], [2, 11], []]
def yS : List (List Int) := [[1, 2, 3, 4], [2, 3, 4], [3, 4]]
structure EpM (name : ByteArray) (e : Ao) : Prop where
 name : e.Name = name
 least : 1 <= e.Least
 most : e.Least <= e.Most
 most4 : e.Most <= 4
 sn : e.Suites.length <= 10
 suites : ∀ i, uR e.Suites i
 idn : e.Identities.length <= 3
 ids : ∀ x ∈ e.Identities, IdM x
 anchors : e.Anchors ∈ zI
 hashes : e.Hashes ∈ yS
theorem vI {l : List Int} (h : (List.range l.length).all (fun i => decide (i = 0) || decide (l.getD (i - 1) 0 < l.getD i 0)) = true) (i : Nat) : VA (fun x y : Int => x < y) l i := fun x y h0 hx hy => by
 have hi := I8 hy
 have := List.all_eq_true.1 h i (List.mem_range.2 hi)
 rw [decide_eq_false (by omega), Bool.false_or, Pr hx, Pr hy] at this
 exact of_decide_eq_true this
theorem EpM.fit {name : ByteArray} (hn : name.size <= 32) {e : Ao} (h : EpM name e) : cX e := by
 have h1 := h.sn
 have h2 := h.idn
 refine ⟨by rw [h.name]; omega, by unfold Lo; omega, by unfold Lo; omega, ?_, ?_, fun x hx c hc => ((h.ids x hx).chain c hc).2.w⟩
 ·have := h.anchors
  unfold zI at this
  simp only [List.mem_cons, List.not_mem_nil, or_false] at this
  rcases this with e | e | e | e | e <;> rw [e] <;> (unfold Lo; decide)
 ·have := h.hashes
  unfold yS at this
  simp only [List.mem_cons, List.not_mem_nil, or_false] at this
  rcases this with e | e | e <;> rw [e] <;> (unfold Lo; decide)
theorem aBc {n : Int} (h : 0 <= n /\ n <= 100000) : Sm n := h
theorem LkV.snoc {l : List C2} {a : C2} (h : ∀ i, LkV l i) (hr : 0 < N5 a.Use /\ 0 <= a.Day /\ a.Day <= 40000) (hd : ∀ b ∈ l, b.Day < a.Day) (i : Nat) : LkV (l ++ [a]) i := by
 refine ⟨fun x y h0 hx hy => ?_, fun b hb => ?_⟩
 ·have hi := I8 hy
  rw [List.length_append, List.length_singleton] at hi
  rw [List.getElem?_append_left (by omega)] at hx
  by_cases hl : i < l.length
  ·rw [List.getElem?_append_left hl] at hy
   exact (h i).1 x y h0 hx hy
  ·rw [List.getElem?_append_right (by omega), show i - l.length = 0 by omega] at hy
   cases hy
   exact hd x (Ho hx)
 ·by_cases hl : i < l.length
  ·rw [List.getElem?_append_left hl] at hb
   exact (h i).2 b hb
  ·rw [List.getElem?_append_right (by omega)] at hb
   have := List.mem_of_getElem? hb
   rw [List.mem_singleton] at this
   subst this
   exact hr
structure ItM (x : Di) : Prop where
 ok : ItV x
 fit : uN x
theorem oB {d : Ah} (h : Vm d) {name : ByteArray} (hn : F0 name = true) : Ok (F6 d name) (fun y => ItM y.1 /\ Vm y.2) := by
 have hns := M7 hn
 unfold F6
 refine Ok.bind (Jw h 2 (by omega) (by omega)) fun y1 h1 => ?_
 refine Ok.bind (Jw h1.2 4 (by omega) (by omega)) fun y2 h2 => ?_
 refine Ok.bind (Jw h2.2 20 (by omega) (by omega)) fun y3 h3 => ?_
 refine Ok.bind (Jw h3.2 3 (by omega) (by omega)) fun y4 h4 => ?_
 have b1 := h1.1
 have b2 := h2.1
 have b3 := h3.1
 have b4 := h4.1
 rw [Eh (x := 1 + y4.1) (by omega)]
 refine Ok.loop (fun s : Int × Int × Ah × List C2 => 0 <= s.2.1 /\ s.2.1 + (s.2.2.2.length : Int) = 1 + y4.1 /\ Vm s.2.2.1 /\ (0 <= s.1 /\ s.1 <= 20 + 101 * (s.2.2.2.length : Int)) /\ (∀ i, LkV s.2.2.2 i) /\ ∀ b ∈ s.2.2.2, b.Day < s.1 /\ b.Day <= 1000) (fun s => s.2.1.toNat) ?_ ⟨by show 0 <= 1 + y4.1; omega, by show 1 + y4.1 + ((([] : List C2).length : Nat) : Int) = _; simp, h4.2, ⟨b3.1, by show y3.1 <= 20 + 101 * ((([] : List C2).length : Nat) : Int); simp; omega⟩, fun i => ⟨fun x y _ hx => (by cases hx), fun a ha => (by cases ha)⟩, fun b hb => (by cases hb)⟩
 rintro ⟨day, i, d1, l⟩ ⟨a1, a2, a3, a4, a5, a6⟩
 dsimp only at a1 a2 a3 a4 a5 a6
 show Ok (F6.l1 name y1 y2 day i d1 l) _
 unfold F6.l1
 refine Ok.cond (fun hb => ?_) fun hb => ?_
 ·have hb := of_decide_eq_true hb
  refine Ok.bind (Jw a3 6 (by omega) (by omega)) fun y5 h5 => ?_
  have b5 := h5.1
  refine Ok.bind (T4 (by omega) (by show y5.1 < (6 : Int); omega)) fun e he => ?_
  refine Ok.bind (Qn (by rw [List.length_singleton]; omega)) fun l' hl' => ?_
  subst hl'
  refine Ok.bind (oM h5.2 _ (by decide) (by decide)) fun y6 h6 => ?_
  have b6 : 0 <= y6.1 /\ y6.1 <= 100 := by
   have := h6.1
   simp only [List.mem_cons, List.not_mem_nil, or_false] at this
   omega
  have he0 : 0 < N5 e := by
   simp only [List.mem_cons, List.not_mem_nil, or_false] at he
   rcases he with rfl | rfl | rfl | rfl | rfl | rfl <;> decide +kernel
  rw [Eh (x := day + 1) (by omega), Eh (x := day + 1 + y6.1) (by omega), Eh (x := i - 1) (by omega)]
  refine Ok.ret ⟨⟨by show 0 <= i - 1; omega, ?_, h6.2, ⟨by show 0 <= day + 1 + y6.1; omega, ?_⟩, LkV.snoc a5 ⟨he0, by show 0 <= day; omega, by show day <= 40000; omega⟩ fun b hb => (a6 b hb).1, fun b hb => ?_⟩, by show (i - 1).toNat < i.toNat; omega⟩
  ·show i - 1 + ((l ++ [C2.mk e day]).length : Int) = 1 + y4.1
   rw [List.length_append, List.length_singleton]; omega
  ·show day + 1 + y6.1 <= 20 + 101 * ((l ++ [C2.mk e day]).length : Int)
   rw [List.length_append, List.length_singleton]; omega
  ·show b.Day < day + 1 + y6.1 /\ _
   rcases List.mem_append.1 hb with hb | hb
   ·have := a6 b hb
    omega
   ·rw [List.mem_singleton] at hb
    subst hb
    show day < day + 1 + y6.1 /\ day <= 1000
    omega
 ·have hb := of_decide_eq_false hb
  have hl1 : 1 <= l.length := by omega
  obtain ⟨a, ha⟩ : ∃ a, l[0]? = some a := ⟨_, List.getElem?_eq_getElem (by omega)⟩
  refine Ok.up ?_
  rw [xP, ha, Option.bind_some]
  refine Ok.bind (oM a3 _ (by decide) (by decide)) fun y7 h7 => ?_
  have b7 : 0 <= y7.1 /\ y7.1 <= 3000 := by
   have := h7.1
   simp only [List.mem_cons, List.not_mem_nil, or_false] at this
   omega
  have hd := a6 a (Ho ha)
  have hd0 := ((a5 0).2 a ha).2
  rw [Eh (x := 1 + y1.1) (by omega), Eh (x := 1 + y2.1) (by omega), Eh (x := a.Day + y7.1) (by omega)]
  refine Ok.ret ⟨⟨⟨hn, by show 1 + y1.1 = 1 \/ 1 + y1.1 = 2; omega, by show 1 <= 1 + y2.1 /\ 1 + y2.1 <= 4; omega, by show 1 <= l.length /\ l.length <= 8; omega, fun i => (a5 i).1, fun b hb => ?_, fun b hb => ?_, by show a.Day + y7.1 <= 40000; omega, fun b hb => ?_⟩, ⟨by show name.size <= _; omega, by show l.length < _; omega⟩⟩, h7.2⟩
  ·obtain ⟨j, hj⟩ := List.mem_iff_getElem?.1 hb
   exact ((a5 j).2 b hj).1
  ·obtain ⟨j, hj⟩ := List.mem_iff_getElem?.1 hb
   exact ((a5 j).2 b hj).2
  ·have hb : l[0]? = some b := hb
   rw [ha] at hb
   cases hb
   show a.Day <= a.Day + y7.1
   omega
def nmE : List ByteArray := [⟨#[97, 112, 112]⟩, ⟨#[100, 98]⟩, ⟨#[109, 97, 105, 108]⟩, ⟨#[119, 101, 98]⟩]
theorem wC {n : ByteArray} (h : n ∈ nmE) : F0 n = true /\ n.size <= 31 /\ bY n = true := by
 unfold nmE at h
 simp only [List.mem_cons, List.not_mem_nil, or_false] at h
 rcases h with rfl | rfl | rfl | rfl <;> exact ⟨by decide +kernel, by decide, by decide +kernel⟩
structure EsM (e : C1) : Prop where
 n : 2 <= e.Endpoints.length /\ e.Endpoints.length <= 4
 ep : ∀ (i : Nat) x, e.Endpoints[i]? = some x -> EpM (nmE.getD i ⟨#[]⟩) x
 edges : e.Edges.length <= 16 /\ ∀ i, EdV (e.Endpoints.length : Int) e.Edges i
 items : e.Items.length <= 2 /\ ∀ x ∈ e.Items, ItM x
theorem tT {i : Nat} (h : i < 4) : nmE.getD i ⟨#[]⟩ ∈ nmE := by
 rcases i with _ | _ | _ | _ | i
 ·exact .head _
 ·exact .tail _ (.head _)
 ·exact .tail _ (.tail _ (.head _))
 ·exact .tail _ (.tail _ (.tail _ (.head _)))
 ·omega
theorem EsM.fit {e : C1} (h : EsM e) : uG e := by
 have h1 := h.n
 have h2 := h.edges.1
 have h3 := h.items.1
 refine ⟨by unfold Lo; omega, by unfold Lo; omega, by unfold Lo; omega, fun x hx => ?_, fun x hx => (h.items.2 x hx).fit⟩
 obtain ⟨i, hi⟩ := List.mem_iff_getElem?.1 hx
 have := wC (tT (i := i) (by have := I8 hi; omega))
 exact (h.ep i x hi).fit (by omega)
end Go.Proofs.YtkoflhimdenjaaaGreat
