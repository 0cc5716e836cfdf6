import Derived.Test.YtkoflhimdenjaaaGreatL3
import Derived.Test.YtkoflhimdenjaaaGreatK6
set_option linter.unusedVariables false
set_option linter.unusedSimpArgs false
namespace Go.Proofs.YtkoflhimdenjaaaGreat
open Go
structure Vm (d : Ah) : Prop where
 lo : Lo d.L
 at0 : 0 <= d.At
 at1 : d.At <= d.L.length
theorem wZ (e n : Int) (hn : 1 <= n) (hn2 : n <= 4611686018427387904) : Ok (Mx e n) (fun y => 0 <= y /\ y < n) := by
 unfold Mx
 rw [decide_eq_false (by omega), cond_false]
 have h1 := Int.tmod_lt_of_pos e (show 0 < n by omega)
 have h2 : -n < e.tmod n := Int.lt_tmod_of_pos e (by omega)
 have h3 := Int.tmod_lt_of_pos (e.tmod n + n) (show 0 < n by omega)
 have h4 := Int.tmod_nonneg n (show 0 <= e.tmod n + n by omega)
 unfold R4
 rw [if_neg (by omega), Option.bind_some, Eh (by omega), if_neg (by omega)]
 exact ⟨_, rfl, h4, h3⟩
theorem Jw {d : Ah} (h : Vm d) (n : Int) (hn : 1 <= n) (hn2 : n <= 4611686018427387904) : Ok (Cw d n) (fun y => (0 <= y.1 /\ y.1 < n) /\ Vm y.2) := by
 have hl := h.lo
 unfold Lo at hl
 have h0 := h.at0
 have h1 := h.at1
 unfold Cw
 refine Ok.cond (fun hb => ?_) fun hb => ?_
 ·exact Ok.ret ⟨⟨Int.le_refl _, by show (0 : Int) < n; omega⟩, h⟩
 ·have hb := of_decide_eq_false hb
  rw [Eh (x := d.At + 1) (by omega), Eh (by omega)]
  refine Ok.bind (Wh (by omega) (by omega)) fun e he => ?_
  refine Ok.bind (wZ e n hn hn2) fun y hy => ?_
  exact Ok.ret ⟨hy, ⟨h.lo, by show 0 <= d.At + 1; omega, by show d.At + 1 <= (d.L.length : Int); omega⟩⟩
theorem oM {d : Ah} (h : Vm d) (l : List Int) (hl : 1 <= l.length) (hl2 : l.length <= 1000) : Ok (Hi d l) (fun y => y.1 ∈ l /\ Vm y.2) := by
 unfold Hi
 refine Ok.bind (Jw h _ (by omega) (by omega)) fun y hy => ?_
 refine Ok.bind (T4 (by omega) (by omega)) fun e he => ?_
 exact Ok.ret ⟨he, hy.2⟩
theorem rV {d : Ah} (h : Vm d) (l : List ByteArray) (hl : 1 <= l.length) (hl2 : l.length <= 1000) : Ok (Ik d l) (fun y => y.1 ∈ l /\ Vm y.2) := by
 unfold Ik
 refine Ok.bind (Jw h _ (by omega) (by omega)) fun y hy => ?_
 refine Ok.bind (T4 (by omega) (by omega)) fun e he => ?_
 exact Ok.ret ⟨he, hy.2⟩
theorem nD {d : Ah} (h : Vm d) (n : Int) (hn : 1 <= n) (hn2 : n <= 1000) : Ok (Hx d n) (fun y => Vm y.2) := by
 unfold Hx
 refine Ok.bind (Jw h _ (by omega) (by omega)) fun y hy => ?_
 exact Ok.ret hy.2
def Sm (n : Int) : Prop := 0 <= n /\ n <= 100000
def SmU (u : Aw) : Prop := Sm u.Alg /\ Sm u.Bits
def P0 (n : Int) : Prop := -9223372036854775808 <= n /\ n <= 9223372036854775807
theorem Sm.i64 {n : Int} (h : Sm n) : P0 n := by unfold Sm at h; unfold P0; omega
def uH : Ai := Ai.mk 0 ⟨#[]⟩ ⟨#[]⟩ (Aw.mk 0 0) 0 (Aw.mk 0 0) 0 0 false 0 [] (D2.mk 0 0)
def Yh (c : Ai) : Ai := Ai.mk c.Serial c.Issuer c.Subject c.Key c.KeyId c.Hash c.From c.To c.Authority c.Path c.Names (D2.mk 0 0)
def X0 (c : Ai) (s : D2) : Ai := Ai.mk c.Serial c.Issuer c.Subject c.Key c.KeyId c.Hash c.From c.To c.Authority c.Path c.Names s
theorem pS {c : Ai} (h1 : c.Names.length < 1000000000) (h2 : ∀ s ∈ c.Names, s.size <= 9223372036854775807) (h3 : c.Issuer.size <= 9223372036854775807) (h4 : c.Subject.size <= 9223372036854775807)
  (a1 : P0 c.Serial) (a2 : P0 c.Key.Alg) (a3 : P0 c.Key.Bits) (a4 : P0 c.KeyId) (a5 : P0 c.Hash.Alg) (a6 : P0 c.Hash.Bits) (a7 : P0 c.From) (a8 : P0 c.To) (a9 : P0 c.Path) (b1 : P0 c.Seal.Key) (b2 : P0 c.Seal.Sum) : R9 c := by
 refine ⟨h1, h2, h3, h4, ?_⟩
 intro n hn
 simp only [List.mem_cons, List.not_mem_nil, or_false] at hn
 rcases hn with rfl | rfl | rfl | rfl | rfl | rfl | rfl | rfl | rfl | rfl | rfl <;> assumption
structure aA7 (c : Ai) : Prop where
 a1 : P0 c.Serial
 a2 : P0 c.Key.Alg
 a3 : P0 c.Key.Bits
 a4 : P0 c.KeyId
 a5 : P0 c.Hash.Alg
 a6 : P0 c.Hash.Bits
 a7 : P0 c.From
 a8 : P0 c.To
 a9 : P0 c.Path
 b1 : P0 c.Seal.Key
 b2 : P0 c.Seal.Sum
theorem R9.is {c : Ai} (h : R9 c) : aA7 c := by
 have := h.ints
 constructor <;> exact this _ (by simp)
theorem W4 : P0 0 := ⟨by decide, by decide⟩
theorem Wu {c : Ai} (h : R9 c) {s : D2} (h1 : P0 s.Key) (h2 : P0 s.Sum) : R9 (X0 c s) := by
 have i := h.is
 exact pS h.names h.name h.issuer h.subject i.a1 i.a2 i.a3 i.a4 i.a5 i.a6 i.a7 i.a8 i.a9 h1 h2
theorem qW (c : Ai) (h : R9 c) : Kb c = some c := by
 unfold Kb
 have := h.names
 rw [Im (by simp; omega)]
 rfl
def iH (c : Ai) (key : Int) : Ai × Int := bif G5 (Yh c) && (decide (0 <= key) && decide (key <= 2147483648)) then (X0 c ⟨key, Zz (N3 (Yh c)).1⟩, 0) else (uH, 9)
theorem pL (b : List UInt8) : P0 (Zz b) := iB _
theorem oX (c : Ai) (h : R9 c) (key : Int) : Ee c key = some (iH c key) := by
 have hu : R9 (Yh c) := Wu h W4 W4
 unfold Ee
 rw [qW c h, Option.bind_some]
 have e : A1 (Ai.mk c.Serial c.Issuer c.Subject c.Key c.KeyId c.Hash c.From c.To c.Authority c.Path c.Names (D2.mk 0 0)) = some (bif G5 (Yh c) then 0 else 9) := Y7 (Yh c) hu
 rw [e, Option.bind_some]
 have j : ∀ b, Ee.j1 key c b = some (bif b then (uH, 9) else (X0 c ⟨key, Zz (N3 (Yh c)).1⟩, 0)) := by
  intro b
  unfold Ee.j1
  cases b with
  | true => rfl
  | false =>
   rw [cond_false]
   have e2 : I1 (Ai.mk c.Serial c.Issuer c.Subject c.Key c.KeyId c.Hash c.From c.To c.Authority c.Path c.Names (D2.mk 0 0)) = some (N3 (Yh c)) := kX (Yh c) hu
   rw [e2, Option.bind_some, rC _ (jH _)]
   rfl
 simp only [j]
 unfold iH
 cases G5 (Yh c) with
 | false => rfl
 | true =>
  by_cases a : key < 0
  ·rw [decide_eq_true a, decide_eq_false (show ¬ 0 <= key by omega)]; rfl
  ·rw [decide_eq_false a, decide_eq_true (show 0 <= key by omega)]
   by_cases b : key <= 2147483648
   ·rw [decide_eq_true b, decide_eq_false (show ¬ 2147483648 < key by omega)]; rfl
   ·rw [decide_eq_false b, decide_eq_true (show 2147483648 < key by omega)]; rfl
end Go.Proofs.YtkoflhimdenjaaaGreat
