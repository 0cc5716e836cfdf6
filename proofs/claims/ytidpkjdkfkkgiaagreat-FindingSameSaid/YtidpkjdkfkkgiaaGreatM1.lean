import Derived.Test.YtidpkjdkfkkgiaaGreatL3
import Derived.Test.YtidpkjdkfkkgiaaGreatK6
set_option linter.unusedVariables false
set_option linter.unusedSimpArgs false
namespace Go.Proofs.YtidpkjdkfkkgiaaGreat
open Go
structure Mu (d : Ad) : Prop where
 lo : Lo d.L
 at0 : 0 <= d.At
 at1 : d.At <= d.L.length
theorem yT (e n : Int) (hn : 1 <= n) (hn2 : n <= 4611686018427387904) : Ok (M5 e n) (fun y => 0 <= y /\ y < n) := by
 unfold M5
 rw [decide_eq_false (by omega), cond_false]
 have h1 := Int.tmod_lt_of_pos e (show 0 < n by omega)
 have h2 : -n < e.tmod n := Int.lt_tmod_of_pos e (by omega)
 have h3 := Int.tmod_lt_of_pos (e.tmod n + n) (show 0 < n by omega)
 have h4 := Int.tmod_nonneg n (show 0 <= e.tmod n + n by omega)
 unfold Vl
 rw [if_neg (by omega), Option.bind_some, Ee (by omega), if_neg (by omega)]
 exact ⟨_, rfl, h4, h3⟩
theorem Gp {d : Ad} (h : Mu d) (n : Int) (hn : 1 <= n) (hn2 : n <= 4611686018427387904) : Ok (Bz d n) (fun y => (0 <= y.1 /\ y.1 < n) /\ Mu y.2) := by
 have hl := h.lo
 unfold Lo at hl
 have h0 := h.at0
 have h1 := h.at1
 unfold Bz
 refine Ok.cond (fun hb => ?_) fun hb => ?_
 ·exact Ok.ret ⟨⟨Int.le_refl _, by show (0 : Int) < n; omega⟩, h⟩
 ·have hb := of_decide_eq_false hb
  rw [Ee (x := d.At + 1) (by omega), Ee (by omega)]
  refine Ok.bind (T0 (by omega) (by omega)) fun e he => ?_
  refine Ok.bind (yT e n hn hn2) fun y hy => ?_
  exact Ok.ret ⟨hy, ⟨h.lo, by show 0 <= d.At + 1; omega, by show d.At + 1 <= (d.L.length : Int); omega⟩⟩
theorem L3 {d : Ad} (h : Mu d) (l : List Int) (hl : 1 <= l.length) (hl2 : l.length <= 1000) : Ok (Cb d l) (fun y => y.1 ∈ l /\ Mu y.2) := by
 unfold Cb
 refine Ok.bind (Gp h _ (by omega) (by omega)) fun y hy => ?_
 refine Ok.bind (Kr (by omega) (by omega)) fun e he => ?_
 exact Ok.ret ⟨he, hy.2⟩
theorem aZ {d : Ad} (h : Mu d) (l : List ByteArray) (hl : 1 <= l.length) (hl2 : l.length <= 1000) : Ok (Gh d l) (fun y => y.1 ∈ l /\ Mu y.2) := by
 unfold Gh
 refine Ok.bind (Gp h _ (by omega) (by omega)) fun y hy => ?_
 refine Ok.bind (Kr (by omega) (by omega)) fun e he => ?_
 exact Ok.ret ⟨he, hy.2⟩
theorem Y6 {d : Ad} (h : Mu d) (n : Int) (hn : 1 <= n) (hn2 : n <= 1000) : Ok (Ff d n) (fun y => Mu y.2) := by
 unfold Ff
 refine Ok.bind (Gp h _ (by omega) (by omega)) fun y hy => ?_
 exact Ok.ret hy.2
def Sm (n : Int) : Prop := 0 <= n /\ n <= 100000
theorem We {l : List Int} (h : l.all (fun n => decide (0 <= n) && decide (n <= 100000)) = true) {n : Int} (hn : n ∈ l) : Sm n := by
 have := List.all_eq_true.1 h n hn
 simpa [Sm] using this
theorem tK {d : Ad} (h : Mu d) (a : Int) : Ok (B7 d a) (fun y => Sm y.1 /\ Mu y.2) := by
 have O : ∀ l : List Int, 1 <= l.length -> l.length <= 1000 -> l.all (fun n => decide (0 <= n) && decide (n <= 100000)) = true -> Ok ((Cb d l).bind fun y => some (y.1, y.2)) (fun y => Sm y.1 /\ Mu y.2) := fun l h1 h2 h3 =>
  Ok.bind (L3 h l h1 h2) fun y hy => Ok.ret ⟨We h3 hy.1, hy.2⟩
 have j3 : ∀ b, Ok (B7.j3 d b) (fun y => Sm y.1 /\ Mu y.2) := fun b => by
  unfold B7.j3
  exact Ok.cond (fun _ => O _ (by decide) (by decide) (by decide)) fun _ => Ok.ret ⟨⟨Int.le_refl 0, by show (0 : Int) <= 100000; decide⟩, h⟩
 have j2 : ∀ b, Ok (B7.j2 d a b) (fun y => Sm y.1 /\ Mu y.2) := fun b => by
  unfold B7.j2
  exact Ok.cond (fun _ => O _ (by decide) (by decide) (by decide)) fun _ => Ok.cond (fun _ => O _ (by decide) (by decide) (by decide)) fun _ => Ok.cond (fun _ => O _ (by decide) (by decide) (by decide)) fun _ => Ok.cond (fun _ => O _ (by decide) (by decide) (by decide)) fun _ => Ok.cond (fun _ => O _ (by decide) (by decide) (by decide)) fun _ => Ok.cond (fun _ => j3 _) fun _ => j3 _
 have j1 : ∀ b, Ok (B7.j1 d a b) (fun y => Sm y.1 /\ Mu y.2) := fun b => by
  unfold B7.j1
  exact Ok.cond (fun _ => O _ (by decide) (by decide) (by decide)) fun _ => Ok.cond (fun _ => j2 _) fun _ => j2 _
 unfold B7
 exact Ok.cond (fun _ => j1 _) fun _ => Ok.cond (fun _ => j1 _) fun _ => Ok.cond (fun _ => j1 _) fun _ => j1 _
def SmU (u : As) : Prop := Sm u.Alg /\ Sm u.Bits
def Rg (n : Int) : Prop := -9223372036854775808 <= n /\ n <= 9223372036854775807
theorem Sm.i64 {n : Int} (h : Sm n) : Rg n := by unfold Sm at h; unfold Rg; omega
def vM : Af := Af.mk 0 ⟨#[]⟩ ⟨#[]⟩ (As.mk 0 0) 0 (As.mk 0 0) 0 0 false 0 [] (D4.mk 0 0)
def Ww (c : Af) : Af := Af.mk c.Serial c.Issuer c.Subject c.Key c.KeyId c.Hash c.From c.To c.Authority c.Path c.Names (D4.mk 0 0)
def Y8 (c : Af) (s : D4) : Af := Af.mk c.Serial c.Issuer c.Subject c.Key c.KeyId c.Hash c.From c.To c.Authority c.Path c.Names s
theorem nQ {c : Af} (h1 : c.Names.length < 1000000000) (h2 : ∀ s ∈ c.Names, s.size <= 9223372036854775807) (h3 : c.Issuer.size <= 9223372036854775807) (h4 : c.Subject.size <= 9223372036854775807)
  (a1 : Rg c.Serial) (a2 : Rg c.Key.Alg) (a3 : Rg c.Key.Bits) (a4 : Rg c.KeyId) (a5 : Rg c.Hash.Alg) (a6 : Rg c.Hash.Bits) (a7 : Rg c.From) (a8 : Rg c.To) (a9 : Rg c.Path) (b1 : Rg c.Seal.Key) (b2 : Rg c.Seal.Sum) : Qd c := by
 refine ⟨h1, h2, h3, h4, ?_⟩
 intro n hn
 simp only [List.mem_cons, List.not_mem_nil, or_false] at hn
 rcases hn with rfl | rfl | rfl | rfl | rfl | rfl | rfl | rfl | rfl | rfl | rfl <;> assumption
structure aCb (c : Af) : Prop where
 a1 : Rg c.Serial
 a2 : Rg c.Key.Alg
 a3 : Rg c.Key.Bits
 a4 : Rg c.KeyId
 a5 : Rg c.Hash.Alg
 a6 : Rg c.Hash.Bits
 a7 : Rg c.From
 a8 : Rg c.To
 a9 : Rg c.Path
 b1 : Rg c.Seal.Key
 b2 : Rg c.Seal.Sum
theorem Qd.is {c : Af} (h : Qd c) : aCb c := by
 have := h.ints
 constructor <;> exact this _ (by simp)
theorem dO : Rg 0 := ⟨by decide, by decide⟩
theorem Xx {c : Af} (h : Qd c) {s : D4} (h1 : Rg s.Key) (h2 : Rg s.Sum) : Qd (Y8 c s) := by
 have i := h.is
 exact nQ h.names h.name h.issuer h.subject i.a1 i.a2 i.a3 i.a4 i.a5 i.a6 i.a7 i.a8 i.a9 h1 h2
theorem jK (c : Af) (h : Qd c) : Jx c = some c := by
 unfold Jx
 have := h.names
 rw [Hm (by simp; omega)]
 rfl
def jN (c : Af) (key : Int) : Af × Int := bif Gx (Ww c) && (decide (0 <= key) && decide (key <= 2147483648)) then (Y8 c ⟨key, Zk (Nx (Ww c)).1⟩, 0) else (vM, 9)
theorem pU (b : List UInt8) : Rg (Zk b) := jZ _
theorem qO (c : Af) (h : Qd c) (key : Int) : E1 c key = some (jN c key) := by
 have hu : Qd (Ww c) := Xx h dO dO
 unfold E1
 rw [jK c h, Option.bind_some]
 have e : A7 (Af.mk c.Serial c.Issuer c.Subject c.Key c.KeyId c.Hash c.From c.To c.Authority c.Path c.Names (D4.mk 0 0)) = some (bif Gx (Ww c) then 0 else 9) := aN (Ww c) hu
 rw [e, Option.bind_some]
 have j : ∀ b, E1.j1 key c b = some (bif b then (vM, 9) else (Y8 c ⟨key, Zk (Nx (Ww c)).1⟩, 0)) := by
  intro b
  unfold E1.j1
  cases b with
  | true => rfl
  | false =>
   rw [cond_false]
   have e2 : I8 (Af.mk c.Serial c.Issuer c.Subject c.Key c.KeyId c.Hash c.From c.To c.Authority c.Path c.Names (D4.mk 0 0)) = some (Nx (Ww c)) := kZ (Ww c) hu
   rw [e2, Option.bind_some, uS _ (lA _)]
   rfl
 simp only [j]
 unfold jN
 cases Gx (Ww c) with
 | false => rfl
 | true =>
  by_cases a : key < 0
  ·rw [decide_eq_true a, decide_eq_false (show ¬ 0 <= key by omega)]; rfl
  ·rw [decide_eq_false a, decide_eq_true (show 0 <= key by omega)]
   by_cases b : key <= 2147483648
   ·rw [decide_eq_true b, decide_eq_false (show ¬ 2147483648 < key by omega)]; rfl
   ·rw [decide_eq_false b, decide_eq_true (show 2147483648 < key by omega)]; rfl
end Go.Proofs.YtidpkjdkfkkgiaaGreat
