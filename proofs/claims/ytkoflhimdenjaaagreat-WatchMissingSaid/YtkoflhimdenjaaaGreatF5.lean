/- Plain texts, joined. No program is in sight here. -/
import Derived.Test.YtkoflhimdenjaaaGreatF2
set_option autoImplicit false
set_option linter.unusedVariables false
set_option linter.unusedSimpArgs false
namespace Go.Proofs.YtkoflhimdenjaaaGreat
section
open Go
end
section
open Go
theorem aAx (b x : Bool) : cond b (some x) (some false) = some (b && x) := by cases b <;> rfl
def Tf (f : Aa) : Bool := decide (f.Use = ⟨0, 0⟩) && decide (f.Text = ⟨#[]⟩)
def S3 (f : Aa) : Bool :=
 bif decide (f.Kind = 1) || decide (f.Kind = 8) then decide (0 < N5 f.Use) && (decide (f.Number = 0) && decide (f.Text = ⟨#[]⟩))
 else bif decide (f.Kind = 2) then Tf f && (decide (0 <= f.Number) && decide (f.Number <= 65535))
 else bif decide (f.Kind = 3) then decide (0 < N5 f.Use) && (decide (P9 f.Use.Alg = 2) && (decide (0 <= f.Number) && (decide (f.Number <= 2147483648) && decide (f.Text = ⟨#[]⟩))))
 else bif decide (f.Kind = 4) || decide (f.Kind = 5) then Tf f && (decide (1 <= f.Number) && decide (f.Number <= 4))
 else bif decide (f.Kind = 6) then Tf f && (decide (0 <= f.Number) && decide (f.Number <= 2147483648))
 else bif decide (f.Kind = 7) then decide (f.Use = ⟨0, 0⟩) && (decide (f.Number = 0) && F0 f.Text) else false
def R7 (f : Aa) : Int :=
 bif (F0 f.Host && (F0 f.Subject && (decide (0 <= f.Machine) && decide (f.Machine <= 1099511627776)))) && ((decide (0 <= f.Day) && (decide (f.Day <= 40000) && (decide (1 <= f.Confidence) && decide (f.Confidence <= 100)))) && (decide (1 <= f.Source) && (decide (f.Source <= 7) && S3 f))) then 0 else 24
theorem bN {f : Aa} (h : Tk f) : Br f = some (S3 f) := by
 unfold Br Br.j1 Br.j2 Br.j3
 simp only [Vb, T5, Me _ h.text, Option.bind_some, aAx]
 unfold S3 Tf
 generalize decide (f.Use = ⟨0, 0⟩) = b0
 generalize decide (f.Kind = 1) = k1
 generalize decide (f.Kind = 8) = k8
 generalize decide (f.Kind = 2) = k2
 generalize decide (f.Kind = 3) = k3
 generalize decide (f.Kind = 4) = k4
 generalize decide (f.Kind = 5) = k5
 generalize decide (f.Kind = 6) = k6
 generalize decide (f.Kind = 7) = k7
 cases b0 <;> cases k1 <;> first | rfl | (cases k8 <;> first | rfl | (cases k2 <;> first | rfl | (cases k3 <;> first | rfl | (cases k4 <;> first | rfl | (cases k5 <;> first | rfl | (cases k6 <;> first | rfl | (cases k7 <;> rfl)))))))
theorem aD2 (a b : Int) : decide (a < b) = !decide (b <= a) := by
 by_cases h : a < b
 ·rw [decide_eq_true h, decide_eq_false (by omega)]; rfl
 ·rw [decide_eq_false h, decide_eq_true (by omega)]; rfl
theorem Xx {f : Aa} (h : Tk f) : Bl f = some (R7 f) := by
 unfold Bl Bl.j1 Bl.j2 Bl.j3
 simp only [Me _ h.host, Me _ h.subj, bN h, Option.bind_some, aD2]
 unfold R7
 generalize F0 f.Host = a1
 generalize F0 f.Subject = a2
 generalize decide (0 <= f.Machine) = a3
 generalize decide (f.Machine <= 1099511627776) = a4
 generalize decide (0 <= f.Day) = a5
 generalize decide (f.Day <= 40000) = a6
 generalize decide (1 <= f.Confidence) = a7
 generalize decide (f.Confidence <= 100) = a8
 generalize decide (1 <= f.Source) = a9
 generalize decide (f.Source <= 7) = a10
 generalize S3 f = a11
 cases a1 <;> cases a2 <;> cases a3 <;> cases a4 <;> first | (cases a5 <;> cases a6 <;> cases a7 <;> cases a8 <;> rfl) | (cases a5 <;> cases a6 <;> cases a7 <;> cases a8 <;> first | rfl | (cases a9 <;> cases a10 <;> cases a11 <;> rfl))
def Vu (f : Aa) : Bool := !decide (R7 f = 0)
def dT (l : List Aa) : List Aa × Int := bif l.any Vu then ([], 24) else (Q5 vD l, 0)
theorem dN {f : Aa} (h : Vu f = true) : R7 f = 24 := by
 unfold Vu at h
 unfold R7 at h ⊢
 revert h
 cases (F0 f.Host && (F0 f.Subject && (decide (0 <= f.Machine) && decide (f.Machine <= 1099511627776)))) && ((decide (0 <= f.Day) && (decide (f.Day <= 40000) && (decide (1 <= f.Confidence) && decide (f.Confidence <= 100)))) && (decide (1 <= f.Source) && (decide (f.Source <= 7) && S3 f))) with
 | true => intro h; cases h
 | false => intro _; rfl
theorem aCa (l : List Aa) (h4 : l.length <= 400) (hf : ∀ f ∈ l, Tk f) : Dh l = some (dT l) := by
 have hcap := rP
 obtain ⟨r, hr1, hr2, hr3⟩ := Ts mU.swo yT l (by unfold Ix; omega) (fun _ _ => trivial)
 have hrl : r.length = l.length := hr2.length_eq
 obtain ⟨c, hc1, rfl⟩ := R1 r (by omega)
 rw [qL mU hr2 hr3] at hc1
 have hsl := Zg vD l
 unfold Dh dT
 refine dE l Vu (([] : List Aa), (24 : Int)) (Q5 vD l, (0 : Int)) (by unfold Lo; omega) (fun i x hx => ?_) ?_
 ·show Dh.l1 l (i : Int) = _
  unfold Dh.l1
  rw [H7 hx, Xx (hf x (Ho hx)), Option.bind_some]
  cases hb : Vu x with
  | true =>
   have e1 : (!decide (R7 x = 0)) = true := hb
   rw [e1, dN hb]; rfl
  | false =>
   have e1 : (!decide (R7 x = 0)) = false := hb
   rw [e1]; rfl
 ·show Dh.l1 l (l.length : Int) = _
  unfold Dh.l1
  rw [E9, jQ l (by omega), Option.bind_some, hr1, Option.bind_some, hc1, Option.bind_some, decide_eq_false (by omega)]
  rfl
end
section
open Go
def Tn (l : List Aa) : Prop := ∀ f ∈ l, Tk f /\ R7 f = 0
theorem Tn.fit {l : List Aa} (h : Tn l) : ∀ f ∈ l, Tk f := fun f hf => (h f hf).1
theorem Tn.norm {l : List Aa} (h : Tn l) : dT l = (Q5 vD l, 0) := by
 have : l.any Vu = false := by
  rw [<- Bool.not_eq_true, List.any_eq_true]
  rintro ⟨f, hf, hb⟩
  unfold Vu at hb
  rw [(h f hf).2] at hb
  cases hb
 unfold dT
 rw [this]; rfl
theorem Tn.app {a b : List Aa} (ha : Tn a) (hb : Tn b) : Tn (a ++ b) := fun f hf => by
 rcases List.mem_append.1 hf with h | h
 ·exact ha f h
 ·exact hb f h
end
end Go.Proofs.YtkoflhimdenjaaaGreat
