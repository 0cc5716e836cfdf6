import Derived.Test.YtidpkjdkfkkgiaaGreatF1
import Derived.Test.YtidpkjdkfkkgiaaGreatK4
import Derived.Test.YtidpkjdkfkkgiaaGreatM1
set_option autoImplicit false
set_option linter.unusedVariables false
set_option linter.unusedSimpArgs false
namespace Go.Proofs.YtidpkjdkfkkgiaaGreat
open Go
theorem Y9 {f : Aa} (h1 : Et f.Host = true /\ f.Host.size <= 1000) (h2 : Et f.Subject = true /\ f.Subject.size <= 1000) (h3 : 0 <= f.Machine /\ f.Machine <= 1000) (h4 : 0 <= f.Day /\ f.Day <= 40000) (h5 : 1 <= f.Confidence /\ f.Confidence <= 100) (h6 : 1 <= f.Source /\ f.Source <= 7) (h7 : A3 f = some true) : Bd f = some 0 := by
 unfold Bd
 rw [I5 _ (by omega), Option.bind_some, h1.1, cond_true, I5 _ (by omega), Option.bind_some, h2.1, cond_true, decide_eq_true h3.1, cond_true, decide_eq_true (by omega)]
 unfold Bd.j1
 rw [decide_eq_true h4.1, cond_true, decide_eq_true h4.2, cond_true, decide_eq_true h5.1, cond_true, decide_eq_true h5.2]
 unfold Bd.j2
 rw [Bool.not_true, cond_false, cond_false, decide_eq_false (by omega), cond_false, decide_eq_false (by omega), cond_false, h7]
 rfl
def noU : As := ⟨0, 0⟩
def noT : ByteArray := ⟨#[]⟩
theorem sQ {f : Aa} (hk : f.Kind = 1 \/ f.Kind = 8) (hu : decide (0 < K0 f.Use) = true) (hn : f.Number = 0) (ht : f.Text = noT) : A3 f = some true := by
 have J2 : ∀ b, A3.j2 f b true = some true := fun b => by
  unfold A3.j2
  rw [cond_true, Mt, Option.bind_some, hu, cond_true, decide_eq_true hn, cond_true, ht]
  rfl
 have J1 : ∀ b, A3.j1 f b = some true := fun b => by
  unfold A3.j1
  rcases hk with hk | hk
  ·rw [decide_eq_true hk, cond_true]; exact J2 b
  ·rw [decide_eq_false (by omega), cond_false, decide_eq_true hk]; exact J2 b
 unfold A3
 rw [J1, J1]
 cases decide (f.Use = ⟨0, 0⟩) <;> rfl
theorem Ud {f : Aa} (hu : f.Use = noU) (ht : f.Text = noT) (hk : (f.Kind = 2 /\ 0 <= f.Number /\ f.Number <= 65535) \/ ((f.Kind = 4 \/ f.Kind = 5) /\ 1 <= f.Number /\ f.Number <= 4) \/ (f.Kind = 6 /\ 0 <= f.Number /\ f.Number <= 1000)) : A3 f = some true := by
 unfold A3
 rw [show decide (f.Use = ⟨0, 0⟩) = true from decide_eq_true hu, cond_true, show decide (f.Text = (⟨#[]⟩ : ByteArray)) = true from decide_eq_true ht]
 unfold A3.j1
 rw [decide_eq_false (by omega), cond_false, decide_eq_false (by omega)]
 unfold A3.j2
 rw [cond_false]
 rcases hk with ⟨hk, h1, h2⟩ | ⟨hk, h1, h2⟩ | ⟨hk, h1, h2⟩
 ·rw [decide_eq_true hk, cond_true, cond_true, decide_eq_true h1, cond_true, decide_eq_true h2]
 ·rw [decide_eq_false (by omega), cond_false, decide_eq_false (by omega), cond_false]
  have J : A3.j3 f true true = some true := by
   unfold A3.j3
   rw [cond_true, cond_true, decide_eq_true h1, cond_true, decide_eq_true h2]
  rcases hk with hk | hk
  ·rw [decide_eq_true hk, cond_true]; exact J
  ·rw [decide_eq_false (by omega), cond_false, decide_eq_true hk]; exact J
 ·rw [decide_eq_false (by omega), cond_false, decide_eq_false (by omega), cond_false, decide_eq_false (by omega), cond_false, decide_eq_false (by omega)]
  unfold A3.j3
  rw [cond_false, decide_eq_true hk, cond_true, cond_true, decide_eq_true h1, cond_true, decide_eq_true (by omega)]
theorem jE {f : Aa} (hk : f.Kind = 3) (hu : decide (0 < K0 f.Use) = true) (hs : M1 f.Use.Alg = 2) (hn : 0 <= f.Number /\ f.Number <= 1000) (ht : f.Text = noT) : A3 f = some true := by
 have J1 : ∀ b, A3.j1 f b = some true := fun b => by
  unfold A3.j1
  rw [decide_eq_false (by omega), cond_false, decide_eq_false (by omega)]
  unfold A3.j2
  rw [cond_false, decide_eq_false (by omega), cond_false, decide_eq_true hk, cond_true, Mt, Option.bind_some, hu, cond_true, Po, Option.bind_some, hs, decide_eq_true rfl, cond_true, decide_eq_true hn.1, cond_true, decide_eq_true (by omega), cond_true, ht]
  rfl
 unfold A3
 rw [J1, J1]
 cases decide (f.Use = ⟨0, 0⟩) <;> rfl
theorem nN {f : Aa} (hk : f.Kind = 7) (hu : f.Use = noU) (hn : f.Number = 0) (ht : Et f.Text = true /\ f.Text.size <= 1000) : A3 f = some true := by
 have hu' : decide (f.Use = ⟨0, 0⟩) = true := decide_eq_true hu
 have J1 : ∀ b, A3.j1 f b = some true := fun b => by
  unfold A3.j1
  rw [decide_eq_false (by omega), cond_false, decide_eq_false (by omega)]
  unfold A3.j2
  rw [cond_false, decide_eq_false (by omega), cond_false, decide_eq_false (by omega), cond_false, decide_eq_false (by omega), cond_false, decide_eq_false (by omega)]
  unfold A3.j3
  rw [cond_false, decide_eq_false (by omega), cond_false, decide_eq_true hk, cond_true, hu', cond_true, decide_eq_true hn, cond_true, I5 _ (by omega), Option.bind_some, ht.1]
 unfold A3
 rw [J1, J1]
 cases decide (f.Use = ⟨0, 0⟩) <;> rfl
structure Oz (f : Aa) : Prop where
 host : f.Host.size <= 9223372036854775807
 subj : f.Subject.size <= 9223372036854775807
 text : f.Text.size <= 9223372036854775807
def FOK (f : Aa) : Prop := Bd f = some 0 /\ Oz f
theorem Wt {d : Ad} (h : Mu d) : Ok (Br d) (fun y => FOK y.1 /\ Mu y.2) := by
 unfold Br
 refine Ok.bind (Gp h 7 (by omega) (by omega)) fun y1 h1 => ?_
 refine Ok.bind (aZ h1.2 _ (by decide) (by decide)) fun y2 h2 => ?_
 refine Ok.bind (L3 h2.2 _ (by decide) (by decide)) fun y3 h3 => ?_
 refine Ok.bind (Gp h3.2 12 (by omega) (by omega)) fun y4 h4 => ?_
 refine Ok.bind (L3 h4.2 _ (by decide) (by decide)) fun y5 h5 => ?_
 refine Ok.bind (Gp h5.2 8 (by omega) (by omega)) fun y6 h6 => ?_
 refine Ok.bind (aZ h6.2 _ (by decide) (by decide)) fun y7 h7 => ?_
 have b1 := h1.1
 have b4 := h4.1
 have b6 := h6.1
 have n2 : Et y2.1 = true /\ y2.1.size <= 1000 := by
  have := h2.1
  simp only [List.mem_cons, List.not_mem_nil, or_false] at this
  rcases this with e | e | e <;> rw [e] <;> decide +kernel
 have n7 : Et y7.1 = true /\ y7.1.size <= 1000 := by
  have := h7.1
  simp only [List.mem_cons, List.not_mem_nil, or_false] at this
  rcases this with e | e <;> rw [e] <;> decide +kernel
 have n3 : 0 <= y3.1 /\ y3.1 <= 1000 := by
  have := h3.1
  simp only [List.mem_cons, List.not_mem_nil, or_false] at this
  omega
 have n5 : 1 <= y5.1 /\ y5.1 <= 100 := by
  have := h5.1
  simp only [List.mem_cons, List.not_mem_nil, or_false] at this
  omega
 have w1 : W (1 + y1.1) = 1 + y1.1 := Ee (by omega)
 have w6 : W (1 + y6.1) = 1 + y6.1 := Ee (by omega)
 have fin : ∀ (u : As) (n : Int) (t : ByteArray) (d' : Ad), Mu d' -> t.size <= 1000 -> A3 ⟨1 + y1.1, y2.1, y3.1, y4.1, y5.1, 1 + y6.1, y7.1, u, n, t⟩ = some true -> Ok (Br.j3 d' ⟨1 + y1.1, y2.1, y3.1, y4.1, y5.1, 1 + y6.1, y7.1, u, n, t⟩) (fun y => FOK y.1 /\ Mu y.2)   := fun u n t d' hd ht hc => by
  unfold Br.j3
  exact Ok.ret ⟨⟨Y9 n2 n7 n3 ⟨b4.1, by show y4.1 <= 40000; omega⟩ n5 ⟨by show 1 <= 1 + y1.1; omega, by show 1 + y1.1 <= 7; omega⟩ hc, ⟨by show y2.1.size <= _; omega, by show y7.1.size <= _; omega, by show t.size <= _; omega⟩⟩, hd⟩
 have J1 : ∀ b, (b = true -> 1 + y6.1 = 1 \/ 1 + y6.1 = 8) -> (b = false -> 1 + y6.1 ≠ 1 /\ 1 + y6.1 ≠ 8) -> Ok (Br.j1 y1 y2 y3 y4 y5 y6 y7 b) (fun y => FOK y.1 /\ Mu y.2) := by
  intro b hb1 hb2
  unfold Br.j1
  rw [w1, w6]
  refine Ok.cond (fun hb => ?_) (fun hb => ?_)
  ·have hk := hb1 hb
   refine Ok.bind (Gp h7.2 4 (by omega) (by omega)) fun y8 h8 => ?_
   refine Ok.bind (Kr h8.1.1 (by show y8.1 < (4 : Int); exact h8.1.2)) fun u hu => ?_
   have hu2 : decide (0 < K0 u) = true := by
    simp only [List.mem_cons, List.not_mem_nil, or_false] at hu
    rcases hu with rfl | rfl | rfl | rfl <;> decide +kernel
   exact fin _ _ _ _ h8.2 (by decide) (sQ hk hu2 rfl rfl)
  ·have hk := hb2 hb
   refine Ok.cond (fun h => ?_) (fun h => ?_)
   ·have h := of_decide_eq_true h
    refine Ok.bind (Gp h7.2 5 (by omega) (by omega)) fun y9 h9 => ?_
    have b9 := h9.1
    rw [Ee (x := 1 + y9.1) (by omega)]
    exact fin _ _ _ _ h9.2 (by decide) (Ud rfl rfl (.inl ⟨h, by show 0 <= 1 + y9.1; omega, by show 1 + y9.1 <= 65535; omega⟩))
   ·have q2 := of_decide_eq_false h
    refine Ok.cond (fun h => ?_) (fun h => ?_)
    ·have h := of_decide_eq_true h
     refine Ok.bind (L3 h7.2 _ (by decide) (by decide)) fun y10 h10 => ?_
     refine Ok.bind (Gp h10.2 3 (by omega) (by omega)) fun y11 h11 => ?_
     have b11 := h11.1
     rw [Ee (x := 100 + y11.1) (by omega)]
     have hu := h10.1
     simp only [List.mem_cons, List.not_mem_nil, or_false] at hu
     refine fin _ _ _ _ h11.2 (by decide) (jE h ?_ (show M1 5 = 2 by decide +kernel) ⟨by show 0 <= 100 + y11.1; omega, by show 100 + y11.1 <= 1000; omega⟩ rfl)
     show decide (0 < K0 ⟨5, y10.1⟩) = true
     rcases hu with e | e <;> rw [e] <;> decide +kernel
    ·have q3 := of_decide_eq_false h
     have J2 : ∀ b, (b = true -> 1 + y6.1 = 4 \/ 1 + y6.1 = 5) -> (b = false -> 1 + y6.1 ≠ 4 /\ 1 + y6.1 ≠ 5) -> Ok (Br.j2 y1 y2 y3 y4 y5 y6 y7 b) (fun y => FOK y.1 /\ Mu y.2) := by
      intro b hc1 hc2
      unfold Br.j2
      rw [w1, w6]
      refine Ok.cond (fun hb => ?_) (fun hb => ?_)
      ·have hk := hc1 hb
       refine Ok.bind (Gp h7.2 4 (by omega) (by omega)) fun y12 h12 => ?_
       have b12 := h12.1
       rw [Ee (x := 1 + y12.1) (by omega)]
       exact fin _ _ _ _ h12.2 (by decide) (Ud rfl rfl (.inr (.inl ⟨hk, by show 1 <= 1 + y12.1; omega, by show 1 + y12.1 <= 4; omega⟩)))
      ·have q4 := hc2 hb
       refine Ok.cond (fun h => ?_) (fun h => ?_)
       ·have h := of_decide_eq_true h
        refine Ok.bind (Gp h7.2 3 (by omega) (by omega)) fun y13 h13 => ?_
        have b13 := h13.1
        exact fin _ _ _ _ h13.2 (by decide) (Ud rfl rfl (.inr (.inr ⟨h, b13.1, by show y13.1 <= 1000; omega⟩)))
       ·have q5 := of_decide_eq_false h
        refine Ok.cond (fun h => ?_) (fun h => ?_)
        ·have h := of_decide_eq_true h
         refine Ok.bind (aZ h7.2 _ (by decide) (by decide)) fun y14 h14 => ?_
         have n14 : Et y14.1 = true /\ y14.1.size <= 1000 := by
          have := h14.1
          simp only [List.mem_cons, List.not_mem_nil, or_false] at this
          rcases this with e | e <;> rw [e] <;> decide +kernel
         exact fin _ _ _ _ h14.2 n14.2 (nN h rfl rfl n14)
        ·have q6 := of_decide_eq_false h
         omega
     refine Ok.cond (fun h => J2 _ (fun _ => .inl (of_decide_eq_true h)) (fun h2 => absurd (of_decide_eq_true h) (of_decide_eq_false h2))) (fun h => J2 _ (fun h2 => .inr (of_decide_eq_true h2)) (fun h2 => ⟨of_decide_eq_false h, of_decide_eq_false h2⟩))
 rw [w6]
 refine Ok.cond (fun h => J1 _ (fun _ => .inl (of_decide_eq_true h)) (fun h2 => absurd (of_decide_eq_true h) (of_decide_eq_false h2))) (fun h => J1 _ (fun h2 => .inr (of_decide_eq_true h2)) (fun h2 => ⟨of_decide_eq_false h, of_decide_eq_false h2⟩))
end Go.Proofs.YtidpkjdkfkkgiaaGreat
