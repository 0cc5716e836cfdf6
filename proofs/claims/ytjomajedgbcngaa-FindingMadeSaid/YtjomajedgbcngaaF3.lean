import Derived.Test.YtjomajedgbcngaaF2
set_option autoImplicit false
set_option linter.unusedVariables false
set_option linter.unusedSimpArgs false
namespace Go.Proofs.Ytjomajedgbcngaa
open Go
theorem W5 {s : ByteArray} (h : Ic s = true /\ s.size <= 1000) : Br s = some true := by rw [Ja _ (by omega), h.1]
def mH : Bk := ⟨5, 2048⟩
theorem W6 : B5 mH 7 [] = some true := by
 unfold B5
 rw [O5, Option.bind_some, show decide (0 < Py mH) = true by decide +kernel, Bool.not_true, cond_false, Tv, Option.bind_some, show Pp mH.Alg = 2 by decide +kernel, decide_eq_true rfl, Bool.not_true, cond_false]
 have hk : E9 7 = some true := rfl
 rw [hk, Option.bind_some, Bool.not_true, cond_false]
 unfold B5.j1
 rw [show decide ((8 : Int) < ((([] : List Bc).length : Nat) : Int)) = false from rfl, cond_false]
 exact C5 (x := some true) rfl
def Om : Ce := ⟨⟨#[120]⟩, mH, 7, false, []⟩
def Pl : Ce := ⟨⟨#[121]⟩, mH, 7, false, []⟩
theorem bX : B0 [Om, Pl] = some 0 := by
 have n1 : Br Om.Alias = some true := W5 (by decide +kernel)
 have n2 : Br Pl.Alias = some true := W5 (by decide +kernel)
 have s1 : B5 Om.Key Om.KeyId Om.Chain = some true := W6
 have s2 : B5 Pl.Key Pl.KeyId Pl.Chain = some true := W6
 have o : Iz (Hk Om.Alias) (Hk Pl.Alias) = true := by decide +kernel
 unfold B0
 have e0 : B0.l1 [Om, Pl] 0 = some (.next 1) := by
  show ((Br Om.Alias).bind _) = _
  rw [n1, Option.bind_some, Bool.not_true, cond_false]
  show cond (decide ((0 : Int) < 0)) _ _ = _
  rw [show decide ((0 : Int) < 0) = false from rfl, cond_false, s1]
  rfl
 have e1 : B0.l1 [Om, Pl] ((1 : Nat) : Int) = some (.next 2) := by
  unfold B0.l1
  rw [K5 (show [Om, Pl][1]? = some Pl from rfl), n2, Option.bind_some, Bool.not_true, cond_false, decide_eq_true (by decide), cond_true, D0 (by decide), show ((1 : Nat) : Int) - 1 = ((0 : Nat) : Int) from rfl, Dj, show [Om, Pl][0]? = some Om from rfl, Option.bind_some, o, Bool.not_true, cond_false, s2]
  rfl
 rw [Dc (body := fun q' => B0.l1 [Om, Pl] q') e0, show (1 : Int) = ((1 : Nat) : Int) from rfl, Dc (body := fun q' => B0.l1 [Om, Pl] q') e1]
 exact C5 (x := some (0 : Int)) rfl
def Ww : Aa := ⟨2, ⟨#[97]⟩, 0, 3, 90, 3, ⟨#[115]⟩, mH, 7, ⟨#[]⟩⟩
theorem cQ : Be Ww = some 0 := S5 (by decide +kernel) (by decide +kernel) (by decide) (by decide) (by decide) (by decide) (Yp rfl (by decide +kernel) (by decide +kernel) (by decide) rfl)
theorem jJ : Be ⟨2, ⟨#[97]⟩, 0, 3, 90, 4, ⟨#[115]⟩, ⟨0, 0⟩, 1, ⟨#[]⟩⟩ = some 0 := S5 (by decide +kernel) (by decide +kernel) (by decide) (by decide) (by decide) (by decide) (P3 rfl rfl (.inr (.inl ⟨.inl rfl, by decide⟩)))
theorem gG : B4 [Ww, Ww] = some ([Ww], 0) := by
 rw [Yb [Ww, Ww] (by decide) (by decide) (fun f hf => by
  simp only [List.mem_cons, List.not_mem_nil, or_false] at hf
  rcases hf with rfl | rfl <;> exact cQ)]
 have : D2 Ir [Ww, Ww] = [Ww] := by
  rw [Jn Ix (m := [Ww]) (fun z => by simp), T6 Ix (by exact .cons (fun _ h => by cases h) .nil)]
 rw [this]
theorem Pa : Eh = some true := by
 unfold Eh
 have hs : B6 ⟨2, ⟨#[97]⟩, 0, 3, 90, 0, ⟨#[115]⟩, ⟨0, 0⟩, 0, ⟨#[]⟩⟩ [Om, Pl] = some ([Ww], 0) := by
  unfold B6 Ik
  show ((Option.bind (Be ⟨2, ⟨#[97]⟩, 0, 3, 90, 4, ⟨#[115]⟩, ⟨0, 0⟩, 1, ⟨#[]⟩⟩) _).bind _) = _
  rw [jJ, Option.bind_some, Option.bind_some]
  show cond (decide ((0 : Int) = 0)) ((B0 [Om, Pl]).bind _) _ = _
  rw [bX, Option.bind_some, decide_eq_true rfl, cond_true]
  unfold B6.j1
  rw [decide_eq_true rfl, Bool.not_true, cond_false]
  refine (Dc (s' := (1, 2, ⟨#[97]⟩, 0, 3, 90, 4, ⟨#[115]⟩, 0, 0, 1, ⟨#[]⟩, [Ww])) rfl).trans ?_
  refine (Dc (s' := (2, 2, ⟨#[97]⟩, 0, 3, 90, 4, ⟨#[115]⟩, 0, 0, 1, ⟨#[]⟩, [Ww, Ww])) rfl).trans ?_
  refine (C5 (x := (B4 [Ww, Ww]).bind fun y => some (y.1, y.2)) ?_).trans ?_
  ·rfl
  rw [gG]; rfl
 show (B6 ⟨2, ⟨#[97]⟩, 0, 3, 90, 0, ⟨#[115]⟩, ⟨0, 0⟩, 0, ⟨#[]⟩⟩ [Om, Pl]).bind _ = _
 rw [hs, Option.bind_some]
 show (Be Ww).bind _ = _
 rw [cQ]
 rfl
theorem X3 {t : List Int} (h : t.length <= 400) : Ok (Ib t) Tl := Ok.ret ⟨by unfold Lo; show t.length < _; omega, Int.le_refl _, by show (0 : Int) <= (t.length : Int); omega⟩
theorem Qs (t : List Int) : Bq t = some true := by
 unfold Bq Gr
 rw [Option.bind_some]
 by_cases hl : (t.length : Int) <= 400
 ·rw [decide_eq_true hl, Bool.not_true, cond_false]
  refine Ok.true_ ?_
  refine Ok.bind (X3 (by omega)) fun d hd => ?_
  refine Ok.bind (Gl hd) fun y4 h4 => ?_
  refine Ok.bind (Gl h4.2) fun y5 h5 => ?_
  refine Ok.bind (Gl h5.2) fun y6 h6 => ?_
  obtain ⟨a, d4⟩ := y4
  obtain ⟨b, d5⟩ := y5
  obtain ⟨c, d6⟩ := y6
  have ha : fF a := h4.1
  have hb : fF b := h5.1
  have hc : fF c := h6.1
  have sg := dR b a
  have an := Mg.anti b a
  have tr := Mg.tr a b c
  rw [Jl, Option.bind_some, Jl, Option.bind_some, Jl, Option.bind_some, Jl, Option.bind_some]
  show Ok (cond (!decide (Ph a b = W (-Ph b a))) _ _) _
  rw [D0 (by omega), decide_eq_true an, Bool.not_true, cond_false]
  have eqv : decide (decide (Ph a b = 0) = decide (a = b)) = true := by
   by_cases e : a = b
   ·subst e
    rw [Mg.self]; simp
   ·have : ¬ Ph a b = 0 := fun h => e (U8 a b h)
    rw [decide_eq_false this, decide_eq_false e]; rfl
  have main : Ok (Bq.j1 (a, d4) (b, d5) (c, d6) false) (fun r => r = true) := by
   unfold Bq.j1
   rw [cond_false]
   show Ok ((B4 [a, b, c, a]).bind _) _
   rw [Yb [a, b, c, a] (show 4 <= Fh by decide) (show 4 <= 400 by decide) (fun f hf => by
    simp only [List.mem_cons, List.not_mem_nil, or_false] at hf
    rcases hf with rfl | rfl | rfl | rfl
    ·exact ha.1
    ·exact hb.1
    ·exact hc.1
    ·exact ha.1), Option.bind_some]
   have e3 : D2 Ir [a, b, c, a] = D2 Ir [a, b, c] := Jn Ix fun z => by
    simp only [List.mem_cons, List.not_mem_nil, or_false]
    constructor
    ·rintro (h | h | h | h)
     ·exact .inl h
     ·exact .inr (.inl h)
     ·exact .inr (.inr h)
     ·exact .inl h
    ·rintro (h | h | h)
     ·exact .inl h
     ·exact .inr (.inl h)
     ·exact .inr (.inr (.inl h))
   rw [e3]
   have hlen : (D2 Ir [a, b, c]).length <= 3 := Ht Ir [a, b, c]
   have hpos : 0 < (D2 Ir [a, b, c]).length := List.length_pos_iff.2 fun e => by
    have : a ∈ D2 Ir [a, b, c] := (Kh Ix).2 (by simp)
    rw [e] at this; cases this
   have hasc := O4 Ix [a, b, c]
   generalize D2 Ir [a, b, c] = R at hlen hpos hasc
   refine Ok.loop (fun s : Int => ∃ i : Nat, s = (i : Int) /\ 1 <= i /\ i <= R.length) (fun s => R.length - s.toNat) ?_ ⟨1, rfl, Nat.le_refl _, hpos⟩
   rintro _ ⟨i, rfl, hi1, hi⟩
   show Ok (Bq.l2 (R, 0) (i : Int)) _
   unfold Bq.l2
   show Ok (cond (decide ((i : Int) < (R.length : Int))) _ _) _
   refine Ok.cond (fun hb => ?_) (fun hb => ?_)
   ·have hil : i < R.length := by have := of_decide_eq_true hb; omega
    obtain ⟨y, hy⟩ : ∃ y, R[i]? = some y := ⟨_, List.getElem?_eq_getElem hil⟩
    obtain ⟨x, hx⟩ : ∃ x, R[i - 1]? = some x := ⟨_, List.getElem?_eq_getElem (by omega)⟩
    have hlt : Ir x y = true := by
     have h1 := List.pairwise_iff_getElem.1 hasc (i - 1) i (by omega) hil (by omega)
     rw [List.getElem?_eq_getElem (by omega)] at hx hy
     injection hx with hx
     injection hy with hy
     rw [hx, hy] at h1
     exact h1
    show Ok ((Cc R (W ((i : Int) - 1))).bind fun e => (Cc R (i : Int)).bind _) _
    rw [D0 (by omega), show (i : Int) - 1 = ((i - 1 : Nat) : Int) by omega, Dj, Dj, hx, Option.bind_some, hy, Option.bind_some, Jl, Option.bind_some]
    have := of_decide_eq_true hlt
    rw [decide_eq_false (by omega), cond_false, D0 (by omega)]
    exact Ok.ret ⟨⟨i + 1, by omega, by omega, hil⟩, by show R.length - ((i : Int) + 1).toNat < R.length - ((i : Int)).toNat; omega⟩
   ·refine Ok.up ?_
    show Ok (cond (decide ((0 : Int) = 0)) (cond (decide ((1 : Int) <= (R.length : Int))) (cond (decide ((R.length : Int) <= 3)) _ _) _) _) _
    rw [decide_eq_true rfl, cond_true, decide_eq_true (by omega), cond_true, decide_eq_true (by omega), cond_true, Pa, Option.bind_some]
    exact Ok.ret rfl
  rw [eqv, Bool.not_true]
  refine Ok.cond (fun h1 => ?_) (fun _ => main)
  refine Ok.cond (fun h2 => ?_) (fun _ => main)
  have := tr (of_decide_eq_true h1) (of_decide_eq_true h2)
  rw [decide_eq_false (show ¬ 0 < Ph a c by omega), cond_false]
  exact main
 ·rw [decide_eq_false hl, Bool.not_false, cond_true, Pa]
  rfl
end Go.Proofs.Ytjomajedgbcngaa
